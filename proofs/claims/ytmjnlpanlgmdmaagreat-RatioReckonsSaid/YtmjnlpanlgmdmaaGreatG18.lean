/-
  The texts Cut, merged.
-/
import Derived.Test.YtmjnlpanlgmdmaaGreatG11
import Derived.Lib.Bytealg
import Derived.Lib.CutLaws
import Derived.Lib.IndexMore
import Derived.Shelf.RegionOpenPlain
import Derived.BigCall
import Derived.BigGuard
import Derived.Deep.Draws
import Derived.Laws.Strings3
namespace Go.Proofs.YtmjnlpanlgmdmaaGreat
open Go.RowKit Tw
set_option linter.unusedVariables false
set_option linter.unusedSimpArgs false

set_option maxHeartbeats 1000000 in
set_option maxRecDepth 100000 in
theorem idx_byte (s : ByteArray) (w : World) :
    Calls Tryz.prog 105 #[.string s, .int .u8 124] w fun e w' => e = .returned (.int .i64 (Lib.indexByte s.data.toList 124)) ∧ w' = w := by
  go_enter Tryz.func105, Tryz.ntmps105
  go_wp2
  rw [run_callFunc_extern Tryz.func113 (by kernel_rfl) (by kernel_rfl) (by kernel_rfl) (e := Extern.BytealgIndexByte.indexByte) (by kernel_rfl), Lib.run_indexByteString]
  simp only [Result.andThen]
  rw [Oper.upon_value]
  go_wp2
  go_ret
  exact ⟨rfl, rfl⟩

set_option maxHeartbeats 1600000 in
set_option maxRecDepth 100000 in
theorem idx_stroke (s : ByteArray) (w : World) :
    Calls Tryz.prog 87 #[.string s, .string ⟨#[124]⟩] w fun e w' => e = .returned (.int .i64 (Lib.indexByte s.data.toList 124)) ∧ w' = w := by
  by_cases hs : s = ⟨#[124]⟩
  · subst hs
    go_enter Tryz.func87, Tryz.ntmps87
    go_wp2
    go_ret
    exact ⟨rfl, rfl⟩
  · have h1 : (([124] : List UInt8) == s.toList) = false := by
      rw [beq_eq_false_iff_ne]
      intro e
      apply hs
      rw [ByteArray.toList_eq] at e
      obtain ⟨⟨l⟩⟩ := s
      have : l = [124] := e.symm
      rw [this]
    go_enter Tryz.func87, Tryz.ntmps87
    go_wp2_with fail
    refine (idx_byte s _).mono ?_
    rintro e w' ⟨rfl, rfl⟩
    go_wp2
    go_ret
    exact ⟨rfl, rfl⟩

def hd1 (l : List Nat) : List Nat := l.takeWhile (fun x => x != 124)

def tl1 (l : List Nat) : List Nat := (l.dropWhile (fun x => x != 124)).tail

def has1 (l : List Nat) : Bool := l.any (fun x => x == 124)

theorem idx_eq (l : List UInt8) : Lib.indexByte l 124 = if has1 (l.map UInt8.toNat) then ((hd1 (l.map UInt8.toNat)).length : Int) else -1 := by
  induction l with
  | nil => rfl
  | cons u r ih =>
    unfold Lib.indexByte
    have hu : (u == 124) = (u.toNat == 124) := by
      rw [show (u == 124) = decide (u = 124) from rfl, show (u.toNat == 124) = decide (u.toNat = 124) from rfl, decide_eq_decide]
      exact ⟨fun h => by rw [h]; rfl, fun h => UInt8.toNat_inj.1 (by rw [h]; rfl)⟩
    unfold has1 hd1 at *
    rw [List.map_cons, List.any_cons, List.takeWhile_cons, hu]
    by_cases h : u.toNat = 124
    · simp [h]
    · have h' : (u.toNat == 124) = false := by rw [beq_eq_false_iff_ne]; exact h
      simp only [h', Bool.false_eq_true, if_false, Bool.false_or, bne, Bool.not_false, if_true]
      rw [ih]
      by_cases hh : ((r.map UInt8.toNat).any fun x => x == 124) = true
      · rw [if_pos hh, if_pos hh]
        have hne : ((((List.takeWhile (fun x => x != 124) (List.map UInt8.toNat r)).length : Int)) == -1) = false := by rw [beq_eq_false_iff_ne]; omega
        rw [hne]
        simp only [Bool.false_eq_true, if_false, List.length_cons, bne]
        push_cast
        rfl
      · rw [if_neg hh, if_neg hh]; rfl

theorem hd1_take (l : List Nat) : hd1 l = l.take (hd1 l).length := by
  unfold hd1
  induction l with
  | nil => rfl
  | cons x r ih =>
    rw [List.takeWhile_cons]
    by_cases h : (x != 124) = true
    · rw [if_pos h, List.length_cons, List.take_succ_cons, ← ih]
    · rw [if_neg h]; rfl

theorem tl1_drop (l : List Nat) : tl1 l = l.drop ((hd1 l).length + 1) := by
  unfold tl1 hd1
  induction l with
  | nil => rfl
  | cons x r ih =>
    rw [List.takeWhile_cons, List.dropWhile_cons]
    by_cases h : (x != 124) = true
    · rw [if_pos h, if_pos h, List.length_cons, List.drop_succ_cons, ← ih]
    · rw [if_neg h, if_neg h]; rfl

theorem hd1_no {l : List Nat} (h : has1 l = false) : hd1 l = l ∧ tl1 l = [] := by
  unfold has1 at h
  unfold hd1 tl1
  induction l with
  | nil => exact ⟨rfl, rfl⟩
  | cons x r ih =>
    rw [List.any_cons, Bool.or_eq_false_iff] at h
    have hx : (x != 124) = true := by simp [bne, h.1]
    obtain ⟨h1, h2⟩ := ih h.2
    rw [List.takeWhile_cons, List.dropWhile_cons, if_pos hx, if_pos hx, h1]
    exact ⟨rfl, h2⟩

theorem hd1_lt {l : List Nat} (h : has1 l = true) : (hd1 l).length < l.length := by
  unfold has1 at h
  unfold hd1
  induction l with
  | nil => simp at h
  | cons x r ih =>
    rw [List.takeWhile_cons]
    by_cases hx : (x != 124) = true
    · rw [if_pos hx]
      have : (x == 124) = false := by simpa [bne] using hx
      rw [List.any_cons, this, Bool.false_or] at h
      have := ih h
      simp only [List.length_cons]
      omega
    · rw [if_neg hx]; simp

theorem ba_take (s : ByteArray) (k : Nat) : (⟨(s.data.toList.take k).toArray⟩ : ByteArray) = ba ((bs s).take k) := by
  unfold bs ba
  rw [← List.map_take, List.map_map]
  congr 2
  conv => lhs; rw [← List.map_id (s.data.toList.take k)]
  apply List.map_congr_left
  intro u _
  simp

theorem ba_drop (s : ByteArray) (k : Nat) : (⟨(s.data.toList.drop k).toArray⟩ : ByteArray) = ba ((bs s).drop k) := by
  unfold bs ba
  rw [← List.map_drop, List.map_map]
  congr 2
  conv => lhs; rw [← List.map_id (s.data.toList.drop k)]
  apply List.map_congr_left
  intro u _
  simp

theorem ext_take (s : ByteArray) (k : Nat) : s.extract 0 k = ⟨(s.data.toList.take k).toArray⟩ := by
  apply ByteArray.ext
  apply Array.ext'
  simp

theorem ext_drop (s : ByteArray) (k : Nat) : s.extract k s.size = ⟨(s.data.toList.drop k).toArray⟩ := by
  apply ByteArray.ext
  apply Array.ext'
  rw [ByteArray.data_extract, Array.toList_extract]
  show List.take (s.data.toList.length - k) (List.drop k s.data.toList) = List.drop k s.data.toList
  exact List.take_of_length_le (by simp)

theorem ba_nil : ba [] = ByteArray.empty := rfl

set_option maxHeartbeats 1600000 in
set_option maxRecDepth 100000 in
theorem cut_lite (s : ByteArray) (w : World) (hm : s.size ≤ 1000) :
    Calls Tryz.prog 66 #[.string s, .string ⟨#[124]⟩] w fun e w' => e = .returned (.tuple #[.string (ba (hd1 (bs s))), .string (ba (tl1 (bs s))), .bool (has1 (bs s))]) ∧ Below w.heap.size w w' := by
  have he := idx_eq s.data.toList
  rw [show s.data.toList.map UInt8.toNat = bs s from rfl] at he
  cases hh : has1 (bs s) with
  | false =>
    obtain ⟨e1, e2⟩ := hd1_no hh
    rw [hh, if_neg (by decide)] at he
    have He := Lib.hid he
    rw [e1, e2, ba_bs, ba_nil]
    clear he e1 e2 hh
    go_enter Tryz.func66, Tryz.ntmps66
    go_wp2_with fail
    refine (idx_stroke s _).mono ?_
    rintro e w' ⟨rfl, rfl⟩
    rw [He.out]
    go_wp2
    go_ret3
    exact ⟨rfl, Below.refl _ _⟩
  | true =>
    have hlt := hd1_lt hh
    rw [bs_length] at hlt
    rw [hh, if_pos rfl] at he
    obtain ⟨i, hi⟩ : ∃ i, (hd1 (bs s)).length = i := ⟨_, rfl⟩
    rw [hi] at he hlt
    have He := Lib.hid he
    have e1 := hd1_take (bs s)
    have e2 := tl1_drop (bs s)
    rw [hi] at e1 e2
    rw [e1, e2, ← ba_take, ← ba_drop]
    clear he e1 e2 hh hi
    have c0 : (0 : Int) ≤ (i : Int) := by omega
    have c1 : (i : Int) ≤ (s.size : Int) := by omega
    have c2 : (0 : Int) ≤ (i : Int) + 1 := by omega
    have c3 : (i : Int) + 1 ≤ (s.size : Int) := by omega
    have wr : IntKind.i64.wrap ((i : Int) + 1) = (i : Int) + 1 := IntWalk.i64_in _ (by omega)
    go_enter Tryz.func66, Tryz.ntmps66
    go_wp2_with fail
    refine (idx_stroke s _).mono ?_
    rintro e w' ⟨rfl, rfl⟩
    rw [He.out]
    go_wp2_with fail
    go_quiet (fail)
    go_wp2
    rw [ext_take, ext_drop]
    go_ret3
    exact ⟨rfl, below_drewN (Below.refl _ _) _⟩

set_option maxHeartbeats 1600000 in
set_option maxRecDepth 100000 in
theorem cut_two (s : ByteArray) (w : World) (hm : s.size ≤ 1000) :
    Calls Tryz.prog 42 #[.string s, .string ⟨#[124]⟩] w fun e w' => e = .returned (.tuple #[.string (ba (hd1 (bs s))), .string (ba (tl1 (bs s))), .bool (has1 (bs s))]) ∧ Below w.heap.size w w' := by
  go_enter Tryz.func42, Tryz.ntmps42
  go_wp2_with fail
  refine (cut_lite s _ hm).mono ?_
  rintro e w' ⟨rfl, hb⟩
  go_wp2_with fail
  go_ret3
  exact ⟨rfl, hb⟩

end Go.Proofs.YtmjnlpanlgmdmaaGreat

