/-
  The walks of package deci: digits are read.
-/
import Derived.Test.YteokdkcanckfeaaSplitRoot
import Derived.Test.YteokdkcanckfeaaDeciMath
import Derived.Lib.OthersKept
import Derived.Laws.RangeAny
namespace Go.Proofs.Yteokdkcanckfeaa
open Go.RowKit Tw
set_option linter.unusedVariables false
set_option linter.unusedSimpArgs false

theorem deci_digit (d : Int) (w : World) (h0 : 48 ≤ d) (h1 : d ≤ 57) :
    Calls Try.prog 49 #[.int .i32 d] w fun e w' => e = .returned (.tuple #[.int .u32 (d - 48), .bool true]) ∧ w = w' := by
  go_enter Try.func49, Try.ntmps49
  go_wp2_with fail
  go_ret2
  exact ⟨rfl, rfl⟩

def SomeNo (w : World) (e : Ending) (w' : World) : Prop := ∃ x, e = .returned (.tuple #[x, .bool false]) ∧ w = w'

theorem deci_digit_no (d : Int) (w : World) (h0 : 0 ≤ d) (h1 : d ≤ 2147483647) (h : d < 48 ∨ 57 < d) :
    Calls Try.prog 49 #[.int .i32 d] w (SomeNo w) := by
  rcases h with h | h
  · go_enter Try.func49, Try.ntmps49
    go_wp2_with fail
    go_ret2
    exact ⟨_, rfl, rfl⟩
  · have h2 : decide (d ≤ 57) = false := by simp; omega
    go_enter Try.func49, Try.ntmps49
    go_wp2_with fail
    go_ret2
    exact ⟨_, rfl, rfl⟩

set_option maxRecDepth 100000 in
set_option maxHeartbeats 1000000 in
theorem deci_parse_long (s : ByteArray) (w : World) (h : 1000 < s.size) (hm : s.size ≤ maxLen) :
    Calls Try.prog 15 #[.string s] w fun e w' => e = .returned (.tuple #[.slice none 0 0, .int .i64 4]) ∧ w = w' := by
  unfold maxLen at hm
  go_enter Try.func15, Try.ntmps15
  go_wp2_with fail
  go_ret2
  exact ⟨rfl, rfl⟩

theorem toList_ne {s : ByteArray} (h : 0 < s.size) : ¬ s.toList = [] ∧ s.toList.isEmpty = false := by
  have h1 : s.toList.length = s.size := by rw [ByteArray.toList_eq]; rfl
  have h2 : ¬ s.toList = [] := fun e => by rw [e] at h1; simp at h1; omega
  exact ⟨h2, by simpa using h2⟩

theorem bs_nil {s : ByteArray} (h : s.size = 0) : bs s = [] := List.eq_nil_of_length_eq_zero (by rw [bs_length]; exact h)

theorem bs_head {s : ByteArray} (h : 0 < s.size) : (bs s).head? = some (nth (bs s) 0) := by
  have h1 : 0 < (bs s).length := by rw [bs_length]; exact h
  rw [nth_of h1, List.head?_eq_getElem?, List.getElem?_eq_getElem h1]

theorem own_iterAt' {base : Nat} {w : World} {v : Value} {l : List Nat} (h : Own base w v l) {k : Nat} (hk : k < base) (s : ByteArray) (p : Nat) : Own base (w.iterAt k s p) v l :=
  ⟨h.1, ownsRow_iterAt h.2 hk s p⟩

theorem dval_take_succ {s : ByteArray} {k : Nat} (h : k < s.size) : dval ((bs s).take (k + 1)) = dval ((bs s).take k) * 10 + (nth (bs s) k - 48) := by
  rw [take_snoc (by rw [bs_length]; exact h), dval_snoc]

set_option maxRecDepth 100000 in
set_option maxHeartbeats 1000000 in
theorem deci_parse_empty (s : ByteArray) (w : World) (h : s.size = 0) :
    Calls Try.prog 15 #[.string s] w fun e w' => e = .returned (.tuple #[.slice none 0 0, .int .i64 2]) ∧ w = w' := by
  have h1 : s.toList = [] := List.eq_nil_of_length_eq_zero (by rw [ByteArray.toList_eq]; exact h)
  go_enter Try.func15, Try.ntmps15
  go_wp2_with fail
  go_ret2
  exact ⟨rfl, rfl⟩

set_option maxRecDepth 100000 in
set_option maxHeartbeats 1000000 in
theorem deci_parse_lead (s : ByteArray) (w : World) (h : 1 < s.size) (h1 : s.size ≤ 1000) (h2 : nth (bs s) 0 = 48) :
    Calls Try.prog 15 #[.string s] w fun e w' => e = .returned (.tuple #[.slice none 0 0, .int .i64 2]) ∧ w = w' := by
  have h0 : 0 < s.size := by omega
  obtain ⟨e1, e2⟩ := toList_ne h0
  have e3 : (((s[0]'h0).toNat : Int) == 48) = true := by rw [bs_get h0, h2]; rfl
  have e4 : decide ((1 : Int) < (s.size : Int)) = true := by simp; omega
  clear h2
  go_enter Try.func15, Try.ntmps15
  go_wp2_with fail
  go_ret2
  exact ⟨rfl, rfl⟩

theorem sz_digs {l : List Nat} (hd : ∀ d, d ∈ l → IsDig d) (hl : l.length ≤ 1001) : sz (dval l) ≤ 1001 := by
  have h2 := dval_lt hd
  apply sz_le
  have h4 : (10 : Nat) ^ l.length ≤ B ^ l.length := Nat.pow_le_pow_left (by rw [B_eq]; omega) _
  have h5 := Nat.pow_le_pow_right B_pos hl
  omega

/-- The test on the digit ahead: it says no. -/
theorem lead_no {s : ByteArray} (h0 : 0 < s.size) (hlead : s.size = 1 ∨ nth (bs s) 0 ≠ 48) : (((s[0]'h0).toNat : Int) == 48) = false ∨ (((s[0]'h0).toNat : Int) == 48) = true ∧ decide ((1 : Int) < (s.size : Int)) = false := by
  rw [bs_get h0]
  by_cases h : nth (bs s) 0 = 48
  · refine .inr ⟨by rw [h]; rfl, ?_⟩
    rcases hlead with h1 | h1
    · simp; omega
    · exact absurd h h1
  · left; simp; omega

set_option maxRecDepth 100000 in
set_option maxHeartbeats 4000000 in
theorem deci_parse_ok (s : ByteArray) (w : World) (h1 : s.size ≤ 1000) (hok : OkText (bs s)) :
    Calls Try.prog 15 #[.string s] w fun e w' => ∃ v, e = .returned (.tuple #[v, .int .i64 0]) ∧ Own w.heap.size w' v (limbs (dval (bs s))) ∧ Below w.heap.size w w' := by
  have h0 : 0 < s.size := Nat.pos_of_ne_zero fun e => hok.1 (bs_nil e)
  obtain ⟨e1, e2⟩ := toList_ne h0
  have hlead : s.size = 1 ∨ nth (bs s) 0 ≠ 48 := by
    by_cases h : nth (bs s) 0 = 48
    · left; rw [← bs_length]; exact hok.2.2 (by rw [bs_head h0, h])
    · exact .inr h
  have Hall := Lib.hid hok.2.1
  have Hlen := Lib.hid (fun k (hk : k ≤ s.size) => sz_digs (l := (bs s).take k) (fun d hd => hok.2.1 d (List.mem_of_mem_take hd)) (by rw [List.length_take, bs_length]; omega))
  clear hok
  rcases lead_no h0 hlead with e3 | ⟨e3, e4⟩
  · clear hlead
    go_enter Try.func15, Try.ntmps15
    go_wp2_with fail
    go_loopw [4] (fun out ww => ∃ k, k ≤ s.size ∧ Hid (ww.heap[w.heap.size]? = some (.stringIter s k)) ∧ Own (w.heap.size + 1) ww out (limbs (dval ((bs s).take k))) ∧ Below w.heap.size w ww ∧ w.heap.size + 1 ≤ ww.heap.size) (fun _ ww => s.size - ww.iterPos w.heap.size)
    case atStart => exact ⟨0, by omega, World.iter_heap w s 0, Own.nil _ _, below_new _ _, by simp [World.iter]⟩
    case round =>
      obtain ⟨k, hk, Hit, hown, hbw, hsw⟩ := hrel
      by_cases hks : k < s.size
      · have hd := Hall.out (nth (bs s) k) (by rw [nth_of (by rw [bs_length]; exact hks)]; exact List.getElem_mem _)
        have hd1 := hd.1
        have hd2 := hd.2
        have hg := bs_get hks
        have b1 : (48 : Int) ≤ ((s[k]'hks).toNat : Int) := by rw [hg]; omega
        have b2 : ((s[k]'hks).toNat : Int) ≤ 57 := by rw [hg]; omega
        have Hg := Lib.hid hg
        have hnx : ∀ ty, (Instr.next (.pointer (some ⟨w.heap.size, 0, none⟩)) true ty).run Try.prog wr = _ := fun ty => Lib.run_next_ascii_at wr w.heap.size s k ty Hit.out hks (by omega)
        clear hg hd hd1 hd2
        go_wp2_with fail
        refine (deci_digit _ _ b1 b2).mono ?_
        rintro e w' ⟨rfl, rfl⟩
        have hown2 := own_iterAt' hown (show w.heap.size < w.heap.size + 1 by omega) s (k + 1)
        have hit2 := Lib.iterAt_heap wr w.heap.size s k (k + 1) Hit.out
        have hb2 := Lib.below_iterAt hbw (Nat.le_refl _) s (k + 1)
        have hs2 : (wr.iterAt w.heap.size s (k + 1)).heap.size = wr.heap.size := Lib.iterAt_size _ _ _ _
        have Hs2 := Lib.hid hs2
        have Hv := Lib.hid (show val (limbs (dval ((bs s).take k))) * (10 : Int).toNat + (((s[k]'hks).toNat : Int) - 48).toNat = dval ((bs s).take (k + 1)) by
          rw [val_limbs, dval_take_succ hks, Hg.out]
          show _ * 10 + _ = _
          omega)
        clear hs2 hnx
        go_wp2_with fail
        refine (times_one _ _ _ _ _ hown2.rd (by rw [sz_def]; have := Hlen.out k hk; omega) (by omega) (by omega) (by omega) (by omega)).mono ?_
        rintro e w3 ⟨v3, rfl, hv3, hb3⟩
        rw [Hv.out] at hv3
        have hlt : w.heap.size < (wr.iterAt w.heap.size s (k + 1)).heap.size := by rw [Hs2.out]; omega
        have hit3 := Lib.hid ((hb3.block _ hlt).trans hit2)
        clear hit2
        go_wp2_with fail
        go_roundw
        case rel => exact ⟨k + 1, by omega, hit3, hv3.mono (by rw [Hs2.out]; exact hsw), below_step hb2 hb3, by have := hb3.size; rw [Hs2.out] at this; omega⟩
        case measure => rw [iterPos_of hit3.out, iterPos_of Hit.out]; omega
      · obtain rfl : k = s.size := by omega
        have Hv := Lib.hid (show dval ((bs s).take s.size) = dval (bs s) by rw [List.take_of_length_le (by rw [bs_length]; exact Nat.le_refl _)])
        have hnx : ∀ ty, (Instr.next (.pointer (some ⟨w.heap.size, 0, none⟩)) true ty).run Try.prog wr = _ := fun ty => Lib.run_next_end_at wr w.heap.size s s.size ty Hit.out (by omega)
        go_wp2_with fail
        go_ret2
        exact ⟨_, rfl, by rw [← Hv.out]; exact hown.mono (by omega), hbw⟩
  · clear hlead
    go_enter Try.func15, Try.ntmps15
    go_wp2_with fail
    go_loopw [4] (fun out ww => ∃ k, k ≤ s.size ∧ Hid (ww.heap[w.heap.size]? = some (.stringIter s k)) ∧ Own (w.heap.size + 1) ww out (limbs (dval ((bs s).take k))) ∧ Below w.heap.size w ww ∧ w.heap.size + 1 ≤ ww.heap.size) (fun _ ww => s.size - ww.iterPos w.heap.size)
    case atStart => exact ⟨0, by omega, World.iter_heap w s 0, Own.nil _ _, below_new _ _, by simp [World.iter]⟩
    case round =>
      obtain ⟨k, hk, Hit, hown, hbw, hsw⟩ := hrel
      by_cases hks : k < s.size
      · have hd := Hall.out (nth (bs s) k) (by rw [nth_of (by rw [bs_length]; exact hks)]; exact List.getElem_mem _)
        have hd1 := hd.1
        have hd2 := hd.2
        have hg := bs_get hks
        have b1 : (48 : Int) ≤ ((s[k]'hks).toNat : Int) := by rw [hg]; omega
        have b2 : ((s[k]'hks).toNat : Int) ≤ 57 := by rw [hg]; omega
        have Hg := Lib.hid hg
        have hnx : ∀ ty, (Instr.next (.pointer (some ⟨w.heap.size, 0, none⟩)) true ty).run Try.prog wr = _ := fun ty => Lib.run_next_ascii_at wr w.heap.size s k ty Hit.out hks (by omega)
        clear hg hd hd1 hd2
        go_wp2_with fail
        refine (deci_digit _ _ b1 b2).mono ?_
        rintro e w' ⟨rfl, rfl⟩
        have hown2 := own_iterAt' hown (show w.heap.size < w.heap.size + 1 by omega) s (k + 1)
        have hit2 := Lib.iterAt_heap wr w.heap.size s k (k + 1) Hit.out
        have hb2 := Lib.below_iterAt hbw (Nat.le_refl _) s (k + 1)
        have hs2 : (wr.iterAt w.heap.size s (k + 1)).heap.size = wr.heap.size := Lib.iterAt_size _ _ _ _
        have Hs2 := Lib.hid hs2
        have Hv := Lib.hid (show val (limbs (dval ((bs s).take k))) * (10 : Int).toNat + (((s[k]'hks).toNat : Int) - 48).toNat = dval ((bs s).take (k + 1)) by
          rw [val_limbs, dval_take_succ hks, Hg.out]
          show _ * 10 + _ = _
          omega)
        clear hs2 hnx
        go_wp2_with fail
        refine (times_one _ _ _ _ _ hown2.rd (by rw [sz_def]; have := Hlen.out k hk; omega) (by omega) (by omega) (by omega) (by omega)).mono ?_
        rintro e w3 ⟨v3, rfl, hv3, hb3⟩
        rw [Hv.out] at hv3
        have hlt : w.heap.size < (wr.iterAt w.heap.size s (k + 1)).heap.size := by rw [Hs2.out]; omega
        have hit3 := Lib.hid ((hb3.block _ hlt).trans hit2)
        clear hit2
        go_wp2_with fail
        go_roundw
        case rel => exact ⟨k + 1, by omega, hit3, hv3.mono (by rw [Hs2.out]; exact hsw), below_step hb2 hb3, by have := hb3.size; rw [Hs2.out] at this; omega⟩
        case measure => rw [iterPos_of hit3.out, iterPos_of Hit.out]; omega
      · obtain rfl : k = s.size := by omega
        have Hv := Lib.hid (show dval ((bs s).take s.size) = dval (bs s) by rw [List.take_of_length_le (by rw [bs_length]; exact Nat.le_refl _)])
        have hnx : ∀ ty, (Instr.next (.pointer (some ⟨w.heap.size, 0, none⟩)) true ty).run Try.prog wr = _ := fun ty => Lib.run_next_end_at wr w.heap.size s s.size ty Hit.out (by omega)
        go_wp2_with fail
        go_ret2
        exact ⟨_, rfl, by rw [← Hv.out]; exact hown.mono (by omega), hbw⟩

set_option maxRecDepth 100000 in
set_option maxHeartbeats 4000000 in
theorem deci_parse_bad (s : ByteArray) (w : World) (h0 : 0 < s.size) (h1 : s.size ≤ 1000) (hlead : s.size = 1 ∨ nth (bs s) 0 ≠ 48) (hbad : ¬ ∀ d, d ∈ bs s → IsDig d) :
    Calls Try.prog 15 #[.string s] w fun e w' => e = .returned (.tuple #[.slice none 0 0, .int .i64 2]) ∧ Below w.heap.size w w' := by
  obtain ⟨e1, e2⟩ := toList_ne h0
  have Hbad := Lib.hid hbad
  clear hbad
  rcases lead_no h0 hlead with e3 | ⟨e3, e4⟩
  · clear hlead
    go_enter Try.func15, Try.ntmps15
    go_wp2_with fail
    go_loopw [4] (fun out ww => ∃ k, k ≤ s.size ∧ Hid (ww.heap[w.heap.size]? = some (.stringIter s k)) ∧ Own (w.heap.size + 1) ww out (limbs (dval ((bs s).take k))) ∧ Below w.heap.size w ww ∧ w.heap.size + 1 ≤ ww.heap.size ∧ Hid (∀ d, d ∈ (bs s).take k → IsDig d)) (fun _ ww => s.size - ww.iterPos w.heap.size)
    case atStart => exact ⟨0, by omega, World.iter_heap w s 0, Own.nil _ _, below_new _ _, by simp [World.iter], by unfold Hid; simp⟩
    case round =>
      obtain ⟨k, hk, Hit, hown, hbw, hsw, HD⟩ := hrel
      have hlen1 := sz_digs HD.out (by rw [List.length_take, bs_length]; omega)
      by_cases hks : k < s.size
      · by_cases hd : IsDig (nth (bs s) k)
        case neg =>
          have hg := bs_get hks
          by_cases hlow : (s[k]'hks).toNat < 128
          · have hno : ((s[k]'hks).toNat : Int) < 48 ∨ 57 < ((s[k]'hks).toNat : Int) := by
              rw [hg]
              rcases Nat.lt_or_ge (nth (bs s) k) 48 with h | h
              · left; omega
              · right
                have : ¬ nth (bs s) k ≤ 57 := fun e => hd ⟨h, e⟩
                omega
            have b1 : (0 : Int) ≤ ((s[k]'hks).toNat : Int) := by omega
            have b2 : ((s[k]'hks).toNat : Int) ≤ 2147483647 := by omega
            have hnx : ∀ ty, (Instr.next (.pointer (some ⟨w.heap.size, 0, none⟩)) true ty).run Try.prog wr = _ := fun ty => Lib.run_next_ascii_at wr w.heap.size s k ty Hit.out hks hlow
            have hb2 := Lib.below_iterAt hbw (Nat.le_refl _) s (k + 1)
            have Hno := Lib.hid hno
            clear hg hd hlow hno
            go_wp2_with fail
            refine (deci_digit_no _ _ b1 b2 Hno.out).mono ?_
            rintro e w' ⟨x, rfl, rfl⟩
            clear hnx
            go_wp2_with fail
            go_ret2
            exact ⟨rfl, hb2⟩
          · have hh := decode_high s k hks (by omega)
            have hl2 := decode_le s k
            have hnx : ∀ ty, (Instr.next (.pointer (some ⟨w.heap.size, 0, none⟩)) true ty).run Try.prog wr = _ := fun ty => Lib.run_next_any_at wr w.heap.size s k ty Hit.out hks
            have hb2 := Lib.below_iterAt hbw (Nat.le_refl _) s (k + (Utf8.decode s k).2)
            have Hhh := Lib.hid hh.1
            have Hhl := Lib.hid hl2
            clear hg hd hlow hh hl2
            generalize (Utf8.decode s k).2 = wd at *
            generalize (Utf8.decode s k).1 = rn at *
            have b1 : (0 : Int) ≤ (rn : Int) := by omega
            have b2 : (rn : Int) ≤ 2147483647 := by have := Hhl.out; omega
            have Hno := Lib.hid (show (rn : Int) < 48 ∨ 57 < (rn : Int) by have := Hhh.out; omega)
            go_wp2_with fail
            refine (deci_digit_no _ _ b1 b2 Hno.out).mono ?_
            rintro e w' ⟨x, rfl, rfl⟩
            clear hnx
            go_wp2_with fail
            go_ret2
            exact ⟨rfl, hb2⟩
        have HD2 : Hid (∀ d, d ∈ (bs s).take (k + 1) → IsDig d) := by
          unfold Hid
          intro d hdm
          rw [take_snoc (by rw [bs_length]; exact hks), List.mem_append, List.mem_singleton] at hdm
          rcases hdm with hdm | rfl
          · exact HD.out d hdm
          · exact hd
        have hd1 := hd.1
        have hd2 := hd.2
        have hg := bs_get hks
        have b1 : (48 : Int) ≤ ((s[k]'hks).toNat : Int) := by rw [hg]; omega
        have b2 : ((s[k]'hks).toNat : Int) ≤ 57 := by rw [hg]; omega
        have Hg := Lib.hid hg
        have hnx : ∀ ty, (Instr.next (.pointer (some ⟨w.heap.size, 0, none⟩)) true ty).run Try.prog wr = _ := fun ty => Lib.run_next_ascii_at wr w.heap.size s k ty Hit.out hks (by omega)
        clear hg hd hd1 hd2
        go_wp2_with fail
        refine (deci_digit _ _ b1 b2).mono ?_
        rintro e w' ⟨rfl, rfl⟩
        have hown2 := own_iterAt' hown (show w.heap.size < w.heap.size + 1 by omega) s (k + 1)
        have hit2 := Lib.iterAt_heap wr w.heap.size s k (k + 1) Hit.out
        have hb2 := Lib.below_iterAt hbw (Nat.le_refl _) s (k + 1)
        have hs2 : (wr.iterAt w.heap.size s (k + 1)).heap.size = wr.heap.size := Lib.iterAt_size _ _ _ _
        have Hs2 := Lib.hid hs2
        have Hv := Lib.hid (show val (limbs (dval ((bs s).take k))) * (10 : Int).toNat + (((s[k]'hks).toNat : Int) - 48).toNat = dval ((bs s).take (k + 1)) by
          rw [val_limbs, dval_take_succ hks, Hg.out]
          show _ * 10 + _ = _
          omega)
        clear hs2 hnx
        go_wp2_with fail
        refine (times_one _ _ _ _ _ hown2.rd (by rw [sz_def]; omega) (by omega) (by omega) (by omega) (by omega)).mono ?_
        rintro e w3 ⟨v3, rfl, hv3, hb3⟩
        rw [Hv.out] at hv3
        have hlt : w.heap.size < (wr.iterAt w.heap.size s (k + 1)).heap.size := by rw [Hs2.out]; omega
        have hit3 := Lib.hid ((hb3.block _ hlt).trans hit2)
        clear hit2
        go_wp2_with fail
        go_roundw
        case rel => exact ⟨k + 1, by omega, hit3, hv3.mono (by rw [Hs2.out]; exact hsw), below_step hb2 hb3, by have := hb3.size; rw [Hs2.out] at this; omega, HD2⟩
        case measure => rw [iterPos_of hit3.out, iterPos_of Hit.out]; omega
      · obtain rfl : k = s.size := by omega
        have h := HD.out
        rw [List.take_of_length_le (by rw [bs_length]; exact Nat.le_refl _)] at h
        exact absurd h Hbad.out
  · clear hlead
    go_enter Try.func15, Try.ntmps15
    go_wp2_with fail
    go_loopw [4] (fun out ww => ∃ k, k ≤ s.size ∧ Hid (ww.heap[w.heap.size]? = some (.stringIter s k)) ∧ Own (w.heap.size + 1) ww out (limbs (dval ((bs s).take k))) ∧ Below w.heap.size w ww ∧ w.heap.size + 1 ≤ ww.heap.size ∧ Hid (∀ d, d ∈ (bs s).take k → IsDig d)) (fun _ ww => s.size - ww.iterPos w.heap.size)
    case atStart => exact ⟨0, by omega, World.iter_heap w s 0, Own.nil _ _, below_new _ _, by simp [World.iter], by unfold Hid; simp⟩
    case round =>
      obtain ⟨k, hk, Hit, hown, hbw, hsw, HD⟩ := hrel
      have hlen1 := sz_digs HD.out (by rw [List.length_take, bs_length]; omega)
      by_cases hks : k < s.size
      · by_cases hd : IsDig (nth (bs s) k)
        case neg =>
          have hg := bs_get hks
          by_cases hlow : (s[k]'hks).toNat < 128
          · have hno : ((s[k]'hks).toNat : Int) < 48 ∨ 57 < ((s[k]'hks).toNat : Int) := by
              rw [hg]
              rcases Nat.lt_or_ge (nth (bs s) k) 48 with h | h
              · left; omega
              · right
                have : ¬ nth (bs s) k ≤ 57 := fun e => hd ⟨h, e⟩
                omega
            have b1 : (0 : Int) ≤ ((s[k]'hks).toNat : Int) := by omega
            have b2 : ((s[k]'hks).toNat : Int) ≤ 2147483647 := by omega
            have hnx : ∀ ty, (Instr.next (.pointer (some ⟨w.heap.size, 0, none⟩)) true ty).run Try.prog wr = _ := fun ty => Lib.run_next_ascii_at wr w.heap.size s k ty Hit.out hks hlow
            have hb2 := Lib.below_iterAt hbw (Nat.le_refl _) s (k + 1)
            have Hno := Lib.hid hno
            clear hg hd hlow hno
            go_wp2_with fail
            refine (deci_digit_no _ _ b1 b2 Hno.out).mono ?_
            rintro e w' ⟨x, rfl, rfl⟩
            clear hnx
            go_wp2_with fail
            go_ret2
            exact ⟨rfl, hb2⟩
          · have hh := decode_high s k hks (by omega)
            have hl2 := decode_le s k
            have hnx : ∀ ty, (Instr.next (.pointer (some ⟨w.heap.size, 0, none⟩)) true ty).run Try.prog wr = _ := fun ty => Lib.run_next_any_at wr w.heap.size s k ty Hit.out hks
            have hb2 := Lib.below_iterAt hbw (Nat.le_refl _) s (k + (Utf8.decode s k).2)
            have Hhh := Lib.hid hh.1
            have Hhl := Lib.hid hl2
            clear hg hd hlow hh hl2
            generalize (Utf8.decode s k).2 = wd at *
            generalize (Utf8.decode s k).1 = rn at *
            have b1 : (0 : Int) ≤ (rn : Int) := by omega
            have b2 : (rn : Int) ≤ 2147483647 := by have := Hhl.out; omega
            have Hno := Lib.hid (show (rn : Int) < 48 ∨ 57 < (rn : Int) by have := Hhh.out; omega)
            go_wp2_with fail
            refine (deci_digit_no _ _ b1 b2 Hno.out).mono ?_
            rintro e w' ⟨x, rfl, rfl⟩
            clear hnx
            go_wp2_with fail
            go_ret2
            exact ⟨rfl, hb2⟩
        have HD2 : Hid (∀ d, d ∈ (bs s).take (k + 1) → IsDig d) := by
          unfold Hid
          intro d hdm
          rw [take_snoc (by rw [bs_length]; exact hks), List.mem_append, List.mem_singleton] at hdm
          rcases hdm with hdm | rfl
          · exact HD.out d hdm
          · exact hd
        have hd1 := hd.1
        have hd2 := hd.2
        have hg := bs_get hks
        have b1 : (48 : Int) ≤ ((s[k]'hks).toNat : Int) := by rw [hg]; omega
        have b2 : ((s[k]'hks).toNat : Int) ≤ 57 := by rw [hg]; omega
        have Hg := Lib.hid hg
        have hnx : ∀ ty, (Instr.next (.pointer (some ⟨w.heap.size, 0, none⟩)) true ty).run Try.prog wr = _ := fun ty => Lib.run_next_ascii_at wr w.heap.size s k ty Hit.out hks (by omega)
        clear hg hd hd1 hd2
        go_wp2_with fail
        refine (deci_digit _ _ b1 b2).mono ?_
        rintro e w' ⟨rfl, rfl⟩
        have hown2 := own_iterAt' hown (show w.heap.size < w.heap.size + 1 by omega) s (k + 1)
        have hit2 := Lib.iterAt_heap wr w.heap.size s k (k + 1) Hit.out
        have hb2 := Lib.below_iterAt hbw (Nat.le_refl _) s (k + 1)
        have hs2 : (wr.iterAt w.heap.size s (k + 1)).heap.size = wr.heap.size := Lib.iterAt_size _ _ _ _
        have Hs2 := Lib.hid hs2
        have Hv := Lib.hid (show val (limbs (dval ((bs s).take k))) * (10 : Int).toNat + (((s[k]'hks).toNat : Int) - 48).toNat = dval ((bs s).take (k + 1)) by
          rw [val_limbs, dval_take_succ hks, Hg.out]
          show _ * 10 + _ = _
          omega)
        clear hs2 hnx
        go_wp2_with fail
        refine (times_one _ _ _ _ _ hown2.rd (by rw [sz_def]; omega) (by omega) (by omega) (by omega) (by omega)).mono ?_
        rintro e w3 ⟨v3, rfl, hv3, hb3⟩
        rw [Hv.out] at hv3
        have hlt : w.heap.size < (wr.iterAt w.heap.size s (k + 1)).heap.size := by rw [Hs2.out]; omega
        have hit3 := Lib.hid ((hb3.block _ hlt).trans hit2)
        clear hit2
        go_wp2_with fail
        go_roundw
        case rel => exact ⟨k + 1, by omega, hit3, hv3.mono (by rw [Hs2.out]; exact hsw), below_step hb2 hb3, by have := hb3.size; rw [Hs2.out] at this; omega, HD2⟩
        case measure => rw [iterPos_of hit3.out, iterPos_of Hit.out]; omega
      · obtain rfl : k = s.size := by omega
        have h := HD.out
        rw [List.take_of_length_le (by rw [bs_length]; exact Nat.le_refl _)] at h
        exact absurd h Hbad.out

theorem deci_parse_no (s : ByteArray) (w : World) (h1 : s.size ≤ 1000) (hno : ¬ OkText (bs s)) :
    Calls Try.prog 15 #[.string s] w fun e w' => e = .returned (.tuple #[.slice none 0 0, .int .i64 2]) ∧ Below w.heap.size w w' := by
  rcases Nat.eq_zero_or_pos s.size with h0 | h0
  · exact (deci_parse_empty s w h0).mono fun e w' h => ⟨h.1, by rw [← h.2]; exact Below.refl _ _⟩
  · by_cases hl : 1 < s.size ∧ nth (bs s) 0 = 48
    · exact (deci_parse_lead s w hl.1 h1 hl.2).mono fun e w' h => ⟨h.1, by rw [← h.2]; exact Below.refl _ _⟩
    · refine deci_parse_bad s w h0 h1 ?_ ?_
      · by_cases h : nth (bs s) 0 = 48
        · left
          rcases Nat.lt_or_ge 1 s.size with h2 | h2
          · exact absurd ⟨h2, h⟩ hl
          · omega
        · exact .inr h
      · intro h
        refine hno ⟨fun e => ?_, h, fun e => ?_⟩
        · have := bs_length s; rw [e] at this; simp at this; omega
        · rw [bs_head h0] at e
          injection e with e
          rw [bs_length]
          rcases Nat.lt_or_ge 1 s.size with h2 | h2
          · exact absurd ⟨h2, e⟩ hl
          · omega

end Go.Proofs.Yteokdkcanckfeaa
