/-
  The texts Deci, DeciPrint, Ref6, merged.
-/
import Derived.Test.YtmjnlpanlgmdmaaGreatG06
import Derived.Test.YtmjnlpanlgmdmaaGreatG08
import Derived.Lib.OthersKept
import Derived.Laws.RangeAny
import Derived.Test.YtmjnlpanlgmdmaaGreatG09
namespace Go.Proofs.YtmjnlpanlgmdmaaGreat
open Go.RowKit Tw
set_option linter.unusedVariables false
set_option linter.unusedSimpArgs false

theorem deci_digit (d : Int) (w : World) (h0 : 48 ≤ d) (h1 : d ≤ 57) :
    Calls Tryz.prog 68 #[.int .i32 d] w fun e w' => e = .returned (.tuple #[.int .u32 (d - 48), .bool true]) ∧ w = w' := by
  go_enter Tryz.func68, Tryz.ntmps68
  go_wp2_with fail
  go_ret2
  exact ⟨rfl, rfl⟩

def SomeNo (w : World) (e : Ending) (w' : World) : Prop := ∃ x, e = .returned (.tuple #[x, .bool false]) ∧ w = w'

theorem deci_digit_no (d : Int) (w : World) (h0 : 0 ≤ d) (h1 : d ≤ 2147483647) (h : d < 48 ∨ 57 < d) :
    Calls Tryz.prog 68 #[.int .i32 d] w (SomeNo w) := by
  rcases h with h | h
  · go_enter Tryz.func68, Tryz.ntmps68
    go_wp2_with fail
    go_ret2
    exact ⟨_, rfl, rfl⟩
  · have h2 : decide (d ≤ 57) = false := by simp; omega
    go_enter Tryz.func68, Tryz.ntmps68
    go_wp2_with fail
    go_ret2
    exact ⟨_, rfl, rfl⟩

theorem toList_ne {s : ByteArray} (h : 0 < s.size) : ¬ s.toList = [] ∧ s.toList.isEmpty = false := by
  have h1 : s.toList.length = s.size := by rw [ByteArray.toList_eq]; rfl
  have h2 : ¬ s.toList = [] := fun e => by rw [e] at h1; simp at h1; omega
  exact ⟨h2, by simpa using h2⟩

theorem bs_nil {s : ByteArray} (h : s.size = 0) : bs s = [] := List.eq_nil_of_length_eq_zero (by rw [bs_length]; exact h)

theorem bs_head {s : ByteArray} (h : 0 < s.size) : (bs s).head? = some (nth (bs s) 0) := by
  have h1 : 0 < (bs s).length := by rw [bs_length]; exact h
  rw [nth_of h1, List.head?_eq_getElem?, List.getElem?_eq_getElem h1]

theorem own_iterAt' {base : Nat} {w : World} {v : Value} {l : List Nat} (h : Own base w v l) {k : Nat} (hk : k < base) (s : ByteArray) (p : Nat) : Own base (w.iterAt k s p) v l :=
  ⟨h.1, ownsRow_iterAt h.2 hk s p⟩

theorem dval_take_succ {s : ByteArray} {k : Nat} (h : k < s.size) : dval ((bs s).take (k + 1)) = dval ((bs s).take k) * 10 + (nth (bs s) k - 48) := by
  rw [take_snoc (by rw [bs_length]; exact h), dval_snoc]

set_option maxRecDepth 100000 in
set_option maxHeartbeats 1000000 in
theorem deci_parse_empty (s : ByteArray) (w : World) (h : s.size = 0) :
    Calls Tryz.prog 45 #[.string s] w fun e w' => e = .returned (.tuple #[.slice none 0 0, .int .i64 2]) ∧ w = w' := by
  have h1 : s.toList = [] := List.eq_nil_of_length_eq_zero (by rw [ByteArray.toList_eq]; exact h)
  go_enter Tryz.func45, Tryz.ntmps45
  go_wp2_with fail
  go_ret2
  exact ⟨rfl, rfl⟩

set_option maxRecDepth 100000 in
set_option maxHeartbeats 1000000 in
theorem deci_parse_lead (s : ByteArray) (w : World) (h : 1 < s.size) (h1 : s.size ≤ 1000) (h2 : nth (bs s) 0 = 48) :
    Calls Tryz.prog 45 #[.string s] w fun e w' => e = .returned (.tuple #[.slice none 0 0, .int .i64 2]) ∧ w = w' := by
  have h0 : 0 < s.size := by omega
  obtain ⟨e1, e2⟩ := toList_ne h0
  have e3 : (((s[0]'h0).toNat : Int) == 48) = true := by rw [bs_get h0, h2]; rfl
  have e4 : decide ((1 : Int) < (s.size : Int)) = true := by simp; omega
  clear h2
  go_enter Tryz.func45, Tryz.ntmps45
  go_wp2_with fail
  go_ret2
  exact ⟨rfl, rfl⟩

theorem sz_digs {l : List Nat} (hd : ∀ d, d ∈ l → IsDig d) (hl : l.length ≤ 1001) : sz (dval l) ≤ 1001 := by
  have h2 := dval_lt hd
  apply sz_le
  have h4 : (10 : Nat) ^ l.length ≤ B ^ l.length := Nat.pow_le_pow_left (by rw [B_eq]; omega) _
  have h5 := Nat.pow_le_pow_right B_pos hl
  omega

theorem lead_no {s : ByteArray} (h0 : 0 < s.size) (hlead : s.size = 1 ∨ nth (bs s) 0 ≠ 48) : (((s[0]'h0).toNat : Int) == 48) = false ∨ (((s[0]'h0).toNat : Int) == 48) = true ∧ decide ((1 : Int) < (s.size : Int)) = false := by
  rw [bs_get h0]
  by_cases h : nth (bs s) 0 = 48
  · refine .inr ⟨by rw [h]; rfl, ?_⟩
    rcases hlead with h1 | h1
    · simp; omega
    · exact absurd h h1
  · left; simp; omega

set_option maxRecDepth 100000 in
set_option maxHeartbeats 4000000 in
theorem deci_parse_ok (s : ByteArray) (w : World) (h1 : s.size ≤ 1000) (hok : OkText (bs s)) :
    Calls Tryz.prog 45 #[.string s] w fun e w' => ∃ v, e = .returned (.tuple #[v, .int .i64 0]) ∧ Own w.heap.size w' v (limbs (dval (bs s))) ∧ Below w.heap.size w w' := by
  have h0 : 0 < s.size := Nat.pos_of_ne_zero fun e => hok.1 (bs_nil e)
  obtain ⟨e1, e2⟩ := toList_ne h0
  have hlead : s.size = 1 ∨ nth (bs s) 0 ≠ 48 := by
    by_cases h : nth (bs s) 0 = 48
    · left; rw [← bs_length]; exact hok.2.2 (by rw [bs_head h0, h])
    · exact .inr h
  have Hall := Lib.hid hok.2.1
  have Hlen := Lib.hid (fun k (hk : k ≤ s.size) => sz_digs (l := (bs s).take k) (fun d hd => hok.2.1 d (List.mem_of_mem_take hd)) (by rw [List.length_take, bs_length]; omega))
  clear hok
  rcases lead_no h0 hlead with e3 | ⟨e3, e4⟩
  · clear hlead
    go_enter Tryz.func45, Tryz.ntmps45
    go_wp2_with fail
    go_loopw [4] (fun out ww => ∃ k, k ≤ s.size ∧ Hid (ww.heap[w.heap.size]? = some (.stringIter s k)) ∧ Own (w.heap.size + 1) ww out (limbs (dval ((bs s).take k))) ∧ Below w.heap.size w ww ∧ w.heap.size + 1 ≤ ww.heap.size) (fun _ ww => s.size - ww.iterPos w.heap.size)
    case atStart => exact ⟨0, by omega, World.iter_heap w s 0, Own.nil _ _, below_new _ _, by simp [World.iter]⟩
    case round =>
      obtain ⟨k, hk, Hit, hown, hbw, hsw⟩ := hrel
      by_cases hks : k < s.size
      · have hd := Hall.out (nth (bs s) k) (by rw [nth_of (by rw [bs_length]; exact hks)]; exact List.getElem_mem _)
        have hd1 := hd.1
        have hd2 := hd.2
        have hg := bs_get hks
        have b1 : (48 : Int) ≤ ((s[k]'hks).toNat : Int) := by rw [hg]; omega
        have b2 : ((s[k]'hks).toNat : Int) ≤ 57 := by rw [hg]; omega
        have Hg := Lib.hid hg
        have hnx : ∀ ty, (Instr.next (.pointer (some ⟨w.heap.size, 0, none⟩)) true ty).run Tryz.prog wr = _ := fun ty => Lib.run_next_ascii_at wr w.heap.size s k ty Hit.out hks (by omega)
        clear hg hd hd1 hd2
        go_wp2_with fail
        refine (deci_digit _ _ b1 b2).mono ?_
        rintro e w' ⟨rfl, rfl⟩
        have hown2 := own_iterAt' hown (show w.heap.size < w.heap.size + 1 by omega) s (k + 1)
        have hit2 := Lib.iterAt_heap wr w.heap.size s k (k + 1) Hit.out
        have hb2 := Lib.below_iterAt hbw (Nat.le_refl _) s (k + 1)
        have hs2 : (wr.iterAt w.heap.size s (k + 1)).heap.size = wr.heap.size := Lib.iterAt_size _ _ _ _
        have Hs2 := Lib.hid hs2
        have Hv := Lib.hid (show val (limbs (dval ((bs s).take k))) * (10 : Int).toNat + (((s[k]'hks).toNat : Int) - 48).toNat = dval ((bs s).take (k + 1)) by
          rw [val_limbs, dval_take_succ hks, Hg.out]
          show _ * 10 + _ = _
          omega)
        clear hs2 hnx
        go_wp2_with fail
        refine (times_one _ _ _ _ _ hown2.rd (by rw [sz_def]; have := Hlen.out k hk; omega) (by omega) (by omega) (by omega) (by omega)).mono ?_
        rintro e w3 ⟨v3, rfl, hv3, hb3⟩
        rw [Hv.out] at hv3
        have hlt : w.heap.size < (wr.iterAt w.heap.size s (k + 1)).heap.size := by rw [Hs2.out]; omega
        have hit3 := Lib.hid ((hb3.block _ hlt).trans hit2)
        clear hit2
        go_wp2_with fail
        go_roundw
        case rel => exact ⟨k + 1, by omega, hit3, hv3.mono (by rw [Hs2.out]; exact hsw), below_step hb2 hb3, by have := hb3.size; rw [Hs2.out] at this; omega⟩
        case measure => rw [iterPos_of hit3.out, iterPos_of Hit.out]; omega
      · obtain rfl : k = s.size := by omega
        have Hv := Lib.hid (show dval ((bs s).take s.size) = dval (bs s) by rw [List.take_of_length_le (by rw [bs_length]; exact Nat.le_refl _)])
        have hnx : ∀ ty, (Instr.next (.pointer (some ⟨w.heap.size, 0, none⟩)) true ty).run Tryz.prog wr = _ := fun ty => Lib.run_next_end_at wr w.heap.size s s.size ty Hit.out (by omega)
        go_wp2_with fail
        go_ret2
        exact ⟨_, rfl, by rw [← Hv.out]; exact hown.mono (by omega), hbw⟩
  · clear hlead
    go_enter Tryz.func45, Tryz.ntmps45
    go_wp2_with fail
    go_loopw [4] (fun out ww => ∃ k, k ≤ s.size ∧ Hid (ww.heap[w.heap.size]? = some (.stringIter s k)) ∧ Own (w.heap.size + 1) ww out (limbs (dval ((bs s).take k))) ∧ Below w.heap.size w ww ∧ w.heap.size + 1 ≤ ww.heap.size) (fun _ ww => s.size - ww.iterPos w.heap.size)
    case atStart => exact ⟨0, by omega, World.iter_heap w s 0, Own.nil _ _, below_new _ _, by simp [World.iter]⟩
    case round =>
      obtain ⟨k, hk, Hit, hown, hbw, hsw⟩ := hrel
      by_cases hks : k < s.size
      · have hd := Hall.out (nth (bs s) k) (by rw [nth_of (by rw [bs_length]; exact hks)]; exact List.getElem_mem _)
        have hd1 := hd.1
        have hd2 := hd.2
        have hg := bs_get hks
        have b1 : (48 : Int) ≤ ((s[k]'hks).toNat : Int) := by rw [hg]; omega
        have b2 : ((s[k]'hks).toNat : Int) ≤ 57 := by rw [hg]; omega
        have Hg := Lib.hid hg
        have hnx : ∀ ty, (Instr.next (.pointer (some ⟨w.heap.size, 0, none⟩)) true ty).run Tryz.prog wr = _ := fun ty => Lib.run_next_ascii_at wr w.heap.size s k ty Hit.out hks (by omega)
        clear hg hd hd1 hd2
        go_wp2_with fail
        refine (deci_digit _ _ b1 b2).mono ?_
        rintro e w' ⟨rfl, rfl⟩
        have hown2 := own_iterAt' hown (show w.heap.size < w.heap.size + 1 by omega) s (k + 1)
        have hit2 := Lib.iterAt_heap wr w.heap.size s k (k + 1) Hit.out
        have hb2 := Lib.below_iterAt hbw (Nat.le_refl _) s (k + 1)
        have hs2 : (wr.iterAt w.heap.size s (k + 1)).heap.size = wr.heap.size := Lib.iterAt_size _ _ _ _
        have Hs2 := Lib.hid hs2
        have Hv := Lib.hid (show val (limbs (dval ((bs s).take k))) * (10 : Int).toNat + (((s[k]'hks).toNat : Int) - 48).toNat = dval ((bs s).take (k + 1)) by
          rw [val_limbs, dval_take_succ hks, Hg.out]
          show _ * 10 + _ = _
          omega)
        clear hs2 hnx
        go_wp2_with fail
        refine (times_one _ _ _ _ _ hown2.rd (by rw [sz_def]; have := Hlen.out k hk; omega) (by omega) (by omega) (by omega) (by omega)).mono ?_
        rintro e w3 ⟨v3, rfl, hv3, hb3⟩
        rw [Hv.out] at hv3
        have hlt : w.heap.size < (wr.iterAt w.heap.size s (k + 1)).heap.size := by rw [Hs2.out]; omega
        have hit3 := Lib.hid ((hb3.block _ hlt).trans hit2)
        clear hit2
        go_wp2_with fail
        go_roundw
        case rel => exact ⟨k + 1, by omega, hit3, hv3.mono (by rw [Hs2.out]; exact hsw), below_step hb2 hb3, by have := hb3.size; rw [Hs2.out] at this; omega⟩
        case measure => rw [iterPos_of hit3.out, iterPos_of Hit.out]; omega
      · obtain rfl : k = s.size := by omega
        have Hv := Lib.hid (show dval ((bs s).take s.size) = dval (bs s) by rw [List.take_of_length_le (by rw [bs_length]; exact Nat.le_refl _)])
        have hnx : ∀ ty, (Instr.next (.pointer (some ⟨w.heap.size, 0, none⟩)) true ty).run Tryz.prog wr = _ := fun ty => Lib.run_next_end_at wr w.heap.size s s.size ty Hit.out (by omega)
        go_wp2_with fail
        go_ret2
        exact ⟨_, rfl, by rw [← Hv.out]; exact hown.mono (by omega), hbw⟩

set_option maxRecDepth 100000 in
set_option maxHeartbeats 4000000 in
theorem deci_parse_bad (s : ByteArray) (w : World) (h0 : 0 < s.size) (h1 : s.size ≤ 1000) (hlead : s.size = 1 ∨ nth (bs s) 0 ≠ 48) (hbad : ¬ ∀ d, d ∈ bs s → IsDig d) :
    Calls Tryz.prog 45 #[.string s] w fun e w' => e = .returned (.tuple #[.slice none 0 0, .int .i64 2]) ∧ Below w.heap.size w w' := by
  obtain ⟨e1, e2⟩ := toList_ne h0
  have Hbad := Lib.hid hbad
  clear hbad
  rcases lead_no h0 hlead with e3 | ⟨e3, e4⟩
  · clear hlead
    go_enter Tryz.func45, Tryz.ntmps45
    go_wp2_with fail
    go_loopw [4] (fun out ww => ∃ k, k ≤ s.size ∧ Hid (ww.heap[w.heap.size]? = some (.stringIter s k)) ∧ Own (w.heap.size + 1) ww out (limbs (dval ((bs s).take k))) ∧ Below w.heap.size w ww ∧ w.heap.size + 1 ≤ ww.heap.size ∧ Hid (∀ d, d ∈ (bs s).take k → IsDig d)) (fun _ ww => s.size - ww.iterPos w.heap.size)
    case atStart => exact ⟨0, by omega, World.iter_heap w s 0, Own.nil _ _, below_new _ _, by simp [World.iter], by unfold Hid; simp⟩
    case round =>
      obtain ⟨k, hk, Hit, hown, hbw, hsw, HD⟩ := hrel
      have hlen1 := sz_digs HD.out (by rw [List.length_take, bs_length]; omega)
      by_cases hks : k < s.size
      · by_cases hd : IsDig (nth (bs s) k)
        case neg =>
          have hg := bs_get hks
          by_cases hlow : (s[k]'hks).toNat < 128
          · have hno : ((s[k]'hks).toNat : Int) < 48 ∨ 57 < ((s[k]'hks).toNat : Int) := by
              rw [hg]
              rcases Nat.lt_or_ge (nth (bs s) k) 48 with h | h
              · left; omega
              · right
                have : ¬ nth (bs s) k ≤ 57 := fun e => hd ⟨h, e⟩
                omega
            have b1 : (0 : Int) ≤ ((s[k]'hks).toNat : Int) := by omega
            have b2 : ((s[k]'hks).toNat : Int) ≤ 2147483647 := by omega
            have hnx : ∀ ty, (Instr.next (.pointer (some ⟨w.heap.size, 0, none⟩)) true ty).run Tryz.prog wr = _ := fun ty => Lib.run_next_ascii_at wr w.heap.size s k ty Hit.out hks hlow
            have hb2 := Lib.below_iterAt hbw (Nat.le_refl _) s (k + 1)
            have Hno := Lib.hid hno
            clear hg hd hlow hno
            go_wp2_with fail
            refine (deci_digit_no _ _ b1 b2 Hno.out).mono ?_
            rintro e w' ⟨x, rfl, rfl⟩
            clear hnx
            go_wp2_with fail
            go_ret2
            exact ⟨rfl, hb2⟩
          · have hh := decode_high s k hks (by omega)
            have hl2 := decode_le s k
            have hnx : ∀ ty, (Instr.next (.pointer (some ⟨w.heap.size, 0, none⟩)) true ty).run Tryz.prog wr = _ := fun ty => Lib.run_next_any_at wr w.heap.size s k ty Hit.out hks
            have hb2 := Lib.below_iterAt hbw (Nat.le_refl _) s (k + (Utf8.decode s k).2)
            have Hhh := Lib.hid hh.1
            have Hhl := Lib.hid hl2
            clear hg hd hlow hh hl2
            generalize (Utf8.decode s k).2 = wd at *
            generalize (Utf8.decode s k).1 = rn at *
            have b1 : (0 : Int) ≤ (rn : Int) := by omega
            have b2 : (rn : Int) ≤ 2147483647 := by have := Hhl.out; omega
            have Hno := Lib.hid (show (rn : Int) < 48 ∨ 57 < (rn : Int) by have := Hhh.out; omega)
            go_wp2_with fail
            refine (deci_digit_no _ _ b1 b2 Hno.out).mono ?_
            rintro e w' ⟨x, rfl, rfl⟩
            clear hnx
            go_wp2_with fail
            go_ret2
            exact ⟨rfl, hb2⟩
        have HD2 : Hid (∀ d, d ∈ (bs s).take (k + 1) → IsDig d) := by
          unfold Hid
          intro d hdm
          rw [take_snoc (by rw [bs_length]; exact hks), List.mem_append, List.mem_singleton] at hdm
          rcases hdm with hdm | rfl
          · exact HD.out d hdm
          · exact hd
        have hd1 := hd.1
        have hd2 := hd.2
        have hg := bs_get hks
        have b1 : (48 : Int) ≤ ((s[k]'hks).toNat : Int) := by rw [hg]; omega
        have b2 : ((s[k]'hks).toNat : Int) ≤ 57 := by rw [hg]; omega
        have Hg := Lib.hid hg
        have hnx : ∀ ty, (Instr.next (.pointer (some ⟨w.heap.size, 0, none⟩)) true ty).run Tryz.prog wr = _ := fun ty => Lib.run_next_ascii_at wr w.heap.size s k ty Hit.out hks (by omega)
        clear hg hd hd1 hd2
        go_wp2_with fail
        refine (deci_digit _ _ b1 b2).mono ?_
        rintro e w' ⟨rfl, rfl⟩
        have hown2 := own_iterAt' hown (show w.heap.size < w.heap.size + 1 by omega) s (k + 1)
        have hit2 := Lib.iterAt_heap wr w.heap.size s k (k + 1) Hit.out
        have hb2 := Lib.below_iterAt hbw (Nat.le_refl _) s (k + 1)
        have hs2 : (wr.iterAt w.heap.size s (k + 1)).heap.size = wr.heap.size := Lib.iterAt_size _ _ _ _
        have Hs2 := Lib.hid hs2
        have Hv := Lib.hid (show val (limbs (dval ((bs s).take k))) * (10 : Int).toNat + (((s[k]'hks).toNat : Int) - 48).toNat = dval ((bs s).take (k + 1)) by
          rw [val_limbs, dval_take_succ hks, Hg.out]
          show _ * 10 + _ = _
          omega)
        clear hs2 hnx
        go_wp2_with fail
        refine (times_one _ _ _ _ _ hown2.rd (by rw [sz_def]; omega) (by omega) (by omega) (by omega) (by omega)).mono ?_
        rintro e w3 ⟨v3, rfl, hv3, hb3⟩
        rw [Hv.out] at hv3
        have hlt : w.heap.size < (wr.iterAt w.heap.size s (k + 1)).heap.size := by rw [Hs2.out]; omega
        have hit3 := Lib.hid ((hb3.block _ hlt).trans hit2)
        clear hit2
        go_wp2_with fail
        go_roundw
        case rel => exact ⟨k + 1, by omega, hit3, hv3.mono (by rw [Hs2.out]; exact hsw), below_step hb2 hb3, by have := hb3.size; rw [Hs2.out] at this; omega, HD2⟩
        case measure => rw [iterPos_of hit3.out, iterPos_of Hit.out]; omega
      · obtain rfl : k = s.size := by omega
        have h := HD.out
        rw [List.take_of_length_le (by rw [bs_length]; exact Nat.le_refl _)] at h
        exact absurd h Hbad.out
  · clear hlead
    go_enter Tryz.func45, Tryz.ntmps45
    go_wp2_with fail
    go_loopw [4] (fun out ww => ∃ k, k ≤ s.size ∧ Hid (ww.heap[w.heap.size]? = some (.stringIter s k)) ∧ Own (w.heap.size + 1) ww out (limbs (dval ((bs s).take k))) ∧ Below w.heap.size w ww ∧ w.heap.size + 1 ≤ ww.heap.size ∧ Hid (∀ d, d ∈ (bs s).take k → IsDig d)) (fun _ ww => s.size - ww.iterPos w.heap.size)
    case atStart => exact ⟨0, by omega, World.iter_heap w s 0, Own.nil _ _, below_new _ _, by simp [World.iter], by unfold Hid; simp⟩
    case round =>
      obtain ⟨k, hk, Hit, hown, hbw, hsw, HD⟩ := hrel
      have hlen1 := sz_digs HD.out (by rw [List.length_take, bs_length]; omega)
      by_cases hks : k < s.size
      · by_cases hd : IsDig (nth (bs s) k)
        case neg =>
          have hg := bs_get hks
          by_cases hlow : (s[k]'hks).toNat < 128
          · have hno : ((s[k]'hks).toNat : Int) < 48 ∨ 57 < ((s[k]'hks).toNat : Int) := by
              rw [hg]
              rcases Nat.lt_or_ge (nth (bs s) k) 48 with h | h
              · left; omega
              · right
                have : ¬ nth (bs s) k ≤ 57 := fun e => hd ⟨h, e⟩
                omega
            have b1 : (0 : Int) ≤ ((s[k]'hks).toNat : Int) := by omega
            have b2 : ((s[k]'hks).toNat : Int) ≤ 2147483647 := by omega
            have hnx : ∀ ty, (Instr.next (.pointer (some ⟨w.heap.size, 0, none⟩)) true ty).run Tryz.prog wr = _ := fun ty => Lib.run_next_ascii_at wr w.heap.size s k ty Hit.out hks hlow
            have hb2 := Lib.below_iterAt hbw (Nat.le_refl _) s (k + 1)
            have Hno := Lib.hid hno
            clear hg hd hlow hno
            go_wp2_with fail
            refine (deci_digit_no _ _ b1 b2 Hno.out).mono ?_
            rintro e w' ⟨x, rfl, rfl⟩
            clear hnx
            go_wp2_with fail
            go_ret2
            exact ⟨rfl, hb2⟩
          · have hh := decode_high s k hks (by omega)
            have hl2 := decode_le s k
            have hnx : ∀ ty, (Instr.next (.pointer (some ⟨w.heap.size, 0, none⟩)) true ty).run Tryz.prog wr = _ := fun ty => Lib.run_next_any_at wr w.heap.size s k ty Hit.out hks
            have hb2 := Lib.below_iterAt hbw (Nat.le_refl _) s (k + (Utf8.decode s k).2)
            have Hhh := Lib.hid hh.1
            have Hhl := Lib.hid hl2
            clear hg hd hlow hh hl2
            generalize (Utf8.decode s k).2 = wd at *
            generalize (Utf8.decode s k).1 = rn at *
            have b1 : (0 : Int) ≤ (rn : Int) := by omega
            have b2 : (rn : Int) ≤ 2147483647 := by have := Hhl.out; omega
            have Hno := Lib.hid (show (rn : Int) < 48 ∨ 57 < (rn : Int) by have := Hhh.out; omega)
            go_wp2_with fail
            refine (deci_digit_no _ _ b1 b2 Hno.out).mono ?_
            rintro e w' ⟨x, rfl, rfl⟩
            clear hnx
            go_wp2_with fail
            go_ret2
            exact ⟨rfl, hb2⟩
        have HD2 : Hid (∀ d, d ∈ (bs s).take (k + 1) → IsDig d) := by
          unfold Hid
          intro d hdm
          rw [take_snoc (by rw [bs_length]; exact hks), List.mem_append, List.mem_singleton] at hdm
          rcases hdm with hdm | rfl
          · exact HD.out d hdm
          · exact hd
        have hd1 := hd.1
        have hd2 := hd.2
        have hg := bs_get hks
        have b1 : (48 : Int) ≤ ((s[k]'hks).toNat : Int) := by rw [hg]; omega
        have b2 : ((s[k]'hks).toNat : Int) ≤ 57 := by rw [hg]; omega
        have Hg := Lib.hid hg
        have hnx : ∀ ty, (Instr.next (.pointer (some ⟨w.heap.size, 0, none⟩)) true ty).run Tryz.prog wr = _ := fun ty => Lib.run_next_ascii_at wr w.heap.size s k ty Hit.out hks (by omega)
        clear hg hd hd1 hd2
        go_wp2_with fail
        refine (deci_digit _ _ b1 b2).mono ?_
        rintro e w' ⟨rfl, rfl⟩
        have hown2 := own_iterAt' hown (show w.heap.size < w.heap.size + 1 by omega) s (k + 1)
        have hit2 := Lib.iterAt_heap wr w.heap.size s k (k + 1) Hit.out
        have hb2 := Lib.below_iterAt hbw (Nat.le_refl _) s (k + 1)
        have hs2 : (wr.iterAt w.heap.size s (k + 1)).heap.size = wr.heap.size := Lib.iterAt_size _ _ _ _
        have Hs2 := Lib.hid hs2
        have Hv := Lib.hid (show val (limbs (dval ((bs s).take k))) * (10 : Int).toNat + (((s[k]'hks).toNat : Int) - 48).toNat = dval ((bs s).take (k + 1)) by
          rw [val_limbs, dval_take_succ hks, Hg.out]
          show _ * 10 + _ = _
          omega)
        clear hs2 hnx
        go_wp2_with fail
        refine (times_one _ _ _ _ _ hown2.rd (by rw [sz_def]; omega) (by omega) (by omega) (by omega) (by omega)).mono ?_
        rintro e w3 ⟨v3, rfl, hv3, hb3⟩
        rw [Hv.out] at hv3
        have hlt : w.heap.size < (wr.iterAt w.heap.size s (k + 1)).heap.size := by rw [Hs2.out]; omega
        have hit3 := Lib.hid ((hb3.block _ hlt).trans hit2)
        clear hit2
        go_wp2_with fail
        go_roundw
        case rel => exact ⟨k + 1, by omega, hit3, hv3.mono (by rw [Hs2.out]; exact hsw), below_step hb2 hb3, by have := hb3.size; rw [Hs2.out] at this; omega, HD2⟩
        case measure => rw [iterPos_of hit3.out, iterPos_of Hit.out]; omega
      · obtain rfl : k = s.size := by omega
        have h := HD.out
        rw [List.take_of_length_le (by rw [bs_length]; exact Nat.le_refl _)] at h
        exact absurd h Hbad.out

theorem deci_parse_no (s : ByteArray) (w : World) (h1 : s.size ≤ 1000) (hno : ¬ OkText (bs s)) :
    Calls Tryz.prog 45 #[.string s] w fun e w' => e = .returned (.tuple #[.slice none 0 0, .int .i64 2]) ∧ Below w.heap.size w w' := by
  rcases Nat.eq_zero_or_pos s.size with h0 | h0
  · exact (deci_parse_empty s w h0).mono fun e w' h => ⟨h.1, by rw [← h.2]; exact Below.refl _ _⟩
  · by_cases hl : 1 < s.size ∧ nth (bs s) 0 = 48
    · exact (deci_parse_lead s w hl.1 h1 hl.2).mono fun e w' h => ⟨h.1, by rw [← h.2]; exact Below.refl _ _⟩
    · refine deci_parse_bad s w h0 h1 ?_ ?_
      · by_cases h : nth (bs s) 0 = 48
        · left
          rcases Nat.lt_or_ge 1 s.size with h2 | h2
          · exact absurd ⟨h2, h⟩ hl
          · omega
        · exact .inr h
      · intro h
        refine hno ⟨fun e => ?_, h, fun e => ?_⟩
        · have := bs_length s; rw [e] at this; simp at this; omega
        · rw [bs_head h0] at e
          injection e with e
          rw [bs_length]
          rcases Nat.lt_or_ge 1 s.size with h2 | h2
          · exact absurd ⟨h2, e⟩ hl
          · omega

end Go.Proofs.YtmjnlpanlgmdmaaGreat


namespace Go.Proofs.YtmjnlpanlgmdmaaGreat
open Go.RowKit Tw
set_option linter.unusedVariables false
set_option linter.unusedSimpArgs false

def outTest : Value → Nat
  | .slice _ n _ => if n = 0 then 1 else 0
  | _ => 0

theorem ndig_bound {l : List Nat} (h : Small l) : ndig (val l) ≤ 10 * l.length + 1 := by
  apply ndig_le (by omega)
  have h1 := val_lt h
  have h2 : B ^ l.length ≤ (10 ^ 10) ^ l.length := Nat.pow_le_pow_left (by rw [B_eq]; omega) _
  rw [← Nat.pow_mul] at h2
  have h3 := Nat.pow_le_pow_right (n := 10) (by omega) (show 10 * l.length ≤ 10 * l.length + 1 by omega)
  omega

set_option maxRecDepth 100000 in
set_option maxHeartbeats 4000000 in
theorem deci_print (va : Value) (la : List Nat) (w : World) (ha : Rd w va la) (hla : la.length ≤ 5000) :
    Calls Tryz.prog 49 #[va] w fun e w' => e = .returned (.string (ba (digs (val la)))) ∧ Below w.heap.size w w' := by
  have hnd := ndig_bound ha.1
  have Hnd := Lib.hid (show ndig (val la) ≤ 50001 by omega)
  clear hnd
  go_enter Tryz.func49, Tryz.ntmps49
  go_wp2_with fail
  go_loopw [0, 3] (fun a out ww => ∃ (X : Nat) (lx E : List Nat), Rd ww a lx ∧ Hid (val lx = X) ∧ lx.length ≤ 5000 ∧ OwnB w.heap.size ww out E ∧ Hid (Told (val la) X E) ∧ Below w.heap.size w ww) (fun a out ww => 2 * rdVal ww a + outTest out)
  case atStart => exact ⟨val la, la, [], ha, rfl, hla, OwnB.nil _ _, told_start _, Below.refl _ _⟩
  case round =>
    obtain ⟨X, lx, E, hx, HX, hlx, hE, HT, hbw⟩ := hrel
    have hEl := Nat.le_trans (told_len HT.out) Hnd.out
    have hsw := hbw.size
    have Hrd := Lib.hid (rdVal_rd hx)
    have hE2 := hE
    obtain ⟨ao, no, co, rfl, Hno, hno⟩ := hE.open
    rcases Nat.eq_zero_or_pos X with hX0 | hXp
    · have Hn := Lib.hid (show nbits (val lx) = 0 by rw [HX.out, hX0]; rfl)
      have HX0 := Lib.hid hX0
      rcases Nat.eq_zero_or_pos no with hn0 | hnp
      · have hE0 : E = [] := List.eq_nil_of_length_eq_zero (by rw [Hno.out]; exact hn0)
        have Hn0 := Lib.hid hn0
        obtain ⟨r, hr, hr10⟩ : ∃ r, X % 10 = r ∧ r < 10 := ⟨_, rfl, Nat.mod_lt _ (by omega)⟩
        have HR := Lib.hid (show val lx % (10 : Int).toNat = r by rw [HX.out]; exact hr)
        have Hst := Lib.hid (show Told (val la) (X / 10) (E ++ [48 + r]) by rw [← hr]; exact told_step HT.out (.inr hE0))
        have hlq : (limbs (X / 10)).length ≤ 5000 := by
          have h1 := sz_div X 10
          have h2 := sz_val hx.1
          rw [HX.out] at h2
          rw [sz_def]; omega
        have hEn : E.length ≤ 1000000 := by omega
        clear hr
        subst hn0
        clear hE0 hX0
        go_wp2_with fail
        refine (nat_bits _ lx _ hx (by omega)).mono ?_
        rintro e w' ⟨rfl, rfl⟩
        rw [Hn.out]
        go_wp2_with fail
        refine (split_small _ lx 10 _ hx (by omega) (by omega) (by omega)).mono ?_
        rintro e w2 ⟨vq, rfl, hq, hb2⟩
        rw [HR.out]
        replace hq : Own wr.heap.size w2 vq (limbs (X / 10)) := by rw [HX.out] at hq; exact hq
        have hE3 := hE2.to hb2
        have hs2 := hb2.size
        go_wp2_with (at_builtin; refine wp_appendB _ rfl (.tmp 21) (.tmp 25) rfl w.heap.size _ w2.heap.size E (48 + r) rfl rfl (hE3.alloc _) (by omega) (by simp [go_sem]) (by simp; omega) (by omega) ?_; intro v5 w5 hE5 hb5 hs5 hg5)
        go_roundw
        case rel => exact ⟨X / 10, limbs (X / 10), E ++ [48 + r], ((hq.alloc _).grown hg5 (fun k hk => (hE2.2.lt k hk).2)).rd, val_limbs _, hlq, hE5, Hst.out, (below_step hbw (below_step hb2 (below_new _ _))).trans hb5⟩
        case measure =>
          obtain ⟨a5, n5, c5, rfl, Hn5, _⟩ := hE5.open
          have hn5 : n5 ≠ 0 := by have := Hn5.out; rw [List.length_append] at this; simp at this; omega
          rw [Hrd.out, HX.out, rdVal_rd ((hq.alloc _).grown hg5 (fun k hk => (hE2.2.lt k hk).2)).rd, val_limbs]
          simp only [outTest, if_neg hn5]
          have := HX0.out; simp; omega
      · obtain ⟨g, rfl, hg1, hg2⟩ := hno hnp
        have hne : ((no : Int) == 0) = false := by simp; omega
        have hn1 : no ≤ 1000000 := by have := Hno.out; omega
        have Hrev := Lib.hid (show E.reverse = digs (val la) from told_end (by rw [← HX0.out]; exact HT.out) (fun e => by have := Hno.out; rw [e] at this; simp at this; omega))
        clear hX0
        go_wp2_with fail
        refine (nat_bits _ lx _ hx (by omega)).mono ?_
        rintro e w' ⟨rfl, rfl⟩
        rw [Hn.out]
        go_wp2_with fail
        refine (reverse_any w.heap.size g no co E _ hE2 hg1 hnp hn1).mono ?_
        rintro e w2 ⟨rfl, hE3, hb2⟩
        have hcv := hE3.conv
        rw [Hrev.out] at hcv
        go_wp2_with fail
        go_ret
        exact ⟨rfl, hbw.trans hb2⟩
    · have hnb : 0 < nbits (val lx) := Nat.pos_of_ne_zero (fun e => by have := nbits_eq_zero.1 e; rw [HX.out] at this; omega)
      obtain ⟨r, hr, hr10⟩ : ∃ r, X % 10 = r ∧ r < 10 := ⟨_, rfl, Nat.mod_lt _ (by omega)⟩
      have HR := Lib.hid (show val lx % (10 : Int).toNat = r by rw [HX.out]; exact hr)
      have Hst := Lib.hid (show Told (val la) (X / 10) (E ++ [48 + r]) by rw [← hr]; exact told_step HT.out (.inl (by omega)))
      have hlq : (limbs (X / 10)).length ≤ 5000 := by
        have h1 := sz_div X 10
        have h2 := sz_val hx.1
        rw [HX.out] at h2
        rw [sz_def]; omega
      have hEn : E.length ≤ 1000000 := by omega
      clear hr
      go_wp2_with fail
      refine (nat_bits _ lx _ hx (by omega)).mono ?_
      rintro e w' ⟨rfl, rfl⟩
      go_wp2_with fail
      refine (split_small _ lx 10 _ hx (by omega) (by omega) (by omega)).mono ?_
      rintro e w2 ⟨vq, rfl, hq, hb2⟩
      rw [HR.out]
      replace hq : Own wr.heap.size w2 vq (limbs (X / 10)) := by rw [HX.out] at hq; exact hq
      have hE3 := hE2.to hb2
      have hs2 := hb2.size
      go_wp2_with (at_builtin; refine wp_appendB _ rfl (.tmp 21) (.tmp 25) rfl w.heap.size _ w2.heap.size E (48 + r) rfl rfl (hE3.alloc _) (by omega) (by simp [go_sem]) (by simp; omega) (by omega) ?_; intro v5 w5 hE5 hb5 hs5 hg5)
      go_roundw
      case rel => exact ⟨X / 10, limbs (X / 10), E ++ [48 + r], ((hq.alloc _).grown hg5 (fun k hk => (hE2.2.lt k hk).2)).rd, val_limbs _, hlq, hE5, Hst.out, (below_step hbw (below_step hb2 (below_new _ _))).trans hb5⟩
      case measure =>
        obtain ⟨a5, n5, c5, rfl, Hn5, _⟩ := hE5.open
        have hn5 : n5 ≠ 0 := by have := Hn5.out; rw [List.length_append] at this; simp at this; omega
        rw [Hrd.out, HX.out, rdVal_rd ((hq.alloc _).grown hg5 (fun k hk => (hE2.2.lt k hk).2)).rd, val_limbs]
        simp only [outTest, if_neg hn5]
        omega

end Go.Proofs.YtmjnlpanlgmdmaaGreat


namespace Go.Proofs.YtmjnlpanlgmdmaaGreat
open Go.RowKit Tw
set_option linter.unusedVariables false
set_option linter.unusedSimpArgs false

end Go.Proofs.YtmjnlpanlgmdmaaGreat

