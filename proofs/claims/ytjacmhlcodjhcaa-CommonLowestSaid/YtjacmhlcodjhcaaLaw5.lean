/-
  The walks of the statements of layer 5.
-/
import Derived.Test.YtjacmhlcodjhcaaCommon
namespace Go.Proofs.Ytjacmhlcodjhcaa
open Go.RowKit Tw
set_option linter.unusedVariables false
set_option linter.unusedSimpArgs false

theorem cross_terms (a b : Nat) : a / Nat.gcd a b * b = a * (b / Nat.gcd a b) := by
  rw [Nat.div_mul_right_comm (Nat.gcd_dvd_left a b), Nat.mul_div_assoc _ (Nat.gcd_dvd_right a b)]

theorem dvd_lcm_left (a b : Nat) : a ∣ a / Nat.gcd a b * b := by
  rw [cross_terms]; exact Nat.dvd_mul_right _ _

theorem lcm_comm (a b : Nat) : b / Nat.gcd b a * a = a / Nat.gcd a b * b := by
  rw [cross_terms b a, Nat.gcd_comm b a, Nat.mul_comm]

set_option maxRecDepth 100000 in
set_option maxHeartbeats 2000000 in
theorem awake5  (w : World)  :
    Calls Try.prog 31 #[] w (Holds w) := by
  have H1 := Lib.hid (show limbs (val [12] / Nat.gcd (val [12]) (val [18])) = [2] by decide +kernel)
  have H2 := Lib.hid (show limbs (val [18] / Nat.gcd (val [12]) (val [18])) = [3] by decide +kernel)
  have H3 := Lib.hid (show limbs (Nat.gcd (val [12]) (val [18])) = [6] by decide +kernel)
  have H4 := Lib.hid (show limbs (val [12] / Nat.gcd (val [12]) (val [18]) * val [18]) = [36] by decide +kernel)
  have H5 : Hid ((Nat.gcd (val [2]) (val [3]) == 1) = true) := by unfold Hid; decide +kernel
  have H6 := Lib.hid (show 0 < val [18] by decide +kernel)
  have ha := (lit1 w (a := 12) (by omega)).alloc (.cells #[u32v 18] 23)
  have hb := lit1_at (w.alloc (.cells #[u32v 12] 23)) (n := w.heap.size + 1) (a := 18) (by simp) (by omega)
  have hB : Below w.heap.size w ((w.alloc (.cells #[u32v 12] 23)).alloc (.cells #[u32v 18] 23)) := below_step (below_new _ _) (below_new _ _)
  go_enter Try.func31, Try.ntmps31
  go_wp2_with fail
  refine (common_lowest _ _ [12] [18] _ ha hb (by simp) (by simp) H6.out).mono ?_
  rintro e w1 ⟨vx, vy, rfl, hx, hy, hb1⟩
  replace hB := below_step hB hb1
  replace ha := ha.to hb1
  replace hb := hb.to hb1
  replace hx := hx.rd
  replace hy := hy.rd
  clear hb1
  rw [H1.out] at hx
  rw [H2.out] at hy
  go_wp2_with fail
  refine (common_gcd _ _ [12] [18] _ ha hb (by simp) (by simp)).mono ?_
  rintro e w2 ⟨vg, rfl, hg, hb2⟩
  replace hB := below_step hB hb2
  replace ha := ha.to hb2
  replace hb := hb.to hb2
  replace hx := hx.to hb2
  replace hy := hy.to hb2
  replace hg := hg.rd
  clear hb2
  rw [H3.out] at hg
  go_wp2_with fail
  refine (words_same _ _ [6] _ (hg.alloc _) (lit1 w2 (by omega))).mono ?_
  rintro e w3 ⟨rfl, hb3⟩
  replace hB := below_step hB (below_new2 _ hb3)
  replace ha := (ha.alloc _).to hb3
  replace hb := (hb.alloc _).to hb3
  replace hx := (hx.alloc _).to hb3
  replace hy := (hy.alloc _).to hb3
  replace hg := (hg.alloc _).to hb3
  clear hb3
  go_wp2_with fail
  refine (common_lcm _ _ [12] [18] _ ha hb (by simp) (by simp)).mono ?_
  rintro e w4 ⟨vl, rfl, hl, hb4⟩
  replace hB := below_step hB hb4
  replace ha := ha.to hb4
  replace hb := hb.to hb4
  replace hx := hx.to hb4
  replace hy := hy.to hb4
  replace hg := hg.to hb4
  replace hl := hl.rd
  clear hb4
  rw [H4.out] at hl
  go_wp2_with fail
  refine (words_same _ _ [36] _ (hl.alloc _) (lit1 w4 (by omega))).mono ?_
  rintro e w5 ⟨rfl, hb5⟩
  replace hB := below_step hB (below_new2 _ hb5)
  replace ha := (ha.alloc _).to hb5
  replace hb := (hb.alloc _).to hb5
  replace hx := (hx.alloc _).to hb5
  replace hy := (hy.alloc _).to hb5
  replace hg := (hg.alloc _).to hb5
  replace hl := (hl.alloc _).to hb5
  clear hb5
  go_wp2_with fail
  refine (words_same _ _ [2] _ (hx.alloc _) (lit1 w5 (by omega))).mono ?_
  rintro e w6 ⟨rfl, hb6⟩
  replace hB := below_step hB (below_new2 _ hb6)
  replace ha := (ha.alloc _).to hb6
  replace hb := (hb.alloc _).to hb6
  replace hx := (hx.alloc _).to hb6
  replace hy := (hy.alloc _).to hb6
  replace hg := (hg.alloc _).to hb6
  replace hl := (hl.alloc _).to hb6
  clear hb6
  go_wp2_with fail
  refine (words_same _ _ [3] _ (hy.alloc _) (lit1 w6 (by omega))).mono ?_
  rintro e w7 ⟨rfl, hb7⟩
  replace hB := below_step hB (below_new2 _ hb7)
  replace ha := (ha.alloc _).to hb7
  replace hb := (hb.alloc _).to hb7
  replace hx := (hx.alloc _).to hb7
  replace hy := (hy.alloc _).to hb7
  replace hg := (hg.alloc _).to hb7
  replace hl := (hl.alloc _).to hb7
  clear hb7
  go_wp2_with fail
  refine (common_apart _ _ [2] [3] true _ hx hy (by simp) (by simp) H5).mono ?_
  rintro e w8 ⟨rfl, hb8⟩
  replace hB := below_step hB hb8
  replace ha := ha.to hb8
  replace hb := hb.to hb8
  replace hx := hx.to hb8
  replace hy := hy.to hb8
  replace hg := hg.to hb8
  replace hl := hl.to hb8
  clear hb8
  go_wp2_with fail
  go_ret
  exact ⟨by first | rfl | exact ret_bool (by first | (simp; done) | (simp; omega)), hB⟩

set_option maxRecDepth 100000 in
set_option maxHeartbeats 2000000 in
theorem walk_CommonTells (va : Value) (la : List Nat) (vb : Value) (lb : List Nat) (w : World) (ha : Rd w va la) (hb : Rd w vb lb) :
    Calls Try.prog 8 #[va, vb] w (Holds w) := by
  have hlma := ha.len_le
  have hlmb := hb.len_le
  unfold maxLen at hlma hlmb
  by_cases hfew : (la.length : Int) ≤ 8 ∧ (lb.length : Int) ≤ 8
  · obtain ⟨hla, hlb⟩ := hfew
    have hsa := sz_val ha.1
    have hsb := sz_val hb.1
    rcases Nat.eq_zero_or_pos (val lb) with hz | hz <;> by_cases hg : Nat.gcd (val la) (val lb) = 1
    · have Hz := Lib.hid hz
      have Ho : Hid ((Nat.gcd (val la) (val lb) == 1) = true) := by unfold Hid; simp [hg]
      have Hg1 := Lib.hid (show limbs (Nat.gcd (val la) (val lb)) = [1] by rw [hg]; decide +kernel)
      clear hz hg
      go_enter Try.func8, Try.ntmps8
      go_wp2_with fail
      refine (awake5 _).mono ?_
      rintro e w1 ⟨rfl, hb1⟩
      have hB := hb1
      replace ha := ha.to hb1
      replace hb := hb.to hb1
      clear hb1
      go_wp2_with fail
      refine (few_yes _ _ la lb 8 _ ha hb hla hlb).mono ?_
      rintro e w' ⟨rfl, rfl⟩
      go_wp2_with fail
      refine (ref5_gcd _ _ la lb _ ha hb (by omega) (by omega)).mono ?_
      rintro e w2 ⟨vg, rfl, hg, hb2⟩
      replace hB := below_step hB hb2
      replace ha := ha.to hb2
      replace hb := hb.to hb2
      replace hg := hg.rd
      clear hb2
      rw [Hg1.out] at hg
      go_wp2_with fail
      refine (words_same _ _ [1] _ (hg.alloc _) (lit1 w2 (by omega))).mono ?_
      rintro e w3 ⟨rfl, hb3⟩
      replace hB := below_step hB (below_new2 _ hb3)
      replace ha := (ha.alloc _).to hb3
      replace hb := (hb.alloc _).to hb3
      replace hg := (hg.alloc _).to hb3
      clear hb3
      go_wp2_with fail
      refine (common_lowest_no _ _ la lb _ ha hb (by omega) Hz.out).mono ?_
      rintro e w4 ⟨rfl, hb4⟩
      replace hB := below_step hB hb4
      replace ha := ha.to hb4
      replace hb := hb.to hb4
      replace hg := hg.to hb4
      clear hb4
      have hx := Rd.nil w4
      have hy := Rd.nil w4
      go_wp2_with fail
      refine (ref5_lowest_no _ _ la lb _ ha hb (by omega) Hz.out).mono ?_
      rintro e w5 ⟨rfl, hb5⟩
      replace hB := below_step hB hb5
      replace ha := ha.to hb5
      replace hb := hb.to hb5
      replace hg := hg.to hb5
      replace hx := hx.to hb5
      replace hy := hy.to hb5
      clear hb5
      have hu := Rd.nil w5
      have hv := Rd.nil w5
      go_wp2_with fail
      refine (common_gcd _ _ la lb _ ha hb (by omega) (by omega)).mono ?_
      rintro e w6 ⟨vh, rfl, hh, hb6⟩
      replace hB := below_step hB hb6
      replace ha := ha.to hb6
      replace hb := hb.to hb6
      replace hg := hg.to hb6
      replace hx := hx.to hb6
      replace hy := hy.to hb6
      replace hu := hu.to hb6
      replace hv := hv.to hb6
      replace hh := hh.rd
      clear hb6
      rw [Hg1.out] at hh
      go_wp2_with fail
      refine (words_same _ _ _ _ hh hg).mono ?_
      rintro e w7 ⟨rfl, hb7⟩
      replace hB := below_step hB hb7
      replace ha := ha.to hb7
      replace hb := hb.to hb7
      replace hg := hg.to hb7
      replace hx := hx.to hb7
      replace hy := hy.to hb7
      replace hu := hu.to hb7
      replace hv := hv.to hb7
      replace hh := hh.to hb7
      clear hb7
      go_wp2_with fail
      refine (common_lcm _ _ la lb _ ha hb (by omega) (by omega)).mono ?_
      rintro e w8 ⟨vl, rfl, hl, hb8⟩
      replace hB := below_step hB hb8
      replace ha := ha.to hb8
      replace hb := hb.to hb8
      replace hg := hg.to hb8
      replace hx := hx.to hb8
      replace hy := hy.to hb8
      replace hu := hu.to hb8
      replace hv := hv.to hb8
      replace hh := hh.to hb8
      replace hl := hl.rd
      clear hb8
      go_wp2_with fail
      refine (ref5_lcm _ _ la lb _ ha hb (by omega) (by omega)).mono ?_
      rintro e w9 ⟨vm, rfl, hm, hb9⟩
      replace hB := below_step hB hb9
      replace ha := ha.to hb9
      replace hb := hb.to hb9
      replace hg := hg.to hb9
      replace hx := hx.to hb9
      replace hy := hy.to hb9
      replace hu := hu.to hb9
      replace hv := hv.to hb9
      replace hh := hh.to hb9
      replace hl := hl.to hb9
      replace hm := hm.rd
      clear hb9
      go_wp2_with fail
      refine (words_same _ _ _ _ hl hm).mono ?_
      rintro e w10 ⟨rfl, hb10⟩
      replace hB := below_step hB hb10
      replace ha := ha.to hb10
      replace hb := hb.to hb10
      replace hg := hg.to hb10
      replace hx := hx.to hb10
      replace hy := hy.to hb10
      replace hu := hu.to hb10
      replace hv := hv.to hb10
      replace hh := hh.to hb10
      replace hl := hl.to hb10
      replace hm := hm.to hb10
      clear hb10
      go_wp2_with fail
      refine (common_apart _ _ la lb true _ ha hb (by omega) (by omega) Ho).mono ?_
      rintro e w11 ⟨rfl, hb11⟩
      replace hB := below_step hB hb11
      replace ha := ha.to hb11
      replace hb := hb.to hb11
      replace hg := hg.to hb11
      replace hx := hx.to hb11
      replace hy := hy.to hb11
      replace hu := hu.to hb11
      replace hv := hv.to hb11
      replace hh := hh.to hb11
      replace hl := hl.to hb11
      replace hm := hm.to hb11
      clear hb11
      go_wp2_with fail
      refine (words_same _ _ _ _ hx hu).mono ?_
      rintro e w12 ⟨rfl, hb12⟩
      replace hB := below_step hB hb12
      replace ha := ha.to hb12
      replace hb := hb.to hb12
      replace hg := hg.to hb12
      replace hx := hx.to hb12
      replace hy := hy.to hb12
      replace hu := hu.to hb12
      replace hv := hv.to hb12
      replace hh := hh.to hb12
      replace hl := hl.to hb12
      replace hm := hm.to hb12
      clear hb12
      go_wp2_with fail
      refine (words_same _ _ _ _ hy hv).mono ?_
      rintro e w13 ⟨rfl, hb13⟩
      replace hB := below_step hB hb13
      replace ha := ha.to hb13
      replace hb := hb.to hb13
      replace hg := hg.to hb13
      replace hx := hx.to hb13
      replace hy := hy.to hb13
      replace hu := hu.to hb13
      replace hv := hv.to hb13
      replace hh := hh.to hb13
      replace hl := hl.to hb13
      replace hm := hm.to hb13
      clear hb13
      go_wp2_with fail
      go_ret
      exact ⟨by first | rfl | exact ret_bool (by first | (simp; done) | (simp; omega)), hB⟩
    · have Hz := Lib.hid hz
      have Ho : Hid ((Nat.gcd (val la) (val lb) == 1) = false) := by unfold Hid; simp [hg]
      have Hg1 := Lib.hid (show limbs (Nat.gcd (val la) (val lb)) ≠ [1] from fun e => hg (by rw [← val_limbs (Nat.gcd (val la) (val lb)), e]; rfl))
      clear hz hg
      go_enter Try.func8, Try.ntmps8
      go_wp2_with fail
      refine (awake5 _).mono ?_
      rintro e w1 ⟨rfl, hb1⟩
      have hB := hb1
      replace ha := ha.to hb1
      replace hb := hb.to hb1
      clear hb1
      go_wp2_with fail
      refine (few_yes _ _ la lb 8 _ ha hb hla hlb).mono ?_
      rintro e w' ⟨rfl, rfl⟩
      go_wp2_with fail
      refine (ref5_gcd _ _ la lb _ ha hb (by omega) (by omega)).mono ?_
      rintro e w2 ⟨vg, rfl, hg, hb2⟩
      replace hB := below_step hB hb2
      replace ha := ha.to hb2
      replace hb := hb.to hb2
      replace hg := hg.rd
      clear hb2
      go_wp2_with fail
      refine (words_diff _ _ _ [1] _ (hg.alloc _) (lit1 w2 (by omega)) Hg1.out).mono ?_
      rintro e w3 ⟨rfl, hb3⟩
      replace hB := below_step hB (below_new2 _ hb3)
      replace ha := (ha.alloc _).to hb3
      replace hb := (hb.alloc _).to hb3
      replace hg := (hg.alloc _).to hb3
      clear hb3
      go_wp2_with fail
      refine (common_lowest_no _ _ la lb _ ha hb (by omega) Hz.out).mono ?_
      rintro e w4 ⟨rfl, hb4⟩
      replace hB := below_step hB hb4
      replace ha := ha.to hb4
      replace hb := hb.to hb4
      replace hg := hg.to hb4
      clear hb4
      have hx := Rd.nil w4
      have hy := Rd.nil w4
      go_wp2_with fail
      refine (ref5_lowest_no _ _ la lb _ ha hb (by omega) Hz.out).mono ?_
      rintro e w5 ⟨rfl, hb5⟩
      replace hB := below_step hB hb5
      replace ha := ha.to hb5
      replace hb := hb.to hb5
      replace hg := hg.to hb5
      replace hx := hx.to hb5
      replace hy := hy.to hb5
      clear hb5
      have hu := Rd.nil w5
      have hv := Rd.nil w5
      go_wp2_with fail
      refine (common_gcd _ _ la lb _ ha hb (by omega) (by omega)).mono ?_
      rintro e w6 ⟨vh, rfl, hh, hb6⟩
      replace hB := below_step hB hb6
      replace ha := ha.to hb6
      replace hb := hb.to hb6
      replace hg := hg.to hb6
      replace hx := hx.to hb6
      replace hy := hy.to hb6
      replace hu := hu.to hb6
      replace hv := hv.to hb6
      replace hh := hh.rd
      clear hb6
      go_wp2_with fail
      refine (words_same _ _ _ _ hh hg).mono ?_
      rintro e w7 ⟨rfl, hb7⟩
      replace hB := below_step hB hb7
      replace ha := ha.to hb7
      replace hb := hb.to hb7
      replace hg := hg.to hb7
      replace hx := hx.to hb7
      replace hy := hy.to hb7
      replace hu := hu.to hb7
      replace hv := hv.to hb7
      replace hh := hh.to hb7
      clear hb7
      go_wp2_with fail
      refine (common_lcm _ _ la lb _ ha hb (by omega) (by omega)).mono ?_
      rintro e w8 ⟨vl, rfl, hl, hb8⟩
      replace hB := below_step hB hb8
      replace ha := ha.to hb8
      replace hb := hb.to hb8
      replace hg := hg.to hb8
      replace hx := hx.to hb8
      replace hy := hy.to hb8
      replace hu := hu.to hb8
      replace hv := hv.to hb8
      replace hh := hh.to hb8
      replace hl := hl.rd
      clear hb8
      go_wp2_with fail
      refine (ref5_lcm _ _ la lb _ ha hb (by omega) (by omega)).mono ?_
      rintro e w9 ⟨vm, rfl, hm, hb9⟩
      replace hB := below_step hB hb9
      replace ha := ha.to hb9
      replace hb := hb.to hb9
      replace hg := hg.to hb9
      replace hx := hx.to hb9
      replace hy := hy.to hb9
      replace hu := hu.to hb9
      replace hv := hv.to hb9
      replace hh := hh.to hb9
      replace hl := hl.to hb9
      replace hm := hm.rd
      clear hb9
      go_wp2_with fail
      refine (words_same _ _ _ _ hl hm).mono ?_
      rintro e w10 ⟨rfl, hb10⟩
      replace hB := below_step hB hb10
      replace ha := ha.to hb10
      replace hb := hb.to hb10
      replace hg := hg.to hb10
      replace hx := hx.to hb10
      replace hy := hy.to hb10
      replace hu := hu.to hb10
      replace hv := hv.to hb10
      replace hh := hh.to hb10
      replace hl := hl.to hb10
      replace hm := hm.to hb10
      clear hb10
      go_wp2_with fail
      refine (common_apart _ _ la lb false _ ha hb (by omega) (by omega) Ho).mono ?_
      rintro e w11 ⟨rfl, hb11⟩
      replace hB := below_step hB hb11
      replace ha := ha.to hb11
      replace hb := hb.to hb11
      replace hg := hg.to hb11
      replace hx := hx.to hb11
      replace hy := hy.to hb11
      replace hu := hu.to hb11
      replace hv := hv.to hb11
      replace hh := hh.to hb11
      replace hl := hl.to hb11
      replace hm := hm.to hb11
      clear hb11
      go_wp2_with fail
      refine (words_same _ _ _ _ hx hu).mono ?_
      rintro e w12 ⟨rfl, hb12⟩
      replace hB := below_step hB hb12
      replace ha := ha.to hb12
      replace hb := hb.to hb12
      replace hg := hg.to hb12
      replace hx := hx.to hb12
      replace hy := hy.to hb12
      replace hu := hu.to hb12
      replace hv := hv.to hb12
      replace hh := hh.to hb12
      replace hl := hl.to hb12
      replace hm := hm.to hb12
      clear hb12
      go_wp2_with fail
      refine (words_same _ _ _ _ hy hv).mono ?_
      rintro e w13 ⟨rfl, hb13⟩
      replace hB := below_step hB hb13
      replace ha := ha.to hb13
      replace hb := hb.to hb13
      replace hg := hg.to hb13
      replace hx := hx.to hb13
      replace hy := hy.to hb13
      replace hu := hu.to hb13
      replace hv := hv.to hb13
      replace hh := hh.to hb13
      replace hl := hl.to hb13
      replace hm := hm.to hb13
      clear hb13
      go_wp2_with fail
      go_ret
      exact ⟨by first | rfl | exact ret_bool (by first | (simp; done) | (simp; omega)), hB⟩
    · have Hz := Lib.hid hz
      have Ho : Hid ((Nat.gcd (val la) (val lb) == 1) = true) := by unfold Hid; simp [hg]
      have Hg1 := Lib.hid (show limbs (Nat.gcd (val la) (val lb)) = [1] by rw [hg]; decide +kernel)
      clear hz hg
      go_enter Try.func8, Try.ntmps8
      go_wp2_with fail
      refine (awake5 _).mono ?_
      rintro e w1 ⟨rfl, hb1⟩
      have hB := hb1
      replace ha := ha.to hb1
      replace hb := hb.to hb1
      clear hb1
      go_wp2_with fail
      refine (few_yes _ _ la lb 8 _ ha hb hla hlb).mono ?_
      rintro e w' ⟨rfl, rfl⟩
      go_wp2_with fail
      refine (ref5_gcd _ _ la lb _ ha hb (by omega) (by omega)).mono ?_
      rintro e w2 ⟨vg, rfl, hg, hb2⟩
      replace hB := below_step hB hb2
      replace ha := ha.to hb2
      replace hb := hb.to hb2
      replace hg := hg.rd
      clear hb2
      rw [Hg1.out] at hg
      go_wp2_with fail
      refine (words_same _ _ [1] _ (hg.alloc _) (lit1 w2 (by omega))).mono ?_
      rintro e w3 ⟨rfl, hb3⟩
      replace hB := below_step hB (below_new2 _ hb3)
      replace ha := (ha.alloc _).to hb3
      replace hb := (hb.alloc _).to hb3
      replace hg := (hg.alloc _).to hb3
      clear hb3
      go_wp2_with fail
      refine (common_lowest _ _ la lb _ ha hb (by omega) (by omega) Hz.out).mono ?_
      rintro e w4 ⟨vx, vy, rfl, hx, hy, hb4⟩
      replace hB := below_step hB hb4
      replace ha := ha.to hb4
      replace hb := hb.to hb4
      replace hg := hg.to hb4
      replace hx := hx.rd
      replace hy := hy.rd
      clear hb4
      go_wp2_with fail
      refine (ref5_lowest _ _ la lb _ ha hb (by omega) (by omega) Hz.out).mono ?_
      rintro e w5 ⟨vu, vv, rfl, hu, hv, hb5⟩
      replace hB := below_step hB hb5
      replace ha := ha.to hb5
      replace hb := hb.to hb5
      replace hg := hg.to hb5
      replace hx := hx.to hb5
      replace hy := hy.to hb5
      replace hu := hu.rd
      replace hv := hv.rd
      clear hb5
      go_wp2_with fail
      refine (common_gcd _ _ la lb _ ha hb (by omega) (by omega)).mono ?_
      rintro e w6 ⟨vh, rfl, hh, hb6⟩
      replace hB := below_step hB hb6
      replace ha := ha.to hb6
      replace hb := hb.to hb6
      replace hg := hg.to hb6
      replace hx := hx.to hb6
      replace hy := hy.to hb6
      replace hu := hu.to hb6
      replace hv := hv.to hb6
      replace hh := hh.rd
      clear hb6
      rw [Hg1.out] at hh
      go_wp2_with fail
      refine (words_same _ _ _ _ hh hg).mono ?_
      rintro e w7 ⟨rfl, hb7⟩
      replace hB := below_step hB hb7
      replace ha := ha.to hb7
      replace hb := hb.to hb7
      replace hg := hg.to hb7
      replace hx := hx.to hb7
      replace hy := hy.to hb7
      replace hu := hu.to hb7
      replace hv := hv.to hb7
      replace hh := hh.to hb7
      clear hb7
      go_wp2_with fail
      refine (common_lcm _ _ la lb _ ha hb (by omega) (by omega)).mono ?_
      rintro e w8 ⟨vl, rfl, hl, hb8⟩
      replace hB := below_step hB hb8
      replace ha := ha.to hb8
      replace hb := hb.to hb8
      replace hg := hg.to hb8
      replace hx := hx.to hb8
      replace hy := hy.to hb8
      replace hu := hu.to hb8
      replace hv := hv.to hb8
      replace hh := hh.to hb8
      replace hl := hl.rd
      clear hb8
      go_wp2_with fail
      refine (ref5_lcm _ _ la lb _ ha hb (by omega) (by omega)).mono ?_
      rintro e w9 ⟨vm, rfl, hm, hb9⟩
      replace hB := below_step hB hb9
      replace ha := ha.to hb9
      replace hb := hb.to hb9
      replace hg := hg.to hb9
      replace hx := hx.to hb9
      replace hy := hy.to hb9
      replace hu := hu.to hb9
      replace hv := hv.to hb9
      replace hh := hh.to hb9
      replace hl := hl.to hb9
      replace hm := hm.rd
      clear hb9
      go_wp2_with fail
      refine (words_same _ _ _ _ hl hm).mono ?_
      rintro e w10 ⟨rfl, hb10⟩
      replace hB := below_step hB hb10
      replace ha := ha.to hb10
      replace hb := hb.to hb10
      replace hg := hg.to hb10
      replace hx := hx.to hb10
      replace hy := hy.to hb10
      replace hu := hu.to hb10
      replace hv := hv.to hb10
      replace hh := hh.to hb10
      replace hl := hl.to hb10
      replace hm := hm.to hb10
      clear hb10
      go_wp2_with fail
      refine (common_apart _ _ la lb true _ ha hb (by omega) (by omega) Ho).mono ?_
      rintro e w11 ⟨rfl, hb11⟩
      replace hB := below_step hB hb11
      replace ha := ha.to hb11
      replace hb := hb.to hb11
      replace hg := hg.to hb11
      replace hx := hx.to hb11
      replace hy := hy.to hb11
      replace hu := hu.to hb11
      replace hv := hv.to hb11
      replace hh := hh.to hb11
      replace hl := hl.to hb11
      replace hm := hm.to hb11
      clear hb11
      go_wp2_with fail
      refine (words_same _ _ _ _ hx hu).mono ?_
      rintro e w12 ⟨rfl, hb12⟩
      replace hB := below_step hB hb12
      replace ha := ha.to hb12
      replace hb := hb.to hb12
      replace hg := hg.to hb12
      replace hx := hx.to hb12
      replace hy := hy.to hb12
      replace hu := hu.to hb12
      replace hv := hv.to hb12
      replace hh := hh.to hb12
      replace hl := hl.to hb12
      replace hm := hm.to hb12
      clear hb12
      go_wp2_with fail
      refine (words_same _ _ _ _ hy hv).mono ?_
      rintro e w13 ⟨rfl, hb13⟩
      replace hB := below_step hB hb13
      replace ha := ha.to hb13
      replace hb := hb.to hb13
      replace hg := hg.to hb13
      replace hx := hx.to hb13
      replace hy := hy.to hb13
      replace hu := hu.to hb13
      replace hv := hv.to hb13
      replace hh := hh.to hb13
      replace hl := hl.to hb13
      replace hm := hm.to hb13
      clear hb13
      go_wp2_with fail
      go_ret
      exact ⟨by first | rfl | exact ret_bool (by first | (simp; done) | (simp; omega)), hB⟩
    · have Hz := Lib.hid hz
      have Ho : Hid ((Nat.gcd (val la) (val lb) == 1) = false) := by unfold Hid; simp [hg]
      have Hg1 := Lib.hid (show limbs (Nat.gcd (val la) (val lb)) ≠ [1] from fun e => hg (by rw [← val_limbs (Nat.gcd (val la) (val lb)), e]; rfl))
      clear hz hg
      go_enter Try.func8, Try.ntmps8
      go_wp2_with fail
      refine (awake5 _).mono ?_
      rintro e w1 ⟨rfl, hb1⟩
      have hB := hb1
      replace ha := ha.to hb1
      replace hb := hb.to hb1
      clear hb1
      go_wp2_with fail
      refine (few_yes _ _ la lb 8 _ ha hb hla hlb).mono ?_
      rintro e w' ⟨rfl, rfl⟩
      go_wp2_with fail
      refine (ref5_gcd _ _ la lb _ ha hb (by omega) (by omega)).mono ?_
      rintro e w2 ⟨vg, rfl, hg, hb2⟩
      replace hB := below_step hB hb2
      replace ha := ha.to hb2
      replace hb := hb.to hb2
      replace hg := hg.rd
      clear hb2
      go_wp2_with fail
      refine (words_diff _ _ _ [1] _ (hg.alloc _) (lit1 w2 (by omega)) Hg1.out).mono ?_
      rintro e w3 ⟨rfl, hb3⟩
      replace hB := below_step hB (below_new2 _ hb3)
      replace ha := (ha.alloc _).to hb3
      replace hb := (hb.alloc _).to hb3
      replace hg := (hg.alloc _).to hb3
      clear hb3
      go_wp2_with fail
      refine (common_lowest _ _ la lb _ ha hb (by omega) (by omega) Hz.out).mono ?_
      rintro e w4 ⟨vx, vy, rfl, hx, hy, hb4⟩
      replace hB := below_step hB hb4
      replace ha := ha.to hb4
      replace hb := hb.to hb4
      replace hg := hg.to hb4
      replace hx := hx.rd
      replace hy := hy.rd
      clear hb4
      go_wp2_with fail
      refine (ref5_lowest _ _ la lb _ ha hb (by omega) (by omega) Hz.out).mono ?_
      rintro e w5 ⟨vu, vv, rfl, hu, hv, hb5⟩
      replace hB := below_step hB hb5
      replace ha := ha.to hb5
      replace hb := hb.to hb5
      replace hg := hg.to hb5
      replace hx := hx.to hb5
      replace hy := hy.to hb5
      replace hu := hu.rd
      replace hv := hv.rd
      clear hb5
      go_wp2_with fail
      refine (common_gcd _ _ la lb _ ha hb (by omega) (by omega)).mono ?_
      rintro e w6 ⟨vh, rfl, hh, hb6⟩
      replace hB := below_step hB hb6
      replace ha := ha.to hb6
      replace hb := hb.to hb6
      replace hg := hg.to hb6
      replace hx := hx.to hb6
      replace hy := hy.to hb6
      replace hu := hu.to hb6
      replace hv := hv.to hb6
      replace hh := hh.rd
      clear hb6
      go_wp2_with fail
      refine (words_same _ _ _ _ hh hg).mono ?_
      rintro e w7 ⟨rfl, hb7⟩
      replace hB := below_step hB hb7
      replace ha := ha.to hb7
      replace hb := hb.to hb7
      replace hg := hg.to hb7
      replace hx := hx.to hb7
      replace hy := hy.to hb7
      replace hu := hu.to hb7
      replace hv := hv.to hb7
      replace hh := hh.to hb7
      clear hb7
      go_wp2_with fail
      refine (common_lcm _ _ la lb _ ha hb (by omega) (by omega)).mono ?_
      rintro e w8 ⟨vl, rfl, hl, hb8⟩
      replace hB := below_step hB hb8
      replace ha := ha.to hb8
      replace hb := hb.to hb8
      replace hg := hg.to hb8
      replace hx := hx.to hb8
      replace hy := hy.to hb8
      replace hu := hu.to hb8
      replace hv := hv.to hb8
      replace hh := hh.to hb8
      replace hl := hl.rd
      clear hb8
      go_wp2_with fail
      refine (ref5_lcm _ _ la lb _ ha hb (by omega) (by omega)).mono ?_
      rintro e w9 ⟨vm, rfl, hm, hb9⟩
      replace hB := below_step hB hb9
      replace ha := ha.to hb9
      replace hb := hb.to hb9
      replace hg := hg.to hb9
      replace hx := hx.to hb9
      replace hy := hy.to hb9
      replace hu := hu.to hb9
      replace hv := hv.to hb9
      replace hh := hh.to hb9
      replace hl := hl.to hb9
      replace hm := hm.rd
      clear hb9
      go_wp2_with fail
      refine (words_same _ _ _ _ hl hm).mono ?_
      rintro e w10 ⟨rfl, hb10⟩
      replace hB := below_step hB hb10
      replace ha := ha.to hb10
      replace hb := hb.to hb10
      replace hg := hg.to hb10
      replace hx := hx.to hb10
      replace hy := hy.to hb10
      replace hu := hu.to hb10
      replace hv := hv.to hb10
      replace hh := hh.to hb10
      replace hl := hl.to hb10
      replace hm := hm.to hb10
      clear hb10
      go_wp2_with fail
      refine (common_apart _ _ la lb false _ ha hb (by omega) (by omega) Ho).mono ?_
      rintro e w11 ⟨rfl, hb11⟩
      replace hB := below_step hB hb11
      replace ha := ha.to hb11
      replace hb := hb.to hb11
      replace hg := hg.to hb11
      replace hx := hx.to hb11
      replace hy := hy.to hb11
      replace hu := hu.to hb11
      replace hv := hv.to hb11
      replace hh := hh.to hb11
      replace hl := hl.to hb11
      replace hm := hm.to hb11
      clear hb11
      go_wp2_with fail
      refine (words_same _ _ _ _ hx hu).mono ?_
      rintro e w12 ⟨rfl, hb12⟩
      replace hB := below_step hB hb12
      replace ha := ha.to hb12
      replace hb := hb.to hb12
      replace hg := hg.to hb12
      replace hx := hx.to hb12
      replace hy := hy.to hb12
      replace hu := hu.to hb12
      replace hv := hv.to hb12
      replace hh := hh.to hb12
      replace hl := hl.to hb12
      replace hm := hm.to hb12
      clear hb12
      go_wp2_with fail
      refine (words_same _ _ _ _ hy hv).mono ?_
      rintro e w13 ⟨rfl, hb13⟩
      replace hB := below_step hB hb13
      replace ha := ha.to hb13
      replace hb := hb.to hb13
      replace hg := hg.to hb13
      replace hx := hx.to hb13
      replace hy := hy.to hb13
      replace hu := hu.to hb13
      replace hv := hv.to hb13
      replace hh := hh.to hb13
      replace hl := hl.to hb13
      replace hm := hm.to hb13
      clear hb13
      go_wp2_with fail
      go_ret
      exact ⟨by first | rfl | exact ret_bool (by first | (simp; done) | (simp; omega)), hB⟩
  · go_enter Try.func8, Try.ntmps8
    go_wp2_with fail
    refine (awake5 _).mono ?_
    rintro e w1 ⟨rfl, hb1⟩
    have hB := hb1
    replace ha := ha.to hb1
    replace hb := hb.to hb1
    clear hb1
    go_wp2_with fail
    refine (few_no _ _ la lb 8 _ ha hb hfew).mono ?_
    rintro e w' ⟨rfl, rfl⟩
    go_wp2_with fail
    go_ret
    exact ⟨by first | rfl | exact ret_bool (by first | (simp; done) | (simp; omega)), hB⟩

set_option maxRecDepth 100000 in
set_option maxHeartbeats 2000000 in
theorem walk_CommonDivides (va : Value) (la : List Nat) (vb : Value) (lb : List Nat) (vd : Value) (ld : List Nat) (w : World) (ha : Rd w va la) (hb : Rd w vb lb) (hd : Rd w vd ld) :
    Calls Try.prog 9 #[va, vb, vd] w (Holds w) := by
  have hlma := ha.len_le
  have hlmb := hb.len_le
  unfold maxLen at hlma hlmb
  have hlmd := hd.len_le
  unfold maxLen at hlmd
  obtain ⟨ad, capd, rfl⟩ := hd.shape
  by_cases hfew : (la.length : Int) ≤ 8 ∧ (lb.length : Int) ≤ 8
  · obtain ⟨hla, hlb⟩ := hfew
    have hsa := sz_val ha.1
    have hsb := sz_val hb.1
    by_cases hld : 8 < ld.length
    · skip
      go_enter Try.func9, Try.ntmps9
      go_wp2_with fail
      refine (awake5 _).mono ?_
      rintro e w1 ⟨rfl, hb1⟩
      have hB := hb1
      replace ha := ha.to hb1
      replace hb := hb.to hb1
      replace hd := hd.to hb1
      clear hb1
      go_wp2_with fail
      refine (few_yes _ _ la lb 8 _ ha hb hla hlb).mono ?_
      rintro e w' ⟨rfl, rfl⟩
      go_wp2_with fail
      go_ret
      exact ⟨by first | rfl | exact ret_bool (by first | (simp; done) | (simp; omega)), hB⟩
    have td : decide ((8 : Int) < (ld.length : Int)) = false := by simp; omega
    have hsg := sz_gcd (val la) (val lb)
    have hqa := sz_div (val la) (Nat.gcd (val la) (val lb))
    have hqb := sz_div (val lb) (Nat.gcd (val la) (val lb))
    rcases Nat.eq_zero_or_pos (val la) with hza | hza
    · have Hna := Lib.hid (show nbits (val la) = 0 by rw [hza]; rfl)
      rcases Nat.eq_zero_or_pos (val lb) with hzb | hzb
      · have Hnb := Lib.hid (show nbits (val lb) = 0 by rw [hzb]; rfl)
        clear hza hzb
        go_enter Try.func9, Try.ntmps9
        go_wp2_with fail
        refine (awake5 _).mono ?_
        rintro e w1 ⟨rfl, hb1⟩
        have hB := hb1
        replace ha := ha.to hb1
        replace hb := hb.to hb1
        replace hd := hd.to hb1
        clear hb1
        go_wp2_with fail
        refine (few_yes _ _ la lb 8 _ ha hb hla hlb).mono ?_
        rintro e w' ⟨rfl, rfl⟩
        go_wp2_with fail
        refine (nat_bits _ la _ ha (by omega)).mono ?_
        rintro e w' ⟨rfl, rfl⟩
        rw [Hna.out]
        go_wp2_with fail
        refine (nat_bits _ lb _ hb (by omega)).mono ?_
        rintro e w' ⟨rfl, rfl⟩
        rw [Hnb.out]
        go_wp2_with fail
        go_ret
        exact ⟨by first | rfl | exact ret_bool (by first | (simp; done) | (simp; omega)), hB⟩
      have hg0 : 0 < Nat.gcd (val la) (val lb) := Nat.gcd_pos_of_pos_right _ hzb
      have hnb : 0 < nbits (val lb) := Nat.pos_of_ne_zero (fun e => absurd (nbits_eq_zero.1 e) (by omega))
      have tb : ((nbits (val lb) : Int) == 0) = false := by simp; omega
      clear hza hzb
      have Hg0 := Lib.hid hg0
      have Hra := Lib.hid (show limbs (val la % (Nat.gcd (val la) (val lb))) = [] by rw [Nat.mod_eq_zero_of_dvd (Nat.gcd_dvd_left _ _)]; rfl)
      have Hrb := Lib.hid (show limbs (val lb % (Nat.gcd (val la) (val lb))) = [] by rw [Nat.mod_eq_zero_of_dvd (Nat.gcd_dvd_right _ _)]; rfl)
      have Hap : Hid ((Nat.gcd (val (limbs (val la / Nat.gcd (val la) (val lb)))) (val (limbs (val lb / Nat.gcd (val la) (val lb)))) == 1) = true) := by
        unfold Hid; rw [val_limbs, val_limbs, Nat.coprime_div_gcd_div_gcd hg0]; rfl
      clear hg0
      by_cases d1 : (0 < val ld ∧ val ld ∣ val la)
      · by_cases d2 : (0 < val ld ∧ val ld ∣ val lb)
        · have Hd1 : Goes (val ld) (val la) true := ⟨fun _ => d1, fun _ => rfl⟩
          have Hd2 : Goes (val ld) (val lb) true := ⟨fun _ => d2, fun _ => rfl⟩
          have Hd3 : Goes (val ld) (val (limbs (Nat.gcd (val la) (val lb)))) true := ⟨fun _ => ⟨d1.1, by rw [val_limbs]; exact Nat.dvd_gcd d1.2 d2.2⟩, fun _ => rfl⟩
          clear d1 d2
          go_enter Try.func9, Try.ntmps9
          go_wp2_with fail
          refine (awake5 _).mono ?_
          rintro e w1 ⟨rfl, hb1⟩
          have hB := hb1
          replace ha := ha.to hb1
          replace hb := hb.to hb1
          replace hd := hd.to hb1
          clear hb1
          go_wp2_with fail
          refine (few_yes _ _ la lb 8 _ ha hb hla hlb).mono ?_
          rintro e w' ⟨rfl, rfl⟩
          go_wp2_with fail
          refine (nat_bits _ la _ ha (by omega)).mono ?_
          rintro e w' ⟨rfl, rfl⟩
          rw [Hna.out]
          go_wp2_with fail
          refine (nat_bits _ lb _ hb (by omega)).mono ?_
          rintro e w' ⟨rfl, rfl⟩
          go_wp2_with fail
          refine (common_gcd _ _ la lb _ ha hb (by omega) (by omega)).mono ?_
          rintro e w2 ⟨vg, rfl, hg, hb2⟩
          replace hB := below_step hB hb2
          replace ha := ha.to hb2
          replace hb := hb.to hb2
          replace hd := hd.to hb2
          replace hg := hg.rd
          clear hb2
          go_wp2_with fail
          refine (split_div _ _ la _ _ ha hg (by omega) (by show sz _ ≤ _; omega) (by rw [val_limbs]; exact Hg0.out)).mono ?_
          rintro e w3 ⟨vx, vr, rfl, hx, hr, hb3⟩
          replace hB := below_step hB hb3
          replace ha := ha.to hb3
          replace hb := hb.to hb3
          replace hd := hd.to hb3
          replace hg := hg.to hb3
          rw [val_limbs, Hra.out] at hr
          obtain ⟨ar, cr, rfl⟩ := hr.rd.shape
          replace hx := hx.rd
          rw [val_limbs] at hx
          clear hb3 hr
          go_wp2_with fail
          refine (split_div _ _ lb _ _ hb hg (by omega) (by show sz _ ≤ _; omega) (by rw [val_limbs]; exact Hg0.out)).mono ?_
          rintro e w4 ⟨vy, vs, rfl, hy, hs, hb4⟩
          replace hB := below_step hB hb4
          replace ha := ha.to hb4
          replace hb := hb.to hb4
          replace hd := hd.to hb4
          replace hg := hg.to hb4
          replace hx := hx.to hb4
          rw [val_limbs, Hrb.out] at hs
          obtain ⟨as0, cs, rfl⟩ := hs.rd.shape
          replace hy := hy.rd
          rw [val_limbs] at hy
          clear hb4 hs
          go_wp2_with fail
          refine (goes_any _ _ ld la true _ hd ha (by omega) (by omega) Hd1).mono ?_
          rintro e w5 ⟨rfl, hb5⟩
          replace hB := below_step hB hb5
          replace ha := ha.to hb5
          replace hb := hb.to hb5
          replace hd := hd.to hb5
          replace hg := hg.to hb5
          replace hx := hx.to hb5
          replace hy := hy.to hb5
          clear hb5
          go_wp2_with fail
          refine (goes_any _ _ ld lb true _ hd hb (by omega) (by omega) Hd2).mono ?_
          rintro e w6 ⟨rfl, hb6⟩
          replace hB := below_step hB hb6
          replace ha := ha.to hb6
          replace hb := hb.to hb6
          replace hd := hd.to hb6
          replace hg := hg.to hb6
          replace hx := hx.to hb6
          replace hy := hy.to hb6
          clear hb6
          go_wp2_with fail
          refine (goes_any _ _ ld _ true _ hd hg (by omega) (by show sz _ ≤ _; omega) Hd3).mono ?_
          rintro e w7 ⟨rfl, hb7⟩
          replace hB := below_step hB hb7
          replace ha := ha.to hb7
          replace hb := hb.to hb7
          replace hd := hd.to hb7
          replace hg := hg.to hb7
          replace hx := hx.to hb7
          replace hy := hy.to hb7
          clear hb7
          go_wp2_with fail
          refine (common_apart _ _ _ _ true _ hx hy (by show sz _ ≤ _; omega) (by show sz _ ≤ _; omega) Hap).mono ?_
          rintro e w8 ⟨rfl, hb8⟩
          replace hB := below_step hB hb8
          replace ha := ha.to hb8
          replace hb := hb.to hb8
          replace hd := hd.to hb8
          replace hg := hg.to hb8
          replace hx := hx.to hb8
          replace hy := hy.to hb8
          clear hb8
          go_wp2_with fail
          refine (common_gcd _ _ lb la _ hb ha (by omega) (by omega)).mono ?_
          rintro e w9 ⟨vk, rfl, hk, hb9⟩
          replace hB := below_step hB hb9
          replace ha := ha.to hb9
          replace hb := hb.to hb9
          replace hd := hd.to hb9
          replace hg := hg.to hb9
          replace hx := hx.to hb9
          replace hy := hy.to hb9
          replace hk := hk.rd
          clear hb9
          rw [Nat.gcd_comm (val lb)] at hk
          go_wp2_with fail
          refine (words_same _ _ _ _ hk hg).mono ?_
          rintro e w10 ⟨rfl, hb10⟩
          replace hB := below_step hB hb10
          replace ha := ha.to hb10
          replace hb := hb.to hb10
          replace hd := hd.to hb10
          replace hg := hg.to hb10
          replace hx := hx.to hb10
          replace hy := hy.to hb10
          replace hk := hk.to hb10
          clear hb10
          go_wp2_with fail
          go_ret
          exact ⟨by first | rfl | exact ret_bool (by first | (simp; done) | (simp; omega)), hB⟩
        · have Hd1 : Goes (val ld) (val la) true := ⟨fun _ => d1, fun _ => rfl⟩
          have Hd2 : Goes (val ld) (val lb) false := ⟨fun e => (by cases e), fun e => absurd e d2⟩
          clear d1 d2
          go_enter Try.func9, Try.ntmps9
          go_wp2_with fail
          refine (awake5 _).mono ?_
          rintro e w1 ⟨rfl, hb1⟩
          have hB := hb1
          replace ha := ha.to hb1
          replace hb := hb.to hb1
          replace hd := hd.to hb1
          clear hb1
          go_wp2_with fail
          refine (few_yes _ _ la lb 8 _ ha hb hla hlb).mono ?_
          rintro e w' ⟨rfl, rfl⟩
          go_wp2_with fail
          refine (nat_bits _ la _ ha (by omega)).mono ?_
          rintro e w' ⟨rfl, rfl⟩
          rw [Hna.out]
          go_wp2_with fail
          refine (nat_bits _ lb _ hb (by omega)).mono ?_
          rintro e w' ⟨rfl, rfl⟩
          go_wp2_with fail
          refine (common_gcd _ _ la lb _ ha hb (by omega) (by omega)).mono ?_
          rintro e w2 ⟨vg, rfl, hg, hb2⟩
          replace hB := below_step hB hb2
          replace ha := ha.to hb2
          replace hb := hb.to hb2
          replace hd := hd.to hb2
          replace hg := hg.rd
          clear hb2
          go_wp2_with fail
          refine (split_div _ _ la _ _ ha hg (by omega) (by show sz _ ≤ _; omega) (by rw [val_limbs]; exact Hg0.out)).mono ?_
          rintro e w3 ⟨vx, vr, rfl, hx, hr, hb3⟩
          replace hB := below_step hB hb3
          replace ha := ha.to hb3
          replace hb := hb.to hb3
          replace hd := hd.to hb3
          replace hg := hg.to hb3
          rw [val_limbs, Hra.out] at hr
          obtain ⟨ar, cr, rfl⟩ := hr.rd.shape
          replace hx := hx.rd
          rw [val_limbs] at hx
          clear hb3 hr
          go_wp2_with fail
          refine (split_div _ _ lb _ _ hb hg (by omega) (by show sz _ ≤ _; omega) (by rw [val_limbs]; exact Hg0.out)).mono ?_
          rintro e w4 ⟨vy, vs, rfl, hy, hs, hb4⟩
          replace hB := below_step hB hb4
          replace ha := ha.to hb4
          replace hb := hb.to hb4
          replace hd := hd.to hb4
          replace hg := hg.to hb4
          replace hx := hx.to hb4
          rw [val_limbs, Hrb.out] at hs
          obtain ⟨as0, cs, rfl⟩ := hs.rd.shape
          replace hy := hy.rd
          rw [val_limbs] at hy
          clear hb4 hs
          go_wp2_with fail
          refine (goes_any _ _ ld la true _ hd ha (by omega) (by omega) Hd1).mono ?_
          rintro e w5 ⟨rfl, hb5⟩
          replace hB := below_step hB hb5
          replace ha := ha.to hb5
          replace hb := hb.to hb5
          replace hd := hd.to hb5
          replace hg := hg.to hb5
          replace hx := hx.to hb5
          replace hy := hy.to hb5
          clear hb5
          go_wp2_with fail
          refine (goes_any _ _ ld lb false _ hd hb (by omega) (by omega) Hd2).mono ?_
          rintro e w6 ⟨rfl, hb6⟩
          replace hB := below_step hB hb6
          replace ha := ha.to hb6
          replace hb := hb.to hb6
          replace hd := hd.to hb6
          replace hg := hg.to hb6
          replace hx := hx.to hb6
          replace hy := hy.to hb6
          clear hb6
          go_wp2_with fail
          refine (common_apart _ _ _ _ true _ hx hy (by show sz _ ≤ _; omega) (by show sz _ ≤ _; omega) Hap).mono ?_
          rintro e w7 ⟨rfl, hb7⟩
          replace hB := below_step hB hb7
          replace ha := ha.to hb7
          replace hb := hb.to hb7
          replace hd := hd.to hb7
          replace hg := hg.to hb7
          replace hx := hx.to hb7
          replace hy := hy.to hb7
          clear hb7
          go_wp2_with fail
          refine (common_gcd _ _ lb la _ hb ha (by omega) (by omega)).mono ?_
          rintro e w8 ⟨vk, rfl, hk, hb8⟩
          replace hB := below_step hB hb8
          replace ha := ha.to hb8
          replace hb := hb.to hb8
          replace hd := hd.to hb8
          replace hg := hg.to hb8
          replace hx := hx.to hb8
          replace hy := hy.to hb8
          replace hk := hk.rd
          clear hb8
          rw [Nat.gcd_comm (val lb)] at hk
          go_wp2_with fail
          refine (words_same _ _ _ _ hk hg).mono ?_
          rintro e w9 ⟨rfl, hb9⟩
          replace hB := below_step hB hb9
          replace ha := ha.to hb9
          replace hb := hb.to hb9
          replace hd := hd.to hb9
          replace hg := hg.to hb9
          replace hx := hx.to hb9
          replace hy := hy.to hb9
          replace hk := hk.to hb9
          clear hb9
          go_wp2_with fail
          go_ret
          exact ⟨by first | rfl | exact ret_bool (by first | (simp; done) | (simp; omega)), hB⟩
      · have Hd1 : Goes (val ld) (val la) false := ⟨fun e => (by cases e), fun e => absurd e d1⟩
        clear d1
        go_enter Try.func9, Try.ntmps9
        go_wp2_with fail
        refine (awake5 _).mono ?_
        rintro e w1 ⟨rfl, hb1⟩
        have hB := hb1
        replace ha := ha.to hb1
        replace hb := hb.to hb1
        replace hd := hd.to hb1
        clear hb1
        go_wp2_with fail
        refine (few_yes _ _ la lb 8 _ ha hb hla hlb).mono ?_
        rintro e w' ⟨rfl, rfl⟩
        go_wp2_with fail
        refine (nat_bits _ la _ ha (by omega)).mono ?_
        rintro e w' ⟨rfl, rfl⟩
        rw [Hna.out]
        go_wp2_with fail
        refine (nat_bits _ lb _ hb (by omega)).mono ?_
        rintro e w' ⟨rfl, rfl⟩
        go_wp2_with fail
        refine (common_gcd _ _ la lb _ ha hb (by omega) (by omega)).mono ?_
        rintro e w2 ⟨vg, rfl, hg, hb2⟩
        replace hB := below_step hB hb2
        replace ha := ha.to hb2
        replace hb := hb.to hb2
        replace hd := hd.to hb2
        replace hg := hg.rd
        clear hb2
        go_wp2_with fail
        refine (split_div _ _ la _ _ ha hg (by omega) (by show sz _ ≤ _; omega) (by rw [val_limbs]; exact Hg0.out)).mono ?_
        rintro e w3 ⟨vx, vr, rfl, hx, hr, hb3⟩
        replace hB := below_step hB hb3
        replace ha := ha.to hb3
        replace hb := hb.to hb3
        replace hd := hd.to hb3
        replace hg := hg.to hb3
        rw [val_limbs, Hra.out] at hr
        obtain ⟨ar, cr, rfl⟩ := hr.rd.shape
        replace hx := hx.rd
        rw [val_limbs] at hx
        clear hb3 hr
        go_wp2_with fail
        refine (split_div _ _ lb _ _ hb hg (by omega) (by show sz _ ≤ _; omega) (by rw [val_limbs]; exact Hg0.out)).mono ?_
        rintro e w4 ⟨vy, vs, rfl, hy, hs, hb4⟩
        replace hB := below_step hB hb4
        replace ha := ha.to hb4
        replace hb := hb.to hb4
        replace hd := hd.to hb4
        replace hg := hg.to hb4
        replace hx := hx.to hb4
        rw [val_limbs, Hrb.out] at hs
        obtain ⟨as0, cs, rfl⟩ := hs.rd.shape
        replace hy := hy.rd
        rw [val_limbs] at hy
        clear hb4 hs
        go_wp2_with fail
        refine (goes_any _ _ ld la false _ hd ha (by omega) (by omega) Hd1).mono ?_
        rintro e w5 ⟨rfl, hb5⟩
        replace hB := below_step hB hb5
        replace ha := ha.to hb5
        replace hb := hb.to hb5
        replace hd := hd.to hb5
        replace hg := hg.to hb5
        replace hx := hx.to hb5
        replace hy := hy.to hb5
        clear hb5
        go_wp2_with fail
        refine (common_apart _ _ _ _ true _ hx hy (by show sz _ ≤ _; omega) (by show sz _ ≤ _; omega) Hap).mono ?_
        rintro e w6 ⟨rfl, hb6⟩
        replace hB := below_step hB hb6
        replace ha := ha.to hb6
        replace hb := hb.to hb6
        replace hd := hd.to hb6
        replace hg := hg.to hb6
        replace hx := hx.to hb6
        replace hy := hy.to hb6
        clear hb6
        go_wp2_with fail
        refine (common_gcd _ _ lb la _ hb ha (by omega) (by omega)).mono ?_
        rintro e w7 ⟨vk, rfl, hk, hb7⟩
        replace hB := below_step hB hb7
        replace ha := ha.to hb7
        replace hb := hb.to hb7
        replace hd := hd.to hb7
        replace hg := hg.to hb7
        replace hx := hx.to hb7
        replace hy := hy.to hb7
        replace hk := hk.rd
        clear hb7
        rw [Nat.gcd_comm (val lb)] at hk
        go_wp2_with fail
        refine (words_same _ _ _ _ hk hg).mono ?_
        rintro e w8 ⟨rfl, hb8⟩
        replace hB := below_step hB hb8
        replace ha := ha.to hb8
        replace hb := hb.to hb8
        replace hd := hd.to hb8
        replace hg := hg.to hb8
        replace hx := hx.to hb8
        replace hy := hy.to hb8
        replace hk := hk.to hb8
        clear hb8
        go_wp2_with fail
        go_ret
        exact ⟨by first | rfl | exact ret_bool (by first | (simp; done) | (simp; omega)), hB⟩
    · have hg0 : 0 < Nat.gcd (val la) (val lb) := Nat.gcd_pos_of_pos_left _ hza
      have hna : 0 < nbits (val la) := Nat.pos_of_ne_zero (fun e => absurd (nbits_eq_zero.1 e) (by omega))
      have ta : ((nbits (val la) : Int) == 0) = false := by simp; omega
      clear hza
      have Hg0 := Lib.hid hg0
      have Hra := Lib.hid (show limbs (val la % (Nat.gcd (val la) (val lb))) = [] by rw [Nat.mod_eq_zero_of_dvd (Nat.gcd_dvd_left _ _)]; rfl)
      have Hrb := Lib.hid (show limbs (val lb % (Nat.gcd (val la) (val lb))) = [] by rw [Nat.mod_eq_zero_of_dvd (Nat.gcd_dvd_right _ _)]; rfl)
      have Hap : Hid ((Nat.gcd (val (limbs (val la / Nat.gcd (val la) (val lb)))) (val (limbs (val lb / Nat.gcd (val la) (val lb)))) == 1) = true) := by
        unfold Hid; rw [val_limbs, val_limbs, Nat.coprime_div_gcd_div_gcd hg0]; rfl
      clear hg0
      by_cases d1 : (0 < val ld ∧ val ld ∣ val la)
      · by_cases d2 : (0 < val ld ∧ val ld ∣ val lb)
        · have Hd1 : Goes (val ld) (val la) true := ⟨fun _ => d1, fun _ => rfl⟩
          have Hd2 : Goes (val ld) (val lb) true := ⟨fun _ => d2, fun _ => rfl⟩
          have Hd3 : Goes (val ld) (val (limbs (Nat.gcd (val la) (val lb)))) true := ⟨fun _ => ⟨d1.1, by rw [val_limbs]; exact Nat.dvd_gcd d1.2 d2.2⟩, fun _ => rfl⟩
          clear d1 d2
          go_enter Try.func9, Try.ntmps9
          go_wp2_with fail
          refine (awake5 _).mono ?_
          rintro e w1 ⟨rfl, hb1⟩
          have hB := hb1
          replace ha := ha.to hb1
          replace hb := hb.to hb1
          replace hd := hd.to hb1
          clear hb1
          go_wp2_with fail
          refine (few_yes _ _ la lb 8 _ ha hb hla hlb).mono ?_
          rintro e w' ⟨rfl, rfl⟩
          go_wp2_with fail
          refine (nat_bits _ la _ ha (by omega)).mono ?_
          rintro e w' ⟨rfl, rfl⟩
          go_wp2_with fail
          refine (common_gcd _ _ la lb _ ha hb (by omega) (by omega)).mono ?_
          rintro e w2 ⟨vg, rfl, hg, hb2⟩
          replace hB := below_step hB hb2
          replace ha := ha.to hb2
          replace hb := hb.to hb2
          replace hd := hd.to hb2
          replace hg := hg.rd
          clear hb2
          go_wp2_with fail
          refine (split_div _ _ la _ _ ha hg (by omega) (by show sz _ ≤ _; omega) (by rw [val_limbs]; exact Hg0.out)).mono ?_
          rintro e w3 ⟨vx, vr, rfl, hx, hr, hb3⟩
          replace hB := below_step hB hb3
          replace ha := ha.to hb3
          replace hb := hb.to hb3
          replace hd := hd.to hb3
          replace hg := hg.to hb3
          rw [val_limbs, Hra.out] at hr
          obtain ⟨ar, cr, rfl⟩ := hr.rd.shape
          replace hx := hx.rd
          rw [val_limbs] at hx
          clear hb3 hr
          go_wp2_with fail
          refine (split_div _ _ lb _ _ hb hg (by omega) (by show sz _ ≤ _; omega) (by rw [val_limbs]; exact Hg0.out)).mono ?_
          rintro e w4 ⟨vy, vs, rfl, hy, hs, hb4⟩
          replace hB := below_step hB hb4
          replace ha := ha.to hb4
          replace hb := hb.to hb4
          replace hd := hd.to hb4
          replace hg := hg.to hb4
          replace hx := hx.to hb4
          rw [val_limbs, Hrb.out] at hs
          obtain ⟨as0, cs, rfl⟩ := hs.rd.shape
          replace hy := hy.rd
          rw [val_limbs] at hy
          clear hb4 hs
          go_wp2_with fail
          refine (goes_any _ _ ld la true _ hd ha (by omega) (by omega) Hd1).mono ?_
          rintro e w5 ⟨rfl, hb5⟩
          replace hB := below_step hB hb5
          replace ha := ha.to hb5
          replace hb := hb.to hb5
          replace hd := hd.to hb5
          replace hg := hg.to hb5
          replace hx := hx.to hb5
          replace hy := hy.to hb5
          clear hb5
          go_wp2_with fail
          refine (goes_any _ _ ld lb true _ hd hb (by omega) (by omega) Hd2).mono ?_
          rintro e w6 ⟨rfl, hb6⟩
          replace hB := below_step hB hb6
          replace ha := ha.to hb6
          replace hb := hb.to hb6
          replace hd := hd.to hb6
          replace hg := hg.to hb6
          replace hx := hx.to hb6
          replace hy := hy.to hb6
          clear hb6
          go_wp2_with fail
          refine (goes_any _ _ ld _ true _ hd hg (by omega) (by show sz _ ≤ _; omega) Hd3).mono ?_
          rintro e w7 ⟨rfl, hb7⟩
          replace hB := below_step hB hb7
          replace ha := ha.to hb7
          replace hb := hb.to hb7
          replace hd := hd.to hb7
          replace hg := hg.to hb7
          replace hx := hx.to hb7
          replace hy := hy.to hb7
          clear hb7
          go_wp2_with fail
          refine (common_apart _ _ _ _ true _ hx hy (by show sz _ ≤ _; omega) (by show sz _ ≤ _; omega) Hap).mono ?_
          rintro e w8 ⟨rfl, hb8⟩
          replace hB := below_step hB hb8
          replace ha := ha.to hb8
          replace hb := hb.to hb8
          replace hd := hd.to hb8
          replace hg := hg.to hb8
          replace hx := hx.to hb8
          replace hy := hy.to hb8
          clear hb8
          go_wp2_with fail
          refine (common_gcd _ _ lb la _ hb ha (by omega) (by omega)).mono ?_
          rintro e w9 ⟨vk, rfl, hk, hb9⟩
          replace hB := below_step hB hb9
          replace ha := ha.to hb9
          replace hb := hb.to hb9
          replace hd := hd.to hb9
          replace hg := hg.to hb9
          replace hx := hx.to hb9
          replace hy := hy.to hb9
          replace hk := hk.rd
          clear hb9
          rw [Nat.gcd_comm (val lb)] at hk
          go_wp2_with fail
          refine (words_same _ _ _ _ hk hg).mono ?_
          rintro e w10 ⟨rfl, hb10⟩
          replace hB := below_step hB hb10
          replace ha := ha.to hb10
          replace hb := hb.to hb10
          replace hd := hd.to hb10
          replace hg := hg.to hb10
          replace hx := hx.to hb10
          replace hy := hy.to hb10
          replace hk := hk.to hb10
          clear hb10
          go_wp2_with fail
          go_ret
          exact ⟨by first | rfl | exact ret_bool (by first | (simp; done) | (simp; omega)), hB⟩
        · have Hd1 : Goes (val ld) (val la) true := ⟨fun _ => d1, fun _ => rfl⟩
          have Hd2 : Goes (val ld) (val lb) false := ⟨fun e => (by cases e), fun e => absurd e d2⟩
          clear d1 d2
          go_enter Try.func9, Try.ntmps9
          go_wp2_with fail
          refine (awake5 _).mono ?_
          rintro e w1 ⟨rfl, hb1⟩
          have hB := hb1
          replace ha := ha.to hb1
          replace hb := hb.to hb1
          replace hd := hd.to hb1
          clear hb1
          go_wp2_with fail
          refine (few_yes _ _ la lb 8 _ ha hb hla hlb).mono ?_
          rintro e w' ⟨rfl, rfl⟩
          go_wp2_with fail
          refine (nat_bits _ la _ ha (by omega)).mono ?_
          rintro e w' ⟨rfl, rfl⟩
          go_wp2_with fail
          refine (common_gcd _ _ la lb _ ha hb (by omega) (by omega)).mono ?_
          rintro e w2 ⟨vg, rfl, hg, hb2⟩
          replace hB := below_step hB hb2
          replace ha := ha.to hb2
          replace hb := hb.to hb2
          replace hd := hd.to hb2
          replace hg := hg.rd
          clear hb2
          go_wp2_with fail
          refine (split_div _ _ la _ _ ha hg (by omega) (by show sz _ ≤ _; omega) (by rw [val_limbs]; exact Hg0.out)).mono ?_
          rintro e w3 ⟨vx, vr, rfl, hx, hr, hb3⟩
          replace hB := below_step hB hb3
          replace ha := ha.to hb3
          replace hb := hb.to hb3
          replace hd := hd.to hb3
          replace hg := hg.to hb3
          rw [val_limbs, Hra.out] at hr
          obtain ⟨ar, cr, rfl⟩ := hr.rd.shape
          replace hx := hx.rd
          rw [val_limbs] at hx
          clear hb3 hr
          go_wp2_with fail
          refine (split_div _ _ lb _ _ hb hg (by omega) (by show sz _ ≤ _; omega) (by rw [val_limbs]; exact Hg0.out)).mono ?_
          rintro e w4 ⟨vy, vs, rfl, hy, hs, hb4⟩
          replace hB := below_step hB hb4
          replace ha := ha.to hb4
          replace hb := hb.to hb4
          replace hd := hd.to hb4
          replace hg := hg.to hb4
          replace hx := hx.to hb4
          rw [val_limbs, Hrb.out] at hs
          obtain ⟨as0, cs, rfl⟩ := hs.rd.shape
          replace hy := hy.rd
          rw [val_limbs] at hy
          clear hb4 hs
          go_wp2_with fail
          refine (goes_any _ _ ld la true _ hd ha (by omega) (by omega) Hd1).mono ?_
          rintro e w5 ⟨rfl, hb5⟩
          replace hB := below_step hB hb5
          replace ha := ha.to hb5
          replace hb := hb.to hb5
          replace hd := hd.to hb5
          replace hg := hg.to hb5
          replace hx := hx.to hb5
          replace hy := hy.to hb5
          clear hb5
          go_wp2_with fail
          refine (goes_any _ _ ld lb false _ hd hb (by omega) (by omega) Hd2).mono ?_
          rintro e w6 ⟨rfl, hb6⟩
          replace hB := below_step hB hb6
          replace ha := ha.to hb6
          replace hb := hb.to hb6
          replace hd := hd.to hb6
          replace hg := hg.to hb6
          replace hx := hx.to hb6
          replace hy := hy.to hb6
          clear hb6
          go_wp2_with fail
          refine (common_apart _ _ _ _ true _ hx hy (by show sz _ ≤ _; omega) (by show sz _ ≤ _; omega) Hap).mono ?_
          rintro e w7 ⟨rfl, hb7⟩
          replace hB := below_step hB hb7
          replace ha := ha.to hb7
          replace hb := hb.to hb7
          replace hd := hd.to hb7
          replace hg := hg.to hb7
          replace hx := hx.to hb7
          replace hy := hy.to hb7
          clear hb7
          go_wp2_with fail
          refine (common_gcd _ _ lb la _ hb ha (by omega) (by omega)).mono ?_
          rintro e w8 ⟨vk, rfl, hk, hb8⟩
          replace hB := below_step hB hb8
          replace ha := ha.to hb8
          replace hb := hb.to hb8
          replace hd := hd.to hb8
          replace hg := hg.to hb8
          replace hx := hx.to hb8
          replace hy := hy.to hb8
          replace hk := hk.rd
          clear hb8
          rw [Nat.gcd_comm (val lb)] at hk
          go_wp2_with fail
          refine (words_same _ _ _ _ hk hg).mono ?_
          rintro e w9 ⟨rfl, hb9⟩
          replace hB := below_step hB hb9
          replace ha := ha.to hb9
          replace hb := hb.to hb9
          replace hd := hd.to hb9
          replace hg := hg.to hb9
          replace hx := hx.to hb9
          replace hy := hy.to hb9
          replace hk := hk.to hb9
          clear hb9
          go_wp2_with fail
          go_ret
          exact ⟨by first | rfl | exact ret_bool (by first | (simp; done) | (simp; omega)), hB⟩
      · have Hd1 : Goes (val ld) (val la) false := ⟨fun e => (by cases e), fun e => absurd e d1⟩
        clear d1
        go_enter Try.func9, Try.ntmps9
        go_wp2_with fail
        refine (awake5 _).mono ?_
        rintro e w1 ⟨rfl, hb1⟩
        have hB := hb1
        replace ha := ha.to hb1
        replace hb := hb.to hb1
        replace hd := hd.to hb1
        clear hb1
        go_wp2_with fail
        refine (few_yes _ _ la lb 8 _ ha hb hla hlb).mono ?_
        rintro e w' ⟨rfl, rfl⟩
        go_wp2_with fail
        refine (nat_bits _ la _ ha (by omega)).mono ?_
        rintro e w' ⟨rfl, rfl⟩
        go_wp2_with fail
        refine (common_gcd _ _ la lb _ ha hb (by omega) (by omega)).mono ?_
        rintro e w2 ⟨vg, rfl, hg, hb2⟩
        replace hB := below_step hB hb2
        replace ha := ha.to hb2
        replace hb := hb.to hb2
        replace hd := hd.to hb2
        replace hg := hg.rd
        clear hb2
        go_wp2_with fail
        refine (split_div _ _ la _ _ ha hg (by omega) (by show sz _ ≤ _; omega) (by rw [val_limbs]; exact Hg0.out)).mono ?_
        rintro e w3 ⟨vx, vr, rfl, hx, hr, hb3⟩
        replace hB := below_step hB hb3
        replace ha := ha.to hb3
        replace hb := hb.to hb3
        replace hd := hd.to hb3
        replace hg := hg.to hb3
        rw [val_limbs, Hra.out] at hr
        obtain ⟨ar, cr, rfl⟩ := hr.rd.shape
        replace hx := hx.rd
        rw [val_limbs] at hx
        clear hb3 hr
        go_wp2_with fail
        refine (split_div _ _ lb _ _ hb hg (by omega) (by show sz _ ≤ _; omega) (by rw [val_limbs]; exact Hg0.out)).mono ?_
        rintro e w4 ⟨vy, vs, rfl, hy, hs, hb4⟩
        replace hB := below_step hB hb4
        replace ha := ha.to hb4
        replace hb := hb.to hb4
        replace hd := hd.to hb4
        replace hg := hg.to hb4
        replace hx := hx.to hb4
        rw [val_limbs, Hrb.out] at hs
        obtain ⟨as0, cs, rfl⟩ := hs.rd.shape
        replace hy := hy.rd
        rw [val_limbs] at hy
        clear hb4 hs
        go_wp2_with fail
        refine (goes_any _ _ ld la false _ hd ha (by omega) (by omega) Hd1).mono ?_
        rintro e w5 ⟨rfl, hb5⟩
        replace hB := below_step hB hb5
        replace ha := ha.to hb5
        replace hb := hb.to hb5
        replace hd := hd.to hb5
        replace hg := hg.to hb5
        replace hx := hx.to hb5
        replace hy := hy.to hb5
        clear hb5
        go_wp2_with fail
        refine (common_apart _ _ _ _ true _ hx hy (by show sz _ ≤ _; omega) (by show sz _ ≤ _; omega) Hap).mono ?_
        rintro e w6 ⟨rfl, hb6⟩
        replace hB := below_step hB hb6
        replace ha := ha.to hb6
        replace hb := hb.to hb6
        replace hd := hd.to hb6
        replace hg := hg.to hb6
        replace hx := hx.to hb6
        replace hy := hy.to hb6
        clear hb6
        go_wp2_with fail
        refine (common_gcd _ _ lb la _ hb ha (by omega) (by omega)).mono ?_
        rintro e w7 ⟨vk, rfl, hk, hb7⟩
        replace hB := below_step hB hb7
        replace ha := ha.to hb7
        replace hb := hb.to hb7
        replace hd := hd.to hb7
        replace hg := hg.to hb7
        replace hx := hx.to hb7
        replace hy := hy.to hb7
        replace hk := hk.rd
        clear hb7
        rw [Nat.gcd_comm (val lb)] at hk
        go_wp2_with fail
        refine (words_same _ _ _ _ hk hg).mono ?_
        rintro e w8 ⟨rfl, hb8⟩
        replace hB := below_step hB hb8
        replace ha := ha.to hb8
        replace hb := hb.to hb8
        replace hd := hd.to hb8
        replace hg := hg.to hb8
        replace hx := hx.to hb8
        replace hy := hy.to hb8
        replace hk := hk.to hb8
        clear hb8
        go_wp2_with fail
        go_ret
        exact ⟨by first | rfl | exact ret_bool (by first | (simp; done) | (simp; omega)), hB⟩
  · go_enter Try.func9, Try.ntmps9
    go_wp2_with fail
    refine (awake5 _).mono ?_
    rintro e w1 ⟨rfl, hb1⟩
    have hB := hb1
    replace ha := ha.to hb1
    replace hb := hb.to hb1
    replace hd := hd.to hb1
    clear hb1
    go_wp2_with fail
    refine (few_no _ _ la lb 8 _ ha hb hfew).mono ?_
    rintro e w' ⟨rfl, rfl⟩
    go_wp2_with fail
    go_ret
    exact ⟨by first | rfl | exact ret_bool (by first | (simp; done) | (simp; omega)), hB⟩

set_option maxRecDepth 100000 in
set_option maxHeartbeats 2000000 in
theorem walk_CommonTimes (va : Value) (la : List Nat) (vb : Value) (lb : List Nat) (vc : Value) (lc : List Nat) (w : World) (ha : Rd w va la) (hb : Rd w vb lb) (hc : Rd w vc lc) :
    Calls Try.prog 13 #[va, vb, vc] w (Holds w) := by
  have hlma := ha.len_le
  have hlmb := hb.len_le
  unfold maxLen at hlma hlmb
  have hlmc := hc.len_le
  unfold maxLen at hlmc
  obtain ⟨ac, capc, rfl⟩ := hc.shape
  by_cases hfew : (la.length : Int) ≤ 8 ∧ (lb.length : Int) ≤ 8
  · obtain ⟨hla, hlb⟩ := hfew
    have hsa := sz_val ha.1
    have hsb := sz_val hb.1
    by_cases hlc : 8 < lc.length
    · skip
      go_enter Try.func13, Try.ntmps13
      go_wp2_with fail
      refine (awake5 _).mono ?_
      rintro e w1 ⟨rfl, hb1⟩
      have hB := hb1
      replace ha := ha.to hb1
      replace hb := hb.to hb1
      replace hc := hc.to hb1
      clear hb1
      go_wp2_with fail
      refine (few_yes _ _ la lb 8 _ ha hb hla hlb).mono ?_
      rintro e w' ⟨rfl, rfl⟩
      go_wp2_with fail
      go_ret
      exact ⟨by first | rfl | exact ret_bool (by first | (simp; done) | (simp; omega)), hB⟩
    have h1 := sz_mul (val la) (val lc)
    have h2 := sz_mul (val lb) (val lc)
    have hsc := sz_val hc.1
    have hsg := sz_gcd (val la) (val lb)
    have h3 := sz_sub (val la) (val lb)
    have h4 := sz_add (val la) (val lb)
    have Hga := Lib.hid (show Nat.gcd (val la) (val la + val lb) = Nat.gcd (val la) (val lb) by rw [Nat.add_comm]; exact Nat.gcd_add_self_right _ _)
    by_cases hle : val lb ≤ val la
    · have Hle := Lib.hid hle
      have Hgs := Lib.hid (show Nat.gcd (val la - val lb) (val lb) = Nat.gcd (val la) (val lb) from gcd_minus hle)
      clear hle
      go_enter Try.func13, Try.ntmps13
      go_wp2_with fail
      refine (awake5 _).mono ?_
      rintro e w1 ⟨rfl, hb1⟩
      have hB := hb1
      replace ha := ha.to hb1
      replace hb := hb.to hb1
      replace hc := hc.to hb1
      clear hb1
      go_wp2_with fail
      refine (few_yes _ _ la lb 8 _ ha hb hla hlb).mono ?_
      rintro e w' ⟨rfl, rfl⟩
      go_wp2_with fail
      refine (common_gcd _ _ la lb _ ha hb (by omega) (by omega)).mono ?_
      rintro e w2 ⟨vg, rfl, hg, hb2⟩
      replace hB := below_step hB hb2
      replace ha := ha.to hb2
      replace hb := hb.to hb2
      replace hc := hc.to hb2
      replace hg := hg.rd
      clear hb2
      go_wp2_with fail
      refine (nat_sub _ _ la lb _ ha hb (by omega) Hle.out).mono ?_
      rintro e w3 ⟨vd, rfl, hd, hb3⟩
      replace hB := below_step hB hb3
      replace ha := ha.to hb3
      replace hb := hb.to hb3
      replace hc := hc.to hb3
      replace hg := hg.to hb3
      replace hd := hd.rd
      clear hb3
      go_wp2_with fail
      refine (common_gcd _ _ _ lb _ hd hb (by show sz _ ≤ _; omega) (by omega)).mono ?_
      rintro e w4 ⟨vk, rfl, hk, hb4⟩
      replace hB := below_step hB hb4
      replace ha := ha.to hb4
      replace hb := hb.to hb4
      replace hc := hc.to hb4
      replace hg := hg.to hb4
      replace hd := hd.to hb4
      replace hk : Rd w4 vk (limbs (Nat.gcd (val la - val lb) (val lb))) := by have := hk.rd; (try simp only [val_limbs, Nat.add_sub_cancel] at this); exact this
      clear hb4
      rw [Hgs.out] at hk
      go_wp2_with fail
      refine (words_same _ _ _ _ hk hg).mono ?_
      rintro e w5 ⟨rfl, hb5⟩
      replace hB := below_step hB hb5
      replace ha := ha.to hb5
      replace hb := hb.to hb5
      replace hc := hc.to hb5
      replace hg := hg.to hb5
      replace hd := hd.to hb5
      replace hk := hk.to hb5
      clear hb5
      go_wp2_with fail
      refine (times_mul _ _ la lc _ ha hc (by omega) (by omega)).mono ?_
      rintro e w6 ⟨vm, rfl, hm, hb6⟩
      replace hB := below_step hB hb6
      replace ha := ha.to hb6
      replace hb := hb.to hb6
      replace hc := hc.to hb6
      replace hg := hg.to hb6
      replace hd := hd.to hb6
      replace hk := hk.to hb6
      replace hm : Rd w6 vm (limbs (val la * val lc)) := by have := hm.rd; (try simp only [val_limbs, Nat.add_sub_cancel] at this); exact this
      clear hb6
      go_wp2_with fail
      refine (times_mul _ _ lb lc _ hb hc (by omega) (by omega)).mono ?_
      rintro e w7 ⟨vn, rfl, hn, hb7⟩
      replace hB := below_step hB hb7
      replace ha := ha.to hb7
      replace hb := hb.to hb7
      replace hc := hc.to hb7
      replace hg := hg.to hb7
      replace hd := hd.to hb7
      replace hk := hk.to hb7
      replace hm := hm.to hb7
      replace hn : Rd w7 vn (limbs (val lb * val lc)) := by have := hn.rd; (try simp only [val_limbs, Nat.add_sub_cancel] at this); exact this
      clear hb7
      go_wp2_with fail
      refine (common_gcd _ _ _ _ _ hm hn (by show sz _ ≤ _; omega) (by show sz _ ≤ _; omega)).mono ?_
      rintro e w8 ⟨vp, rfl, hp, hb8⟩
      replace hB := below_step hB hb8
      replace ha := ha.to hb8
      replace hb := hb.to hb8
      replace hc := hc.to hb8
      replace hg := hg.to hb8
      replace hd := hd.to hb8
      replace hk := hk.to hb8
      replace hm := hm.to hb8
      replace hn := hn.to hb8
      replace hp : Rd w8 vp (limbs (Nat.gcd (val la * val lc) (val lb * val lc))) := by have := hp.rd; (try simp only [val_limbs, Nat.add_sub_cancel] at this); exact this
      clear hb8
      rw [Nat.gcd_mul_right] at hp
      go_wp2_with fail
      refine (times_mul _ _ _ lc _ hg hc (by show sz _ ≤ _; omega) (by omega)).mono ?_
      rintro e w9 ⟨vq, rfl, hq, hb9⟩
      replace hB := below_step hB hb9
      replace ha := ha.to hb9
      replace hb := hb.to hb9
      replace hc := hc.to hb9
      replace hg := hg.to hb9
      replace hd := hd.to hb9
      replace hk := hk.to hb9
      replace hm := hm.to hb9
      replace hn := hn.to hb9
      replace hp := hp.to hb9
      replace hq : Rd w9 vq (limbs (Nat.gcd (val la) (val lb) * val lc)) := by have := hq.rd; (try simp only [val_limbs, Nat.add_sub_cancel] at this); exact this
      clear hb9
      go_wp2_with fail
      refine (words_same _ _ _ _ hp hq).mono ?_
      rintro e w10 ⟨rfl, hb10⟩
      replace hB := below_step hB hb10
      replace ha := ha.to hb10
      replace hb := hb.to hb10
      replace hc := hc.to hb10
      replace hg := hg.to hb10
      replace hd := hd.to hb10
      replace hk := hk.to hb10
      replace hm := hm.to hb10
      replace hn := hn.to hb10
      replace hp := hp.to hb10
      replace hq := hq.to hb10
      clear hb10
      go_wp2_with fail
      refine (nat_add _ _ la lb _ ha hb (by omega) (by omega)).mono ?_
      rintro e w11 ⟨vs, rfl, hs, hb11⟩
      replace hB := below_step hB hb11
      replace ha := ha.to hb11
      replace hb := hb.to hb11
      replace hc := hc.to hb11
      replace hg := hg.to hb11
      replace hd := hd.to hb11
      replace hk := hk.to hb11
      replace hm := hm.to hb11
      replace hn := hn.to hb11
      replace hp := hp.to hb11
      replace hq := hq.to hb11
      replace hs : Rd w11 vs (limbs (val la + val lb)) := by have := hs.rd; (try simp only [val_limbs, Nat.add_sub_cancel] at this); exact this
      clear hb11
      go_wp2_with fail
      refine (common_gcd _ _ la _ _ ha hs (by omega) (by show sz _ ≤ _; omega)).mono ?_
      rintro e w12 ⟨vt, rfl, ht, hb12⟩
      replace hB := below_step hB hb12
      replace ha := ha.to hb12
      replace hb := hb.to hb12
      replace hc := hc.to hb12
      replace hg := hg.to hb12
      replace hd := hd.to hb12
      replace hk := hk.to hb12
      replace hm := hm.to hb12
      replace hn := hn.to hb12
      replace hp := hp.to hb12
      replace hq := hq.to hb12
      replace hs := hs.to hb12
      replace ht : Rd w12 vt (limbs (Nat.gcd (val la) (val la + val lb))) := by have := ht.rd; (try simp only [val_limbs, Nat.add_sub_cancel] at this); exact this
      clear hb12
      rw [Hga.out] at ht
      go_wp2_with fail
      refine (words_same _ _ _ _ ht hg).mono ?_
      rintro e w13 ⟨rfl, hb13⟩
      replace hB := below_step hB hb13
      replace ha := ha.to hb13
      replace hb := hb.to hb13
      replace hc := hc.to hb13
      replace hg := hg.to hb13
      replace hd := hd.to hb13
      replace hk := hk.to hb13
      replace hm := hm.to hb13
      replace hn := hn.to hb13
      replace hp := hp.to hb13
      replace hq := hq.to hb13
      replace hs := hs.to hb13
      replace ht := ht.to hb13
      clear hb13
      go_wp2_with fail
      go_ret
      exact ⟨by first | rfl | exact ret_bool (by first | (simp; done) | (simp; omega)), hB⟩
    · have Hle := Lib.hid (Nat.not_le.1 hle)
      clear hle
      go_enter Try.func13, Try.ntmps13
      go_wp2_with fail
      refine (awake5 _).mono ?_
      rintro e w1 ⟨rfl, hb1⟩
      have hB := hb1
      replace ha := ha.to hb1
      replace hb := hb.to hb1
      replace hc := hc.to hb1
      clear hb1
      go_wp2_with fail
      refine (few_yes _ _ la lb 8 _ ha hb hla hlb).mono ?_
      rintro e w' ⟨rfl, rfl⟩
      go_wp2_with fail
      refine (common_gcd _ _ la lb _ ha hb (by omega) (by omega)).mono ?_
      rintro e w2 ⟨vg, rfl, hg, hb2⟩
      replace hB := below_step hB hb2
      replace ha := ha.to hb2
      replace hb := hb.to hb2
      replace hc := hc.to hb2
      replace hg := hg.rd
      clear hb2
      go_wp2_with fail
      refine (nat_sub_no _ _ la lb _ ha hb Hle.out).mono ?_
      rintro e w3 ⟨rfl, hb3⟩
      replace hB := below_step hB hb3
      replace ha := ha.to hb3
      replace hb := hb.to hb3
      replace hc := hc.to hb3
      replace hg := hg.to hb3
      clear hb3
      go_wp2_with fail
      refine (times_mul _ _ la lc _ ha hc (by omega) (by omega)).mono ?_
      rintro e w4 ⟨vm, rfl, hm, hb4⟩
      replace hB := below_step hB hb4
      replace ha := ha.to hb4
      replace hb := hb.to hb4
      replace hc := hc.to hb4
      replace hg := hg.to hb4
      replace hm : Rd w4 vm (limbs (val la * val lc)) := by have := hm.rd; (try simp only [val_limbs, Nat.add_sub_cancel] at this); exact this
      clear hb4
      go_wp2_with fail
      refine (times_mul _ _ lb lc _ hb hc (by omega) (by omega)).mono ?_
      rintro e w5 ⟨vn, rfl, hn, hb5⟩
      replace hB := below_step hB hb5
      replace ha := ha.to hb5
      replace hb := hb.to hb5
      replace hc := hc.to hb5
      replace hg := hg.to hb5
      replace hm := hm.to hb5
      replace hn : Rd w5 vn (limbs (val lb * val lc)) := by have := hn.rd; (try simp only [val_limbs, Nat.add_sub_cancel] at this); exact this
      clear hb5
      go_wp2_with fail
      refine (common_gcd _ _ _ _ _ hm hn (by show sz _ ≤ _; omega) (by show sz _ ≤ _; omega)).mono ?_
      rintro e w6 ⟨vp, rfl, hp, hb6⟩
      replace hB := below_step hB hb6
      replace ha := ha.to hb6
      replace hb := hb.to hb6
      replace hc := hc.to hb6
      replace hg := hg.to hb6
      replace hm := hm.to hb6
      replace hn := hn.to hb6
      replace hp : Rd w6 vp (limbs (Nat.gcd (val la * val lc) (val lb * val lc))) := by have := hp.rd; (try simp only [val_limbs, Nat.add_sub_cancel] at this); exact this
      clear hb6
      rw [Nat.gcd_mul_right] at hp
      go_wp2_with fail
      refine (times_mul _ _ _ lc _ hg hc (by show sz _ ≤ _; omega) (by omega)).mono ?_
      rintro e w7 ⟨vq, rfl, hq, hb7⟩
      replace hB := below_step hB hb7
      replace ha := ha.to hb7
      replace hb := hb.to hb7
      replace hc := hc.to hb7
      replace hg := hg.to hb7
      replace hm := hm.to hb7
      replace hn := hn.to hb7
      replace hp := hp.to hb7
      replace hq : Rd w7 vq (limbs (Nat.gcd (val la) (val lb) * val lc)) := by have := hq.rd; (try simp only [val_limbs, Nat.add_sub_cancel] at this); exact this
      clear hb7
      go_wp2_with fail
      refine (words_same _ _ _ _ hp hq).mono ?_
      rintro e w8 ⟨rfl, hb8⟩
      replace hB := below_step hB hb8
      replace ha := ha.to hb8
      replace hb := hb.to hb8
      replace hc := hc.to hb8
      replace hg := hg.to hb8
      replace hm := hm.to hb8
      replace hn := hn.to hb8
      replace hp := hp.to hb8
      replace hq := hq.to hb8
      clear hb8
      go_wp2_with fail
      refine (nat_add _ _ la lb _ ha hb (by omega) (by omega)).mono ?_
      rintro e w9 ⟨vs, rfl, hs, hb9⟩
      replace hB := below_step hB hb9
      replace ha := ha.to hb9
      replace hb := hb.to hb9
      replace hc := hc.to hb9
      replace hg := hg.to hb9
      replace hm := hm.to hb9
      replace hn := hn.to hb9
      replace hp := hp.to hb9
      replace hq := hq.to hb9
      replace hs : Rd w9 vs (limbs (val la + val lb)) := by have := hs.rd; (try simp only [val_limbs, Nat.add_sub_cancel] at this); exact this
      clear hb9
      go_wp2_with fail
      refine (common_gcd _ _ la _ _ ha hs (by omega) (by show sz _ ≤ _; omega)).mono ?_
      rintro e w10 ⟨vt, rfl, ht, hb10⟩
      replace hB := below_step hB hb10
      replace ha := ha.to hb10
      replace hb := hb.to hb10
      replace hc := hc.to hb10
      replace hg := hg.to hb10
      replace hm := hm.to hb10
      replace hn := hn.to hb10
      replace hp := hp.to hb10
      replace hq := hq.to hb10
      replace hs := hs.to hb10
      replace ht : Rd w10 vt (limbs (Nat.gcd (val la) (val la + val lb))) := by have := ht.rd; (try simp only [val_limbs, Nat.add_sub_cancel] at this); exact this
      clear hb10
      rw [Hga.out] at ht
      go_wp2_with fail
      refine (words_same _ _ _ _ ht hg).mono ?_
      rintro e w11 ⟨rfl, hb11⟩
      replace hB := below_step hB hb11
      replace ha := ha.to hb11
      replace hb := hb.to hb11
      replace hc := hc.to hb11
      replace hg := hg.to hb11
      replace hm := hm.to hb11
      replace hn := hn.to hb11
      replace hp := hp.to hb11
      replace hq := hq.to hb11
      replace hs := hs.to hb11
      replace ht := ht.to hb11
      clear hb11
      go_wp2_with fail
      go_ret
      exact ⟨by first | rfl | exact ret_bool (by first | (simp; done) | (simp; omega)), hB⟩
  · go_enter Try.func13, Try.ntmps13
    go_wp2_with fail
    refine (awake5 _).mono ?_
    rintro e w1 ⟨rfl, hb1⟩
    have hB := hb1
    replace ha := ha.to hb1
    replace hb := hb.to hb1
    replace hc := hc.to hb1
    clear hb1
    go_wp2_with fail
    refine (few_no _ _ la lb 8 _ ha hb hfew).mono ?_
    rintro e w' ⟨rfl, rfl⟩
    go_wp2_with fail
    go_ret
    exact ⟨by first | rfl | exact ret_bool (by first | (simp; done) | (simp; omega)), hB⟩

end Go.Proofs.Ytjacmhlcodjhcaa
