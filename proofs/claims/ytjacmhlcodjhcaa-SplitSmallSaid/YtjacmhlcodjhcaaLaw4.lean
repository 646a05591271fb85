/-
  The walks of the statements of layer 4.
-/
import Derived.Test.YtjacmhlcodjhcaaLits
import Derived.Test.YtjacmhlcodjhcaaRef4
import Derived.Test.YtjacmhlcodjhcaaSplitRoot
namespace Go.Proofs.Ytjacmhlcodjhcaa
open Go.RowKit Tw
set_option linter.unusedVariables false
set_option linter.unusedSimpArgs false

theorem root_24 {X : Nat} (h : X * X ≤ val [24] ∧ val [24] < (X + 1) * (X + 1)) : X = 4 := by
  have e : val [24] = 24 := by decide
  rw [e] at h
  have h1 : X < 5 := Nat.lt_of_not_le fun h5 => by have := Nat.mul_le_mul h5 h5; omega
  have h2 : 3 < X := Nat.lt_of_not_le fun h3 => by have := Nat.mul_le_mul (show X + 1 ≤ 4 by omega) (show X + 1 ≤ 4 by omega); omega
  omega

theorem root_size {X A n : Nat} (h : X * X ≤ A) (hA : A < B ^ n) : sz X ≤ n := by
  apply sz_le
  rcases Nat.eq_zero_or_pos X with rfl | hX
  · exact Nat.pow_pos B_pos
  · exact Nat.lt_of_le_of_lt (Nat.le_trans (Nat.le_mul_of_pos_left X hX) h) hA

theorem root_unique {X A : Nat} (h : X * X ≤ A * A ∧ A * A < (X + 1) * (X + 1)) : X = A := by
  have h1 : X ≤ A := Nat.le_of_not_lt fun e => by have := Nat.mul_lt_mul'' e e; omega
  have h2 : A < X + 1 := Nat.lt_of_not_le fun e => by have := Nat.mul_le_mul e e; omega
  omega

theorem lit1_int (w : World) {d : Int} (d0 : 0 ≤ d) (d1 : d < 4294967296) : Rd (w.alloc (.cells #[.int .u32 d] 23)) (.slice (some ⟨w.heap.size, 0, none⟩) 1 1) [d.toNat] := by
  obtain ⟨n, rfl⟩ := Int.eq_ofNat_of_zero_le d0
  exact lit1 w (by omega)

set_option maxRecDepth 100000 in
set_option maxHeartbeats 2000000 in
theorem awake4  (w : World)  :
    Calls Try.prog 14 #[] w (Holds w) := by
  have H1 := Lib.hid (show limbs (val [0, 1] / (10 : Int).toNat) = [429496729] by decide +kernel)
  have H2 := Lib.hid (show val [0, 1] % (10 : Int).toNat = 6 by decide +kernel)
  have H3 := Lib.hid (show limbs (val [7] / val [7]) = [1] by decide +kernel)
  have H4 := Lib.hid (show limbs (val [7] % val [7]) = [] by decide +kernel)
  have H5 := Lib.hid (show limbs (val [9] / 2) = [4] by decide +kernel)
  have H6 := Lib.hid (show 0 < val [7] by decide +kernel)
  have H7 : Hid ((val [9] % 2 == 1) = true) := by unfold Hid; decide +kernel
  go_enter Try.func14, Try.ntmps14
  go_wp2_with fail
  refine (split_small _ [0, 1] 10 _ (lit2 w (by omega) (by omega)) (by simp) (by omega) (by omega)).mono ?_
  rintro e w1 ⟨vq, rfl, hq, hb1⟩
  have hB := below_new2 _ hb1
  replace hq := hq.rd
  rw [H1.out] at hq
  rw [H2.out]
  clear hb1
  go_wp2_with fail
  refine (split_div _ _ [7] [7] _ ((lit1 w1 (by omega)).alloc _) (lit1_at (w1.alloc _) (by simp) (by omega)) (by simp) (by simp) H6.out).mono ?_
  rintro e w2 ⟨vp, vs, rfl, hp, hs, hb2⟩
  replace hB := below_step hB (below_new2 _ (below_new2 _ hb2))
  replace hq := ((hq.alloc _).alloc _).to hb2
  replace hp := hp.rd
  rw [H3.out] at hp
  rw [H4.out] at hs
  obtain ⟨as0, cs, rfl⟩ := hs.rd.shape
  clear hb2 hs
  go_wp2_with fail
  refine (split_half _ [9] true _ (lit1 w2 (by omega)) (by simp) H7).mono ?_
  rintro e w3 ⟨vh, rfl, hh, hb3⟩
  replace hB := below_step hB (below_new2 _ hb3)
  replace hq := (hq.alloc _).to hb3
  replace hp := (hp.alloc _).to hb3
  replace hh := hh.rd
  rw [H5.out] at hh
  clear hb3
  go_wp2_with fail
  refine (words_same _ _ [429496729] _ (hq.alloc _) (lit1 w3 (by omega))).mono ?_
  rintro e w4 ⟨rfl, hb4⟩
  replace hB := below_step hB (below_new2 _ hb4)
  replace hp := (hp.alloc _).to hb4
  replace hh := (hh.alloc _).to hb4
  clear hb4 hq
  go_wp2_with fail
  refine (words_same _ _ [1] _ (hp.alloc _) (lit1 w4 (by omega))).mono ?_
  rintro e w5 ⟨rfl, hb5⟩
  replace hB := below_step hB (below_new2 _ hb5)
  replace hh := (hh.alloc _).to hb5
  clear hb5 hp
  go_wp2_with fail
  refine (words_same _ _ [4] _ (hh.alloc _) (lit1 w5 (by omega))).mono ?_
  rintro e w6 ⟨rfl, hb6⟩
  replace hB := below_step hB (below_new2 _ hb6)
  clear hb6 hh
  go_wp2_with fail
  refine (split_root _ [24] _ (lit1 w6 (by omega)) (by simp)).mono ?_
  rintro e w7 ⟨X, vr, rfl, hr, hb7, hX⟩
  replace hB := below_step hB (below_new2 _ hb7)
  replace hr := hr.rd
  obtain rfl : X = 4 := root_24 hX.out
  rw [show limbs 4 = [4] by decide +kernel] at hr
  clear hb7 hX
  go_wp2_with fail
  refine (words_same _ _ [4] _ (hr.alloc _) (lit1 w7 (by omega))).mono ?_
  rintro e w8 ⟨rfl, hb8⟩
  replace hB := below_step hB (below_new2 _ hb8)
  clear hb8 hr
  go_wp2_with fail
  go_ret
  exact ⟨by first | rfl | exact ret_bool (by first | (simp; done) | (simp; omega)), hB⟩

set_option maxRecDepth 100000 in
set_option maxHeartbeats 2000000 in
theorem walk_SplitTells (va : Value) (la : List Nat) (vb : Value) (lb : List Nat) (d : Int) (w : World) (ha : Rd w va la) (hb : Rd w vb lb) (d0 : 0 ≤ d) (d1 : d < 4294967296) :
    Calls Try.prog 3 #[va, vb, .int .u32 d] w (Holds w) := by
  have hlma := ha.len_le
  have hlmb := hb.len_le
  unfold maxLen at hlma hlmb
  by_cases hfew : (la.length : Int) ≤ 20 ∧ (lb.length : Int) ≤ 20
  · obtain ⟨hla, hlb⟩ := hfew
    rcases Int.lt_or_eq_of_le d0 with hd0 | rfl <;> rcases Nat.eq_zero_or_pos (val lb) with hz | hz
    · have Hz := Lib.hid hz
      clear hz
      go_enter Try.func3, Try.ntmps3
      go_wp2_with fail
      refine (awake4 _).mono ?_
      rintro e w1 ⟨rfl, hb1⟩
      have hB := hb1
      replace ha := ha.to hb1
      replace hb := hb.to hb1
      clear hb1
      go_wp2_with fail
      refine (few_yes _ _ la lb 20 _ ha hb hla hlb).mono ?_
      rintro e w' ⟨rfl, rfl⟩
      go_wp2_with fail
      refine (split_div_no _ _ la lb _ ha hb (by omega) Hz.out).mono ?_
      rintro e w2 ⟨rfl, hb2⟩
      replace hB := below_step hB hb2
      replace ha := ha.to hb2
      replace hb := hb.to hb2
      clear hb2
      have hq := Rd.nil w2
      have hr := Rd.nil w2
      go_wp2_with fail
      refine (ref4_div_no _ _ la lb _ ha hb (by omega) Hz.out).mono ?_
      rintro e w3 ⟨rfl, hb3⟩
      replace hB := below_step hB hb3
      replace ha := ha.to hb3
      replace hb := hb.to hb3
      replace hq := hq.to hb3
      replace hr := hr.to hb3
      clear hb3
      have hp := Rd.nil w3
      have hs := Rd.nil w3
      go_wp2_with fail
      refine (split_small _ la d _ ha (by omega) hd0 d1).mono ?_
      rintro e w4 ⟨vu, rfl, hu, hb4⟩
      replace hB := below_step hB hb4
      replace ha := ha.to hb4
      replace hb := hb.to hb4
      replace hq := hq.to hb4
      replace hr := hr.to hb4
      replace hp := hp.to hb4
      replace hs := hs.to hb4
      replace hu := hu.rd
      clear hb4
      go_wp2_with fail
      refine (ref4_small _ la d _ ha (by omega) hd0 d1).mono ?_
      rintro e w5 ⟨vx, rfl, hx, hb5⟩
      replace hB := below_step hB hb5
      replace ha := ha.to hb5
      replace hb := hb.to hb5
      replace hq := hq.to hb5
      replace hr := hr.to hb5
      replace hp := hp.to hb5
      replace hs := hs.to hb5
      replace hu := hu.to hb5
      replace hx := hx.rd
      clear hb5
      go_wp2_with fail
      refine (words_same _ _ _ _ hq hp).mono ?_
      rintro e w6 ⟨rfl, hb6⟩
      replace hB := below_step hB hb6
      replace ha := ha.to hb6
      replace hb := hb.to hb6
      replace hq := hq.to hb6
      replace hr := hr.to hb6
      replace hp := hp.to hb6
      replace hs := hs.to hb6
      replace hu := hu.to hb6
      replace hx := hx.to hb6
      clear hb6
      go_wp2_with fail
      refine (words_same _ _ _ _ hr hs).mono ?_
      rintro e w7 ⟨rfl, hb7⟩
      replace hB := below_step hB hb7
      replace ha := ha.to hb7
      replace hb := hb.to hb7
      replace hq := hq.to hb7
      replace hr := hr.to hb7
      replace hp := hp.to hb7
      replace hs := hs.to hb7
      replace hu := hu.to hb7
      replace hx := hx.to hb7
      clear hb7
      go_wp2_with fail
      refine (words_same _ _ _ _ hu hx).mono ?_
      rintro e w8 ⟨rfl, hb8⟩
      replace hB := below_step hB hb8
      replace ha := ha.to hb8
      replace hb := hb.to hb8
      replace hq := hq.to hb8
      replace hr := hr.to hb8
      replace hp := hp.to hb8
      replace hs := hs.to hb8
      replace hu := hu.to hb8
      replace hx := hx.to hb8
      clear hb8
      go_wp2_with fail
      go_ret
      exact ⟨by first | rfl | exact ret_bool (by first | (simp; done) | (simp; omega)), hB⟩
    · have Hz := Lib.hid hz
      clear hz
      go_enter Try.func3, Try.ntmps3
      go_wp2_with fail
      refine (awake4 _).mono ?_
      rintro e w1 ⟨rfl, hb1⟩
      have hB := hb1
      replace ha := ha.to hb1
      replace hb := hb.to hb1
      clear hb1
      go_wp2_with fail
      refine (few_yes _ _ la lb 20 _ ha hb hla hlb).mono ?_
      rintro e w' ⟨rfl, rfl⟩
      go_wp2_with fail
      refine (split_div _ _ la lb _ ha hb (by omega) (by omega) Hz.out).mono ?_
      rintro e w2 ⟨vq, vr, rfl, hq, hr, hb2⟩
      replace hB := below_step hB hb2
      replace ha := ha.to hb2
      replace hb := hb.to hb2
      replace hq := hq.rd
      replace hr := hr.rd
      clear hb2
      go_wp2_with fail
      refine (ref4_div _ _ la lb _ ha hb (by omega) (by omega) Hz.out).mono ?_
      rintro e w3 ⟨vp, vs, rfl, hp, hs, hb3⟩
      replace hB := below_step hB hb3
      replace ha := ha.to hb3
      replace hb := hb.to hb3
      replace hq := hq.to hb3
      replace hr := hr.to hb3
      replace hp := hp.rd
      replace hs := hs.rd
      clear hb3
      go_wp2_with fail
      refine (split_small _ la d _ ha (by omega) hd0 d1).mono ?_
      rintro e w4 ⟨vu, rfl, hu, hb4⟩
      replace hB := below_step hB hb4
      replace ha := ha.to hb4
      replace hb := hb.to hb4
      replace hq := hq.to hb4
      replace hr := hr.to hb4
      replace hp := hp.to hb4
      replace hs := hs.to hb4
      replace hu := hu.rd
      clear hb4
      go_wp2_with fail
      refine (ref4_small _ la d _ ha (by omega) hd0 d1).mono ?_
      rintro e w5 ⟨vx, rfl, hx, hb5⟩
      replace hB := below_step hB hb5
      replace ha := ha.to hb5
      replace hb := hb.to hb5
      replace hq := hq.to hb5
      replace hr := hr.to hb5
      replace hp := hp.to hb5
      replace hs := hs.to hb5
      replace hu := hu.to hb5
      replace hx := hx.rd
      clear hb5
      go_wp2_with fail
      refine (words_same _ _ _ _ hq hp).mono ?_
      rintro e w6 ⟨rfl, hb6⟩
      replace hB := below_step hB hb6
      replace ha := ha.to hb6
      replace hb := hb.to hb6
      replace hq := hq.to hb6
      replace hr := hr.to hb6
      replace hp := hp.to hb6
      replace hs := hs.to hb6
      replace hu := hu.to hb6
      replace hx := hx.to hb6
      clear hb6
      go_wp2_with fail
      refine (words_same _ _ _ _ hr hs).mono ?_
      rintro e w7 ⟨rfl, hb7⟩
      replace hB := below_step hB hb7
      replace ha := ha.to hb7
      replace hb := hb.to hb7
      replace hq := hq.to hb7
      replace hr := hr.to hb7
      replace hp := hp.to hb7
      replace hs := hs.to hb7
      replace hu := hu.to hb7
      replace hx := hx.to hb7
      clear hb7
      go_wp2_with fail
      refine (words_same _ _ _ _ hu hx).mono ?_
      rintro e w8 ⟨rfl, hb8⟩
      replace hB := below_step hB hb8
      replace ha := ha.to hb8
      replace hb := hb.to hb8
      replace hq := hq.to hb8
      replace hr := hr.to hb8
      replace hp := hp.to hb8
      replace hs := hs.to hb8
      replace hu := hu.to hb8
      replace hx := hx.to hb8
      clear hb8
      go_wp2_with fail
      go_ret
      exact ⟨by first | rfl | exact ret_bool (by first | (simp; done) | (simp; omega)), hB⟩
    · have Hz := Lib.hid hz
      clear hz
      go_enter Try.func3, Try.ntmps3
      go_wp2_with fail
      refine (awake4 _).mono ?_
      rintro e w1 ⟨rfl, hb1⟩
      have hB := hb1
      replace ha := ha.to hb1
      replace hb := hb.to hb1
      clear hb1
      go_wp2_with fail
      refine (few_yes _ _ la lb 20 _ ha hb hla hlb).mono ?_
      rintro e w' ⟨rfl, rfl⟩
      go_wp2_with fail
      refine (split_div_no _ _ la lb _ ha hb (by omega) Hz.out).mono ?_
      rintro e w2 ⟨rfl, hb2⟩
      replace hB := below_step hB hb2
      replace ha := ha.to hb2
      replace hb := hb.to hb2
      clear hb2
      have hq := Rd.nil w2
      have hr := Rd.nil w2
      go_wp2_with fail
      refine (ref4_div_no _ _ la lb _ ha hb (by omega) Hz.out).mono ?_
      rintro e w3 ⟨rfl, hb3⟩
      replace hB := below_step hB hb3
      replace ha := ha.to hb3
      replace hb := hb.to hb3
      replace hq := hq.to hb3
      replace hr := hr.to hb3
      clear hb3
      have hp := Rd.nil w3
      have hs := Rd.nil w3
      go_wp2_with fail
      refine (split_small_no _ la _ ha).mono ?_
      rintro e w' ⟨rfl, rfl⟩
      have hu := Rd.nil w3
      go_wp2_with fail
      refine (ref4_small_no _ la _ ha).mono ?_
      rintro e w4 ⟨rfl, hb4⟩
      replace hB := below_step hB hb4
      replace ha := ha.to hb4
      replace hb := hb.to hb4
      replace hq := hq.to hb4
      replace hr := hr.to hb4
      replace hp := hp.to hb4
      replace hs := hs.to hb4
      replace hu := hu.to hb4
      clear hb4
      have hx := Rd.nil w4
      go_wp2_with fail
      refine (words_same _ _ _ _ hq hp).mono ?_
      rintro e w5 ⟨rfl, hb5⟩
      replace hB := below_step hB hb5
      replace ha := ha.to hb5
      replace hb := hb.to hb5
      replace hq := hq.to hb5
      replace hr := hr.to hb5
      replace hp := hp.to hb5
      replace hs := hs.to hb5
      replace hu := hu.to hb5
      replace hx := hx.to hb5
      clear hb5
      go_wp2_with fail
      refine (words_same _ _ _ _ hr hs).mono ?_
      rintro e w6 ⟨rfl, hb6⟩
      replace hB := below_step hB hb6
      replace ha := ha.to hb6
      replace hb := hb.to hb6
      replace hq := hq.to hb6
      replace hr := hr.to hb6
      replace hp := hp.to hb6
      replace hs := hs.to hb6
      replace hu := hu.to hb6
      replace hx := hx.to hb6
      clear hb6
      go_wp2_with fail
      refine (words_same _ _ _ _ hu hx).mono ?_
      rintro e w7 ⟨rfl, hb7⟩
      replace hB := below_step hB hb7
      replace ha := ha.to hb7
      replace hb := hb.to hb7
      replace hq := hq.to hb7
      replace hr := hr.to hb7
      replace hp := hp.to hb7
      replace hs := hs.to hb7
      replace hu := hu.to hb7
      replace hx := hx.to hb7
      clear hb7
      go_wp2_with fail
      go_ret
      exact ⟨by first | rfl | exact ret_bool (by first | (simp; done) | (simp; omega)), hB⟩
    · have Hz := Lib.hid hz
      clear hz
      go_enter Try.func3, Try.ntmps3
      go_wp2_with fail
      refine (awake4 _).mono ?_
      rintro e w1 ⟨rfl, hb1⟩
      have hB := hb1
      replace ha := ha.to hb1
      replace hb := hb.to hb1
      clear hb1
      go_wp2_with fail
      refine (few_yes _ _ la lb 20 _ ha hb hla hlb).mono ?_
      rintro e w' ⟨rfl, rfl⟩
      go_wp2_with fail
      refine (split_div _ _ la lb _ ha hb (by omega) (by omega) Hz.out).mono ?_
      rintro e w2 ⟨vq, vr, rfl, hq, hr, hb2⟩
      replace hB := below_step hB hb2
      replace ha := ha.to hb2
      replace hb := hb.to hb2
      replace hq := hq.rd
      replace hr := hr.rd
      clear hb2
      go_wp2_with fail
      refine (ref4_div _ _ la lb _ ha hb (by omega) (by omega) Hz.out).mono ?_
      rintro e w3 ⟨vp, vs, rfl, hp, hs, hb3⟩
      replace hB := below_step hB hb3
      replace ha := ha.to hb3
      replace hb := hb.to hb3
      replace hq := hq.to hb3
      replace hr := hr.to hb3
      replace hp := hp.rd
      replace hs := hs.rd
      clear hb3
      go_wp2_with fail
      refine (split_small_no _ la _ ha).mono ?_
      rintro e w' ⟨rfl, rfl⟩
      have hu := Rd.nil w3
      go_wp2_with fail
      refine (ref4_small_no _ la _ ha).mono ?_
      rintro e w4 ⟨rfl, hb4⟩
      replace hB := below_step hB hb4
      replace ha := ha.to hb4
      replace hb := hb.to hb4
      replace hq := hq.to hb4
      replace hr := hr.to hb4
      replace hp := hp.to hb4
      replace hs := hs.to hb4
      replace hu := hu.to hb4
      clear hb4
      have hx := Rd.nil w4
      go_wp2_with fail
      refine (words_same _ _ _ _ hq hp).mono ?_
      rintro e w5 ⟨rfl, hb5⟩
      replace hB := below_step hB hb5
      replace ha := ha.to hb5
      replace hb := hb.to hb5
      replace hq := hq.to hb5
      replace hr := hr.to hb5
      replace hp := hp.to hb5
      replace hs := hs.to hb5
      replace hu := hu.to hb5
      replace hx := hx.to hb5
      clear hb5
      go_wp2_with fail
      refine (words_same _ _ _ _ hr hs).mono ?_
      rintro e w6 ⟨rfl, hb6⟩
      replace hB := below_step hB hb6
      replace ha := ha.to hb6
      replace hb := hb.to hb6
      replace hq := hq.to hb6
      replace hr := hr.to hb6
      replace hp := hp.to hb6
      replace hs := hs.to hb6
      replace hu := hu.to hb6
      replace hx := hx.to hb6
      clear hb6
      go_wp2_with fail
      refine (words_same _ _ _ _ hu hx).mono ?_
      rintro e w7 ⟨rfl, hb7⟩
      replace hB := below_step hB hb7
      replace ha := ha.to hb7
      replace hb := hb.to hb7
      replace hq := hq.to hb7
      replace hr := hr.to hb7
      replace hp := hp.to hb7
      replace hs := hs.to hb7
      replace hu := hu.to hb7
      replace hx := hx.to hb7
      clear hb7
      go_wp2_with fail
      go_ret
      exact ⟨by first | rfl | exact ret_bool (by first | (simp; done) | (simp; omega)), hB⟩
  · go_enter Try.func3, Try.ntmps3
    go_wp2_with fail
    refine (awake4 _).mono ?_
    rintro e w1 ⟨rfl, hb1⟩
    have hB := hb1
    replace ha := ha.to hb1
    replace hb := hb.to hb1
    clear hb1
    go_wp2_with fail
    refine (few_no _ _ la lb 20 _ ha hb hfew).mono ?_
    rintro e w' ⟨rfl, rfl⟩
    go_wp2_with fail
    go_ret
    exact ⟨by first | rfl | exact ret_bool (by first | (simp; done) | (simp; omega)), hB⟩

set_option maxRecDepth 100000 in
set_option maxHeartbeats 2000000 in
theorem walk_SplitBack (va : Value) (la : List Nat) (vb : Value) (lb : List Nat) (w : World) (ha : Rd w va la) (hb : Rd w vb lb) :
    Calls Try.prog 6 #[va, vb] w (Holds w) := by
  have hlma := ha.len_le
  have hlmb := hb.len_le
  unfold maxLen at hlma hlmb
  by_cases hfew : (la.length : Int) ≤ 20 ∧ (lb.length : Int) ≤ 20
  · obtain ⟨hla, hlb⟩ := hfew
    have hsa := sz_val ha.1
    have hsb := sz_val hb.1
    have h1 := sz_div (val la) (val lb)
    have h2 := sz_mod (val la) (val lb)
    have h3 := sz_mul (val la / val lb) (val lb)
    rcases Nat.eq_zero_or_pos (val lb) with hz | hz
    · have Hz := Lib.hid hz
      have Hn := Lib.hid (show nbits (val lb) = 0 by rw [hz]; rfl)
      clear hz
      go_enter Try.func6, Try.ntmps6
      go_wp2_with fail
      refine (awake4 _).mono ?_
      rintro e w1 ⟨rfl, hb1⟩
      have hB := hb1
      replace ha := ha.to hb1
      replace hb := hb.to hb1
      clear hb1
      go_wp2_with fail
      refine (few_yes _ _ la lb 20 _ ha hb hla hlb).mono ?_
      rintro e w' ⟨rfl, rfl⟩
      go_wp2_with fail
      refine (split_div_no _ _ la lb _ ha hb (by omega) Hz.out).mono ?_
      rintro e w2 ⟨rfl, hb2⟩
      replace hB := below_step hB hb2
      replace ha := ha.to hb2
      replace hb := hb.to hb2
      clear hb2
      go_wp2_with fail
      refine (nat_bits _ lb _ hb (by omega)).mono ?_
      rintro e w' ⟨rfl, rfl⟩
      rw [Hn.out]
      go_wp2_with fail
      go_ret
      exact ⟨by first | rfl | exact ret_bool (by first | (simp; done) | (simp; omega)), hB⟩
    · have Hz := Lib.hid hz
      have hn0 : 0 < nbits (val lb) := Nat.pos_of_ne_zero (fun e => absurd (nbits_eq_zero.1 e) (by omega))
      clear hz
      go_enter Try.func6, Try.ntmps6
      go_wp2_with fail
      refine (awake4 _).mono ?_
      rintro e w1 ⟨rfl, hb1⟩
      have hB := hb1
      replace ha := ha.to hb1
      replace hb := hb.to hb1
      clear hb1
      go_wp2_with fail
      refine (few_yes _ _ la lb 20 _ ha hb hla hlb).mono ?_
      rintro e w' ⟨rfl, rfl⟩
      go_wp2_with fail
      refine (split_div _ _ la lb _ ha hb (by omega) (by omega) Hz.out).mono ?_
      rintro e w2 ⟨vq, vr, rfl, hq, hr, hb2⟩
      replace hB := below_step hB hb2
      replace ha := ha.to hb2
      replace hb := hb.to hb2
      replace hq := hq.rd
      replace hr := hr.rd
      clear hb2
      go_wp2_with fail
      refine (nat_bits _ lb _ hb (by omega)).mono ?_
      rintro e w' ⟨rfl, rfl⟩
      go_wp2_with fail
      refine (times_mul _ _ _ lb _ hq hb (by show sz _ ≤ _; omega) (by omega)).mono ?_
      rintro e w3 ⟨vm, rfl, hm, hb3⟩
      replace hB := below_step hB hb3
      replace ha := ha.to hb3
      replace hb := hb.to hb3
      replace hq := hq.to hb3
      replace hr := hr.to hb3
      replace hm : Rd w3 vm (limbs (val la / val lb * val lb)) := by have := hm.rd; (try simp only [val_limbs, Nat.add_sub_cancel] at this); exact this
      clear hb3
      go_wp2_with fail
      refine (nat_add _ _ _ _ _ hm hr (by show sz _ ≤ _; omega) (by show sz _ ≤ _; omega)).mono ?_
      rintro e w4 ⟨vn, rfl, hn, hb4⟩
      replace hB := below_step hB hb4
      replace ha := ha.to hb4
      replace hb := hb.to hb4
      replace hq := hq.to hb4
      replace hr := hr.to hb4
      replace hm := hm.to hb4
      replace hn : Rd w4 vn (limbs (val la / val lb * val lb + val la % val lb)) := by have := hn.rd; (try simp only [val_limbs, Nat.add_sub_cancel] at this); exact this
      clear hb4
      go_wp2_with fail
      refine (nat_cmp _ _ _ la _ hn ha).mono ?_
      rintro e w5 ⟨rfl, hb5⟩
      replace hB := below_step hB hb5
      replace ha := ha.to hb5
      replace hb := hb.to hb5
      replace hq := hq.to hb5
      replace hr := hr.to hb5
      replace hm := hm.to hb5
      replace hn := hn.to hb5
      clear hb5
      rw [cmpN_eq (show val (limbs (val la / val lb * val lb + val la % val lb)) = val la by rw [val_limbs]; exact Nat.div_add_mod' _ _)]
      go_wp2_with fail
      refine (nat_cmp _ _ _ lb _ hr hb).mono ?_
      rintro e w6 ⟨rfl, hb6⟩
      replace hB := below_step hB hb6
      replace ha := ha.to hb6
      replace hb := hb.to hb6
      replace hq := hq.to hb6
      replace hr := hr.to hb6
      replace hm := hm.to hb6
      replace hn := hn.to hb6
      clear hb6
      rw [cmpN_lt (show val (limbs (val la % val lb)) < val lb by rw [val_limbs]; exact Nat.mod_lt _ Hz.out)]
      go_wp2_with fail
      refine (nat_right _ _ _ hq).mono ?_
      rintro e w' ⟨rfl, rfl⟩
      rw [show decide (sz (val (limbs (val la / val lb))) = (limbs (val la / val lb)).length) = true by rw [val_limbs]; simp [sz_def]]
      go_wp2_with fail
      refine (nat_right _ _ _ hr).mono ?_
      rintro e w' ⟨rfl, rfl⟩
      rw [show decide (sz (val (limbs (val la % val lb))) = (limbs (val la % val lb)).length) = true by rw [val_limbs]; simp [sz_def]]
      go_wp2_with fail
      go_ret
      exact ⟨by first | rfl | exact ret_bool (by first | (simp; done) | (simp; omega)), hB⟩
  · go_enter Try.func6, Try.ntmps6
    go_wp2_with fail
    refine (awake4 _).mono ?_
    rintro e w1 ⟨rfl, hb1⟩
    have hB := hb1
    replace ha := ha.to hb1
    replace hb := hb.to hb1
    clear hb1
    go_wp2_with fail
    refine (few_no _ _ la lb 20 _ ha hb hfew).mono ?_
    rintro e w' ⟨rfl, rfl⟩
    go_wp2_with fail
    go_ret
    exact ⟨by first | rfl | exact ret_bool (by first | (simp; done) | (simp; omega)), hB⟩

set_option maxRecDepth 100000 in
set_option maxHeartbeats 2000000 in
theorem walk_SplitWhole (va : Value) (la : List Nat) (vb : Value) (lb : List Nat) (vc : Value) (lc : List Nat) (w : World) (ha : Rd w va la) (hb : Rd w vb lb) (hc : Rd w vc lc) :
    Calls Try.prog 4 #[va, vb, vc] w (Holds w) := by
  have hlma := ha.len_le
  have hlmb := hb.len_le
  unfold maxLen at hlma hlmb
  have hlmc := hc.len_le
  unfold maxLen at hlmc
  obtain ⟨ac, capc, rfl⟩ := hc.shape
  by_cases hfew : (la.length : Int) ≤ 20 ∧ (lb.length : Int) ≤ 20
  · obtain ⟨hla, hlb⟩ := hfew
    have hsa := sz_val ha.1
    have hsb := sz_val hb.1
    have h3 := sz_mul (val la) (val lb)
    by_cases hlc : 20 < lc.length
    · skip
      go_enter Try.func4, Try.ntmps4
      go_wp2_with fail
      refine (awake4 _).mono ?_
      rintro e w1 ⟨rfl, hb1⟩
      have hB := hb1
      replace ha := ha.to hb1
      replace hb := hb.to hb1
      replace hc := hc.to hb1
      clear hb1
      go_wp2_with fail
      refine (few_yes _ _ la lb 20 _ ha hb hla hlb).mono ?_
      rintro e w' ⟨rfl, rfl⟩
      go_wp2_with fail
      go_ret
      exact ⟨by first | rfl | exact ret_bool (by first | (simp; done) | (simp; omega)), hB⟩
    by_cases hcb : val lb ≤ val lc
    · have hcc : 0 ≤ cmpN (val lc) (val lb) := cmpN_ge.2 hcb
      clear hcb
      go_enter Try.func4, Try.ntmps4
      go_wp2_with fail
      refine (awake4 _).mono ?_
      rintro e w1 ⟨rfl, hb1⟩
      have hB := hb1
      replace ha := ha.to hb1
      replace hb := hb.to hb1
      replace hc := hc.to hb1
      clear hb1
      go_wp2_with fail
      refine (few_yes _ _ la lb 20 _ ha hb hla hlb).mono ?_
      rintro e w' ⟨rfl, rfl⟩
      go_wp2_with fail
      refine (nat_cmp _ _ lc lb _ hc hb).mono ?_
      rintro e w2 ⟨rfl, hb2⟩
      replace hB := below_step hB hb2
      replace ha := ha.to hb2
      replace hb := hb.to hb2
      replace hc := hc.to hb2
      clear hb2
      go_wp2_with fail
      go_ret
      exact ⟨by first | rfl | exact ret_bool (by first | (simp; done) | (simp; omega)), hB⟩
    · have hcc : ¬ 0 ≤ cmpN (val lc) (val lb) := fun e => hcb (cmpN_ge.1 e)
      have hcl : val lc < val lb := by omega
      have h4 := sz_val hc.1
      have h5 := sz_add (val la * val lb) (val lc)
      have Hz := Lib.hid (show 0 < val lb by omega)
      have Hq := Lib.hid (show (val la * val lb + val lc) / val lb = val la by
        rw [Nat.add_comm, Nat.add_mul_div_right _ _ (by omega), Nat.div_eq_of_lt hcl, Nat.zero_add])
      have Hr := Lib.hid (show (val la * val lb + val lc) % val lb = val lc by
        rw [Nat.add_comm, Nat.add_mul_mod_self_right, Nat.mod_eq_of_lt hcl])
      clear hcb hcl
      go_enter Try.func4, Try.ntmps4
      go_wp2_with fail
      refine (awake4 _).mono ?_
      rintro e w1 ⟨rfl, hb1⟩
      have hB := hb1
      replace ha := ha.to hb1
      replace hb := hb.to hb1
      replace hc := hc.to hb1
      clear hb1
      go_wp2_with fail
      refine (few_yes _ _ la lb 20 _ ha hb hla hlb).mono ?_
      rintro e w' ⟨rfl, rfl⟩
      go_wp2_with fail
      refine (nat_cmp _ _ lc lb _ hc hb).mono ?_
      rintro e w2 ⟨rfl, hb2⟩
      replace hB := below_step hB hb2
      replace ha := ha.to hb2
      replace hb := hb.to hb2
      replace hc := hc.to hb2
      clear hb2
      go_wp2_with fail
      refine (times_mul _ _ la lb _ ha hb (by omega) (by omega)).mono ?_
      rintro e w3 ⟨vm, rfl, hm, hb3⟩
      replace hB := below_step hB hb3
      replace ha := ha.to hb3
      replace hb := hb.to hb3
      replace hc := hc.to hb3
      replace hm : Rd w3 vm (limbs (val la * val lb)) := by have := hm.rd; (try simp only [val_limbs, Nat.add_sub_cancel] at this); exact this
      clear hb3
      go_wp2_with fail
      refine (nat_add _ _ _ lc _ hm hc (by show sz _ ≤ _; omega) (by omega)).mono ?_
      rintro e w4 ⟨vn, rfl, hn, hb4⟩
      replace hB := below_step hB hb4
      replace ha := ha.to hb4
      replace hb := hb.to hb4
      replace hc := hc.to hb4
      replace hm := hm.to hb4
      replace hn : Rd w4 vn (limbs (val la * val lb + val lc)) := by have := hn.rd; (try simp only [val_limbs, Nat.add_sub_cancel] at this); exact this
      clear hb4
      go_wp2_with fail
      refine (split_div _ _ _ lb _ hn hb (by show sz _ ≤ _; omega) (by omega) Hz.out).mono ?_
      rintro e w5 ⟨vq, vr, rfl, hq, hr, hb5⟩
      replace hB := below_step hB hb5
      replace ha := ha.to hb5
      replace hb := hb.to hb5
      replace hc := hc.to hb5
      replace hm := hm.to hb5
      replace hn := hn.to hb5
      replace hq : Rd w5 vq (limbs ((val la * val lb + val lc) / val lb)) := by have := hq.rd; (try simp only [val_limbs] at this); exact this
      replace hr : Rd w5 vr (limbs ((val la * val lb + val lc) % val lb)) := by have := hr.rd; (try simp only [val_limbs] at this); exact this
      clear hb5
      rw [Hq.out] at hq
      rw [Hr.out] at hr
      go_wp2_with fail
      refine (nat_trim _ la _ ha (by omega)).mono ?_
      rintro e w6 ⟨vt, rfl, ht, hb6⟩
      replace hB := below_step hB hb6
      replace ha := ha.to hb6
      replace hb := hb.to hb6
      replace hc := hc.to hb6
      replace hm := hm.to hb6
      replace hn := hn.to hb6
      replace hq := hq.to hb6
      replace hr := hr.to hb6
      replace ht := ht.rd
      clear hb6
      go_wp2_with fail
      refine (words_same _ _ _ _ hq ht).mono ?_
      rintro e w7 ⟨rfl, hb7⟩
      replace hB := below_step hB hb7
      replace ha := ha.to hb7
      replace hb := hb.to hb7
      replace hc := hc.to hb7
      replace hm := hm.to hb7
      replace hn := hn.to hb7
      replace hq := hq.to hb7
      replace hr := hr.to hb7
      replace ht := ht.to hb7
      clear hb7
      go_wp2_with fail
      refine (nat_trim _ lc _ hc (by omega)).mono ?_
      rintro e w8 ⟨vu, rfl, hu, hb8⟩
      replace hB := below_step hB hb8
      replace ha := ha.to hb8
      replace hb := hb.to hb8
      replace hc := hc.to hb8
      replace hm := hm.to hb8
      replace hn := hn.to hb8
      replace hq := hq.to hb8
      replace hr := hr.to hb8
      replace ht := ht.to hb8
      replace hu := hu.rd
      clear hb8
      go_wp2_with fail
      refine (words_same _ _ _ _ hr hu).mono ?_
      rintro e w9 ⟨rfl, hb9⟩
      replace hB := below_step hB hb9
      replace ha := ha.to hb9
      replace hb := hb.to hb9
      replace hc := hc.to hb9
      replace hm := hm.to hb9
      replace hn := hn.to hb9
      replace hq := hq.to hb9
      replace hr := hr.to hb9
      replace ht := ht.to hb9
      replace hu := hu.to hb9
      clear hb9
      go_wp2_with fail
      go_ret
      exact ⟨by first | rfl | exact ret_bool (by first | (simp; done) | (simp; omega)), hB⟩
  · go_enter Try.func4, Try.ntmps4
    go_wp2_with fail
    refine (awake4 _).mono ?_
    rintro e w1 ⟨rfl, hb1⟩
    have hB := hb1
    replace ha := ha.to hb1
    replace hb := hb.to hb1
    replace hc := hc.to hb1
    clear hb1
    go_wp2_with fail
    refine (few_no _ _ la lb 20 _ ha hb hfew).mono ?_
    rintro e w' ⟨rfl, rfl⟩
    go_wp2_with fail
    go_ret
    exact ⟨by first | rfl | exact ret_bool (by first | (simp; done) | (simp; omega)), hB⟩

set_option maxRecDepth 100000 in
set_option maxHeartbeats 2000000 in
theorem walk_SplitTwice (va : Value) (la : List Nat) (vb : Value) (lb : List Nat) (vc : Value) (lc : List Nat) (w : World) (ha : Rd w va la) (hb : Rd w vb lb) (hc : Rd w vc lc) :
    Calls Try.prog 5 #[va, vb, vc] w (Holds w) := by
  have hlma := ha.len_le
  have hlmb := hb.len_le
  unfold maxLen at hlma hlmb
  have hlmc := hc.len_le
  unfold maxLen at hlmc
  obtain ⟨ac, capc, rfl⟩ := hc.shape
  by_cases hfew : (la.length : Int) ≤ 20 ∧ (lb.length : Int) ≤ 20
  · obtain ⟨hla, hlb⟩ := hfew
    have hsa := sz_val ha.1
    have hsb := sz_val hb.1
    have h1 := sz_div (val la) (val lb)
    have h2 := sz_mod (val la) (val lb)
    by_cases hlc : 20 < lc.length
    · skip
      go_enter Try.func5, Try.ntmps5
      go_wp2_with fail
      refine (awake4 _).mono ?_
      rintro e w1 ⟨rfl, hb1⟩
      have hB := hb1
      replace ha := ha.to hb1
      replace hb := hb.to hb1
      replace hc := hc.to hb1
      clear hb1
      go_wp2_with fail
      refine (few_yes _ _ la lb 20 _ ha hb hla hlb).mono ?_
      rintro e w' ⟨rfl, rfl⟩
      go_wp2_with fail
      go_ret
      exact ⟨by first | rfl | exact ret_bool (by first | (simp; done) | (simp; omega)), hB⟩
    have h4 := sz_val hc.1
    have h5 := sz_mul (val lb) (val lc)
    have h6 := sz_mul (val la) (val lc)
    rcases Nat.eq_zero_or_pos (val lb) with hb0 | hb0
    · have Hn := Lib.hid (show nbits (val lb) = 0 by rw [hb0]; rfl)
      clear hb0
      go_enter Try.func5, Try.ntmps5
      go_wp2_with fail
      refine (awake4 _).mono ?_
      rintro e w1 ⟨rfl, hb1⟩
      have hB := hb1
      replace ha := ha.to hb1
      replace hb := hb.to hb1
      replace hc := hc.to hb1
      clear hb1
      go_wp2_with fail
      refine (few_yes _ _ la lb 20 _ ha hb hla hlb).mono ?_
      rintro e w' ⟨rfl, rfl⟩
      go_wp2_with fail
      refine (nat_bits _ lb _ hb (by omega)).mono ?_
      rintro e w' ⟨rfl, rfl⟩
      rw [Hn.out]
      go_wp2_with fail
      go_ret
      exact ⟨by first | rfl | exact ret_bool (by first | (simp; done) | (simp; omega)), hB⟩
    have hnb : 0 < nbits (val lb) := Nat.pos_of_ne_zero (fun e => absurd (nbits_eq_zero.1 e) (by omega))
    have tc : decide ((20 : Int) < (lc.length : Int)) = false := by simp; omega
    have tb : ((nbits (val lb) : Int) == 0) = false := by simp; omega
    have Hb := Lib.hid hb0
    rcases Nat.eq_zero_or_pos (val lc) with hc0 | hc0
    · have Hn := Lib.hid (show nbits (val lc) = 0 by rw [hc0]; rfl)
      clear hc0 hb0
      go_enter Try.func5, Try.ntmps5
      go_wp2_with fail
      refine (awake4 _).mono ?_
      rintro e w1 ⟨rfl, hb1⟩
      have hB := hb1
      replace ha := ha.to hb1
      replace hb := hb.to hb1
      replace hc := hc.to hb1
      clear hb1
      go_wp2_with fail
      refine (few_yes _ _ la lb 20 _ ha hb hla hlb).mono ?_
      rintro e w' ⟨rfl, rfl⟩
      go_wp2_with fail
      refine (nat_bits _ lb _ hb (by omega)).mono ?_
      rintro e w' ⟨rfl, rfl⟩
      go_wp2_with fail
      refine (nat_bits _ lc _ hc (by omega)).mono ?_
      rintro e w' ⟨rfl, rfl⟩
      rw [Hn.out]
      go_wp2_with fail
      go_ret
      exact ⟨by first | rfl | exact ret_bool (by first | (simp; done) | (simp; omega)), hB⟩
    · have hnc : 0 < nbits (val lc) := Nat.pos_of_ne_zero (fun e => absurd (nbits_eq_zero.1 e) (by omega))
      have tn : ((nbits (val lc) : Int) == 0) = false := by simp; omega
      have Hc := Lib.hid hc0
      have Hbc := Lib.hid (Nat.mul_pos hb0 hc0)
      clear hb0 hc0
      go_enter Try.func5, Try.ntmps5
      go_wp2_with fail
      refine (awake4 _).mono ?_
      rintro e w1 ⟨rfl, hb1⟩
      have hB := hb1
      replace ha := ha.to hb1
      replace hb := hb.to hb1
      replace hc := hc.to hb1
      clear hb1
      go_wp2_with fail
      refine (few_yes _ _ la lb 20 _ ha hb hla hlb).mono ?_
      rintro e w' ⟨rfl, rfl⟩
      go_wp2_with fail
      refine (nat_bits _ lb _ hb (by omega)).mono ?_
      rintro e w' ⟨rfl, rfl⟩
      go_wp2_with fail
      refine (nat_bits _ lc _ hc (by omega)).mono ?_
      rintro e w' ⟨rfl, rfl⟩
      go_wp2_with fail
      refine (split_div _ _ la lb _ ha hb (by omega) (by omega) Hb.out).mono ?_
      rintro e w2 ⟨vq, vr, rfl, hq, hr, hb2⟩
      replace hB := below_step hB hb2
      replace ha := ha.to hb2
      replace hb := hb.to hb2
      replace hc := hc.to hb2
      replace hq := hq.rd
      replace hr := hr.rd
      clear hb2
      go_wp2_with fail
      refine (split_div _ _ _ lc _ hq hc (by show sz _ ≤ _; omega) (by omega) Hc.out).mono ?_
      rintro e w3 ⟨vs, vs2, rfl, hs, hs2, hb3⟩
      replace hB := below_step hB hb3
      replace ha := ha.to hb3
      replace hb := hb.to hb3
      replace hc := hc.to hb3
      replace hq := hq.to hb3
      replace hr := hr.to hb3
      replace hs : Rd w3 vs (limbs (val la / val lb / val lc)) := by have := hs.rd; (try simp only [val_limbs] at this); exact this
      replace hs2 : Rd w3 vs2 (limbs (val la / val lb % val lc)) := by have := hs2.rd; (try simp only [val_limbs] at this); exact this
      clear hb3
      go_wp2_with fail
      refine (times_mul _ _ lb lc _ hb hc (by omega) (by omega)).mono ?_
      rintro e w4 ⟨vm, rfl, hm, hb4⟩
      replace hB := below_step hB hb4
      replace ha := ha.to hb4
      replace hb := hb.to hb4
      replace hc := hc.to hb4
      replace hq := hq.to hb4
      replace hr := hr.to hb4
      replace hs := hs.to hb4
      replace hs2 := hs2.to hb4
      replace hm : Rd w4 vm (limbs (val lb * val lc)) := by have := hm.rd; (try simp only [val_limbs, Nat.add_sub_cancel] at this); exact this
      clear hb4
      go_wp2_with fail
      refine (split_div _ _ la _ _ ha hm (by omega) (by show sz _ ≤ _; omega) (by rw [val_limbs]; exact Hbc.out)).mono ?_
      rintro e w5 ⟨vt, vt2, rfl, ht, ht2, hb5⟩
      replace hB := below_step hB hb5
      replace ha := ha.to hb5
      replace hb := hb.to hb5
      replace hc := hc.to hb5
      replace hq := hq.to hb5
      replace hr := hr.to hb5
      replace hs := hs.to hb5
      replace hs2 := hs2.to hb5
      replace hm := hm.to hb5
      replace ht : Rd w5 vt (limbs (val la / (val lb * val lc))) := by have := ht.rd; (try simp only [val_limbs] at this); exact this
      replace ht2 : Rd w5 vt2 (limbs (val la % (val lb * val lc))) := by have := ht2.rd; (try simp only [val_limbs] at this); exact this
      clear hb5
      rw [← Nat.div_div_eq_div_mul] at ht
      go_wp2_with fail
      refine (times_mul _ _ la lc _ ha hc (by omega) (by omega)).mono ?_
      rintro e w6 ⟨vk, rfl, hk, hb6⟩
      replace hB := below_step hB hb6
      replace ha := ha.to hb6
      replace hb := hb.to hb6
      replace hc := hc.to hb6
      replace hq := hq.to hb6
      replace hr := hr.to hb6
      replace hs := hs.to hb6
      replace hs2 := hs2.to hb6
      replace hm := hm.to hb6
      replace ht := ht.to hb6
      replace ht2 := ht2.to hb6
      replace hk : Rd w6 vk (limbs (val la * val lc)) := by have := hk.rd; (try simp only [val_limbs, Nat.add_sub_cancel] at this); exact this
      clear hb6
      go_wp2_with fail
      refine (times_mul _ _ lb lc _ hb hc (by omega) (by omega)).mono ?_
      rintro e w7 ⟨vn, rfl, hn, hb7⟩
      replace hB := below_step hB hb7
      replace ha := ha.to hb7
      replace hb := hb.to hb7
      replace hc := hc.to hb7
      replace hq := hq.to hb7
      replace hr := hr.to hb7
      replace hs := hs.to hb7
      replace hs2 := hs2.to hb7
      replace hm := hm.to hb7
      replace ht := ht.to hb7
      replace ht2 := ht2.to hb7
      replace hk := hk.to hb7
      replace hn : Rd w7 vn (limbs (val lb * val lc)) := by have := hn.rd; (try simp only [val_limbs, Nat.add_sub_cancel] at this); exact this
      clear hb7
      go_wp2_with fail
      refine (split_div _ _ _ _ _ hk hn (by show sz _ ≤ _; omega) (by show sz _ ≤ _; omega) (by rw [val_limbs]; exact Hbc.out)).mono ?_
      rintro e w8 ⟨vu, vv, rfl, hu, hv, hb8⟩
      replace hB := below_step hB hb8
      replace ha := ha.to hb8
      replace hb := hb.to hb8
      replace hc := hc.to hb8
      replace hq := hq.to hb8
      replace hr := hr.to hb8
      replace hs := hs.to hb8
      replace hs2 := hs2.to hb8
      replace hm := hm.to hb8
      replace ht := ht.to hb8
      replace ht2 := ht2.to hb8
      replace hk := hk.to hb8
      replace hn := hn.to hb8
      replace hu : Rd w8 vu (limbs (val la * val lc / (val lb * val lc))) := by have := hu.rd; (try simp only [val_limbs] at this); exact this
      replace hv : Rd w8 vv (limbs (val la * val lc % (val lb * val lc))) := by have := hv.rd; (try simp only [val_limbs] at this); exact this
      clear hb8
      rw [Nat.mul_div_mul_right _ _ Hc.out] at hu
      rw [Nat.mul_mod_mul_right] at hv
      go_wp2_with fail
      refine (words_same _ _ _ _ hs ht).mono ?_
      rintro e w9 ⟨rfl, hb9⟩
      replace hB := below_step hB hb9
      replace ha := ha.to hb9
      replace hb := hb.to hb9
      replace hc := hc.to hb9
      replace hq := hq.to hb9
      replace hr := hr.to hb9
      replace hs := hs.to hb9
      replace hs2 := hs2.to hb9
      replace hm := hm.to hb9
      replace ht := ht.to hb9
      replace ht2 := ht2.to hb9
      replace hk := hk.to hb9
      replace hn := hn.to hb9
      replace hu := hu.to hb9
      replace hv := hv.to hb9
      clear hb9
      go_wp2_with fail
      refine (words_same _ _ _ _ hu hq).mono ?_
      rintro e w10 ⟨rfl, hb10⟩
      replace hB := below_step hB hb10
      replace ha := ha.to hb10
      replace hb := hb.to hb10
      replace hc := hc.to hb10
      replace hq := hq.to hb10
      replace hr := hr.to hb10
      replace hs := hs.to hb10
      replace hs2 := hs2.to hb10
      replace hm := hm.to hb10
      replace ht := ht.to hb10
      replace ht2 := ht2.to hb10
      replace hk := hk.to hb10
      replace hn := hn.to hb10
      replace hu := hu.to hb10
      replace hv := hv.to hb10
      clear hb10
      go_wp2_with fail
      refine (times_mul _ _ _ lc _ hr hc (by show sz _ ≤ _; omega) (by omega)).mono ?_
      rintro e w11 ⟨vz, rfl, hz, hb11⟩
      replace hB := below_step hB hb11
      replace ha := ha.to hb11
      replace hb := hb.to hb11
      replace hc := hc.to hb11
      replace hq := hq.to hb11
      replace hr := hr.to hb11
      replace hs := hs.to hb11
      replace hs2 := hs2.to hb11
      replace hm := hm.to hb11
      replace ht := ht.to hb11
      replace ht2 := ht2.to hb11
      replace hk := hk.to hb11
      replace hn := hn.to hb11
      replace hu := hu.to hb11
      replace hv := hv.to hb11
      replace hz : Rd w11 vz (limbs (val la % val lb * val lc)) := by have := hz.rd; (try simp only [val_limbs, Nat.add_sub_cancel] at this); exact this
      clear hb11
      go_wp2_with fail
      refine (words_same _ _ _ _ hv hz).mono ?_
      rintro e w12 ⟨rfl, hb12⟩
      replace hB := below_step hB hb12
      replace ha := ha.to hb12
      replace hb := hb.to hb12
      replace hc := hc.to hb12
      replace hq := hq.to hb12
      replace hr := hr.to hb12
      replace hs := hs.to hb12
      replace hs2 := hs2.to hb12
      replace hm := hm.to hb12
      replace ht := ht.to hb12
      replace ht2 := ht2.to hb12
      replace hk := hk.to hb12
      replace hn := hn.to hb12
      replace hu := hu.to hb12
      replace hv := hv.to hb12
      replace hz := hz.to hb12
      clear hb12
      go_wp2_with fail
      go_ret
      exact ⟨by first | rfl | exact ret_bool (by first | (simp; done) | (simp; omega)), hB⟩
  · go_enter Try.func5, Try.ntmps5
    go_wp2_with fail
    refine (awake4 _).mono ?_
    rintro e w1 ⟨rfl, hb1⟩
    have hB := hb1
    replace ha := ha.to hb1
    replace hb := hb.to hb1
    replace hc := hc.to hb1
    clear hb1
    go_wp2_with fail
    refine (few_no _ _ la lb 20 _ ha hb hfew).mono ?_
    rintro e w' ⟨rfl, rfl⟩
    go_wp2_with fail
    go_ret
    exact ⟨by first | rfl | exact ret_bool (by first | (simp; done) | (simp; omega)), hB⟩

set_option maxRecDepth 100000 in
set_option maxHeartbeats 4000000 in
theorem walk_SplitRoots (va : Value) (la : List Nat) (w : World) (ha : Rd w va la) :
    Calls Try.prog 7 #[va] w (Holds w) := by
  have hlma := ha.len_le
  unfold maxLen at hlma
  have hsa := sz_val ha.1
  obtain ⟨aa, capa, rfl⟩ := ha.shape
  by_cases hla : 10 < la.length
  · skip
    go_enter Try.func7, Try.ntmps7
    go_wp2_with fail
    refine (awake4 _).mono ?_
    rintro e w1 ⟨rfl, hb1⟩
    have hB := hb1
    replace ha := ha.to hb1
    clear hb1
    go_wp2_with fail
    go_ret
    exact ⟨by first | rfl | exact ret_bool (by first | (simp; done) | (simp; omega)), hB⟩
  rcases Nat.mod_two_eq_zero_or_one (val la) with hev | hev
  · skip
    have Ho : Hid ((val la % 2 == 1) = false) := by unfold Hid; rw [hev]; rfl
    have Hh := Lib.hid (show val la / 2 * (2 : Int).toNat + (0 : Int).toNat + 0 = val la by
      show val la / 2 * 2 + 0 + 0 = val la
      omega)
    have hd := sz_div (val la) 2
    have hd2 := sz_mul (val la / 2) (2 : Int).toNat
    have hd3 : sz (2 : Int).toNat = 1 := by decide +kernel
    have hd4 : sz (val la / 2 * (2 : Int).toNat + (0 : Int).toNat) ≤ 11 := by
      show sz (val la / 2 * (2 : Int).toNat + 0) ≤ 11
      rw [Nat.add_zero]; omega
    have h5 := sz_mul (val la) (val la)
    have hz0 : sz 0 = 0 := rfl
    have hz1 : sz 1 = 1 := sz_one
    clear hev
    go_enter Try.func7, Try.ntmps7
    go_wp2_with fail
    refine (awake4 _).mono ?_
    rintro e w1 ⟨rfl, hb1⟩
    have hB := hb1
    replace ha := ha.to hb1
    clear hb1
    go_wp2_with fail
    refine (split_root _ la _ ha (by omega)).mono ?_
    rintro e w2 ⟨X, vx, rfl, hx, hb2, hX⟩
    replace hB := below_step hB hb2
    replace ha := ha.to hb2
    replace hx := hx.rd
    clear hb2
    obtain ⟨hX1, hX2⟩ := hX.out
    have hXl := root_size (n := 10) hX1 (Nat.lt_of_lt_of_le (val_lt ha.1) (Nat.pow_le_pow_right B_pos (by omega)))
    have HX1 := Lib.hid hX1
    have HX2 := Lib.hid hX2
    clear hX1 hX2 hX
    have Hxl := Lib.hid (show (limbs X).length = sz X from rfl)
    obtain ⟨ax, nx, cx, rfl, Hnx, _⟩ := hx.open
    have hnx : nx ≤ 10 := by have := Hnx.out; rw [sz_def] at this; omega
    go_wp2_with fail
    refine (nat_add _ _ _ [1] _ (hx.alloc _) (lit1 w2 (by omega)) (by show sz _ ≤ _; omega) (by simp)).mono ?_
    rintro e w3 ⟨vy, rfl, hy, hb3⟩
    replace hB := below_step hB (below_new2 _ hb3)
    replace ha := (ha.alloc _).to hb3
    replace hx := (hx.alloc _).to hb3
    replace hy : Rd w3 vy (limbs (X + 1)) := by have := hy.rd; rw [val_limbs, val_one1] at this; exact this
    clear hb3
    have hsy := sz_add X 1
    have hs1 := sz_word (n := 1) (by omega)
    go_wp2_with fail
    refine (split_half _ la false _ ha (by omega) Ho).mono ?_
    rintro e w4 ⟨vh, rfl, hh, hb4⟩
    replace hB := below_step hB hb4
    replace ha := ha.to hb4
    replace hx := hx.to hb4
    replace hy := hy.to hb4
    replace hh := hh.rd
    clear hb4
    go_wp2_with fail
    refine (nat_of _ _ (by omega) (by omega)).mono ?_
    rintro e w5 ⟨vz, rfl, hz, hb5⟩
    replace hB := below_step hB hb5
    replace ha := ha.to hb5
    replace hx := hx.to hb5
    replace hy := hy.to hb5
    replace hh := hh.to hb5
    replace hz : Rd w5 vz (limbs 0) := by have := hz.rd; (try simp only [val_limbs, Nat.add_sub_cancel] at this); exact this
    clear hb5
    go_wp2_with fail
    refine (nat_right _ _ _ hx).mono ?_
    rintro e w' ⟨rfl, rfl⟩
    rw [show decide (sz (val (limbs (X))) = (limbs (X)).length) = true by rw [val_limbs]; simp [sz_def]]
    go_wp2_with fail
    refine (times_mul _ _ _ _ _ hx hx (by show sz _ ≤ _; omega) (by show sz _ ≤ _; omega)).mono ?_
    rintro e w6 ⟨vp, rfl, hp, hb6⟩
    replace hB := below_step hB hb6
    replace ha := ha.to hb6
    replace hx := hx.to hb6
    replace hy := hy.to hb6
    replace hh := hh.to hb6
    replace hz := hz.to hb6
    replace hp : Rd w6 vp (limbs (X * X)) := by have := hp.rd; (try simp only [val_limbs, Nat.add_sub_cancel] at this); exact this
    clear hb6
    have hc1 : cmpN (val (limbs (X * X))) (val la) ≤ 0 := by rw [val_limbs]; exact cmpN_le.2 HX1.out
    have hc2 : decide (cmpN (val (limbs (X * X))) (val la) ≤ 0) = true := by simpa using hc1
    go_wp2_with fail
    refine (nat_cmp _ _ _ la _ hp ha).mono ?_
    rintro e w7 ⟨rfl, hb7⟩
    replace hB := below_step hB hb7
    replace ha := ha.to hb7
    replace hx := hx.to hb7
    replace hy := hy.to hb7
    replace hh := hh.to hb7
    replace hz := hz.to hb7
    replace hp := hp.to hb7
    clear hb7
    go_wp2_with fail
    refine (times_mul _ _ _ _ _ hy hy (by show sz _ ≤ _; omega) (by show sz _ ≤ _; omega)).mono ?_
    rintro e w8 ⟨vq, rfl, hq, hb8⟩
    replace hB := below_step hB hb8
    replace ha := ha.to hb8
    replace hx := hx.to hb8
    replace hy := hy.to hb8
    replace hh := hh.to hb8
    replace hz := hz.to hb8
    replace hp := hp.to hb8
    replace hq : Rd w8 vq (limbs ((X + 1) * (X + 1))) := by have := hq.rd; (try simp only [val_limbs, Nat.add_sub_cancel] at this); exact this
    clear hb8
    go_wp2_with fail
    refine (nat_cmp _ _ _ la _ hq ha).mono ?_
    rintro e w9 ⟨rfl, hb9⟩
    replace hB := below_step hB hb9
    replace ha := ha.to hb9
    replace hx := hx.to hb9
    replace hy := hy.to hb9
    replace hh := hh.to hb9
    replace hz := hz.to hb9
    replace hp := hp.to hb9
    replace hq := hq.to hb9
    clear hb9
    rw [cmpN_gt (show val la < val (limbs ((X + 1) * (X + 1))) by rw [val_limbs]; exact HX2.out)]
    go_wp2_with fail
    refine (times_mul _ _ la la _ ha ha (by omega) (by omega)).mono ?_
    rintro e w10 ⟨vs, rfl, hs, hb10⟩
    replace hB := below_step hB hb10
    replace ha := ha.to hb10
    replace hx := hx.to hb10
    replace hy := hy.to hb10
    replace hh := hh.to hb10
    replace hz := hz.to hb10
    replace hp := hp.to hb10
    replace hq := hq.to hb10
    replace hs : Rd w10 vs (limbs (val la * val la)) := by have := hs.rd; (try simp only [val_limbs, Nat.add_sub_cancel] at this); exact this
    clear hb10
    go_wp2_with fail
    refine (split_root _ _ _ hs (by show sz _ ≤ _; omega)).mono ?_
    rintro e w11 ⟨Y, vr, rfl, hr, hb11, hY⟩
    replace hB := below_step hB hb11
    replace ha := ha.to hb11
    replace hx := hx.to hb11
    replace hy := hy.to hb11
    replace hh := hh.to hb11
    replace hz := hz.to hb11
    replace hp := hp.to hb11
    replace hq := hq.to hb11
    replace hs := hs.to hb11
    replace hr := hr.rd
    obtain rfl : Y = val la := root_unique (by have := hY.out; rwa [val_limbs] at this)
    clear hb11 hY
    go_wp2_with fail
    refine (nat_trim _ la _ ha (by omega)).mono ?_
    rintro e w12 ⟨vt, rfl, ht, hb12⟩
    replace hB := below_step hB hb12
    replace ha := ha.to hb12
    replace hx := hx.to hb12
    replace hy := hy.to hb12
    replace hh := hh.to hb12
    replace hz := hz.to hb12
    replace hp := hp.to hb12
    replace hq := hq.to hb12
    replace hs := hs.to hb12
    replace hr := hr.to hb12
    replace ht := ht.rd
    clear hb12
    go_wp2_with fail
    refine (words_same _ _ _ _ hr ht).mono ?_
    rintro e w13 ⟨rfl, hb13⟩
    replace hB := below_step hB hb13
    replace ha := ha.to hb13
    replace hx := hx.to hb13
    replace hy := hy.to hb13
    replace hh := hh.to hb13
    replace hz := hz.to hb13
    replace hp := hp.to hb13
    replace hq := hq.to hb13
    replace hs := hs.to hb13
    replace hr := hr.to hb13
    replace ht := ht.to hb13
    clear hb13
    go_wp2_with fail
    refine (times_one _ _ _ _ _ hh (by show sz _ ≤ _; omega) (by omega) (by omega) (by omega) (by omega)).mono ?_
    rintro e w14 ⟨vu, rfl, hu, hb14⟩
    replace hB := below_step hB hb14
    replace ha := ha.to hb14
    replace hx := hx.to hb14
    replace hy := hy.to hb14
    replace hh := hh.to hb14
    replace hz := hz.to hb14
    replace hp := hp.to hb14
    replace hq := hq.to hb14
    replace hs := hs.to hb14
    replace hr := hr.to hb14
    replace ht := ht.to hb14
    replace hu : Rd w14 vu (limbs (val la / 2 * (2 : Int).toNat + (0 : Int).toNat)) := by have := hu.rd; (try simp only [val_limbs, Nat.add_sub_cancel] at this); exact this
    clear hb14
    go_wp2_with fail
    refine (nat_add _ _ _ _ _ hu hz (by show sz _ ≤ _; omega) (by show sz _ ≤ _; omega)).mono ?_
    rintro e w15 ⟨vv, rfl, hv, hb15⟩
    replace hB := below_step hB hb15
    replace ha := ha.to hb15
    replace hx := hx.to hb15
    replace hy := hy.to hb15
    replace hh := hh.to hb15
    replace hz := hz.to hb15
    replace hp := hp.to hb15
    replace hq := hq.to hb15
    replace hs := hs.to hb15
    replace hr := hr.to hb15
    replace ht := ht.to hb15
    replace hu := hu.to hb15
    replace hv : Rd w15 vv (limbs (val la / 2 * (2 : Int).toNat + (0 : Int).toNat + 0)) := by have := hv.rd; (try simp only [val_limbs, Nat.add_sub_cancel] at this); exact this
    clear hb15
    rw [Hh.out] at hv
    go_wp2_with fail
    refine (nat_trim _ la _ ha (by omega)).mono ?_
    rintro e w16 ⟨vt2, rfl, ht2, hb16⟩
    replace hB := below_step hB hb16
    replace ha := ha.to hb16
    replace hx := hx.to hb16
    replace hy := hy.to hb16
    replace hh := hh.to hb16
    replace hz := hz.to hb16
    replace hp := hp.to hb16
    replace hq := hq.to hb16
    replace hs := hs.to hb16
    replace hr := hr.to hb16
    replace ht := ht.to hb16
    replace hu := hu.to hb16
    replace hv := hv.to hb16
    replace ht2 := ht2.rd
    clear hb16
    go_wp2_with fail
    refine (words_same _ _ _ _ hv ht2).mono ?_
    rintro e w17 ⟨rfl, hb17⟩
    replace hB := below_step hB hb17
    replace ha := ha.to hb17
    replace hx := hx.to hb17
    replace hy := hy.to hb17
    replace hh := hh.to hb17
    replace hz := hz.to hb17
    replace hp := hp.to hb17
    replace hq := hq.to hb17
    replace hs := hs.to hb17
    replace hr := hr.to hb17
    replace ht := ht.to hb17
    replace hu := hu.to hb17
    replace hv := hv.to hb17
    replace ht2 := ht2.to hb17
    clear hb17
    go_wp2_with fail
    go_ret
    exact ⟨by first | rfl | exact ret_bool (by first | (simp; done) | (simp; omega)), hB⟩
  · skip
    have Ho : Hid ((val la % 2 == 1) = true) := by unfold Hid; rw [hev]; rfl
    have Hh := Lib.hid (show val la / 2 * (2 : Int).toNat + (0 : Int).toNat + 1 = val la by
      show val la / 2 * 2 + 0 + 1 = val la
      omega)
    have hd := sz_div (val la) 2
    have hd2 := sz_mul (val la / 2) (2 : Int).toNat
    have hd3 : sz (2 : Int).toNat = 1 := by decide +kernel
    have hd4 : sz (val la / 2 * (2 : Int).toNat + (0 : Int).toNat) ≤ 11 := by
      show sz (val la / 2 * (2 : Int).toNat + 0) ≤ 11
      rw [Nat.add_zero]; omega
    have h5 := sz_mul (val la) (val la)
    have hz0 : sz 0 = 0 := rfl
    have hz1 : sz 1 = 1 := sz_one
    clear hev
    go_enter Try.func7, Try.ntmps7
    go_wp2_with fail
    refine (awake4 _).mono ?_
    rintro e w1 ⟨rfl, hb1⟩
    have hB := hb1
    replace ha := ha.to hb1
    clear hb1
    go_wp2_with fail
    refine (split_root _ la _ ha (by omega)).mono ?_
    rintro e w2 ⟨X, vx, rfl, hx, hb2, hX⟩
    replace hB := below_step hB hb2
    replace ha := ha.to hb2
    replace hx := hx.rd
    clear hb2
    obtain ⟨hX1, hX2⟩ := hX.out
    have hXl := root_size (n := 10) hX1 (Nat.lt_of_lt_of_le (val_lt ha.1) (Nat.pow_le_pow_right B_pos (by omega)))
    have HX1 := Lib.hid hX1
    have HX2 := Lib.hid hX2
    clear hX1 hX2 hX
    have Hxl := Lib.hid (show (limbs X).length = sz X from rfl)
    obtain ⟨ax, nx, cx, rfl, Hnx, _⟩ := hx.open
    have hnx : nx ≤ 10 := by have := Hnx.out; rw [sz_def] at this; omega
    go_wp2_with fail
    refine (nat_add _ _ _ [1] _ (hx.alloc _) (lit1 w2 (by omega)) (by show sz _ ≤ _; omega) (by simp)).mono ?_
    rintro e w3 ⟨vy, rfl, hy, hb3⟩
    replace hB := below_step hB (below_new2 _ hb3)
    replace ha := (ha.alloc _).to hb3
    replace hx := (hx.alloc _).to hb3
    replace hy : Rd w3 vy (limbs (X + 1)) := by have := hy.rd; rw [val_limbs, val_one1] at this; exact this
    clear hb3
    have hsy := sz_add X 1
    have hs1 := sz_word (n := 1) (by omega)
    go_wp2_with fail
    refine (split_half _ la true _ ha (by omega) Ho).mono ?_
    rintro e w4 ⟨vh, rfl, hh, hb4⟩
    replace hB := below_step hB hb4
    replace ha := ha.to hb4
    replace hx := hx.to hb4
    replace hy := hy.to hb4
    replace hh := hh.rd
    clear hb4
    go_wp2_with fail
    refine (nat_of _ _ (by omega) (by omega)).mono ?_
    rintro e w5 ⟨vz, rfl, hz, hb5⟩
    replace hB := below_step hB hb5
    replace ha := ha.to hb5
    replace hx := hx.to hb5
    replace hy := hy.to hb5
    replace hh := hh.to hb5
    replace hz : Rd w5 vz (limbs 0) := by have := hz.rd; (try simp only [val_limbs, Nat.add_sub_cancel] at this); exact this
    clear hb5
    go_wp2_with fail
    refine (nat_of _ _ (by omega) (by omega)).mono ?_
    rintro e w6 ⟨vo, rfl, ho, hb6⟩
    replace hB := below_step hB hb6
    replace ha := ha.to hb6
    replace hx := hx.to hb6
    replace hy := hy.to hb6
    replace hh := hh.to hb6
    replace hz := hz.to hb6
    replace ho : Rd w6 vo (limbs 1) := by have := ho.rd; (try simp only [val_limbs, Nat.add_sub_cancel] at this); exact this
    clear hb6
    go_wp2_with fail
    refine (nat_right _ _ _ hx).mono ?_
    rintro e w' ⟨rfl, rfl⟩
    rw [show decide (sz (val (limbs (X))) = (limbs (X)).length) = true by rw [val_limbs]; simp [sz_def]]
    go_wp2_with fail
    refine (times_mul _ _ _ _ _ hx hx (by show sz _ ≤ _; omega) (by show sz _ ≤ _; omega)).mono ?_
    rintro e w7 ⟨vp, rfl, hp, hb7⟩
    replace hB := below_step hB hb7
    replace ha := ha.to hb7
    replace hx := hx.to hb7
    replace hy := hy.to hb7
    replace hh := hh.to hb7
    replace hz := hz.to hb7
    replace ho := ho.to hb7
    replace hp : Rd w7 vp (limbs (X * X)) := by have := hp.rd; (try simp only [val_limbs, Nat.add_sub_cancel] at this); exact this
    clear hb7
    have hc1 : cmpN (val (limbs (X * X))) (val la) ≤ 0 := by rw [val_limbs]; exact cmpN_le.2 HX1.out
    have hc2 : decide (cmpN (val (limbs (X * X))) (val la) ≤ 0) = true := by simpa using hc1
    go_wp2_with fail
    refine (nat_cmp _ _ _ la _ hp ha).mono ?_
    rintro e w8 ⟨rfl, hb8⟩
    replace hB := below_step hB hb8
    replace ha := ha.to hb8
    replace hx := hx.to hb8
    replace hy := hy.to hb8
    replace hh := hh.to hb8
    replace hz := hz.to hb8
    replace ho := ho.to hb8
    replace hp := hp.to hb8
    clear hb8
    go_wp2_with fail
    refine (times_mul _ _ _ _ _ hy hy (by show sz _ ≤ _; omega) (by show sz _ ≤ _; omega)).mono ?_
    rintro e w9 ⟨vq, rfl, hq, hb9⟩
    replace hB := below_step hB hb9
    replace ha := ha.to hb9
    replace hx := hx.to hb9
    replace hy := hy.to hb9
    replace hh := hh.to hb9
    replace hz := hz.to hb9
    replace ho := ho.to hb9
    replace hp := hp.to hb9
    replace hq : Rd w9 vq (limbs ((X + 1) * (X + 1))) := by have := hq.rd; (try simp only [val_limbs, Nat.add_sub_cancel] at this); exact this
    clear hb9
    go_wp2_with fail
    refine (nat_cmp _ _ _ la _ hq ha).mono ?_
    rintro e w10 ⟨rfl, hb10⟩
    replace hB := below_step hB hb10
    replace ha := ha.to hb10
    replace hx := hx.to hb10
    replace hy := hy.to hb10
    replace hh := hh.to hb10
    replace hz := hz.to hb10
    replace ho := ho.to hb10
    replace hp := hp.to hb10
    replace hq := hq.to hb10
    clear hb10
    rw [cmpN_gt (show val la < val (limbs ((X + 1) * (X + 1))) by rw [val_limbs]; exact HX2.out)]
    go_wp2_with fail
    refine (times_mul _ _ la la _ ha ha (by omega) (by omega)).mono ?_
    rintro e w11 ⟨vs, rfl, hs, hb11⟩
    replace hB := below_step hB hb11
    replace ha := ha.to hb11
    replace hx := hx.to hb11
    replace hy := hy.to hb11
    replace hh := hh.to hb11
    replace hz := hz.to hb11
    replace ho := ho.to hb11
    replace hp := hp.to hb11
    replace hq := hq.to hb11
    replace hs : Rd w11 vs (limbs (val la * val la)) := by have := hs.rd; (try simp only [val_limbs, Nat.add_sub_cancel] at this); exact this
    clear hb11
    go_wp2_with fail
    refine (split_root _ _ _ hs (by show sz _ ≤ _; omega)).mono ?_
    rintro e w12 ⟨Y, vr, rfl, hr, hb12, hY⟩
    replace hB := below_step hB hb12
    replace ha := ha.to hb12
    replace hx := hx.to hb12
    replace hy := hy.to hb12
    replace hh := hh.to hb12
    replace hz := hz.to hb12
    replace ho := ho.to hb12
    replace hp := hp.to hb12
    replace hq := hq.to hb12
    replace hs := hs.to hb12
    replace hr := hr.rd
    obtain rfl : Y = val la := root_unique (by have := hY.out; rwa [val_limbs] at this)
    clear hb12 hY
    go_wp2_with fail
    refine (nat_trim _ la _ ha (by omega)).mono ?_
    rintro e w13 ⟨vt, rfl, ht, hb13⟩
    replace hB := below_step hB hb13
    replace ha := ha.to hb13
    replace hx := hx.to hb13
    replace hy := hy.to hb13
    replace hh := hh.to hb13
    replace hz := hz.to hb13
    replace ho := ho.to hb13
    replace hp := hp.to hb13
    replace hq := hq.to hb13
    replace hs := hs.to hb13
    replace hr := hr.to hb13
    replace ht := ht.rd
    clear hb13
    go_wp2_with fail
    refine (words_same _ _ _ _ hr ht).mono ?_
    rintro e w14 ⟨rfl, hb14⟩
    replace hB := below_step hB hb14
    replace ha := ha.to hb14
    replace hx := hx.to hb14
    replace hy := hy.to hb14
    replace hh := hh.to hb14
    replace hz := hz.to hb14
    replace ho := ho.to hb14
    replace hp := hp.to hb14
    replace hq := hq.to hb14
    replace hs := hs.to hb14
    replace hr := hr.to hb14
    replace ht := ht.to hb14
    clear hb14
    go_wp2_with fail
    refine (times_one _ _ _ _ _ hh (by show sz _ ≤ _; omega) (by omega) (by omega) (by omega) (by omega)).mono ?_
    rintro e w15 ⟨vu, rfl, hu, hb15⟩
    replace hB := below_step hB hb15
    replace ha := ha.to hb15
    replace hx := hx.to hb15
    replace hy := hy.to hb15
    replace hh := hh.to hb15
    replace hz := hz.to hb15
    replace ho := ho.to hb15
    replace hp := hp.to hb15
    replace hq := hq.to hb15
    replace hs := hs.to hb15
    replace hr := hr.to hb15
    replace ht := ht.to hb15
    replace hu : Rd w15 vu (limbs (val la / 2 * (2 : Int).toNat + (0 : Int).toNat)) := by have := hu.rd; (try simp only [val_limbs, Nat.add_sub_cancel] at this); exact this
    clear hb15
    go_wp2_with fail
    refine (nat_add _ _ _ _ _ hu ho (by show sz _ ≤ _; omega) (by show sz _ ≤ _; omega)).mono ?_
    rintro e w16 ⟨vv, rfl, hv, hb16⟩
    replace hB := below_step hB hb16
    replace ha := ha.to hb16
    replace hx := hx.to hb16
    replace hy := hy.to hb16
    replace hh := hh.to hb16
    replace hz := hz.to hb16
    replace ho := ho.to hb16
    replace hp := hp.to hb16
    replace hq := hq.to hb16
    replace hs := hs.to hb16
    replace hr := hr.to hb16
    replace ht := ht.to hb16
    replace hu := hu.to hb16
    replace hv : Rd w16 vv (limbs (val la / 2 * (2 : Int).toNat + (0 : Int).toNat + 1)) := by have := hv.rd; (try simp only [val_limbs, Nat.add_sub_cancel] at this); exact this
    clear hb16
    rw [Hh.out] at hv
    go_wp2_with fail
    refine (nat_trim _ la _ ha (by omega)).mono ?_
    rintro e w17 ⟨vt2, rfl, ht2, hb17⟩
    replace hB := below_step hB hb17
    replace ha := ha.to hb17
    replace hx := hx.to hb17
    replace hy := hy.to hb17
    replace hh := hh.to hb17
    replace hz := hz.to hb17
    replace ho := ho.to hb17
    replace hp := hp.to hb17
    replace hq := hq.to hb17
    replace hs := hs.to hb17
    replace hr := hr.to hb17
    replace ht := ht.to hb17
    replace hu := hu.to hb17
    replace hv := hv.to hb17
    replace ht2 := ht2.rd
    clear hb17
    go_wp2_with fail
    refine (words_same _ _ _ _ hv ht2).mono ?_
    rintro e w18 ⟨rfl, hb18⟩
    replace hB := below_step hB hb18
    replace ha := ha.to hb18
    replace hx := hx.to hb18
    replace hy := hy.to hb18
    replace hh := hh.to hb18
    replace hz := hz.to hb18
    replace ho := ho.to hb18
    replace hp := hp.to hb18
    replace hq := hq.to hb18
    replace hs := hs.to hb18
    replace hr := hr.to hb18
    replace ht := ht.to hb18
    replace hu := hu.to hb18
    replace hv := hv.to hb18
    replace ht2 := ht2.to hb18
    clear hb18
    go_wp2_with fail
    go_ret
    exact ⟨by first | rfl | exact ret_bool (by first | (simp; done) | (simp; omega)), hB⟩

end Go.Proofs.Ytjacmhlcodjhcaa
