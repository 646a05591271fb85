/-
  The walks of the statements of layer 3.
-/
import Derived.Test.YtbllgahknfhooaaRef3b
import Derived.Test.YtbllgahknfhooaaLaw2
namespace Go.Proofs.Ytbllgahknfhooaa
open Go.RowKit Tw
set_option linter.unusedVariables false
set_option linter.unusedSimpArgs false

set_option maxRecDepth 100000 in
set_option maxHeartbeats 2000000 in
theorem awake3  (w : World)  :
    Calls Try.prog 15 #[] w (Holds w) := by
  have H1 := Lib.hid (show limbs (val [4294967295] * val [4294967295]) = [1, 4294967294] by decide +kernel)
  have H2 := Lib.hid (show limbs (val [10] ^ (3 : Int).toNat) = [1000] by decide +kernel)
  have H3 := Lib.hid (show limbs (val [3] * (5 : Int).toNat + (1 : Int).toNat) = [16] by decide +kernel)
  have H4 := Lib.hid (show limbs (val [3] * 2 ^ (max 0 (min (32 : Int) 100000)).toNat) = [0, 3] by decide +kernel)
  have H5 := Lib.hid (show ¬ powNo (val [10]) 3 by rintro (h | h); · omega
                                                   · have : (4096 / sz (val [10]) : Nat) = 4096 := by decide +kernel
                                                     omega)
  go_enter Try.func15, Try.ntmps15
  go_wp2_with fail
  refine (times_mul _ _ [4294967295] [4294967295] _ ((lit1 w (by omega)).alloc _) (lit1_at (w.alloc _) (by simp) (by omega)) (by simp) (by simp)).mono ?_
  rintro e w1 ⟨vp, rfl, hp, hb1⟩
  have hB := below_new2 _ (below_new2 _ hb1)
  replace hp := hp.rd
  rw [H1.out] at hp
  clear hb1
  go_wp2_with fail
  refine (times_pow _ [10] _ _ (lit1 w1 (by omega)) (by simp) H5.out).mono ?_
  rintro e w2 ⟨vn, rfl, hn, hb2⟩
  replace hB := below_step hB (below_new2 _ hb2)
  replace hp := (hp.alloc _).to hb2
  replace hn := hn.rd
  rw [H2.out] at hn
  clear hb2
  go_wp2_with fail
  refine (words_same _ _ [1, 4294967294] _ (hp.alloc _) (lit2 w2 (by omega) (by omega))).mono ?_
  rintro e w3 ⟨rfl, hb3⟩
  replace hB := below_step hB (below_new2 _ hb3)
  replace hn := (hn.alloc _).to hb3
  clear hb3 hp
  go_wp2_with fail
  refine (words_same _ _ [1000] _ (hn.alloc _) (lit1 w3 (by omega))).mono ?_
  rintro e w4 ⟨rfl, hb4⟩
  replace hB := below_step hB (below_new2 _ hb4)
  clear hb4 hn
  go_wp2_with fail
  refine (times_one _ [3] _ _ _ (lit1 w4 (by omega)) (by simp) (by omega) (by omega) (by omega) (by omega)).mono ?_
  rintro e w5 ⟨vo, rfl, ho, hb5⟩
  replace hB := below_step hB (below_new2 _ hb5)
  replace ho := ho.rd
  rw [H3.out] at ho
  clear hb5
  go_wp2_with fail
  refine (words_same _ _ [16] _ (ho.alloc _) (lit1 w5 (by omega))).mono ?_
  rintro e w6 ⟨rfl, hb6⟩
  replace hB := below_step hB (below_new2 _ hb6)
  clear hb6 ho
  go_wp2_with fail
  refine (times_shift _ [3] _ _ (lit1 w6 (by omega)) (by simp)).mono ?_
  rintro e w7 ⟨vs, rfl, hs, hb7⟩
  replace hB := below_step hB (below_new2 _ hb7)
  replace hs := hs.rd
  rw [H4.out] at hs
  clear hb7
  go_wp2_with fail
  refine (words_same _ _ [0, 3] _ (hs.alloc _) (lit2 w7 (by omega) (by omega))).mono ?_
  rintro e w8 ⟨rfl, hb8⟩
  replace hB := below_step hB (below_new2 _ hb8)
  clear hb8 hs
  go_wp2_with fail
  go_ret
  exact ⟨by first | rfl | exact ret_bool (by first | (simp; done) | (simp; omega)), hB⟩

set_option maxRecDepth 100000 in
set_option maxHeartbeats 2000000 in
theorem walk_TimesTells (va : Value) (la : List Nat) (vb : Value) (lb : List Nat) (u c : Int) (w : World) (ha : Rd w va la) (hb : Rd w vb lb) (u0 : 0 ≤ u) (u1 : u < 4294967296) (c0 : 0 ≤ c) (c1 : c < 4294967296) :
    Calls Try.prog 3 #[va, vb, .int .u32 u, .int .u32 c] w (Holds w) := by
  have hlma := ha.len_le
  have hlmb := hb.len_le
  unfold maxLen at hlma hlmb
  by_cases hfew : (la.length : Int) ≤ 20 ∧ (lb.length : Int) ≤ 20
  · obtain ⟨hla, hlb⟩ := hfew
    have hsa := sz_val ha.1
    have hsb := sz_val hb.1
    go_enter Try.func3, Try.ntmps3
    go_wp2_with fail
    refine (awake3 _).mono ?_
    rintro e w1 ⟨rfl, hb1⟩
    have hB := hb1
    replace ha := ha.to hb1
    replace hb := hb.to hb1
    clear hb1
    go_wp2_with fail
    refine (few_yes _ _ la lb 20 _ ha hb hla hlb).mono ?_
    rintro e w' ⟨rfl, rfl⟩
    go_wp2_with fail
    refine (times_mul _ _ la lb _ ha hb (by omega) (by omega)).mono ?_
    rintro e w2 ⟨vx, rfl, hx, hb2⟩
    replace hB := below_step hB hb2
    replace ha := ha.to hb2
    replace hb := hb.to hb2
    replace hx := hx.rd
    clear hb2
    go_wp2_with fail
    refine (ref3_mul _ _ la lb _ ha hb (by omega) (by omega)).mono ?_
    rintro e w3 ⟨vy, rfl, hy, hb3⟩
    replace hB := below_step hB hb3
    replace ha := ha.to hb3
    replace hb := hb.to hb3
    replace hx := hx.to hb3
    replace hy := hy.rd
    clear hb3
    go_wp2_with fail
    refine (words_same _ _ _ _ hx hy).mono ?_
    rintro e w4 ⟨rfl, hb4⟩
    replace hB := below_step hB hb4
    replace ha := ha.to hb4
    replace hb := hb.to hb4
    replace hx := hx.to hb4
    replace hy := hy.to hb4
    clear hb4
    go_wp2_with fail
    refine (times_one _ la _ _ _ ha (by omega) u0 u1 c0 c1).mono ?_
    rintro e w5 ⟨vp, rfl, hp, hb5⟩
    replace hB := below_step hB hb5
    replace ha := ha.to hb5
    replace hb := hb.to hb5
    replace hx := hx.to hb5
    replace hy := hy.to hb5
    replace hp := hp.rd
    clear hb5
    go_wp2_with fail
    refine (ref3_one _ la _ _ _ ha (by omega) u0 u1 c0 c1).mono ?_
    rintro e w6 ⟨vq, rfl, hq, hb6⟩
    replace hB := below_step hB hb6
    replace ha := ha.to hb6
    replace hb := hb.to hb6
    replace hx := hx.to hb6
    replace hy := hy.to hb6
    replace hp := hp.to hb6
    replace hq := hq.rd
    clear hb6
    go_wp2_with fail
    refine (words_same _ _ _ _ hp hq).mono ?_
    rintro e w7 ⟨rfl, hb7⟩
    replace hB := below_step hB hb7
    replace ha := ha.to hb7
    replace hb := hb.to hb7
    replace hx := hx.to hb7
    replace hy := hy.to hb7
    replace hp := hp.to hb7
    replace hq := hq.to hb7
    clear hb7
    go_wp2_with fail
    go_ret
    exact ⟨by first | rfl | exact ret_bool (by first | (simp; done) | (simp; omega)), hB⟩
  · go_enter Try.func3, Try.ntmps3
    go_wp2_with fail
    refine (awake3 _).mono ?_
    rintro e w1 ⟨rfl, hb1⟩
    have hB := hb1
    replace ha := ha.to hb1
    replace hb := hb.to hb1
    clear hb1
    go_wp2_with fail
    refine (few_no _ _ la lb 20 _ ha hb hfew).mono ?_
    rintro e w' ⟨rfl, rfl⟩
    go_wp2_with fail
    go_ret
    exact ⟨by first | rfl | exact ret_bool (by first | (simp; done) | (simp; omega)), hB⟩

set_option maxRecDepth 100000 in
set_option maxHeartbeats 2000000 in
theorem walk_TimesOrder (va : Value) (la : List Nat) (vb : Value) (lb : List Nat) (vc : Value) (lc : List Nat) (w : World) (ha : Rd w va la) (hb : Rd w vb lb) (hc : Rd w vc lc) :
    Calls Try.prog 7 #[va, vb, vc] w (Holds w) := by
  have hlma := ha.len_le
  have hlmb := hb.len_le
  unfold maxLen at hlma hlmb
  have hlmc := hc.len_le
  unfold maxLen at hlmc
  obtain ⟨ac, capc, rfl⟩ := hc.shape
  by_cases hfew : (la.length : Int) ≤ 20 ∧ (lb.length : Int) ≤ 20
  · obtain ⟨hla, hlb⟩ := hfew
    have hsa := sz_val ha.1
    have hsb := sz_val hb.1
    have hsc := sz_val hc.1
    by_cases hlc : 20 < lc.length
    · go_enter Try.func7, Try.ntmps7
      go_wp2_with fail
      refine (awake3 _).mono ?_
      rintro e w1 ⟨rfl, hb1⟩
      have hB := hb1
      replace ha := ha.to hb1
      replace hb := hb.to hb1
      replace hc := hc.to hb1
      clear hb1
      go_wp2_with fail
      refine (few_yes _ _ la lb 20 _ ha hb hla hlb).mono ?_
      rintro e w' ⟨rfl, rfl⟩
      go_wp2_with fail
      go_ret
      exact ⟨by first | rfl | exact ret_bool (by first | (simp; done) | (simp; omega)), hB⟩
    · have h1 := sz_mul (val la) (val lb)
      have h2 := sz_mul (val lc) (val lb)
      go_enter Try.func7, Try.ntmps7
      go_wp2_with fail
      refine (awake3 _).mono ?_
      rintro e w1 ⟨rfl, hb1⟩
      have hB := hb1
      replace ha := ha.to hb1
      replace hb := hb.to hb1
      replace hc := hc.to hb1
      clear hb1
      go_wp2_with fail
      refine (few_yes _ _ la lb 20 _ ha hb hla hlb).mono ?_
      rintro e w' ⟨rfl, rfl⟩
      go_wp2_with fail
      refine (times_mul _ _ la lb _ ha hb (by omega) (by omega)).mono ?_
      rintro e w2 ⟨vx, rfl, hx, hb2⟩
      replace hB := below_step hB hb2
      replace ha := ha.to hb2
      replace hb := hb.to hb2
      replace hc := hc.to hb2
      replace hx := hx.rd
      clear hb2
      go_wp2_with fail
      refine (times_mul _ _ lb la _ hb ha (by omega) (by omega)).mono ?_
      rintro e w3 ⟨vy, rfl, hy, hb3⟩
      replace hB := below_step hB hb3
      replace ha := ha.to hb3
      replace hb := hb.to hb3
      replace hc := hc.to hb3
      replace hx := hx.to hb3
      replace hy := hy.rd
      clear hb3
      rw [Nat.mul_comm (val lb)] at hy
      go_wp2_with fail
      refine (words_same _ _ _ _ hx hy).mono ?_
      rintro e w4 ⟨rfl, hb4⟩
      replace hB := below_step hB hb4
      replace ha := ha.to hb4
      replace hb := hb.to hb4
      replace hc := hc.to hb4
      replace hx := hx.to hb4
      replace hy := hy.to hb4
      clear hb4
      go_wp2_with fail
      refine (times_mul _ _ _ lc _ hx hc (by show sz _ ≤ _; omega) (by omega)).mono ?_
      rintro e w5 ⟨vp, rfl, hp, hb5⟩
      replace hB := below_step hB hb5
      replace ha := ha.to hb5
      replace hb := hb.to hb5
      replace hc := hc.to hb5
      replace hx := hx.to hb5
      replace hy := hy.to hb5
      replace hp : Rd w5 vp (limbs (val la * val lb * val lc)) := by have := hp.rd; (try simp only [val_limbs, Nat.add_sub_cancel] at this); exact this
      clear hb5
      go_wp2_with fail
      refine (times_mul _ _ lc lb _ hc hb (by omega) (by omega)).mono ?_
      rintro e w6 ⟨vq, rfl, hq, hb6⟩
      replace hB := below_step hB hb6
      replace ha := ha.to hb6
      replace hb := hb.to hb6
      replace hc := hc.to hb6
      replace hx := hx.to hb6
      replace hy := hy.to hb6
      replace hp := hp.to hb6
      replace hq := hq.rd
      clear hb6
      go_wp2_with fail
      refine (times_mul _ _ la _ _ ha hq (by omega) (by show sz _ ≤ _; omega)).mono ?_
      rintro e w7 ⟨vr, rfl, hr, hb7⟩
      replace hB := below_step hB hb7
      replace ha := ha.to hb7
      replace hb := hb.to hb7
      replace hc := hc.to hb7
      replace hx := hx.to hb7
      replace hy := hy.to hb7
      replace hp := hp.to hb7
      replace hq := hq.to hb7
      replace hr : Rd w7 vr (limbs (val la * (val lc * val lb))) := by have := hr.rd; (try simp only [val_limbs, Nat.add_sub_cancel] at this); exact this
      clear hb7
      rw [Nat.mul_comm (val lc), ← Nat.mul_assoc] at hr
      go_wp2_with fail
      refine (words_same _ _ _ _ hp hr).mono ?_
      rintro e w8 ⟨rfl, hb8⟩
      replace hB := below_step hB hb8
      replace ha := ha.to hb8
      replace hb := hb.to hb8
      replace hc := hc.to hb8
      replace hx := hx.to hb8
      replace hy := hy.to hb8
      replace hp := hp.to hb8
      replace hq := hq.to hb8
      replace hr := hr.to hb8
      clear hb8
      go_wp2_with fail
      refine (nat_right _ _ _ hx).mono ?_
      rintro e w' ⟨rfl, rfl⟩
      rw [show decide (sz (val (limbs (val la * val lb))) = (limbs (val la * val lb)).length) = true by rw [val_limbs]; simp [sz_def]]
      go_wp2_with fail
      go_ret
      exact ⟨by first | rfl | exact ret_bool (by first | (simp; done) | (simp; omega)), hB⟩
  · go_enter Try.func7, Try.ntmps7
    go_wp2_with fail
    refine (awake3 _).mono ?_
    rintro e w1 ⟨rfl, hb1⟩
    have hB := hb1
    replace ha := ha.to hb1
    replace hb := hb.to hb1
    replace hc := hc.to hb1
    clear hb1
    go_wp2_with fail
    refine (few_no _ _ la lb 20 _ ha hb hfew).mono ?_
    rintro e w' ⟨rfl, rfl⟩
    go_wp2_with fail
    go_ret
    exact ⟨by first | rfl | exact ret_bool (by first | (simp; done) | (simp; omega)), hB⟩

end Go.Proofs.Ytbllgahknfhooaa
