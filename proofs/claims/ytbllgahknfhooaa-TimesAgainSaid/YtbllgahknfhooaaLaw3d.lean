/-
  The walks of the statements of layer 3, powers again.
-/
import Derived.Test.YtbllgahknfhooaaLaw3c
namespace Go.Proofs.Ytbllgahknfhooaa
open Go.RowKit Tw
set_option linter.unusedVariables false
set_option linter.unusedSimpArgs false

set_option maxRecDepth 100000 in
set_option maxHeartbeats 2000000 in
theorem walk_TimesAgain (va : Value) (la : List Nat) (n k s t : Int) (w : World) (ha : Rd w va la) (n0 : 0 ≤ n) (n1 : n < 256) (k0 : 0 ≤ k) (k1 : k < 256) (s0 : 0 ≤ s) (s1 : s < 256) (t0 : 0 ≤ t) (t1 : t < 256) :
    Calls Try.prog 6 #[va, .int .u8 n, .int .u8 k, .int .u8 s, .int .u8 t] w (Holds w) := by
  have hlma := ha.len_le
  unfold maxLen at hlma
  obtain ⟨aa, capa, rfl⟩ := ha.shape
  by_cases hl : 4 < la.length
  · go_enter Try.func6, Try.ntmps6
    go_wp2_with fail
    refine (awake3 _).mono ?_
    rintro e w1 ⟨rfl, hb1⟩
    have hB := hb1
    replace ha := ha.to hb1
    clear hb1
    go_wp2_with fail
    go_ret
    exact ⟨by first | rfl | exact ret_bool (by first | (simp; done) | (simp; omega)), hB⟩
  have hsa := sz_val ha.1
  have Hz2 : sz (val [2]) ≤ 4 := by decide +kernel
  have Hv2 := Lib.hid (show val [2] = 2 by decide)
  have hi1 : n % 9 < 9 := Int.emod_lt_of_pos _ (by omega)
  have hi0 : 0 ≤ n % 9 := Int.emod_nonneg _ (by omega)
  have hj1 : k % 9 < 9 := Int.emod_lt_of_pos _ (by omega)
  have hj0 : 0 ≤ k % 9 := Int.emod_nonneg _ (by omega)
  obtain ⟨i, Hi⟩ : ∃ i, n % 9 = i := ⟨_, rfl⟩
  obtain ⟨j, Hj⟩ : ∃ i, k % 9 = i := ⟨_, rfl⟩
  rw [Hi] at hi0 hi1
  rw [Hj] at hj0 hj1
  replace Hi := Lib.hid Hi
  replace Hj := Lib.hid Hj
  have Hij := Lib.hid (show (i + j).toNat = i.toNat + j.toNat by omega)
  have Hs := Lib.hid (show (max 0 (min s 100000)).toNat = s.toNat by omega)
  have Ht := Lib.hid (show (max 0 (min t 100000)).toNat = t.toNat by omega)
  have Hst := Lib.hid (show (s + t).toNat = s.toNat + t.toNat by omega)
  have Hst2 := Lib.hid (show (max 0 (min (s + t) 100000)).toNat = (s + t).toNat by omega)
  have p1 : sz (val la ^ i.toNat) ≤ 8 * 4 + 1 := Nat.le_trans (sz_pow _ _) (Nat.add_le_add_right (Nat.mul_le_mul (by omega) (by omega)) 1)
  have p2 : sz (val la ^ j.toNat) ≤ 8 * 4 + 1 := Nat.le_trans (sz_pow _ _) (Nat.add_le_add_right (Nat.mul_le_mul (by omega) (by omega)) 1)
  have p3 : sz (val [2] ^ s.toNat) ≤ 255 * 4 + 1 := Nat.le_trans (sz_pow _ _) (Nat.add_le_add_right (Nat.mul_le_mul (by omega) Hz2) 1)
  have p4 : sz (val la * 2 ^ s.toNat) ≤ 2000 := by
    have h := sz_mul (val la) (2 ^ s.toNat)
    have h5 := p3
    rw [Hv2.out] at h5
    omega
  go_enter Try.func6, Try.ntmps6
  go_wp2_with fail
  refine (awake3 _).mono ?_
  rintro e w1 ⟨rfl, hb1⟩
  have hB := hb1
  replace ha := ha.to hb1
  clear hb1
  go_wp2_with fail
  rw [Hi.out, Hj.out]
  go_wp2_with fail
  refine (times_pow _ la i _ ha (by omega) (powNo_few hi0 (by omega) (by omega))).mono ?_
  rintro e w2 ⟨vx, rfl, hx, hb2⟩
  replace hB := below_step hB hb2
  replace ha := ha.to hb2
  replace hx := hx.rd
  clear hb2
  go_wp2_with fail
  refine (times_pow _ la j _ ha (by omega) (powNo_few hj0 (by omega) (by omega))).mono ?_
  rintro e w3 ⟨vy, rfl, hy, hb3⟩
  replace hB := below_step hB hb3
  replace ha := ha.to hb3
  replace hx := hx.to hb3
  replace hy := hy.rd
  clear hb3
  go_wp2_with fail
  refine (times_pow _ la (i + j) _ ha (by omega) (powNo_few (by omega) (by omega) (by omega))).mono ?_
  rintro e w4 ⟨vz, rfl, hz, hb4⟩
  replace hB := below_step hB hb4
  replace ha := ha.to hb4
  replace hx := hx.to hb4
  replace hy := hy.to hb4
  replace hz := hz.rd
  clear hb4
  go_wp2_with fail
  refine (times_pow _ [2] s _ (lit1 _ (by omega)) (by simp) (powNo_few s0 (by omega) Hz2)).mono ?_
  rintro e w9 ⟨vp, rfl, hp, hb9⟩
  replace hB := below_step hB (below_new2 _ hb9)
  replace hp := hp.rd
  replace ha := (ha.alloc _).to hb9
  replace hx := (hx.alloc _).to hb9
  replace hy := (hy.alloc _).to hb9
  replace hz := (hz.alloc _).to hb9
  clear hb9
  go_wp2_with fail
  refine (times_shift _ la s _ ha (by omega)).mono ?_
  rintro e w10 ⟨vu, rfl, hu, hb10⟩
  replace hB := below_step hB hb10
  replace ha := ha.to hb10
  replace hx := hx.to hb10
  replace hy := hy.to hb10
  replace hz := hz.to hb10
  replace hp := hp.to hb10
  replace hu := hu.rd
  clear hb10
  rw [Hs.out] at hu
  go_wp2_with fail
  refine (times_mul _ _ _ _ _ hx hy (by show sz _ ≤ _; omega) (by show sz _ ≤ _; omega)).mono ?_
  rintro e w11 ⟨vm, rfl, hm, hb11⟩
  replace hB := below_step hB hb11
  replace ha := ha.to hb11
  replace hx := hx.to hb11
  replace hy := hy.to hb11
  replace hz := hz.to hb11
  replace hp := hp.to hb11
  replace hu := hu.to hb11
  replace hm : Rd w11 vm (limbs (val la ^ i.toNat * val la ^ j.toNat)) := by have := hm.rd; (try simp only [val_limbs, Nat.add_sub_cancel] at this); exact this
  clear hb11
  rw [← Nat.pow_add, ← Hij.out] at hm
  go_wp2_with fail
  refine (words_same _ _ _ _ hm hz).mono ?_
  rintro e w12 ⟨rfl, hb12⟩
  replace hB := below_step hB hb12
  replace ha := ha.to hb12
  replace hx := hx.to hb12
  replace hy := hy.to hb12
  replace hz := hz.to hb12
  replace hp := hp.to hb12
  replace hu := hu.to hb12
  replace hm := hm.to hb12
  clear hb12
  go_wp2_with fail
  refine (times_mul _ _ la _ _ ha hp (by omega) (by show sz _ ≤ _; omega)).mono ?_
  rintro e w13 ⟨vq, rfl, hq, hb13⟩
  replace hB := below_step hB hb13
  replace ha := ha.to hb13
  replace hx := hx.to hb13
  replace hy := hy.to hb13
  replace hz := hz.to hb13
  replace hp := hp.to hb13
  replace hu := hu.to hb13
  replace hm := hm.to hb13
  replace hq : Rd w13 vq (limbs (val la * val [2] ^ s.toNat)) := by have := hq.rd; (try simp only [val_limbs, Nat.add_sub_cancel] at this); exact this
  clear hb13
  rw [Hv2.out] at hq
  go_wp2_with fail
  refine (words_same _ _ _ _ hu hq).mono ?_
  rintro e w14 ⟨rfl, hb14⟩
  replace hB := below_step hB hb14
  replace ha := ha.to hb14
  replace hx := hx.to hb14
  replace hy := hy.to hb14
  replace hz := hz.to hb14
  replace hp := hp.to hb14
  replace hu := hu.to hb14
  replace hm := hm.to hb14
  replace hq := hq.to hb14
  clear hb14
  go_wp2_with fail
  refine (times_shift _ _ t _ hu (by show sz _ ≤ _; omega)).mono ?_
  rintro e w15 ⟨vr, rfl, hr, hb15⟩
  replace hB := below_step hB hb15
  replace ha := ha.to hb15
  replace hx := hx.to hb15
  replace hy := hy.to hb15
  replace hz := hz.to hb15
  replace hp := hp.to hb15
  replace hu := hu.to hb15
  replace hm := hm.to hb15
  replace hq := hq.to hb15
  replace hr : Rd w15 vr (limbs (val la * 2 ^ s.toNat * 2 ^ (max 0 (min t 100000)).toNat)) := by have := hr.rd; (try simp only [val_limbs, Nat.add_sub_cancel] at this); exact this
  clear hb15
  rw [Ht.out, Nat.mul_assoc, ← Nat.pow_add, ← Hst.out] at hr
  go_wp2_with fail
  refine (times_shift _ la (s + t) _ ha (by omega)).mono ?_
  rintro e w16 ⟨vo, rfl, ho, hb16⟩
  replace hB := below_step hB hb16
  replace ha := ha.to hb16
  replace hx := hx.to hb16
  replace hy := hy.to hb16
  replace hz := hz.to hb16
  replace hp := hp.to hb16
  replace hu := hu.to hb16
  replace hm := hm.to hb16
  replace hq := hq.to hb16
  replace hr := hr.to hb16
  replace ho := ho.rd
  clear hb16
  rw [Hst2.out] at ho
  go_wp2_with fail
  refine (words_same _ _ _ _ hr ho).mono ?_
  rintro e w17 ⟨rfl, hb17⟩
  replace hB := below_step hB hb17
  replace ha := ha.to hb17
  replace hx := hx.to hb17
  replace hy := hy.to hb17
  replace hz := hz.to hb17
  replace hp := hp.to hb17
  replace hu := hu.to hb17
  replace hm := hm.to hb17
  replace hq := hq.to hb17
  replace hr := hr.to hb17
  replace ho := ho.to hb17
  clear hb17
  go_wp2_with fail
  go_ret
  exact ⟨by first | rfl | exact ret_bool (by first | (simp; done) | (simp; omega)), hB⟩

end Go.Proofs.Ytbllgahknfhooaa
