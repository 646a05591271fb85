/-
  The walks of the reference of layer 4: division, bit by bit.
-/
import Derived.Test.YteokdkcanckfeaaRef3b
import Derived.Test.YteokdkcanckfeaaSplit
namespace Go.Proofs.Yteokdkcanckfeaa
open Go.RowKit Tw
set_option linter.unusedVariables false
set_option linter.unusedSimpArgs false

theorem shr_bit (x r : Nat) (hx : x < 4294967296) : bits .and .u32 ((x : Int) / 2 ^ r) 1 = ((x / 2 ^ r % 2 : Nat) : Int) := by
  have h1 : ((x : Int) / 2 ^ r) = ((x / 2 ^ r : Nat) : Int) := by push_cast; rfl
  have h2 : x / 2 ^ r ≤ x := Nat.div_le_self _ _
  rw [h1]
  generalize x / 2 ^ r = y at h2 ⊢
  rw [and_one_u32 _ (by omega) (by omega)]
  omega

set_option maxHeartbeats 1000000 in
theorem ref4_bit (va : Value) (la : List Nat) (n : Nat) (w : World) (ha : Rd w va la) (hn : n < 32 * la.length) (hla : la.length ≤ 1000000) :
    Calls Try.prog 86 #[va, .int .i64 n] w fun e w' => e = .returned (.int .u32 ((val la / 2 ^ n % 2 : Nat) : Int)) ∧ w = w' := by
  have hlm := ha.len_le
  unfold maxLen at hlm
  obtain ⟨k, r, hr, rfl⟩ : ∃ k r, r < 32 ∧ n = 32 * k + r := ⟨n / 32, n % 32, Nat.mod_lt _ (by omega), by omega⟩
  have hk : k < la.length := by omega
  have Hb := Lib.hid (bit_eq ha.1 hk hr)
  obtain ⟨aa, na, capa, rfl, Hna, _⟩ := ha.open
  have hkn : k < na := by have := Hna.out; omega
  obtain ⟨b, o, rfl, hcell⟩ := ha.cells (by rw [Hna.out]; omega)
  have hck := hcell k (by rw [Hna.out]; omega)
  have hx := ha.1.nth k
  simp only [B_eq] at hx
  have Hs := Lib.hid (shr_bit _ r hx)
  have e1 : (((32 * k + r : Nat) : Int)) / 32 = (k : Int) := by omega
  have e2 : (((32 * k + r : Nat) : Int)) % 32 = (r : Int) := by omega
  have e0 : (0 : Int) ≤ ((32 * k + r : Nat) : Int) := by omega
  have e3 : ((32 * k + r : Nat) : Int) < 9000000000000000000 := by omega
  clear hcell hn
  generalize hN : ((32 * k + r : Nat) : Int) = N at *
  go_enter Try.func86, Try.ntmps86
  go_wp2_with fail
  go_ret
  exact ⟨ret_one (int_eq (by rw [Hs.out, Hb.out])), rfl⟩

set_option maxHeartbeats 400000 in
theorem ref4_div_no (va vb : Value) (la lb : List Nat) (w : World) (ha : Rd w va la) (hb : Rd w vb lb) (hlb : lb.length ≤ 100000) (hD : val lb = 0) :
    Calls Try.prog 76 #[va, vb] w fun e w' => e = .returned (.tuple #[.slice none 0 0, .slice none 0 0, .bool false]) ∧ Below w.heap.size w w' := by
  have HD := Lib.hid (show limbs (val lb) = [] by rw [hD]; rfl)
  clear hD
  go_enter Try.func76, Try.ntmps76
  go_wp2_with fail
  refine (ref2_trim _ _ _ hb (by omega)).mono ?_
  rintro e w1 ⟨v1, rfl, hv1, hb1⟩
  rw [HD.out] at hv1
  obtain ⟨ab, capb, rfl⟩ := hv1.rd.shape
  go_wp2_with fail
  go_ret3
  exact ⟨rfl, hb1⟩

theorem halve_bits (A j : Nat) : A / 2 ^ j = 2 * (A / 2 ^ (j + 1)) + A / 2 ^ j % 2 := by
  rw [Nat.pow_succ, ← Nat.div_div_eq_div_mul]
  exact (Nat.div_add_mod _ 2).symm

theorem sz_double {R D x : Nat} (h : R < D) (hx : x < 2) : sz (R * 2 + x) ≤ sz D + 1 := by
  have h1 := sz_mono (show R * 2 + x ≤ D * 2 by omega)
  have h2 := sz_mul D 2
  have h3 := sz_word (n := 2) (by omega)
  omega

set_option maxRecDepth 100000 in
set_option maxHeartbeats 4000000 in
theorem ref4_div (va vb : Value) (la lb : List Nat) (w : World) (ha : Rd w va la) (hb : Rd w vb lb) (hla : la.length ≤ 10000) (hlb : lb.length ≤ 10000) (hD : 0 < val lb) :
    Calls Try.prog 76 #[va, vb] w (GivesTwo w (limbs (val la / val lb)) (limbs (val la % val lb))) := by
  obtain ⟨D, hDd⟩ : ∃ D, val lb = D := ⟨_, rfl⟩
  have hsD : sz D ≤ 10000 := by have := sz_val hb.1; rw [hDd] at this; omega
  have hsA := sz_val ha.1
  have Hstart := Lib.hid (show val la / 2 ^ (32 * la.length) = 0 by
    have h := val_lt ha.1
    rw [show B ^ la.length = 2 ^ (32 * la.length) by rw [Nat.pow_mul]; rfl] at h
    exact Nat.div_eq_of_lt h)
  rw [hDd] at hD ⊢
  obtain ⟨m, hm⟩ := sz_succ hD
  have Hm := Lib.hid (show (limbs D).length = m + 1 by rw [sz_def]; exact hm)
  have HDd := Lib.hid hDd
  clear hDd hm
  obtain ⟨aa, na, capa, rfl, Hna, _⟩ := ha.open
  have hna : na ≤ 10000 := by have := Hna.out; omega
  go_enter Try.func76, Try.ntmps76
  go_wp2_with fail
  refine (ref2_trim _ _ _ hb (by omega)).mono ?_
  rintro e w1 ⟨v1, rfl, hv1, hb1⟩
  rw [HDd.out] at hv1
  obtain ⟨ab, nb, capb, rfl, Hnb, hnb0⟩ := hv1.rd.open
  have hnb : 0 < nb := by have := Hnb.out; have := Hm.out; omega
  have hnbz : ((nb : Int) == 0) = false := by simp; omega
  go_wp2_with fail
  go_loopw [8, 9, 10] (fun q r i ww => ∃ (k : Nat), k ≤ 32 * na ∧ i = .int .i64 ((k : Int) - 1) ∧ Own w.heap.size ww q (limbs (val la / 2 ^ k / D)) ∧ Own w.heap.size ww r (limbs (val la / 2 ^ k % D)) ∧ Below w1.heap.size w1 ww) (fun _ _ i _ => (intOf i + 1).toNat)
  case atStart =>
    have e0 : val la / 2 ^ (32 * na) = 0 := by rw [← Hna.out]; exact Hstart.out
    refine ⟨32 * na, Nat.le_refl _, by push_cast; rfl, ?_, ?_, Below.refl _ _⟩
    · rw [e0, Nat.zero_div, limbs_zero]; exact Own.nil _ _
    · rw [e0, Nat.zero_mod, limbs_zero]; exact Own.nil _ _
  case round =>
    obtain ⟨k, hk, rfl, hq, hr, hbw⟩ := hrel
    have hbz := below_step hb1 hbw
    have hsz := hbz.size
    rcases Nat.eq_zero_or_pos k with rfl | hpos
    · rw [Nat.pow_zero, Nat.div_one] at hq hr
      go_wp2_with fail
      go_ret3
      exact ⟨_, _, rfl, hq, hr, hbz⟩
    · obtain ⟨j, rfl⟩ : ∃ j, k = j + 1 := ⟨k - 1, by omega⟩
      obtain ⟨x, hx⟩ : ∃ x, val la / 2 ^ j % 2 = x := ⟨_, rfl⟩
      obtain ⟨Q, hQ⟩ : ∃ Q, val la / 2 ^ (j + 1) / D = Q := ⟨_, rfl⟩
      obtain ⟨R, hR⟩ : ∃ R, val la / 2 ^ (j + 1) % D = R := ⟨_, rfl⟩
      have hx2 : x < 2 := by rw [← hx]; exact Nat.mod_lt _ (by omega)
      have hRlt : R < D := by rw [← hR]; exact Nat.mod_lt _ hD
      have hsQ : sz Q ≤ 10000 := by
        have h1 := sz_div (val la / 2 ^ (j + 1)) D
        have h2 := sz_div (val la) (2 ^ (j + 1))
        rw [hQ] at h1
        omega
      have hd := bit_div (x := x) (y := val la / 2 ^ (j + 1)) hD hx2
      have hmd := bit_mod (x := x) (y := val la / 2 ^ (j + 1)) hD hx2
      have hh := halve_bits (val la) j
      rw [hx] at hh
      rw [← hh, hQ, hR] at hd
      rw [← hh, hR] at hmd
      rw [hQ] at hq
      rw [hR] at hr
      have Hd := Lib.hid hd
      have Hmd := Lib.hid hmd
      have Hx := Lib.hid hx
      have hsR := sz_mono (Nat.le_of_lt hRlt)
      have hsR2 := sz_double (x := x) hRlt hx2
      have hsQ2 := sz_double (R := Q) (D := Q + 1) (x := 0) (by omega) (by omega)
      have hsQ1 : sz (Q + 1) ≤ 10002 := by have := sz_add Q 1; have := sz_word (n := 1) (by omega); omega
      clear hd hmd hh hx hQ hR
      go_wp2_with fail
      refine (ref3_one _ _ _ _ _ hq.rd (by rw [sz_def]; omega) (by omega) (by omega) (by omega) (by omega)).mono ?_
      rintro e w2 ⟨v2, rfl, hv2, hb2⟩
      rw [val_limbs] at hv2
      replace hv2 : Own wr.heap.size w2 v2 (limbs (Q * 2 + 0)) := hv2
      have hr2 := hr.to hb2
      have hbw2 := hbw.trans (hb2.mono hbw.size)
      go_wp2_with fail
      refine (ref4_bit _ la j _ ((ha.to hb1).to hbw2) (by rw [Hna.out]; omega) (by rw [Hna.out]; omega)).mono ?_
      rintro e w' ⟨rfl, rfl⟩
      rw [Hx.out]
      go_wp2_with fail
      refine (ref3_one _ _ _ _ _ hr2.rd (by rw [sz_def]; omega) (by omega) (by omega) (by omega) (by omega)).mono ?_
      rintro e w3 ⟨v3, rfl, hv3, hb3⟩
      rw [val_limbs] at hv3
      replace hv3 : Own w2.heap.size w3 v3 (limbs (R * 2 + x)) := hv3
      have hq3 := hv2.to hb3
      have hbw3 := hbw2.trans (hb3.mono hbw2.size)
      by_cases hge : D ≤ R * 2 + x
      · have hc : 0 ≤ cmpN (val (limbs (R * 2 + x))) (val (limbs D)) := by rw [val_limbs, val_limbs]; exact cmpN_ge.2 hge
        have hge2 : D ≤ 2 * R + x := by omega
        go_wp2_with fail
        refine (ref2_cmp _ _ _ _ _ hv3.rd (hv1.rd.to hbw3) (by rw [sz_def]; omega) (by rw [sz_def]; omega)).mono ?_
        rintro e w' ⟨rfl, rfl⟩
        go_wp2_with fail
        refine (ref2_sub _ _ _ _ _ hv3.rd (hv1.rd.to hbw3) (by rw [sz_def]; omega) (by rw [sz_def]; omega) (by rw [val_limbs, val_limbs]; exact hge)).mono ?_
        rintro e w4 ⟨v4, rfl, hv4, hb4⟩
        rw [val_limbs, val_limbs] at hv4
        have hbw4 := hbw3.trans (hb4.mono hbw3.size)
        go_wp2_with fail
        refine (ref3_one _ _ _ _ _ (hq3.rd.to hb4) (by rw [sz_def]; omega) (by omega) (by omega) (by omega) (by omega)).mono ?_
        rintro e w5 ⟨v5, rfl, hv5, hb5⟩
        rw [val_limbs] at hv5
        replace hv5 : Own w4.heap.size w5 v5 (limbs ((Q * 2 + 0) * 1 + 1)) := hv5
        have hbw5 := hbw4.trans (hb5.mono hbw4.size)
        have z2 := hb2.size
        have z3 := hb3.size
        have z4 := hb4.size
        go_wp2_with fail
        go_roundw
        case rel =>
          refine ⟨j, by omega, by go_num, ?_, ?_, hbw5⟩
          · rw [Hd.out, if_pos hge2, show 2 * Q + 1 = (Q * 2 + 0) * 1 + 1 by omega]; exact hv5.mono (by omega)
          · rw [Hmd.out, if_pos hge2, show 2 * R + x - D = R * 2 + x - D by omega]; exact (hv4.mono (by omega)).to hb5
        case measure => simp [intOf]
      · have hc : ¬ 0 ≤ cmpN (val (limbs (R * 2 + x))) (val (limbs D)) := by rw [val_limbs, val_limbs]; exact fun e => hge (cmpN_ge.1 e)
        have hge2 : ¬ D ≤ 2 * R + x := by omega
        go_wp2_with fail
        refine (ref2_cmp _ _ _ _ _ hv3.rd (hv1.rd.to hbw3) (by rw [sz_def]; omega) (by rw [sz_def]; omega)).mono ?_
        rintro e w' ⟨rfl, rfl⟩
        have z2 := hb2.size
        have z3 := hb3.size
        go_wp2_with fail
        go_roundw
        case rel =>
          refine ⟨j, by omega, by go_num, ?_, ?_, hbw3⟩
          · rw [Hd.out, if_neg hge2, show 2 * Q + 0 = Q * 2 + 0 by omega]; exact hq3.mono (by omega)
          · rw [Hmd.out, if_neg hge2, show 2 * R + x = R * 2 + x by omega]; exact hv3.mono (by omega)
        case measure => simp [intOf]

set_option maxHeartbeats 1000000 in
theorem ref4_small_no (va : Value) (la : List Nat) (w : World) (ha : Rd w va la) :
    Calls Try.prog 54 #[va, .int .u32 0] w fun e w' => e = .returned (.tuple #[.slice none 0 0, .int .u32 0, .bool false]) ∧ Below w.heap.size w w' := by
  go_enter Try.func54, Try.ntmps54
  go_wp2_with fail
  refine (ref4_div_no _ _ la [0] _ (ha.alloc _) (lit1' w rfl (by omega)) (by simp) (by decide)).mono ?_
  rintro e w1 ⟨rfl, hb1⟩
  go_wp2_with fail
  go_ret3
  exact ⟨rfl, below_step (below_new _ _) hb1⟩

set_option maxHeartbeats 1000000 in
theorem ref4_small (va : Value) (la : List Nat) (d : Int) (w : World) (ha : Rd w va la) (hla : la.length ≤ 10000) (d0 : 0 < d) (d1 : d < 4294967296) :
    Calls Try.prog 54 #[va, .int .u32 d] w (GivesDiv w (limbs (val la / d.toNat)) (val la % d.toNat)) := by
  obtain ⟨D, rfl⟩ := Int.eq_ofNat_of_zero_le (Int.le_of_lt d0)
  simp only [Int.toNat_natCast]
  have hD0 : 0 < D := by omega
  have hv : val [D] = D := by simp [val]
  go_enter Try.func54, Try.ntmps54
  have Hv := Lib.hid hv
  clear hv
  go_wp2_with fail
  refine (ref4_div _ _ la [D] _ (ha.alloc _) (lit1' w rfl (by omega)) (by omega) (by simp) (by rw [Hv.out]; exact hD0)).mono ?_
  rintro e w1 ⟨vq, vr, rfl, hq, hr, hb1⟩
  rw [Hv.out] at hq hr
  have hbz := below_step (below_new _ _) hb1
  have hrlt : val la % D < D := Nat.mod_lt _ hD0
  by_cases h0 : val la % D = 0
  · have H0 := Lib.hid h0
    rw [h0, limbs_zero] at hr
    obtain ⟨ar, capr, rfl⟩ := hr.rd.shape
    clear h0
    go_wp2_with fail
    go_ret3
    exact ⟨_, ret_three rfl (int_eq (by rw [H0.out]; rfl)) rfl, hq.mono (by simp), hbz⟩
  · rw [limbs_word h0 (by omega)] at hr
    obtain ⟨br, or_, cr, rfl, hcr⟩ := hr.rd.cells' (by simp)
    have hcr0 := hcr 0 (by simp)
    simp only [nth_def, List.getD_cons_zero, Nat.add_zero] at hcr0
    clear hcr
    go_wp2_with fail
    go_quiet (fail)
    go_wp2_with fail
    go_ret3
    exact ⟨_, rfl, (hq.mono (by simp)).to (below_drewN (Below.refl _ _) _), below_drewN hbz _⟩

end Go.Proofs.Yteokdkcanckfeaa
