/-
  The walks of the reference of layer 5: common divisors by halves and differences.
-/
import Derived.Test.YtjacmhlcodjhcaaRef4
import Derived.Test.YtjacmhlcodjhcaaSplitRoot
import Derived.Test.YtjacmhlcodjhcaaGcdMath
namespace Go.Proofs.Ytjacmhlcodjhcaa
open Go.RowKit Tw
set_option linter.unusedVariables false
set_option linter.unusedSimpArgs false

theorem nbits_len {l : List Nat} (h : Small l) : nbits (val l) ≤ 32 * l.length := by
  apply nbits_le.2
  have h1 := val_lt h
  rwa [show B ^ l.length = 2 ^ (32 * l.length) by rw [Nat.pow_mul]; rfl] at h1

/-- A number without its twos, and how many these are. -/
def GivesOdd (w : World) (N : Nat) (e : Ending) (w' : World) : Prop :=
  ∃ (m k : Nat) (v : Value), e = .returned (.tuple #[v, .int .i64 (k : Int)]) ∧ Rd w' v (limbs m) ∧ m % 2 = 1 ∧ N = m * 2 ^ k ∧ Below w.heap.size w w'

set_option maxRecDepth 100000 in
set_option maxHeartbeats 4000000 in
theorem ref5_odd (va : Value) (N : Nat) (w : World) (ha : Rd w va (limbs N)) (hN : N ≠ 0) (hsN : sz N ≤ 10000) :
    Calls Try.prog 58 #[va] w (GivesOdd w N) := by
  have hnb : nbits N ≤ 320000 := by
    have h1 := nbits_len (limbs_small N)
    rw [val_limbs, sz_def] at h1
    omega
  have HN := Lib.hid hN
  clear hN
  go_enter Try.func58, Try.ntmps58
  go_wp2_with fail
  go_loopw [0, 4] (fun a n ww => ∃ M k : Nat, Rd ww a (limbs M) ∧ M ≠ 0 ∧ sz M ≤ 10000 ∧ k ≤ 320000 ∧ n = .int .i64 k ∧ Hid (N = M * 2 ^ k) ∧ Below w.heap.size w ww) (fun a _ ww => rdVal ww a)
  case atStart => exact ⟨N, 0, ha, HN.out, hsN, by omega, rfl, by unfold Hid; simp, Below.refl _ _⟩
  case round =>
    obtain ⟨M, k, hM, hM0, hMs, hk, rfl, HM, hbw⟩ := hrel
    have hs0 : sz M ≠ 0 := fun e => hM0 (sz_eq_zero.1 e)
    have hpos : 0 < (limbs M).length := by rw [sz_def]; omega
    have hrd := rdVal_rd hM
    rw [val_limbs] at hrd
    have Hrd := Lib.hid hrd
    obtain ⟨b, o, cap, rfl, hcell⟩ := hM.cells' hpos
    have hc0 := hcell 0 hpos
    rw [Nat.add_zero] at hc0
    have hx := (limbs_small M).nth 0
    simp only [B_eq] at hx
    have He := Lib.hid (limbs_even hM0)
    have Hlen := Lib.hid (show (limbs M).length = sz M from rfl)
    clear hrd hcell
    by_cases hev : nth (limbs M) 0 % 2 = 0
    · have hz : (((nth (limbs M) 0 : Int)) % 2 == 0) = true := by simp; omega
      have hd0 : M / 2 ≠ 0 := by have := He.out; omega
      have hd1 : M / 2 < M := by omega
      have hds : sz (M / 2) ≤ 10000 := Nat.le_trans (sz_div M 2) hMs
      have HM2 := Lib.hid (show N = M / 2 * 2 ^ (k + 1) by
        rw [Nat.pow_succ, Nat.mul_comm (2 ^ k) 2, ← Nat.mul_assoc, Nat.div_mul_cancel (Nat.dvd_of_mod_eq_zero (by have := He.out; omega))]; exact HM.out)
      have hk2 := pow_le_bits HM2.out HN.out
      clear hev
      go_wp2_with fail
      refine (ref4_small _ _ 2 _ hM (by rw [sz_def]; omega) (by omega) (by omega)).mono ?_
      rintro e w2 ⟨v2, rfl, hv2, hb2⟩
      rw [val_limbs] at hv2
      replace hv2 : Own wr.heap.size w2 v2 (limbs (M / 2)) := hv2
      have hbw2 := below_step hbw hb2
      go_wp2_with fail
      go_roundw
      case rel => exact ⟨M / 2, k + 1, hv2.rd, hd0, hds, by omega, by go_num, HM2, hbw2⟩
      case measure => rw [rdVal_rd hv2.rd, Hrd.out, val_limbs]; exact hd1
    · have hz : (((nth (limbs M) 0 : Int)) % 2 == 0) = false := by simp; omega
      have hodd : M % 2 = 1 := by have := He.out; omega
      clear hev
      go_wp2_with fail
      go_ret2
      exact ⟨M, k, _, rfl, hM, hodd, HM.out, hbw⟩

theorem odd_ne {m : Nat} (h : m % 2 = 1) : m ≠ 0 := fun e => by subst e; simp at h

theorem cmp_test {a b : Nat} (h : a ≠ b) : (cmpN a b != 0) = true := by
  have := mt cmpN_zero.1 h
  simpa using this

set_option maxRecDepth 100000 in
set_option maxHeartbeats 8000000 in
theorem ref5_gcd (va vb : Value) (la lb : List Nat) (w : World) (ha : Rd w va la) (hb : Rd w vb lb) (hla : la.length ≤ 3000) (hlb : lb.length ≤ 3000) :
    Calls Try.prog 32 #[va, vb] w (Gives w (limbs (Nat.gcd (val la) (val lb)))) := by
  have hsA := sz_val ha.1
  have hsB := sz_val hb.1
  by_cases ha0 : val la = 0
  · have HA := Lib.hid (show limbs (val la) = [] by rw [ha0]; rfl)
    have HG := Lib.hid (show Nat.gcd (val la) (val lb) = val lb by rw [ha0, Nat.gcd_zero_left])
    clear ha0
    rw [HG.out]
    go_enter Try.func32, Try.ntmps32
    go_wp2_with fail
    refine (ref2_trim _ _ _ ha (by omega)).mono ?_
    rintro e w1 ⟨v1, rfl, hv1, hb1⟩
    rw [HA.out] at hv1
    obtain ⟨a1, cap1, rfl⟩ := hv1.rd.shape
    go_wp2_with fail
    refine (ref2_trim _ _ _ (hb.to hb1) (by omega)).mono ?_
    rintro e w2 ⟨v2, rfl, hv2, hb2⟩
    go_wp2_with fail
    go_ret
    exact ⟨_, rfl, hv2.mono hb1.size, below_step hb1 hb2⟩
  by_cases hb0 : val lb = 0
  · have HB := Lib.hid (show limbs (val lb) = [] by rw [hb0]; rfl)
    have HG := Lib.hid (show Nat.gcd (val la) (val lb) = val la by rw [hb0, Nat.gcd_zero_right])
    have ha1 : 0 < (limbs (val la)).length := by rw [sz_def]; have := mt sz_eq_zero.1 ha0; omega
    clear hb0 ha0
    rw [HG.out]
    go_enter Try.func32, Try.ntmps32
    go_wp2_with fail
    refine (ref2_trim _ _ _ ha (by omega)).mono ?_
    rintro e w1 ⟨v1, rfl, hv1, hb1⟩
    obtain ⟨a1, o1, cap1, rfl, _⟩ := hv1.rd.cells' ha1
    go_wp2_with fail
    refine (ref2_trim _ _ _ (hb.to hb1) (by omega)).mono ?_
    rintro e w2 ⟨v2, rfl, hv2, hb2⟩
    rw [HB.out] at hv2
    obtain ⟨a2, cap2, rfl⟩ := hv2.rd.shape
    go_wp2_with fail
    go_ret
    exact ⟨_, rfl, hv1.to hb2, below_step hb1 hb2⟩
  have ha1 : 0 < (limbs (val la)).length := by rw [sz_def]; have := mt sz_eq_zero.1 ha0; omega
  have hb1 : 0 < (limbs (val lb)).length := by rw [sz_def]; have := mt sz_eq_zero.1 hb0; omega
  have hnA := nbits_len ha.1
  have hnB := nbits_len hb.1
  have HA := Lib.hid ha0
  have HB := Lib.hid hb0
  clear ha0 hb0
  go_enter Try.func32, Try.ntmps32
  go_wp2_with fail
  refine (ref2_trim _ _ _ ha (by omega)).mono ?_
  rintro e w1 ⟨v1, rfl, hv1, hbA⟩
  obtain ⟨a1, o1, cap1, rfl, _⟩ := hv1.rd.cells' ha1
  go_wp2_with fail
  refine (ref2_trim _ _ _ (hb.to hbA) (by omega)).mono ?_
  rintro e w2 ⟨v2, rfl, hv2, hbB⟩
  obtain ⟨a2, o2, cap2, rfl, _⟩ := hv2.rd.cells' hb1
  have hbw := below_step hbA hbB
  go_wp2_with fail
  refine (ref5_odd _ _ _ (hv1.rd.to hbB) HA.out (by omega)).mono ?_
  rintro e w3 ⟨X0, n, v3, rfl, hx, hxo, hxe, hb3⟩
  replace hbw := below_step hbw hb3
  have Hxe := Lib.hid hxe
  have Hxo := Lib.hid hxo
  clear hxe hxo
  go_wp2_with fail
  refine (ref5_odd _ _ _ (hv2.rd.to hb3) HB.out (by omega)).mono ?_
  rintro e w4 ⟨Y0, k, v4, rfl, hy, hyo, hye, hb4⟩
  replace hbw := below_step hbw hb4
  replace hx := hx.to hb4
  have Hye := Lib.hid hye
  have Hyo := Lib.hid hyo
  clear hye hyo
  have hn1 := pow_le_bits Hxe.out HA.out
  have hk1 := pow_le_bits Hye.out HB.out
  have HG := Lib.hid (show Nat.gcd (val la) (val lb) = Nat.gcd X0 Y0 * 2 ^ min n k by rw [Hxe.out, Hye.out]; exact gcd_twos Hxo.out Hyo.out)
  have hsX : sz X0 ≤ 3000 := by
    have h1 := sz_mono (show X0 ≤ val la by rw [Hxe.out]; exact Nat.le_mul_of_pos_right _ (Nat.pow_pos (by omega)))
    omega
  have hsY : sz Y0 ≤ 3000 := by
    have h1 := sz_mono (show Y0 ≤ val lb by rw [Hye.out]; exact Nat.le_mul_of_pos_right _ (Nat.pow_pos (by omega)))
    omega
  go_wp2_with fail
  go_loopw [5, 6] (fun x y ww => ∃ X Y : Nat, Rd ww x (limbs X) ∧ Rd ww y (limbs Y) ∧ sz X ≤ 3000 ∧ sz Y ≤ 3000 ∧ Hid (X % 2 = 1) ∧ Hid (Y % 2 = 1) ∧ Hid (Nat.gcd X Y = Nat.gcd X0 Y0) ∧ Below w.heap.size w ww) (fun x y ww => rdVal ww x + rdVal ww y)
  case atStart => exact ⟨X0, Y0, hx, hy, hsX, hsY, Hxo, Hyo, rfl, hbw⟩
  case round =>
    clear hx hy hv1 hv2
    obtain ⟨X, Y, hx, hy, hXs, hYs, HX, HY, HGl, hbl⟩ := hrel
    have Hmx := Lib.hid (rdVal_rd hx)
    have Hmy := Lib.hid (rdVal_rd hy)
    by_cases hxy : X = Y
    · have Hc := Lib.hid (show cmpN (val (limbs X)) (val (limbs Y)) = 0 from cmpN_eq (by rw [hxy]))
      have HG2 := Lib.hid (show Nat.gcd (val la) (val lb) = X * 2 ^ min n k by rw [HG.out, ← HGl.out, ← hxy, Nat.gcd_self])
      have Hmin := Lib.hid (show (min (n : Int) (k : Int)).toNat = min n k by omega)
      clear hxy
      go_wp2_with fail
      refine (ref2_cmp _ _ _ _ _ hx hy (by rw [sz_def]; omega) (by rw [sz_def]; omega)).mono ?_
      rintro e w' ⟨rfl, rfl⟩
      rw [Hc.out]
      go_wp2_with fail
      refine (ref3_shift _ _ _ _ hx (by rw [sz_def]; omega) (by omega)).mono ?_
      rintro e w5 ⟨v5, rfl, hv5, hb5⟩
      rw [val_limbs, Hmin.out, ← HG2.out] at hv5
      go_wp2_with fail
      go_ret
      exact ⟨_, rfl, hv5.mono hbl.size, below_step hbl hb5⟩
    · have hne : cmpN (val (limbs X)) (val (limbs Y)) ≠ 0 := by rw [val_limbs, val_limbs]; exact mt cmpN_zero.1 hxy
      have hneb : (cmpN (val (limbs X)) (val (limbs Y)) != 0) = true := by rw [val_limbs, val_limbs]; exact cmp_test hxy
      rcases Nat.lt_or_ge X Y with hlt | hge
      · have hc : cmpN (val (limbs X)) (val (limbs Y)) < 0 := by rw [val_limbs, val_limbs]; exact cmpN_neg.2 hlt
        have hle : X ≤ Y := by omega
        have hd0 : Y - X ≠ 0 := by omega
        have hsd := sz_sub Y X
        clear hxy
        go_wp2_with fail
        refine (ref2_cmp _ _ _ _ _ hx hy (by rw [sz_def]; omega) (by rw [sz_def]; omega)).mono ?_
        rintro e w' ⟨rfl, rfl⟩
        go_wp2_with fail
        refine (ref2_cmp _ _ _ _ _ hx hy (by rw [sz_def]; omega) (by rw [sz_def]; omega)).mono ?_
        rintro e w' ⟨rfl, rfl⟩
        go_wp2_with fail
        refine (ref2_sub _ _ _ _ _ hy hx (by rw [sz_def]; omega) (by rw [sz_def]; omega) (by rw [val_limbs, val_limbs]; exact hle)).mono ?_
        rintro e w5 ⟨v5, rfl, hv5, hb5⟩
        rw [val_limbs, val_limbs] at hv5
        replace hbl := below_step hbl hb5
        have hx5 := hx.to hb5
        go_wp2_with fail
        refine (ref5_odd _ _ _ hv5.rd hd0 (by omega)).mono ?_
        rintro e w6 ⟨m, j, v6, rfl, hv6, hmo, hme, hb6⟩
        replace hbl := below_step hbl hb6
        have hm1 : m ≤ Y - X := by rw [hme]; exact Nat.le_mul_of_pos_right _ (Nat.pow_pos (by omega))
        have hm2 : m < Y := by have := odd_ne HX.out; omega
        have hms := sz_mono hm1
        have Hg := Lib.hid (show Nat.gcd m X = Nat.gcd X0 Y0 by rw [← gcd_odd (m := m) j HX.out, ← hme, gcd_minus hle, Nat.gcd_comm, HGl.out])
        have Hmo := Lib.hid hmo
        clear hmo hme hm1
        go_wp2_with fail
        go_roundw
        case rel => exact ⟨m, X, hv6, hx5.to hb6, by omega, hXs, Hmo, HX, Hg, hbl⟩
        case measure => rw [rdVal_rd hv6, rdVal_rd (hx5.to hb6), Hmx.out, Hmy.out, val_limbs, val_limbs, val_limbs]; omega
      · have hc : ¬ cmpN (val (limbs X)) (val (limbs Y)) < 0 := by rw [val_limbs, val_limbs]; exact fun e => absurd (cmpN_neg.1 e) (by omega)
        have hd0 : X - Y ≠ 0 := by omega
        have hsd := sz_sub X Y
        clear hxy
        go_wp2_with fail
        refine (ref2_cmp _ _ _ _ _ hx hy (by rw [sz_def]; omega) (by rw [sz_def]; omega)).mono ?_
        rintro e w' ⟨rfl, rfl⟩
        go_wp2_with fail
        refine (ref2_cmp _ _ _ _ _ hx hy (by rw [sz_def]; omega) (by rw [sz_def]; omega)).mono ?_
        rintro e w' ⟨rfl, rfl⟩
        go_wp2_with fail
        refine (ref2_sub _ _ _ _ _ hx hy (by rw [sz_def]; omega) (by rw [sz_def]; omega) (by rw [val_limbs, val_limbs]; exact hge)).mono ?_
        rintro e w5 ⟨v5, rfl, hv5, hb5⟩
        rw [val_limbs, val_limbs] at hv5
        replace hbl := below_step hbl hb5
        have hy5 := hy.to hb5
        go_wp2_with fail
        refine (ref5_odd _ _ _ hv5.rd hd0 (by omega)).mono ?_
        rintro e w6 ⟨m, j, v6, rfl, hv6, hmo, hme, hb6⟩
        replace hbl := below_step hbl hb6
        have hm1 : m ≤ X - Y := by rw [hme]; exact Nat.le_mul_of_pos_right _ (Nat.pow_pos (by omega))
        have hm2 : m < X := by have := odd_ne HY.out; omega
        have hms := sz_mono hm1
        have Hg := Lib.hid (show Nat.gcd m Y = Nat.gcd X0 Y0 by rw [← gcd_odd (m := m) j HY.out, ← hme, gcd_minus hge, HGl.out])
        have Hmo := Lib.hid hmo
        clear hmo hme hm1
        go_wp2_with fail
        go_roundw
        case rel => exact ⟨m, Y, hv6, hy5.to hb6, by omega, hYs, Hmo, HY, Hg, hbl⟩
        case measure => rw [rdVal_rd hv6, rdVal_rd (hy5.to hb6), Hmx.out, Hmy.out, val_limbs, val_limbs, val_limbs]; omega

end Go.Proofs.Ytjacmhlcodjhcaa
