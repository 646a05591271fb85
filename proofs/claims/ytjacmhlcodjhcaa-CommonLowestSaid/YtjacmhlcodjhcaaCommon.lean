/-
  The walks of package common: lowest terms, multiples; and of its reference.
-/
import Derived.Test.YtjacmhlcodjhcaaGcd
import Derived.Test.YtjacmhlcodjhcaaRef5
import Derived.Test.YtjacmhlcodjhcaaLits
import Derived.Test.YtjacmhlcodjhcaaWords
namespace Go.Proofs.Ytjacmhlcodjhcaa
open Go.RowKit Tw
set_option linter.unusedVariables false
set_option linter.unusedSimpArgs false

theorem sz_gcd_right {a b : Nat} (h : 0 < b) : sz (Nat.gcd a b) ≤ sz b := sz_mono (Nat.gcd_le_right a h)
theorem sz_gcd (a b : Nat) : sz (Nat.gcd a b) ≤ sz a + sz b := by
  rcases Nat.eq_zero_or_pos b with rfl | h
  · rw [Nat.gcd_zero_right]; omega
  · have := sz_gcd_right (a := a) h; omega

set_option maxHeartbeats 1000000 in
theorem common_lowest_no (va vb : Value) (la lb : List Nat) (w : World) (ha : Rd w va la) (hb : Rd w vb lb) (hlb : lb.length ≤ 90000) (h0 : val lb = 0) :
    Calls Try.prog 33 #[va, vb] w fun e w' => e = .returned (.tuple #[.slice none 0 0, .slice none 0 0, .bool false]) ∧ Below w.heap.size w w' := by
  have Hn := Lib.hid (show nbits (val lb) = 0 by rw [h0]; rfl)
  clear h0
  go_enter Try.func33, Try.ntmps33
  go_wp2_with fail
  refine (nat_bits _ lb _ hb (by omega)).mono ?_
  rintro e w' ⟨rfl, rfl⟩
  rw [Hn.out]
  go_wp2_with fail
  go_ret3
  exact ⟨rfl, Below.refl _ _⟩

set_option maxRecDepth 100000 in
set_option maxHeartbeats 2000000 in
theorem common_lowest (va vb : Value) (la lb : List Nat) (w : World) (ha : Rd w va la) (hb : Rd w vb lb) (hla : la.length ≤ 40000) (hlb : lb.length ≤ 40000) (h0 : 0 < val lb) :
    Calls Try.prog 33 #[va, vb] w (GivesTwo w (limbs (val la / Nat.gcd (val la) (val lb))) (limbs (val lb / Nat.gcd (val la) (val lb)))) := by
  have hnb : 0 < nbits (val lb) := Nat.pos_of_ne_zero (fun e => absurd (nbits_eq_zero.1 e) (by omega))
  have hg : 0 < Nat.gcd (val la) (val lb) := gcd_pos_right h0
  have hsa := sz_val ha.1
  have hsb := sz_val hb.1
  have hsg := sz_gcd_right (a := val la) h0
  have Hg := Lib.hid hg
  clear h0 hg
  go_enter Try.func33, Try.ntmps33
  go_wp2_with fail
  refine (nat_bits _ lb _ hb (by omega)).mono ?_
  rintro e w' ⟨rfl, rfl⟩
  go_wp2_with fail
  refine (common_gcd _ _ la lb _ ha hb (by omega) (by omega)).mono ?_
  rintro e w1 ⟨vg, rfl, hgv, hb1⟩
  go_wp2_with fail
  refine (split_div _ _ la _ _ (ha.to hb1) hgv.rd (by omega) (by rw [sz_def]; omega) (by rw [val_limbs]; exact Hg.out)).mono ?_
  rintro e w2 ⟨vx, vx2, rfl, hx, _, hb2⟩
  rw [val_limbs] at hx
  have hb12 := below_step hb1 hb2
  go_wp2_with fail
  refine (split_div _ _ lb _ _ (hb.to hb12) (hgv.rd.to hb2) (by omega) (by rw [sz_def]; omega) (by rw [val_limbs]; exact Hg.out)).mono ?_
  rintro e w3 ⟨vy, vy2, rfl, hy, _, hb3⟩
  rw [val_limbs] at hy
  go_wp2_with fail
  go_ret3
  have h1 := hb1.size
  have h2 := hb12.size
  exact ⟨vx, vy, rfl, (hx.mono h1).to hb3, hy.mono h2, below_step hb12 hb3⟩

set_option maxHeartbeats 1000000 in
theorem common_lcm (va vb : Value) (la lb : List Nat) (w : World) (ha : Rd w va la) (hb : Rd w vb lb) (hla : la.length ≤ 40000) (hlb : lb.length ≤ 40000) :
    Calls Try.prog 36 #[va, vb] w (Gives w (limbs (val la / Nat.gcd (val la) (val lb) * val lb))) := by
  have hsa := sz_val ha.1
  have hsd := sz_div (val la) (Nat.gcd (val la) (val lb))
  rcases Nat.eq_zero_or_pos (val lb) with h0 | h0
  · have H0 := Lib.hid h0
    have He := Lib.hid (show limbs (val la / Nat.gcd (val la) (val lb) * val lb) = limbs (val [] * val lb) by rw [h0]; simp [val])
    clear h0
    rw [He.out]
    go_enter Try.func36, Try.ntmps36
    go_wp2_with fail
    refine (common_lowest_no _ _ la lb _ ha hb (by omega) H0.out).mono ?_
    rintro e w1 ⟨rfl, hb1⟩
    go_wp2_with fail
    refine (times_mul _ _ [] lb _ (Rd.nil _) (hb.to hb1) (by simp) (by omega)).mono ?_
    rintro e w2 ⟨v, rfl, hv, hb2⟩
    go_wp2_with fail
    go_ret
    exact ⟨v, rfl, hv.mono hb1.size, below_step hb1 hb2⟩
  · go_enter Try.func36, Try.ntmps36
    go_wp2_with fail
    refine (common_lowest _ _ la lb _ ha hb hla hlb h0).mono ?_
    rintro e w1 ⟨vx, vy, rfl, hx, _, hb1⟩
    go_wp2_with fail
    refine (times_mul _ _ _ lb _ hx.rd (hb.to hb1) (by rw [sz_def]; omega) (by omega)).mono ?_
    rintro e w2 ⟨v, rfl, hv, hb2⟩
    rw [val_limbs] at hv
    go_wp2_with fail
    go_ret
    exact ⟨v, rfl, hv.mono hb1.size, below_step hb1 hb2⟩

theorem cmp_is_zero {a b : Nat} {o : Bool} (h : (a == b) = o) : (cmpN a b == 0) = o := by
  rw [← h, Bool.eq_iff_iff]
  simp only [beq_iff_eq]
  exact cmpN_zero

set_option maxHeartbeats 1000000 in
theorem common_apart (va vb : Value) (la lb : List Nat) (o : Bool) (w : World) (ha : Rd w va la) (hb : Rd w vb lb) (hla : la.length ≤ 90000) (hlb : lb.length ≤ 90000) (ho : Hid ((Nat.gcd (val la) (val lb) == 1) = o)) :
    Calls Try.prog 38 #[va, vb] w fun e w' => e = .returned (.bool o) ∧ Below w.heap.size w w' := by
  have Ho := Lib.hid (cmp_is_zero ho.out)
  go_enter Try.func38, Try.ntmps38
  go_wp2_with fail
  refine (common_gcd _ _ la lb _ ha hb hla hlb).mono ?_
  rintro e w1 ⟨vg, rfl, hg, hb1⟩
  go_wp2_with fail
  refine (nat_of _ _ (by omega) (by omega)).mono ?_
  rintro e w2 ⟨vo, rfl, hvo, hb2⟩
  replace hvo : Own w1.heap.size w2 vo (limbs 1) := hvo
  go_wp2_with fail
  refine (nat_cmp _ _ _ _ _ (hg.rd.to hb2) hvo.rd).mono ?_
  rintro e w3 ⟨rfl, hb3⟩
  rw [val_limbs, val_limbs]
  go_wp2_with fail
  go_ret
  exact ⟨ret_one (congrArg Value.bool Ho.out), below_step (below_step hb1 hb2) hb3⟩

set_option maxHeartbeats 1000000 in
theorem ref5_lowest_no (va vb : Value) (la lb : List Nat) (w : World) (ha : Rd w va la) (hb : Rd w vb lb) (hlb : lb.length ≤ 90000) (h0 : val lb = 0) :
    Calls Try.prog 34 #[va, vb] w fun e w' => e = .returned (.tuple #[.slice none 0 0, .slice none 0 0, .bool false]) ∧ Below w.heap.size w w' := by
  have Hl := Lib.hid (show limbs (val lb) = [] by rw [h0]; rfl)
  clear h0
  go_enter Try.func34, Try.ntmps34
  go_wp2_with fail
  refine (ref2_trim _ lb _ hb (by omega)).mono ?_
  rintro e w1 ⟨v1, rfl, hv1, hb1⟩
  rw [Hl.out] at hv1
  obtain ⟨a1, cap1, rfl⟩ := hv1.rd.shape
  go_wp2_with fail
  go_ret3
  exact ⟨rfl, hb1⟩

set_option maxRecDepth 100000 in
set_option maxHeartbeats 2000000 in
theorem ref5_lowest (va vb : Value) (la lb : List Nat) (w : World) (ha : Rd w va la) (hb : Rd w vb lb) (hla : la.length ≤ 3000) (hlb : lb.length ≤ 3000) (h0 : 0 < val lb) :
    Calls Try.prog 34 #[va, vb] w (GivesTwo w (limbs (val la / Nat.gcd (val la) (val lb))) (limbs (val lb / Nat.gcd (val la) (val lb)))) := by
  have hg : 0 < Nat.gcd (val la) (val lb) := gcd_pos_right h0
  have hsa := sz_val ha.1
  have hsb := sz_val hb.1
  have hsg := sz_gcd_right (a := val la) h0
  have hl0 : 0 < (limbs (val lb)).length := by rw [sz_def]; have := mt sz_eq_zero.1 (Nat.ne_of_gt h0); omega
  have Hg := Lib.hid hg
  clear h0 hg
  go_enter Try.func34, Try.ntmps34
  go_wp2_with fail
  refine (ref2_trim _ lb _ hb (by omega)).mono ?_
  rintro e w1 ⟨v1, rfl, hv1, hb1⟩
  obtain ⟨a1, o1, cap1, rfl, _⟩ := hv1.rd.cells' hl0
  go_wp2_with fail
  refine (ref5_gcd _ _ la _ _ (ha.to hb1) hv1.rd (by omega) (by rw [sz_def]; omega)).mono ?_
  rintro e w2 ⟨vg, rfl, hgv, hb2⟩
  rw [val_limbs] at hgv
  have hb12 := below_step hb1 hb2
  go_wp2_with fail
  refine (ref4_div _ _ la _ _ (ha.to hb12) hgv.rd (by omega) (by rw [sz_def]; omega) (by rw [val_limbs]; exact Hg.out)).mono ?_
  rintro e w3 ⟨vx, vx2, rfl, hx, _, hb3⟩
  rw [val_limbs] at hx
  have hb13 := below_step hb12 hb3
  go_wp2_with fail
  refine (ref4_div _ _ _ _ _ ((hv1.rd.to hb2).to hb3) (hgv.rd.to hb3) (by rw [sz_def]; omega) (by rw [sz_def]; omega) (by rw [val_limbs]; exact Hg.out)).mono ?_
  rintro e w4 ⟨vy, vy2, rfl, hy, _, hb4⟩
  rw [val_limbs, val_limbs] at hy
  go_wp2_with fail
  go_ret3
  have h1 := hb12.size
  have h2 := hb13.size
  exact ⟨vx, vy, rfl, (hx.mono h1).to hb4, hy.mono h2, below_step hb13 hb4⟩

set_option maxHeartbeats 1000000 in
theorem ref5_lcm (va vb : Value) (la lb : List Nat) (w : World) (ha : Rd w va la) (hb : Rd w vb lb) (hla : la.length ≤ 3000) (hlb : lb.length ≤ 3000) :
    Calls Try.prog 37 #[va, vb] w (Gives w (limbs (val la / Nat.gcd (val la) (val lb) * val lb))) := by
  have hsa := sz_val ha.1
  have hsd := sz_div (val la) (Nat.gcd (val la) (val lb))
  rcases Nat.eq_zero_or_pos (val lb) with h0 | h0
  · have H0 := Lib.hid h0
    have He := Lib.hid (show limbs (val la / Nat.gcd (val la) (val lb) * val lb) = [] by rw [h0, Nat.mul_zero]; rfl)
    clear h0
    rw [He.out]
    go_enter Try.func37, Try.ntmps37
    go_wp2_with fail
    refine (ref5_lowest_no _ _ la lb _ ha hb (by omega) H0.out).mono ?_
    rintro e w1 ⟨rfl, hb1⟩
    go_wp2_with fail
    go_ret
    exact ⟨_, rfl, Own.nil _ _, hb1⟩
  · go_enter Try.func37, Try.ntmps37
    go_wp2_with fail
    refine (ref5_lowest _ _ la lb _ ha hb hla hlb h0).mono ?_
    rintro e w1 ⟨vx, vy, rfl, hx, _, hb1⟩
    go_wp2_with fail
    refine (ref3_mul _ _ _ lb _ hx.rd (hb.to hb1) (by rw [sz_def]; omega) (by omega)).mono ?_
    rintro e w2 ⟨v, rfl, hv, hb2⟩
    rw [val_limbs] at hv
    go_wp2_with fail
    go_ret
    exact ⟨v, rfl, hv.mono hb1.size, below_step hb1 hb2⟩

/-- Whether the one number goes into the other one. -/
def Goes (d a : Nat) (o : Bool) : Prop := o = true ↔ (0 < d ∧ d ∣ a)

set_option maxHeartbeats 1000000 in
theorem goes_any (vd va : Value) (ld la : List Nat) (o : Bool) (w : World) (hd : Rd w vd ld) (ha : Rd w va la) (hld : ld.length ≤ 90000) (hla : la.length ≤ 90000) (ho : Goes (val ld) (val la) o) :
    Calls Try.prog 39 #[vd, va] w fun e w' => e = .returned (.bool o) ∧ Below w.heap.size w w' := by
  rcases Nat.eq_zero_or_pos (val ld) with h0 | h0
  · obtain rfl : o = false := by
      cases o
      · rfl
      · have := (ho.1 rfl).1; omega
    have H0 := Lib.hid h0
    clear h0
    go_enter Try.func39, Try.ntmps39
    go_wp2_with fail
    refine (split_div_no _ _ la ld _ ha hd (by omega) H0.out).mono ?_
    rintro e w1 ⟨rfl, hb1⟩
    go_wp2_with fail
    go_ret
    exact ⟨rfl, hb1⟩
  · have H0 := Lib.hid h0
    by_cases hm : val la % val ld = 0
    · obtain rfl : o = true := ho.2 ⟨h0, Nat.dvd_of_mod_eq_zero hm⟩
      have Hr := Lib.hid (show limbs (val la % val ld) = [] by rw [hm]; rfl)
      clear h0 hm
      go_enter Try.func39, Try.ntmps39
      go_wp2_with fail
      refine (split_div _ _ la ld _ ha hd hla hld H0.out).mono ?_
      rintro e w1 ⟨vq, vr, rfl, _, hr, hb1⟩
      rw [Hr.out] at hr
      obtain ⟨ar, cr, rfl⟩ := hr.rd.shape
      go_wp2_with fail
      go_ret
      exact ⟨rfl, hb1⟩
    · obtain rfl : o = false := by
        cases o
        · rfl
        · exact absurd (Nat.mod_eq_zero_of_dvd (ho.1 rfl).2) hm
      have hl : 0 < (limbs (val la % val ld)).length := by rw [sz_def]; have := mt sz_eq_zero.1 hm; omega
      clear h0 hm
      go_enter Try.func39, Try.ntmps39
      go_wp2_with fail
      refine (split_div _ _ la ld _ ha hd hla hld H0.out).mono ?_
      rintro e w1 ⟨vq, vr, rfl, _, hr, hb1⟩
      obtain ⟨ar, nr, cr, rfl, Hnr, _⟩ := hr.rd.open
      have hnr : 0 < nr := by have := Hnr.out; omega
      have tz : ((nr : Int) == 0) = false := by simp; omega
      go_wp2_with fail
      go_ret
      exact ⟨rfl, hb1⟩

end Go.Proofs.Ytjacmhlcodjhcaa
