/-
  The walks of the statements of layer 5.
-/
import Derived.Test.YtjacmhlcodjhcaaLaw5
namespace Go.Proofs.Ytjacmhlcodjhcaa
open Go.RowKit Tw
set_option linter.unusedVariables false
set_option linter.unusedSimpArgs false

set_option maxRecDepth 100000 in
set_option maxHeartbeats 2000000 in
theorem walk_CommonProduct (va : Value) (la : List Nat) (vb : Value) (lb : List Nat) (w : World) (ha : Rd w va la) (hb : Rd w vb lb) :
    Calls Try.prog 10 #[va, vb] w (Holds w) := by
  have hlma := ha.len_le
  have hlmb := hb.len_le
  unfold maxLen at hlma hlmb
  by_cases hfew : (la.length : Int) ≤ 8 ∧ (lb.length : Int) ≤ 8
  · obtain ⟨hla, hlb⟩ := hfew
    have hsa := sz_val ha.1
    have hsb := sz_val hb.1
    have hsg := sz_gcd (val la) (val lb)
    have h1 := sz_div (val la) (Nat.gcd (val la) (val lb))
    have h2 := sz_mul (val la / Nat.gcd (val la) (val lb)) (val lb)
    have Hm := Lib.hid (show Nat.gcd (val la) (val lb) * (val la / Nat.gcd (val la) (val lb) * val lb) = val la * val lb by
      rw [← Nat.mul_assoc, Nat.mul_div_cancel' (Nat.gcd_dvd_left _ _)])
    have Hk := Lib.hid (show val lb / Nat.gcd (val lb) (val la) * val la = val la / Nat.gcd (val la) (val lb) * val lb from lcm_comm _ _)
    rcases Nat.eq_zero_or_pos (val la) with hza | hza
    · have Hna := Lib.hid (show nbits (val la) = 0 by rw [hza]; rfl)
      clear hza
      go_enter Try.func10, Try.ntmps10
      go_wp2_with fail
      refine (awake5 _).mono ?_
      rintro e w1 ⟨rfl, hb1⟩
      have hB := hb1
      replace ha := ha.to hb1
      replace hb := hb.to hb1
      clear hb1
      go_wp2_with fail
      refine (few_yes _ _ la lb 8 _ ha hb hla hlb).mono ?_
      rintro e w' ⟨rfl, rfl⟩
      go_wp2_with fail
      refine (common_gcd _ _ la lb _ ha hb (by omega) (by omega)).mono ?_
      rintro e w2 ⟨vg, rfl, hg, hb2⟩
      replace hB := below_step hB hb2
      replace ha := ha.to hb2
      replace hb := hb.to hb2
      replace hg := hg.rd
      clear hb2
      go_wp2_with fail
      refine (common_lcm _ _ la lb _ ha hb (by omega) (by omega)).mono ?_
      rintro e w3 ⟨vl, rfl, hl, hb3⟩
      replace hB := below_step hB hb3
      replace ha := ha.to hb3
      replace hb := hb.to hb3
      replace hg := hg.to hb3
      replace hl := hl.rd
      clear hb3
      go_wp2_with fail
      refine (nat_bits _ la _ ha (by omega)).mono ?_
      rintro e w' ⟨rfl, rfl⟩
      rw [Hna.out]
      go_wp2_with fail
      refine (times_mul _ _ _ _ _ hg hl (by show sz _ ≤ _; omega) (by show sz _ ≤ _; omega)).mono ?_
      rintro e w4 ⟨vm, rfl, hm, hb4⟩
      replace hB := below_step hB hb4
      replace ha := ha.to hb4
      replace hb := hb.to hb4
      replace hg := hg.to hb4
      replace hl := hl.to hb4
      replace hm : Rd w4 vm (limbs (Nat.gcd (val la) (val lb) * (val la / Nat.gcd (val la) (val lb) * val lb))) := by have := hm.rd; (try simp only [val_limbs, Nat.add_sub_cancel] at this); exact this
      clear hb4
      rw [Hm.out] at hm
      go_wp2_with fail
      refine (times_mul _ _ la lb _ ha hb (by omega) (by omega)).mono ?_
      rintro e w5 ⟨vn, rfl, hn, hb5⟩
      replace hB := below_step hB hb5
      replace ha := ha.to hb5
      replace hb := hb.to hb5
      replace hg := hg.to hb5
      replace hl := hl.to hb5
      replace hm := hm.to hb5
      replace hn : Rd w5 vn (limbs (val la * val lb)) := by have := hn.rd; (try simp only [val_limbs, Nat.add_sub_cancel] at this); exact this
      clear hb5
      go_wp2_with fail
      refine (words_same _ _ _ _ hm hn).mono ?_
      rintro e w6 ⟨rfl, hb6⟩
      replace hB := below_step hB hb6
      replace ha := ha.to hb6
      replace hb := hb.to hb6
      replace hg := hg.to hb6
      replace hl := hl.to hb6
      replace hm := hm.to hb6
      replace hn := hn.to hb6
      clear hb6
      go_wp2_with fail
      refine (common_lcm _ _ lb la _ hb ha (by omega) (by omega)).mono ?_
      rintro e w7 ⟨vk, rfl, hk, hb7⟩
      replace hB := below_step hB hb7
      replace ha := ha.to hb7
      replace hb := hb.to hb7
      replace hg := hg.to hb7
      replace hl := hl.to hb7
      replace hm := hm.to hb7
      replace hn := hn.to hb7
      replace hk := hk.rd
      clear hb7
      rw [Hk.out] at hk
      go_wp2_with fail
      refine (words_same _ _ _ _ hk hl).mono ?_
      rintro e w8 ⟨rfl, hb8⟩
      replace hB := below_step hB hb8
      replace ha := ha.to hb8
      replace hb := hb.to hb8
      replace hg := hg.to hb8
      replace hl := hl.to hb8
      replace hm := hm.to hb8
      replace hn := hn.to hb8
      replace hk := hk.to hb8
      clear hb8
      go_wp2_with fail
      go_ret
      exact ⟨by first | rfl | exact ret_bool (by first | (simp; done) | (simp; omega)), hB⟩
    have hna : 0 < nbits (val la) := Nat.pos_of_ne_zero (fun e => absurd (nbits_eq_zero.1 e) (by omega))
    have ta : decide ((0 : Int) < (nbits (val la) : Int)) = true := by simp; omega
    rcases Nat.eq_zero_or_pos (val lb) with hzb | hzb
    · have Hnb := Lib.hid (show nbits (val lb) = 0 by rw [hzb]; rfl)
      clear hzb hza
      go_enter Try.func10, Try.ntmps10
      go_wp2_with fail
      refine (awake5 _).mono ?_
      rintro e w1 ⟨rfl, hb1⟩
      have hB := hb1
      replace ha := ha.to hb1
      replace hb := hb.to hb1
      clear hb1
      go_wp2_with fail
      refine (few_yes _ _ la lb 8 _ ha hb hla hlb).mono ?_
      rintro e w' ⟨rfl, rfl⟩
      go_wp2_with fail
      refine (common_gcd _ _ la lb _ ha hb (by omega) (by omega)).mono ?_
      rintro e w2 ⟨vg, rfl, hg, hb2⟩
      replace hB := below_step hB hb2
      replace ha := ha.to hb2
      replace hb := hb.to hb2
      replace hg := hg.rd
      clear hb2
      go_wp2_with fail
      refine (common_lcm _ _ la lb _ ha hb (by omega) (by omega)).mono ?_
      rintro e w3 ⟨vl, rfl, hl, hb3⟩
      replace hB := below_step hB hb3
      replace ha := ha.to hb3
      replace hb := hb.to hb3
      replace hg := hg.to hb3
      replace hl := hl.rd
      clear hb3
      go_wp2_with fail
      refine (nat_bits _ la _ ha (by omega)).mono ?_
      rintro e w' ⟨rfl, rfl⟩
      go_wp2_with fail
      refine (nat_bits _ lb _ hb (by omega)).mono ?_
      rintro e w' ⟨rfl, rfl⟩
      rw [Hnb.out]
      go_wp2_with fail
      refine (times_mul _ _ _ _ _ hg hl (by show sz _ ≤ _; omega) (by show sz _ ≤ _; omega)).mono ?_
      rintro e w4 ⟨vm, rfl, hm, hb4⟩
      replace hB := below_step hB hb4
      replace ha := ha.to hb4
      replace hb := hb.to hb4
      replace hg := hg.to hb4
      replace hl := hl.to hb4
      replace hm : Rd w4 vm (limbs (Nat.gcd (val la) (val lb) * (val la / Nat.gcd (val la) (val lb) * val lb))) := by have := hm.rd; (try simp only [val_limbs, Nat.add_sub_cancel] at this); exact this
      clear hb4
      rw [Hm.out] at hm
      go_wp2_with fail
      refine (times_mul _ _ la lb _ ha hb (by omega) (by omega)).mono ?_
      rintro e w5 ⟨vn, rfl, hn, hb5⟩
      replace hB := below_step hB hb5
      replace ha := ha.to hb5
      replace hb := hb.to hb5
      replace hg := hg.to hb5
      replace hl := hl.to hb5
      replace hm := hm.to hb5
      replace hn : Rd w5 vn (limbs (val la * val lb)) := by have := hn.rd; (try simp only [val_limbs, Nat.add_sub_cancel] at this); exact this
      clear hb5
      go_wp2_with fail
      refine (words_same _ _ _ _ hm hn).mono ?_
      rintro e w6 ⟨rfl, hb6⟩
      replace hB := below_step hB hb6
      replace ha := ha.to hb6
      replace hb := hb.to hb6
      replace hg := hg.to hb6
      replace hl := hl.to hb6
      replace hm := hm.to hb6
      replace hn := hn.to hb6
      clear hb6
      go_wp2_with fail
      refine (common_lcm _ _ lb la _ hb ha (by omega) (by omega)).mono ?_
      rintro e w7 ⟨vk, rfl, hk, hb7⟩
      replace hB := below_step hB hb7
      replace ha := ha.to hb7
      replace hb := hb.to hb7
      replace hg := hg.to hb7
      replace hl := hl.to hb7
      replace hm := hm.to hb7
      replace hn := hn.to hb7
      replace hk := hk.rd
      clear hb7
      rw [Hk.out] at hk
      go_wp2_with fail
      refine (words_same _ _ _ _ hk hl).mono ?_
      rintro e w8 ⟨rfl, hb8⟩
      replace hB := below_step hB hb8
      replace ha := ha.to hb8
      replace hb := hb.to hb8
      replace hg := hg.to hb8
      replace hl := hl.to hb8
      replace hm := hm.to hb8
      replace hn := hn.to hb8
      replace hk := hk.to hb8
      clear hb8
      go_wp2_with fail
      go_ret
      exact ⟨by first | rfl | exact ret_bool (by first | (simp; done) | (simp; omega)), hB⟩
    · have hnb : 0 < nbits (val lb) := Nat.pos_of_ne_zero (fun e => absurd (nbits_eq_zero.1 e) (by omega))
      have tb : decide ((0 : Int) < (nbits (val lb) : Int)) = true := by simp; omega
      have Hd1 : Goes (val la) (val (limbs (val la / Nat.gcd (val la) (val lb) * val lb))) true := ⟨fun _ => ⟨hza, by rw [val_limbs]; exact dvd_lcm_left _ _⟩, fun _ => rfl⟩
      have Hd2 : Goes (val lb) (val (limbs (val la / Nat.gcd (val la) (val lb) * val lb))) true := ⟨fun _ => ⟨hzb, by rw [val_limbs]; exact Nat.dvd_mul_left _ _⟩, fun _ => rfl⟩
      clear hza hzb
      go_enter Try.func10, Try.ntmps10
      go_wp2_with fail
      refine (awake5 _).mono ?_
      rintro e w1 ⟨rfl, hb1⟩
      have hB := hb1
      replace ha := ha.to hb1
      replace hb := hb.to hb1
      clear hb1
      go_wp2_with fail
      refine (few_yes _ _ la lb 8 _ ha hb hla hlb).mono ?_
      rintro e w' ⟨rfl, rfl⟩
      go_wp2_with fail
      refine (common_gcd _ _ la lb _ ha hb (by omega) (by omega)).mono ?_
      rintro e w2 ⟨vg, rfl, hg, hb2⟩
      replace hB := below_step hB hb2
      replace ha := ha.to hb2
      replace hb := hb.to hb2
      replace hg := hg.rd
      clear hb2
      go_wp2_with fail
      refine (common_lcm _ _ la lb _ ha hb (by omega) (by omega)).mono ?_
      rintro e w3 ⟨vl, rfl, hl, hb3⟩
      replace hB := below_step hB hb3
      replace ha := ha.to hb3
      replace hb := hb.to hb3
      replace hg := hg.to hb3
      replace hl := hl.rd
      clear hb3
      go_wp2_with fail
      refine (nat_bits _ la _ ha (by omega)).mono ?_
      rintro e w' ⟨rfl, rfl⟩
      go_wp2_with fail
      refine (nat_bits _ lb _ hb (by omega)).mono ?_
      rintro e w' ⟨rfl, rfl⟩
      go_wp2_with fail
      refine (goes_any _ _ la _ true _ ha hl (by omega) (by show sz _ ≤ _; omega) Hd1).mono ?_
      rintro e w4 ⟨rfl, hb4⟩
      replace hB := below_step hB hb4
      replace ha := ha.to hb4
      replace hb := hb.to hb4
      replace hg := hg.to hb4
      replace hl := hl.to hb4
      clear hb4
      go_wp2_with fail
      refine (goes_any _ _ lb _ true _ hb hl (by omega) (by show sz _ ≤ _; omega) Hd2).mono ?_
      rintro e w5 ⟨rfl, hb5⟩
      replace hB := below_step hB hb5
      replace ha := ha.to hb5
      replace hb := hb.to hb5
      replace hg := hg.to hb5
      replace hl := hl.to hb5
      clear hb5
      go_wp2_with fail
      refine (times_mul _ _ _ _ _ hg hl (by show sz _ ≤ _; omega) (by show sz _ ≤ _; omega)).mono ?_
      rintro e w6 ⟨vm, rfl, hm, hb6⟩
      replace hB := below_step hB hb6
      replace ha := ha.to hb6
      replace hb := hb.to hb6
      replace hg := hg.to hb6
      replace hl := hl.to hb6
      replace hm : Rd w6 vm (limbs (Nat.gcd (val la) (val lb) * (val la / Nat.gcd (val la) (val lb) * val lb))) := by have := hm.rd; (try simp only [val_limbs, Nat.add_sub_cancel] at this); exact this
      clear hb6
      rw [Hm.out] at hm
      go_wp2_with fail
      refine (times_mul _ _ la lb _ ha hb (by omega) (by omega)).mono ?_
      rintro e w7 ⟨vn, rfl, hn, hb7⟩
      replace hB := below_step hB hb7
      replace ha := ha.to hb7
      replace hb := hb.to hb7
      replace hg := hg.to hb7
      replace hl := hl.to hb7
      replace hm := hm.to hb7
      replace hn : Rd w7 vn (limbs (val la * val lb)) := by have := hn.rd; (try simp only [val_limbs, Nat.add_sub_cancel] at this); exact this
      clear hb7
      go_wp2_with fail
      refine (words_same _ _ _ _ hm hn).mono ?_
      rintro e w8 ⟨rfl, hb8⟩
      replace hB := below_step hB hb8
      replace ha := ha.to hb8
      replace hb := hb.to hb8
      replace hg := hg.to hb8
      replace hl := hl.to hb8
      replace hm := hm.to hb8
      replace hn := hn.to hb8
      clear hb8
      go_wp2_with fail
      refine (common_lcm _ _ lb la _ hb ha (by omega) (by omega)).mono ?_
      rintro e w9 ⟨vk, rfl, hk, hb9⟩
      replace hB := below_step hB hb9
      replace ha := ha.to hb9
      replace hb := hb.to hb9
      replace hg := hg.to hb9
      replace hl := hl.to hb9
      replace hm := hm.to hb9
      replace hn := hn.to hb9
      replace hk := hk.rd
      clear hb9
      rw [Hk.out] at hk
      go_wp2_with fail
      refine (words_same _ _ _ _ hk hl).mono ?_
      rintro e w10 ⟨rfl, hb10⟩
      replace hB := below_step hB hb10
      replace ha := ha.to hb10
      replace hb := hb.to hb10
      replace hg := hg.to hb10
      replace hl := hl.to hb10
      replace hm := hm.to hb10
      replace hn := hn.to hb10
      replace hk := hk.to hb10
      clear hb10
      go_wp2_with fail
      go_ret
      exact ⟨by first | rfl | exact ret_bool (by first | (simp; done) | (simp; omega)), hB⟩
  · go_enter Try.func10, Try.ntmps10
    go_wp2_with fail
    refine (awake5 _).mono ?_
    rintro e w1 ⟨rfl, hb1⟩
    have hB := hb1
    replace ha := ha.to hb1
    replace hb := hb.to hb1
    clear hb1
    go_wp2_with fail
    refine (few_no _ _ la lb 8 _ ha hb hfew).mono ?_
    rintro e w' ⟨rfl, rfl⟩
    go_wp2_with fail
    go_ret
    exact ⟨by first | rfl | exact ret_bool (by first | (simp; done) | (simp; omega)), hB⟩

set_option maxRecDepth 100000 in
set_option maxHeartbeats 2000000 in
theorem walk_CommonLowest (va : Value) (la : List Nat) (vb : Value) (lb : List Nat) (vc : Value) (lc : List Nat) (w : World) (ha : Rd w va la) (hb : Rd w vb lb) (hc : Rd w vc lc) :
    Calls Try.prog 11 #[va, vb, vc] w (Holds w) := by
  have hlma := ha.len_le
  have hlmb := hb.len_le
  unfold maxLen at hlma hlmb
  have hlmc := hc.len_le
  unfold maxLen at hlmc
  obtain ⟨ac, capc, rfl⟩ := hc.shape
  by_cases hfew : (la.length : Int) ≤ 8 ∧ (lb.length : Int) ≤ 8
  · obtain ⟨hla, hlb⟩ := hfew
    have hsa := sz_val ha.1
    have hsb := sz_val hb.1
    by_cases hlc : 8 < lc.length
    · skip
      go_enter Try.func11, Try.ntmps11
      go_wp2_with fail
      refine (awake5 _).mono ?_
      rintro e w1 ⟨rfl, hb1⟩
      have hB := hb1
      replace ha := ha.to hb1
      replace hb := hb.to hb1
      replace hc := hc.to hb1
      clear hb1
      go_wp2_with fail
      refine (few_yes _ _ la lb 8 _ ha hb hla hlb).mono ?_
      rintro e w' ⟨rfl, rfl⟩
      go_wp2_with fail
      go_ret
      exact ⟨by first | rfl | exact ret_bool (by first | (simp; done) | (simp; omega)), hB⟩
    have tc : decide ((8 : Int) < (lc.length : Int)) = false := by simp; omega
    have hsc := sz_val hc.1
    have h1 := sz_mul (val la) (val lc)
    have h2 := sz_mul (val lb) (val lc)
    have h3 := sz_div (val la) (Nat.gcd (val la) (val lb))
    have h4 := sz_div (val lb) (Nat.gcd (val la) (val lb))
    rcases Nat.eq_zero_or_pos (val lb) with hb0 | hb0
    · have Hn := Lib.hid (show nbits (val lb) = 0 by rw [hb0]; rfl)
      clear hb0
      go_enter Try.func11, Try.ntmps11
      go_wp2_with fail
      refine (awake5 _).mono ?_
      rintro e w1 ⟨rfl, hb1⟩
      have hB := hb1
      replace ha := ha.to hb1
      replace hb := hb.to hb1
      replace hc := hc.to hb1
      clear hb1
      go_wp2_with fail
      refine (few_yes _ _ la lb 8 _ ha hb hla hlb).mono ?_
      rintro e w' ⟨rfl, rfl⟩
      go_wp2_with fail
      refine (nat_bits _ lb _ hb (by omega)).mono ?_
      rintro e w' ⟨rfl, rfl⟩
      rw [Hn.out]
      go_wp2_with fail
      go_ret
      exact ⟨by first | rfl | exact ret_bool (by first | (simp; done) | (simp; omega)), hB⟩
    have hnb : 0 < nbits (val lb) := Nat.pos_of_ne_zero (fun e => absurd (nbits_eq_zero.1 e) (by omega))
    have tb : ((nbits (val lb) : Int) == 0) = false := by simp; omega
    have Hb := Lib.hid hb0
    rcases Nat.eq_zero_or_pos (val lc) with hc0 | hc0
    · have Hn := Lib.hid (show nbits (val lc) = 0 by rw [hc0]; rfl)
      clear hc0 hb0
      go_enter Try.func11, Try.ntmps11
      go_wp2_with fail
      refine (awake5 _).mono ?_
      rintro e w1 ⟨rfl, hb1⟩
      have hB := hb1
      replace ha := ha.to hb1
      replace hb := hb.to hb1
      replace hc := hc.to hb1
      clear hb1
      go_wp2_with fail
      refine (few_yes _ _ la lb 8 _ ha hb hla hlb).mono ?_
      rintro e w' ⟨rfl, rfl⟩
      go_wp2_with fail
      refine (nat_bits _ lb _ hb (by omega)).mono ?_
      rintro e w' ⟨rfl, rfl⟩
      go_wp2_with fail
      refine (nat_bits _ lc _ hc (by omega)).mono ?_
      rintro e w' ⟨rfl, rfl⟩
      rw [Hn.out]
      go_wp2_with fail
      go_ret
      exact ⟨by first | rfl | exact ret_bool (by first | (simp; done) | (simp; omega)), hB⟩
    have hnc : 0 < nbits (val lc) := Nat.pos_of_ne_zero (fun e => absurd (nbits_eq_zero.1 e) (by omega))
    have tn : ((nbits (val lc) : Int) == 0) = false := by simp; omega
    have Hc := Lib.hid hc0
    have Hbc := Lib.hid (Nat.mul_pos hb0 hc0)
    have hg0 : 0 < Nat.gcd (val la) (val lb) := gcd_pos_right hb0
    have hco := Nat.coprime_div_gcd_div_gcd hg0
    have Hy0 := Lib.hid (show 0 < val lb / Nat.gcd (val la) (val lb) from Nat.div_pos (Nat.gcd_le_right _ hb0) hg0)
    have Hu := Lib.hid (show val la / Nat.gcd (val la) (val lb) / Nat.gcd (val la / Nat.gcd (val la) (val lb)) (val lb / Nat.gcd (val la) (val lb)) = val la / Nat.gcd (val la) (val lb) by rw [hco, Nat.div_one])
    have Hv := Lib.hid (show val lb / Nat.gcd (val la) (val lb) / Nat.gcd (val la / Nat.gcd (val la) (val lb)) (val lb / Nat.gcd (val la) (val lb)) = val lb / Nat.gcd (val la) (val lb) by rw [hco, Nat.div_one])
    have Hp := Lib.hid (show val la * val lc / Nat.gcd (val la * val lc) (val lb * val lc) = val la / Nat.gcd (val la) (val lb) by rw [Nat.gcd_mul_right, Nat.mul_div_mul_right _ _ hc0])
    have Hq := Lib.hid (show val lb * val lc / Nat.gcd (val la * val lc) (val lb * val lc) = val lb / Nat.gcd (val la) (val lb) by rw [Nat.gcd_mul_right, Nat.mul_div_mul_right _ _ hc0])
    have Hst := Lib.hid (show val la / Nat.gcd (val la) (val lb) * val lb = val la * (val lb / Nat.gcd (val la) (val lb)) from cross_terms _ _)
    have Hap : Hid ((Nat.gcd (val (limbs (val la / Nat.gcd (val la) (val lb)))) (val (limbs (val lb / Nat.gcd (val la) (val lb)))) == 1) = true) := by
      unfold Hid; rw [val_limbs, val_limbs, hco]; rfl
    clear hb0 hc0 hg0 hco
    go_enter Try.func11, Try.ntmps11
    go_wp2_with fail
    refine (awake5 _).mono ?_
    rintro e w1 ⟨rfl, hb1⟩
    have hB := hb1
    replace ha := ha.to hb1
    replace hb := hb.to hb1
    replace hc := hc.to hb1
    clear hb1
    go_wp2_with fail
    refine (few_yes _ _ la lb 8 _ ha hb hla hlb).mono ?_
    rintro e w' ⟨rfl, rfl⟩
    go_wp2_with fail
    refine (nat_bits _ lb _ hb (by omega)).mono ?_
    rintro e w' ⟨rfl, rfl⟩
    go_wp2_with fail
    refine (nat_bits _ lc _ hc (by omega)).mono ?_
    rintro e w' ⟨rfl, rfl⟩
    go_wp2_with fail
    refine (common_lowest _ _ la lb _ ha hb (by omega) (by omega) Hb.out).mono ?_
    rintro e w2 ⟨vx, vy, rfl, hx, hy, hb2⟩
    replace hB := below_step hB hb2
    replace ha := ha.to hb2
    replace hb := hb.to hb2
    replace hc := hc.to hb2
    replace hx := hx.rd
    replace hy := hy.rd
    clear hb2
    go_wp2_with fail
    refine (common_lowest _ _ _ _ _ hx hy (by show sz _ ≤ _; omega) (by show sz _ ≤ _; omega) (by rw [val_limbs]; exact Hy0.out)).mono ?_
    rintro e w3 ⟨vu, vv, rfl, hu, hv, hb3⟩
    replace hB := below_step hB hb3
    replace ha := ha.to hb3
    replace hb := hb.to hb3
    replace hc := hc.to hb3
    replace hx := hx.to hb3
    replace hy := hy.to hb3
    replace hu := hu.rd
    replace hv := hv.rd
    clear hb3
    rw [val_limbs, val_limbs, Hu.out] at hu
    rw [val_limbs, val_limbs, Hv.out] at hv
    go_wp2_with fail
    refine (times_mul _ _ la lc _ ha hc (by omega) (by omega)).mono ?_
    rintro e w4 ⟨vm, rfl, hm, hb4⟩
    replace hB := below_step hB hb4
    replace ha := ha.to hb4
    replace hb := hb.to hb4
    replace hc := hc.to hb4
    replace hx := hx.to hb4
    replace hy := hy.to hb4
    replace hu := hu.to hb4
    replace hv := hv.to hb4
    replace hm : Rd w4 vm (limbs (val la * val lc)) := by have := hm.rd; (try simp only [val_limbs, Nat.add_sub_cancel] at this); exact this
    clear hb4
    go_wp2_with fail
    refine (times_mul _ _ lb lc _ hb hc (by omega) (by omega)).mono ?_
    rintro e w5 ⟨vn, rfl, hn, hb5⟩
    replace hB := below_step hB hb5
    replace ha := ha.to hb5
    replace hb := hb.to hb5
    replace hc := hc.to hb5
    replace hx := hx.to hb5
    replace hy := hy.to hb5
    replace hu := hu.to hb5
    replace hv := hv.to hb5
    replace hm := hm.to hb5
    replace hn : Rd w5 vn (limbs (val lb * val lc)) := by have := hn.rd; (try simp only [val_limbs, Nat.add_sub_cancel] at this); exact this
    clear hb5
    go_wp2_with fail
    refine (common_lowest _ _ _ _ _ hm hn (by show sz _ ≤ _; omega) (by show sz _ ≤ _; omega) (by rw [val_limbs]; exact Hbc.out)).mono ?_
    rintro e w6 ⟨vp, vq, rfl, hp, hq, hb6⟩
    replace hB := below_step hB hb6
    replace ha := ha.to hb6
    replace hb := hb.to hb6
    replace hc := hc.to hb6
    replace hx := hx.to hb6
    replace hy := hy.to hb6
    replace hu := hu.to hb6
    replace hv := hv.to hb6
    replace hm := hm.to hb6
    replace hn := hn.to hb6
    replace hp := hp.rd
    replace hq := hq.rd
    clear hb6
    rw [val_limbs, val_limbs, Hp.out] at hp
    rw [val_limbs, val_limbs, Hq.out] at hq
    go_wp2_with fail
    refine (times_mul _ _ _ lb _ hx hb (by show sz _ ≤ _; omega) (by omega)).mono ?_
    rintro e w7 ⟨vs, rfl, hs, hb7⟩
    replace hB := below_step hB hb7
    replace ha := ha.to hb7
    replace hb := hb.to hb7
    replace hc := hc.to hb7
    replace hx := hx.to hb7
    replace hy := hy.to hb7
    replace hu := hu.to hb7
    replace hv := hv.to hb7
    replace hm := hm.to hb7
    replace hn := hn.to hb7
    replace hp := hp.to hb7
    replace hq := hq.to hb7
    replace hs : Rd w7 vs (limbs (val la / Nat.gcd (val la) (val lb) * val lb)) := by have := hs.rd; (try simp only [val_limbs, Nat.add_sub_cancel] at this); exact this
    clear hb7
    go_wp2_with fail
    refine (times_mul _ _ la _ _ ha hy (by omega) (by show sz _ ≤ _; omega)).mono ?_
    rintro e w8 ⟨vt, rfl, ht, hb8⟩
    replace hB := below_step hB hb8
    replace ha := ha.to hb8
    replace hb := hb.to hb8
    replace hc := hc.to hb8
    replace hx := hx.to hb8
    replace hy := hy.to hb8
    replace hu := hu.to hb8
    replace hv := hv.to hb8
    replace hm := hm.to hb8
    replace hn := hn.to hb8
    replace hp := hp.to hb8
    replace hq := hq.to hb8
    replace hs := hs.to hb8
    replace ht : Rd w8 vt (limbs (val la * (val lb / Nat.gcd (val la) (val lb)))) := by have := ht.rd; (try simp only [val_limbs, Nat.add_sub_cancel] at this); exact this
    clear hb8
    rw [Hst.out] at hs
    go_wp2_with fail
    refine (words_same _ _ _ _ hs ht).mono ?_
    rintro e w9 ⟨rfl, hb9⟩
    replace hB := below_step hB hb9
    replace ha := ha.to hb9
    replace hb := hb.to hb9
    replace hc := hc.to hb9
    replace hx := hx.to hb9
    replace hy := hy.to hb9
    replace hu := hu.to hb9
    replace hv := hv.to hb9
    replace hm := hm.to hb9
    replace hn := hn.to hb9
    replace hp := hp.to hb9
    replace hq := hq.to hb9
    replace hs := hs.to hb9
    replace ht := ht.to hb9
    clear hb9
    go_wp2_with fail
    refine (common_apart _ _ _ _ true _ hx hy (by show sz _ ≤ _; omega) (by show sz _ ≤ _; omega) Hap).mono ?_
    rintro e w10 ⟨rfl, hb10⟩
    replace hB := below_step hB hb10
    replace ha := ha.to hb10
    replace hb := hb.to hb10
    replace hc := hc.to hb10
    replace hx := hx.to hb10
    replace hy := hy.to hb10
    replace hu := hu.to hb10
    replace hv := hv.to hb10
    replace hm := hm.to hb10
    replace hn := hn.to hb10
    replace hp := hp.to hb10
    replace hq := hq.to hb10
    replace hs := hs.to hb10
    replace ht := ht.to hb10
    clear hb10
    go_wp2_with fail
    refine (words_same _ _ _ _ hu hx).mono ?_
    rintro e w11 ⟨rfl, hb11⟩
    replace hB := below_step hB hb11
    replace ha := ha.to hb11
    replace hb := hb.to hb11
    replace hc := hc.to hb11
    replace hx := hx.to hb11
    replace hy := hy.to hb11
    replace hu := hu.to hb11
    replace hv := hv.to hb11
    replace hm := hm.to hb11
    replace hn := hn.to hb11
    replace hp := hp.to hb11
    replace hq := hq.to hb11
    replace hs := hs.to hb11
    replace ht := ht.to hb11
    clear hb11
    go_wp2_with fail
    refine (words_same _ _ _ _ hv hy).mono ?_
    rintro e w12 ⟨rfl, hb12⟩
    replace hB := below_step hB hb12
    replace ha := ha.to hb12
    replace hb := hb.to hb12
    replace hc := hc.to hb12
    replace hx := hx.to hb12
    replace hy := hy.to hb12
    replace hu := hu.to hb12
    replace hv := hv.to hb12
    replace hm := hm.to hb12
    replace hn := hn.to hb12
    replace hp := hp.to hb12
    replace hq := hq.to hb12
    replace hs := hs.to hb12
    replace ht := ht.to hb12
    clear hb12
    go_wp2_with fail
    refine (words_same _ _ _ _ hp hx).mono ?_
    rintro e w13 ⟨rfl, hb13⟩
    replace hB := below_step hB hb13
    replace ha := ha.to hb13
    replace hb := hb.to hb13
    replace hc := hc.to hb13
    replace hx := hx.to hb13
    replace hy := hy.to hb13
    replace hu := hu.to hb13
    replace hv := hv.to hb13
    replace hm := hm.to hb13
    replace hn := hn.to hb13
    replace hp := hp.to hb13
    replace hq := hq.to hb13
    replace hs := hs.to hb13
    replace ht := ht.to hb13
    clear hb13
    go_wp2_with fail
    refine (words_same _ _ _ _ hq hy).mono ?_
    rintro e w14 ⟨rfl, hb14⟩
    replace hB := below_step hB hb14
    replace ha := ha.to hb14
    replace hb := hb.to hb14
    replace hc := hc.to hb14
    replace hx := hx.to hb14
    replace hy := hy.to hb14
    replace hu := hu.to hb14
    replace hv := hv.to hb14
    replace hm := hm.to hb14
    replace hn := hn.to hb14
    replace hp := hp.to hb14
    replace hq := hq.to hb14
    replace hs := hs.to hb14
    replace ht := ht.to hb14
    clear hb14
    go_wp2_with fail
    go_ret
    exact ⟨by first | rfl | exact ret_bool (by first | (simp; done) | (simp; omega)), hB⟩
  · go_enter Try.func11, Try.ntmps11
    go_wp2_with fail
    refine (awake5 _).mono ?_
    rintro e w1 ⟨rfl, hb1⟩
    have hB := hb1
    replace ha := ha.to hb1
    replace hb := hb.to hb1
    replace hc := hc.to hb1
    clear hb1
    go_wp2_with fail
    refine (few_no _ _ la lb 8 _ ha hb hfew).mono ?_
    rintro e w' ⟨rfl, rfl⟩
    go_wp2_with fail
    go_ret
    exact ⟨by first | rfl | exact ret_bool (by first | (simp; done) | (simp; omega)), hB⟩

end Go.Proofs.Ytjacmhlcodjhcaa
