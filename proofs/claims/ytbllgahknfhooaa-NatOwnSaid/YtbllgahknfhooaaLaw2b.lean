/-
  The walks of the statements of layer 2, further ones.
-/
import Derived.Test.YtbllgahknfhooaaLaw2
namespace Go.Proofs.Ytbllgahknfhooaa
open Go.RowKit Tw
set_option linter.unusedVariables false
set_option linter.unusedSimpArgs false

theorem cmpN_add (a b c : Nat) : cmpN (a + c) (b + c) = cmpN a b := by
  rcases Nat.lt_trichotomy a b with h | h | h
  · rw [cmpN_lt h, cmpN_lt (by omega)]
  · rw [cmpN_eq h, cmpN_eq (by omega)]
  · rw [cmpN_gt h, cmpN_gt (by omega)]

set_option maxRecDepth 100000 in
set_option maxHeartbeats 2000000 in
theorem walk_NatOrder (va : Value) (la : List Nat) (vb : Value) (lb : List Nat) (vc : Value) (lc : List Nat) (w : World) (ha : Rd w va la) (hb : Rd w vb lb) (hc : Rd w vc lc) :
    Calls Try.prog 9 #[va, vb, vc] w (Holds w) := by
  have hlma := ha.len_le
  have hlmb := hb.len_le
  have hlmc := hc.len_le
  unfold maxLen at hlma hlmb hlmc
  obtain ⟨ac, capc, rfl⟩ := hc.shape
  by_cases hfew : (la.length : Int) ≤ 40 ∧ (lb.length : Int) ≤ 40
  · obtain ⟨hla, hlb⟩ := hfew
    have hsa := sz_val ha.1
    have hsb := sz_val hb.1
    have hsc := sz_val hc.1
    have h1 := sz_add (val la) (val lb)
    have h2 := sz_add (val lc) (val lb)
    have hc1 := (cmpN_bd (val la) (val lb)).1
    have hc2 := (cmpN_bd (val la) (val lb)).2
    have hc3 := (cmpN_bd (val lb) (val la)).1
    have hc4 := (cmpN_bd (val lb) (val la)).2
    have hc5 : cmpN (val la) (val lb) ≤ - cmpN (val lb) (val la) := by have := cmpN_swap (val la) (val lb); omega
    have hc6 : - cmpN (val lb) (val la) ≤ cmpN (val la) (val lb) := by have := cmpN_swap (val la) (val lb); omega
    by_cases hlc : 40 < lc.length
    · go_enter Try.func9, Try.ntmps9
      go_wp2_with fail
      refine (awake2 _).mono ?_
      rintro e w1 ⟨rfl, hb1⟩
      have hB := hb1
      replace ha := ha.to hb1
      replace hb := hb.to hb1
      replace hc := hc.to hb1
      clear hb1
      go_wp2_with fail
      refine (few_yes _ _ la lb 40 _ ha hb hla hlb).mono ?_
      rintro e w' ⟨rfl, rfl⟩
      go_wp2_with fail
      go_ret
      exact ⟨by first | rfl | exact ret_bool (by first | (simp; done) | (simp; omega)), hB⟩
    · go_enter Try.func9, Try.ntmps9
      go_wp2_with fail
      refine (awake2 _).mono ?_
      rintro e w1 ⟨rfl, hb1⟩
      have hB := hb1
      replace ha := ha.to hb1
      replace hb := hb.to hb1
      replace hc := hc.to hb1
      clear hb1
      go_wp2_with fail
      refine (few_yes _ _ la lb 40 _ ha hb hla hlb).mono ?_
      rintro e w' ⟨rfl, rfl⟩
      go_wp2_with fail
      refine (nat_add _ _ la lb _ ha hb (by omega) (by omega)).mono ?_
      rintro e w2 ⟨vp, rfl, hp, hb2⟩
      replace hB := below_step hB hb2
      replace ha := ha.to hb2
      replace hb := hb.to hb2
      replace hc := hc.to hb2
      replace hp := hp.rd
      clear hb2
      go_wp2_with fail
      refine (nat_add _ _ _ lc _ hp hc (by show sz _ ≤ _; omega) (by omega)).mono ?_
      rintro e w3 ⟨vx, rfl, hx, hb3⟩
      replace hB := below_step hB hb3
      replace ha := ha.to hb3
      replace hb := hb.to hb3
      replace hc := hc.to hb3
      replace hp := hp.to hb3
      replace hx : Rd w3 vx (limbs (val la + val lb + val lc)) := by have := hx.rd; (try simp only [val_limbs, Nat.add_sub_cancel] at this); exact this
      clear hb3
      go_wp2_with fail
      refine (nat_add _ _ lc lb _ hc hb (by omega) (by omega)).mono ?_
      rintro e w4 ⟨vq, rfl, hq, hb4⟩
      replace hB := below_step hB hb4
      replace ha := ha.to hb4
      replace hb := hb.to hb4
      replace hc := hc.to hb4
      replace hp := hp.to hb4
      replace hx := hx.to hb4
      replace hq := hq.rd
      clear hb4
      go_wp2_with fail
      refine (nat_add _ _ la _ _ ha hq (by omega) (by show sz _ ≤ _; omega)).mono ?_
      rintro e w5 ⟨vy, rfl, hy, hb5⟩
      replace hB := below_step hB hb5
      replace ha := ha.to hb5
      replace hb := hb.to hb5
      replace hc := hc.to hb5
      replace hp := hp.to hb5
      replace hx := hx.to hb5
      replace hq := hq.to hb5
      replace hy : Rd w5 vy (limbs (val la + (val lc + val lb))) := by have := hy.rd; (try simp only [val_limbs, Nat.add_sub_cancel] at this); exact this
      clear hb5
      go_wp2_with fail
      refine (nat_add _ _ la lc _ ha hc (by omega) (by omega)).mono ?_
      rintro e w6 ⟨vr, rfl, hr, hb6⟩
      replace hB := below_step hB hb6
      replace ha := ha.to hb6
      replace hb := hb.to hb6
      replace hc := hc.to hb6
      replace hp := hp.to hb6
      replace hx := hx.to hb6
      replace hq := hq.to hb6
      replace hy := hy.to hb6
      replace hr := hr.rd
      clear hb6
      go_wp2_with fail
      refine (nat_add _ _ lb lc _ hb hc (by omega) (by omega)).mono ?_
      rintro e w7 ⟨vs, rfl, hs, hb7⟩
      replace hB := below_step hB hb7
      replace ha := ha.to hb7
      replace hb := hb.to hb7
      replace hc := hc.to hb7
      replace hp := hp.to hb7
      replace hx := hx.to hb7
      replace hq := hq.to hb7
      replace hy := hy.to hb7
      replace hr := hr.to hb7
      replace hs := hs.rd
      clear hb7
      go_wp2_with fail
      refine (nat_cmp _ _ _ _ _ hr hs).mono ?_
      rintro e w8 ⟨rfl, hb8⟩
      replace hB := below_step hB hb8
      replace ha := ha.to hb8
      replace hb := hb.to hb8
      replace hc := hc.to hb8
      replace hp := hp.to hb8
      replace hx := hx.to hb8
      replace hq := hq.to hb8
      replace hy := hy.to hb8
      replace hr := hr.to hb8
      replace hs := hs.to hb8
      clear hb8
      rw [show cmpN (val (limbs (val la + val lc))) (val (limbs (val lb + val lc))) = cmpN (val la) (val lb) by rw [val_limbs, val_limbs, cmpN_add]]
      rw [show val la + (val lc + val lb) = val la + val lb + val lc by omega] at hy
      go_wp2_with fail
      refine (words_same _ _ _ _ hx hy).mono ?_
      rintro e w9 ⟨rfl, hb9⟩
      replace hB := below_step hB hb9
      replace ha := ha.to hb9
      replace hb := hb.to hb9
      replace hc := hc.to hb9
      replace hp := hp.to hb9
      replace hx := hx.to hb9
      replace hq := hq.to hb9
      replace hy := hy.to hb9
      replace hr := hr.to hb9
      replace hs := hs.to hb9
      clear hb9
      go_wp2_with fail
      refine (nat_cmp _ _ la lb _ ha hb).mono ?_
      rintro e w10 ⟨rfl, hb10⟩
      replace hB := below_step hB hb10
      replace ha := ha.to hb10
      replace hb := hb.to hb10
      replace hc := hc.to hb10
      replace hp := hp.to hb10
      replace hx := hx.to hb10
      replace hq := hq.to hb10
      replace hy := hy.to hb10
      replace hr := hr.to hb10
      replace hs := hs.to hb10
      clear hb10
      go_wp2_with fail
      refine (nat_cmp _ _ lb la _ hb ha).mono ?_
      rintro e w11 ⟨rfl, hb11⟩
      replace hB := below_step hB hb11
      replace ha := ha.to hb11
      replace hb := hb.to hb11
      replace hc := hc.to hb11
      replace hp := hp.to hb11
      replace hx := hx.to hb11
      replace hq := hq.to hb11
      replace hy := hy.to hb11
      replace hr := hr.to hb11
      replace hs := hs.to hb11
      clear hb11
      go_wp2_with fail
      refine (nat_cmp _ _ la lb _ ha hb).mono ?_
      rintro e w12 ⟨rfl, hb12⟩
      replace hB := below_step hB hb12
      replace ha := ha.to hb12
      replace hb := hb.to hb12
      replace hc := hc.to hb12
      replace hp := hp.to hb12
      replace hx := hx.to hb12
      replace hq := hq.to hb12
      replace hy := hy.to hb12
      replace hr := hr.to hb12
      replace hs := hs.to hb12
      clear hb12
      go_wp2_with fail
      go_ret
      exact ⟨by first | rfl | exact ret_bool (by first | (simp; done) | (simp; omega)), hB⟩
  · go_enter Try.func9, Try.ntmps9
    go_wp2_with fail
    refine (awake2 _).mono ?_
    rintro e w1 ⟨rfl, hb1⟩
    have hB := hb1
    replace ha := ha.to hb1
    replace hb := hb.to hb1
    replace hc := hc.to hb1
    clear hb1
    go_wp2_with fail
    refine (few_no _ _ la lb 40 _ ha hb hfew).mono ?_
    rintro e w' ⟨rfl, rfl⟩
    go_wp2_with fail
    go_ret
    exact ⟨by first | rfl | exact ret_bool (by first | (simp; done) | (simp; omega)), hB⟩

set_option maxRecDepth 100000 in
set_option maxHeartbeats 2000000 in
theorem walk_NatSmall (a b : Int) (w : World) (a0 : 0 ≤ a) (a1 : a < 18446744073709551616) (b0 : 0 ≤ b) (b1 : b < 18446744073709551616) :
    Calls Try.prog 12 #[.int .u64 a, .int .u64 b] w (Holds w) := by
  have Ha := Lib.hid a1
  have Hb := Lib.hid b1
  clear a1 b1
  go_enter Try.func12, Try.ntmps12
  go_wp2_with fail
  refine (awake2 _).mono ?_
  rintro e w1 ⟨rfl, hb1⟩
  have hB := hb1
  clear hb1
  go_wp2_with fail
  · go_ret
    exact ⟨rfl, hB⟩
  · have hAB : a < 9223372036854775808 ∧ b < 9223372036854775808 := by assumption
    obtain ⟨hA1, hB1⟩ := hAB
    have hsa : sz a.toNat ≤ 2 := sz_le_two (by omega)
    have hsb : sz b.toNat ≤ 2 := sz_le_two (by omega)
    have h1 := sz_add a.toNat b.toNat
    have h2 := sz_sub a.toNat b.toNat
    rcases Int.lt_trichotomy a b with hab | hab | hab
    · go_wp2_with fail
      refine (nat_of _ _ a0 (by omega)).mono ?_
      rintro e w2 ⟨vx, rfl, hx, hb2⟩
      replace hB := below_step hB hb2
      replace hx : Rd w2 vx (limbs a.toNat) := by have := hx.rd; (try simp only [val_limbs, Nat.add_sub_cancel] at this); exact this
      clear hb2
      go_wp2_with fail
      refine (nat_of _ _ b0 (by omega)).mono ?_
      rintro e w3 ⟨vy, rfl, hy, hb3⟩
      replace hB := below_step hB hb3
      replace hx := hx.to hb3
      replace hy : Rd w3 vy (limbs b.toNat) := by have := hy.rd; (try simp only [val_limbs, Nat.add_sub_cancel] at this); exact this
      clear hb3
      go_wp2_with fail
      refine (nat_add _ _ _ _ _ hx hy (by show sz _ ≤ _; omega) (by show sz _ ≤ _; omega)).mono ?_
      rintro e w4 ⟨vs, rfl, hs, hb4⟩
      replace hB := below_step hB hb4
      replace hx := hx.to hb4
      replace hy := hy.to hb4
      replace hs : Rd w4 vs (limbs (a.toNat + b.toNat)) := by have := hs.rd; (try simp only [val_limbs, Nat.add_sub_cancel] at this); exact this
      clear hb4
      go_wp2_with fail
      refine (nat_small _ _ _ hs (by show sz _ ≤ _; omega) (by rw [val_limbs]; omega)).mono ?_
      rintro e w' ⟨rfl, rfl⟩
      rw [show ((val (limbs (a.toNat + b.toNat)) : Nat) : Int) = a + b by rw [val_limbs]; omega]
      go_wp2_with fail
      refine (nat_sub_no _ _ _ _ _ hx hy (by rw [val_limbs, val_limbs]; omega)).mono ?_
      rintro e w5 ⟨rfl, hb5⟩
      replace hB := below_step hB hb5
      replace hx := hx.to hb5
      replace hy := hy.to hb5
      replace hs := hs.to hb5
      clear hb5
      go_wp2_with fail
      refine (nat_small _ [] _ (Rd.nil _) (by simp) (by simp [val])).mono ?_
      rintro e w' ⟨rfl, rfl⟩
      rw [show ((val [] : Nat) : Int) = 0 from rfl]
      go_wp2_with fail
      refine (nat_cmp _ _ _ _ _ hx hy).mono ?_
      rintro e w6 ⟨rfl, hb6⟩
      replace hB := below_step hB hb6
      replace hx := hx.to hb6
      replace hy := hy.to hb6
      replace hs := hs.to hb6
      clear hb6
      rw [show cmpN (val (limbs a.toNat)) (val (limbs b.toNat)) = -1 by rw [val_limbs, val_limbs]; exact cmpN_lt (by omega)]
      go_wp2_with fail
      go_ret
      exact ⟨by first | rfl | exact ret_bool (by first | (simp; done) | (simp; omega)), hB⟩
    · go_wp2_with fail
      refine (nat_of _ _ a0 (by omega)).mono ?_
      rintro e w2 ⟨vx, rfl, hx, hb2⟩
      replace hB := below_step hB hb2
      replace hx : Rd w2 vx (limbs a.toNat) := by have := hx.rd; (try simp only [val_limbs, Nat.add_sub_cancel] at this); exact this
      clear hb2
      go_wp2_with fail
      refine (nat_of _ _ b0 (by omega)).mono ?_
      rintro e w3 ⟨vy, rfl, hy, hb3⟩
      replace hB := below_step hB hb3
      replace hx := hx.to hb3
      replace hy : Rd w3 vy (limbs b.toNat) := by have := hy.rd; (try simp only [val_limbs, Nat.add_sub_cancel] at this); exact this
      clear hb3
      go_wp2_with fail
      refine (nat_add _ _ _ _ _ hx hy (by show sz _ ≤ _; omega) (by show sz _ ≤ _; omega)).mono ?_
      rintro e w4 ⟨vs, rfl, hs, hb4⟩
      replace hB := below_step hB hb4
      replace hx := hx.to hb4
      replace hy := hy.to hb4
      replace hs : Rd w4 vs (limbs (a.toNat + b.toNat)) := by have := hs.rd; (try simp only [val_limbs, Nat.add_sub_cancel] at this); exact this
      clear hb4
      go_wp2_with fail
      refine (nat_small _ _ _ hs (by show sz _ ≤ _; omega) (by rw [val_limbs]; omega)).mono ?_
      rintro e w' ⟨rfl, rfl⟩
      rw [show ((val (limbs (a.toNat + b.toNat)) : Nat) : Int) = a + b by rw [val_limbs]; omega]
      go_wp2_with fail
      refine (nat_sub _ _ _ _ _ hx hy (by show sz _ ≤ _; omega) (by rw [val_limbs, val_limbs]; omega)).mono ?_
      rintro e w5 ⟨vd, rfl, hd, hb5⟩
      replace hB := below_step hB hb5
      replace hx := hx.to hb5
      replace hy := hy.to hb5
      replace hs := hs.to hb5
      replace hd : Rd w5 vd (limbs (a.toNat - b.toNat)) := by have := hd.rd; (try simp only [val_limbs, Nat.add_sub_cancel] at this); exact this
      clear hb5
      go_wp2_with fail
      refine (nat_small _ _ _ hd (by show sz _ ≤ _; omega) (by rw [val_limbs]; omega)).mono ?_
      rintro e w' ⟨rfl, rfl⟩
      rw [show ((val (limbs (a.toNat - b.toNat)) : Nat) : Int) = a - b by rw [val_limbs]; omega]
      go_wp2_with fail
      refine (nat_cmp _ _ _ _ _ hx hy).mono ?_
      rintro e w6 ⟨rfl, hb6⟩
      replace hB := below_step hB hb6
      replace hx := hx.to hb6
      replace hy := hy.to hb6
      replace hs := hs.to hb6
      replace hd := hd.to hb6
      clear hb6
      rw [show cmpN (val (limbs a.toNat)) (val (limbs b.toNat)) = 0 by rw [val_limbs, val_limbs]; exact cmpN_eq (by omega)]
      go_wp2_with fail
      go_ret
      exact ⟨by first | rfl | exact ret_bool (by first | (simp; done) | (simp; omega)), hB⟩
    · go_wp2_with fail
      refine (nat_of _ _ a0 (by omega)).mono ?_
      rintro e w2 ⟨vx, rfl, hx, hb2⟩
      replace hB := below_step hB hb2
      replace hx : Rd w2 vx (limbs a.toNat) := by have := hx.rd; (try simp only [val_limbs, Nat.add_sub_cancel] at this); exact this
      clear hb2
      go_wp2_with fail
      refine (nat_of _ _ b0 (by omega)).mono ?_
      rintro e w3 ⟨vy, rfl, hy, hb3⟩
      replace hB := below_step hB hb3
      replace hx := hx.to hb3
      replace hy : Rd w3 vy (limbs b.toNat) := by have := hy.rd; (try simp only [val_limbs, Nat.add_sub_cancel] at this); exact this
      clear hb3
      go_wp2_with fail
      refine (nat_add _ _ _ _ _ hx hy (by show sz _ ≤ _; omega) (by show sz _ ≤ _; omega)).mono ?_
      rintro e w4 ⟨vs, rfl, hs, hb4⟩
      replace hB := below_step hB hb4
      replace hx := hx.to hb4
      replace hy := hy.to hb4
      replace hs : Rd w4 vs (limbs (a.toNat + b.toNat)) := by have := hs.rd; (try simp only [val_limbs, Nat.add_sub_cancel] at this); exact this
      clear hb4
      go_wp2_with fail
      refine (nat_small _ _ _ hs (by show sz _ ≤ _; omega) (by rw [val_limbs]; omega)).mono ?_
      rintro e w' ⟨rfl, rfl⟩
      rw [show ((val (limbs (a.toNat + b.toNat)) : Nat) : Int) = a + b by rw [val_limbs]; omega]
      go_wp2_with fail
      refine (nat_sub _ _ _ _ _ hx hy (by show sz _ ≤ _; omega) (by rw [val_limbs, val_limbs]; omega)).mono ?_
      rintro e w5 ⟨vd, rfl, hd, hb5⟩
      replace hB := below_step hB hb5
      replace hx := hx.to hb5
      replace hy := hy.to hb5
      replace hs := hs.to hb5
      replace hd : Rd w5 vd (limbs (a.toNat - b.toNat)) := by have := hd.rd; (try simp only [val_limbs, Nat.add_sub_cancel] at this); exact this
      clear hb5
      go_wp2_with fail
      refine (nat_small _ _ _ hd (by show sz _ ≤ _; omega) (by rw [val_limbs]; omega)).mono ?_
      rintro e w' ⟨rfl, rfl⟩
      rw [show ((val (limbs (a.toNat - b.toNat)) : Nat) : Int) = a - b by rw [val_limbs]; omega]
      go_wp2_with fail
      refine (nat_cmp _ _ _ _ _ hx hy).mono ?_
      rintro e w6 ⟨rfl, hb6⟩
      replace hB := below_step hB hb6
      replace hx := hx.to hb6
      replace hy := hy.to hb6
      replace hs := hs.to hb6
      replace hd := hd.to hb6
      clear hb6
      rw [show cmpN (val (limbs a.toNat)) (val (limbs b.toNat)) = 1 by rw [val_limbs, val_limbs]; exact cmpN_gt (by omega)]
      go_wp2_with fail
      go_ret
      exact ⟨by first | rfl | exact ret_bool (by first | (simp; done) | (simp; omega)), hB⟩
  · go_ret
    exact ⟨rfl, hB⟩


end Go.Proofs.Ytbllgahknfhooaa
