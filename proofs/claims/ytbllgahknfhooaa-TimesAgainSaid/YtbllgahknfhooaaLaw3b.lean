/-
  The walks of the statements of layer 3, further ones.
-/
import Derived.Test.YtbllgahknfhooaaLaw3
namespace Go.Proofs.Ytbllgahknfhooaa
open Go.RowKit Tw
set_option linter.unusedVariables false
set_option linter.unusedSimpArgs false

theorem nbits_mul {m n : Nat} (hm : m ≠ 0) (hn : n ≠ 0) : nbits (m * n) = nbits m + nbits n ∨ nbits (m * n) = nbits m + nbits n - 1 := by
  obtain ⟨i, hi, h1, h2⟩ := nbits_pos hm
  obtain ⟨j, hj, h3, h4⟩ := nbits_pos hn
  have h5 : m * n < 2 ^ (i + 1 + (j + 1)) := by rw [Nat.pow_add]; exact Nat.mul_lt_mul'' h2 h4
  have h6 : 2 ^ (i + j) ≤ m * n := by rw [Nat.pow_add]; exact Nat.mul_le_mul h1 h3
  have h7 := nbits_le.2 h5
  have h8 := nbits_gt h6
  omega

set_option maxRecDepth 100000 in
set_option maxHeartbeats 2000000 in
theorem walk_TimesSums (va : Value) (la : List Nat) (vb : Value) (lb : List Nat) (vc : Value) (lc : List Nat) (w : World) (ha : Rd w va la) (hb : Rd w vb lb) (hc : Rd w vc lc) :
    Calls Try.prog 14 #[va, vb, vc] w (Holds w) := by
  have hlma := ha.len_le
  have hlmb := hb.len_le
  unfold maxLen at hlma hlmb
  have hlmc := hc.len_le
  unfold maxLen at hlmc
  obtain ⟨ac, capc, rfl⟩ := hc.shape
  by_cases hfew : (la.length : Int) ≤ 20 ∧ (lb.length : Int) ≤ 20
  · obtain ⟨hla, hlb⟩ := hfew
    have hsa := sz_val ha.1
    have hsb := sz_val hb.1
    have hsc := sz_val hc.1
    have h1 := sz_add (val la) (val lb)
    have h2 := sz_mul (val la) (val lc)
    have h3 := sz_mul (val lb) (val lc)
    have h4 := sz_sub (val la) (val lb)
    by_cases hlc : 20 < lc.length
    · go_enter Try.func14, Try.ntmps14
      go_wp2_with fail
      refine (awake3 _).mono ?_
      rintro e w1 ⟨rfl, hb1⟩
      have hB := hb1
      replace ha := ha.to hb1
      replace hb := hb.to hb1
      replace hc := hc.to hb1
      clear hb1
      go_wp2_with fail
      refine (few_yes _ _ la lb 20 _ ha hb hla hlb).mono ?_
      rintro e w' ⟨rfl, rfl⟩
      go_wp2_with fail
      go_ret
      exact ⟨by first | rfl | exact ret_bool (by first | (simp; done) | (simp; omega)), hB⟩
    rcases Nat.lt_or_ge (val la) (val lb) with hle | hle
    · by_cases hc0 : val lc = 0
      · have Hc0 := Lib.hid hc0
        clear hc0
        go_enter Try.func14, Try.ntmps14
        go_wp2_with fail
        refine (awake3 _).mono ?_
        rintro e w1 ⟨rfl, hb1⟩
        have hB := hb1
        replace ha := ha.to hb1
        replace hb := hb.to hb1
        replace hc := hc.to hb1
        clear hb1
        go_wp2_with fail
        refine (few_yes _ _ la lb 20 _ ha hb hla hlb).mono ?_
        rintro e w' ⟨rfl, rfl⟩
        go_wp2_with fail
        refine (nat_add _ _ la lb _ ha hb (by omega) (by omega)).mono ?_
        rintro e w2 ⟨vs, rfl, hs, hb2⟩
        replace hB := below_step hB hb2
        replace ha := ha.to hb2
        replace hb := hb.to hb2
        replace hc := hc.to hb2
        replace hs := hs.rd
        clear hb2
        go_wp2_with fail
        refine (times_mul _ _ _ lc _ hs hc (by show sz _ ≤ _; omega) (by omega)).mono ?_
        rintro e w3 ⟨vx, rfl, hx, hb3⟩
        replace hB := below_step hB hb3
        replace ha := ha.to hb3
        replace hb := hb.to hb3
        replace hc := hc.to hb3
        replace hs := hs.to hb3
        replace hx : Rd w3 vx (limbs ((val la + val lb) * val lc)) := by have := hx.rd; (try simp only [val_limbs, Nat.add_sub_cancel] at this); exact this
        clear hb3
        go_wp2_with fail
        refine (times_mul _ _ la lc _ ha hc (by omega) (by omega)).mono ?_
        rintro e w4 ⟨vp, rfl, hp, hb4⟩
        replace hB := below_step hB hb4
        replace ha := ha.to hb4
        replace hb := hb.to hb4
        replace hc := hc.to hb4
        replace hs := hs.to hb4
        replace hx := hx.to hb4
        replace hp := hp.rd
        clear hb4
        go_wp2_with fail
        refine (times_mul _ _ lb lc _ hb hc (by omega) (by omega)).mono ?_
        rintro e w5 ⟨vq, rfl, hq, hb5⟩
        replace hB := below_step hB hb5
        replace ha := ha.to hb5
        replace hb := hb.to hb5
        replace hc := hc.to hb5
        replace hs := hs.to hb5
        replace hx := hx.to hb5
        replace hp := hp.to hb5
        replace hq := hq.rd
        clear hb5
        go_wp2_with fail
        refine (nat_add _ _ _ _ _ hp hq (by show sz _ ≤ _; omega) (by show sz _ ≤ _; omega)).mono ?_
        rintro e w6 ⟨vy, rfl, hy, hb6⟩
        replace hB := below_step hB hb6
        replace ha := ha.to hb6
        replace hb := hb.to hb6
        replace hc := hc.to hb6
        replace hs := hs.to hb6
        replace hx := hx.to hb6
        replace hp := hp.to hb6
        replace hq := hq.to hb6
        replace hy : Rd w6 vy (limbs (val la * val lc + val lb * val lc)) := by have := hy.rd; (try simp only [val_limbs, Nat.add_sub_cancel] at this); exact this
        clear hb6
        rw [← Nat.add_mul] at hy
        go_wp2_with fail
        refine (nat_sub_no _ _ la lb _ ha hb hle).mono ?_
        rintro e w7 ⟨rfl, hb7⟩
        replace hB := below_step hB hb7
        replace ha := ha.to hb7
        replace hb := hb.to hb7
        replace hc := hc.to hb7
        replace hs := hs.to hb7
        replace hx := hx.to hb7
        replace hp := hp.to hb7
        replace hq := hq.to hb7
        replace hy := hy.to hb7
        clear hb7
        go_wp2_with fail
        refine (times_mul _ _ la lc _ ha hc (by omega) (by omega)).mono ?_
        rintro e w8 ⟨vp2, rfl, hp2, hb8⟩
        replace hB := below_step hB hb8
        replace ha := ha.to hb8
        replace hb := hb.to hb8
        replace hc := hc.to hb8
        replace hs := hs.to hb8
        replace hx := hx.to hb8
        replace hp := hp.to hb8
        replace hq := hq.to hb8
        replace hy := hy.to hb8
        replace hp2 := hp2.rd
        clear hb8
        go_wp2_with fail
        refine (times_mul _ _ lb lc _ hb hc (by omega) (by omega)).mono ?_
        rintro e w9 ⟨vq2, rfl, hq2, hb9⟩
        replace hB := below_step hB hb9
        replace ha := ha.to hb9
        replace hb := hb.to hb9
        replace hc := hc.to hb9
        replace hs := hs.to hb9
        replace hx := hx.to hb9
        replace hp := hp.to hb9
        replace hq := hq.to hb9
        replace hy := hy.to hb9
        replace hp2 := hp2.to hb9
        replace hq2 := hq2.rd
        clear hb9
        go_wp2_with fail
        refine (nat_sub _ _ _ _ _ hp2 hq2 (by show sz _ ≤ _; omega) (by rw [val_limbs, val_limbs, Hc0.out]; exact Nat.le_refl _)).mono ?_
        rintro e w10 ⟨ve, rfl, he, hb10⟩
        replace hB := below_step hB hb10
        replace ha := ha.to hb10
        replace hb := hb.to hb10
        replace hc := hc.to hb10
        replace hs := hs.to hb10
        replace hx := hx.to hb10
        replace hp := hp.to hb10
        replace hq := hq.to hb10
        replace hy := hy.to hb10
        replace hp2 := hp2.to hb10
        replace hq2 := hq2.to hb10
        replace he := he.rd
        clear hb10
        go_wp2_with fail
        refine (words_same _ _ _ _ hx hy).mono ?_
        rintro e w11 ⟨rfl, hb11⟩
        replace hB := below_step hB hb11
        replace ha := ha.to hb11
        replace hb := hb.to hb11
        replace hc := hc.to hb11
        replace hs := hs.to hb11
        replace hx := hx.to hb11
        replace hp := hp.to hb11
        replace hq := hq.to hb11
        replace hy := hy.to hb11
        replace hp2 := hp2.to hb11
        replace hq2 := hq2.to hb11
        replace he := he.to hb11
        clear hb11
        go_wp2_with fail
        go_ret
        exact ⟨by first | rfl | exact ret_bool (by first | (simp; done) | (simp; omega)), hB⟩
      · go_enter Try.func14, Try.ntmps14
        go_wp2_with fail
        refine (awake3 _).mono ?_
        rintro e w1 ⟨rfl, hb1⟩
        have hB := hb1
        replace ha := ha.to hb1
        replace hb := hb.to hb1
        replace hc := hc.to hb1
        clear hb1
        go_wp2_with fail
        refine (few_yes _ _ la lb 20 _ ha hb hla hlb).mono ?_
        rintro e w' ⟨rfl, rfl⟩
        go_wp2_with fail
        refine (nat_add _ _ la lb _ ha hb (by omega) (by omega)).mono ?_
        rintro e w2 ⟨vs, rfl, hs, hb2⟩
        replace hB := below_step hB hb2
        replace ha := ha.to hb2
        replace hb := hb.to hb2
        replace hc := hc.to hb2
        replace hs := hs.rd
        clear hb2
        go_wp2_with fail
        refine (times_mul _ _ _ lc _ hs hc (by show sz _ ≤ _; omega) (by omega)).mono ?_
        rintro e w3 ⟨vx, rfl, hx, hb3⟩
        replace hB := below_step hB hb3
        replace ha := ha.to hb3
        replace hb := hb.to hb3
        replace hc := hc.to hb3
        replace hs := hs.to hb3
        replace hx : Rd w3 vx (limbs ((val la + val lb) * val lc)) := by have := hx.rd; (try simp only [val_limbs, Nat.add_sub_cancel] at this); exact this
        clear hb3
        go_wp2_with fail
        refine (times_mul _ _ la lc _ ha hc (by omega) (by omega)).mono ?_
        rintro e w4 ⟨vp, rfl, hp, hb4⟩
        replace hB := below_step hB hb4
        replace ha := ha.to hb4
        replace hb := hb.to hb4
        replace hc := hc.to hb4
        replace hs := hs.to hb4
        replace hx := hx.to hb4
        replace hp := hp.rd
        clear hb4
        go_wp2_with fail
        refine (times_mul _ _ lb lc _ hb hc (by omega) (by omega)).mono ?_
        rintro e w5 ⟨vq, rfl, hq, hb5⟩
        replace hB := below_step hB hb5
        replace ha := ha.to hb5
        replace hb := hb.to hb5
        replace hc := hc.to hb5
        replace hs := hs.to hb5
        replace hx := hx.to hb5
        replace hp := hp.to hb5
        replace hq := hq.rd
        clear hb5
        go_wp2_with fail
        refine (nat_add _ _ _ _ _ hp hq (by show sz _ ≤ _; omega) (by show sz _ ≤ _; omega)).mono ?_
        rintro e w6 ⟨vy, rfl, hy, hb6⟩
        replace hB := below_step hB hb6
        replace ha := ha.to hb6
        replace hb := hb.to hb6
        replace hc := hc.to hb6
        replace hs := hs.to hb6
        replace hx := hx.to hb6
        replace hp := hp.to hb6
        replace hq := hq.to hb6
        replace hy : Rd w6 vy (limbs (val la * val lc + val lb * val lc)) := by have := hy.rd; (try simp only [val_limbs, Nat.add_sub_cancel] at this); exact this
        clear hb6
        rw [← Nat.add_mul] at hy
        go_wp2_with fail
        refine (nat_sub_no _ _ la lb _ ha hb hle).mono ?_
        rintro e w7 ⟨rfl, hb7⟩
        replace hB := below_step hB hb7
        replace ha := ha.to hb7
        replace hb := hb.to hb7
        replace hc := hc.to hb7
        replace hs := hs.to hb7
        replace hx := hx.to hb7
        replace hp := hp.to hb7
        replace hq := hq.to hb7
        replace hy := hy.to hb7
        clear hb7
        go_wp2_with fail
        refine (times_mul _ _ la lc _ ha hc (by omega) (by omega)).mono ?_
        rintro e w8 ⟨vp2, rfl, hp2, hb8⟩
        replace hB := below_step hB hb8
        replace ha := ha.to hb8
        replace hb := hb.to hb8
        replace hc := hc.to hb8
        replace hs := hs.to hb8
        replace hx := hx.to hb8
        replace hp := hp.to hb8
        replace hq := hq.to hb8
        replace hy := hy.to hb8
        replace hp2 := hp2.rd
        clear hb8
        go_wp2_with fail
        refine (times_mul _ _ lb lc _ hb hc (by omega) (by omega)).mono ?_
        rintro e w9 ⟨vq2, rfl, hq2, hb9⟩
        replace hB := below_step hB hb9
        replace ha := ha.to hb9
        replace hb := hb.to hb9
        replace hc := hc.to hb9
        replace hs := hs.to hb9
        replace hx := hx.to hb9
        replace hp := hp.to hb9
        replace hq := hq.to hb9
        replace hy := hy.to hb9
        replace hp2 := hp2.to hb9
        replace hq2 := hq2.rd
        clear hb9
        go_wp2_with fail
        refine (nat_sub_no _ _ _ _ _ hp2 hq2 (by rw [val_limbs, val_limbs]; exact Nat.mul_lt_mul_of_pos_right hle (Nat.pos_of_ne_zero hc0))).mono ?_
        rintro e w10 ⟨rfl, hb10⟩
        replace hB := below_step hB hb10
        replace ha := ha.to hb10
        replace hb := hb.to hb10
        replace hc := hc.to hb10
        replace hs := hs.to hb10
        replace hx := hx.to hb10
        replace hp := hp.to hb10
        replace hq := hq.to hb10
        replace hy := hy.to hb10
        replace hp2 := hp2.to hb10
        replace hq2 := hq2.to hb10
        clear hb10
        go_wp2_with fail
        refine (words_same _ _ _ _ hx hy).mono ?_
        rintro e w11 ⟨rfl, hb11⟩
        replace hB := below_step hB hb11
        replace ha := ha.to hb11
        replace hb := hb.to hb11
        replace hc := hc.to hb11
        replace hs := hs.to hb11
        replace hx := hx.to hb11
        replace hp := hp.to hb11
        replace hq := hq.to hb11
        replace hy := hy.to hb11
        replace hp2 := hp2.to hb11
        replace hq2 := hq2.to hb11
        clear hb11
        go_wp2_with fail
        go_ret
        exact ⟨by first | rfl | exact ret_bool (by first | (simp; done) | (simp; omega)), hB⟩
    · go_enter Try.func14, Try.ntmps14
      go_wp2_with fail
      refine (awake3 _).mono ?_
      rintro e w1 ⟨rfl, hb1⟩
      have hB := hb1
      replace ha := ha.to hb1
      replace hb := hb.to hb1
      replace hc := hc.to hb1
      clear hb1
      go_wp2_with fail
      refine (few_yes _ _ la lb 20 _ ha hb hla hlb).mono ?_
      rintro e w' ⟨rfl, rfl⟩
      go_wp2_with fail
      refine (nat_add _ _ la lb _ ha hb (by omega) (by omega)).mono ?_
      rintro e w2 ⟨vs, rfl, hs, hb2⟩
      replace hB := below_step hB hb2
      replace ha := ha.to hb2
      replace hb := hb.to hb2
      replace hc := hc.to hb2
      replace hs := hs.rd
      clear hb2
      go_wp2_with fail
      refine (times_mul _ _ _ lc _ hs hc (by show sz _ ≤ _; omega) (by omega)).mono ?_
      rintro e w3 ⟨vx, rfl, hx, hb3⟩
      replace hB := below_step hB hb3
      replace ha := ha.to hb3
      replace hb := hb.to hb3
      replace hc := hc.to hb3
      replace hs := hs.to hb3
      replace hx : Rd w3 vx (limbs ((val la + val lb) * val lc)) := by have := hx.rd; (try simp only [val_limbs, Nat.add_sub_cancel] at this); exact this
      clear hb3
      go_wp2_with fail
      refine (times_mul _ _ la lc _ ha hc (by omega) (by omega)).mono ?_
      rintro e w4 ⟨vp, rfl, hp, hb4⟩
      replace hB := below_step hB hb4
      replace ha := ha.to hb4
      replace hb := hb.to hb4
      replace hc := hc.to hb4
      replace hs := hs.to hb4
      replace hx := hx.to hb4
      replace hp := hp.rd
      clear hb4
      go_wp2_with fail
      refine (times_mul _ _ lb lc _ hb hc (by omega) (by omega)).mono ?_
      rintro e w5 ⟨vq, rfl, hq, hb5⟩
      replace hB := below_step hB hb5
      replace ha := ha.to hb5
      replace hb := hb.to hb5
      replace hc := hc.to hb5
      replace hs := hs.to hb5
      replace hx := hx.to hb5
      replace hp := hp.to hb5
      replace hq := hq.rd
      clear hb5
      go_wp2_with fail
      refine (nat_add _ _ _ _ _ hp hq (by show sz _ ≤ _; omega) (by show sz _ ≤ _; omega)).mono ?_
      rintro e w6 ⟨vy, rfl, hy, hb6⟩
      replace hB := below_step hB hb6
      replace ha := ha.to hb6
      replace hb := hb.to hb6
      replace hc := hc.to hb6
      replace hs := hs.to hb6
      replace hx := hx.to hb6
      replace hp := hp.to hb6
      replace hq := hq.to hb6
      replace hy : Rd w6 vy (limbs (val la * val lc + val lb * val lc)) := by have := hy.rd; (try simp only [val_limbs, Nat.add_sub_cancel] at this); exact this
      clear hb6
      rw [← Nat.add_mul] at hy
      go_wp2_with fail
      refine (nat_sub _ _ la lb _ ha hb (by omega) hle).mono ?_
      rintro e w7 ⟨vd, rfl, hd, hb7⟩
      replace hB := below_step hB hb7
      replace ha := ha.to hb7
      replace hb := hb.to hb7
      replace hc := hc.to hb7
      replace hs := hs.to hb7
      replace hx := hx.to hb7
      replace hp := hp.to hb7
      replace hq := hq.to hb7
      replace hy := hy.to hb7
      replace hd := hd.rd
      clear hb7
      go_wp2_with fail
      refine (times_mul _ _ la lc _ ha hc (by omega) (by omega)).mono ?_
      rintro e w8 ⟨vp2, rfl, hp2, hb8⟩
      replace hB := below_step hB hb8
      replace ha := ha.to hb8
      replace hb := hb.to hb8
      replace hc := hc.to hb8
      replace hs := hs.to hb8
      replace hx := hx.to hb8
      replace hp := hp.to hb8
      replace hq := hq.to hb8
      replace hy := hy.to hb8
      replace hd := hd.to hb8
      replace hp2 := hp2.rd
      clear hb8
      go_wp2_with fail
      refine (times_mul _ _ lb lc _ hb hc (by omega) (by omega)).mono ?_
      rintro e w9 ⟨vq2, rfl, hq2, hb9⟩
      replace hB := below_step hB hb9
      replace ha := ha.to hb9
      replace hb := hb.to hb9
      replace hc := hc.to hb9
      replace hs := hs.to hb9
      replace hx := hx.to hb9
      replace hp := hp.to hb9
      replace hq := hq.to hb9
      replace hy := hy.to hb9
      replace hd := hd.to hb9
      replace hp2 := hp2.to hb9
      replace hq2 := hq2.rd
      clear hb9
      go_wp2_with fail
      refine (nat_sub _ _ _ _ _ hp2 hq2 (by show sz _ ≤ _; omega) (by rw [val_limbs, val_limbs]; exact Nat.mul_le_mul_right _ hle)).mono ?_
      rintro e w10 ⟨ve, rfl, he, hb10⟩
      replace hB := below_step hB hb10
      replace ha := ha.to hb10
      replace hb := hb.to hb10
      replace hc := hc.to hb10
      replace hs := hs.to hb10
      replace hx := hx.to hb10
      replace hp := hp.to hb10
      replace hq := hq.to hb10
      replace hy := hy.to hb10
      replace hd := hd.to hb10
      replace hp2 := hp2.to hb10
      replace hq2 := hq2.to hb10
      replace he : Rd w10 ve (limbs (val la * val lc - val lb * val lc)) := by have := he.rd; (try simp only [val_limbs, Nat.add_sub_cancel] at this); exact this
      clear hb10
      rw [← Nat.sub_mul] at he
      go_wp2_with fail
      refine (times_mul _ _ _ lc _ hd hc (by show sz _ ≤ _; omega) (by omega)).mono ?_
      rintro e w11 ⟨vf, rfl, hf, hb11⟩
      replace hB := below_step hB hb11
      replace ha := ha.to hb11
      replace hb := hb.to hb11
      replace hc := hc.to hb11
      replace hs := hs.to hb11
      replace hx := hx.to hb11
      replace hp := hp.to hb11
      replace hq := hq.to hb11
      replace hy := hy.to hb11
      replace hd := hd.to hb11
      replace hp2 := hp2.to hb11
      replace hq2 := hq2.to hb11
      replace he := he.to hb11
      replace hf : Rd w11 vf (limbs ((val la - val lb) * val lc)) := by have := hf.rd; (try simp only [val_limbs, Nat.add_sub_cancel] at this); exact this
      clear hb11
      go_wp2_with fail
      refine (words_same _ _ _ _ hf he).mono ?_
      rintro e w12 ⟨rfl, hb12⟩
      replace hB := below_step hB hb12
      replace ha := ha.to hb12
      replace hb := hb.to hb12
      replace hc := hc.to hb12
      replace hs := hs.to hb12
      replace hx := hx.to hb12
      replace hp := hp.to hb12
      replace hq := hq.to hb12
      replace hy := hy.to hb12
      replace hd := hd.to hb12
      replace hp2 := hp2.to hb12
      replace hq2 := hq2.to hb12
      replace he := he.to hb12
      replace hf := hf.to hb12
      clear hb12
      go_wp2_with fail
      refine (words_same _ _ _ _ hx hy).mono ?_
      rintro e w13 ⟨rfl, hb13⟩
      replace hB := below_step hB hb13
      replace ha := ha.to hb13
      replace hb := hb.to hb13
      replace hc := hc.to hb13
      replace hs := hs.to hb13
      replace hx := hx.to hb13
      replace hp := hp.to hb13
      replace hq := hq.to hb13
      replace hy := hy.to hb13
      replace hd := hd.to hb13
      replace hp2 := hp2.to hb13
      replace hq2 := hq2.to hb13
      replace he := he.to hb13
      replace hf := hf.to hb13
      clear hb13
      go_wp2_with fail
      go_ret
      exact ⟨by first | rfl | exact ret_bool (by first | (simp; done) | (simp; omega)), hB⟩
  · go_enter Try.func14, Try.ntmps14
    go_wp2_with fail
    refine (awake3 _).mono ?_
    rintro e w1 ⟨rfl, hb1⟩
    have hB := hb1
    replace ha := ha.to hb1
    replace hb := hb.to hb1
    replace hc := hc.to hb1
    clear hb1
    go_wp2_with fail
    refine (few_no _ _ la lb 20 _ ha hb hfew).mono ?_
    rintro e w' ⟨rfl, rfl⟩
    go_wp2_with fail
    go_ret
    exact ⟨by first | rfl | exact ret_bool (by first | (simp; done) | (simp; omega)), hB⟩

theorem nbits_le_of_sz {n k : Nat} (h : sz n ≤ k) : nbits n ≤ 32 * k := by
  apply nbits_le.2
  have h1 := lt_sz n
  have h2 := Nat.pow_le_pow_right (n := B) B_pos h
  have h3 : B ^ k = 2 ^ (32 * k) := by rw [Nat.pow_mul]; rfl
  omega

set_option maxRecDepth 100000 in
set_option maxHeartbeats 2000000 in
theorem walk_TimesBits (va : Value) (la : List Nat) (vb : Value) (lb : List Nat) (w : World) (ha : Rd w va la) (hb : Rd w vb lb) :
    Calls Try.prog 5 #[va, vb] w (Holds w) := by
  have hlma := ha.len_le
  have hlmb := hb.len_le
  unfold maxLen at hlma hlmb
  by_cases hfew : (la.length : Int) ≤ 20 ∧ (lb.length : Int) ≤ 20
  · obtain ⟨hla, hlb⟩ := hfew
    have hsa := sz_val ha.1
    have hsb := sz_val hb.1
    have h2 := sz_mul (val la) (val lb)
    have hba : nbits (val la) ≤ 640 := nbits_le_of_sz (k := 20) (by omega)
    have hbb : nbits (val lb) ≤ 640 := nbits_le_of_sz (k := 20) (by omega)
    by_cases hz : val la = 0
    · have Hz := Lib.hid hz
      have Hna := Lib.hid (show nbits (val la) = 0 by rw [hz]; rfl)
      clear hz
      go_enter Try.func5, Try.ntmps5
      go_wp2_with fail
      refine (awake3 _).mono ?_
      rintro e w1 ⟨rfl, hb1⟩
      have hB := hb1
      replace ha := ha.to hb1
      replace hb := hb.to hb1
      clear hb1
      go_wp2_with fail
      refine (few_yes _ _ la lb 20 _ ha hb hla hlb).mono ?_
      rintro e w' ⟨rfl, rfl⟩
      go_wp2_with fail
      refine (times_mul _ _ la lb _ ha hb (by omega) (by omega)).mono ?_
      rintro e w2 ⟨vx, rfl, hx, hb2⟩
      replace hB := below_step hB hb2
      replace ha := ha.to hb2
      replace hb := hb.to hb2
      replace hx := hx.rd
      clear hb2
      rw [show limbs (val la * val lb) = [] by rw [Hz.out, Nat.zero_mul]; rfl] at hx
      obtain ⟨xa, xn, xc, rfl, Hxn, _⟩ := hx.open
      obtain rfl : xn = 0 := Hxn.out.symm
      go_wp2_with fail
      refine (nat_bits _ la _ ha (by omega)).mono ?_
      rintro e w' ⟨rfl, rfl⟩
      rw [Hna.out]
      go_wp2_with fail
      refine (nat_bits _ lb _ hb (by omega)).mono ?_
      rintro e w' ⟨rfl, rfl⟩
      go_wp2_with fail
      go_ret
      exact ⟨by first | rfl | exact ret_bool (by first | (simp; done) | (simp; omega)), hB⟩
    by_cases hz2 : val lb = 0
    · have Hz := Lib.hid hz2
      have Hnb := Lib.hid (show nbits (val lb) = 0 by rw [hz2]; rfl)
      have hna0 : ((nbits (val la) : Int) == 0) = false := by
        have := mt nbits_eq_zero.1 hz
        simp; omega
      clear hz hz2
      go_enter Try.func5, Try.ntmps5
      go_wp2_with fail
      refine (awake3 _).mono ?_
      rintro e w1 ⟨rfl, hb1⟩
      have hB := hb1
      replace ha := ha.to hb1
      replace hb := hb.to hb1
      clear hb1
      go_wp2_with fail
      refine (few_yes _ _ la lb 20 _ ha hb hla hlb).mono ?_
      rintro e w' ⟨rfl, rfl⟩
      go_wp2_with fail
      refine (times_mul _ _ la lb _ ha hb (by omega) (by omega)).mono ?_
      rintro e w2 ⟨vx, rfl, hx, hb2⟩
      replace hB := below_step hB hb2
      replace ha := ha.to hb2
      replace hb := hb.to hb2
      replace hx := hx.rd
      clear hb2
      rw [show limbs (val la * val lb) = [] by rw [Hz.out, Nat.mul_zero]; rfl] at hx
      obtain ⟨xa, xn, xc, rfl, Hxn, _⟩ := hx.open
      obtain rfl : xn = 0 := Hxn.out.symm
      go_wp2_with fail
      refine (nat_bits _ la _ ha (by omega)).mono ?_
      rintro e w' ⟨rfl, rfl⟩
      go_wp2_with fail
      refine (nat_bits _ lb _ hb (by omega)).mono ?_
      rintro e w' ⟨rfl, rfl⟩
      rw [Hnb.out]
      go_wp2_with fail
      go_ret
      exact ⟨by first | rfl | exact ret_bool (by first | (simp; done) | (simp; omega)), hB⟩
    have hnm := nbits_mul hz hz2
    have hna0 : ((nbits (val la) : Int) == 0) = false := by
      have := mt nbits_eq_zero.1 hz
      simp; omega
    have hnb0 : ((nbits (val lb) : Int) == 0) = false := by
      have := mt nbits_eq_zero.1 hz2
      simp; omega
    have hna1 : 1 ≤ nbits (val la) := by have := mt nbits_eq_zero.1 hz; omega
    have hnb1 : 1 ≤ nbits (val lb) := by have := mt nbits_eq_zero.1 hz2; omega
    clear hz hz2
    go_enter Try.func5, Try.ntmps5
    go_wp2_with fail
    refine (awake3 _).mono ?_
    rintro e w1 ⟨rfl, hb1⟩
    have hB := hb1
    replace ha := ha.to hb1
    replace hb := hb.to hb1
    clear hb1
    go_wp2_with fail
    refine (few_yes _ _ la lb 20 _ ha hb hla hlb).mono ?_
    rintro e w' ⟨rfl, rfl⟩
    go_wp2_with fail
    refine (times_mul _ _ la lb _ ha hb (by omega) (by omega)).mono ?_
    rintro e w2 ⟨vx, rfl, hx, hb2⟩
    replace hB := below_step hB hb2
    replace ha := ha.to hb2
    replace hb := hb.to hb2
    replace hx := hx.rd
    clear hb2
    go_wp2_with fail
    refine (nat_bits _ la _ ha (by omega)).mono ?_
    rintro e w' ⟨rfl, rfl⟩
    go_wp2_with fail
    refine (nat_bits _ lb _ hb (by omega)).mono ?_
    rintro e w' ⟨rfl, rfl⟩
    go_wp2_with fail
    refine (nat_bits _ _ _ hx (by show sz _ ≤ _; omega)).mono ?_
    rintro e w' ⟨rfl, rfl⟩
    rw [val_limbs]
    rcases hnm with hnm | hnm
    · have Hnm := Lib.hid (show (nbits (val la * val lb) : Int) = nbits (val la) + nbits (val lb) by omega)
      clear hnm
      rw [Hnm.out]
      go_wp2_with fail
      refine (times_mul _ _ la [1] _ (ha.alloc _) (lit1 _ (by omega)) (by omega) (by simp)).mono ?_
      rintro e w9 ⟨vz, rfl, hz, hb9⟩
      replace hB := below_step hB (below_new2 _ hb9)
      replace hz := hz.rd
      rw [show val la * val [1] = val la by rw [val_one, Nat.mul_one]] at hz
      replace ha := (ha.alloc _).to hb9
      clear hb9
      go_wp2_with fail
      refine (nat_trim _ la _ ha (by omega)).mono ?_
      rintro e w10 ⟨vt, rfl, ht, hb10⟩
      replace hB := below_step hB hb10
      replace ha := ha.to hb10
      replace hz := hz.to hb10
      replace ht := ht.rd
      clear hb10
      go_wp2_with fail
      refine (words_same _ _ _ _ hz ht).mono ?_
      rintro e w11 ⟨rfl, hb11⟩
      replace hB := below_step hB hb11
      replace ha := ha.to hb11
      replace hz := hz.to hb11
      replace ht := ht.to hb11
      clear hb11
      go_wp2_with fail
      go_ret
      exact ⟨by first | rfl | exact ret_bool (by first | (simp; done) | (simp; omega)), hB⟩
    · have Hnm := Lib.hid (show (nbits (val la * val lb) : Int) = nbits (val la) + nbits (val lb) - 1 by omega)
      clear hnm
      rw [Hnm.out]
      go_wp2_with fail
      refine (nat_bits _ _ _ hx (by show sz _ ≤ _; omega)).mono ?_
      rintro e w' ⟨rfl, rfl⟩
      rw [val_limbs, Hnm.out]
      go_wp2_with fail
      refine (times_mul _ _ la [1] _ (ha.alloc _) (lit1 _ (by omega)) (by omega) (by simp)).mono ?_
      rintro e w9 ⟨vz, rfl, hz, hb9⟩
      replace hB := below_step hB (below_new2 _ hb9)
      replace hz := hz.rd
      rw [show val la * val [1] = val la by rw [val_one, Nat.mul_one]] at hz
      replace ha := (ha.alloc _).to hb9
      clear hb9
      go_wp2_with fail
      refine (nat_trim _ la _ ha (by omega)).mono ?_
      rintro e w10 ⟨vt, rfl, ht, hb10⟩
      replace hB := below_step hB hb10
      replace ha := ha.to hb10
      replace hz := hz.to hb10
      replace ht := ht.rd
      clear hb10
      go_wp2_with fail
      refine (words_same _ _ _ _ hz ht).mono ?_
      rintro e w11 ⟨rfl, hb11⟩
      replace hB := below_step hB hb11
      replace ha := ha.to hb11
      replace hz := hz.to hb11
      replace ht := ht.to hb11
      clear hb11
      go_wp2_with fail
      go_ret
      exact ⟨by first | rfl | exact ret_bool (by first | (simp; done) | (simp; omega)), hB⟩
  · go_enter Try.func5, Try.ntmps5
    go_wp2_with fail
    refine (awake3 _).mono ?_
    rintro e w1 ⟨rfl, hb1⟩
    have hB := hb1
    replace ha := ha.to hb1
    replace hb := hb.to hb1
    clear hb1
    go_wp2_with fail
    refine (few_no _ _ la lb 20 _ ha hb hfew).mono ?_
    rintro e w' ⟨rfl, rfl⟩
    go_wp2_with fail
    go_ret
    exact ⟨by first | rfl | exact ret_bool (by first | (simp; done) | (simp; omega)), hB⟩

end Go.Proofs.Ytbllgahknfhooaa
