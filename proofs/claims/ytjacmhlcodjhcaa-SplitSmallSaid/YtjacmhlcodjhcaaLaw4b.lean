/-
  The walks of the statements of layer 4.
-/
import Derived.Test.YtjacmhlcodjhcaaLaw4
import Derived.Test.YtjacmhlcodjhcaaRef4
import Derived.Test.YtjacmhlcodjhcaaSplitRoot
namespace Go.Proofs.Ytjacmhlcodjhcaa
open Go.RowKit Tw
set_option linter.unusedVariables false
set_option linter.unusedSimpArgs false

set_option maxRecDepth 100000 in
set_option maxHeartbeats 2000000 in
theorem walk_SplitSmall (va : Value) (la : List Nat) (d n m : Int) (w : World) (ha : Rd w va la) (d0 : 0 ≤ d) (d1 : d < 4294967296) (n0 : 0 ≤ n) (n1 : n < 18446744073709551616) (m0 : 0 ≤ m) (m1 : m < 18446744073709551616) :
    Calls Try.prog 12 #[va, .int .u32 d, .int .u64 n, .int .u64 m] w (Holds w) := by
  have hlma := ha.len_le
  unfold maxLen at hlma
  have hsa := sz_val ha.1
  have hsn := sz_le_two (n := n.toNat) (by omega)
  have hsm := sz_le_two (n := m.toNat) (by omega)
  have hsu := sz_div n.toNat m.toNat
  have hsv := sz_mod n.toNat m.toNat
  obtain ⟨aa, capa, rfl⟩ := ha.shape
  by_cases hla : 20 < la.length
  · skip
    go_enter Try.func12, Try.ntmps12
    go_wp2_with fail
    refine (awake4 _).mono ?_
    rintro e w1 ⟨rfl, hb1⟩
    have hB := hb1
    replace ha := ha.to hb1
    clear hb1
    go_wp2_with fail
    go_ret
    exact ⟨by first | rfl | exact ret_bool (by first | (simp; done) | (simp; omega)), hB⟩
  have Hd := Lib.hid (show val [d.toNat] = d.toNat by simp [val])
  rcases Int.lt_or_eq_of_le m0 with hm0 | rfl
  · have Hu := Lib.hid (show ((n.toNat / m.toNat : Nat) : Int) = n / m by rw [Int.natCast_ediv, Int.toNat_of_nonneg n0, Int.toNat_of_nonneg m0])
    have Hv := Lib.hid (show ((n.toNat % m.toNat : Nat) : Int) = n % m by rw [Int.natCast_emod, Int.toNat_of_nonneg n0, Int.toNat_of_nonneg m0])
    have Hu1 := Lib.hid (show n.toNat / m.toNat < 18446744073709551616 from Nat.lt_of_le_of_lt (Nat.div_le_self _ _) (by omega))
    have Hv1 := Lib.hid (show n.toNat % m.toNat < 18446744073709551616 from Nat.lt_of_le_of_lt (Nat.mod_le _ _) (by omega))
    rcases Int.lt_or_eq_of_le d0 with hd0 | rfl
    · obtain ⟨r, hr0, hr1, hr⟩ : ∃ r : Int, 0 ≤ r ∧ r < 4294967296 ∧ ((val la % d.toNat : Nat) : Int) = r := by
        have := Nat.mod_lt (val la) (show 0 < d.toNat by omega)
        exact ⟨_, by omega, by omega, rfl⟩
      have HRn := Lib.hid (show r.toNat = val la % d.toNat by rw [← hr]; exact Int.toNat_natCast _)
      have HR := Lib.hid hr
      clear hr
      go_enter Try.func12, Try.ntmps12
      go_wp2_with fail
      refine (awake4 _).mono ?_
      rintro e w1 ⟨rfl, hb1⟩
      have hB := hb1
      replace ha := ha.to hb1
      clear hb1
      go_wp2_with fail
      refine (split_small _ la d _ ha (by omega) hd0 d1).mono ?_
      rintro e w2 ⟨vq, rfl, hq, hb2⟩
      replace hB := below_step hB hb2
      replace ha := ha.to hb2
      replace hq := hq.rd
      clear hb2
      rw [HR.out]
      go_wp2_with fail
      refine (split_div _ _ la [d.toNat] _ (ha.alloc _) (lit1_int w2 d0 d1) (by omega) (by simp) (by rw [Hd.out]; omega)).mono ?_
      rintro e w3 ⟨vp, vs, rfl, hp, hs, hb3⟩
      replace hB := below_step hB (below_new2 _ hb3)
      replace ha := (ha.alloc _).to hb3
      replace hq := (hq.alloc _).to hb3
      replace hp := hp.rd
      replace hs := hs.rd
      rw [Hd.out] at hp hs
      clear hb3
      go_wp2_with fail
      refine (nat_of n _ n0 n1).mono ?_
      rintro e w4 ⟨vn, rfl, hn, hb4⟩
      replace hB := below_step hB hb4
      replace ha := ha.to hb4
      replace hq := hq.to hb4
      replace hp := hp.to hb4
      replace hs := hs.to hb4
      replace hn := hn.rd
      clear hb4
      go_wp2_with fail
      refine (nat_of m _ m0 m1).mono ?_
      rintro e w5 ⟨vm, rfl, hm, hb5⟩
      replace hB := below_step hB hb5
      replace ha := ha.to hb5
      replace hq := hq.to hb5
      replace hp := hp.to hb5
      replace hs := hs.to hb5
      replace hn := hn.to hb5
      replace hm := hm.rd
      clear hb5
      go_wp2_with fail
      refine (split_div _ _ _ _ _ hn hm (by show sz _ ≤ _; omega) (by show sz _ ≤ _; omega) (by rw [val_limbs]; omega)).mono ?_
      rintro e w6 ⟨vu, vv, rfl, hu, hv, hb6⟩
      replace hB := below_step hB hb6
      replace ha := ha.to hb6
      replace hq := hq.to hb6
      replace hp := hp.to hb6
      replace hs := hs.to hb6
      replace hn := hn.to hb6
      replace hm := hm.to hb6
      replace hu : Rd w6 vu (limbs (n.toNat / m.toNat)) := by have := hu.rd; (try simp only [val_limbs] at this); exact this
      replace hv : Rd w6 vv (limbs (n.toNat % m.toNat)) := by have := hv.rd; (try simp only [val_limbs] at this); exact this
      clear hb6
      go_wp2_with fail
      refine (nat_small _ _ _ hu (by show sz _ ≤ _; omega) (by rw [val_limbs]; exact Hu1.out)).mono ?_
      rintro e w' ⟨rfl, rfl⟩
      rw [show ((val (limbs (n.toNat / m.toNat)) : Nat) : Int) = n / m by rw [val_limbs]; exact Hu.out]
      go_wp2_with fail
      refine (nat_small _ _ _ hv (by show sz _ ≤ _; omega) (by rw [val_limbs]; exact Hv1.out)).mono ?_
      rintro e w' ⟨rfl, rfl⟩
      rw [show ((val (limbs (n.toNat % m.toNat)) : Nat) : Int) = n % m by rw [val_limbs]; exact Hv.out]
      go_wp2_with fail
      refine (words_same _ _ _ _ hq hp).mono ?_
      rintro e w7 ⟨rfl, hb7⟩
      replace hB := below_step hB hb7
      replace ha := ha.to hb7
      replace hq := hq.to hb7
      replace hp := hp.to hb7
      replace hs := hs.to hb7
      replace hn := hn.to hb7
      replace hm := hm.to hb7
      replace hu := hu.to hb7
      replace hv := hv.to hb7
      clear hb7
      go_wp2_with fail
      refine (nat_of _ _ (by omega) (by omega)).mono ?_
      rintro e w8 ⟨vo, rfl, ho, hb8⟩
      replace hB := below_step hB hb8
      replace ha := ha.to hb8
      replace hq := hq.to hb8
      replace hp := hp.to hb8
      replace hs := hs.to hb8
      replace hn := hn.to hb8
      replace hm := hm.to hb8
      replace hu := hu.to hb8
      replace hv := hv.to hb8
      replace ho := ho.rd
      clear hb8
      rw [HRn.out] at ho
      go_wp2_with fail
      refine (words_same _ _ _ _ ho hs).mono ?_
      rintro e w9 ⟨rfl, hb9⟩
      replace hB := below_step hB hb9
      replace ha := ha.to hb9
      replace hq := hq.to hb9
      replace hp := hp.to hb9
      replace hs := hs.to hb9
      replace hn := hn.to hb9
      replace hm := hm.to hb9
      replace hu := hu.to hb9
      replace hv := hv.to hb9
      replace ho := ho.to hb9
      clear hb9
      go_wp2_with fail
      go_ret
      exact ⟨by first | rfl | exact ret_bool (by first | (simp; done) | (simp; omega)), hB⟩
    · skip
      go_enter Try.func12, Try.ntmps12
      go_wp2_with fail
      refine (awake4 _).mono ?_
      rintro e w1 ⟨rfl, hb1⟩
      have hB := hb1
      replace ha := ha.to hb1
      clear hb1
      go_wp2_with fail
      refine (split_small_no _ la _ ha).mono ?_
      rintro e w' ⟨rfl, rfl⟩
      have hq := Rd.nil w1
      go_wp2_with fail
      refine (split_div_no _ _ la [0] _ (ha.alloc _) (lit1 w1 (by omega)) (by simp) (by decide)).mono ?_
      rintro e w2 ⟨rfl, hb2⟩
      replace hB := below_step hB (below_new2 _ hb2)
      replace ha := (ha.alloc _).to hb2
      replace hq := (hq.alloc _).to hb2
      have hp := Rd.nil w2
      clear hb2
      go_wp2_with fail
      refine (nat_of n _ n0 n1).mono ?_
      rintro e w3 ⟨vn, rfl, hn, hb3⟩
      replace hB := below_step hB hb3
      replace ha := ha.to hb3
      replace hq := hq.to hb3
      replace hp := hp.to hb3
      replace hn := hn.rd
      clear hb3
      go_wp2_with fail
      refine (nat_of m _ m0 m1).mono ?_
      rintro e w4 ⟨vm, rfl, hm, hb4⟩
      replace hB := below_step hB hb4
      replace ha := ha.to hb4
      replace hq := hq.to hb4
      replace hp := hp.to hb4
      replace hn := hn.to hb4
      replace hm := hm.rd
      clear hb4
      go_wp2_with fail
      refine (split_div _ _ _ _ _ hn hm (by show sz _ ≤ _; omega) (by show sz _ ≤ _; omega) (by rw [val_limbs]; omega)).mono ?_
      rintro e w5 ⟨vu, vv, rfl, hu, hv, hb5⟩
      replace hB := below_step hB hb5
      replace ha := ha.to hb5
      replace hq := hq.to hb5
      replace hp := hp.to hb5
      replace hn := hn.to hb5
      replace hm := hm.to hb5
      replace hu : Rd w5 vu (limbs (n.toNat / m.toNat)) := by have := hu.rd; (try simp only [val_limbs] at this); exact this
      replace hv : Rd w5 vv (limbs (n.toNat % m.toNat)) := by have := hv.rd; (try simp only [val_limbs] at this); exact this
      clear hb5
      go_wp2_with fail
      refine (nat_small _ _ _ hu (by show sz _ ≤ _; omega) (by rw [val_limbs]; exact Hu1.out)).mono ?_
      rintro e w' ⟨rfl, rfl⟩
      rw [show ((val (limbs (n.toNat / m.toNat)) : Nat) : Int) = n / m by rw [val_limbs]; exact Hu.out]
      go_wp2_with fail
      refine (nat_small _ _ _ hv (by show sz _ ≤ _; omega) (by rw [val_limbs]; exact Hv1.out)).mono ?_
      rintro e w' ⟨rfl, rfl⟩
      rw [show ((val (limbs (n.toNat % m.toNat)) : Nat) : Int) = n % m by rw [val_limbs]; exact Hv.out]
      go_wp2_with fail
      refine (words_same _ _ _ _ hq hp).mono ?_
      rintro e w6 ⟨rfl, hb6⟩
      replace hB := below_step hB hb6
      replace ha := ha.to hb6
      replace hq := hq.to hb6
      replace hp := hp.to hb6
      replace hn := hn.to hb6
      replace hm := hm.to hb6
      replace hu := hu.to hb6
      replace hv := hv.to hb6
      clear hb6
      go_wp2_with fail
      refine (nat_of _ _ (by omega) (by omega)).mono ?_
      rintro e w7 ⟨vo, rfl, ho, hb7⟩
      replace hB := below_step hB hb7
      replace ha := ha.to hb7
      replace hq := hq.to hb7
      replace hp := hp.to hb7
      replace hn := hn.to hb7
      replace hm := hm.to hb7
      replace hu := hu.to hb7
      replace hv := hv.to hb7
      replace ho : Rd w7 vo (limbs 0) := by have := ho.rd; (try simp only [val_limbs, Nat.add_sub_cancel] at this); exact this
      clear hb7
      rw [limbs_zero] at ho
      go_wp2_with fail
      refine (words_same _ _ [] _ ho (Rd.nil _)).mono ?_
      rintro e w8 ⟨rfl, hb8⟩
      replace hB := below_step hB hb8
      replace ha := ha.to hb8
      replace hq := hq.to hb8
      replace hp := hp.to hb8
      replace hn := hn.to hb8
      replace hm := hm.to hb8
      replace hu := hu.to hb8
      replace hv := hv.to hb8
      replace ho := ho.to hb8
      clear hb8
      go_wp2_with fail
      go_ret
      exact ⟨by first | rfl | exact ret_bool (by first | (simp; done) | (simp; omega)), hB⟩
  · rcases Int.lt_or_eq_of_le d0 with hd0 | rfl
    · obtain ⟨r, hr0, hr1, hr⟩ : ∃ r : Int, 0 ≤ r ∧ r < 4294967296 ∧ ((val la % d.toNat : Nat) : Int) = r := by
        have := Nat.mod_lt (val la) (show 0 < d.toNat by omega)
        exact ⟨_, by omega, by omega, rfl⟩
      have HRn := Lib.hid (show r.toNat = val la % d.toNat by rw [← hr]; exact Int.toNat_natCast _)
      have HR := Lib.hid hr
      clear hr
      go_enter Try.func12, Try.ntmps12
      go_wp2_with fail
      refine (awake4 _).mono ?_
      rintro e w1 ⟨rfl, hb1⟩
      have hB := hb1
      replace ha := ha.to hb1
      clear hb1
      go_wp2_with fail
      refine (split_small _ la d _ ha (by omega) hd0 d1).mono ?_
      rintro e w2 ⟨vq, rfl, hq, hb2⟩
      replace hB := below_step hB hb2
      replace ha := ha.to hb2
      replace hq := hq.rd
      clear hb2
      rw [HR.out]
      go_wp2_with fail
      refine (split_div _ _ la [d.toNat] _ (ha.alloc _) (lit1_int w2 d0 d1) (by omega) (by simp) (by rw [Hd.out]; omega)).mono ?_
      rintro e w3 ⟨vp, vs, rfl, hp, hs, hb3⟩
      replace hB := below_step hB (below_new2 _ hb3)
      replace ha := (ha.alloc _).to hb3
      replace hq := (hq.alloc _).to hb3
      replace hp := hp.rd
      replace hs := hs.rd
      rw [Hd.out] at hp hs
      clear hb3
      go_wp2_with fail
      refine (nat_of n _ n0 n1).mono ?_
      rintro e w4 ⟨vn, rfl, hn, hb4⟩
      replace hB := below_step hB hb4
      replace ha := ha.to hb4
      replace hq := hq.to hb4
      replace hp := hp.to hb4
      replace hs := hs.to hb4
      replace hn := hn.rd
      clear hb4
      go_wp2_with fail
      refine (nat_of 0 _ (by omega) (by omega)).mono ?_
      rintro e w5 ⟨vm, rfl, hm, hb5⟩
      replace hB := below_step hB hb5
      replace ha := ha.to hb5
      replace hq := hq.to hb5
      replace hp := hp.to hb5
      replace hs := hs.to hb5
      replace hn := hn.to hb5
      replace hm := hm.rd
      clear hb5
      go_wp2_with fail
      refine (split_div_no _ _ _ _ _ hn hm (by show sz _ ≤ _; omega) (by rw [val_limbs]; rfl)).mono ?_
      rintro e w6 ⟨rfl, hb6⟩
      replace hB := below_step hB hb6
      replace ha := ha.to hb6
      replace hq := hq.to hb6
      replace hp := hp.to hb6
      replace hs := hs.to hb6
      replace hn := hn.to hb6
      replace hm := hm.to hb6
      clear hb6
      have hu := Rd.nil w6
      go_wp2_with fail
      refine (nat_small _ [] _ hu (by simp) (by simp [val])).mono ?_
      rintro e w' ⟨rfl, rfl⟩
      go_wp2_with fail
      refine (nat_small _ [] _ hu (by simp) (by simp [val])).mono ?_
      rintro e w' ⟨rfl, rfl⟩
      go_wp2_with fail
      refine (words_same _ _ _ _ hq hp).mono ?_
      rintro e w7 ⟨rfl, hb7⟩
      replace hB := below_step hB hb7
      replace ha := ha.to hb7
      replace hq := hq.to hb7
      replace hp := hp.to hb7
      replace hs := hs.to hb7
      replace hn := hn.to hb7
      replace hm := hm.to hb7
      replace hu := hu.to hb7
      clear hb7
      go_wp2_with fail
      go_ret
      exact ⟨by first | rfl | exact ret_bool (by first | (simp; done) | (simp; omega)), hB⟩
    · skip
      go_enter Try.func12, Try.ntmps12
      go_wp2_with fail
      refine (awake4 _).mono ?_
      rintro e w1 ⟨rfl, hb1⟩
      have hB := hb1
      replace ha := ha.to hb1
      clear hb1
      go_wp2_with fail
      refine (split_small_no _ la _ ha).mono ?_
      rintro e w' ⟨rfl, rfl⟩
      have hq := Rd.nil w1
      go_wp2_with fail
      refine (split_div_no _ _ la [0] _ (ha.alloc _) (lit1 w1 (by omega)) (by simp) (by decide)).mono ?_
      rintro e w2 ⟨rfl, hb2⟩
      replace hB := below_step hB (below_new2 _ hb2)
      replace ha := (ha.alloc _).to hb2
      replace hq := (hq.alloc _).to hb2
      have hp := Rd.nil w2
      clear hb2
      go_wp2_with fail
      refine (nat_of n _ n0 n1).mono ?_
      rintro e w3 ⟨vn, rfl, hn, hb3⟩
      replace hB := below_step hB hb3
      replace ha := ha.to hb3
      replace hq := hq.to hb3
      replace hp := hp.to hb3
      replace hn := hn.rd
      clear hb3
      go_wp2_with fail
      refine (nat_of 0 _ (by omega) (by omega)).mono ?_
      rintro e w4 ⟨vm, rfl, hm, hb4⟩
      replace hB := below_step hB hb4
      replace ha := ha.to hb4
      replace hq := hq.to hb4
      replace hp := hp.to hb4
      replace hn := hn.to hb4
      replace hm := hm.rd
      clear hb4
      go_wp2_with fail
      refine (split_div_no _ _ _ _ _ hn hm (by show sz _ ≤ _; omega) (by rw [val_limbs]; rfl)).mono ?_
      rintro e w5 ⟨rfl, hb5⟩
      replace hB := below_step hB hb5
      replace ha := ha.to hb5
      replace hq := hq.to hb5
      replace hp := hp.to hb5
      replace hn := hn.to hb5
      replace hm := hm.to hb5
      clear hb5
      have hu := Rd.nil w5
      go_wp2_with fail
      refine (nat_small _ [] _ hu (by simp) (by simp [val])).mono ?_
      rintro e w' ⟨rfl, rfl⟩
      go_wp2_with fail
      refine (nat_small _ [] _ hu (by simp) (by simp [val])).mono ?_
      rintro e w' ⟨rfl, rfl⟩
      go_wp2_with fail
      refine (words_same _ _ _ _ hq hp).mono ?_
      rintro e w6 ⟨rfl, hb6⟩
      replace hB := below_step hB hb6
      replace ha := ha.to hb6
      replace hq := hq.to hb6
      replace hp := hp.to hb6
      replace hn := hn.to hb6
      replace hm := hm.to hb6
      replace hu := hu.to hb6
      clear hb6
      go_wp2_with fail
      go_ret
      exact ⟨by first | rfl | exact ret_bool (by first | (simp; done) | (simp; omega)), hB⟩

end Go.Proofs.Ytjacmhlcodjhcaa
