/-
  The walks of the statements of layer 6.
-/
import Derived.Test.YteokdkcanckfeaaRef6
import Derived.Test.YteokdkcanckfeaaLits
import Derived.Test.YteokdkcanckfeaaWords
namespace Go.Proofs.Yteokdkcanckfeaa
open Go.RowKit Tw
set_option linter.unusedVariables false
set_option linter.unusedSimpArgs false

set_option maxRecDepth 100000 in
set_option maxHeartbeats 2000000 in
theorem awake6  (w : World)  :
    Calls Try.prog 14 #[] w (Holds w) := by
  have H0 : bs ⟨#[52, 50, 57, 52, 57, 54, 55, 50, 57, 54]⟩ = digs 4294967296 := by decide +kernel
  have Hok : OkText (bs ⟨#[52, 50, 57, 52, 57, 54, 55, 50, 57, 54]⟩) := by rw [H0]; exact okText_digs _
  have H1 := Lib.hid (show limbs (dval (bs ⟨#[52, 50, 57, 52, 57, 54, 55, 50, 57, 54]⟩)) = [0, 1] by decide +kernel)
  have H2 := Lib.hid (show ba (digs (val [0, 1])) = ⟨#[52, 50, 57, 52, 57, 54, 55, 50, 57, 54]⟩ by decide +kernel)
  have H3 := Lib.hid (show ndig (val [0, 1]) = 10 by decide +kernel)
  have H4 := Lib.hid (show ba (digs (val [])) = ⟨#[48]⟩ by decide +kernel)
  have Hk := Lib.hid Hok
  clear H0 Hok
  go_enter Try.func14, Try.ntmps14
  go_wp2_with fail
  refine (deci_parse_ok ⟨#[52, 50, 57, 52, 57, 54, 55, 50, 57, 54]⟩ _ (by decide) Hk.out).mono ?_
  rintro e w1 ⟨va, rfl, ha, hb1⟩
  have hB := hb1
  replace ha := ha.rd
  clear hb1
  rw [H1.out] at ha
  go_wp2_with fail
  refine (words_same _ _ [0, 1] _ (ha.alloc _) (lit2 w1 (by omega) (by omega))).mono ?_
  rintro e w2 ⟨rfl, hb2⟩
  replace hB := below_step hB (below_new2 _ hb2)
  replace ha := (ha.alloc _).to hb2
  clear hb2
  go_wp2_with fail
  refine (deci_print _ [0, 1] _ ha (by simp)).mono ?_
  rintro e w3 ⟨rfl, hb3⟩
  replace hB := below_step hB hb3
  replace ha := ha.to hb3
  clear hb3
  rw [H2.out]
  go_wp2_with fail
  refine (deci_digits _ [0, 1] _ ha (by simp)).mono ?_
  rintro e w4 ⟨rfl, hb4⟩
  replace hB := below_step hB hb4
  replace ha := ha.to hb4
  clear hb4
  rw [H3.out]
  go_wp2_with fail
  refine (deci_print _ [] _ (Rd.nil _) (by simp)).mono ?_
  rintro e w5 ⟨rfl, hb5⟩
  replace hB := below_step hB hb5
  replace ha := ha.to hb5
  clear hb5
  rw [H4.out]
  go_wp2_with fail
  go_ret
  exact ⟨by first | rfl | exact ret_bool (by first | (simp; done) | (simp; omega)), hB⟩

set_option maxRecDepth 100000 in
set_option maxHeartbeats 2000000 in
theorem walk_DeciParses (s : ByteArray) (w : World) (hs : s.size ≤ maxLen) :
    Calls Try.prog 3 #[.string s] w (Holds w) := by
  unfold maxLen at hs
  by_cases hl : 60 < s.size
  · skip
    go_enter Try.func3, Try.ntmps3
    go_wp2_with fail
    refine (awake6 _).mono ?_
    rintro e w1 ⟨rfl, hb1⟩
    have hB := hb1
    clear hb1
    go_wp2_with fail
    go_ret
    exact ⟨by first | rfl | exact ret_bool (by first | (simp; done) | (simp; omega)), hB⟩
  by_cases hok : OkText (bs s)
  · have Hk := Lib.hid hok
    clear hok
    go_enter Try.func3, Try.ntmps3
    go_wp2_with fail
    refine (awake6 _).mono ?_
    rintro e w1 ⟨rfl, hb1⟩
    have hB := hb1
    clear hb1
    go_wp2_with fail
    refine (deci_parse_ok s _ (by omega) Hk.out).mono ?_
    rintro e w2 ⟨va, rfl, ha, hb2⟩
    replace hB := below_step hB hb2
    replace ha := ha.rd
    clear hb2
    go_wp2_with fail
    refine (ref6_parse_ok s _ (by omega) Hk.out).mono ?_
    rintro e w3 ⟨vb, rfl, hb, hb3⟩
    replace hB := below_step hB hb3
    replace ha := ha.to hb3
    replace hb := hb.rd
    clear hb3
    go_wp2_with fail
    refine (words_same _ _ _ _ ha hb).mono ?_
    rintro e w4 ⟨rfl, hb4⟩
    replace hB := below_step hB hb4
    replace ha := ha.to hb4
    replace hb := hb.to hb4
    clear hb4
    go_wp2_with fail
    go_ret
    exact ⟨by first | rfl | exact ret_bool (by first | (simp; done) | (simp; omega)), hB⟩
  · have Hk := Lib.hid hok
    clear hok
    go_enter Try.func3, Try.ntmps3
    go_wp2_with fail
    refine (awake6 _).mono ?_
    rintro e w1 ⟨rfl, hb1⟩
    have hB := hb1
    clear hb1
    go_wp2_with fail
    refine (deci_parse_no s _ (by omega) Hk.out).mono ?_
    rintro e w2 ⟨rfl, hb2⟩
    replace hB := below_step hB hb2
    clear hb2
    go_wp2_with fail
    refine (ref6_parse_no s _ (by omega) Hk.out).mono ?_
    rintro e w3 ⟨rfl, hb3⟩
    replace hB := below_step hB hb3
    clear hb3
    go_wp2_with fail
    refine (words_same _ _ [] _ (Rd.nil _) (Rd.nil _)).mono ?_
    rintro e w4 ⟨rfl, hb4⟩
    replace hB := below_step hB hb4
    clear hb4
    go_wp2_with fail
    go_ret
    exact ⟨by first | rfl | exact ret_bool (by first | (simp; done) | (simp; omega)), hB⟩

set_option maxRecDepth 100000 in
set_option maxHeartbeats 2000000 in
theorem walk_DeciPrints (va : Value) (la : List Nat) (w : World) (ha : Rd w va la) :
    Calls Try.prog 4 #[va] w (Holds w) := by
  have hlma := ha.len_le
  unfold maxLen at hlma
  obtain ⟨aa, capa, rfl⟩ := ha.shape
  by_cases hl : 8 < la.length
  · skip
    go_enter Try.func4, Try.ntmps4
    go_wp2_with fail
    refine (awake6 _).mono ?_
    rintro e w1 ⟨rfl, hb1⟩
    have hB := hb1
    replace ha := ha.to hb1
    clear hb1
    go_wp2_with fail
    go_ret
    exact ⟨by first | rfl | exact ret_bool (by first | (simp; done) | (simp; omega)), hB⟩
  obtain ⟨t, ht⟩ : ∃ t, ba (digs (val la)) = t := ⟨_, rfl⟩
  have Ht := Lib.hid ht
  have Hn := Lib.hid (show ndig (val la) = t.size by rw [← ht]; exact (ba_size _).symm)
  clear ht
  go_enter Try.func4, Try.ntmps4
  go_wp2_with fail
  refine (awake6 _).mono ?_
  rintro e w1 ⟨rfl, hb1⟩
  have hB := hb1
  replace ha := ha.to hb1
  clear hb1
  go_wp2_with fail
  refine (ref6_print _ la _ ha (by omega)).mono ?_
  rintro e w2 ⟨rfl, hb2⟩
  replace hB := below_step hB hb2
  replace ha := ha.to hb2
  clear hb2
  rw [Ht.out]
  go_wp2_with fail
  refine (deci_print _ la _ ha (by omega)).mono ?_
  rintro e w3 ⟨rfl, hb3⟩
  replace hB := below_step hB hb3
  replace ha := ha.to hb3
  clear hb3
  rw [Ht.out]
  go_wp2_with fail
  refine (deci_digits _ la _ ha (by omega)).mono ?_
  rintro e w4 ⟨rfl, hb4⟩
  replace hB := below_step hB hb4
  replace ha := ha.to hb4
  clear hb4
  rw [Hn.out]
  go_wp2_with fail
  go_ret
  exact ⟨by first | rfl | exact ret_bool (by first | (simp; done) | (simp; omega)), hB⟩

set_option maxRecDepth 100000 in
set_option maxHeartbeats 2000000 in
theorem walk_DeciBack (va : Value) (la : List Nat) (s : ByteArray) (w : World) (ha : Rd w va la) (hs : s.size ≤ maxLen) :
    Calls Try.prog 6 #[va, .string s] w (Holds w) := by
  have hlma := ha.len_le
  unfold maxLen at hlma hs
  have hnd := ndig_bound ha.1
  obtain ⟨aa, capa, rfl⟩ := ha.shape
  by_cases hl : 8 < la.length
  · skip
    go_enter Try.func6, Try.ntmps6
    go_wp2_with fail
    refine (awake6 _).mono ?_
    rintro e w1 ⟨rfl, hb1⟩
    have hB := hb1
    replace ha := ha.to hb1
    clear hb1
    go_wp2_with fail
    go_ret
    exact ⟨by first | rfl | exact ret_bool (by first | (simp; done) | (simp; omega)), hB⟩
  have tl : decide ((8 : Int) < (la.length : Int)) = false := by simp; omega
  by_cases hl2 : 60 < s.size
  · skip
    go_enter Try.func6, Try.ntmps6
    go_wp2_with fail
    refine (awake6 _).mono ?_
    rintro e w1 ⟨rfl, hb1⟩
    have hB := hb1
    replace ha := ha.to hb1
    clear hb1
    go_wp2_with fail
    go_ret
    exact ⟨by first | rfl | exact ret_bool (by first | (simp; done) | (simp; omega)), hB⟩
  have tl2 : decide ((60 : Int) < (s.size : Int)) = false := by simp; omega
  have Hnd := Lib.hid (show ndig (val la) ≤ 81 by omega)
  clear hnd
  by_cases hok : OkText (bs s)
  · have Hk := Lib.hid hok
    have Hcl := Lib.hid (sz_digs hok.2.1 (by rw [bs_length]; omega))
    clear hok
    go_enter Try.func6, Try.ntmps6
    go_wp2_with fail
    refine (awake6 _).mono ?_
    rintro e w1 ⟨rfl, hb1⟩
    have hB := hb1
    replace ha := ha.to hb1
    clear hb1
    go_wp2_with fail
    refine (deci_print _ la _ ha (by omega)).mono ?_
    rintro e w2 ⟨rfl, hb2⟩
    replace hB := below_step hB hb2
    replace ha := ha.to hb2
    clear hb2
    go_wp2_with fail
    refine (deci_parse_ok _ _ (by rw [ba_size]; have := Hnd.out; unfold ndig at this; omega) (by rw [bs_digs]; exact okText_digs _)).mono ?_
    rintro e w3 ⟨vb, rfl, hb, hb3⟩
    replace hB := below_step hB hb3
    replace ha := ha.to hb3
    replace hb := hb.rd
    clear hb3
    rw [bs_digs, dval_digs] at hb
    go_wp2_with fail
    refine (deci_parse_ok s _ (by omega) Hk.out).mono ?_
    rintro e w4 ⟨vc, rfl, hc, hb4⟩
    replace hB := below_step hB hb4
    replace ha := ha.to hb4
    replace hb := hb.to hb4
    replace hc := hc.rd
    clear hb4
    go_wp2_with fail
    refine (deci_print _ _ _ hc (by rw [sz_def]; exact Nat.le_trans Hcl.out (by omega))).mono ?_
    rintro e w5 ⟨rfl, hb5⟩
    replace hB := below_step hB hb5
    replace ha := ha.to hb5
    replace hb := hb.to hb5
    replace hc := hc.to hb5
    clear hb5
    rw [val_limbs, digs_dval Hk.out, ba_bs]
    go_wp2_with fail
    refine (nat_cmp _ _ la _ _ ha hb).mono ?_
    rintro e w6 ⟨rfl, hb6⟩
    replace hB := below_step hB hb6
    replace ha := ha.to hb6
    replace hb := hb.to hb6
    replace hc := hc.to hb6
    clear hb6
    rw [val_limbs, cmpN_eq rfl]
    go_wp2_with fail
    refine (nat_right _ _ _ hb).mono ?_
    rintro e w' ⟨rfl, rfl⟩
    rw [show decide (sz (val (limbs (val la))) = (limbs (val la)).length) = true by rw [val_limbs]; simp [sz_def]]
    go_wp2_with fail
    go_ret
    exact ⟨by first | rfl | exact ret_bool (by first | (simp; done) | (simp; omega)), hB⟩
  · have Hk := Lib.hid hok
    clear hok
    go_enter Try.func6, Try.ntmps6
    go_wp2_with fail
    refine (awake6 _).mono ?_
    rintro e w1 ⟨rfl, hb1⟩
    have hB := hb1
    replace ha := ha.to hb1
    clear hb1
    go_wp2_with fail
    refine (deci_print _ la _ ha (by omega)).mono ?_
    rintro e w2 ⟨rfl, hb2⟩
    replace hB := below_step hB hb2
    replace ha := ha.to hb2
    clear hb2
    go_wp2_with fail
    refine (deci_parse_ok _ _ (by rw [ba_size]; have := Hnd.out; unfold ndig at this; omega) (by rw [bs_digs]; exact okText_digs _)).mono ?_
    rintro e w3 ⟨vb, rfl, hb, hb3⟩
    replace hB := below_step hB hb3
    replace ha := ha.to hb3
    replace hb := hb.rd
    clear hb3
    rw [bs_digs, dval_digs] at hb
    go_wp2_with fail
    refine (deci_parse_no s _ (by omega) Hk.out).mono ?_
    rintro e w4 ⟨rfl, hb4⟩
    replace hB := below_step hB hb4
    replace ha := ha.to hb4
    replace hb := hb.to hb4
    clear hb4
    go_wp2_with fail
    refine (nat_cmp _ _ la _ _ ha hb).mono ?_
    rintro e w5 ⟨rfl, hb5⟩
    replace hB := below_step hB hb5
    replace ha := ha.to hb5
    replace hb := hb.to hb5
    clear hb5
    rw [val_limbs, cmpN_eq rfl]
    go_wp2_with fail
    refine (nat_right _ _ _ hb).mono ?_
    rintro e w' ⟨rfl, rfl⟩
    rw [show decide (sz (val (limbs (val la))) = (limbs (val la)).length) = true by rw [val_limbs]; simp [sz_def]]
    go_wp2_with fail
    go_ret
    exact ⟨by first | rfl | exact ret_bool (by first | (simp; done) | (simp; omega)), hB⟩

set_option maxRecDepth 100000 in
set_option maxHeartbeats 2000000 in
theorem walk_DeciJoins (va : Value) (la : List Nat) (vb : Value) (lb : List Nat) (w : World) (ha : Rd w va la) (hb : Rd w vb lb) :
    Calls Try.prog 8 #[va, vb] w (Holds w) := by
  have hlma := ha.len_le
  have hlmb := hb.len_le
  unfold maxLen at hlma hlmb
  have hna := ndig_bound ha.1
  have hnb := ndig_bound hb.1
  have hsa := sz_val ha.1
  obtain ⟨aa, capa, rfl⟩ := ha.shape
  obtain ⟨ab, capb, rfl⟩ := hb.shape
  by_cases hl : 8 < la.length
  · skip
    go_enter Try.func8, Try.ntmps8
    go_wp2_with fail
    refine (awake6 _).mono ?_
    rintro e w1 ⟨rfl, hb1⟩
    have hB := hb1
    replace ha := ha.to hb1
    replace hb := hb.to hb1
    clear hb1
    go_wp2_with fail
    go_ret
    exact ⟨by first | rfl | exact ret_bool (by first | (simp; done) | (simp; omega)), hB⟩
  have tl : decide ((8 : Int) < (la.length : Int)) = false := by simp; omega
  by_cases hl2 : 8 < lb.length
  · skip
    go_enter Try.func8, Try.ntmps8
    go_wp2_with fail
    refine (awake6 _).mono ?_
    rintro e w1 ⟨rfl, hb1⟩
    have hB := hb1
    replace ha := ha.to hb1
    replace hb := hb.to hb1
    clear hb1
    go_wp2_with fail
    go_ret
    exact ⟨by first | rfl | exact ret_bool (by first | (simp; done) | (simp; omega)), hB⟩
  have tl2 : decide ((8 : Int) < (lb.length : Int)) = false := by simp; omega
  have Hna := Lib.hid (show ndig (val la) ≤ 81 by omega)
  have Hnb := Lib.hid (show ndig (val lb) ≤ 81 by omega)
  clear hna hnb
  rcases Nat.eq_zero_or_pos (val la) with h0 | h0
  · have Hn := Lib.hid (show nbits (val la) = 0 by rw [h0]; rfl)
    clear h0
    go_enter Try.func8, Try.ntmps8
    go_wp2_with fail
    refine (awake6 _).mono ?_
    rintro e w1 ⟨rfl, hb1⟩
    have hB := hb1
    replace ha := ha.to hb1
    replace hb := hb.to hb1
    clear hb1
    go_wp2_with fail
    refine (nat_bits _ la _ ha (by omega)).mono ?_
    rintro e w' ⟨rfl, rfl⟩
    rw [Hn.out]
    go_wp2_with fail
    go_ret
    exact ⟨by first | rfl | exact ret_bool (by first | (simp; done) | (simp; omega)), hB⟩
  have hnb0 : 0 < nbits (val la) := Nat.pos_of_ne_zero (fun e => absurd (nbits_eq_zero.1 e) (by omega))
  have tn : ((nbits (val la) : Int) == 0) = false := by rw [beq_eq_false_iff_ne]; omega
  have Hok := Lib.hid (okText_append (n := val lb) (Nat.ne_of_gt h0))
  clear h0
  have Hsz := Lib.hid (show (ba (digs (val lb))).size = ndig (val lb) from ba_size _)
  have Hpn := Lib.hid (show ¬ powNo (val [10]) ((ndig (val lb) : Nat) : Int) by
    have h1 := Hnb.out
    rintro (h | ⟨_, h⟩)
    · omega
    · have h2 : (4096 / sz (val [10]) : Nat) = 4096 := by decide +kernel
      rw [h2] at h; omega)
  have Hpe := Lib.hid (show limbs (val [10] ^ ((ndig (val lb) : Nat) : Int).toNat) = limbs (10 ^ ndig (val lb)) by rw [Int.toNat_natCast]; rfl)
  have Hbs := Lib.hid (show bs (ba (digs (val la) ++ digs (val lb))) = digs (val la) ++ digs (val lb) from bs_ba (dig_lt Hok.out.2.1))
  have Hval := Lib.hid (show dval (digs (val la) ++ digs (val lb)) = val la * 10 ^ ndig (val lb) + val lb by rw [dval_append, dval_digs, dval_digs]; rfl)
  have Hsp := Lib.hid (show sz (10 ^ ndig (val lb)) ≤ 82 by have := sz_ten (ndig (val lb)); have := Hnb.out; omega)
  have Hsm := Lib.hid (show sz (val la * 10 ^ ndig (val lb)) ≤ 90 by have := sz_mul (val la) (10 ^ ndig (val lb)); have := Hsp.out; omega)
  have hadd : ∀ (ww : World), (Op.stringOp .add (ba (digs (val la))) (ba (digs (val lb)))).run Try.prog ww = .ok (.string (ba (digs (val la) ++ digs (val lb)))) ww := fun ww => by
    rw [run_string_add_sum ww _ _ (by rw [ba_size, ba_size]; have := Hna.out; have := Hnb.out; unfold ndig at *; omega), ba_append]
  go_enter Try.func8, Try.ntmps8
  go_wp2_with fail
  refine (awake6 _).mono ?_
  rintro e w1 ⟨rfl, hb1⟩
  have hB := hb1
  replace ha := ha.to hb1
  replace hb := hb.to hb1
  clear hb1
  go_wp2_with fail
  refine (nat_bits _ la _ ha (by omega)).mono ?_
  rintro e w' ⟨rfl, rfl⟩
  go_wp2_with fail
  refine (deci_print _ la _ ha (by omega)).mono ?_
  rintro e w2 ⟨rfl, hb2⟩
  replace hB := below_step hB hb2
  replace ha := ha.to hb2
  replace hb := hb.to hb2
  clear hb2
  go_wp2_with fail
  refine (deci_print _ lb _ hb (by omega)).mono ?_
  rintro e w3 ⟨rfl, hb3⟩
  replace hB := below_step hB hb3
  replace ha := ha.to hb3
  replace hb := hb.to hb3
  clear hb3
  go_wp2_with fail
  rw [Hsz.out]
  refine (times_pow _ [10] _ _ (lit1 w3 (by omega)) (by simp) Hpn.out).mono ?_
  rintro e w4 ⟨vp, rfl, hp, hb4⟩
  replace hB := below_step hB (below_new2 _ hb4)
  replace ha := (ha.alloc _).to hb4
  replace hb := (hb.alloc _).to hb4
  replace hp := hp.rd
  rw [Hpe.out] at hp
  clear hb4
  go_wp2_with fail
  refine (deci_parse_ok _ _ (by rw [ba_size, List.length_append]; have := Hna.out; have := Hnb.out; unfold ndig at *; omega) (by rw [Hbs.out]; exact Hok.out)).mono ?_
  rintro e w5 ⟨vc, rfl, hc, hb5⟩
  replace hB := below_step hB hb5
  replace ha := ha.to hb5
  replace hb := hb.to hb5
  replace hp := hp.to hb5
  replace hc := hc.rd
  clear hb5
  rw [Hbs.out, Hval.out] at hc
  go_wp2_with fail
  refine (times_mul _ _ la _ _ ha hp (by omega) (by rw [sz_def]; have := Hsp.out; omega)).mono ?_
  rintro e w6 ⟨vm, rfl, hm, hb6⟩
  replace hB := below_step hB hb6
  replace ha := ha.to hb6
  replace hb := hb.to hb6
  replace hp := hp.to hb6
  replace hc := hc.to hb6
  replace hm : Rd w6 vm (limbs (val la * 10 ^ ndig (val lb))) := by have := hm.rd; (try simp only [val_limbs, Nat.add_sub_cancel] at this); exact this
  clear hb6
  go_wp2_with fail
  refine (nat_add _ _ _ lb _ hm hb (by rw [sz_def]; have := Hsm.out; omega) (by omega)).mono ?_
  rintro e w7 ⟨vn, rfl, hn, hb7⟩
  replace hB := below_step hB hb7
  replace ha := ha.to hb7
  replace hb := hb.to hb7
  replace hp := hp.to hb7
  replace hc := hc.to hb7
  replace hm := hm.to hb7
  replace hn : Rd w7 vn (limbs (val la * 10 ^ ndig (val lb) + val lb)) := by have := hn.rd; (try simp only [val_limbs, Nat.add_sub_cancel] at this); exact this
  clear hb7
  go_wp2_with fail
  refine (nat_cmp _ _ _ _ _ hc hn).mono ?_
  rintro e w8 ⟨rfl, hb8⟩
  replace hB := below_step hB hb8
  replace ha := ha.to hb8
  replace hb := hb.to hb8
  replace hp := hp.to hb8
  replace hc := hc.to hb8
  replace hm := hm.to hb8
  replace hn := hn.to hb8
  clear hb8
  rw [cmpN_eq rfl]
  go_wp2_with fail
  go_ret
  exact ⟨by first | rfl | exact ret_bool (by first | (simp; done) | (simp; omega)), hB⟩

set_option maxRecDepth 100000 in
set_option maxHeartbeats 2000000 in
theorem walk_DeciDigits (va : Value) (la : List Nat) (vb : Value) (lb : List Nat) (w : World) (ha : Rd w va la) (hb : Rd w vb lb) :
    Calls Try.prog 7 #[va, vb] w (Holds w) := by
  have hlma := ha.len_le
  have hlmb := hb.len_le
  unfold maxLen at hlma hlmb
  have hna := ndig_bound ha.1
  obtain ⟨aa, capa, rfl⟩ := ha.shape
  obtain ⟨ab, capb, rfl⟩ := hb.shape
  by_cases hl : 8 < la.length
  · skip
    go_enter Try.func7, Try.ntmps7
    go_wp2_with fail
    refine (awake6 _).mono ?_
    rintro e w1 ⟨rfl, hb1⟩
    have hB := hb1
    replace ha := ha.to hb1
    replace hb := hb.to hb1
    clear hb1
    go_wp2_with fail
    go_ret
    exact ⟨by first | rfl | exact ret_bool (by first | (simp; done) | (simp; omega)), hB⟩
  have tl : decide ((8 : Int) < (la.length : Int)) = false := by simp; omega
  by_cases hl2 : 8 < lb.length
  · skip
    go_enter Try.func7, Try.ntmps7
    go_wp2_with fail
    refine (awake6 _).mono ?_
    rintro e w1 ⟨rfl, hb1⟩
    have hB := hb1
    replace ha := ha.to hb1
    replace hb := hb.to hb1
    clear hb1
    go_wp2_with fail
    go_ret
    exact ⟨by first | rfl | exact ret_bool (by first | (simp; done) | (simp; omega)), hB⟩
  have tl2 : decide ((8 : Int) < (lb.length : Int)) = false := by simp; omega
  obtain ⟨n, hn⟩ : ∃ n, ndig (val la) = n := ⟨_, rfl⟩
  have hn1 : 1 ≤ n := by rw [← hn]; exact ndig_pos _
  have hn81 : n ≤ 81 := by omega
  have tn : (decide ((n : Int) < 1) || decide ((100 : Int) < (n : Int))) = false := by simp; omega
  have Hnn := Lib.hid hn
  have Hlt := Lib.hid (show val la < 10 ^ n by rw [← hn]; exact lt_ndig _)
  clear hna hn
  have Hpn := Lib.hid (show ¬ powNo (val [10]) (n : Int) by
    rintro (h | ⟨_, h⟩)
    · omega
    · have h2 : (4096 / sz (val [10]) : Nat) = 4096 := by decide +kernel
      rw [h2] at h; omega)
  have Hqn := Lib.hid (show ¬ powNo (val [10]) ((n : Int) - 1) by
    rintro (h | ⟨_, h⟩)
    · omega
    · have h2 : (4096 / sz (val [10]) : Nat) = 4096 := by decide +kernel
      rw [h2] at h; omega)
  have Hpe := Lib.hid (show limbs (val [10] ^ (n : Int).toNat) = limbs (10 ^ n) by rw [Int.toNat_natCast]; rfl)
  have Hqe := Lib.hid (show limbs (val [10] ^ ((n : Int) - 1).toNat) = limbs (10 ^ (n - 1)) by rw [show ((n : Int) - 1).toNat = n - 1 by omega]; rfl)
  by_cases hle : val la ≤ val lb <;> rcases Nat.eq_zero_or_pos (val la) with h0 | h0
  · skip
    have hcc : cmpN (val la) (val lb) ≤ 0 := cmpN_le.2 hle
    have hcd : decide (cmpN (val la) (val lb) ≤ 0) = true := by simpa using hcc
    have tm : decide (ndig (val lb) < n) = false := by have := ndig_mono hle; rw [Hnn.out] at this; simp; omega
    have tm2 : ¬ ndig (val lb) < n := by simpa using tm
    have tz : decide (0 ≤ cmpN (val la) (val (limbs (10 ^ (n - 1))))) = false := by rw [val_limbs, h0]; have := Nat.pow_pos (n := n - 1) (show 0 < 10 by omega); rw [cmpN_lt this]; rfl
    have tzi : ¬ 0 ≤ cmpN (val la) (val (limbs (10 ^ (n - 1)))) := by simpa using tz
    have t1 : ((n : Int) == 1) = true := by have := Hnn.out; rw [h0] at this; have h2 : ndig 0 = 1 := rfl; rw [h2] at this; rw [← this]; rfl
    clear h0 hle
    go_enter Try.func7, Try.ntmps7
    go_wp2_with fail
    refine (awake6 _).mono ?_
    rintro e w1 ⟨rfl, hb1⟩
    have hB := hb1
    replace ha := ha.to hb1
    replace hb := hb.to hb1
    clear hb1
    go_wp2_with fail
    refine (deci_digits _ la _ ha (by omega)).mono ?_
    rintro e w2 ⟨rfl, hb2⟩
    replace hB := below_step hB hb2
    replace ha := ha.to hb2
    replace hb := hb.to hb2
    clear hb2
    rw [Hnn.out]
    go_wp2_with fail
    refine (times_pow _ [10] _ _ (lit1 w2 (by omega)) (by simp) Hpn.out).mono ?_
    rintro e w3 ⟨vp, rfl, hp, hb3⟩
    replace hB := below_step hB (below_new2 _ hb3)
    replace ha := (ha.alloc _).to hb3
    replace hb := (hb.alloc _).to hb3
    replace hp := hp.rd
    rw [Hpe.out] at hp
    clear hb3
    go_wp2_with fail
    refine (times_pow _ [10] _ _ (lit1 w3 (by omega)) (by simp) Hqn.out).mono ?_
    rintro e w4 ⟨vq, rfl, hq, hb4⟩
    replace hB := below_step hB (below_new2 _ hb4)
    replace ha := (ha.alloc _).to hb4
    replace hb := (hb.alloc _).to hb4
    replace hp := (hp.alloc _).to hb4
    replace hq := hq.rd
    rw [Hqe.out] at hq
    clear hb4
    go_wp2_with fail
    refine (nat_cmp _ _ la lb _ ha hb).mono ?_
    rintro e w5 ⟨rfl, hb5⟩
    replace hB := below_step hB hb5
    replace ha := ha.to hb5
    replace hb := hb.to hb5
    replace hp := hp.to hb5
    replace hq := hq.to hb5
    clear hb5
    go_wp2_with fail
    refine (deci_digits _ lb _ hb (by omega)).mono ?_
    rintro e w6 ⟨rfl, hb6⟩
    replace hB := below_step hB hb6
    replace ha := ha.to hb6
    replace hb := hb.to hb6
    replace hp := hp.to hb6
    replace hq := hq.to hb6
    clear hb6
    go_wp2_with fail
    refine (nat_cmp _ _ la _ _ ha hp).mono ?_
    rintro e w7 ⟨rfl, hb7⟩
    replace hB := below_step hB hb7
    replace ha := ha.to hb7
    replace hb := hb.to hb7
    replace hp := hp.to hb7
    replace hq := hq.to hb7
    clear hb7
    rw [cmpN_lt (show val la < val (limbs (10 ^ n)) by rw [val_limbs]; exact Hlt.out)]
    go_wp2_with fail
    refine (nat_cmp _ _ la _ _ ha hq).mono ?_
    rintro e w8 ⟨rfl, hb8⟩
    replace hB := below_step hB hb8
    replace ha := ha.to hb8
    replace hb := hb.to hb8
    replace hp := hp.to hb8
    replace hq := hq.to hb8
    clear hb8
    go_wp2_with fail
    go_ret
    exact ⟨by first | rfl | exact ret_bool (by first | (simp; done) | (simp; omega)), hB⟩
  · skip
    have hcc : cmpN (val la) (val lb) ≤ 0 := cmpN_le.2 hle
    have hcd : decide (cmpN (val la) (val lb) ≤ 0) = true := by simpa using hcc
    have tm : decide (ndig (val lb) < n) = false := by have := ndig_mono hle; rw [Hnn.out] at this; simp; omega
    have tm2 : ¬ ndig (val lb) < n := by simpa using tm
    have tz : decide (0 ≤ cmpN (val la) (val (limbs (10 ^ (n - 1))))) = true := by rw [val_limbs]; have h := ndig_ge (Nat.ne_of_gt h0); rw [Hnn.out] at h; simpa using cmpN_ge.2 h
    have tzi : 0 ≤ cmpN (val la) (val (limbs (10 ^ (n - 1)))) := by simpa using tz
    clear h0 hle
    go_enter Try.func7, Try.ntmps7
    go_wp2_with fail
    refine (awake6 _).mono ?_
    rintro e w1 ⟨rfl, hb1⟩
    have hB := hb1
    replace ha := ha.to hb1
    replace hb := hb.to hb1
    clear hb1
    go_wp2_with fail
    refine (deci_digits _ la _ ha (by omega)).mono ?_
    rintro e w2 ⟨rfl, hb2⟩
    replace hB := below_step hB hb2
    replace ha := ha.to hb2
    replace hb := hb.to hb2
    clear hb2
    rw [Hnn.out]
    go_wp2_with fail
    refine (times_pow _ [10] _ _ (lit1 w2 (by omega)) (by simp) Hpn.out).mono ?_
    rintro e w3 ⟨vp, rfl, hp, hb3⟩
    replace hB := below_step hB (below_new2 _ hb3)
    replace ha := (ha.alloc _).to hb3
    replace hb := (hb.alloc _).to hb3
    replace hp := hp.rd
    rw [Hpe.out] at hp
    clear hb3
    go_wp2_with fail
    refine (times_pow _ [10] _ _ (lit1 w3 (by omega)) (by simp) Hqn.out).mono ?_
    rintro e w4 ⟨vq, rfl, hq, hb4⟩
    replace hB := below_step hB (below_new2 _ hb4)
    replace ha := (ha.alloc _).to hb4
    replace hb := (hb.alloc _).to hb4
    replace hp := (hp.alloc _).to hb4
    replace hq := hq.rd
    rw [Hqe.out] at hq
    clear hb4
    go_wp2_with fail
    refine (nat_cmp _ _ la lb _ ha hb).mono ?_
    rintro e w5 ⟨rfl, hb5⟩
    replace hB := below_step hB hb5
    replace ha := ha.to hb5
    replace hb := hb.to hb5
    replace hp := hp.to hb5
    replace hq := hq.to hb5
    clear hb5
    go_wp2_with fail
    refine (deci_digits _ lb _ hb (by omega)).mono ?_
    rintro e w6 ⟨rfl, hb6⟩
    replace hB := below_step hB hb6
    replace ha := ha.to hb6
    replace hb := hb.to hb6
    replace hp := hp.to hb6
    replace hq := hq.to hb6
    clear hb6
    go_wp2_with fail
    refine (nat_cmp _ _ la _ _ ha hp).mono ?_
    rintro e w7 ⟨rfl, hb7⟩
    replace hB := below_step hB hb7
    replace ha := ha.to hb7
    replace hb := hb.to hb7
    replace hp := hp.to hb7
    replace hq := hq.to hb7
    clear hb7
    rw [cmpN_lt (show val la < val (limbs (10 ^ n)) by rw [val_limbs]; exact Hlt.out)]
    go_wp2_with fail
    refine (nat_cmp _ _ la _ _ ha hq).mono ?_
    rintro e w8 ⟨rfl, hb8⟩
    replace hB := below_step hB hb8
    replace ha := ha.to hb8
    replace hb := hb.to hb8
    replace hp := hp.to hb8
    replace hq := hq.to hb8
    clear hb8
    go_wp2_with fail
    go_ret
    exact ⟨by first | rfl | exact ret_bool (by first | (simp; done) | (simp; omega)), hB⟩
  · skip
    have hcc : ¬ cmpN (val la) (val lb) ≤ 0 := fun e => hle (cmpN_le.1 e)
    have hcd : decide (cmpN (val la) (val lb) ≤ 0) = false := by simpa using hcc
    have tz : decide (0 ≤ cmpN (val la) (val (limbs (10 ^ (n - 1))))) = false := by rw [val_limbs, h0]; have := Nat.pow_pos (n := n - 1) (show 0 < 10 by omega); rw [cmpN_lt this]; rfl
    have tzi : ¬ 0 ≤ cmpN (val la) (val (limbs (10 ^ (n - 1)))) := by simpa using tz
    have t1 : ((n : Int) == 1) = true := by have := Hnn.out; rw [h0] at this; have h2 : ndig 0 = 1 := rfl; rw [h2] at this; rw [← this]; rfl
    clear h0 hle
    go_enter Try.func7, Try.ntmps7
    go_wp2_with fail
    refine (awake6 _).mono ?_
    rintro e w1 ⟨rfl, hb1⟩
    have hB := hb1
    replace ha := ha.to hb1
    replace hb := hb.to hb1
    clear hb1
    go_wp2_with fail
    refine (deci_digits _ la _ ha (by omega)).mono ?_
    rintro e w2 ⟨rfl, hb2⟩
    replace hB := below_step hB hb2
    replace ha := ha.to hb2
    replace hb := hb.to hb2
    clear hb2
    rw [Hnn.out]
    go_wp2_with fail
    refine (times_pow _ [10] _ _ (lit1 w2 (by omega)) (by simp) Hpn.out).mono ?_
    rintro e w3 ⟨vp, rfl, hp, hb3⟩
    replace hB := below_step hB (below_new2 _ hb3)
    replace ha := (ha.alloc _).to hb3
    replace hb := (hb.alloc _).to hb3
    replace hp := hp.rd
    rw [Hpe.out] at hp
    clear hb3
    go_wp2_with fail
    refine (times_pow _ [10] _ _ (lit1 w3 (by omega)) (by simp) Hqn.out).mono ?_
    rintro e w4 ⟨vq, rfl, hq, hb4⟩
    replace hB := below_step hB (below_new2 _ hb4)
    replace ha := (ha.alloc _).to hb4
    replace hb := (hb.alloc _).to hb4
    replace hp := (hp.alloc _).to hb4
    replace hq := hq.rd
    rw [Hqe.out] at hq
    clear hb4
    go_wp2_with fail
    refine (nat_cmp _ _ la lb _ ha hb).mono ?_
    rintro e w5 ⟨rfl, hb5⟩
    replace hB := below_step hB hb5
    replace ha := ha.to hb5
    replace hb := hb.to hb5
    replace hp := hp.to hb5
    replace hq := hq.to hb5
    clear hb5
    go_wp2_with fail
    refine (nat_cmp _ _ la _ _ ha hp).mono ?_
    rintro e w6 ⟨rfl, hb6⟩
    replace hB := below_step hB hb6
    replace ha := ha.to hb6
    replace hb := hb.to hb6
    replace hp := hp.to hb6
    replace hq := hq.to hb6
    clear hb6
    rw [cmpN_lt (show val la < val (limbs (10 ^ n)) by rw [val_limbs]; exact Hlt.out)]
    go_wp2_with fail
    refine (nat_cmp _ _ la _ _ ha hq).mono ?_
    rintro e w7 ⟨rfl, hb7⟩
    replace hB := below_step hB hb7
    replace ha := ha.to hb7
    replace hb := hb.to hb7
    replace hp := hp.to hb7
    replace hq := hq.to hb7
    clear hb7
    go_wp2_with fail
    go_ret
    exact ⟨by first | rfl | exact ret_bool (by first | (simp; done) | (simp; omega)), hB⟩
  · skip
    have hcc : ¬ cmpN (val la) (val lb) ≤ 0 := fun e => hle (cmpN_le.1 e)
    have hcd : decide (cmpN (val la) (val lb) ≤ 0) = false := by simpa using hcc
    have tz : decide (0 ≤ cmpN (val la) (val (limbs (10 ^ (n - 1))))) = true := by rw [val_limbs]; have h := ndig_ge (Nat.ne_of_gt h0); rw [Hnn.out] at h; simpa using cmpN_ge.2 h
    have tzi : 0 ≤ cmpN (val la) (val (limbs (10 ^ (n - 1)))) := by simpa using tz
    clear h0 hle
    go_enter Try.func7, Try.ntmps7
    go_wp2_with fail
    refine (awake6 _).mono ?_
    rintro e w1 ⟨rfl, hb1⟩
    have hB := hb1
    replace ha := ha.to hb1
    replace hb := hb.to hb1
    clear hb1
    go_wp2_with fail
    refine (deci_digits _ la _ ha (by omega)).mono ?_
    rintro e w2 ⟨rfl, hb2⟩
    replace hB := below_step hB hb2
    replace ha := ha.to hb2
    replace hb := hb.to hb2
    clear hb2
    rw [Hnn.out]
    go_wp2_with fail
    refine (times_pow _ [10] _ _ (lit1 w2 (by omega)) (by simp) Hpn.out).mono ?_
    rintro e w3 ⟨vp, rfl, hp, hb3⟩
    replace hB := below_step hB (below_new2 _ hb3)
    replace ha := (ha.alloc _).to hb3
    replace hb := (hb.alloc _).to hb3
    replace hp := hp.rd
    rw [Hpe.out] at hp
    clear hb3
    go_wp2_with fail
    refine (times_pow _ [10] _ _ (lit1 w3 (by omega)) (by simp) Hqn.out).mono ?_
    rintro e w4 ⟨vq, rfl, hq, hb4⟩
    replace hB := below_step hB (below_new2 _ hb4)
    replace ha := (ha.alloc _).to hb4
    replace hb := (hb.alloc _).to hb4
    replace hp := (hp.alloc _).to hb4
    replace hq := hq.rd
    rw [Hqe.out] at hq
    clear hb4
    go_wp2_with fail
    refine (nat_cmp _ _ la lb _ ha hb).mono ?_
    rintro e w5 ⟨rfl, hb5⟩
    replace hB := below_step hB hb5
    replace ha := ha.to hb5
    replace hb := hb.to hb5
    replace hp := hp.to hb5
    replace hq := hq.to hb5
    clear hb5
    go_wp2_with fail
    refine (nat_cmp _ _ la _ _ ha hp).mono ?_
    rintro e w6 ⟨rfl, hb6⟩
    replace hB := below_step hB hb6
    replace ha := ha.to hb6
    replace hb := hb.to hb6
    replace hp := hp.to hb6
    replace hq := hq.to hb6
    clear hb6
    rw [cmpN_lt (show val la < val (limbs (10 ^ n)) by rw [val_limbs]; exact Hlt.out)]
    go_wp2_with fail
    refine (nat_cmp _ _ la _ _ ha hq).mono ?_
    rintro e w7 ⟨rfl, hb7⟩
    replace hB := below_step hB hb7
    replace ha := ha.to hb7
    replace hb := hb.to hb7
    replace hp := hp.to hb7
    replace hq := hq.to hb7
    clear hb7
    go_wp2_with fail
    go_ret
    exact ⟨by first | rfl | exact ret_bool (by first | (simp; done) | (simp; omega)), hB⟩

end Go.Proofs.Yteokdkcanckfeaa
