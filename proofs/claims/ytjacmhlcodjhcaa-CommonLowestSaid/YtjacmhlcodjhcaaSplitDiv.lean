/-
  The walk of split.Div.
-/
import Derived.Test.YtjacmhlcodjhcaaSplit
import Derived.Test.YtjacmhlcodjhcaaRef3b
namespace Go.Proofs.Ytjacmhlcodjhcaa
open Go.RowKit Tw
set_option linter.unusedVariables false
set_option linter.unusedSimpArgs false

theorem val_two' : val [2] = 2 := by decide

theorem ddiv_step {base g n j D : Nat} {w : World} {Z la : List Nat} (hz : Own base w (.slice (some ⟨g, 0, none⟩) n n) Z) (hzl : Z.length = n) (hj : j < n) (hll : la.length = n) (hla : Small la)
    (hD : 0 < D) (hv : val (Z.drop (j + 1)) = val (la.drop (j + 1)) / D) :
    Hid (∃ Z', Own base (w.setCell ⟨g, j, none⟩ (.int .u32 (((nth la j + B * (val (la.drop (j + 1)) % D)) / D : Nat) : Int))) (.slice (some ⟨g, 0, none⟩) n n) Z' ∧ Z'.length = n ∧ val (Z'.drop j) = val (la.drop j) / D) := by
  have hq : (nth la j + B * (val (la.drop (j + 1)) % D)) / D < B := digit_lt (hla.nth j) (Nat.mod_lt _ hD)
  exact ⟨Z.set j ((nth la j + B * (val (la.drop (j + 1)) % D)) / D), own_store hz _ _ hq, by simpa using hzl, word_div hD (by omega) (by omega) hv⟩

set_option maxHeartbeats 400000 in
theorem split_div_no (va vb : Value) (la lb : List Nat) (w : World) (ha : Rd w va la) (hb : Rd w vb lb) (hlb : lb.length ≤ 100000) (hD : val lb = 0) :
    Calls Try.prog 16 #[va, vb] w fun e w' => e = .returned (.tuple #[.slice none 0 0, .slice none 0 0, .bool false]) ∧ Below w.heap.size w w' := by
  have HD := Lib.hid (show limbs (val lb) = [] by rw [hD]; rfl)
  clear hD
  go_enter Try.func16, Try.ntmps16
  go_wp2_with fail
  refine (nat_trim _ _ _ hb (by omega)).mono ?_
  rintro e w1 ⟨v1, rfl, hv1, hb1⟩
  rw [HD.out] at hv1
  obtain ⟨ab, capb, rfl⟩ := hv1.rd.shape
  go_wp2_with fail
  go_ret3
  exact ⟨rfl, hb1⟩

theorem pow_two_le {s : Nat} (h : s ≤ 31) : 2 ^ s ≤ 2147483648 := Nat.pow_le_pow_right (n := 2) (by omega) h

theorem own1_any (w : World) {x base : Nat} (hx : x < 4294967296) (hb : base ≤ w.heap.size) : Own base (w.alloc (.cells #[.int .u32 (x : Int)] 23)) (.slice (some ⟨w.heap.size, 0, none⟩) 1 1) [x] :=
  (own_lit w [x] (small1 hx) (by simp [maxLen])).mono hb

theorem Own.setOther {base : Nat} {w : World} {v : Value} {l : List Nat} (h : Own base w v l) {p : Addr} (hp : p.block < base) (x : Value) : Own base (w.setCell p x) v l := by
  refine ⟨h.1, h.2.1, ?_⟩
  rcases h.2.2 with h2 | ⟨g, cap, cur, hv, hg, hh, r⟩
  · exact .inl h2
  · exact .inr ⟨g, cap, cur, hv, hg, by rw [Below.heap_setCell w p x g (by omega)]; exact hh, r⟩

set_option maxRecDepth 100000 in
set_option maxHeartbeats 4000000 in
theorem split_div (va vb : Value) (la lb : List Nat) (w : World) (ha : Rd w va la) (hb : Rd w vb lb) (hla : la.length ≤ 90000) (hlb : lb.length ≤ 90000) (hD : 0 < val lb) :
    Calls Try.prog 16 #[va, vb] w (GivesTwo w (limbs (val la / val lb)) (limbs (val la % val lb))) := by
  obtain ⟨m, hm⟩ := sz_succ hD
  have hm1 : m < 90000 := by have := sz_val hb.1; omega
  have Hm := Lib.hid hm
  have ht := (limbs_small (val lb)).nth m
  have ht0 := (nth_top hD hm).1
  simp only [B_eq] at ht
  obtain ⟨c, hc⟩ : ∃ c, nbits (nth (limbs (val lb)) m) = c := ⟨_, rfl⟩
  have hc1 : c ≤ 32 := by rw [← hc]; exact nbits_le.2 (by omega)
  have hc0 : 1 ≤ c := by
    have h1 : nbits (nth (limbs (val lb)) m) ≠ 0 := fun e => by have := nbits_eq_zero.1 e; omega
    omega
  have Hc := Lib.hid (show nbits ((nth (limbs (val lb)) m : Int)).toNat = c by rw [Int.toNat_natCast]; exact hc)
  obtain ⟨s, hs⟩ : ∃ s, s = 32 - c := ⟨_, rfl⟩
  have hs31 : s ≤ 31 := by omega
  have Hs := Lib.hid (show (max 0 (min ((32 : Int) - c) 100000)).toNat = s by omega)
  have Hs2 := Lib.hid (show ((32 : Int) - c).toNat = s by omega)
  have hp0 : 0 < 2 ^ s := Nat.pow_pos (by omega)
  have hp1 := pow_two_le hs31
  have Hpn := Lib.hid (show ¬ powNo (val [2]) ((32 : Int) - c) by
    rintro (h | ⟨_, h⟩)
    · omega
    · have h2 : (4096 / sz (val [2]) : Nat) = 4096 := by decide +kernel
      rw [h2] at h; omega)
  have hsA : sz (val la * 2 ^ s) ≤ 90001 := by
    have h1 := sz_mul (val la) (2 ^ s)
    have h2 := sz_val ha.1
    have h3 := sz_word (n := 2 ^ s) (by omega)
    omega
  have hsD : sz (val lb * 2 ^ s) ≤ 90001 := by
    have h1 := sz_mul (val lb) (2 ^ s)
    have h2 := sz_val hb.1
    have h3 := sz_word (n := 2 ^ s) (by omega)
    omega
  have hDD : 0 < val lb * 2 ^ s := Nat.mul_pos hD hp0
  have Hfq := Lib.hid (show val la * 2 ^ s / (val lb * 2 ^ s) = val la / val lb from shifted_div hp0)
  have Hfr := Lib.hid (show val la * 2 ^ s % (val lb * 2 ^ s) / 2 ^ s = val la % val lb from shifted_mod hp0)
  clear hm hc hs
  go_enter Try.func16, Try.ntmps16
  go_wp2_with fail
  refine (nat_trim _ _ _ hb (by omega)).mono ?_
  rintro e w1 ⟨v1, rfl, hv1, hb1⟩
  obtain ⟨ab, nb, capb, rfl, Hnb, hnb0⟩ := hv1.rd.open
  have hnb : nb = m + 1 := by have := Hnb.out; rw [sz_def] at this; have := Hm.out; omega
  have hnbp : 0 < nb := by omega
  have hnbz : ((nb : Int) == 0) = false := by simp; omega
  have hnbi : (nb : Int) - 1 = (m : Int) := by omega
  have Hnbi := Lib.hid hnbi
  have hnb1 : nb ≤ 90001 := by omega
  clear hnb
  obtain ⟨bb, ob, rfl, hcb⟩ := hv1.rd.cells (by rw [Hnb.out]; omega)
  have hcb2 := hcb m (by rw [Hnb.out]; omega)
  clear hcb
  go_wp2_with fail
  refine (limb_bits _ _ (by omega) (by omega)).mono ?_
  rintro e w' ⟨rfl, rfl⟩
  rw [Hc.out]
  go_wp2_with fail
  refine (times_shift _ la _ _ (ha.to hb1) (by omega)).mono ?_
  rintro e w2 ⟨va2, rfl, hA, hb2⟩
  rw [Hs.out] at hA
  go_wp2_with fail
  refine (times_shift _ _ _ _ (hv1.rd.to hb2) (by rw [Hnb.out]; omega)).mono ?_
  rintro e w3 ⟨vb2, rfl, hBB, hb3⟩
  rw [Hs.out, val_limbs] at hBB
  have hA3 := hA.rd.to hb3
  have hB3 := hBB.rd
  have hbw3 := below_step (below_step hb1 hb2) hb3
  have hs3 := hbw3.size
  clear hcb2
  obtain ⟨aa, na, capa, rfl, Hna, hna0⟩ := hA3.open
  have hna : na ≤ 90001 := by have := Hna.out; rw [sz_def] at this; omega
  go_wp2_with (at_make; refine wp_make _ rfl _ _ rfl _ _ _ _ na rfl rfl rfl rfl (by omega) ?_; intro w4 hown4 hb4 hs4)
  go_loopw [5, 8] (fun r i ww => ∃ (k : Nat), k ≤ na ∧ i = .int .i64 ((k : Int) - 1) ∧ Own w.heap.size ww r (limbs (val ((limbs (val la * 2 ^ s)).drop k) % (val lb * 2 ^ s))) ∧ Below w3.heap.size w3 ww ∧
      Hid (∃ Z, Own w.heap.size ww (.slice (some ⟨w3.heap.size, 0, none⟩) na na) Z ∧ Z.length = na ∧ val (Z.drop k) = val ((limbs (val la * 2 ^ s)).drop k) / (val lb * 2 ^ s))) (fun _ i _ => (intOf i + 1).toNat)
  case atStart =>
    refine ⟨na, Nat.le_refl _, rfl, ?_, hb4, List.replicate na 0, hown4.mono hs3, by simp, ?_⟩
    · rw [drop_all (by rw [Hna.out]; exact Nat.le_refl _), Nat.zero_mod, limbs_zero]; exact Own.nil _ _
    · rw [drop_all (by simp), drop_all (by rw [Hna.out]; exact Nat.le_refl _)]; simp
  case round =>
    obtain ⟨k, hk, rfl, hr, hbw, HZ⟩ := hrel
    have hsw := Nat.le_trans hs3 hbw.size
    obtain ⟨Z, hz, hzl, hzv⟩ := HZ.out
    have Hzl := Lib.hid hzl
    have Hzv := Lib.hid hzv
    clear HZ hzl hzv
    have hA5 := hA3.to hbw
    have hB5 := hB3.to hbw
    rcases Nat.eq_zero_or_pos k with rfl | hpos
    · have Hv := Lib.hid (show val Z = val la / val lb by
        have h := Hzv.out
        rw [List.drop_zero, List.drop_zero, val_limbs, Hfq.out] at h; exact h)
      rw [List.drop_zero, val_limbs] at hr
      have Hpw := Lib.hid (show limbs (val [2] ^ ((32 : Int) - c).toNat) = [2 ^ s] by rw [Hs2.out, val_two', limbs_word (by omega) (by omega)])
      have hbz := below_step hbw3 hbw
      go_wp2_with fail
      refine (times_pow _ [2] _ _ (lit1' wr rfl (by omega)) (by simp) Hpn.out).mono ?_
      rintro e w5 ⟨vp, rfl, hp, hb5⟩
      rw [Hpw.out] at hp
      have hb5' := below_step (below_new _ _) hb5
      obtain ⟨bp, op, cp, hvp, hcp⟩ := hp.rd.cells' (by simp)
      subst hvp
      have hcp0 := hcp 0 (by simp)
      simp only [nth_def, List.getD_cons_zero, Nat.add_zero] at hcp0
      clear hcp
      go_wp2_with fail
      refine (split_small _ _ _ _ (hr.rd.to hb5') (by rw [sz_def]; have := sz_mod (val la * 2 ^ s) (val lb * 2 ^ s); omega) (by omega) (by omega)).mono ?_
      rintro e w6 ⟨vr, rfl, hr6, hb6⟩
      rw [val_limbs, Int.toNat_natCast, Hfr.out] at hr6
      have hb6' := below_step hb5' hb6
      go_wp2_with fail
      refine (nat_trim _ _ _ (hz.rd.to hb6') (by rw [Hzl.out]; omega)).mono ?_
      rintro e w7 ⟨vq, rfl, hq7, hb7⟩
      rw [Hv.out] at hq7
      have hb7' := below_step hb6' hb7
      go_wp2_with fail
      go_ret3
      exact ⟨vq, vr, rfl, hq7.mono (by have := hb6'.size; omega), (hr6.mono (by have := hb5'.size; omega)).to hb7, below_step hbz hb7'⟩
    · obtain ⟨j, rfl⟩ : ∃ j, k = j + 1 := ⟨k - 1, by omega⟩
      obtain ⟨b, o, rfl, hcell⟩ := hA5.cells (by rw [Hna.out]; omega)
      have hck := hcell j (by rw [Hna.out]; omega)
      have hx := (limbs_small (val la * 2 ^ s)).nth j
      simp only [B_eq] at hx
      clear hcell
      obtain ⟨R, hR⟩ : ∃ R, val ((limbs (val la * 2 ^ s)).drop (j + 1)) % (val lb * 2 ^ s) = R := ⟨_, rfl⟩
      have HR := Lib.hid hR
      have Hmod := Lib.hid (show val ((limbs (val la * 2 ^ s)).drop j) % (val lb * 2 ^ s) = (nth (limbs (val la * 2 ^ s)) j + B * R) % (val lb * 2 ^ s) by
        rw [word_mod (by rw [Hna.out]; omega), hR])
      have hRlt : R < val lb * 2 ^ s := by rw [← hR]; exact Nat.mod_lt _ hDD
      rw [hR] at hr
      have hsR : sz R ≤ 90001 := Nat.le_trans (sz_mono (Nat.le_of_lt hRlt)) hsD
      clear hR
      have Hcat := Lib.hid (show val ([nth (limbs (val la * 2 ^ s)) j] ++ limbs R) = nth (limbs (val la * 2 ^ s)) j + B * R by
        rw [List.singleton_append, val_cons, val_limbs])
      have hlt2 := rest_lt (x := nth (limbs (val la * 2 ^ s)) j) (by rw [B_eq]; exact hx) hRlt
      have hs22 : sz (nth (limbs (val la * 2 ^ s)) j + B * R) ≤ 90002 := by
        have h1 := sz_mono (Nat.le_of_lt hlt2)
        have h2 := sz_mul B (val lb * 2 ^ s)
        have h3 : sz B = 2 := by decide +kernel
        have h4 := guess_top hDD rfl hlt2
        omega
      have Hlt2 := Lib.hid hlt2
      clear hlt2
      go_wp2_with (at_builtin; refine wp_append _ rfl (.tmp 47) (.tmp 48) rfl wr.heap.size _ _ [nth (limbs (val la * 2 ^ s)) j] (limbs R) rfl rfl (own1_any wr hx (Nat.le_refl _)) (hr.rd.alloc _) (by simp) (by simp; rw [sz_def]; omega) ?_; intro v5 w5 hown5 hb5 hs5)
      have hb5' : Below wr.heap.size wr w5 := (below_new wr _).trans hb5
      refine (nat_trim _ _ _ hown5.rd (by simp; rw [sz_def]; omega)).mono ?_
      rintro e w6 ⟨v6, rfl, hv6, hb6⟩
      rw [Hcat.out] at hv6
      have hb6' := below_step hb5' hb6
      go_wp2_with fail
      refine (split_digit _ _ (nth (limbs (val la * 2 ^ s)) j + B * R) (val lb * 2 ^ s) _ hv6.rd (hB5.to hb6') hDD Hlt2.out (by omega) (by omega)).mono ?_
      rintro e w7 ⟨v7, rfl, hv7, hb7⟩
      have hb7' := below_step hb6' hb7
      have hz7 := hz.to hb7'
      obtain ⟨q1, q2⟩ := own_cell2 hz7 (show j < Z.length by rw [Hzl.out]; omega)
      have hstep := ddiv_step hz7 Hzl.out (by omega) Hna.out (limbs_small _) hDD Hzv.out
      rw [HR.out] at hstep
      have hzlt := (hz.lt w3.heap.size rfl).2
      have hs6 := hb6'.size
      clear hck
      go_wp2_with fail
      go_roundw
      case rel => exact ⟨j, by omega, by go_num, by rw [Hmod.out]; exact (hv7.setOther (by show w3.heap.size < _; omega) _).mono (by omega), (hbw.trans (hb7'.mono hbw.size)).setCell (Nat.le_refl _) _, hstep⟩
      case measure => simp [intOf]

end Go.Proofs.Ytjacmhlcodjhcaa
