/-
  The texts Ref3, Ref3b, SplitDiv, Whole, SplitRoot, Ref4, Ref5, merged.
-/
import Derived.Test.YtkjcdnlpjldhaaaGreatG05
import Derived.Deep.RegionLaw
import Derived.Deep.OwnRows
import Derived.Test.YtkjcdnlpjldhaaaGreatG01
namespace Go.Proofs.YtkjcdnlpjldhaaaGreat
open Go.RowKit Tw
set_option linter.unusedVariables false
set_option linter.unusedSimpArgs false

theorem rone_step {X la : List Nat} {k c wd C x s q : Nat} (hX : X.length = k) (hv : val X + B ^ k * c = val (la.take k) * wd + C) (hx : nth la k * wd + c = x) (hs : x % 4294967296 = s) (hq : x / 4294967296 = q) :
    val (X ++ [s]) + B ^ (k + 1) * q = val (la.take (k + 1)) * wd + C := by
  rw [val_snoc, hX, val_take_succ']
  have h := line_math (S := val X) (Sz := 0) (A := val (la.take k)) (k := k) (c := c) (x := nth la k) (z := 0) (w := wd) (q := q) (s := s) (o := C) (by rw [Nat.zero_add]; exact hv) (by rw [Nat.add_zero, hx]; exact hq) (by rw [Nat.add_zero, hx]; exact hs)
  rw [Nat.mul_zero, Nat.zero_add] at h
  exact h

set_option maxHeartbeats 1000000 in
theorem ref3_one (va : Value) (la : List Nat) (wd c : Int) (w : World) (ha : Rd w va la) (hla : la.length ≤ 1000000) (wd0 : 0 ≤ wd) (wd1 : wd < 4294967296) (c0 : 0 ≤ c) (c1 : c < 4294967296) :
    Calls Tryz.prog 128 #[va, .int .u32 wd, .int .u32 c] w (Gives w (limbs (val la * wd.toNat + c.toNat))) := by
  obtain ⟨wd, rfl⟩ := Int.eq_ofNat_of_zero_le wd0
  obtain ⟨C, rfl⟩ := Int.eq_ofNat_of_zero_le c0
  simp only [Int.toNat_natCast]
  obtain ⟨aa, na, capa, rfl, Hna, _⟩ := ha.open
  have hna : na ≤ 1000000 := by have := Hna.out; omega
  go_enter Tryz.func128, Tryz.ntmps128
  go_wp2_with fail
  go_loopw [7, 8, 9, 10] (fun v c i _ ww => ∃ (k cc : Nat) (X : List Nat), k ≤ na ∧ cc < 4294967296 ∧ i = .int .i64 k ∧ c = .int .u64 cc ∧ Own w.heap.size ww v X ∧ Below w.heap.size w ww ∧ Hid (X.length = k) ∧
      Hid (val X + B ^ k * cc = val (la.take k) * wd + C)) (fun _ _ i _ _ => na - (intOf i).toNat)
  case atStart => exact ⟨0, C, [], by omega, by omega, rfl, rfl, Own.nil _ _, Below.refl _ _, rfl, by unfold Hid; simp [val]⟩
  case round =>
    obtain ⟨k, c, X, hk, hc, rfl, rfl, hown, hbw, HX, HV⟩ := hrel
    have hlx : X.length ≤ 1000001 := by have := HX.out; omega
    by_cases hkn : k < na
    · obtain ⟨b, o, rfl, hcell⟩ := (ha.to hbw).cells (by rw [Hna.out]; omega)
      have hck := hcell k (by rw [Hna.out]; omega)
      have hx := ha.1.nth k
      simp only [B_eq] at hx
      clear hcell
      have hm : nth la k * wd ≤ 4294967295 * 4294967295 := Nat.mul_le_mul (by omega) (by omega)
      have hm2 : (nth la k : Int) * wd ≤ 4294967295 * 4294967295 := Int.mul_le_mul (by omega) (by omega) (by omega) (by omega)
      have hm3 : 0 ≤ (nth la k : Int) * wd := Int.mul_nonneg (by omega) (by omega)
      have E := Lib.hid (show (nth la k : Int) * wd + c = ((nth la k * wd + c : Nat) : Int) by push_cast; rfl)
      have hst := Lib.hid (rone_step HX.out HV.out rfl rfl rfl)
      have Hq := Lib.hid (show ((nth la k : Int) * wd + c) / 4294967296 = (((nth la k * wd + c) / 4294967296 : Nat) : Int) by rw [E.out]; omega)
      have Hs := Lib.hid (show ((nth la k : Int) * wd + c) % 4294967296 = (((nth la k * wd + c) % 4294967296 : Nat) : Int) by rw [E.out]; omega)
      have hq1 : (nth la k * wd + c) / 4294967296 < 4294967296 := by omega
      have Hsl := Lib.hid (show (nth la k * wd + c) % 4294967296 < 4294967296 by omega)
      generalize (nth la k * wd + c) / 4294967296 = q at *
      generalize (nth la k * wd + c) % 4294967296 = s at *
      have hrd : Rd (wr.alloc (.cells #[.int .u32 (((nth la k : Int) * wd + c) % 4294967296)] 97)) (.slice (some ⟨wr.heap.size, 0, none⟩) 1 1) [s] := by
        rw [Hs.out]
        exact (own_lit_at wr _ [s] rfl (small1 Hsl.out) (by simp [maxLen])).rd
      have Hrd := Lib.hid hrd
      clear hrd hm
      go_wp2_with (at_builtin; refine wp_append _ rfl (.tmp 29) (.tmp 33) rfl w.heap.size _ _ X [s] rfl rfl (hown.alloc _) Hrd.out (by have := hbw.size; simp; omega) (by simp; omega) ?_; intro v2 w2 hown2 hb2 hs2)
      go_roundw
      case rel => exact ⟨k + 1, q, X ++ [s], by omega, hq1, by go_num, int_eq Hq.out, hown2, (hbw.alloc hbw.size _).trans hb2, by unfold Hid; rw [List.length_append, HX.out]; rfl, hst⟩
      case measure => simp [intOf]; omega
    · have hkn2 : k = na := by omega
      subst hkn2
      have Hv := Lib.hid (show val (X ++ [c]) = val la * wd + C by
        have h1 := HV.out
        rw [val_take_all (l := la) (by rw [Hna.out]; exact Nat.le_refl _)] at h1
        rw [val_snoc, HX.out]; exact h1)
      go_wp2_with (at_builtin; refine wp_append _ rfl (.tmp 37) (.tmp 40) rfl w.heap.size _ _ X [c] rfl rfl (hown.alloc _) (own_lit_at wr _ [c] rfl (small1 hc) (by simp [maxLen])).rd (by have := hbw.size; simp; omega) (by simp; omega) ?_; intro v2 w2 hown2 hb2 hs2)
      refine (ref2_trim _ _ _ hown2.rd (by simp; omega)).mono ?_
      rintro e w3 ⟨v, rfl, hv, hb3⟩
      go_wp2_with fail
      go_ret
      exact ⟨_, rfl, by rw [← Hv.out]; exact hv.mono hs2, ((hbw.alloc hbw.size _).trans hb2).trans (hb3.mono hs2)⟩

end Go.Proofs.YtkjcdnlpjldhaaaGreat


namespace Go.Proofs.YtkjcdnlpjldhaaaGreat
open Go.RowKit Tw
set_option linter.unusedVariables false
set_option linter.unusedSimpArgs false

theorem lit1' (w : World) {n a : Nat} (hn : n = w.heap.size) (ha : a < 4294967296) : Rd (w.alloc (.cells #[u32v a] 97)) (.slice (some ⟨n, 0, none⟩) 1 1) [a] := by
  subst hn; exact (own_lit w [a] (small1 ha) (by simp [maxLen])).rd

theorem sz_two_pow (j : Nat) : sz (2 ^ j) ≤ j + 1 := by
  apply sz_le
  exact Nat.lt_of_lt_of_le (Nat.pow_lt_pow_right (by omega) (Nat.lt_succ_self j)) (Nat.pow_le_pow_left B_two _)

set_option maxRecDepth 100000 in
set_option maxHeartbeats 1000000 in
theorem ref3_shift (va : Value) (la : List Nat) (k : Int) (w : World) (ha : Rd w va la) (hla : la.length ≤ 100000) (hk : k ≤ 100000) :
    Calls Tryz.prog 130 #[va, .int .i64 k] w (Gives w (limbs (val la * 2 ^ k.toNat))) := by
  have hsl := sz_val ha.1
  obtain ⟨K, hK, hK1⟩ : ∃ K : Nat, k.toNat = K ∧ (K : Int) ≤ 100000 := ⟨k.toNat, rfl, by omega⟩
  have hkK : k ≤ K := by omega
  have hKk : K = 0 ∨ (K : Int) ≤ k := by omega
  rw [hK]
  clear hK
  by_cases hz : val la = 0
  · have Hfin := Lib.hid (show limbs (val la * 2 ^ K) = [] by rw [hz, Nat.zero_mul]; rfl)
    have Hl0 := Lib.hid (show limbs (val la) = [] by rw [hz]; rfl)
    clear hz
    go_enter Tryz.func130, Tryz.ntmps130
    go_wp2_with fail
    refine (ref2_trim _ la _ ha (by omega)).mono ?_
    rintro e w1 ⟨t, rfl, ht, hb1⟩
    rw [Hl0.out] at ht
    obtain ⟨at1, nt, ct, rfl, Hnt, _⟩ := ht.rd.open
    obtain rfl : nt = 0 := Hnt.out.symm
    go_wp2_with fail
    go_loop [5, 6] (fun v i => v = .slice at1 0 ct ∧ i = .int .i64 0) (fun _ _ => 0)
    case atStart => exact ⟨rfl, rfl⟩
    case round =>
      obtain ⟨rfl, rfl⟩ := hrel
      by_cases hk0 : 0 < k
      · go_wp2_with fail
        go_ret
        exact ⟨_, rfl, by rw [Hfin.out]; exact ht, hb1⟩
      · go_wp2_with fail
        go_ret
        exact ⟨_, rfl, by rw [Hfin.out]; exact ht, hb1⟩
  · have Hz := Lib.hid hz
    clear hz
    go_enter Tryz.func130, Tryz.ntmps130
    go_wp2_with fail
    refine (ref2_trim _ la _ ha (by omega)).mono ?_
    rintro e w1 ⟨t, rfl, ht, hb1⟩
    go_wp2_with fail
    go_loopw [5, 6] (fun v i ww => ∃ j : Nat, j ≤ K ∧ i = .int .i64 j ∧ Own w.heap.size ww v (limbs (val la * 2 ^ j)) ∧ Below w.heap.size w ww) (fun _ i _ => K - (intOf i).toNat)
    case atStart => exact ⟨0, by omega, rfl, by rw [Nat.pow_zero, Nat.mul_one]; exact ht, hb1⟩
    case round =>
      obtain ⟨j, hj, rfl, hown, hbw⟩ := hrel
      by_cases hjk : (j : Int) < k
      · have hne : val la * 2 ^ j ≠ 0 := Nat.mul_ne_zero Hz.out (Nat.ne_of_gt (Nat.pow_pos (by omega)))
        have hs0 : sz (val la * 2 ^ j) ≠ 0 := fun e => hne (sz_eq_zero.1 e)
        have hs1 := sz_mul (val la) (2 ^ j)
        have hs2 := sz_two_pow j
        obtain ⟨a1, n1, c1, rfl, Hn1, _⟩ := hown.rd.open
        have hn1 : 0 < n1 := by have := Hn1.out; rw [sz_def] at this; omega
        have Hp := Lib.hid (show val (limbs (val la * 2 ^ j)) * (2 : Int).toNat + (0 : Int).toNat = val la * 2 ^ (j + 1) by
          rw [val_limbs, Int.toNat_zero, Nat.add_zero, Nat.pow_succ, Nat.mul_assoc]; rfl)
        have hjl : decide ((j : Int) < 100000) = true := decide_eq_true (by omega)
        have hjl2 : (j : Int) < 100000 := by omega
        clear hne hs0
        go_wp2_with fail
        refine (ref3_one _ _ _ _ _ hown.rd (by show sz _ ≤ _; omega) (by omega) (by omega) (by omega) (by omega)).mono ?_
        rintro e w2 ⟨v2, rfl, hv2, hb2⟩
        rw [Hp.out] at hv2
        go_wp2_with fail
        go_roundw
        case rel => exact ⟨j + 1, by omega, by go_num, hv2.mono hbw.size, hbw.trans (hb2.mono hbw.size)⟩
        case measure => simp [intOf]; omega
      · obtain rfl : j = K := by omega
        go_wp2_with fail
        go_ret
        exact ⟨_, rfl, hown, hbw⟩

end Go.Proofs.YtkjcdnlpjldhaaaGreat


namespace Go.Proofs.YtkjcdnlpjldhaaaGreat
open Go.RowKit Tw
set_option linter.unusedVariables false
set_option linter.unusedSimpArgs false

theorem val_two' : val [2] = 2 := by decide

theorem ddiv_step {base g n j D : Nat} {w : World} {Z la : List Nat} (hz : Own base w (.slice (some ⟨g, 0, none⟩) n n) Z) (hzl : Z.length = n) (hj : j < n) (hll : la.length = n) (hla : Small la)
    (hD : 0 < D) (hv : val (Z.drop (j + 1)) = val (la.drop (j + 1)) / D) :
    Hid (∃ Z', Own base (w.setCell ⟨g, j, none⟩ (.int .u32 (((nth la j + B * (val (la.drop (j + 1)) % D)) / D : Nat) : Int))) (.slice (some ⟨g, 0, none⟩) n n) Z' ∧ Z'.length = n ∧ val (Z'.drop j) = val (la.drop j) / D) := by
  have hq : (nth la j + B * (val (la.drop (j + 1)) % D)) / D < B := digit_lt (hla.nth j) (Nat.mod_lt _ hD)
  exact ⟨Z.set j ((nth la j + B * (val (la.drop (j + 1)) % D)) / D), own_store hz _ _ hq, by simpa using hzl, word_div hD (by omega) (by omega) hv⟩

theorem pow_two_le {s : Nat} (h : s ≤ 31) : 2 ^ s ≤ 2147483648 := Nat.pow_le_pow_right (n := 2) (by omega) h

theorem own1_any (w : World) {x base : Nat} (hx : x < 4294967296) (hb : base ≤ w.heap.size) : Own base (w.alloc (.cells #[.int .u32 (x : Int)] 97)) (.slice (some ⟨w.heap.size, 0, none⟩) 1 1) [x] :=
  (own_lit w [x] (small1 hx) (by simp [maxLen])).mono hb

theorem Own.setOther {base : Nat} {w : World} {v : Value} {l : List Nat} (h : Own base w v l) {p : Addr} (hp : p.block < base) (x : Value) : Own base (w.setCell p x) v l := by
  refine ⟨h.1, h.2.1, ?_⟩
  rcases h.2.2 with h2 | ⟨g, cap, cur, hv, hg, hh, r⟩
  · exact .inl h2
  · exact .inr ⟨g, cap, cur, hv, hg, by rw [Below.heap_setCell w p x g (by omega)]; exact hh, r⟩

set_option maxRecDepth 100000 in
set_option maxHeartbeats 4000000 in
theorem split_div (va vb : Value) (la lb : List Nat) (w : World) (ha : Rd w va la) (hb : Rd w vb lb) (hla : la.length ≤ 90000) (hlb : lb.length ≤ 90000) (hD : 0 < val lb) :
    Calls Tryz.prog 115 #[va, vb] w (GivesTwo w (limbs (val la / val lb)) (limbs (val la % val lb))) := by
  obtain ⟨m, hm⟩ := sz_succ hD
  have hm1 : m < 90000 := by have := sz_val hb.1; omega
  have Hm := Lib.hid hm
  have ht := (limbs_small (val lb)).nth m
  have ht0 := (nth_top hD hm).1
  simp only [B_eq] at ht
  obtain ⟨c, hc⟩ : ∃ c, nbits (nth (limbs (val lb)) m) = c := ⟨_, rfl⟩
  have hc1 : c ≤ 32 := by rw [← hc]; exact nbits_le.2 (by omega)
  have hc0 : 1 ≤ c := by
    have h1 : nbits (nth (limbs (val lb)) m) ≠ 0 := fun e => by have := nbits_eq_zero.1 e; omega
    omega
  have Hc := Lib.hid (show nbits ((nth (limbs (val lb)) m : Int)).toNat = c by rw [Int.toNat_natCast]; exact hc)
  obtain ⟨s, hs⟩ : ∃ s, s = 32 - c := ⟨_, rfl⟩
  have hs31 : s ≤ 31 := by omega
  have Hs := Lib.hid (show (max 0 (min ((32 : Int) - c) 100000)).toNat = s by omega)
  have Hs2 := Lib.hid (show ((32 : Int) - c).toNat = s by omega)
  have hp0 : 0 < 2 ^ s := Nat.pow_pos (by omega)
  have hp1 := pow_two_le hs31
  have Hpn := Lib.hid (show ¬ powNo (val [2]) ((32 : Int) - c) by
    rintro (h | ⟨_, h⟩)
    · omega
    · have h2 : (4096 / sz (val [2]) : Nat) = 4096 := by decide +kernel
      rw [h2] at h; omega)
  have hsA : sz (val la * 2 ^ s) ≤ 90001 := by
    have h1 := sz_mul (val la) (2 ^ s)
    have h2 := sz_val ha.1
    have h3 := sz_word (n := 2 ^ s) (by omega)
    omega
  have hsD : sz (val lb * 2 ^ s) ≤ 90001 := by
    have h1 := sz_mul (val lb) (2 ^ s)
    have h2 := sz_val hb.1
    have h3 := sz_word (n := 2 ^ s) (by omega)
    omega
  have hDD : 0 < val lb * 2 ^ s := Nat.mul_pos hD hp0
  have Hfq := Lib.hid (show val la * 2 ^ s / (val lb * 2 ^ s) = val la / val lb from shifted_div hp0)
  have Hfr := Lib.hid (show val la * 2 ^ s % (val lb * 2 ^ s) / 2 ^ s = val la % val lb from shifted_mod hp0)
  clear hm hc hs
  go_enter Tryz.func115, Tryz.ntmps115
  go_wp2_with fail
  refine (nat_trim _ _ _ hb (by omega)).mono ?_
  rintro e w1 ⟨v1, rfl, hv1, hb1⟩
  obtain ⟨ab, nb, capb, rfl, Hnb, hnb0⟩ := hv1.rd.open
  have hnb : nb = m + 1 := by have := Hnb.out; rw [sz_def] at this; have := Hm.out; omega
  have hnbp : 0 < nb := by omega
  have hnbz : ((nb : Int) == 0) = false := by simp; omega
  have hnbi : (nb : Int) - 1 = (m : Int) := by omega
  have Hnbi := Lib.hid hnbi
  have hnb1 : nb ≤ 90001 := by omega
  clear hnb
  obtain ⟨bb, ob, rfl, hcb⟩ := hv1.rd.cells (by rw [Hnb.out]; omega)
  have hcb2 := hcb m (by rw [Hnb.out]; omega)
  clear hcb
  go_wp2_with fail
  refine (limb_bits _ _ (by omega) (by omega)).mono ?_
  rintro e w' ⟨rfl, rfl⟩
  rw [Hc.out]
  go_wp2_with fail
  refine (times_shift _ la _ _ (ha.to hb1) (by omega)).mono ?_
  rintro e w2 ⟨va2, rfl, hA, hb2⟩
  rw [Hs.out] at hA
  go_wp2_with fail
  refine (times_shift _ _ _ _ (hv1.rd.to hb2) (by rw [Hnb.out]; omega)).mono ?_
  rintro e w3 ⟨vb2, rfl, hBB, hb3⟩
  rw [Hs.out, val_limbs] at hBB
  have hA3 := hA.rd.to hb3
  have hB3 := hBB.rd
  have hbw3 := below_step (below_step hb1 hb2) hb3
  have hs3 := hbw3.size
  clear hcb2
  obtain ⟨aa, na, capa, rfl, Hna, hna0⟩ := hA3.open
  have hna : na ≤ 90001 := by have := Hna.out; rw [sz_def] at this; omega
  go_wp2_with (at_make; refine wp_make _ rfl _ _ rfl _ _ _ _ na rfl rfl rfl rfl (by omega) ?_; intro w4 hown4 hb4 hs4)
  go_loopw [5, 8] (fun r i ww => ∃ (k : Nat), k ≤ na ∧ i = .int .i64 ((k : Int) - 1) ∧ Own w.heap.size ww r (limbs (val ((limbs (val la * 2 ^ s)).drop k) % (val lb * 2 ^ s))) ∧ Below w3.heap.size w3 ww ∧
      Hid (∃ Z, Own w.heap.size ww (.slice (some ⟨w3.heap.size, 0, none⟩) na na) Z ∧ Z.length = na ∧ val (Z.drop k) = val ((limbs (val la * 2 ^ s)).drop k) / (val lb * 2 ^ s))) (fun _ i _ => (intOf i + 1).toNat)
  case atStart =>
    refine ⟨na, Nat.le_refl _, rfl, ?_, hb4, List.replicate na 0, hown4.mono hs3, by simp, ?_⟩
    · rw [drop_all (by rw [Hna.out]; exact Nat.le_refl _), Nat.zero_mod, limbs_zero]; exact Own.nil _ _
    · rw [drop_all (by simp), drop_all (by rw [Hna.out]; exact Nat.le_refl _)]; simp
  case round =>
    obtain ⟨k, hk, rfl, hr, hbw, HZ⟩ := hrel
    have hsw := Nat.le_trans hs3 hbw.size
    obtain ⟨Z, hz, hzl, hzv⟩ := HZ.out
    have Hzl := Lib.hid hzl
    have Hzv := Lib.hid hzv
    clear HZ hzl hzv
    have hA5 := hA3.to hbw
    have hB5 := hB3.to hbw
    rcases Nat.eq_zero_or_pos k with rfl | hpos
    · have Hv := Lib.hid (show val Z = val la / val lb by
        have h := Hzv.out
        rw [List.drop_zero, List.drop_zero, val_limbs, Hfq.out] at h; exact h)
      rw [List.drop_zero, val_limbs] at hr
      have Hpw := Lib.hid (show limbs (val [2] ^ ((32 : Int) - c).toNat) = [2 ^ s] by rw [Hs2.out, val_two', limbs_word (by omega) (by omega)])
      have hbz := below_step hbw3 hbw
      go_wp2_with fail
      refine (times_pow _ [2] _ _ (lit1' wr rfl (by omega)) (by simp) Hpn.out).mono ?_
      rintro e w5 ⟨vp, rfl, hp, hb5⟩
      rw [Hpw.out] at hp
      have hb5' := below_step (below_new _ _) hb5
      obtain ⟨bp, op, cp, hvp, hcp⟩ := hp.rd.cells' (by simp)
      subst hvp
      have hcp0 := hcp 0 (by simp)
      simp only [nth_def, List.getD_cons_zero, Nat.add_zero] at hcp0
      clear hcp
      go_wp2_with fail
      refine (split_small _ _ _ _ (hr.rd.to hb5') (by rw [sz_def]; have := sz_mod (val la * 2 ^ s) (val lb * 2 ^ s); omega) (by omega) (by omega)).mono ?_
      rintro e w6 ⟨vr, rfl, hr6, hb6⟩
      rw [val_limbs, Int.toNat_natCast, Hfr.out] at hr6
      have hb6' := below_step hb5' hb6
      go_wp2_with fail
      refine (nat_trim _ _ _ (hz.rd.to hb6') (by rw [Hzl.out]; omega)).mono ?_
      rintro e w7 ⟨vq, rfl, hq7, hb7⟩
      rw [Hv.out] at hq7
      have hb7' := below_step hb6' hb7
      go_wp2_with fail
      go_ret3
      exact ⟨vq, vr, rfl, hq7.mono (by have := hb6'.size; omega), (hr6.mono (by have := hb5'.size; omega)).to hb7, below_step hbz hb7'⟩
    · obtain ⟨j, rfl⟩ : ∃ j, k = j + 1 := ⟨k - 1, by omega⟩
      obtain ⟨b, o, rfl, hcell⟩ := hA5.cells (by rw [Hna.out]; omega)
      have hck := hcell j (by rw [Hna.out]; omega)
      have hx := (limbs_small (val la * 2 ^ s)).nth j
      simp only [B_eq] at hx
      clear hcell
      obtain ⟨R, hR⟩ : ∃ R, val ((limbs (val la * 2 ^ s)).drop (j + 1)) % (val lb * 2 ^ s) = R := ⟨_, rfl⟩
      have HR := Lib.hid hR
      have Hmod := Lib.hid (show val ((limbs (val la * 2 ^ s)).drop j) % (val lb * 2 ^ s) = (nth (limbs (val la * 2 ^ s)) j + B * R) % (val lb * 2 ^ s) by
        rw [word_mod (by rw [Hna.out]; omega), hR])
      have hRlt : R < val lb * 2 ^ s := by rw [← hR]; exact Nat.mod_lt _ hDD
      rw [hR] at hr
      have hsR : sz R ≤ 90001 := Nat.le_trans (sz_mono (Nat.le_of_lt hRlt)) hsD
      clear hR
      have Hcat := Lib.hid (show val ([nth (limbs (val la * 2 ^ s)) j] ++ limbs R) = nth (limbs (val la * 2 ^ s)) j + B * R by
        rw [List.singleton_append, val_cons, val_limbs])
      have hlt2 := rest_lt (x := nth (limbs (val la * 2 ^ s)) j) (by rw [B_eq]; exact hx) hRlt
      have hs22 : sz (nth (limbs (val la * 2 ^ s)) j + B * R) ≤ 90002 := by
        have h1 := sz_mono (Nat.le_of_lt hlt2)
        have h2 := sz_mul B (val lb * 2 ^ s)
        have h3 : sz B = 2 := by decide +kernel
        have h4 := guess_top hDD rfl hlt2
        omega
      have Hlt2 := Lib.hid hlt2
      clear hlt2
      go_wp2_with (at_builtin; refine wp_append _ rfl (.tmp 47) (.tmp 48) rfl wr.heap.size _ _ [nth (limbs (val la * 2 ^ s)) j] (limbs R) rfl rfl (own1_any wr hx (Nat.le_refl _)) (hr.rd.alloc _) (by simp) (by simp; rw [sz_def]; omega) ?_; intro v5 w5 hown5 hb5 hs5)
      have hb5' : Below wr.heap.size wr w5 := (below_new wr _).trans hb5
      refine (nat_trim _ _ _ hown5.rd (by simp; rw [sz_def]; omega)).mono ?_
      rintro e w6 ⟨v6, rfl, hv6, hb6⟩
      rw [Hcat.out] at hv6
      have hb6' := below_step hb5' hb6
      go_wp2_with fail
      refine (split_digit _ _ (nth (limbs (val la * 2 ^ s)) j + B * R) (val lb * 2 ^ s) _ hv6.rd (hB5.to hb6') hDD Hlt2.out (by omega) (by omega)).mono ?_
      rintro e w7 ⟨v7, rfl, hv7, hb7⟩
      have hb7' := below_step hb6' hb7
      have hz7 := hz.to hb7'
      obtain ⟨q1, q2⟩ := own_cell2 hz7 (show j < Z.length by rw [Hzl.out]; omega)
      have hstep := ddiv_step hz7 Hzl.out (by omega) Hna.out (limbs_small _) hDD Hzv.out
      rw [HR.out] at hstep
      have hzlt := (hz.lt w3.heap.size rfl).2
      have hs6 := hb6'.size
      clear hck
      go_wp2_with fail
      go_roundw
      case rel => exact ⟨j, by omega, by go_num, by rw [Hmod.out]; exact (hv7.setOther (by show w3.heap.size < _; omega) _).mono (by omega), (hbw.trans (hb7'.mono hbw.size)).setCell (Nat.le_refl _) _, hstep⟩
      case measure => simp [intOf]

end Go.Proofs.YtkjcdnlpjldhaaaGreat


namespace Go.Proofs.YtkjcdnlpjldhaaaGreat
open Go.RowKit Tw
set_option linter.unusedVariables false
set_option linter.unusedSimpArgs false

abbrev aggI (b : Bool) (v : Value) : Value := .agg #[.bool b, v]

def GivesI (w : World) (z : Int) (e : Ending) (w' : World) : Prop :=
  ∃ v, e = .returned (aggI (decide (z < 0)) v) ∧ Own w.heap.size w' v (limbs z.natAbs) ∧ Below w.heap.size w w'

theorem bcell {W w1 : World} (hb : Below W.heap.size W w1) : (∀ b o, b < W.heap.size → w1.cell? ⟨b, o, none⟩ = W.cell? ⟨b, o, none⟩) ∧ (∀ b o, b < W.heap.size → w1.frozen? ⟨b, o, none⟩ = W.frozen? ⟨b, o, none⟩) :=
  ⟨fun b o h => hb.cell (p := ⟨b, o, none⟩) h, fun b o h => hb.frozen (p := ⟨b, o, none⟩) h⟩

theorem loadI (w : World) (b : Nat) (x y : Value) (c0 : w.cell? ⟨b, 0, none⟩ = some x) (c1 : w.cell? ⟨b, 1, none⟩ = some y) :
    (loadVar 95 ⟨b, 0, none⟩).run Tryz.prog w = .ok (.agg #[x, y]) w := by
  simp [go_sem, c0, c1]

theorem results_I {fn : Func} {k : Tmp} (h : fn.results = #[.cell k 95]) (tmps : Array Value) (w : World) (b : Nat) (x y : Value) (hk : tmps.getD k undef = .pointer (some ⟨b, 0, none⟩))
    (c0 : w.cell? ⟨b, 0, none⟩ = some x) (c1 : w.cell? ⟨b, 1, none⟩ = some y) : (results fn tmps).run Tryz.prog w = .ok (.agg #[x, y]) w := by
  have hl := loadI w b x y c0 c1
  have hk' : tmps[k]?.getD undef = .pointer (some ⟨b, 0, none⟩) := by simpa using hk
  simp [results, h, asAddr, Sem.run_bind, hl, Result.andThen, hk']

theorem two_cells {w : World} {b : Nat} {x y x0 y0 : Value} (h0 : w.cell? ⟨b, 0, none⟩ = some x0) (h1 : w.cell? ⟨b, 1, none⟩ = some y0) :
    ((w.setCell ⟨b, 0, none⟩ x).setCell ⟨b, 1, none⟩ y).cell? ⟨b, 0, none⟩ = some x ∧ ((w.setCell ⟨b, 0, none⟩ x).setCell ⟨b, 1, none⟩ y).cell? ⟨b, 1, none⟩ = some y := by
  have e1 : (⟨b, 1, none⟩ : Addr) ≠ ⟨b, 0, none⟩ := by simp
  constructor
  · rw [World.cell?_setCell_other (h := e1)]
    exact World.cell?_setCell_same' _ _ _ (by rw [h0]; rfl)
  · apply World.cell?_setCell_same'
    rw [World.cell?_setCell_other (h := Ne.symm e1), h1]; rfl

theorem sgn_test {b : Bool} {n nt : Nat} (h : (limbs n).length = nt) : decide (sgn b n < 0) = (b && decide (0 < nt)) := by
  rw [sgn_neg]
  congr 1
  rw [decide_eq_decide, ← h, sz_def]
  have := @sz_eq_zero n
  omega

set_option maxHeartbeats 1000000 in
theorem whole_signed (b : Bool) (v : Value) (l : List Nat) (w : World) (h : Rd w v l) (hl : l.length ≤ 1000000) :
    Calls Tryz.prog 87 #[.bool b, v] w (GivesI w (sgn b (val l))) := by
  have H2 := Lib.hid (sgn_abs b (val l))
  go_enter Tryz.func87, Tryz.ntmps87
  go_wp2_with fail
  refine (nat_trim v l _ (h.alloc _) (by omega)).mono ?_
  rintro e w1 ⟨t, rfl, ht, hb1⟩
  obtain ⟨at1, nt, ct, rfl, Hnt, _⟩ := ht.rd.open
  have H1 := Lib.hid (sgn_test (b := b) Hnt.out)
  obtain ⟨hc, hf⟩ := bcell hb1
  have h0 : w1.cell? ⟨w.heap.size, 0, none⟩ = some (.bool false) := by rw [hc _ _ (by simp)]; simp [go_sem]
  have h1 : w1.cell? ⟨w.heap.size, 1, none⟩ = some (.slice none 0 0) := by rw [hc _ _ (by simp)]; simp [go_sem]
  have hown : ∀ (x y : Value), Own w.heap.size ((w1.setCell ⟨w.heap.size, 0, none⟩ x).setCell ⟨w.heap.size, 1, none⟩ y) (.slice at1 nt ct) (limbs (sgn b (val l)).natAbs) := fun x y => by
    rw [H2.out]; exact ((ht.setOther (by simp) _).setOther (by simp) _).mono (by simp)
  have hbel : ∀ (x y : Value), Below w.heap.size w ((w1.setCell ⟨w.heap.size, 0, none⟩ x).setCell ⟨w.heap.size, 1, none⟩ y) := fun x y =>
    ((below_step (below_new _ _) hb1).setCell (Nat.le_refl _) _).setCell (Nat.le_refl _) _
  cases b
  · go_wp2_with fail
    obtain ⟨k0, k1⟩ := two_cells (x := .bool false) (y := .slice at1 nt ct) h0 h1
    exact bodyPost_ret (results_I Tryz.results87 _ _ _ _ _ rfl k0 k1) rfl ⟨_, by rw [H1.out]; rfl, hown _ _, hbel _ _⟩
  · go_wp2_with fail
    obtain ⟨k0, k1⟩ := two_cells (x := .bool (decide (0 < nt))) (y := .slice at1 nt ct) h0 h1
    exact bodyPost_ret (results_I Tryz.results87 _ _ _ _ _ rfl k0 k1) rfl ⟨_, by rw [H1.out]; rfl, hown _ _, hbel _ _⟩

theorem finI {w w1 w2 : World} {rb : Nat} {z : Int} {v : Value} (hb0 : Below w.heap.size w w1) (hrb : w.heap.size ≤ rb) (hrb1 : rb < w1.heap.size) (hv : Own w1.heap.size w2 v (limbs z.natAbs)) (hb : Below w1.heap.size w1 w2) :
    GivesI w z (.returned (aggI (decide (z < 0)) v)) ((w2.setCell ⟨rb, 0, none⟩ (.bool (decide (z < 0)))).setCell ⟨rb, 1, none⟩ v) :=
  ⟨v, rfl, ((hv.setOther (p := ⟨rb, 0, none⟩) hrb1 _).setOther (p := ⟨rb, 1, none⟩) hrb1 _).mono hb0.size, ((below_step hb0 hb).setCell (p := ⟨rb, 0, none⟩) hrb _).setCell (p := ⟨rb, 1, none⟩) hrb _⟩

end Go.Proofs.YtkjcdnlpjldhaaaGreat


namespace Go.Proofs.YtkjcdnlpjldhaaaGreat
open Go.RowKit Tw
set_option linter.unusedVariables false
set_option linter.unusedSimpArgs false

def rdWord (w : World) (b o : Nat) : Nat := match w.cell? ⟨b, o, none⟩ with
  | some (.int _ n) => n.toNat
  | _ => 0

def rdVal (w : World) : Value → Nat
  | .slice (some ⟨b, off, none⟩) n _ => val ((List.range n).map fun i => rdWord w b (off + i))
  | _ => 0

theorem rdVal_rd {w : World} {v : Value} {l : List Nat} (h : Rd w v l) : rdVal w v = val l := by
  rcases h.2 with ⟨rfl, a, cap, rfl, _⟩ | ⟨b, off, cap, rfl, hl, hc, hm, hcell⟩
  · rcases a with _ | ⟨b, off, _ | s⟩ <;> rfl
  · show val _ = val l
    congr 1
    apply List.ext_getElem
    · simp
    · intro i h1 h2
      simp only [List.getElem_map, List.getElem_range]
      unfold rdWord
      rw [hcell i h2]
      simp [nth_of h2]

end Go.Proofs.YtkjcdnlpjldhaaaGreat


namespace Go.Proofs.YtkjcdnlpjldhaaaGreat
open Go.RowKit Tw
set_option linter.unusedVariables false
set_option linter.unusedSimpArgs false

theorem shr_bit (x r : Nat) (hx : x < 4294967296) : bits .and .u32 ((x : Int) / 2 ^ r) 1 = ((x / 2 ^ r % 2 : Nat) : Int) := by
  have h1 : ((x : Int) / 2 ^ r) = ((x / 2 ^ r : Nat) : Int) := by push_cast; rfl
  have h2 : x / 2 ^ r ≤ x := Nat.div_le_self _ _
  rw [h1]
  generalize x / 2 ^ r = y at h2 ⊢
  rw [and_one_u32 _ (by omega) (by omega)]
  omega

set_option maxHeartbeats 1000000 in
theorem ref4_bit (va : Value) (la : List Nat) (n : Nat) (w : World) (ha : Rd w va la) (hn : n < 32 * la.length) (hla : la.length ≤ 1000000) :
    Calls Tryz.prog 131 #[va, .int .i64 n] w fun e w' => e = .returned (.int .u32 ((val la / 2 ^ n % 2 : Nat) : Int)) ∧ w = w' := by
  have hlm := ha.len_le
  unfold maxLen at hlm
  obtain ⟨k, r, hr, rfl⟩ : ∃ k r, r < 32 ∧ n = 32 * k + r := ⟨n / 32, n % 32, Nat.mod_lt _ (by omega), by omega⟩
  have hk : k < la.length := by omega
  have Hb := Lib.hid (bit_eq ha.1 hk hr)
  obtain ⟨aa, na, capa, rfl, Hna, _⟩ := ha.open
  have hkn : k < na := by have := Hna.out; omega
  obtain ⟨b, o, rfl, hcell⟩ := ha.cells (by rw [Hna.out]; omega)
  have hck := hcell k (by rw [Hna.out]; omega)
  have hx := ha.1.nth k
  simp only [B_eq] at hx
  have Hs := Lib.hid (shr_bit _ r hx)
  have e1 : (((32 * k + r : Nat) : Int)) / 32 = (k : Int) := by omega
  have e2 : (((32 * k + r : Nat) : Int)) % 32 = (r : Int) := by omega
  have e0 : (0 : Int) ≤ ((32 * k + r : Nat) : Int) := by omega
  have e3 : ((32 * k + r : Nat) : Int) < 9000000000000000000 := by omega
  clear hcell hn
  generalize hN : ((32 * k + r : Nat) : Int) = N at *
  go_enter Tryz.func131, Tryz.ntmps131
  go_wp2_with fail
  go_ret
  exact ⟨ret_one (int_eq (by rw [Hs.out, Hb.out])), rfl⟩

theorem halve_bits (A j : Nat) : A / 2 ^ j = 2 * (A / 2 ^ (j + 1)) + A / 2 ^ j % 2 := by
  rw [Nat.pow_succ, ← Nat.div_div_eq_div_mul]
  exact (Nat.div_add_mod _ 2).symm

theorem sz_double {R D x : Nat} (h : R < D) (hx : x < 2) : sz (R * 2 + x) ≤ sz D + 1 := by
  have h1 := sz_mono (show R * 2 + x ≤ D * 2 by omega)
  have h2 := sz_mul D 2
  have h3 := sz_word (n := 2) (by omega)
  omega

set_option maxRecDepth 100000 in
set_option maxHeartbeats 4000000 in
theorem ref4_div (va vb : Value) (la lb : List Nat) (w : World) (ha : Rd w va la) (hb : Rd w vb lb) (hla : la.length ≤ 10000) (hlb : lb.length ≤ 10000) (hD : 0 < val lb) :
    Calls Tryz.prog 104 #[va, vb] w (GivesTwo w (limbs (val la / val lb)) (limbs (val la % val lb))) := by
  obtain ⟨D, hDd⟩ : ∃ D, val lb = D := ⟨_, rfl⟩
  have hsD : sz D ≤ 10000 := by have := sz_val hb.1; rw [hDd] at this; omega
  have hsA := sz_val ha.1
  have Hstart := Lib.hid (show val la / 2 ^ (32 * la.length) = 0 by
    have h := val_lt ha.1
    rw [show B ^ la.length = 2 ^ (32 * la.length) by rw [Nat.pow_mul]; rfl] at h
    exact Nat.div_eq_of_lt h)
  rw [hDd] at hD ⊢
  obtain ⟨m, hm⟩ := sz_succ hD
  have Hm := Lib.hid (show (limbs D).length = m + 1 by rw [sz_def]; exact hm)
  have HDd := Lib.hid hDd
  clear hDd hm
  obtain ⟨aa, na, capa, rfl, Hna, _⟩ := ha.open
  have hna : na ≤ 10000 := by have := Hna.out; omega
  go_enter Tryz.func104, Tryz.ntmps104
  go_wp2_with fail
  refine (ref2_trim _ _ _ hb (by omega)).mono ?_
  rintro e w1 ⟨v1, rfl, hv1, hb1⟩
  rw [HDd.out] at hv1
  obtain ⟨ab, nb, capb, rfl, Hnb, hnb0⟩ := hv1.rd.open
  have hnb : 0 < nb := by have := Hnb.out; have := Hm.out; omega
  have hnbz : ((nb : Int) == 0) = false := by simp; omega
  go_wp2_with fail
  go_loopw [8, 9, 10] (fun q r i ww => ∃ (k : Nat), k ≤ 32 * na ∧ i = .int .i64 ((k : Int) - 1) ∧ Own w.heap.size ww q (limbs (val la / 2 ^ k / D)) ∧ Own w.heap.size ww r (limbs (val la / 2 ^ k % D)) ∧ Below w1.heap.size w1 ww) (fun _ _ i _ => (intOf i + 1).toNat)
  case atStart =>
    have e0 : val la / 2 ^ (32 * na) = 0 := by rw [← Hna.out]; exact Hstart.out
    refine ⟨32 * na, Nat.le_refl _, by push_cast; rfl, ?_, ?_, Below.refl _ _⟩
    · rw [e0, Nat.zero_div, limbs_zero]; exact Own.nil _ _
    · rw [e0, Nat.zero_mod, limbs_zero]; exact Own.nil _ _
  case round =>
    obtain ⟨k, hk, rfl, hq, hr, hbw⟩ := hrel
    have hbz := below_step hb1 hbw
    have hsz := hbz.size
    rcases Nat.eq_zero_or_pos k with rfl | hpos
    · rw [Nat.pow_zero, Nat.div_one] at hq hr
      go_wp2_with fail
      go_ret3
      exact ⟨_, _, rfl, hq, hr, hbz⟩
    · obtain ⟨j, rfl⟩ : ∃ j, k = j + 1 := ⟨k - 1, by omega⟩
      obtain ⟨x, hx⟩ : ∃ x, val la / 2 ^ j % 2 = x := ⟨_, rfl⟩
      obtain ⟨Q, hQ⟩ : ∃ Q, val la / 2 ^ (j + 1) / D = Q := ⟨_, rfl⟩
      obtain ⟨R, hR⟩ : ∃ R, val la / 2 ^ (j + 1) % D = R := ⟨_, rfl⟩
      have hx2 : x < 2 := by rw [← hx]; exact Nat.mod_lt _ (by omega)
      have hRlt : R < D := by rw [← hR]; exact Nat.mod_lt _ hD
      have hsQ : sz Q ≤ 10000 := by
        have h1 := sz_div (val la / 2 ^ (j + 1)) D
        have h2 := sz_div (val la) (2 ^ (j + 1))
        rw [hQ] at h1
        omega
      have hd := bit_div (x := x) (y := val la / 2 ^ (j + 1)) hD hx2
      have hmd := bit_mod (x := x) (y := val la / 2 ^ (j + 1)) hD hx2
      have hh := halve_bits (val la) j
      rw [hx] at hh
      rw [← hh, hQ, hR] at hd
      rw [← hh, hR] at hmd
      rw [hQ] at hq
      rw [hR] at hr
      have Hd := Lib.hid hd
      have Hmd := Lib.hid hmd
      have Hx := Lib.hid hx
      have hsR := sz_mono (Nat.le_of_lt hRlt)
      have hsR2 := sz_double (x := x) hRlt hx2
      have hsQ2 := sz_double (R := Q) (D := Q + 1) (x := 0) (by omega) (by omega)
      have hsQ1 : sz (Q + 1) ≤ 10002 := by have := sz_add Q 1; have := sz_word (n := 1) (by omega); omega
      clear hd hmd hh hx hQ hR
      go_wp2_with fail
      refine (ref3_one _ _ _ _ _ hq.rd (by rw [sz_def]; omega) (by omega) (by omega) (by omega) (by omega)).mono ?_
      rintro e w2 ⟨v2, rfl, hv2, hb2⟩
      rw [val_limbs] at hv2
      replace hv2 : Own wr.heap.size w2 v2 (limbs (Q * 2 + 0)) := hv2
      have hr2 := hr.to hb2
      have hbw2 := hbw.trans (hb2.mono hbw.size)
      go_wp2_with fail
      refine (ref4_bit _ la j _ ((ha.to hb1).to hbw2) (by rw [Hna.out]; omega) (by rw [Hna.out]; omega)).mono ?_
      rintro e w' ⟨rfl, rfl⟩
      rw [Hx.out]
      go_wp2_with fail
      refine (ref3_one _ _ _ _ _ hr2.rd (by rw [sz_def]; omega) (by omega) (by omega) (by omega) (by omega)).mono ?_
      rintro e w3 ⟨v3, rfl, hv3, hb3⟩
      rw [val_limbs] at hv3
      replace hv3 : Own w2.heap.size w3 v3 (limbs (R * 2 + x)) := hv3
      have hq3 := hv2.to hb3
      have hbw3 := hbw2.trans (hb3.mono hbw2.size)
      by_cases hge : D ≤ R * 2 + x
      · have hc : 0 ≤ cmpN (val (limbs (R * 2 + x))) (val (limbs D)) := by rw [val_limbs, val_limbs]; exact cmpN_ge.2 hge
        have hge2 : D ≤ 2 * R + x := by omega
        go_wp2_with fail
        refine (ref2_cmp _ _ _ _ _ hv3.rd (hv1.rd.to hbw3) (by rw [sz_def]; omega) (by rw [sz_def]; omega)).mono ?_
        rintro e w' ⟨rfl, rfl⟩
        go_wp2_with fail
        refine (ref2_sub _ _ _ _ _ hv3.rd (hv1.rd.to hbw3) (by rw [sz_def]; omega) (by rw [sz_def]; omega) (by rw [val_limbs, val_limbs]; exact hge)).mono ?_
        rintro e w4 ⟨v4, rfl, hv4, hb4⟩
        rw [val_limbs, val_limbs] at hv4
        have hbw4 := hbw3.trans (hb4.mono hbw3.size)
        go_wp2_with fail
        refine (ref3_one _ _ _ _ _ (hq3.rd.to hb4) (by rw [sz_def]; omega) (by omega) (by omega) (by omega) (by omega)).mono ?_
        rintro e w5 ⟨v5, rfl, hv5, hb5⟩
        rw [val_limbs] at hv5
        replace hv5 : Own w4.heap.size w5 v5 (limbs ((Q * 2 + 0) * 1 + 1)) := hv5
        have hbw5 := hbw4.trans (hb5.mono hbw4.size)
        have z2 := hb2.size
        have z3 := hb3.size
        have z4 := hb4.size
        go_wp2_with fail
        go_roundw
        case rel =>
          refine ⟨j, by omega, by go_num, ?_, ?_, hbw5⟩
          · rw [Hd.out, if_pos hge2, show 2 * Q + 1 = (Q * 2 + 0) * 1 + 1 by omega]; exact hv5.mono (by omega)
          · rw [Hmd.out, if_pos hge2, show 2 * R + x - D = R * 2 + x - D by omega]; exact (hv4.mono (by omega)).to hb5
        case measure => simp [intOf]
      · have hc : ¬ 0 ≤ cmpN (val (limbs (R * 2 + x))) (val (limbs D)) := by rw [val_limbs, val_limbs]; exact fun e => hge (cmpN_ge.1 e)
        have hge2 : ¬ D ≤ 2 * R + x := by omega
        go_wp2_with fail
        refine (ref2_cmp _ _ _ _ _ hv3.rd (hv1.rd.to hbw3) (by rw [sz_def]; omega) (by rw [sz_def]; omega)).mono ?_
        rintro e w' ⟨rfl, rfl⟩
        have z2 := hb2.size
        have z3 := hb3.size
        go_wp2_with fail
        go_roundw
        case rel =>
          refine ⟨j, by omega, by go_num, ?_, ?_, hbw3⟩
          · rw [Hd.out, if_neg hge2, show 2 * Q + 0 = Q * 2 + 0 by omega]; exact hq3.mono (by omega)
          · rw [Hmd.out, if_neg hge2, show 2 * R + x = R * 2 + x by omega]; exact hv3.mono (by omega)
        case measure => simp [intOf]

set_option maxHeartbeats 1000000 in
theorem ref4_small (va : Value) (la : List Nat) (d : Int) (w : World) (ha : Rd w va la) (hla : la.length ≤ 10000) (d0 : 0 < d) (d1 : d < 4294967296) :
    Calls Tryz.prog 86 #[va, .int .u32 d] w (GivesDiv w (limbs (val la / d.toNat)) (val la % d.toNat)) := by
  obtain ⟨D, rfl⟩ := Int.eq_ofNat_of_zero_le (Int.le_of_lt d0)
  simp only [Int.toNat_natCast]
  have hD0 : 0 < D := by omega
  have hv : val [D] = D := by simp [val]
  go_enter Tryz.func86, Tryz.ntmps86
  have Hv := Lib.hid hv
  clear hv
  go_wp2_with fail
  refine (ref4_div _ _ la [D] _ (ha.alloc _) (lit1' w rfl (by omega)) (by omega) (by simp) (by rw [Hv.out]; exact hD0)).mono ?_
  rintro e w1 ⟨vq, vr, rfl, hq, hr, hb1⟩
  rw [Hv.out] at hq hr
  have hbz := below_step (below_new _ _) hb1
  have hrlt : val la % D < D := Nat.mod_lt _ hD0
  by_cases h0 : val la % D = 0
  · have H0 := Lib.hid h0
    rw [h0, limbs_zero] at hr
    obtain ⟨ar, capr, rfl⟩ := hr.rd.shape
    clear h0
    go_wp2_with fail
    go_ret3
    exact ⟨_, ret_three rfl (int_eq (by rw [H0.out]; rfl)) rfl, hq.mono (by simp), hbz⟩
  · rw [limbs_word h0 (by omega)] at hr
    obtain ⟨br, or_, cr, rfl, hcr⟩ := hr.rd.cells' (by simp)
    have hcr0 := hcr 0 (by simp)
    simp only [nth_def, List.getD_cons_zero, Nat.add_zero] at hcr0
    clear hcr
    go_wp2_with fail
    go_quiet (fail)
    go_wp2_with fail
    go_ret3
    exact ⟨_, rfl, (hq.mono (by simp)).to (below_drewN (Below.refl _ _) _), below_drewN hbz _⟩

end Go.Proofs.YtkjcdnlpjldhaaaGreat


namespace Go.Proofs.YtkjcdnlpjldhaaaGreat
open Go.RowKit Tw
set_option linter.unusedVariables false
set_option linter.unusedSimpArgs false

theorem nbits_len {l : List Nat} (h : Small l) : nbits (val l) ≤ 32 * l.length := by
  apply nbits_le.2
  have h1 := val_lt h
  rwa [show B ^ l.length = 2 ^ (32 * l.length) by rw [Nat.pow_mul]; rfl] at h1

def GivesOdd (w : World) (N : Nat) (e : Ending) (w' : World) : Prop :=
  ∃ (m k : Nat) (v : Value), e = .returned (.tuple #[v, .int .i64 (k : Int)]) ∧ Rd w' v (limbs m) ∧ m % 2 = 1 ∧ N = m * 2 ^ k ∧ Below w.heap.size w w'

set_option maxRecDepth 100000 in
set_option maxHeartbeats 4000000 in
theorem ref5_odd (va : Value) (N : Nat) (w : World) (ha : Rd w va (limbs N)) (hN : N ≠ 0) (hsN : sz N ≤ 10000) :
    Calls Tryz.prog 129 #[va] w (GivesOdd w N) := by
  have hnb : nbits N ≤ 320000 := by
    have h1 := nbits_len (limbs_small N)
    rw [val_limbs, sz_def] at h1
    omega
  have HN := Lib.hid hN
  clear hN
  go_enter Tryz.func129, Tryz.ntmps129
  go_wp2_with fail
  go_loopw [0, 4] (fun a n ww => ∃ M k : Nat, Rd ww a (limbs M) ∧ M ≠ 0 ∧ sz M ≤ 10000 ∧ k ≤ 320000 ∧ n = .int .i64 k ∧ Hid (N = M * 2 ^ k) ∧ Below w.heap.size w ww) (fun a _ ww => rdVal ww a)
  case atStart => exact ⟨N, 0, ha, HN.out, hsN, by omega, rfl, by unfold Hid; simp, Below.refl _ _⟩
  case round =>
    obtain ⟨M, k, hM, hM0, hMs, hk, rfl, HM, hbw⟩ := hrel
    have hs0 : sz M ≠ 0 := fun e => hM0 (sz_eq_zero.1 e)
    have hpos : 0 < (limbs M).length := by rw [sz_def]; omega
    have hrd := rdVal_rd hM
    rw [val_limbs] at hrd
    have Hrd := Lib.hid hrd
    obtain ⟨b, o, cap, rfl, hcell⟩ := hM.cells' hpos
    have hc0 := hcell 0 hpos
    rw [Nat.add_zero] at hc0
    have hx := (limbs_small M).nth 0
    simp only [B_eq] at hx
    have He := Lib.hid (limbs_even hM0)
    have Hlen := Lib.hid (show (limbs M).length = sz M from rfl)
    clear hrd hcell
    by_cases hev : nth (limbs M) 0 % 2 = 0
    · have hz : (((nth (limbs M) 0 : Int)) % 2 == 0) = true := by simp; omega
      have hd0 : M / 2 ≠ 0 := by have := He.out; omega
      have hd1 : M / 2 < M := by omega
      have hds : sz (M / 2) ≤ 10000 := Nat.le_trans (sz_div M 2) hMs
      have HM2 := Lib.hid (show N = M / 2 * 2 ^ (k + 1) by
        rw [Nat.pow_succ, Nat.mul_comm (2 ^ k) 2, ← Nat.mul_assoc, Nat.div_mul_cancel (Nat.dvd_of_mod_eq_zero (by have := He.out; omega))]; exact HM.out)
      have hk2 := pow_le_bits HM2.out HN.out
      clear hev
      go_wp2_with fail
      refine (ref4_small _ _ 2 _ hM (by rw [sz_def]; omega) (by omega) (by omega)).mono ?_
      rintro e w2 ⟨v2, rfl, hv2, hb2⟩
      rw [val_limbs] at hv2
      replace hv2 : Own wr.heap.size w2 v2 (limbs (M / 2)) := hv2
      have hbw2 := below_step hbw hb2
      go_wp2_with fail
      go_roundw
      case rel => exact ⟨M / 2, k + 1, hv2.rd, hd0, hds, by omega, by go_num, HM2, hbw2⟩
      case measure => rw [rdVal_rd hv2.rd, Hrd.out, val_limbs]; exact hd1
    · have hz : (((nth (limbs M) 0 : Int)) % 2 == 0) = false := by simp; omega
      have hodd : M % 2 = 1 := by have := He.out; omega
      clear hev
      go_wp2_with fail
      go_ret2
      exact ⟨M, k, _, rfl, hM, hodd, HM.out, hbw⟩

theorem odd_ne {m : Nat} (h : m % 2 = 1) : m ≠ 0 := fun e => by subst e; simp at h

theorem cmp_test {a b : Nat} (h : a ≠ b) : (cmpN a b != 0) = true := by
  have := mt cmpN_zero.1 h
  simpa using this

set_option maxRecDepth 100000 in
set_option maxHeartbeats 8000000 in
theorem ref5_gcd (va vb : Value) (la lb : List Nat) (w : World) (ha : Rd w va la) (hb : Rd w vb lb) (hla : la.length ≤ 3000) (hlb : lb.length ≤ 3000) :
    Calls Tryz.prog 103 #[va, vb] w (Gives w (limbs (Nat.gcd (val la) (val lb)))) := by
  have hsA := sz_val ha.1
  have hsB := sz_val hb.1
  by_cases ha0 : val la = 0
  · have HA := Lib.hid (show limbs (val la) = [] by rw [ha0]; rfl)
    have HG := Lib.hid (show Nat.gcd (val la) (val lb) = val lb by rw [ha0, Nat.gcd_zero_left])
    clear ha0
    rw [HG.out]
    go_enter Tryz.func103, Tryz.ntmps103
    go_wp2_with fail
    refine (ref2_trim _ _ _ ha (by omega)).mono ?_
    rintro e w1 ⟨v1, rfl, hv1, hb1⟩
    rw [HA.out] at hv1
    obtain ⟨a1, cap1, rfl⟩ := hv1.rd.shape
    go_wp2_with fail
    refine (ref2_trim _ _ _ (hb.to hb1) (by omega)).mono ?_
    rintro e w2 ⟨v2, rfl, hv2, hb2⟩
    go_wp2_with fail
    go_ret
    exact ⟨_, rfl, hv2.mono hb1.size, below_step hb1 hb2⟩
  by_cases hb0 : val lb = 0
  · have HB := Lib.hid (show limbs (val lb) = [] by rw [hb0]; rfl)
    have HG := Lib.hid (show Nat.gcd (val la) (val lb) = val la by rw [hb0, Nat.gcd_zero_right])
    have ha1 : 0 < (limbs (val la)).length := by rw [sz_def]; have := mt sz_eq_zero.1 ha0; omega
    clear hb0 ha0
    rw [HG.out]
    go_enter Tryz.func103, Tryz.ntmps103
    go_wp2_with fail
    refine (ref2_trim _ _ _ ha (by omega)).mono ?_
    rintro e w1 ⟨v1, rfl, hv1, hb1⟩
    obtain ⟨a1, o1, cap1, rfl, _⟩ := hv1.rd.cells' ha1
    go_wp2_with fail
    refine (ref2_trim _ _ _ (hb.to hb1) (by omega)).mono ?_
    rintro e w2 ⟨v2, rfl, hv2, hb2⟩
    rw [HB.out] at hv2
    obtain ⟨a2, cap2, rfl⟩ := hv2.rd.shape
    go_wp2_with fail
    go_ret
    exact ⟨_, rfl, hv1.to hb2, below_step hb1 hb2⟩
  have ha1 : 0 < (limbs (val la)).length := by rw [sz_def]; have := mt sz_eq_zero.1 ha0; omega
  have hb1 : 0 < (limbs (val lb)).length := by rw [sz_def]; have := mt sz_eq_zero.1 hb0; omega
  have hnA := nbits_len ha.1
  have hnB := nbits_len hb.1
  have HA := Lib.hid ha0
  have HB := Lib.hid hb0
  clear ha0 hb0
  go_enter Tryz.func103, Tryz.ntmps103
  go_wp2_with fail
  refine (ref2_trim _ _ _ ha (by omega)).mono ?_
  rintro e w1 ⟨v1, rfl, hv1, hbA⟩
  obtain ⟨a1, o1, cap1, rfl, _⟩ := hv1.rd.cells' ha1
  go_wp2_with fail
  refine (ref2_trim _ _ _ (hb.to hbA) (by omega)).mono ?_
  rintro e w2 ⟨v2, rfl, hv2, hbB⟩
  obtain ⟨a2, o2, cap2, rfl, _⟩ := hv2.rd.cells' hb1
  have hbw := below_step hbA hbB
  go_wp2_with fail
  refine (ref5_odd _ _ _ (hv1.rd.to hbB) HA.out (by omega)).mono ?_
  rintro e w3 ⟨X0, n, v3, rfl, hx, hxo, hxe, hb3⟩
  replace hbw := below_step hbw hb3
  have Hxe := Lib.hid hxe
  have Hxo := Lib.hid hxo
  clear hxe hxo
  go_wp2_with fail
  refine (ref5_odd _ _ _ (hv2.rd.to hb3) HB.out (by omega)).mono ?_
  rintro e w4 ⟨Y0, k, v4, rfl, hy, hyo, hye, hb4⟩
  replace hbw := below_step hbw hb4
  replace hx := hx.to hb4
  have Hye := Lib.hid hye
  have Hyo := Lib.hid hyo
  clear hye hyo
  have hn1 := pow_le_bits Hxe.out HA.out
  have hk1 := pow_le_bits Hye.out HB.out
  have HG := Lib.hid (show Nat.gcd (val la) (val lb) = Nat.gcd X0 Y0 * 2 ^ min n k by rw [Hxe.out, Hye.out]; exact gcd_twos Hxo.out Hyo.out)
  have hsX : sz X0 ≤ 3000 := by
    have h1 := sz_mono (show X0 ≤ val la by rw [Hxe.out]; exact Nat.le_mul_of_pos_right _ (Nat.pow_pos (by omega)))
    omega
  have hsY : sz Y0 ≤ 3000 := by
    have h1 := sz_mono (show Y0 ≤ val lb by rw [Hye.out]; exact Nat.le_mul_of_pos_right _ (Nat.pow_pos (by omega)))
    omega
  go_wp2_with fail
  go_loopw [5, 6] (fun x y ww => ∃ X Y : Nat, Rd ww x (limbs X) ∧ Rd ww y (limbs Y) ∧ sz X ≤ 3000 ∧ sz Y ≤ 3000 ∧ Hid (X % 2 = 1) ∧ Hid (Y % 2 = 1) ∧ Hid (Nat.gcd X Y = Nat.gcd X0 Y0) ∧ Below w.heap.size w ww) (fun x y ww => rdVal ww x + rdVal ww y)
  case atStart => exact ⟨X0, Y0, hx, hy, hsX, hsY, Hxo, Hyo, rfl, hbw⟩
  case round =>
    clear hx hy hv1 hv2
    obtain ⟨X, Y, hx, hy, hXs, hYs, HX, HY, HGl, hbl⟩ := hrel
    have Hmx := Lib.hid (rdVal_rd hx)
    have Hmy := Lib.hid (rdVal_rd hy)
    by_cases hxy : X = Y
    · have Hc := Lib.hid (show cmpN (val (limbs X)) (val (limbs Y)) = 0 from cmpN_eq (by rw [hxy]))
      have HG2 := Lib.hid (show Nat.gcd (val la) (val lb) = X * 2 ^ min n k by rw [HG.out, ← HGl.out, ← hxy, Nat.gcd_self])
      have Hmin := Lib.hid (show (min (n : Int) (k : Int)).toNat = min n k by omega)
      clear hxy
      go_wp2_with fail
      refine (ref2_cmp _ _ _ _ _ hx hy (by rw [sz_def]; omega) (by rw [sz_def]; omega)).mono ?_
      rintro e w' ⟨rfl, rfl⟩
      rw [Hc.out]
      go_wp2_with fail
      refine (ref3_shift _ _ _ _ hx (by rw [sz_def]; omega) (by omega)).mono ?_
      rintro e w5 ⟨v5, rfl, hv5, hb5⟩
      rw [val_limbs, Hmin.out, ← HG2.out] at hv5
      go_wp2_with fail
      go_ret
      exact ⟨_, rfl, hv5.mono hbl.size, below_step hbl hb5⟩
    · have hne : cmpN (val (limbs X)) (val (limbs Y)) ≠ 0 := by rw [val_limbs, val_limbs]; exact mt cmpN_zero.1 hxy
      have hneb : (cmpN (val (limbs X)) (val (limbs Y)) != 0) = true := by rw [val_limbs, val_limbs]; exact cmp_test hxy
      rcases Nat.lt_or_ge X Y with hlt | hge
      · have hc : cmpN (val (limbs X)) (val (limbs Y)) < 0 := by rw [val_limbs, val_limbs]; exact cmpN_neg.2 hlt
        have hle : X ≤ Y := by omega
        have hd0 : Y - X ≠ 0 := by omega
        have hsd := sz_sub Y X
        clear hxy
        go_wp2_with fail
        refine (ref2_cmp _ _ _ _ _ hx hy (by rw [sz_def]; omega) (by rw [sz_def]; omega)).mono ?_
        rintro e w' ⟨rfl, rfl⟩
        go_wp2_with fail
        refine (ref2_cmp _ _ _ _ _ hx hy (by rw [sz_def]; omega) (by rw [sz_def]; omega)).mono ?_
        rintro e w' ⟨rfl, rfl⟩
        go_wp2_with fail
        refine (ref2_sub _ _ _ _ _ hy hx (by rw [sz_def]; omega) (by rw [sz_def]; omega) (by rw [val_limbs, val_limbs]; exact hle)).mono ?_
        rintro e w5 ⟨v5, rfl, hv5, hb5⟩
        rw [val_limbs, val_limbs] at hv5
        replace hbl := below_step hbl hb5
        have hx5 := hx.to hb5
        go_wp2_with fail
        refine (ref5_odd _ _ _ hv5.rd hd0 (by omega)).mono ?_
        rintro e w6 ⟨m, j, v6, rfl, hv6, hmo, hme, hb6⟩
        replace hbl := below_step hbl hb6
        have hm1 : m ≤ Y - X := by rw [hme]; exact Nat.le_mul_of_pos_right _ (Nat.pow_pos (by omega))
        have hm2 : m < Y := by have := odd_ne HX.out; omega
        have hms := sz_mono hm1
        have Hg := Lib.hid (show Nat.gcd m X = Nat.gcd X0 Y0 by rw [← gcd_odd (m := m) j HX.out, ← hme, gcd_minus hle, Nat.gcd_comm, HGl.out])
        have Hmo := Lib.hid hmo
        clear hmo hme hm1
        go_wp2_with fail
        go_roundw
        case rel => exact ⟨m, X, hv6, hx5.to hb6, by omega, hXs, Hmo, HX, Hg, hbl⟩
        case measure => rw [rdVal_rd hv6, rdVal_rd (hx5.to hb6), Hmx.out, Hmy.out, val_limbs, val_limbs, val_limbs]; omega
      · have hc : ¬ cmpN (val (limbs X)) (val (limbs Y)) < 0 := by rw [val_limbs, val_limbs]; exact fun e => absurd (cmpN_neg.1 e) (by omega)
        have hd0 : X - Y ≠ 0 := by omega
        have hsd := sz_sub X Y
        clear hxy
        go_wp2_with fail
        refine (ref2_cmp _ _ _ _ _ hx hy (by rw [sz_def]; omega) (by rw [sz_def]; omega)).mono ?_
        rintro e w' ⟨rfl, rfl⟩
        go_wp2_with fail
        refine (ref2_cmp _ _ _ _ _ hx hy (by rw [sz_def]; omega) (by rw [sz_def]; omega)).mono ?_
        rintro e w' ⟨rfl, rfl⟩
        go_wp2_with fail
        refine (ref2_sub _ _ _ _ _ hx hy (by rw [sz_def]; omega) (by rw [sz_def]; omega) (by rw [val_limbs, val_limbs]; exact hge)).mono ?_
        rintro e w5 ⟨v5, rfl, hv5, hb5⟩
        rw [val_limbs, val_limbs] at hv5
        replace hbl := below_step hbl hb5
        have hy5 := hy.to hb5
        go_wp2_with fail
        refine (ref5_odd _ _ _ hv5.rd hd0 (by omega)).mono ?_
        rintro e w6 ⟨m, j, v6, rfl, hv6, hmo, hme, hb6⟩
        replace hbl := below_step hbl hb6
        have hm1 : m ≤ X - Y := by rw [hme]; exact Nat.le_mul_of_pos_right _ (Nat.pow_pos (by omega))
        have hm2 : m < X := by have := odd_ne HY.out; omega
        have hms := sz_mono hm1
        have Hg := Lib.hid (show Nat.gcd m Y = Nat.gcd X0 Y0 by rw [← gcd_odd (m := m) j HY.out, ← hme, gcd_minus hge, HGl.out])
        have Hmo := Lib.hid hmo
        clear hmo hme hm1
        go_wp2_with fail
        go_roundw
        case rel => exact ⟨m, Y, hv6, hy5.to hb6, by omega, hYs, Hmo, HY, Hg, hbl⟩
        case measure => rw [rdVal_rd hv6, rdVal_rd (hy5.to hb6), Hmx.out, Hmy.out, val_limbs, val_limbs, val_limbs]; omega

end Go.Proofs.YtkjcdnlpjldhaaaGreat

