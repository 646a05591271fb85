/-
  The walks of the reference of layer 2: sums and differences.
-/
import Derived.Test.YteokdkcanckfeaaRef2
namespace Go.Proofs.Yteokdkcanckfeaa
open Go.RowKit Tw
set_option linter.unusedVariables false
set_option linter.unusedSimpArgs false

theorem radd_step {la lb X : List Nat} {k c x s q : Nat} (hX : X.length = k) (hv : val X + B ^ k * c = val (la.take k) + val (lb.take k)) (hx : nth la k + nth lb k + c = x)
    (hs : x % 4294967296 = s) (hq : x / 4294967296 = q) : val (X ++ [s]) + B ^ (k + 1) * q = val (la.take (k + 1)) + val (lb.take (k + 1)) := by
  rw [val_snoc, hX, val_take_succ', val_take_succ']
  have h1 : B ^ (k + 1) * q = B ^ k * (4294967296 * q) := by rw [Nat.pow_succ, Nat.mul_assoc]; rfl
  have h2 : s + 4294967296 * q = nth la k + nth lb k + c := by omega
  have h3 : B ^ k * (s + 4294967296 * q) = B ^ k * (nth la k + nth lb k + c) := by rw [h2]
  rw [Nat.mul_add, Nat.mul_add, Nat.mul_add] at h3
  rw [h1]
  omega

set_option maxHeartbeats 1000000 in
theorem ref2_add (va vb : Value) (la lb : List Nat) (w : World) (ha : Rd w va la) (hb : Rd w vb lb) (hla : la.length ≤ 1000000) (hlb : lb.length ≤ 1000000) :
    Calls Try.prog 51 #[va, vb] w (Gives w (limbs (val la + val lb))) := by
  obtain ⟨aa, na, capa, rfl, Hna, _⟩ := ha.open
  obtain ⟨ab, nb, capb, rfl, Hnb, _⟩ := hb.open
  have hna : na ≤ 1000000 := by have := Hna.out; omega
  have hnb : nb ≤ 1000000 := by have := Hnb.out; omega
  obtain ⟨n, hn, hn1, hn2, hn3⟩ : ∃ n, max na nb = n ∧ na ≤ n ∧ nb ≤ n ∧ n ≤ 1000000 := ⟨_, rfl, by omega, by omega, by omega⟩
  have hmax : max (na : Int) (nb : Int) = (n : Int) := by omega
  clear hn
  go_enter Try.func51, Try.ntmps51
  go_wp2_with fail
  go_loopw [5, 6, 7] (fun v c i ww => ∃ (k cc : Nat) (X : List Nat), k ≤ n + 1 ∧ cc ≤ 1 ∧ i = .int .i64 k ∧ c = .int .u64 cc ∧ Own w.heap.size ww v X ∧ Below w.heap.size w ww ∧ Hid (X.length = k) ∧
      Hid (val X + B ^ k * cc = val (la.take k) + val (lb.take k))) (fun _ _ i _ => n + 1 - (intOf i).toNat)
  case atStart => exact ⟨0, 0, [], by omega, by omega, rfl, rfl, Own.nil _ _, Below.refl _ _, rfl, by unfold Hid; simp [val]⟩
  case round =>
    obtain ⟨k, c, X, hk, hc, rfl, rfl, hown, hbw, HX, HV⟩ := hrel
    by_cases hkn : k ≤ n
    · have hA := ha.to hbw
      have hB := hb.to hbw
      have hx := ha.1.nth k
      have hy := hb.1.nth k
      simp only [B_eq] at hx hy
      go_wp2_with fail
      refine (ref2_at _ la _ _ hA (by omega)).mono ?_
      rintro e w' ⟨rfl, rfl⟩
      rw [Int.toNat_natCast]
      go_wp2_with fail
      refine (ref2_at _ lb _ _ hB (by omega)).mono ?_
      rintro e w' ⟨rfl, rfl⟩
      rw [Int.toNat_natCast]
      have hst := Lib.hid (radd_step HX.out HV.out rfl rfl rfl)
      have Hq := Lib.hid (show ((nth la k : Int) + nth lb k + c) / 4294967296 = (((nth la k + nth lb k + c) / 4294967296 : Nat) : Int) by omega)
      have hq1 : (nth la k + nth lb k + c) / 4294967296 ≤ 1 := by omega
      have hlx : X.length ≤ 1000001 := by have := HX.out; omega
      have Hs := Lib.hid (show ((nth la k : Int) + nth lb k + c) % 4294967296 = (((nth la k + nth lb k + c) % 4294967296 : Nat) : Int) by omega)
      have hrd : Rd (wr.alloc (.cells #[.int .u32 (((nth la k : Int) + nth lb k + c) % 4294967296)] 38)) (.slice (some ⟨wr.heap.size, 0, none⟩) 1 1) [(nth la k + nth lb k + c) % 4294967296] := by
        rw [Hs.out]
        exact (own_lit_at wr _ [(nth la k + nth lb k + c) % 4294967296] rfl (small1 (by omega)) (by simp [maxLen])).rd
      have Hrd := Lib.hid hrd
      clear hrd
      go_wp2_with (at_builtin; refine wp_append _ rfl (.tmp 27) (.tmp 31) rfl w.heap.size _ _ X [(nth la k + nth lb k + c) % 4294967296] rfl rfl (hown.alloc _) Hrd.out (by have := hbw.size; simp; omega) (by simp; omega) ?_; intro v2 w2 hown2 hb2 hs2)
      go_roundw
      case rel => exact ⟨k + 1, _, _, by omega, hq1, by go_num, int_eq Hq.out, hown2, (hbw.alloc hbw.size _).trans hb2, by unfold Hid; rw [List.length_append, HX.out]; rfl, hst⟩
      case measure => simp [intOf]; omega
    · have hkn2 : k = n + 1 := by omega
      subst hkn2
      have Hv := Lib.hid (show val X = val la + val lb by
        have h1 := HV.out
        rw [val_take_all (l := la) (by rw [Hna.out]; omega), val_take_all (l := lb) (by rw [Hnb.out]; omega)] at h1
        have h2 := val_take_lt ha.1 n
        have h3 := val_take_lt hb.1 n
        rw [val_take_all (l := la) (by rw [Hna.out]; omega)] at h2
        rw [val_take_all (l := lb) (by rw [Hnb.out]; omega)] at h3
        exact carry_none h1 h2 h3)
      have hlx : X.length ≤ 1000001 := by have := HX.out; omega
      go_wp2_with fail
      refine (ref2_trim _ _ _ hown.rd (by omega)).mono ?_
      rintro e w3 ⟨v, rfl, hv, hb3⟩
      go_wp2_with fail
      go_ret
      exact ⟨_, rfl, by rw [← Hv.out]; exact hv.mono hbw.size, hbw.trans (hb3.mono hbw.size)⟩

set_option maxHeartbeats 400000 in
theorem ref2_sub_no (va vb : Value) (la lb : List Nat) (w : World) (ha : Rd w va la) (hb : Rd w vb lb) (hla : la.length ≤ 1000000) (hlb : lb.length ≤ 1000000) (h : val la < val lb) :
    Calls Try.prog 72 #[va, vb] w fun e w' => e = .returned (.tuple #[.slice none 0 0, .bool false]) ∧ Below w.heap.size w w' := by
  have Hc := Lib.hid (cmpN_lt h)
  go_enter Try.func72, Try.ntmps72
  go_wp2_with fail
  refine (ref2_cmp _ _ _ _ _ ha hb (by omega) (by omega)).mono ?_
  rintro e w1 ⟨rfl, rfl⟩
  rw [Hc.out]
  go_wp2_with fail
  go_ret2
  exact ⟨rfl, Below.refl _ _⟩

theorem rsub_step {la lb X : List Nat} {k c x s q : Nat} (hX : X.length = k) (hv : val (la.take k) + B ^ k * c = val X + val (lb.take k)) (hx : 4294967296 + nth la k - nth lb k - c = x)
    (hle : nth lb k + c ≤ 4294967296) (hs : x % 4294967296 = s) (hq : 1 - x / 4294967296 = q) (hx1 : x / 4294967296 ≤ 1) : val (la.take (k + 1)) + B ^ (k + 1) * q = val (X ++ [s]) + val (lb.take (k + 1)) := by
  rw [val_snoc, hX, val_take_succ', val_take_succ']
  have h1 : B ^ (k + 1) * q = B ^ k * (4294967296 * q) := by rw [Nat.pow_succ, Nat.mul_assoc]; rfl
  have h2 : nth la k + 4294967296 * q = s + nth lb k + c := by omega
  have h3 : B ^ k * (nth la k + 4294967296 * q) = B ^ k * (s + nth lb k + c) := by rw [h2]
  rw [Nat.mul_add, Nat.mul_add, Nat.mul_add] at h3
  rw [h1]
  omega

set_option maxHeartbeats 1000000 in
theorem ref2_sub (va vb : Value) (la lb : List Nat) (w : World) (ha : Rd w va la) (hb : Rd w vb lb) (hla : la.length ≤ 1000000) (hlb : lb.length ≤ 1000000) (h : val lb ≤ val la) :
    Calls Try.prog 72 #[va, vb] w (GivesOk w (limbs (val la - val lb))) := by
  have hc1 : 0 ≤ cmpN (val la) (val lb) := cmpN_ge.2 h
  have hc0 : ¬ cmpN (val la) (val lb) < 0 := by omega
  have hcd : decide (cmpN (val la) (val lb) < 0) = false := by simp; omega
  obtain ⟨aa, na, capa, rfl, Hna, _⟩ := ha.open
  have hna : na ≤ 1000000 := by have := Hna.out; omega
  have Hle := Lib.hid h
  clear h
  go_enter Try.func72, Try.ntmps72
  go_wp2_with fail
  refine (ref2_cmp _ _ _ _ _ ha hb (by omega) (by omega)).mono ?_
  rintro e w' ⟨rfl, rfl⟩
  go_wp2_with fail
  go_loopw [6, 7, 8, 9] (fun v c i _ ww => ∃ (k cc : Nat) (X : List Nat), k ≤ na ∧ cc ≤ 1 ∧ i = .int .i64 k ∧ c = .int .u64 cc ∧ Own w.heap.size ww v X ∧ Below w.heap.size w ww ∧ Hid (X.length = k) ∧
      Hid (val (la.take k) + B ^ k * cc = val X + val (lb.take k))) (fun _ _ i _ _ => na - (intOf i).toNat)
  case atStart => exact ⟨0, 0, [], by omega, by omega, rfl, rfl, Own.nil _ _, Below.refl _ _, rfl, by unfold Hid; simp [val]⟩
  case round =>
    obtain ⟨k, c, X, hk, hc, rfl, rfl, hown, hbw, HX, HV⟩ := hrel
    by_cases hkn : k < na
    · have hA := ha.to hbw
      have hB := hb.to hbw
      have hx := ha.1.nth k
      have hy := hb.1.nth k
      simp only [B_eq] at hx hy
      go_wp2_with fail
      refine (ref2_at _ la _ _ hA (by omega)).mono ?_
      rintro e w' ⟨rfl, rfl⟩
      rw [Int.toNat_natCast]
      go_wp2_with fail
      refine (ref2_at _ lb _ _ hB (by omega)).mono ?_
      rintro e w' ⟨rfl, rfl⟩
      rw [Int.toNat_natCast]
      have hst := Lib.hid (rsub_step HX.out HV.out rfl (by omega) rfl rfl (by omega))
      have Hq := Lib.hid (show 1 - (4294967296 + (nth la k : Int) - nth lb k - c) / 4294967296 = ((1 - (4294967296 + nth la k - nth lb k - c) / 4294967296 : Nat) : Int) by omega)
      have Hs := Lib.hid (show (4294967296 + (nth la k : Int) - nth lb k - c) % 4294967296 = (((4294967296 + nth la k - nth lb k - c) % 4294967296 : Nat) : Int) by omega)
      have hlx : X.length ≤ 1000001 := by have := HX.out; omega
      have hrd : Rd (wr.alloc (.cells #[.int .u32 ((4294967296 + (nth la k : Int) - nth lb k - c) % 4294967296)] 38)) (.slice (some ⟨wr.heap.size, 0, none⟩) 1 1) [(4294967296 + nth la k - nth lb k - c) % 4294967296] := by
        rw [Hs.out]
        exact (own_lit_at wr _ [(4294967296 + nth la k - nth lb k - c) % 4294967296] rfl (small1 (by omega)) (by simp [maxLen])).rd
      have Hrd := Lib.hid hrd
      clear hrd
      go_wp2_with (at_builtin; refine wp_append _ rfl (.tmp 30) (.tmp 34) rfl w.heap.size _ _ X [(4294967296 + nth la k - nth lb k - c) % 4294967296] rfl rfl (hown.alloc _) Hrd.out (by have := hbw.size; simp; omega) (by simp; omega) ?_; intro v2 w2 hown2 hb2 hs2)
      go_roundw
      case rel => exact ⟨k + 1, _, _, by omega, by omega, by go_num, int_eq Hq.out, hown2, (hbw.alloc hbw.size _).trans hb2, by unfold Hid; rw [List.length_append, HX.out]; rfl, hst⟩
      case measure => simp [intOf]; omega
    · have hkn2 : k = na := by omega
      subst hkn2
      have Hv := Lib.hid (show val X = val la - val lb by
        have h1 := HV.out
        have h2 := val_take_lt ha.1 k
        have h4 := val_lt hown.1
        rw [HX.out] at h4
        rw [val_take_all (l := la) (by rw [Hna.out]; exact Nat.le_refl _)] at h1 h2
        have h5 : val (lb.take k) = val lb := val_take_ge hb.1 (sz_le (Nat.lt_of_le_of_lt Hle.out h2))
        rw [h5] at h1
        have h9 := Hle.out
        rcases Nat.eq_zero_or_pos c with rfl | hcp
        · omega
        · obtain rfl : c = 1 := by omega
          omega)
      have hlx : X.length ≤ 1000001 := by have := HX.out; omega
      go_wp2_with fail
      refine (ref2_trim _ _ _ hown.rd (by omega)).mono ?_
      rintro e w3 ⟨v, rfl, hv, hb3⟩
      go_wp2_with fail
      go_ret2
      exact ⟨_, rfl, by rw [← Hv.out]; exact hv.mono hbw.size, hbw.trans (hb3.mono hbw.size)⟩

end Go.Proofs.Yteokdkcanckfeaa
