/-
  The walks of the reference of layer 3: powers and shifts.
-/
import Derived.Test.YtbllgahknfhooaaRef3
namespace Go.Proofs.Ytbllgahknfhooaa
open Go.RowKit Tw
set_option linter.unusedVariables false
set_option linter.unusedSimpArgs false

theorem lit1' (w : World) {n a : Nat} (hn : n = w.heap.size) (ha : a < 4294967296) : Rd (w.alloc (.cells #[u32v a] 23)) (.slice (some ⟨n, 0, none⟩) 1 1) [a] := by
  subst hn; exact (own_lit w [a] (small1 ha) (by simp [maxLen])).rd

theorem own1_at (w : World) {n base : Nat} (hn : n = w.heap.size) (hb : base ≤ w.heap.size) : Own base (w.alloc (.cells #[.int .u32 1] 23)) (.slice (some ⟨n, 0, none⟩) 1 1) [1] := by
  subst hn
  exact (own_lit w [1] (small1 (by omega)) (by simp [maxLen])).mono hb

theorem val_one : val [1] = 1 := by decide
theorem limbs_one : limbs 1 = [1] := by decide +kernel

set_option maxHeartbeats 1000000 in
theorem ref3_pow_no (va : Value) (la : List Nat) (k : Int) (w : World) (ha : Rd w va la) (hla : la.length ≤ 100000) (h : powNo (val la) k) :
    Calls Try.prog 24 #[va, .int .i64 k] w fun e w' => e = .returned (.tuple #[.slice none 0 0, .bool false]) ∧ Below w.heap.size w w' := by
  have hsl := sz_val ha.1
  rcases h with h | ⟨h1, h2⟩
  · go_enter Try.func24, Try.ntmps24
    go_wp2_with fail
    refine (ref2_trim _ la _ ha (by omega)).mono ?_
    rintro e w1 ⟨t, rfl, ht, hb1⟩
    go_wp2_with fail
    refine (ref2_cmp _ _ _ [1] _ (ht.rd.alloc _) (lit1' w1 rfl (by omega)) (by show sz _ ≤ _; omega) (by simp)).mono ?_
    rintro e w' ⟨rfl, rfl⟩
    go_wp2_with fail
    go_ret2
    exact ⟨rfl, below_step hb1 (below_new _ _)⟩
  · have hs0 : sz (val la) ≠ 0 := fun e => by have := sz_eq_zero.1 e; omega
    have hs1 : 1 ≤ sz (val la) := by omega
    have hk0 : ¬ k < 0 := Int.not_lt.2 (Int.le_of_lt (Int.lt_of_le_of_lt (Int.natCast_nonneg _) h2))
    have hk : (4096 : Int) / (sz (val la) : Int) < k := by
      have : ((4096 / sz (val la) : Nat) : Int) = (4096 : Int) / (sz (val la) : Int) := by simp
      omega
    have hc : ¬ cmpN (val (limbs (val la))) (val [1]) ≤ 0 := by rw [val_limbs, val_one]; intro e; have := cmpN_le.1 e; omega
    have hc2 : 0 < cmpN (val (limbs (val la))) (val [1]) := by omega
    have hcd : decide (cmpN (val (limbs (val la))) (val [1]) ≤ 0) = false := by simpa using hc
    clear h2
    go_enter Try.func24, Try.ntmps24
    go_wp2_with fail
    refine (ref2_trim _ la _ ha (by omega)).mono ?_
    rintro e w1 ⟨t, rfl, ht, hb1⟩
    obtain ⟨at1, nt, ct, rfl, Hnt, _⟩ := ht.rd.open
    have hnt : nt = sz (val la) := Hnt.out.symm
    subst hnt
    go_wp2_with fail
    refine (ref2_cmp _ _ _ [1] _ (ht.rd.alloc _) (lit1' w1 rfl (by omega)) (by show sz _ ≤ _; omega) (by simp)).mono ?_
    rintro e w' ⟨rfl, rfl⟩
    go_wp2_with fail
    go_ret2
    exact ⟨rfl, below_step hb1 (below_new _ _)⟩

set_option maxRecDepth 100000 in
set_option maxHeartbeats 2000000 in
theorem ref3_pow (va : Value) (la : List Nat) (k : Int) (w : World) (ha : Rd w va la) (hla : la.length ≤ 10000) (h : ¬ powNo (val la) k) :
    Calls Try.prog 24 #[va, .int .i64 k] w (GivesOk w (limbs (val la ^ k.toNat))) := by
  have hsl := sz_val ha.1
  have hk0 : 0 ≤ k := Int.not_lt.1 fun e => h (.inl e)
  by_cases hb : 1 < val la
  · have hs0 : sz (val la) ≠ 0 := fun e => by have := sz_eq_zero.1 e; omega
    have hs1 : 1 ≤ sz (val la) := by omega
    obtain ⟨m, rfl⟩ := Int.eq_ofNat_of_zero_le hk0
    have hkm : m ≤ 4096 / sz (val la) := Nat.not_lt.1 fun e => h (.inr ⟨hb, by omega⟩)
    have Hms := Lib.hid (show m * sz (val la) ≤ 4096 from Nat.le_trans (Nat.mul_le_mul_right _ hkm) (Nat.div_mul_le_self _ _))
    have hm4 : m ≤ 4096 := Nat.le_trans hkm (Nat.div_le_self _ _)
    have hk : (m : Int) ≤ (4096 : Int) / (sz (val la) : Int) := by
      have : ((4096 / sz (val la) : Nat) : Int) = (4096 : Int) / (sz (val la) : Int) := by simp
      omega
    have hc : ¬ cmpN (val (limbs (val la))) (val [1]) ≤ 0 := by rw [val_limbs, val_one]; intro e; have := cmpN_le.1 e; omega
    have hc2 : 0 < cmpN (val (limbs (val la))) (val [1]) := by omega
    have hcd : decide (cmpN (val (limbs (val la))) (val [1]) ≤ 0) = false := by simpa using hc
    have Hfin := Lib.hid (show val la ^ (m : Int).toNat = val la ^ m by rw [Int.toNat_natCast])
    clear h hkm hb
    go_enter Try.func24, Try.ntmps24
    go_wp2_with fail
    refine (ref2_trim _ la _ ha (by omega)).mono ?_
    rintro e w1 ⟨t, rfl, ht, hb1⟩
    obtain ⟨at1, nt, ct, rfl, Hnt, _⟩ := ht.rd.open
    have hnt : nt = sz (val la) := Hnt.out.symm
    subst hnt
    go_wp2_with fail
    refine (ref2_cmp _ _ _ [1] _ (ht.rd.alloc _) (lit1' w1 rfl (by omega)) (by show sz _ ≤ _; omega) (by simp)).mono ?_
    rintro e w' ⟨rfl, rfl⟩
    have ht2 := ht.rd.alloc (.cells #[u32v 1] 23)
    have hs1w := hb1.size
    go_wp2_with fail
    go_loopw [8, 9] (fun v i ww => ∃ (j : Nat), j ≤ m ∧ i = .int .i64 j ∧ Own w.heap.size ww v (limbs (val la ^ j)) ∧ Below w.heap.size w ww ∧ Below (w1.alloc (.cells #[u32v 1] 23)).heap.size (w1.alloc (.cells #[u32v 1] 23)) ww) (fun _ i _ => m - (intOf i).toNat)
    case atStart =>
      exact ⟨0, by omega, rfl, by rw [Nat.pow_zero, limbs_one]; exact own1_at (w1.alloc _) (by simp) (by simp; omega), below_step hb1 (below_step (below_new _ _) (below_new _ _)), below_new _ _⟩
    case round =>
      obtain ⟨j, hj, rfl, hv, hbw, hbx⟩ := hrel
      by_cases hjm : j < m
      · have hsj : sz (val la ^ j) ≤ 4100 := by
          have h1 := sz_pow (val la) j
          have h2 : j * sz (val la) ≤ m * sz (val la) := Nat.mul_le_mul_right _ (by omega)
          have h3 := Hms.out
          omega
        have Hp := Lib.hid (show val (limbs (val la ^ j)) * val (limbs (val la)) = val la ^ (j + 1) by rw [val_limbs, val_limbs, Nat.pow_succ])
        go_wp2_with fail
        refine (ref3_mul _ _ _ _ _ hv.rd (ht2.to hbx) (by show sz _ ≤ _; omega) (by show sz _ ≤ _; omega)).mono ?_
        rintro e w2 ⟨v2, rfl, hv2, hb2⟩
        rw [Hp.out] at hv2
        go_wp2_with fail
        go_roundw
        case rel => exact ⟨j + 1, by omega, by go_num, hv2.mono hbw.size, hbw.trans (hb2.mono hbw.size), hbx.trans (hb2.mono hbx.size)⟩
        case measure => simp [intOf]; omega
      · have hjm2 : j = m := by omega
        subst hjm2
        go_wp2_with fail
        go_ret2
        exact ⟨_, rfl, by rw [Hfin.out]; exact hv, hbw⟩
  · have hv1 : val la ≤ 1 := Nat.not_lt.1 hb
    obtain ⟨m, hm, hm1, hmk⟩ : ∃ m : Nat, (if 1 < k then (1 : Int) else k) = (m : Int) ∧ m ≤ 1 ∧ (m = 0 ∧ k = 0 ∨ m = 1 ∧ 1 ≤ k) := by
      rcases Int.lt_or_le k 1 with h1 | h1
      · exact ⟨0, by rw [if_neg (by omega)]; omega, by omega, .inl ⟨rfl, by omega⟩⟩
      · refine ⟨1, ?_, by omega, .inr ⟨rfl, h1⟩⟩
        split <;> omega
    have hsz1 : sz (val la) ≤ 1 := sz_word (by omega)
    have Hms := Lib.hid (show m * sz (val la) ≤ 4096 from Nat.le_trans (Nat.mul_le_mul hm1 hsz1) (by omega))
    have Hfin := Lib.hid (show val la ^ k.toNat = val la ^ m by
      rcases hmk with ⟨rfl, rfl⟩ | ⟨rfl, h1⟩
      · rfl
      · rw [pow_le_one hv1 (by omega), Nat.pow_one])
    have hc : cmpN (val (limbs (val la))) (val [1]) ≤ 0 := by rw [val_limbs, val_one]; exact cmpN_le.2 (by omega)
    have hcd : decide (cmpN (val (limbs (val la))) (val [1]) ≤ 0) = true := by simpa using hc
    clear h hb hv1
    by_cases hk1 : 1 < k
    · obtain rfl : m = 1 := by rw [if_pos hk1] at hm; omega
      clear hm hmk
      go_enter Try.func24, Try.ntmps24
      go_wp2_with fail
      refine (ref2_trim _ la _ ha (by omega)).mono ?_
      rintro e w1 ⟨t, rfl, ht, hb1⟩
      go_wp2_with fail
      refine (ref2_cmp _ _ _ [1] _ (ht.rd.alloc _) (lit1' w1 rfl (by omega)) (by show sz _ ≤ _; omega) (by simp)).mono ?_
      rintro e w' ⟨rfl, rfl⟩
      have ht2 := ht.rd.alloc (.cells #[u32v 1] 23)
      have hs1w := hb1.size
      go_wp2_with fail
      go_loopw [8, 9] (fun v i ww => ∃ (j : Nat), j ≤ 1 ∧ i = .int .i64 j ∧ Own w.heap.size ww v (limbs (val la ^ j)) ∧ Below w.heap.size w ww ∧ Below (w1.alloc (.cells #[u32v 1] 23)).heap.size (w1.alloc (.cells #[u32v 1] 23)) ww) (fun _ i _ => 1 - (intOf i).toNat)
      case atStart =>
        exact ⟨0, by omega, rfl, by rw [Nat.pow_zero, limbs_one]; exact own1_at (w1.alloc _) (by simp) (by simp; omega), below_step hb1 (below_step (below_new _ _) (below_new _ _)), below_new _ _⟩
      case round =>
        obtain ⟨j, hj, rfl, hv, hbw, hbx⟩ := hrel
        by_cases hjm : j < 1
        · have hsj : sz (val la ^ j) ≤ 4100 := by
            have h1 := sz_pow (val la) j
            have h2 : j * sz (val la) ≤ 1 * sz (val la) := Nat.mul_le_mul_right _ (by omega)
            have h3 := Hms.out
            omega
          have Hp := Lib.hid (show val (limbs (val la ^ j)) * val (limbs (val la)) = val la ^ (j + 1) by rw [val_limbs, val_limbs, Nat.pow_succ])
          go_wp2_with fail
          refine (ref3_mul _ _ _ _ _ hv.rd (ht2.to hbx) (by show sz _ ≤ _; omega) (by show sz _ ≤ _; omega)).mono ?_
          rintro e w2 ⟨v2, rfl, hv2, hb2⟩
          rw [Hp.out] at hv2
          go_wp2_with fail
          go_roundw
          case rel => exact ⟨j + 1, by omega, by go_num, hv2.mono hbw.size, hbw.trans (hb2.mono hbw.size), hbx.trans (hb2.mono hbx.size)⟩
          case measure => simp [intOf]; omega
        · have hjm2 : j = 1 := by omega
          subst hjm2
          go_wp2_with fail
          go_ret2
          exact ⟨_, rfl, by rw [Hfin.out]; exact hv, hbw⟩
    · obtain rfl : k = (m : Int) := by rw [if_neg hk1] at hm; exact hm
      clear hm hmk
      go_enter Try.func24, Try.ntmps24
      go_wp2_with fail
      refine (ref2_trim _ la _ ha (by omega)).mono ?_
      rintro e w1 ⟨t, rfl, ht, hb1⟩
      go_wp2_with fail
      refine (ref2_cmp _ _ _ [1] _ (ht.rd.alloc _) (lit1' w1 rfl (by omega)) (by show sz _ ≤ _; omega) (by simp)).mono ?_
      rintro e w' ⟨rfl, rfl⟩
      have ht2 := ht.rd.alloc (.cells #[u32v 1] 23)
      have hs1w := hb1.size
      go_wp2_with fail
      go_loopw [8, 9] (fun v i ww => ∃ (j : Nat), j ≤ m ∧ i = .int .i64 j ∧ Own w.heap.size ww v (limbs (val la ^ j)) ∧ Below w.heap.size w ww ∧ Below (w1.alloc (.cells #[u32v 1] 23)).heap.size (w1.alloc (.cells #[u32v 1] 23)) ww) (fun _ i _ => m - (intOf i).toNat)
      case atStart =>
        exact ⟨0, by omega, rfl, by rw [Nat.pow_zero, limbs_one]; exact own1_at (w1.alloc _) (by simp) (by simp; omega), below_step hb1 (below_step (below_new _ _) (below_new _ _)), below_new _ _⟩
      case round =>
        obtain ⟨j, hj, rfl, hv, hbw, hbx⟩ := hrel
        by_cases hjm : j < m
        · have hsj : sz (val la ^ j) ≤ 4100 := by
            have h1 := sz_pow (val la) j
            have h2 : j * sz (val la) ≤ m * sz (val la) := Nat.mul_le_mul_right _ (by omega)
            have h3 := Hms.out
            omega
          have Hp := Lib.hid (show val (limbs (val la ^ j)) * val (limbs (val la)) = val la ^ (j + 1) by rw [val_limbs, val_limbs, Nat.pow_succ])
          go_wp2_with fail
          refine (ref3_mul _ _ _ _ _ hv.rd (ht2.to hbx) (by show sz _ ≤ _; omega) (by show sz _ ≤ _; omega)).mono ?_
          rintro e w2 ⟨v2, rfl, hv2, hb2⟩
          rw [Hp.out] at hv2
          go_wp2_with fail
          go_roundw
          case rel => exact ⟨j + 1, by omega, by go_num, hv2.mono hbw.size, hbw.trans (hb2.mono hbw.size), hbx.trans (hb2.mono hbx.size)⟩
          case measure => simp [intOf]; omega
        · have hjm2 : j = m := by omega
          subst hjm2
          go_wp2_with fail
          go_ret2
          exact ⟨_, rfl, by rw [Hfin.out]; exact hv, hbw⟩

theorem sz_two_pow (j : Nat) : sz (2 ^ j) ≤ j + 1 := by
  apply sz_le
  exact Nat.lt_of_lt_of_le (Nat.pow_lt_pow_right (by omega) (Nat.lt_succ_self j)) (Nat.pow_le_pow_left B_two _)

set_option maxRecDepth 100000 in
set_option maxHeartbeats 1000000 in
theorem ref3_shift (va : Value) (la : List Nat) (k : Int) (w : World) (ha : Rd w va la) (hla : la.length ≤ 100000) (hk : k ≤ 1000) :
    Calls Try.prog 26 #[va, .int .i64 k] w (Gives w (limbs (val la * 2 ^ k.toNat))) := by
  have hsl := sz_val ha.1
  obtain ⟨K, hK, hK1⟩ : ∃ K : Nat, k.toNat = K ∧ (K : Int) ≤ 1000 := ⟨k.toNat, rfl, by omega⟩
  have hkK : k ≤ K := by omega
  have hKk : K = 0 ∨ (K : Int) ≤ k := by omega
  rw [hK]
  clear hK
  by_cases hz : val la = 0
  · have Hfin := Lib.hid (show limbs (val la * 2 ^ K) = [] by rw [hz, Nat.zero_mul]; rfl)
    have Hl0 := Lib.hid (show limbs (val la) = [] by rw [hz]; rfl)
    clear hz
    go_enter Try.func26, Try.ntmps26
    go_wp2_with fail
    refine (ref2_trim _ la _ ha (by omega)).mono ?_
    rintro e w1 ⟨t, rfl, ht, hb1⟩
    rw [Hl0.out] at ht
    obtain ⟨at1, nt, ct, rfl, Hnt, _⟩ := ht.rd.open
    obtain rfl : nt = 0 := Hnt.out.symm
    go_wp2_with fail
    go_loop [5, 6] (fun v i => v = .slice at1 0 ct ∧ i = .int .i64 0) (fun _ _ => 0)
    case atStart => exact ⟨rfl, rfl⟩
    case round =>
      obtain ⟨rfl, rfl⟩ := hrel
      by_cases hk0 : 0 < k
      · go_wp2_with fail
        go_ret
        exact ⟨_, rfl, by rw [Hfin.out]; exact ht, hb1⟩
      · go_wp2_with fail
        go_ret
        exact ⟨_, rfl, by rw [Hfin.out]; exact ht, hb1⟩
  · have Hz := Lib.hid hz
    clear hz
    go_enter Try.func26, Try.ntmps26
    go_wp2_with fail
    refine (ref2_trim _ la _ ha (by omega)).mono ?_
    rintro e w1 ⟨t, rfl, ht, hb1⟩
    go_wp2_with fail
    go_loopw [5, 6] (fun v i ww => ∃ j : Nat, j ≤ K ∧ i = .int .i64 j ∧ Own w.heap.size ww v (limbs (val la * 2 ^ j)) ∧ Below w.heap.size w ww) (fun _ i _ => K - (intOf i).toNat)
    case atStart => exact ⟨0, by omega, rfl, by rw [Nat.pow_zero, Nat.mul_one]; exact ht, hb1⟩
    case round =>
      obtain ⟨j, hj, rfl, hown, hbw⟩ := hrel
      by_cases hjk : (j : Int) < k
      · have hne : val la * 2 ^ j ≠ 0 := Nat.mul_ne_zero Hz.out (Nat.ne_of_gt (Nat.pow_pos (by omega)))
        have hs0 : sz (val la * 2 ^ j) ≠ 0 := fun e => hne (sz_eq_zero.1 e)
        have hs1 := sz_mul (val la) (2 ^ j)
        have hs2 := sz_two_pow j
        obtain ⟨a1, n1, c1, rfl, Hn1, _⟩ := hown.rd.open
        have hn1 : 0 < n1 := by have := Hn1.out; rw [sz_def] at this; omega
        have Hp := Lib.hid (show val (limbs (val la * 2 ^ j)) * (2 : Int).toNat + (0 : Int).toNat = val la * 2 ^ (j + 1) by
          rw [val_limbs, Int.toNat_zero, Nat.add_zero, Nat.pow_succ, Nat.mul_assoc]; rfl)
        have hjl : decide ((j : Int) < 100000) = true := decide_eq_true (by omega)
        have hjl2 : (j : Int) < 100000 := by omega
        clear hne hs0
        go_wp2_with fail
        refine (ref3_one _ _ _ _ _ hown.rd (by show sz _ ≤ _; omega) (by omega) (by omega) (by omega) (by omega)).mono ?_
        rintro e w2 ⟨v2, rfl, hv2, hb2⟩
        rw [Hp.out] at hv2
        go_wp2_with fail
        go_roundw
        case rel => exact ⟨j + 1, by omega, by go_num, hv2.mono hbw.size, hbw.trans (hb2.mono hbw.size)⟩
        case measure => simp [intOf]; omega
      · obtain rfl : j = K := by omega
        go_wp2_with fail
        go_ret
        exact ⟨_, rfl, hown, hbw⟩

end Go.Proofs.Ytbllgahknfhooaa
