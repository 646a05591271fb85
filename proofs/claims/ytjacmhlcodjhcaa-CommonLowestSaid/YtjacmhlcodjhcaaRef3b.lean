/-
  The walks of the reference of layer 3: powers and shifts.
-/
import Derived.Test.YtjacmhlcodjhcaaRef3
namespace Go.Proofs.Ytjacmhlcodjhcaa
open Go.RowKit Tw
set_option linter.unusedVariables false
set_option linter.unusedSimpArgs false

theorem lit1' (w : World) {n a : Nat} (hn : n = w.heap.size) (ha : a < 4294967296) : Rd (w.alloc (.cells #[u32v a] 23)) (.slice (some ⟨n, 0, none⟩) 1 1) [a] := by
  subst hn; exact (own_lit w [a] (small1 ha) (by simp [maxLen])).rd

theorem own1_at (w : World) {n base : Nat} (hn : n = w.heap.size) (hb : base ≤ w.heap.size) : Own base (w.alloc (.cells #[.int .u32 1] 23)) (.slice (some ⟨n, 0, none⟩) 1 1) [1] := by
  subst hn
  exact (own_lit w [1] (small1 (by omega)) (by simp [maxLen])).mono hb

theorem val_one : val [1] = 1 := by decide
theorem limbs_one : limbs 1 = [1] := by decide +kernel

theorem sz_two_pow (j : Nat) : sz (2 ^ j) ≤ j + 1 := by
  apply sz_le
  exact Nat.lt_of_lt_of_le (Nat.pow_lt_pow_right (by omega) (Nat.lt_succ_self j)) (Nat.pow_le_pow_left B_two _)

set_option maxRecDepth 100000 in
set_option maxHeartbeats 1000000 in
theorem ref3_shift (va : Value) (la : List Nat) (k : Int) (w : World) (ha : Rd w va la) (hla : la.length ≤ 100000) (hk : k ≤ 100000) :
    Calls Try.prog 59 #[va, .int .i64 k] w (Gives w (limbs (val la * 2 ^ k.toNat))) := by
  have hsl := sz_val ha.1
  obtain ⟨K, hK, hK1⟩ : ∃ K : Nat, k.toNat = K ∧ (K : Int) ≤ 100000 := ⟨k.toNat, rfl, by omega⟩
  have hkK : k ≤ K := by omega
  have hKk : K = 0 ∨ (K : Int) ≤ k := by omega
  rw [hK]
  clear hK
  by_cases hz : val la = 0
  · have Hfin := Lib.hid (show limbs (val la * 2 ^ K) = [] by rw [hz, Nat.zero_mul]; rfl)
    have Hl0 := Lib.hid (show limbs (val la) = [] by rw [hz]; rfl)
    clear hz
    go_enter Try.func59, Try.ntmps59
    go_wp2_with fail
    refine (ref2_trim _ la _ ha (by omega)).mono ?_
    rintro e w1 ⟨t, rfl, ht, hb1⟩
    rw [Hl0.out] at ht
    obtain ⟨at1, nt, ct, rfl, Hnt, _⟩ := ht.rd.open
    obtain rfl : nt = 0 := Hnt.out.symm
    go_wp2_with fail
    go_loop [5, 6] (fun v i => v = .slice at1 0 ct ∧ i = .int .i64 0) (fun _ _ => 0)
    case atStart => exact ⟨rfl, rfl⟩
    case round =>
      obtain ⟨rfl, rfl⟩ := hrel
      by_cases hk0 : 0 < k
      · go_wp2_with fail
        go_ret
        exact ⟨_, rfl, by rw [Hfin.out]; exact ht, hb1⟩
      · go_wp2_with fail
        go_ret
        exact ⟨_, rfl, by rw [Hfin.out]; exact ht, hb1⟩
  · have Hz := Lib.hid hz
    clear hz
    go_enter Try.func59, Try.ntmps59
    go_wp2_with fail
    refine (ref2_trim _ la _ ha (by omega)).mono ?_
    rintro e w1 ⟨t, rfl, ht, hb1⟩
    go_wp2_with fail
    go_loopw [5, 6] (fun v i ww => ∃ j : Nat, j ≤ K ∧ i = .int .i64 j ∧ Own w.heap.size ww v (limbs (val la * 2 ^ j)) ∧ Below w.heap.size w ww) (fun _ i _ => K - (intOf i).toNat)
    case atStart => exact ⟨0, by omega, rfl, by rw [Nat.pow_zero, Nat.mul_one]; exact ht, hb1⟩
    case round =>
      obtain ⟨j, hj, rfl, hown, hbw⟩ := hrel
      by_cases hjk : (j : Int) < k
      · have hne : val la * 2 ^ j ≠ 0 := Nat.mul_ne_zero Hz.out (Nat.ne_of_gt (Nat.pow_pos (by omega)))
        have hs0 : sz (val la * 2 ^ j) ≠ 0 := fun e => hne (sz_eq_zero.1 e)
        have hs1 := sz_mul (val la) (2 ^ j)
        have hs2 := sz_two_pow j
        obtain ⟨a1, n1, c1, rfl, Hn1, _⟩ := hown.rd.open
        have hn1 : 0 < n1 := by have := Hn1.out; rw [sz_def] at this; omega
        have Hp := Lib.hid (show val (limbs (val la * 2 ^ j)) * (2 : Int).toNat + (0 : Int).toNat = val la * 2 ^ (j + 1) by
          rw [val_limbs, Int.toNat_zero, Nat.add_zero, Nat.pow_succ, Nat.mul_assoc]; rfl)
        have hjl : decide ((j : Int) < 100000) = true := decide_eq_true (by omega)
        have hjl2 : (j : Int) < 100000 := by omega
        clear hne hs0
        go_wp2_with fail
        refine (ref3_one _ _ _ _ _ hown.rd (by show sz _ ≤ _; omega) (by omega) (by omega) (by omega) (by omega)).mono ?_
        rintro e w2 ⟨v2, rfl, hv2, hb2⟩
        rw [Hp.out] at hv2
        go_wp2_with fail
        go_roundw
        case rel => exact ⟨j + 1, by omega, by go_num, hv2.mono hbw.size, hbw.trans (hb2.mono hbw.size)⟩
        case measure => simp [intOf]; omega
      · obtain rfl : j = K := by omega
        go_wp2_with fail
        go_ret
        exact ⟨_, rfl, hown, hbw⟩

end Go.Proofs.Ytjacmhlcodjhcaa
