/-
  The walks of the reference of layer 3: powers and shifts.
-/
import Derived.Test.YteokdkcanckfeaaRef3
namespace Go.Proofs.Yteokdkcanckfeaa
open Go.RowKit Tw
set_option linter.unusedVariables false
set_option linter.unusedSimpArgs false

theorem lit1' (w : World) {n a : Nat} (hn : n = w.heap.size) (ha : a < 4294967296) : Rd (w.alloc (.cells #[u32v a] 38)) (.slice (some ⟨n, 0, none⟩) 1 1) [a] := by
  subst hn; exact (own_lit w [a] (small1 ha) (by simp [maxLen])).rd

theorem own1_at (w : World) {n base : Nat} (hn : n = w.heap.size) (hb : base ≤ w.heap.size) : Own base (w.alloc (.cells #[.int .u32 1] 38)) (.slice (some ⟨n, 0, none⟩) 1 1) [1] := by
  subst hn
  exact (own_lit w [1] (small1 (by omega)) (by simp [maxLen])).mono hb

theorem val_one : val [1] = 1 := by decide
theorem limbs_one : limbs 1 = [1] := by decide +kernel

theorem sz_two_pow (j : Nat) : sz (2 ^ j) ≤ j + 1 := by
  apply sz_le
  exact Nat.lt_of_lt_of_le (Nat.pow_lt_pow_right (by omega) (Nat.lt_succ_self j)) (Nat.pow_le_pow_left B_two _)

end Go.Proofs.Yteokdkcanckfeaa
