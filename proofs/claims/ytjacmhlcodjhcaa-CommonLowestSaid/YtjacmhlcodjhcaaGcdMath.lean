/-
  Common divisors, in plain Lean: no program in sight.
-/
import Derived.Test.YtjacmhlcodjhcaaDivMath
namespace Go.Proofs.Ytjacmhlcodjhcaa
open Tw
set_option linter.unusedVariables false

theorem odd_coprime {y : Nat} (h : y % 2 = 1) (j : Nat) : Nat.Coprime (2 ^ j) y := by
  apply Nat.Coprime.pow_left
  show Nat.gcd 2 y = 1
  rw [Nat.gcd_rec, h]; rfl

/-- Twos of the one are nothing to an odd other one. -/
theorem gcd_odd {m y : Nat} (j : Nat) (h : y % 2 = 1) : Nat.gcd (m * 2 ^ j) y = Nat.gcd m y :=
  Nat.Coprime.gcd_mul_right_cancel m (odd_coprime h j)

theorem gcd_minus {x y : Nat} (h : y ≤ x) : Nat.gcd (x - y) y = Nat.gcd x y := Nat.gcd_sub_self_left h

theorem gcd_twos {x y n k : Nat} (hx : x % 2 = 1) (hy : y % 2 = 1) : Nat.gcd (x * 2 ^ n) (y * 2 ^ k) = Nat.gcd x y * 2 ^ min n k := by
  rcases Nat.le_total n k with h | h
  · obtain ⟨j, rfl⟩ := Nat.exists_eq_add_of_le h
    rw [Nat.min_eq_left h, Nat.add_comm n j, Nat.pow_add, ← Nat.mul_assoc, Nat.gcd_mul_right]
    congr 1
    rw [Nat.gcd_comm, gcd_odd j hx, Nat.gcd_comm]
  · obtain ⟨j, rfl⟩ := Nat.exists_eq_add_of_le h
    rw [Nat.min_eq_right h, Nat.add_comm k j, Nat.pow_add, ← Nat.mul_assoc, Nat.gcd_mul_right, gcd_odd j hy]

theorem gcd_step (a b : Nat) : Nat.gcd b (a % b) = Nat.gcd a b := by
  rw [Nat.gcd_comm b, ← Nat.gcd_rec, Nat.gcd_comm]

theorem limbs_even {n : Nat} (h : n ≠ 0) : nth (limbs n) 0 % 2 = n % 2 := by
  rw [limbs_pos h]
  show n % B % 2 = n % 2
  rw [B_eq]; omega

theorem pow_le_bits {m k n : Nat} (h : n = m * 2 ^ k) (hn : n ≠ 0) : k < nbits n := by
  apply nbits_gt
  rcases Nat.eq_zero_or_pos m with rfl | hm
  · rw [Nat.zero_mul] at h; exact absurd h hn
  · rw [h]; exact Nat.le_mul_of_pos_left _ hm

theorem gcd_pos_right {a b : Nat} (h : 0 < b) : 0 < Nat.gcd a b := Nat.gcd_pos_of_pos_right a h

end Go.Proofs.Ytjacmhlcodjhcaa
