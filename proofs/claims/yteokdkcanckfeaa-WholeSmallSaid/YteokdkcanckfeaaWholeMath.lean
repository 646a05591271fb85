/-
  Integers by sign and magnitude, in plain terms
-/
import Derived.Test.YteokdkcanckfeaaMath
namespace Go.Proofs.Yteokdkcanckfeaa
open Tw
set_option linter.unusedVariables false

/-- The integer that a sign and a magnitude are. -/
def sgn (b : Bool) (n : Nat) : Int := if b then -(n : Int) else n

theorem sgn_canon (z : Int) : sgn (decide (z < 0)) z.natAbs = z := by
  unfold sgn
  by_cases h : z < 0
  · simp [h]; omega
  · simp [h]; omega
theorem sgn_abs (b : Bool) (n : Nat) : (sgn b n).natAbs = n := by
  unfold sgn; cases b <;> simp
theorem sgn_neg (b : Bool) (n : Nat) : decide (sgn b n < 0) = (b && decide (0 < n)) := by
  unfold sgn
  cases b <;> simp <;> omega
theorem sgn_not (b : Bool) (n : Nat) : sgn (!b) n = - sgn b n := by
  unfold sgn; cases b <;> simp
theorem sgn_zero (b : Bool) : sgn b 0 = 0 := by unfold sgn; cases b <;> rfl
theorem sgn_same (b : Bool) (m n : Nat) : sgn b (m + n) = sgn b m + sgn b n := by
  unfold sgn; cases b <;> simp <;> omega
theorem sgn_less {b c : Bool} {m n : Nat} (hbc : b ≠ c) (h : n ≤ m) : sgn b (m - n) = sgn b m + sgn c n := by
  unfold sgn; cases b <;> cases c <;> simp_all <;> omega
theorem sgn_more {b c : Bool} {m n : Nat} (hbc : b ≠ c) (h : m < n) : sgn c (n - m) = sgn b m + sgn c n := by
  unfold sgn; cases b <;> cases c <;> simp_all <;> omega
theorem sgn_mul (b c : Bool) (m n : Nat) : sgn (b != c) (m * n) = sgn b m * sgn c n := by
  unfold sgn; cases b <;> cases c <;> simp [Int.neg_mul, Int.mul_neg]
theorem sgn_false (n : Nat) : sgn false n = n := rfl
theorem sgn_true (n : Nat) : sgn true n = -(n : Int) := rfl

/-- How two integers are to each other. -/
def cmpZ (a b : Int) : Int := if a < b then -1 else if b < a then 1 else 0
theorem cmpZ_eq (a b : Int) : cmpZ a b = if (a - b) = 0 then 0 else if a - b < 0 then -1 else 1 := by
  unfold cmpZ
  by_cases h1 : a < b
  · rw [if_pos h1, if_neg (by omega), if_pos (by omega)]
  · rw [if_neg h1]
    by_cases h2 : b < a
    · rw [if_pos h2, if_neg (by omega), if_neg (by omega)]
    · rw [if_neg h2, if_pos (by omega)]

theorem cmpN_range (m n : Nat) : -1 ≤ cmpN m n ∧ cmpN m n ≤ 1 := by
  unfold cmpN; split
  · omega
  · split <;> omega
theorem cmpZ_nn {x y : Int} (hx : x < 0) (hy : y < 0) : cmpZ x y = - cmpN x.natAbs y.natAbs := by
  unfold cmpZ cmpN
  by_cases h1 : x < y
  · rw [if_pos h1, if_neg (by omega), if_pos (by omega)]
  · rw [if_neg h1]
    by_cases h2 : y < x
    · rw [if_pos h2, if_pos (by omega)]; rfl
    · rw [if_neg h2, if_neg (by omega), if_neg (by omega)]; rfl
theorem cmpZ_pp {x y : Int} (hx : ¬ x < 0) (hy : ¬ y < 0) : cmpZ x y = cmpN x.natAbs y.natAbs := by
  unfold cmpZ cmpN
  by_cases h1 : x < y
  · rw [if_pos h1, if_pos (by omega)]
  · rw [if_neg h1]
    by_cases h2 : y < x
    · rw [if_pos h2, if_neg (by omega), if_pos (by omega)]
    · rw [if_neg h2, if_neg (by omega), if_neg (by omega)]
theorem cmpZ_np {x y : Int} (hx : x < 0) (hy : ¬ y < 0) : cmpZ x y = -1 := by
  unfold cmpZ; rw [if_pos (by omega)]
theorem cmpZ_pn {x y : Int} (hx : ¬ x < 0) (hy : y < 0) : cmpZ x y = 1 := by
  unfold cmpZ; rw [if_neg (by omega), if_pos (by omega)]

/-- How many words an integer's magnitude has. -/
def szi (z : Int) : Nat := sz z.natAbs
theorem szi_def (z : Int) : sz z.natAbs = szi z := rfl
theorem szi_sgn (b : Bool) (n : Nat) : szi (sgn b n) = sz n := by unfold szi; rw [sgn_abs]
theorem szi_add (x y : Int) : szi (x + y) ≤ max (szi x) (szi y) + 1 := by
  unfold szi
  exact Nat.le_trans (sz_mono (Int.natAbs_add_le x y)) (sz_add _ _)
theorem szi_neg (x : Int) : szi (-x) = szi x := by unfold szi; rw [Int.natAbs_neg]
theorem szi_sub (x y : Int) : szi (x - y) ≤ max (szi x) (szi y) + 1 := by
  have := szi_add x (-y)
  rw [szi_neg] at this
  exact this
theorem szi_mul (x y : Int) : szi (x * y) ≤ szi x + szi y := by
  unfold szi; rw [Int.natAbs_mul]; exact sz_mul _ _

end Go.Proofs.Yteokdkcanckfeaa
