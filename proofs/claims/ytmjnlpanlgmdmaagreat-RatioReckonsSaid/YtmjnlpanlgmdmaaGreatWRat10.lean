/-
  Rational numbers: laws of order and of powers (plain); both packages' powers beside each other.
-/
import Derived.Test.YtmjnlpanlgmdmaaGreatG19
namespace Go.Proofs.YtmjnlpanlgmdmaaGreat
open Go.RowKit Tw
set_option linter.unusedVariables false
set_option linter.unusedSimpArgs false

theorem rtext_size {x : Rat} (h : szq x ≤ 4) : (ba (rtext x)).size ≤ 900 := by
  rw [ba_size]
  have h1 := digs_text (n := x.num.natAbs) (Nat.le_trans (szq_num x) h)
  have h2 := digs_text (n := x.den) (Nat.le_trans (szq_den x) h)
  have h3 : (itext x.num).length ≤ (digs x.num.natAbs).length + 1 := by
    unfold itext
    split <;> simp
  unfold rtext
  split
  · omega
  · rw [List.length_append, List.length_cons]; omega

theorem cmpQ_bounds (a b : Rat) : -1 ≤ cmpQ a b ∧ cmpQ a b ≤ 1 := by
  unfold cmpQ
  split
  · omega
  · split <;> omega

theorem two_val : ((2 : Int) : Rat) = 2 := rfl

theorem cmp_half1 (a b : Rat) : cmpQ a ((a + b) / ((2 : Int) : Rat)) = cmpQ a b := by
  rw [two_val]
  unfold cmpQ
  have h1 : a < (a + b) / 2 ↔ a < b := by constructor <;> intro h <;> grind
  have h2 : (a + b) / 2 < a ↔ b < a := by constructor <;> intro h <;> grind
  simp only [h1, h2]

theorem cmp_half2 (a b : Rat) : cmpQ ((a + b) / ((2 : Int) : Rat)) b = cmpQ a b := by
  rw [two_val]
  unfold cmpQ
  have h1 : (a + b) / 2 < b ↔ a < b := by constructor <;> intro h <;> grind
  have h2 : b < (a + b) / 2 ↔ b < a := by constructor <;> intro h <;> grind
  simp only [h1, h2]

theorem cmp_more (a b c : Rat) : cmpQ (a + c) (b + c) = cmpQ a b := by
  unfold cmpQ
  have h1 : a + c < b + c ↔ a < b := by constructor <;> intro h <;> grind
  have h2 : b + c < a + c ↔ b < a := by constructor <;> intro h <;> grind
  simp only [h1, h2]

theorem cmp_neg (a b : Rat) : cmpQ (-b) (-a) = cmpQ a b := by
  unfold cmpQ
  have h1 : -b < -a ↔ a < b := by constructor <;> intro h <;> grind
  have h2 : -a < -b ↔ b < a := by constructor <;> intro h <;> grind
  simp only [h1, h2]

theorem cmp_turn (a b : Rat) : cmpQ b a = -cmpQ a b := by
  unfold cmpQ
  by_cases h1 : a < b
  · rw [if_pos h1, if_neg (by grind), if_pos h1]; rfl
  · by_cases h2 : b < a
    · rw [if_pos h2, if_neg h1, if_pos h2]
    · rw [if_neg h2, if_neg h1, if_neg h1, if_neg h2]; rfl

theorem rat_same {n : Nat} (h : n ≠ 0) : rat false n n = 1 := by
  unfold rat
  rw [sgn_false, Rat.mkRat_eq_div]
  have : (n : Rat) ≠ 0 := by
    intro e
    exact h (by exact_mod_cast e)
  show ((n : Int) : Rat) / (n : Rat) = 1
  rw [show ((n : Int) : Rat) = (n : Rat) from rfl]
  grind

theorem rat_pow_add (x : Rat) (i j : Nat) : x ^ (i + j) = x ^ i * x ^ j := by
  induction j with
  | zero => rw [Rat.pow_zero, Rat.mul_one]; rfl
  | succ j ih => rw [← Nat.add_assoc, Rat.pow_succ, Rat.pow_succ, ih, Rat.mul_assoc]

theorem pow_int {x : Rat} (b : Bool) (v u : Value) (ln ld : List Nat) (n : Int) (k : Nat) (w : World) (h : IsQ w b v u ln ld x) (hk : (k : Int) = n) (hn' : n ≤ 64) (hs : szq x * k ≤ 999) :
    Calls Tryz.prog 19 #[aggR b v u, .int .i64 n] w (GivesQK w (x ^ k)) := by
  subst hk
  have := pow_pos b v u ln ld (k : Int) w h (by omega) hn' (by rw [Int.toNat_natCast]; exact hs)
  rwa [Int.toNat_natCast] at this

end Go.Proofs.YtmjnlpanlgmdmaaGreat

