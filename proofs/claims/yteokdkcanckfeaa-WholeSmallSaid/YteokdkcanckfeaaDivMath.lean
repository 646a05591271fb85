/-
  Division and roots of nats, in plain Lean: no program in sight.
-/
import Derived.Test.YteokdkcanckfeaaMath
namespace Go.Proofs.Yteokdkcanckfeaa
open Tw
set_option linter.unusedVariables false

/-- What the highest words tell is no less than the quotient. -/
theorem guess_ge {r b t P : Nat} (hP : 0 < P) (ht : 0 < t) (hb : t * P ≤ b) : r / b ≤ r / P / t := by
  rw [Nat.div_div_eq_div_mul]
  exact Nat.div_le_div_left (by rw [Nat.mul_comm]; exact hb) (Nat.mul_pos hP ht)

theorem div_step (x y b : Nat) (hb : 0 < b) : (x + B * y) / b = (x + B * (y % b)) / b + B * (y / b) := by
  have h : x + B * y = (x + B * (y % b)) + b * (B * (y / b)) := by
    have h1 := Nat.mod_add_div y b
    have h2 : B * y = B * (y % b) + B * (b * (y / b)) := by rw [← Nat.mul_add, h1]
    rw [h2, Nat.mul_left_comm b]; omega
  rw [h, Nat.add_mul_div_left _ _ hb]

theorem mod_step (x y b : Nat) : (x + B * y) % b = (x + B * (y % b)) % b := by
  have h : x + B * y = (x + B * (y % b)) + b * (B * (y / b)) := by
    have h1 := Nat.mod_add_div y b
    have h2 : B * y = B * (y % b) + B * (b * (y / b)) := by rw [← Nat.mul_add, h1]
    rw [h2, Nat.mul_left_comm b]; omega
  rw [h, Nat.add_mul_mod_self_left]

theorem rest_lt {x r b : Nat} (hx : x < B) (hr : r < b) : x + B * r < B * b := by
  have h : B * r + B ≤ B * b := by rw [← Nat.mul_succ]; exact Nat.mul_le_mul_left B hr
  omega

theorem digit_lt {x r b : Nat} (hx : x < B) (hr : r < b) : (x + B * r) / b < B := by
  rw [Nat.div_lt_iff_lt_mul (by omega)]
  exact rest_lt hx hr

/-- The greatest q, not above a start that is no less than the quotient, whose product is not above, is the quotient. -/
theorem digit_eq {rest b q : Nat} (hb : 0 < b) (h1 : b * q ≤ rest) (h2 : rest / b ≤ q) : q = rest / b :=
  Nat.le_antisymm ((Nat.le_div_iff_mul_le hb).2 (by rw [Nat.mul_comm]; exact h1)) h2

theorem digit_down {rest b q : Nat} (hb : 0 < b) (h1 : rest < b * q) (h2 : rest / b ≤ q) : 0 < q ∧ rest / b ≤ q - 1 := by
  have h3 : rest / b < q := (Nat.div_lt_iff_lt_mul hb).2 (by rw [Nat.mul_comm]; exact h1)
  exact ⟨Nat.lt_of_le_of_lt (Nat.zero_le _) h3, Nat.le_sub_one_of_lt h3⟩

theorem digit_left {rest b : Nat} : rest - b * (rest / b) = rest % b := by
  have := Nat.mod_add_div rest b
  omega

/-- Both shifted: the quotient stays, what is left is shifted. -/
theorem shifted_div {a b p : Nat} (hp : 0 < p) : a * p / (b * p) = a / b := Nat.mul_div_mul_right a b hp
theorem shifted_mod {a b p : Nat} (hp : 0 < p) : a * p % (b * p) / p = a % b := by
  rw [Nat.mul_mod_mul_right, Nat.mul_div_cancel _ hp]

/-- Newton's step stays no less than the root. -/
theorem newton_ge {n x : Nat} (hx : 0 < x) : n < ((x + n / x) / 2 + 1) * ((x + n / x) / 2 + 1) := by
  obtain ⟨q, hq⟩ : ∃ q, n / x = q := ⟨_, rfl⟩
  have h1 : n < x * (q + 1) := by
    have h2 := Nat.mod_add_div n x
    have h3 := Nat.mod_lt n hx
    rw [hq] at h2
    rw [Nat.mul_add, Nat.mul_one]; omega
  rw [hq]
  obtain ⟨y, hy⟩ : ∃ y, (x + q) / 2 + 1 = y := ⟨_, rfl⟩
  have h4 : x + (q + 1) ≤ 2 * y := by omega
  rw [hy]
  have h5 : (x + (q + 1)) * (x + (q + 1)) ≤ 2 * y * (2 * y) := Nat.mul_le_mul h4 h4
  have h6 : 4 * (x * (q + 1)) ≤ (x + (q + 1)) * (x + (q + 1)) := by
    rcases Nat.le_total x (q + 1) with h | h
    · obtain ⟨d, hd⟩ := Nat.exists_eq_add_of_le h
      rw [hd]
      have : (x + (x + d)) * (x + (x + d)) = 4 * (x * (x + d)) + d * d := by
        simp only [Nat.add_mul, Nat.mul_add, Nat.mul_comm d x]; omega
      omega
    · obtain ⟨d, hd⟩ := Nat.exists_eq_add_of_le h
      rw [hd]
      obtain ⟨m, hm⟩ : ∃ m, q + 1 = m := ⟨_, rfl⟩
      rw [hm]
      have : (m + d + m) * (m + d + m) = 4 * ((m + d) * m) + d * d := by
        simp only [Nat.add_mul, Nat.mul_add, Nat.mul_comm d m]; omega
      omega
  have h7 : 2 * y * (2 * y) = 4 * (y * y) := by
    rw [Nat.mul_assoc, Nat.mul_left_comm y 2 y]; omega
  omega

/-- Where Newton's step does not go down, the root is reached. -/
theorem newton_stop {n x : Nat} (hx : 0 < x) (h : x ≤ (x + n / x) / 2) : x * x ≤ n := by
  have h1 : x ≤ n / x := by omega
  exact Nat.le_trans (Nat.mul_le_mul_left x h1) (Nat.mul_div_le n x)

theorem val_split {l : List Nat} {k : Nat} (hk : k ≤ l.length) : val l = val (l.take k) + B ^ k * val (l.drop k) := by
  conv => lhs; rw [← List.take_append_drop k l]
  rw [val_append, List.length_take, Nat.min_eq_left hk]

theorem val_shr {l : List Nat} (h : Small l) {k : Nat} (hk : k ≤ l.length) : val l / B ^ k = val (l.drop k) := by
  rw [val_split hk, Nat.add_mul_div_left _ _ (Nat.pow_pos B_pos), Nat.div_eq_of_lt (val_take_lt h k), Nat.zero_add]

/-- A bit of a nat is a bit of its word. -/
theorem bit_eq {l : List Nat} (h : Small l) {k r : Nat} (hk : k < l.length) (hr : r < 32) : val l / 2 ^ (32 * k + r) % 2 = nth l k / 2 ^ r % 2 := by
  have h1 : (2 : Nat) ^ (32 * k + r) = B ^ k * 2 ^ r := by rw [Nat.pow_add, Nat.pow_mul]; rfl
  rw [h1, ← Nat.div_div_eq_div_mul, val_shr h (by omega), val_drop hk]
  obtain ⟨Y, hY⟩ : ∃ Y, val (l.drop (k + 1)) = Y := ⟨_, rfl⟩
  have h2 : B = 2 ^ r * (2 * 2 ^ (31 - r)) := by
    rw [← Nat.pow_succ', ← Nat.pow_add, show r + (31 - r).succ = 32 by omega]; rfl
  have h3 : B * Y = 2 ^ r * (2 * (2 ^ (31 - r) * Y)) := by rw [h2]; simp only [Nat.mul_assoc]
  rw [hY, h3, Nat.add_mul_div_left _ _ (Nat.pow_pos (by omega)), Nat.add_mul_mod_self_left]

/-- One bit more: the quotient and what is left, by definition. -/
theorem bit_div {x y b : Nat} (hb : 0 < b) (hx : x < 2) : (2 * y + x) / b = 2 * (y / b) + (if b ≤ 2 * (y % b) + x then 1 else 0) := by
  have h1 := Nat.mod_add_div y b
  have h2 := Nat.mod_lt y hb
  have h : 2 * y + x = (2 * (y % b) + x) + b * (2 * (y / b)) := by
    rw [Nat.mul_left_comm b]; omega
  rw [h, Nat.add_mul_div_left _ _ hb]
  split
  · next h3 =>
    have : (2 * (y % b) + x) / b = 1 := by
      rw [Nat.div_eq_of_lt_le] <;> omega
    omega
  · next h3 => rw [Nat.div_eq_of_lt (by omega)]; omega

theorem bit_mod {x y b : Nat} (hb : 0 < b) (hx : x < 2) : (2 * y + x) % b = if b ≤ 2 * (y % b) + x then 2 * (y % b) + x - b else 2 * (y % b) + x := by
  have h1 := Nat.mod_add_div y b
  have h2 := Nat.mod_lt y hb
  have h : 2 * y + x = (2 * (y % b) + x) + b * (2 * (y / b)) := by
    rw [Nat.mul_left_comm b]; omega
  rw [h, Nat.add_mul_mod_self_left]
  split
  · next h3 => rw [Nat.mod_eq_sub_mod h3, Nat.mod_eq_of_lt (by omega)]
  · next h3 => rw [Nat.mod_eq_of_lt (by omega)]

theorem val_drop_set {Z : List Nat} {j x : Nat} (h : j < Z.length) : val ((Z.set j x).drop j) = x + B * val (Z.drop (j + 1)) := by
  rw [val_drop (by simpa using h), nth_set_eq h, List.drop_set_of_lt (by omega)]

/-- One word more from above: the quotient's word, and what is left. -/
theorem word_div {Z la : List Nat} {j d : Nat} (hd : 0 < d) (hZ : j < Z.length) (hl : j < la.length) (hv : val (Z.drop (j + 1)) = val (la.drop (j + 1)) / d) :
    val ((Z.set j ((nth la j + B * (val (la.drop (j + 1)) % d)) / d)).drop j) = val (la.drop j) / d := by
  rw [val_drop_set hZ, hv, val_drop hl]
  exact (div_step _ _ _ hd).symm

theorem word_mod {la : List Nat} {j d : Nat} (hl : j < la.length) : val (la.drop j) % d = (nth la j + B * (val (la.drop (j + 1)) % d)) % d := by
  rw [val_drop hl]
  exact mod_step _ _ _

theorem drop_all {l : List Nat} {n : Nat} (h : l.length ≤ n) : val (l.drop n) = 0 := by
  rw [List.drop_eq_nil_of_le h]; rfl

/-- The highest words of a number that is less than B times another one. -/
theorem guess_top {R D n : Nat} (hD : 0 < D) (hn : sz D = n) (hR : R < B * D) : sz R ≤ n + 1 := by
  apply sz_le
  have h1 := lt_sz D
  rw [hn] at h1
  rw [Nat.pow_succ, Nat.mul_comm]
  exact Nat.lt_of_lt_of_le hR (Nat.mul_le_mul_left _ (Nat.le_of_lt h1))

theorem nth_top {D n : Nat} (hD : 0 < D) (hn : sz D = n + 1) : 0 < nth (limbs D) n ∧ nth (limbs D) n * B ^ n ≤ D := by
  have h0 : sz (val (limbs D)) ≠ 0 := by rw [val_limbs]; omega
  have h1 := nth_last (limbs_small D) h0
  rw [val_limbs, hn, Nat.add_sub_cancel] at h1
  refine ⟨Nat.pos_of_ne_zero h1, ?_⟩
  have h2 := val_take_succ' (limbs D) n
  rw [val_take_all (by rw [sz_def]; omega), val_limbs] at h2
  rw [Nat.mul_comm]; omega

theorem top_words {R n : Nat} (hn : sz R ≤ n + 2) (hl : n < sz R) : R / B ^ n = nth (limbs R) n + B * nth (limbs R) (n + 1) := by
  have h1 := val_shr (limbs_small R) (k := n) (by rw [sz_def]; omega)
  rw [val_limbs] at h1
  rw [h1, val_drop (by rw [sz_def]; exact hl)]
  congr 2
  by_cases h : n + 1 < sz R
  · rw [val_drop (by rw [sz_def]; exact h), drop_all (by rw [sz_def]; omega)]; omega
  · rw [drop_all (by rw [sz_def]; omega), nth_ge (by rw [sz_def]; omega)]

theorem guess_ok {R D n : Nat} (hD : 0 < D) (hn : sz D = n + 1) (hR : R < B * D) (hl : n < sz R) :
    R / D ≤ (nth (limbs R) (n + 1) * 4294967296 + nth (limbs R) n) / nth (limbs D) n := by
  obtain ⟨h1, h2⟩ := nth_top hD hn
  have h3 := guess_ge (r := R) (Nat.pow_pos (n := n) B_pos) h1 h2
  rw [top_words (guess_top hD hn hR) hl, B_eq] at h3
  rw [Nat.mul_comm (nth (limbs R) (n + 1)), Nat.add_comm]
  exact h3

theorem digit_small {x r d : Nat} (hx : x < 4294967296) (hd : 0 < d) (hr : r < d) : (r * 4294967296 + x) / d < 4294967296 := by
  rw [Nat.div_lt_iff_lt_mul hd, Nat.mul_comm 4294967296]
  have : (r + 1) * 4294967296 ≤ d * 4294967296 := Nat.mul_le_mul_right _ hr
  omega

theorem guess_zero {R D : Nat} (h : sz R < sz D) : R / D = 0 := Nat.div_eq_of_lt (lt_of_sz h)

theorem guess_max {R D : Nat} (hD : 0 < D) (hR : R < B * D) : R / D ≤ 4294967295 := by
  have : R / D < B := (Nat.div_lt_iff_lt_mul hD).2 hR
  rw [B_eq] at this; omega

end Go.Proofs.Yteokdkcanckfeaa
