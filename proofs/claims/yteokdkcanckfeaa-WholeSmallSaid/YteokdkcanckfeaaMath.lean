/-
  Plain facts on numbers and lists of words: a list of words is a number ('val'), a number is one list of words ('limbs'). No program in sight.
-/
namespace Go.Proofs.Yteokdkcanckfeaa.Tw
set_option linter.unusedVariables false
set_option linter.unusedSimpArgs false

def B : Nat := 4294967296
theorem B_eq : B = 4294967296 := rfl
theorem B_pos : 0 < B := by decide

/-- The word at a place (0 beyond the end). -/
def nth (l : List Nat) (i : Nat) : Nat := l.getD i 0
theorem nth_def (l : List Nat) (i : Nat) : nth l i = l.getD i 0 := rfl
theorem nth_of {l : List Nat} {i : Nat} (h : i < l.length) : nth l i = l[i] := by
  rw [nth_def, List.getD_eq_getElem?_getD, List.getElem?_eq_getElem h]; rfl
theorem nth_ge {l : List Nat} {i : Nat} (h : l.length ≤ i) : nth l i = 0 := by
  rw [nth_def, List.getD_eq_getElem?_getD, List.getElem?_eq_none h]; rfl

def val : List Nat → Nat
  | [] => 0
  | x :: t => x + B * val t

def limbsF : Nat → Nat → List Nat
  | 0, _ => []
  | f + 1, n => if n = 0 then [] else n % B :: limbsF f (n / B)

def limbs (n : Nat) : List Nat := limbsF n n

def Small (l : List Nat) : Prop := ∀ x, x ∈ l → x < B

theorem div_B_lt {n : Nat} (h : n ≠ 0) : n / B < n := Nat.div_lt_self (Nat.pos_of_ne_zero h) (by decide)

theorem limbsF_eq : ∀ (n f g : Nat), n ≤ f → n ≤ g → limbsF f n = limbsF g n := by
  intro n
  induction n using Nat.strongRecOn with
  | ind n ih =>
    intro f g hf hg
    by_cases h0 : n = 0
    · subst h0
      cases f <;> cases g <;> simp [limbsF]
    · obtain ⟨f, rfl⟩ : ∃ k, f = k + 1 := ⟨f - 1, by omega⟩
      obtain ⟨g, rfl⟩ : ∃ k, g = k + 1 := ⟨g - 1, by omega⟩
      have hd := div_B_lt h0
      simp only [limbsF, if_neg h0]
      rw [ih (n / B) hd f g (by omega) (by omega)]

theorem limbs_zero : limbs 0 = [] := rfl
theorem limbs_pos {n : Nat} (h : n ≠ 0) : limbs n = n % B :: limbs (n / B) := by
  obtain ⟨k, rfl⟩ : ∃ k, n = k + 1 := ⟨n - 1, by omega⟩
  have hd := div_B_lt h
  show limbsF (k + 1) (k + 1) = _
  simp only [limbsF, if_neg h]
  rw [limbsF_eq _ k ((k + 1) / B) (by omega) (Nat.le_refl _)]
  rfl

theorem val_nil : val [] = 0 := rfl
theorem val_cons (x : Nat) (t : List Nat) : val (x :: t) = x + B * val t := rfl

theorem val_limbs (n : Nat) : val (limbs n) = n := by
  induction n using Nat.strongRecOn with
  | ind n ih =>
    by_cases h0 : n = 0
    · subst h0; rfl
    · rw [limbs_pos h0, val_cons, ih _ (div_B_lt h0)]
      exact Nat.mod_add_div n B

theorem limbs_inj {m n : Nat} (h : limbs m = limbs n) : m = n := by
  rw [← val_limbs m, ← val_limbs n, h]

theorem small_nil : Small [] := fun _ h => by cases h
theorem small_cons {x : Nat} {t : List Nat} : Small (x :: t) ↔ x < B ∧ Small t :=
  ⟨fun h => ⟨h x (by simp), fun y hy => h y (by simp [hy])⟩, fun h y hy => by
    rcases List.mem_cons.1 hy with rfl | hy
    · exact h.1
    · exact h.2 y hy⟩
theorem small_append {a b : List Nat} : Small (a ++ b) ↔ Small a ∧ Small b :=
  ⟨fun h => ⟨fun x hx => h x (by simp [hx]), fun x hx => h x (by simp [hx])⟩, fun h x hx => by
    rcases List.mem_append.1 hx with hx | hx
    · exact h.1 x hx
    · exact h.2 x hx⟩
theorem Small.take {l : List Nat} (h : Small l) (n : Nat) : Small (l.take n) := fun x hx => h x (List.mem_of_mem_take hx)
theorem Small.drop {l : List Nat} (h : Small l) (n : Nat) : Small (l.drop n) := fun x hx => h x (List.mem_of_mem_drop hx)
theorem Small.nth {l : List Nat} (h : Small l) (i : Nat) : nth l i < B := by
  rw [nth_def, List.getD_eq_getElem?_getD]
  by_cases hi : i < l.length
  · simp [hi]; exact h _ (List.getElem_mem hi)
  · simp [Nat.not_lt.1 hi]; decide
theorem small_replicate (n : Nat) : Small (List.replicate n 0) := fun x hx => by
  rw [(List.mem_replicate.1 hx).2]; decide

theorem limbs_small (n : Nat) : Small (limbs n) := by
  induction n using Nat.strongRecOn with
  | ind n ih =>
    by_cases h0 : n = 0
    · subst h0; exact small_nil
    · rw [limbs_pos h0]
      exact small_cons.2 ⟨Nat.mod_lt _ B_pos, ih _ (div_B_lt h0)⟩

theorem val_append (a b : List Nat) : val (a ++ b) = val a + B ^ a.length * val b := by
  induction a with
  | nil => simp [val]
  | cons x t ih =>
    simp only [List.cons_append, val, List.length_cons, ih, Nat.pow_succ]
    rw [Nat.mul_add, Nat.add_assoc, Nat.mul_comm (B ^ t.length) B, Nat.mul_assoc]

theorem val_replicate (n : Nat) : val (List.replicate n 0) = 0 := by
  induction n with
  | zero => rfl
  | succ n ih => simp [List.replicate_succ, val, ih]

theorem val_lt {l : List Nat} (h : Small l) : val l < B ^ l.length := by
  induction l with
  | nil => simp [val]
  | cons x t ih =>
    have hx := (small_cons.1 h).1
    have ht := ih (small_cons.1 h).2
    simp only [val, List.length_cons, Nat.pow_succ]
    have : B * (val t + 1) ≤ B * B ^ t.length := Nat.mul_le_mul_left _ ht
    rw [Nat.mul_comm (B ^ t.length)]
    rw [Nat.mul_add] at this
    omega

theorem limbs_length_le {n k : Nat} (h : n < B ^ k) : (limbs n).length ≤ k := by
  induction k generalizing n with
  | zero => have : n = 0 := by simpa using h
            subst this; simp [limbs_zero]
  | succ k ih =>
    by_cases h0 : n = 0
    · subst h0; simp [limbs_zero]
    · rw [limbs_pos h0]
      have : n / B < B ^ k := by
        rw [Nat.div_lt_iff_lt_mul B_pos]; rwa [Nat.pow_succ] at h
      have := ih this
      simp; omega

theorem lt_pow_limbs (n : Nat) : n < B ^ (limbs n).length := by
  have := val_lt (limbs_small n)
  rwa [val_limbs] at this

theorem pow_le_of_limbs {n : Nat} (h : n ≠ 0) : B ^ ((limbs n).length - 1) ≤ n := by
  induction n using Nat.strongRecOn with
  | ind n ih =>
    rw [limbs_pos h]
    simp only [List.length_cons, Nat.add_sub_cancel]
    by_cases hd : n / B = 0
    · rw [hd, limbs_zero]; simp; omega
    · have h1 := ih _ (div_B_lt h) hd
      have h2 : (limbs (n / B)).length ≠ 0 := by rw [limbs_pos hd]; simp
      obtain ⟨k, hk⟩ : ∃ k, (limbs (n / B)).length = k + 1 := ⟨_, (Nat.succ_pred h2).symm⟩
      rw [hk] at h1 ⊢
      simp only [Nat.add_sub_cancel] at h1
      rw [Nat.pow_succ]
      exact Nat.le_trans (Nat.mul_le_mul_right _ h1) (Nat.div_mul_le_self n B)

/-- 'sz n': how many words a number has. -/
def sz (n : Nat) : Nat := (limbs n).length
theorem sz_def (n : Nat) : (limbs n).length = sz n := rfl
theorem sz_le {n k : Nat} (h : n < B ^ k) : sz n ≤ k := limbs_length_le h
theorem lt_sz (n : Nat) : n < B ^ sz n := lt_pow_limbs n
theorem sz_mono {m n : Nat} (h : m ≤ n) : sz m ≤ sz n := sz_le (Nat.lt_of_le_of_lt h (lt_sz n))
theorem sz_val {l : List Nat} (h : Small l) : sz (val l) ≤ l.length := sz_le (val_lt h)
theorem sz_add (m n : Nat) : sz (m + n) ≤ max (sz m) (sz n) + 1 := by
  apply sz_le
  have h1 : m < B ^ max (sz m) (sz n) := Nat.lt_of_lt_of_le (lt_sz m) (Nat.pow_le_pow_right B_pos (Nat.le_max_left _ _))
  have h2 : n < B ^ max (sz m) (sz n) := Nat.lt_of_lt_of_le (lt_sz n) (Nat.pow_le_pow_right B_pos (Nat.le_max_right _ _))
  rw [Nat.pow_succ, B_eq]
  rw [B_eq] at h1 h2
  omega
theorem sz_mul (m n : Nat) : sz (m * n) ≤ sz m + sz n := by
  apply sz_le
  rw [Nat.pow_add]
  exact Nat.mul_lt_mul'' (lt_sz m) (lt_sz n)
theorem sz_sub (m n : Nat) : sz (m - n) ≤ sz m := sz_mono (Nat.sub_le _ _)
theorem sz_div (m n : Nat) : sz (m / n) ≤ sz m := sz_mono (Nat.div_le_self _ _)
theorem sz_mod (m n : Nat) : sz (m % n) ≤ sz m := sz_mono (Nat.mod_le _ _)
theorem sz_word {n : Nat} (h : n < 4294967296) : sz n ≤ 1 := sz_le (by rw [B_eq]; simpa using h)
theorem sz_zero : sz 0 = 0 := rfl
theorem sz_eq_zero {n : Nat} : sz n = 0 ↔ n = 0 := by
  constructor
  · intro h
    have := lt_sz n
    rw [h] at this
    simpa using this
  · intro h; subst h; rfl

/-- A list whose last word isn't 0 is its number's. -/
theorem limbs_val_of_last {l : List Nat} (h : Small l) (hl : l = [] ∨ nth l (l.length - 1) ≠ 0) : limbs (val l) = l := by
  induction l with
  | nil => rfl
  | cons x t ih =>
    have hx := (small_cons.1 h).1
    have hs := (small_cons.1 h).2
    have hlast : x + B * val t ≠ 0 ∧ (t = [] ∨ nth t (t.length - 1) ≠ 0) := by
      rcases hl with hl | hl
      · cases hl
      · cases t with
        | nil => simp [nth_def] at hl; exact ⟨by simp [val]; omega, .inl rfl⟩
        | cons y u =>
          simp [nth_def] at hl
          refine ⟨?_, .inr (by simpa [nth_def] using hl)⟩
          intro h0
          have hv : val (y :: u) = 0 := by
            have : B * val (y :: u) = 0 := by omega
            rcases Nat.mul_eq_zero.1 this with h1 | h1
            · exact absurd h1 (by decide)
            · exact h1
          have hr := ih hs (.inr (by simpa [nth_def] using hl))
          rw [hv, limbs_zero] at hr
          cases hr
    rw [val_cons, limbs_pos hlast.1]
    rw [Nat.add_mul_mod_self_left, Nat.mod_eq_of_lt hx, Nat.add_mul_div_left _ _ B_pos, Nat.div_eq_of_lt hx, Nat.zero_add, ih hs hlast.2]

/-- A 0 at the end is nothing. -/
theorem val_take_succ_zero {l : List Nat} {n : Nat} (hn : n < l.length) (h : nth l n = 0) : val (l.take (n + 1)) = val (l.take n) := by
  rw [List.take_add_one, val_append]
  have : l[n]? = some 0 := by
    rw [nth_def, List.getD_eq_getElem?_getD, List.getElem?_eq_getElem hn] at h
    rw [List.getElem?_eq_getElem hn]; simpa using h
  simp [this, val]

/-- Where the words from n on are 0: the number's words are the first ones. -/
theorem limbs_of_take {l : List Nat} (h : Small l) {n : Nat} (hn : n ≤ l.length) (hv : val (l.take n) = val l) (hlast : n = 0 ∨ nth l (n - 1) ≠ 0) :
    limbs (val l) = l.take n := by
  rw [← hv]
  apply limbs_val_of_last (h.take n)
  by_cases h1 : n = 0
  · left; subst h1; rfl
  · right
    have h0 : nth l (n - 1) ≠ 0 := hlast.resolve_left h1
    rw [List.length_take, Nat.min_eq_left hn]
    rw [nth_def, List.getD_eq_getElem?_getD, List.getElem?_take_of_lt (by omega), ← List.getD_eq_getElem?_getD, ← nth_def]
    exact h0

theorem limbs_eq_take {l : List Nat} (h : Small l) : limbs (val l) = l.take (sz (val l)) := by
  -- by induction from the end
  have key : ∀ n, n ≤ l.length → ∃ m, m ≤ n ∧ val (l.take m) = val (l.take n) ∧ (m = 0 ∨ nth l (m - 1) ≠ 0) := by
    intro n
    induction n with
    | zero => intro _; exact ⟨0, Nat.le_refl _, rfl, .inl rfl⟩
    | succ n ih =>
      intro hn
      by_cases h0 : nth l n = 0
      · obtain ⟨m, hm, hv, hl⟩ := ih (by omega)
        exact ⟨m, by omega, by rw [hv, val_take_succ_zero (by omega) h0], hl⟩
      · exact ⟨n + 1, Nat.le_refl _, rfl, .inr (by simpa using h0)⟩
  obtain ⟨m, hm, hv, hl⟩ := key l.length (Nat.le_refl _)
  rw [List.take_length] at hv
  have := limbs_of_take h hm hv hl
  have hs : sz (val l) = m := by rw [← sz_def, this, List.length_take, Nat.min_eq_left hm]
  rw [hs, this]

theorem limbs_val_iff {l : List Nat} (h : Small l) : limbs (val l) = l ↔ sz (val l) = l.length := by
  constructor
  · intro e; rw [← sz_def, e]
  · intro e; rw [limbs_eq_take h, e, List.take_length]

theorem nth_append_left {a b : List Nat} {i : Nat} (h : i < a.length) : nth (a ++ b) i = nth a i := by
  simp [nth_def, List.getD_eq_getElem?_getD, List.getElem?_append_left h]

theorem nth_take {l : List Nat} {i n : Nat} (h : i < n) : nth (l.take n) i = nth l i := by
  simp [nth_def, List.getD_eq_getElem?_getD, List.getElem?_take_of_lt h]

theorem take_snoc {l : List Nat} {k : Nat} (h : k < l.length) : l.take (k + 1) = l.take k ++ [nth l k] := by
  rw [List.take_add_one, nth_of h, List.getElem?_eq_getElem h]; rfl

theorem val_snoc (a : List Nat) (x : Nat) : val (a ++ [x]) = val a + B ^ a.length * x := by
  rw [val_append]; simp [val]

theorem val_take_succ {l : List Nat} {k : Nat} (h : k < l.length) : val (l.take (k + 1)) = val (l.take k) + B ^ k * nth l k := by
  rw [take_snoc h, val_snoc, List.length_take, Nat.min_eq_left (Nat.le_of_lt h)]

theorem nth_set_eq {l : List Nat} {i x : Nat} (h : i < l.length) : nth (l.set i x) i = x := by
  rw [nth_of (by simpa using h)]; simp

theorem nth_set_ne {l : List Nat} {i j x : Nat} (h : i ≠ j) : nth (l.set i x) j = nth l j := by
  simp [nth_def, List.getD_eq_getElem?_getD, List.getElem?_set_ne h]

theorem take_set_ge {l : List Nat} {i k x : Nat} (h : k ≤ i) : (l.set i x).take k = l.take k := by
  rw [List.take_set]
  apply List.set_eq_of_length_le
  rw [List.length_take]; omega

theorem val_set_last {l : List Nat} {i x : Nat} (h : i < l.length) : val ((l.set i x).take (i + 1)) = val (l.take i) + B ^ i * x := by
  rw [val_take_succ (by simpa using h), take_set_ge (Nat.le_refl _), nth_set_eq h]

theorem val_drop {l : List Nat} {k : Nat} (h : k < l.length) : val (l.drop k) = nth l k + B * val (l.drop (k + 1)) := by
  rw [List.drop_eq_getElem_cons h, val_cons, nth_of h]

/-- How many binary digits a number is written with. -/
def nbits (n : Nat) : Nat := if n = 0 then 0 else n.log2 + 1

theorem nbits_zero : nbits 0 = 0 := rfl
theorem nbits_lt (n : Nat) : n < 2 ^ nbits n := by
  unfold nbits
  by_cases h : n = 0
  · simp [h]
  · rw [if_neg h]; exact Nat.lt_log2_self
theorem nbits_le {n k : Nat} : nbits n ≤ k ↔ n < 2 ^ k := by
  constructor
  · intro h; exact Nat.lt_of_lt_of_le (nbits_lt n) (Nat.pow_le_pow_right (by decide) h)
  · intro h
    unfold nbits
    by_cases h0 : n = 0
    · simp [h0]
    · rw [if_neg h0]; exact (Nat.log2_lt h0).2 h
theorem nbits_eq {n k : Nat} (h1 : 2 ^ k ≤ n) (h2 : n < 2 ^ (k + 1)) : nbits n = k + 1 := by
  have a : nbits n ≤ k + 1 := nbits_le.2 h2
  have b : ¬ nbits n ≤ k := fun h => by have := nbits_le.1 h; omega
  omega
theorem nbits_pos {n : Nat} (h : n ≠ 0) : ∃ k, nbits n = k + 1 ∧ 2 ^ k ≤ n ∧ n < 2 ^ (k + 1) :=
  ⟨n.log2, by simp [nbits, h], Nat.log2_self_le h, Nat.lt_log2_self⟩
theorem nbits_eq_zero {n : Nat} : nbits n = 0 ↔ n = 0 := by
  constructor
  · intro h; have := nbits_lt n; rw [h] at this; simpa using this
  · intro h; subst h; rfl
theorem nbits_half {n : Nat} (h : 0 < n) : nbits n = nbits (n / 2) + 1 := by
  obtain ⟨k, hk, h1, h2⟩ := nbits_pos (Nat.ne_of_gt h)
  rw [hk]
  cases k with
  | zero =>
    have : n = 1 := by simp at h1 h2; omega
    subst this; rfl
  | succ k =>
    rw [nbits_eq (n := n / 2) (k := k) (by rw [Nat.pow_succ] at h1; omega) (by rw [Nat.pow_succ] at h2; omega)]
theorem nbits_mono {m n : Nat} (h : m ≤ n) : nbits m ≤ nbits n := nbits_le.2 (Nat.lt_of_le_of_lt h (nbits_lt n))

/-- One more word on top: as many bits, and 32 for each word below. -/
theorem nbits_top {a : List Nat} {x : Nat} (ha : Small a) (hx : x ≠ 0) : nbits (val (a ++ [x])) = 32 * a.length + nbits x := by
  obtain ⟨k, hk, h1, h2⟩ := nbits_pos hx
  rw [hk, ← Nat.add_assoc]
  have hB : B ^ a.length = 2 ^ (32 * a.length) := by
    rw [Nat.pow_mul]; rfl
  have hv := val_lt ha
  rw [val_snoc]
  apply nbits_eq
  · rw [Nat.pow_add, ← hB]
    exact Nat.le_trans (Nat.mul_le_mul_left _ h1) (Nat.le_add_left _ _)
  · rw [Nat.add_assoc, Nat.pow_add, ← hB]
    calc val a + B ^ a.length * x < B ^ a.length + B ^ a.length * x := by omega
      _ = B ^ a.length * (x + 1) := by rw [Nat.mul_add, Nat.mul_one, Nat.add_comm]
      _ ≤ _ := Nat.mul_le_mul_left _ h2

/-- How two numbers are to each other. -/
def cmpN (a b : Nat) : Int := if a < b then -1 else if b < a then 1 else 0

theorem cmpN_lt {a b : Nat} (h : a < b) : cmpN a b = -1 := by simp [cmpN, h]
theorem cmpN_gt {a b : Nat} (h : b < a) : cmpN a b = 1 := by
  have : ¬ a < b := by omega
  simp [cmpN, h, this]
theorem cmpN_eq {a b : Nat} (h : a = b) : cmpN a b = 0 := by subst h; simp [cmpN]
theorem cmpN_neg {a b : Nat} : cmpN a b < 0 ↔ a < b := by unfold cmpN; split <;> (try split) <;> omega
theorem cmpN_ge {a b : Nat} : 0 ≤ cmpN a b ↔ b ≤ a := by unfold cmpN; split <;> (try split) <;> omega
theorem cmpN_le {a b : Nat} : cmpN a b ≤ 0 ↔ a ≤ b := by unfold cmpN; split <;> (try split) <;> omega
theorem cmpN_pos {a b : Nat} : 0 < cmpN a b ↔ b < a := by unfold cmpN; split <;> (try split) <;> omega
theorem cmpN_zero {a b : Nat} : cmpN a b = 0 ↔ a = b := by unfold cmpN; split <;> (try split) <;> omega
theorem cmpN_bd (a b : Nat) : -1 ≤ cmpN a b ∧ cmpN a b ≤ 1 := by unfold cmpN; split <;> (try split) <;> omega
theorem cmpN_swap (a b : Nat) : cmpN a b = - cmpN b a := by unfold cmpN; split <;> (try split) <;> (try split) <;> omega

theorem val_take_all {l : List Nat} {k : Nat} (h : l.length ≤ k) : val (l.take k) = val l := by
  rw [List.take_of_length_le h]

/-- One word more, also beyond the end. -/
theorem val_take_succ' (l : List Nat) (k : Nat) : val (l.take (k + 1)) = val (l.take k) + B ^ k * nth l k := by
  by_cases h : k < l.length
  · exact val_take_succ h
  · rw [val_take_all (by omega), val_take_all (by omega), nth_ge (by omega)]; simp

theorem val_take_sz {l : List Nat} (h : Small l) : val (l.take (sz (val l))) = val l := by
  rw [← limbs_eq_take h, val_limbs]

theorem val_take_ge {l : List Nat} (h : Small l) {n : Nat} (hn : sz (val l) ≤ n) : val (l.take n) = val l := by
  have e := val_take_sz h
  have h1 : ∀ d, val (l.take (sz (val l) + d)) = val l := by
    intro d
    induction d with
    | zero => exact e
    | succ d ih =>
      have h2 : nth l (sz (val l) + d) = 0 := by
        rcases Nat.lt_or_ge (sz (val l) + d) l.length with h3 | h3
        · -- else the number would have more words
          rcases Nat.eq_zero_or_pos (nth l (sz (val l) + d)) with h4 | h4
          · exact h4
          · have h5 : val l = val (l.take (sz (val l) + d + 1)) + B ^ (sz (val l) + d + 1) * val (l.drop (sz (val l) + d + 1)) := by
              have h6 := val_append (l.take (sz (val l) + d + 1)) (l.drop (sz (val l) + d + 1))
              rw [List.take_append_drop, List.length_take, Nat.min_eq_left (by omega)] at h6
              exact h6
            rw [val_take_succ h3, ih] at h5
            have h7 : 0 < B ^ (sz (val l) + d) * nth l (sz (val l) + d) := Nat.mul_pos (Nat.pow_pos B_pos) h4
            omega
        · exact nth_ge h3
      rw [← Nat.add_assoc, val_take_succ', h2, ih]; simp
  have h8 := h1 (n - sz (val l))
  rwa [show sz (val l) + (n - sz (val l)) = n by omega] at h8

theorem lt_of_sz {m n : Nat} (h : sz m < sz n) : m < n := by
  have hn : n ≠ 0 := fun e => by rw [e, sz_zero] at h; omega
  have h1 := pow_le_of_limbs hn
  rw [sz_def] at h1
  have h2 := lt_sz m
  have h3 := Nat.pow_le_pow_right (n := B) B_pos (show sz m ≤ sz n - 1 by omega)
  omega

theorem cmp_sz_lt {m n : Nat} (h : sz m < sz n) : cmpN m n = -1 := cmpN_lt (lt_of_sz h)
theorem cmp_sz_gt {m n : Nat} (h : sz n < sz m) : cmpN m n = 1 := cmpN_gt (lt_of_sz h)

/-- What two numbers have in common from a word on. -/
def SameTop (a b : List Nat) (k : Nat) : Prop := ∃ T, val a = val (a.take k) + B ^ k * T ∧ val b = val (b.take k) + B ^ k * T

theorem SameTop.step {a b : List Nat} {k : Nat} (h : SameTop a b (k + 1)) (e : nth a k = nth b k) : SameTop a b k := by
  obtain ⟨T, h1, h2⟩ := h
  refine ⟨nth a k + B * T, ?_, ?_⟩
  · rw [h1, val_take_succ', Nat.mul_add, Nat.pow_succ, Nat.mul_assoc, Nat.add_assoc]
  · rw [h2, val_take_succ', e, Nat.mul_add, Nat.pow_succ, Nat.mul_assoc, Nat.add_assoc]

theorem val_take_lt {l : List Nat} (h : Small l) (k : Nat) : val (l.take k) < B ^ k := by
  have h1 := val_lt (h.take k)
  exact Nat.lt_of_lt_of_le h1 (Nat.pow_le_pow_right B_pos (by rw [List.length_take]; exact Nat.min_le_left _ _))

theorem SameTop.lt {a b : List Nat} {k : Nat} (h : SameTop a b (k + 1)) (hs : Small a) (e : nth a k < nth b k) : val a < val b := by
  obtain ⟨T, h1, h2⟩ := h
  rw [h1, h2, val_take_succ', val_take_succ']
  have h3 := val_take_lt hs k
  have h4 : B ^ k * (nth a k + 1) ≤ B ^ k * nth b k := Nat.mul_le_mul_left _ e
  rw [Nat.mul_add] at h4
  omega

theorem sameTop_long {a b : List Nat} {n : Nat} (hna : a.length ≤ n) (hnb : b.length ≤ n) : SameTop a b n :=
  ⟨0, by rw [val_take_all hna]; simp, by rw [val_take_all hnb]; simp⟩

theorem SameTop.symm {a b : List Nat} {k : Nat} (h : SameTop a b k) : SameTop b a k := let ⟨T, h1, h2⟩ := h; ⟨T, h2, h1⟩

theorem SameTop.zero {a b : List Nat} (h : SameTop a b 0) : val a = val b := by
  obtain ⟨T, h1, h2⟩ := h
  rw [h1, h2]; simp

theorem sameTop_start {a b : List Nat} (ha : Small a) (hb : Small b) {n : Nat} (hna : sz (val a) = n) (hnb : sz (val b) = n) : SameTop a b n :=
  ⟨0, by rw [← hna, val_take_sz ha]; simp, by rw [← hnb, val_take_sz hb]; simp⟩

/-- The highest words decide. -/
theorem val_lt_of_top {a b : List Nat} {x y : Nat} (ha : Small a) (hl : a.length = b.length) (hxy : x < y) : val (a ++ [x]) < val (b ++ [y]) := by
  rw [val_snoc, val_snoc, ← hl]
  have := val_lt ha
  calc val a + B ^ a.length * x < B ^ a.length + B ^ a.length * x := by omega
    _ = B ^ a.length * (x + 1) := by rw [Nat.mul_add, Nat.mul_one, Nat.add_comm]
    _ ≤ B ^ a.length * y := Nat.mul_le_mul_left _ hxy
    _ ≤ _ := Nat.le_add_left _ _

theorem val_zeros (l : List Nat) (n : Nat) : val (l ++ List.replicate n 0) = val l := by
  rw [val_append, val_replicate, Nat.mul_zero, Nat.add_zero]

theorem sz_snoc {l : List Nat} {x : Nat} (h : Small l) (hx : x < B) (h0 : x ≠ 0) : sz (val (l ++ [x])) = l.length + 1 := by
  rw [← sz_def, limbs_val_of_last (small_append.2 ⟨h, small_cons.2 ⟨hx, small_nil⟩⟩) (.inr ?_)]
  · simp
  · have : nth (l ++ [x]) ((l ++ [x]).length - 1) = x := by
      rw [nth_of (by simp)]; simp
    rw [this]; exact h0

theorem sz_take {l : List Nat} (h : Small l) : sz (val (l.take (sz (val l)))) = sz (val l) := by
  rw [← limbs_eq_take h, val_limbs]

theorem nth_last {l : List Nat} (h : Small l) (h0 : sz (val l) ≠ 0) : nth l (sz (val l) - 1) ≠ 0 := by
  have hv : val l ≠ 0 := fun e => h0 (by rw [e]; rfl)
  have h1 := pow_le_of_limbs hv
  intro hz
  have hle := sz_val h
  rw [sz_def] at h1
  have e : val (l.take (sz (val l))) = val l := by rw [← limbs_eq_take h, val_limbs]
  have hs : sz (val l) = sz (val l) - 1 + 1 := by omega
  rw [hs, val_take_succ_zero (by omega) hz] at e
  have := val_lt (h.take (sz (val l) - 1))
  rw [e, List.length_take, Nat.min_eq_left (by omega)] at this
  omega

theorem nbits_val {l : List Nat} (h : Small l) (h0 : sz (val l) ≠ 0) : nbits (val l) = 32 * (sz (val l) - 1) + nbits (nth l (sz (val l) - 1)) := by
  have h1 := nth_last h h0
  have hle := sz_val h
  have e := val_take_sz h
  obtain ⟨k, hk⟩ : ∃ k, sz (val l) = k + 1 := ⟨sz (val l) - 1, by omega⟩
  rw [hk] at e h1 hle ⊢
  rw [Nat.add_sub_cancel] at h1 ⊢
  rw [← e, take_snoc (by omega), nbits_top (h.take k) h1, List.length_take]
  congr 2
  omega

theorem nbits_gt {m n : Nat} (hn : 2 ^ n ≤ m) : n < nbits m := by
  have := nbits_lt m
  rcases Nat.lt_or_ge n (nbits m) with h1 | h1
  · exact h1
  · have := Nat.pow_le_pow_right (n := 2) (by omega) h1
    omega

theorem val_two {l : List Nat} (h : Small l) (hb : val l < 18446744073709551616) : val l = nth l 0 + 4294967296 * nth l 1 := by
  cases l with
  | nil => rfl
  | cons x t =>
    cases t with
    | nil => simp [val, nth_def]
    | cons y u =>
      have hu : val u = 0 := by
        simp only [val, B_eq] at hb
        omega
      simp only [val, hu, B_eq]
      simp [nth_def]

theorem B_two : 2 ≤ B := by rw [B_eq]; omega
theorem carry_none {S a b c n : Nat} (h1 : S + B ^ (n + 1) * c = a + b) (h2 : a < B ^ n) (h3 : b < B ^ n) : S = a + b := by
  have h5 : B ^ n * 2 ≤ B ^ (n + 1) := by rw [Nat.pow_succ]; exact Nat.mul_le_mul_left _ B_two
  have h6 : ∀ p q : Nat, S + q * c = a + b → a < p → b < p → p * 2 ≤ q → S = a + b := by
    intro p q k1 k2 k3 k4
    rcases Nat.eq_zero_or_pos c with h | h
    · subst h; rw [Nat.mul_zero] at k1; omega
    · have h4 : q * 1 ≤ q * c := Nat.mul_le_mul_left _ h
      omega
  exact h6 _ _ h1 h2 h3 h5

theorem nbits_odd (n : Nat) : nbits (2 * n + 1) = nbits n + 1 := by
  rw [nbits_half (by omega)]
  congr 2
  omega

end Go.Proofs.Yteokdkcanckfeaa.Tw
