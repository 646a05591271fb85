/-
  The texts Math, DivMath, WholeMath, RatMath, GcdMath, merged.
-/

namespace Go.Proofs.YtkjcdnlpjldhaaaGreat.Tw
set_option linter.unusedVariables false
set_option linter.unusedSimpArgs false

def B : Nat := 4294967296

theorem B_eq : B = 4294967296 := rfl

theorem B_pos : 0 < B := by decide

def nth (l : List Nat) (i : Nat) : Nat := l.getD i 0

theorem nth_def (l : List Nat) (i : Nat) : nth l i = l.getD i 0 := rfl

theorem nth_of {l : List Nat} {i : Nat} (h : i < l.length) : nth l i = l[i] := by
  rw [nth_def, List.getD_eq_getElem?_getD, List.getElem?_eq_getElem h]; rfl

theorem nth_ge {l : List Nat} {i : Nat} (h : l.length ≤ i) : nth l i = 0 := by
  rw [nth_def, List.getD_eq_getElem?_getD, List.getElem?_eq_none h]; rfl

def val : List Nat → Nat
  | [] => 0
  | x :: t => x + B * val t

def limbsF : Nat → Nat → List Nat
  | 0, _ => []
  | f + 1, n => if n = 0 then [] else n % B :: limbsF f (n / B)

def limbs (n : Nat) : List Nat := limbsF n n

def Small (l : List Nat) : Prop := ∀ x, x ∈ l → x < B

theorem div_B_lt {n : Nat} (h : n ≠ 0) : n / B < n := Nat.div_lt_self (Nat.pos_of_ne_zero h) (by decide)

theorem limbsF_eq : ∀ (n f g : Nat), n ≤ f → n ≤ g → limbsF f n = limbsF g n := by
  intro n
  induction n using Nat.strongRecOn with
  | ind n ih =>
    intro f g hf hg
    by_cases h0 : n = 0
    · subst h0
      cases f <;> cases g <;> simp [limbsF]
    · obtain ⟨f, rfl⟩ : ∃ k, f = k + 1 := ⟨f - 1, by omega⟩
      obtain ⟨g, rfl⟩ : ∃ k, g = k + 1 := ⟨g - 1, by omega⟩
      have hd := div_B_lt h0
      simp only [limbsF, if_neg h0]
      rw [ih (n / B) hd f g (by omega) (by omega)]

theorem limbs_zero : limbs 0 = [] := rfl

theorem limbs_pos {n : Nat} (h : n ≠ 0) : limbs n = n % B :: limbs (n / B) := by
  obtain ⟨k, rfl⟩ : ∃ k, n = k + 1 := ⟨n - 1, by omega⟩
  have hd := div_B_lt h
  show limbsF (k + 1) (k + 1) = _
  simp only [limbsF, if_neg h]
  rw [limbsF_eq _ k ((k + 1) / B) (by omega) (Nat.le_refl _)]
  rfl

theorem val_cons (x : Nat) (t : List Nat) : val (x :: t) = x + B * val t := rfl

theorem val_limbs (n : Nat) : val (limbs n) = n := by
  induction n using Nat.strongRecOn with
  | ind n ih =>
    by_cases h0 : n = 0
    · subst h0; rfl
    · rw [limbs_pos h0, val_cons, ih _ (div_B_lt h0)]
      exact Nat.mod_add_div n B

theorem small_nil : Small [] := fun _ h => by cases h

theorem small_cons {x : Nat} {t : List Nat} : Small (x :: t) ↔ x < B ∧ Small t :=
  ⟨fun h => ⟨h x (by simp), fun y hy => h y (by simp [hy])⟩, fun h y hy => by
    rcases List.mem_cons.1 hy with rfl | hy
    · exact h.1
    · exact h.2 y hy⟩

theorem small_append {a b : List Nat} : Small (a ++ b) ↔ Small a ∧ Small b :=
  ⟨fun h => ⟨fun x hx => h x (by simp [hx]), fun x hx => h x (by simp [hx])⟩, fun h x hx => by
    rcases List.mem_append.1 hx with hx | hx
    · exact h.1 x hx
    · exact h.2 x hx⟩

theorem Small.take {l : List Nat} (h : Small l) (n : Nat) : Small (l.take n) := fun x hx => h x (List.mem_of_mem_take hx)

theorem Small.drop {l : List Nat} (h : Small l) (n : Nat) : Small (l.drop n) := fun x hx => h x (List.mem_of_mem_drop hx)

theorem Small.nth {l : List Nat} (h : Small l) (i : Nat) : nth l i < B := by
  rw [nth_def, List.getD_eq_getElem?_getD]
  by_cases hi : i < l.length
  · simp [hi]; exact h _ (List.getElem_mem hi)
  · simp [Nat.not_lt.1 hi]; decide

theorem small_replicate (n : Nat) : Small (List.replicate n 0) := fun x hx => by
  rw [(List.mem_replicate.1 hx).2]; decide

theorem limbs_small (n : Nat) : Small (limbs n) := by
  induction n using Nat.strongRecOn with
  | ind n ih =>
    by_cases h0 : n = 0
    · subst h0; exact small_nil
    · rw [limbs_pos h0]
      exact small_cons.2 ⟨Nat.mod_lt _ B_pos, ih _ (div_B_lt h0)⟩

theorem val_append (a b : List Nat) : val (a ++ b) = val a + B ^ a.length * val b := by
  induction a with
  | nil => simp [val]
  | cons x t ih =>
    simp only [List.cons_append, val, List.length_cons, ih, Nat.pow_succ]
    rw [Nat.mul_add, Nat.add_assoc, Nat.mul_comm (B ^ t.length) B, Nat.mul_assoc]

theorem val_replicate (n : Nat) : val (List.replicate n 0) = 0 := by
  induction n with
  | zero => rfl
  | succ n ih => simp [List.replicate_succ, val, ih]

theorem val_lt {l : List Nat} (h : Small l) : val l < B ^ l.length := by
  induction l with
  | nil => simp [val]
  | cons x t ih =>
    have hx := (small_cons.1 h).1
    have ht := ih (small_cons.1 h).2
    simp only [val, List.length_cons, Nat.pow_succ]
    have : B * (val t + 1) ≤ B * B ^ t.length := Nat.mul_le_mul_left _ ht
    rw [Nat.mul_comm (B ^ t.length)]
    rw [Nat.mul_add] at this
    omega

theorem limbs_length_le {n k : Nat} (h : n < B ^ k) : (limbs n).length ≤ k := by
  induction k generalizing n with
  | zero => have : n = 0 := by simpa using h
            subst this; simp [limbs_zero]
  | succ k ih =>
    by_cases h0 : n = 0
    · subst h0; simp [limbs_zero]
    · rw [limbs_pos h0]
      have : n / B < B ^ k := by
        rw [Nat.div_lt_iff_lt_mul B_pos]; rwa [Nat.pow_succ] at h
      have := ih this
      simp; omega

theorem lt_pow_limbs (n : Nat) : n < B ^ (limbs n).length := by
  have := val_lt (limbs_small n)
  rwa [val_limbs] at this

theorem pow_le_of_limbs {n : Nat} (h : n ≠ 0) : B ^ ((limbs n).length - 1) ≤ n := by
  induction n using Nat.strongRecOn with
  | ind n ih =>
    rw [limbs_pos h]
    simp only [List.length_cons, Nat.add_sub_cancel]
    by_cases hd : n / B = 0
    · rw [hd, limbs_zero]; simp; omega
    · have h1 := ih _ (div_B_lt h) hd
      have h2 : (limbs (n / B)).length ≠ 0 := by rw [limbs_pos hd]; simp
      obtain ⟨k, hk⟩ : ∃ k, (limbs (n / B)).length = k + 1 := ⟨_, (Nat.succ_pred h2).symm⟩
      rw [hk] at h1 ⊢
      simp only [Nat.add_sub_cancel] at h1
      rw [Nat.pow_succ]
      exact Nat.le_trans (Nat.mul_le_mul_right _ h1) (Nat.div_mul_le_self n B)

def sz (n : Nat) : Nat := (limbs n).length

theorem sz_def (n : Nat) : (limbs n).length = sz n := rfl

theorem sz_le {n k : Nat} (h : n < B ^ k) : sz n ≤ k := limbs_length_le h

theorem lt_sz (n : Nat) : n < B ^ sz n := lt_pow_limbs n

theorem sz_mono {m n : Nat} (h : m ≤ n) : sz m ≤ sz n := sz_le (Nat.lt_of_le_of_lt h (lt_sz n))

theorem sz_val {l : List Nat} (h : Small l) : sz (val l) ≤ l.length := sz_le (val_lt h)

theorem sz_add (m n : Nat) : sz (m + n) ≤ max (sz m) (sz n) + 1 := by
  apply sz_le
  have h1 : m < B ^ max (sz m) (sz n) := Nat.lt_of_lt_of_le (lt_sz m) (Nat.pow_le_pow_right B_pos (Nat.le_max_left _ _))
  have h2 : n < B ^ max (sz m) (sz n) := Nat.lt_of_lt_of_le (lt_sz n) (Nat.pow_le_pow_right B_pos (Nat.le_max_right _ _))
  rw [Nat.pow_succ, B_eq]
  rw [B_eq] at h1 h2
  omega

theorem sz_mul (m n : Nat) : sz (m * n) ≤ sz m + sz n := by
  apply sz_le
  rw [Nat.pow_add]
  exact Nat.mul_lt_mul'' (lt_sz m) (lt_sz n)

theorem sz_sub (m n : Nat) : sz (m - n) ≤ sz m := sz_mono (Nat.sub_le _ _)

theorem sz_div (m n : Nat) : sz (m / n) ≤ sz m := sz_mono (Nat.div_le_self _ _)

theorem sz_mod (m n : Nat) : sz (m % n) ≤ sz m := sz_mono (Nat.mod_le _ _)

theorem sz_word {n : Nat} (h : n < 4294967296) : sz n ≤ 1 := sz_le (by rw [B_eq]; simpa using h)

theorem sz_zero : sz 0 = 0 := rfl

theorem sz_eq_zero {n : Nat} : sz n = 0 ↔ n = 0 := by
  constructor
  · intro h
    have := lt_sz n
    rw [h] at this
    simpa using this
  · intro h; subst h; rfl

theorem limbs_val_of_last {l : List Nat} (h : Small l) (hl : l = [] ∨ nth l (l.length - 1) ≠ 0) : limbs (val l) = l := by
  induction l with
  | nil => rfl
  | cons x t ih =>
    have hx := (small_cons.1 h).1
    have hs := (small_cons.1 h).2
    have hlast : x + B * val t ≠ 0 ∧ (t = [] ∨ nth t (t.length - 1) ≠ 0) := by
      rcases hl with hl | hl
      · cases hl
      · cases t with
        | nil => simp [nth_def] at hl; exact ⟨by simp [val]; omega, .inl rfl⟩
        | cons y u =>
          simp [nth_def] at hl
          refine ⟨?_, .inr (by simpa [nth_def] using hl)⟩
          intro h0
          have hv : val (y :: u) = 0 := by
            have : B * val (y :: u) = 0 := by omega
            rcases Nat.mul_eq_zero.1 this with h1 | h1
            · exact absurd h1 (by decide)
            · exact h1
          have hr := ih hs (.inr (by simpa [nth_def] using hl))
          rw [hv, limbs_zero] at hr
          cases hr
    rw [val_cons, limbs_pos hlast.1]
    rw [Nat.add_mul_mod_self_left, Nat.mod_eq_of_lt hx, Nat.add_mul_div_left _ _ B_pos, Nat.div_eq_of_lt hx, Nat.zero_add, ih hs hlast.2]

theorem val_take_succ_zero {l : List Nat} {n : Nat} (hn : n < l.length) (h : nth l n = 0) : val (l.take (n + 1)) = val (l.take n) := by
  rw [List.take_add_one, val_append]
  have : l[n]? = some 0 := by
    rw [nth_def, List.getD_eq_getElem?_getD, List.getElem?_eq_getElem hn] at h
    rw [List.getElem?_eq_getElem hn]; simpa using h
  simp [this, val]

theorem limbs_of_take {l : List Nat} (h : Small l) {n : Nat} (hn : n ≤ l.length) (hv : val (l.take n) = val l) (hlast : n = 0 ∨ nth l (n - 1) ≠ 0) :
    limbs (val l) = l.take n := by
  rw [← hv]
  apply limbs_val_of_last (h.take n)
  by_cases h1 : n = 0
  · left; subst h1; rfl
  · right
    have h0 : nth l (n - 1) ≠ 0 := hlast.resolve_left h1
    rw [List.length_take, Nat.min_eq_left hn]
    rw [nth_def, List.getD_eq_getElem?_getD, List.getElem?_take_of_lt (by omega), ← List.getD_eq_getElem?_getD, ← nth_def]
    exact h0

theorem limbs_eq_take {l : List Nat} (h : Small l) : limbs (val l) = l.take (sz (val l)) := by
  -- by induction from the end
  have key : ∀ n, n ≤ l.length → ∃ m, m ≤ n ∧ val (l.take m) = val (l.take n) ∧ (m = 0 ∨ nth l (m - 1) ≠ 0) := by
    intro n
    induction n with
    | zero => intro _; exact ⟨0, Nat.le_refl _, rfl, .inl rfl⟩
    | succ n ih =>
      intro hn
      by_cases h0 : nth l n = 0
      · obtain ⟨m, hm, hv, hl⟩ := ih (by omega)
        exact ⟨m, by omega, by rw [hv, val_take_succ_zero (by omega) h0], hl⟩
      · exact ⟨n + 1, Nat.le_refl _, rfl, .inr (by simpa using h0)⟩
  obtain ⟨m, hm, hv, hl⟩ := key l.length (Nat.le_refl _)
  rw [List.take_length] at hv
  have := limbs_of_take h hm hv hl
  have hs : sz (val l) = m := by rw [← sz_def, this, List.length_take, Nat.min_eq_left hm]
  rw [hs, this]

theorem limbs_val_iff {l : List Nat} (h : Small l) : limbs (val l) = l ↔ sz (val l) = l.length := by
  constructor
  · intro e; rw [← sz_def, e]
  · intro e; rw [limbs_eq_take h, e, List.take_length]

theorem nth_take {l : List Nat} {i n : Nat} (h : i < n) : nth (l.take n) i = nth l i := by
  simp [nth_def, List.getD_eq_getElem?_getD, List.getElem?_take_of_lt h]

theorem take_snoc {l : List Nat} {k : Nat} (h : k < l.length) : l.take (k + 1) = l.take k ++ [nth l k] := by
  rw [List.take_add_one, nth_of h, List.getElem?_eq_getElem h]; rfl

theorem val_snoc (a : List Nat) (x : Nat) : val (a ++ [x]) = val a + B ^ a.length * x := by
  rw [val_append]; simp [val]

theorem val_take_succ {l : List Nat} {k : Nat} (h : k < l.length) : val (l.take (k + 1)) = val (l.take k) + B ^ k * nth l k := by
  rw [take_snoc h, val_snoc, List.length_take, Nat.min_eq_left (Nat.le_of_lt h)]

theorem nth_set_eq {l : List Nat} {i x : Nat} (h : i < l.length) : nth (l.set i x) i = x := by
  rw [nth_of (by simpa using h)]; simp

theorem nth_set_ne {l : List Nat} {i j x : Nat} (h : i ≠ j) : nth (l.set i x) j = nth l j := by
  simp [nth_def, List.getD_eq_getElem?_getD, List.getElem?_set_ne h]

theorem take_set_ge {l : List Nat} {i k x : Nat} (h : k ≤ i) : (l.set i x).take k = l.take k := by
  rw [List.take_set]
  apply List.set_eq_of_length_le
  rw [List.length_take]; omega

theorem val_set_last {l : List Nat} {i x : Nat} (h : i < l.length) : val ((l.set i x).take (i + 1)) = val (l.take i) + B ^ i * x := by
  rw [val_take_succ (by simpa using h), take_set_ge (Nat.le_refl _), nth_set_eq h]

theorem val_drop {l : List Nat} {k : Nat} (h : k < l.length) : val (l.drop k) = nth l k + B * val (l.drop (k + 1)) := by
  rw [List.drop_eq_getElem_cons h, val_cons, nth_of h]

def nbits (n : Nat) : Nat := if n = 0 then 0 else n.log2 + 1

theorem nbits_lt (n : Nat) : n < 2 ^ nbits n := by
  unfold nbits
  by_cases h : n = 0
  · simp [h]
  · rw [if_neg h]; exact Nat.lt_log2_self

theorem nbits_le {n k : Nat} : nbits n ≤ k ↔ n < 2 ^ k := by
  constructor
  · intro h; exact Nat.lt_of_lt_of_le (nbits_lt n) (Nat.pow_le_pow_right (by decide) h)
  · intro h
    unfold nbits
    by_cases h0 : n = 0
    · simp [h0]
    · rw [if_neg h0]; exact (Nat.log2_lt h0).2 h

theorem nbits_eq {n k : Nat} (h1 : 2 ^ k ≤ n) (h2 : n < 2 ^ (k + 1)) : nbits n = k + 1 := by
  have a : nbits n ≤ k + 1 := nbits_le.2 h2
  have b : ¬ nbits n ≤ k := fun h => by have := nbits_le.1 h; omega
  omega

theorem nbits_pos {n : Nat} (h : n ≠ 0) : ∃ k, nbits n = k + 1 ∧ 2 ^ k ≤ n ∧ n < 2 ^ (k + 1) :=
  ⟨n.log2, by simp [nbits, h], Nat.log2_self_le h, Nat.lt_log2_self⟩

theorem nbits_eq_zero {n : Nat} : nbits n = 0 ↔ n = 0 := by
  constructor
  · intro h; have := nbits_lt n; rw [h] at this; simpa using this
  · intro h; subst h; rfl

theorem nbits_mono {m n : Nat} (h : m ≤ n) : nbits m ≤ nbits n := nbits_le.2 (Nat.lt_of_le_of_lt h (nbits_lt n))

theorem nbits_top {a : List Nat} {x : Nat} (ha : Small a) (hx : x ≠ 0) : nbits (val (a ++ [x])) = 32 * a.length + nbits x := by
  obtain ⟨k, hk, h1, h2⟩ := nbits_pos hx
  rw [hk, ← Nat.add_assoc]
  have hB : B ^ a.length = 2 ^ (32 * a.length) := by
    rw [Nat.pow_mul]; rfl
  have hv := val_lt ha
  rw [val_snoc]
  apply nbits_eq
  · rw [Nat.pow_add, ← hB]
    exact Nat.le_trans (Nat.mul_le_mul_left _ h1) (Nat.le_add_left _ _)
  · rw [Nat.add_assoc, Nat.pow_add, ← hB]
    calc val a + B ^ a.length * x < B ^ a.length + B ^ a.length * x := by omega
      _ = B ^ a.length * (x + 1) := by rw [Nat.mul_add, Nat.mul_one, Nat.add_comm]
      _ ≤ _ := Nat.mul_le_mul_left _ h2

def cmpN (a b : Nat) : Int := if a < b then -1 else if b < a then 1 else 0

theorem cmpN_lt {a b : Nat} (h : a < b) : cmpN a b = -1 := by simp [cmpN, h]

theorem cmpN_gt {a b : Nat} (h : b < a) : cmpN a b = 1 := by
  have : ¬ a < b := by omega
  simp [cmpN, h, this]

theorem cmpN_eq {a b : Nat} (h : a = b) : cmpN a b = 0 := by subst h; simp [cmpN]

theorem cmpN_neg {a b : Nat} : cmpN a b < 0 ↔ a < b := by unfold cmpN; split <;> (try split) <;> omega

theorem cmpN_ge {a b : Nat} : 0 ≤ cmpN a b ↔ b ≤ a := by unfold cmpN; split <;> (try split) <;> omega

theorem cmpN_zero {a b : Nat} : cmpN a b = 0 ↔ a = b := by unfold cmpN; split <;> (try split) <;> omega

theorem val_take_all {l : List Nat} {k : Nat} (h : l.length ≤ k) : val (l.take k) = val l := by
  rw [List.take_of_length_le h]

theorem val_take_succ' (l : List Nat) (k : Nat) : val (l.take (k + 1)) = val (l.take k) + B ^ k * nth l k := by
  by_cases h : k < l.length
  · exact val_take_succ h
  · rw [val_take_all (by omega), val_take_all (by omega), nth_ge (by omega)]; simp

theorem val_take_sz {l : List Nat} (h : Small l) : val (l.take (sz (val l))) = val l := by
  rw [← limbs_eq_take h, val_limbs]

theorem val_take_ge {l : List Nat} (h : Small l) {n : Nat} (hn : sz (val l) ≤ n) : val (l.take n) = val l := by
  have e := val_take_sz h
  have h1 : ∀ d, val (l.take (sz (val l) + d)) = val l := by
    intro d
    induction d with
    | zero => exact e
    | succ d ih =>
      have h2 : nth l (sz (val l) + d) = 0 := by
        rcases Nat.lt_or_ge (sz (val l) + d) l.length with h3 | h3
        · -- else the number would have more words
          rcases Nat.eq_zero_or_pos (nth l (sz (val l) + d)) with h4 | h4
          · exact h4
          · have h5 : val l = val (l.take (sz (val l) + d + 1)) + B ^ (sz (val l) + d + 1) * val (l.drop (sz (val l) + d + 1)) := by
              have h6 := val_append (l.take (sz (val l) + d + 1)) (l.drop (sz (val l) + d + 1))
              rw [List.take_append_drop, List.length_take, Nat.min_eq_left (by omega)] at h6
              exact h6
            rw [val_take_succ h3, ih] at h5
            have h7 : 0 < B ^ (sz (val l) + d) * nth l (sz (val l) + d) := Nat.mul_pos (Nat.pow_pos B_pos) h4
            omega
        · exact nth_ge h3
      rw [← Nat.add_assoc, val_take_succ', h2, ih]; simp
  have h8 := h1 (n - sz (val l))
  rwa [show sz (val l) + (n - sz (val l)) = n by omega] at h8

theorem lt_of_sz {m n : Nat} (h : sz m < sz n) : m < n := by
  have hn : n ≠ 0 := fun e => by rw [e, sz_zero] at h; omega
  have h1 := pow_le_of_limbs hn
  rw [sz_def] at h1
  have h2 := lt_sz m
  have h3 := Nat.pow_le_pow_right (n := B) B_pos (show sz m ≤ sz n - 1 by omega)
  omega

theorem cmp_sz_lt {m n : Nat} (h : sz m < sz n) : cmpN m n = -1 := cmpN_lt (lt_of_sz h)

theorem cmp_sz_gt {m n : Nat} (h : sz n < sz m) : cmpN m n = 1 := cmpN_gt (lt_of_sz h)

def SameTop (a b : List Nat) (k : Nat) : Prop := ∃ T, val a = val (a.take k) + B ^ k * T ∧ val b = val (b.take k) + B ^ k * T

theorem SameTop.step {a b : List Nat} {k : Nat} (h : SameTop a b (k + 1)) (e : nth a k = nth b k) : SameTop a b k := by
  obtain ⟨T, h1, h2⟩ := h
  refine ⟨nth a k + B * T, ?_, ?_⟩
  · rw [h1, val_take_succ', Nat.mul_add, Nat.pow_succ, Nat.mul_assoc, Nat.add_assoc]
  · rw [h2, val_take_succ', e, Nat.mul_add, Nat.pow_succ, Nat.mul_assoc, Nat.add_assoc]

theorem val_take_lt {l : List Nat} (h : Small l) (k : Nat) : val (l.take k) < B ^ k := by
  have h1 := val_lt (h.take k)
  exact Nat.lt_of_lt_of_le h1 (Nat.pow_le_pow_right B_pos (by rw [List.length_take]; exact Nat.min_le_left _ _))

theorem SameTop.lt {a b : List Nat} {k : Nat} (h : SameTop a b (k + 1)) (hs : Small a) (e : nth a k < nth b k) : val a < val b := by
  obtain ⟨T, h1, h2⟩ := h
  rw [h1, h2, val_take_succ', val_take_succ']
  have h3 := val_take_lt hs k
  have h4 : B ^ k * (nth a k + 1) ≤ B ^ k * nth b k := Nat.mul_le_mul_left _ e
  rw [Nat.mul_add] at h4
  omega

theorem sameTop_long {a b : List Nat} {n : Nat} (hna : a.length ≤ n) (hnb : b.length ≤ n) : SameTop a b n :=
  ⟨0, by rw [val_take_all hna]; simp, by rw [val_take_all hnb]; simp⟩

theorem SameTop.symm {a b : List Nat} {k : Nat} (h : SameTop a b k) : SameTop b a k := let ⟨T, h1, h2⟩ := h; ⟨T, h2, h1⟩

theorem SameTop.zero {a b : List Nat} (h : SameTop a b 0) : val a = val b := by
  obtain ⟨T, h1, h2⟩ := h
  rw [h1, h2]; simp

theorem sameTop_start {a b : List Nat} (ha : Small a) (hb : Small b) {n : Nat} (hna : sz (val a) = n) (hnb : sz (val b) = n) : SameTop a b n :=
  ⟨0, by rw [← hna, val_take_sz ha]; simp, by rw [← hnb, val_take_sz hb]; simp⟩

theorem nth_last {l : List Nat} (h : Small l) (h0 : sz (val l) ≠ 0) : nth l (sz (val l) - 1) ≠ 0 := by
  have hv : val l ≠ 0 := fun e => h0 (by rw [e]; rfl)
  have h1 := pow_le_of_limbs hv
  intro hz
  have hle := sz_val h
  rw [sz_def] at h1
  have e : val (l.take (sz (val l))) = val l := by rw [← limbs_eq_take h, val_limbs]
  have hs : sz (val l) = sz (val l) - 1 + 1 := by omega
  rw [hs, val_take_succ_zero (by omega) hz] at e
  have := val_lt (h.take (sz (val l) - 1))
  rw [e, List.length_take, Nat.min_eq_left (by omega)] at this
  omega

theorem nbits_val {l : List Nat} (h : Small l) (h0 : sz (val l) ≠ 0) : nbits (val l) = 32 * (sz (val l) - 1) + nbits (nth l (sz (val l) - 1)) := by
  have h1 := nth_last h h0
  have hle := sz_val h
  have e := val_take_sz h
  obtain ⟨k, hk⟩ : ∃ k, sz (val l) = k + 1 := ⟨sz (val l) - 1, by omega⟩
  rw [hk] at e h1 hle ⊢
  rw [Nat.add_sub_cancel] at h1 ⊢
  rw [← e, take_snoc (by omega), nbits_top (h.take k) h1, List.length_take]
  congr 2
  omega

theorem nbits_gt {m n : Nat} (hn : 2 ^ n ≤ m) : n < nbits m := by
  have := nbits_lt m
  rcases Nat.lt_or_ge n (nbits m) with h1 | h1
  · exact h1
  · have := Nat.pow_le_pow_right (n := 2) (by omega) h1
    omega

theorem B_two : 2 ≤ B := by rw [B_eq]; omega

end Go.Proofs.YtkjcdnlpjldhaaaGreat.Tw


namespace Go.Proofs.YtkjcdnlpjldhaaaGreat
open Tw
set_option linter.unusedVariables false

theorem guess_ge {r b t P : Nat} (hP : 0 < P) (ht : 0 < t) (hb : t * P ≤ b) : r / b ≤ r / P / t := by
  rw [Nat.div_div_eq_div_mul]
  exact Nat.div_le_div_left (by rw [Nat.mul_comm]; exact hb) (Nat.mul_pos hP ht)

theorem div_step (x y b : Nat) (hb : 0 < b) : (x + B * y) / b = (x + B * (y % b)) / b + B * (y / b) := by
  have h : x + B * y = (x + B * (y % b)) + b * (B * (y / b)) := by
    have h1 := Nat.mod_add_div y b
    have h2 : B * y = B * (y % b) + B * (b * (y / b)) := by rw [← Nat.mul_add, h1]
    rw [h2, Nat.mul_left_comm b]; omega
  rw [h, Nat.add_mul_div_left _ _ hb]

theorem mod_step (x y b : Nat) : (x + B * y) % b = (x + B * (y % b)) % b := by
  have h : x + B * y = (x + B * (y % b)) + b * (B * (y / b)) := by
    have h1 := Nat.mod_add_div y b
    have h2 : B * y = B * (y % b) + B * (b * (y / b)) := by rw [← Nat.mul_add, h1]
    rw [h2, Nat.mul_left_comm b]; omega
  rw [h, Nat.add_mul_mod_self_left]

theorem rest_lt {x r b : Nat} (hx : x < B) (hr : r < b) : x + B * r < B * b := by
  have h : B * r + B ≤ B * b := by rw [← Nat.mul_succ]; exact Nat.mul_le_mul_left B hr
  omega

theorem digit_lt {x r b : Nat} (hx : x < B) (hr : r < b) : (x + B * r) / b < B := by
  rw [Nat.div_lt_iff_lt_mul (by omega)]
  exact rest_lt hx hr

theorem digit_eq {rest b q : Nat} (hb : 0 < b) (h1 : b * q ≤ rest) (h2 : rest / b ≤ q) : q = rest / b :=
  Nat.le_antisymm ((Nat.le_div_iff_mul_le hb).2 (by rw [Nat.mul_comm]; exact h1)) h2

theorem digit_down {rest b q : Nat} (hb : 0 < b) (h1 : rest < b * q) (h2 : rest / b ≤ q) : 0 < q ∧ rest / b ≤ q - 1 := by
  have h3 : rest / b < q := (Nat.div_lt_iff_lt_mul hb).2 (by rw [Nat.mul_comm]; exact h1)
  exact ⟨Nat.lt_of_le_of_lt (Nat.zero_le _) h3, Nat.le_sub_one_of_lt h3⟩

theorem digit_left {rest b : Nat} : rest - b * (rest / b) = rest % b := by
  have := Nat.mod_add_div rest b
  omega

theorem shifted_div {a b p : Nat} (hp : 0 < p) : a * p / (b * p) = a / b := Nat.mul_div_mul_right a b hp

theorem shifted_mod {a b p : Nat} (hp : 0 < p) : a * p % (b * p) / p = a % b := by
  rw [Nat.mul_mod_mul_right, Nat.mul_div_cancel _ hp]

theorem val_split {l : List Nat} {k : Nat} (hk : k ≤ l.length) : val l = val (l.take k) + B ^ k * val (l.drop k) := by
  conv => lhs; rw [← List.take_append_drop k l]
  rw [val_append, List.length_take, Nat.min_eq_left hk]

theorem val_shr {l : List Nat} (h : Small l) {k : Nat} (hk : k ≤ l.length) : val l / B ^ k = val (l.drop k) := by
  rw [val_split hk, Nat.add_mul_div_left _ _ (Nat.pow_pos B_pos), Nat.div_eq_of_lt (val_take_lt h k), Nat.zero_add]

theorem bit_eq {l : List Nat} (h : Small l) {k r : Nat} (hk : k < l.length) (hr : r < 32) : val l / 2 ^ (32 * k + r) % 2 = nth l k / 2 ^ r % 2 := by
  have h1 : (2 : Nat) ^ (32 * k + r) = B ^ k * 2 ^ r := by rw [Nat.pow_add, Nat.pow_mul]; rfl
  rw [h1, ← Nat.div_div_eq_div_mul, val_shr h (by omega), val_drop hk]
  obtain ⟨Y, hY⟩ : ∃ Y, val (l.drop (k + 1)) = Y := ⟨_, rfl⟩
  have h2 : B = 2 ^ r * (2 * 2 ^ (31 - r)) := by
    rw [← Nat.pow_succ', ← Nat.pow_add, show r + (31 - r).succ = 32 by omega]; rfl
  have h3 : B * Y = 2 ^ r * (2 * (2 ^ (31 - r) * Y)) := by rw [h2]; simp only [Nat.mul_assoc]
  rw [hY, h3, Nat.add_mul_div_left _ _ (Nat.pow_pos (by omega)), Nat.add_mul_mod_self_left]

theorem bit_div {x y b : Nat} (hb : 0 < b) (hx : x < 2) : (2 * y + x) / b = 2 * (y / b) + (if b ≤ 2 * (y % b) + x then 1 else 0) := by
  have h1 := Nat.mod_add_div y b
  have h2 := Nat.mod_lt y hb
  have h : 2 * y + x = (2 * (y % b) + x) + b * (2 * (y / b)) := by
    rw [Nat.mul_left_comm b]; omega
  rw [h, Nat.add_mul_div_left _ _ hb]
  split
  · next h3 =>
    have : (2 * (y % b) + x) / b = 1 := by
      rw [Nat.div_eq_of_lt_le] <;> omega
    omega
  · next h3 => rw [Nat.div_eq_of_lt (by omega)]; omega

theorem bit_mod {x y b : Nat} (hb : 0 < b) (hx : x < 2) : (2 * y + x) % b = if b ≤ 2 * (y % b) + x then 2 * (y % b) + x - b else 2 * (y % b) + x := by
  have h1 := Nat.mod_add_div y b
  have h2 := Nat.mod_lt y hb
  have h : 2 * y + x = (2 * (y % b) + x) + b * (2 * (y / b)) := by
    rw [Nat.mul_left_comm b]; omega
  rw [h, Nat.add_mul_mod_self_left]
  split
  · next h3 => rw [Nat.mod_eq_sub_mod h3, Nat.mod_eq_of_lt (by omega)]
  · next h3 => rw [Nat.mod_eq_of_lt (by omega)]

theorem val_drop_set {Z : List Nat} {j x : Nat} (h : j < Z.length) : val ((Z.set j x).drop j) = x + B * val (Z.drop (j + 1)) := by
  rw [val_drop (by simpa using h), nth_set_eq h, List.drop_set_of_lt (by omega)]

theorem word_div {Z la : List Nat} {j d : Nat} (hd : 0 < d) (hZ : j < Z.length) (hl : j < la.length) (hv : val (Z.drop (j + 1)) = val (la.drop (j + 1)) / d) :
    val ((Z.set j ((nth la j + B * (val (la.drop (j + 1)) % d)) / d)).drop j) = val (la.drop j) / d := by
  rw [val_drop_set hZ, hv, val_drop hl]
  exact (div_step _ _ _ hd).symm

theorem word_mod {la : List Nat} {j d : Nat} (hl : j < la.length) : val (la.drop j) % d = (nth la j + B * (val (la.drop (j + 1)) % d)) % d := by
  rw [val_drop hl]
  exact mod_step _ _ _

theorem drop_all {l : List Nat} {n : Nat} (h : l.length ≤ n) : val (l.drop n) = 0 := by
  rw [List.drop_eq_nil_of_le h]; rfl

theorem guess_top {R D n : Nat} (hD : 0 < D) (hn : sz D = n) (hR : R < B * D) : sz R ≤ n + 1 := by
  apply sz_le
  have h1 := lt_sz D
  rw [hn] at h1
  rw [Nat.pow_succ, Nat.mul_comm]
  exact Nat.lt_of_lt_of_le hR (Nat.mul_le_mul_left _ (Nat.le_of_lt h1))

theorem nth_top {D n : Nat} (hD : 0 < D) (hn : sz D = n + 1) : 0 < nth (limbs D) n ∧ nth (limbs D) n * B ^ n ≤ D := by
  have h0 : sz (val (limbs D)) ≠ 0 := by rw [val_limbs]; omega
  have h1 := nth_last (limbs_small D) h0
  rw [val_limbs, hn, Nat.add_sub_cancel] at h1
  refine ⟨Nat.pos_of_ne_zero h1, ?_⟩
  have h2 := val_take_succ' (limbs D) n
  rw [val_take_all (by rw [sz_def]; omega), val_limbs] at h2
  rw [Nat.mul_comm]; omega

theorem top_words {R n : Nat} (hn : sz R ≤ n + 2) (hl : n < sz R) : R / B ^ n = nth (limbs R) n + B * nth (limbs R) (n + 1) := by
  have h1 := val_shr (limbs_small R) (k := n) (by rw [sz_def]; omega)
  rw [val_limbs] at h1
  rw [h1, val_drop (by rw [sz_def]; exact hl)]
  congr 2
  by_cases h : n + 1 < sz R
  · rw [val_drop (by rw [sz_def]; exact h), drop_all (by rw [sz_def]; omega)]; omega
  · rw [drop_all (by rw [sz_def]; omega), nth_ge (by rw [sz_def]; omega)]

theorem guess_ok {R D n : Nat} (hD : 0 < D) (hn : sz D = n + 1) (hR : R < B * D) (hl : n < sz R) :
    R / D ≤ (nth (limbs R) (n + 1) * 4294967296 + nth (limbs R) n) / nth (limbs D) n := by
  obtain ⟨h1, h2⟩ := nth_top hD hn
  have h3 := guess_ge (r := R) (Nat.pow_pos (n := n) B_pos) h1 h2
  rw [top_words (guess_top hD hn hR) hl, B_eq] at h3
  rw [Nat.mul_comm (nth (limbs R) (n + 1)), Nat.add_comm]
  exact h3

theorem digit_small {x r d : Nat} (hx : x < 4294967296) (hd : 0 < d) (hr : r < d) : (r * 4294967296 + x) / d < 4294967296 := by
  rw [Nat.div_lt_iff_lt_mul hd, Nat.mul_comm 4294967296]
  have : (r + 1) * 4294967296 ≤ d * 4294967296 := Nat.mul_le_mul_right _ hr
  omega

theorem guess_zero {R D : Nat} (h : sz R < sz D) : R / D = 0 := Nat.div_eq_of_lt (lt_of_sz h)

theorem guess_max {R D : Nat} (hD : 0 < D) (hR : R < B * D) : R / D ≤ 4294967295 := by
  have : R / D < B := (Nat.div_lt_iff_lt_mul hD).2 hR
  rw [B_eq] at this; omega

end Go.Proofs.YtkjcdnlpjldhaaaGreat


namespace Go.Proofs.YtkjcdnlpjldhaaaGreat
open Tw
set_option linter.unusedVariables false

def sgn (b : Bool) (n : Nat) : Int := if b then -(n : Int) else n

theorem sgn_canon (z : Int) : sgn (decide (z < 0)) z.natAbs = z := by
  unfold sgn
  by_cases h : z < 0
  · simp [h]; omega
  · simp [h]; omega

theorem sgn_abs (b : Bool) (n : Nat) : (sgn b n).natAbs = n := by
  unfold sgn; cases b <;> simp

theorem sgn_neg (b : Bool) (n : Nat) : decide (sgn b n < 0) = (b && decide (0 < n)) := by
  unfold sgn
  cases b <;> simp <;> omega

theorem sgn_not (b : Bool) (n : Nat) : sgn (!b) n = - sgn b n := by
  unfold sgn; cases b <;> simp

theorem sgn_zero (b : Bool) : sgn b 0 = 0 := by unfold sgn; cases b <;> rfl

theorem sgn_same (b : Bool) (m n : Nat) : sgn b (m + n) = sgn b m + sgn b n := by
  unfold sgn; cases b <;> simp <;> omega

theorem sgn_less {b c : Bool} {m n : Nat} (hbc : b ≠ c) (h : n ≤ m) : sgn b (m - n) = sgn b m + sgn c n := by
  unfold sgn; cases b <;> cases c <;> simp_all <;> omega

theorem sgn_more {b c : Bool} {m n : Nat} (hbc : b ≠ c) (h : m < n) : sgn c (n - m) = sgn b m + sgn c n := by
  unfold sgn; cases b <;> cases c <;> simp_all <;> omega

theorem sgn_mul (b c : Bool) (m n : Nat) : sgn (b != c) (m * n) = sgn b m * sgn c n := by
  unfold sgn; cases b <;> cases c <;> simp [Int.neg_mul, Int.mul_neg]

theorem sgn_false (n : Nat) : sgn false n = n := rfl

theorem sgn_true (n : Nat) : sgn true n = -(n : Int) := rfl

def szi (z : Int) : Nat := sz z.natAbs

theorem szi_add (x y : Int) : szi (x + y) ≤ max (szi x) (szi y) + 1 := by
  unfold szi
  exact Nat.le_trans (sz_mono (Int.natAbs_add_le x y)) (sz_add _ _)

theorem szi_mul (x y : Int) : szi (x * y) ≤ szi x + szi y := by
  unfold szi; rw [Int.natAbs_mul]; exact sz_mul _ _

end Go.Proofs.YtkjcdnlpjldhaaaGreat


namespace Go.Proofs.YtkjcdnlpjldhaaaGreat
namespace Tw

def rat (b : Bool) (n d : Nat) : Rat := mkRat (sgn b n) d

theorem rat_zero_den (b : Bool) (n : Nat) : rat b n 0 = 0 := Rat.mkRat_zero _

theorem rat_zero_num (b : Bool) (d : Nat) : rat b 0 d = 0 := by unfold rat; rw [sgn_zero]; exact Rat.zero_mkRat _

theorem rat_eq_zero {b : Bool} {n d : Nat} (hd : d ≠ 0) : rat b n d = 0 ↔ n = 0 := by
  unfold rat
  rw [Rat.mkRat_eq_zero hd]
  unfold sgn
  cases b <;> simp

theorem rat_num {b : Bool} {n d : Nat} (hd : d ≠ 0) : (rat b n d).num.natAbs = n / Nat.gcd n d := by
  unfold rat
  rw [Rat.num_mkRat, if_neg hd, sgn_abs, Nat.gcd_comm]
  have h : ((Nat.gcd n d : Nat) : Int) ∣ sgn b n := by
    unfold sgn
    cases b
    · exact Int.ofNat_dvd.2 (Nat.gcd_dvd_left n d)
    · exact Int.dvd_neg.2 (Int.ofNat_dvd.2 (Nat.gcd_dvd_left n d))
  rw [Int.natAbs_ediv_of_dvd h, sgn_abs]
  rfl

theorem rat_den {b : Bool} {n d : Nat} (hd : d ≠ 0) : (rat b n d).den = d / Nat.gcd n d := by
  unfold rat
  rw [Rat.den_mkRat, if_neg hd, sgn_abs, Nat.gcd_comm]

theorem num_neg (q : Rat) : decide (q < 0) = decide (q.num < 0) := by
  congr 1
  have h : 0 ≤ q.num ↔ 0 ≤ q := Rat.num_nonneg
  apply propext
  rw [← Rat.not_le, ← h]
  omega

theorem sgn_num (q : Rat) : sgn (decide (q < 0)) q.num.natAbs = q.num := by rw [num_neg, sgn_canon]

theorem rat_self (q : Rat) : rat (decide (q < 0)) q.num.natAbs q.den = q := by
  unfold rat
  rw [sgn_num, Rat.mkRat_self]

theorem rat_neg (b : Bool) {n d : Nat} (hd : d ≠ 0) (hn : n ≠ 0) : decide (rat b n d < 0) = b := by
  have hq : rat b n d ≠ 0 := fun h => hn ((rat_eq_zero hd).1 h)
  cases b with
  | false =>
    have : 0 ≤ rat false n d := by
      unfold rat
      rw [← Rat.divInt_ofNat]
      exact Rat.divInt_nonneg (by rw [sgn_false]; omega) (by omega)
    exact decide_eq_false (fun h => absurd this (Rat.not_le.2 h))
  | true =>
    have h1 : - rat true n d = rat false n d := by
      unfold rat
      rw [Rat.neg_mkRat, sgn_true, sgn_false, Int.neg_neg]
    have h2 : 0 ≤ rat false n d := by
      unfold rat
      rw [← Rat.divInt_ofNat]
      exact Rat.divInt_nonneg (by rw [sgn_false]; omega) (by omega)
    refine decide_eq_true (Rat.not_le.1 fun h => hq ?_)
    exact Rat.nonneg_antisymm h (by rw [h1]; exact h2)

theorem mkRat_sgn (z : Int) (d : Nat) : mkRat z d = rat (decide (z < 0)) z.natAbs d := by unfold rat; rw [sgn_canon]

theorem rat_mul (b c : Bool) (m n d e : Nat) : rat b m d * rat c n e = rat (b != c) (m * n) (d * e) := by
  unfold rat
  rw [Rat.mkRat_mul_mkRat, sgn_mul]

theorem rat_not (b : Bool) (n d : Nat) : rat (!b) n d = - rat b n d := by
  unfold rat
  rw [Rat.neg_mkRat, sgn_not]

def szq (q : Rat) : Nat := max (sz q.num.natAbs) (sz q.den)

theorem szq_num (q : Rat) : sz q.num.natAbs ≤ szq q := Nat.le_max_left _ _

theorem szq_den (q : Rat) : sz q.den ≤ szq q := Nat.le_max_right _ _

theorem szq_rat (b : Bool) (n d : Nat) : szq (rat b n d) ≤ max 1 (max (sz n) (sz d)) := by
  by_cases hd : d = 0
  · subst hd
    rw [rat_zero_den]
    have : szq 0 ≤ 1 := by decide +kernel
    omega
  · unfold szq
    rw [rat_num hd, rat_den hd]
    have h1 := sz_div n (Nat.gcd n d)
    have h2 := sz_div d (Nat.gcd n d)
    omega

theorem szq_neg (q : Rat) : szq (-q) = szq q := by unfold szq; rw [Rat.neg_num, Rat.neg_den, Int.natAbs_neg]

theorem szq_one (q : Rat) : 1 ≤ szq q := by
  have h := szq_den q
  have : sz q.den ≠ 0 := fun e => q.den_nz (sz_eq_zero.1 e)
  omega

theorem szq_add (q r : Rat) : szq (q + r) ≤ szq q + szq r + 1 := by
  rw [Rat.add_def', mkRat_sgn]
  refine Nat.le_trans (szq_rat _ _ _) ?_
  have h1 := szi_add (q.num * (r.den : Int)) (r.num * (q.den : Int))
  have h2 := szi_mul q.num (r.den : Int)
  have h3 := szi_mul r.num (q.den : Int)
  have h4 := sz_mul q.den r.den
  have a1 := szq_num q
  have a2 := szq_den q
  have a3 := szq_num r
  have a4 := szq_den r
  have o1 := szq_one q
  unfold szi at h1 h2 h3
  rw [Int.natAbs_natCast] at h2 h3
  omega

theorem szq_mul (q r : Rat) : szq (q * r) ≤ szq q + szq r := by
  rw [Rat.mul_def', mkRat_sgn]
  refine Nat.le_trans (szq_rat _ _ _) ?_
  have h1 := szi_mul q.num r.num
  have h4 := sz_mul q.den r.den
  have a1 := szq_num q
  have a2 := szq_den q
  have a3 := szq_num r
  have a4 := szq_den r
  have o1 := szq_one q
  unfold szi at h1
  omega

theorem szq_sub (q r : Rat) : szq (q - r) ≤ szq q + szq r + 1 := by
  rw [Rat.sub_eq_add_neg]
  have := szq_add q (-r)
  rwa [szq_neg] at this

theorem szq_inv (q : Rat) : szq q⁻¹ ≤ szq q := by
  unfold szq
  rw [Rat.num_inv, Rat.den_inv]
  split
  · rename_i h
    rw [h]
    have : sz q.den ≠ 0 := fun e => q.den_nz (sz_eq_zero.1 e)
    have h1 : sz ((0 : Int).sign * (q.den : Int)).natAbs = 0 := by simp [sz_zero]
    rw [h1]
    have : sz 1 ≤ 1 := by decide +kernel
    omega
  · rename_i h
    rw [Int.natAbs_mul, Int.natAbs_sign_of_ne_zero h, Nat.one_mul, Int.natAbs_natCast]
    omega

theorem szq_div (q r : Rat) : szq (q / r) ≤ szq q + szq r := by
  rw [Rat.div_def]
  have h1 := szq_mul q r⁻¹
  have h2 := szq_inv r
  omega

end Tw
end Go.Proofs.YtkjcdnlpjldhaaaGreat


namespace Go.Proofs.YtkjcdnlpjldhaaaGreat
open Tw
set_option linter.unusedVariables false

theorem odd_coprime {y : Nat} (h : y % 2 = 1) (j : Nat) : Nat.Coprime (2 ^ j) y := by
  apply Nat.Coprime.pow_left
  show Nat.gcd 2 y = 1
  rw [Nat.gcd_rec, h]; rfl

theorem gcd_odd {m y : Nat} (j : Nat) (h : y % 2 = 1) : Nat.gcd (m * 2 ^ j) y = Nat.gcd m y :=
  Nat.Coprime.gcd_mul_right_cancel m (odd_coprime h j)

theorem gcd_minus {x y : Nat} (h : y ≤ x) : Nat.gcd (x - y) y = Nat.gcd x y := Nat.gcd_sub_self_left h

theorem gcd_twos {x y n k : Nat} (hx : x % 2 = 1) (hy : y % 2 = 1) : Nat.gcd (x * 2 ^ n) (y * 2 ^ k) = Nat.gcd x y * 2 ^ min n k := by
  rcases Nat.le_total n k with h | h
  · obtain ⟨j, rfl⟩ := Nat.exists_eq_add_of_le h
    rw [Nat.min_eq_left h, Nat.add_comm n j, Nat.pow_add, ← Nat.mul_assoc, Nat.gcd_mul_right]
    congr 1
    rw [Nat.gcd_comm, gcd_odd j hx, Nat.gcd_comm]
  · obtain ⟨j, rfl⟩ := Nat.exists_eq_add_of_le h
    rw [Nat.min_eq_right h, Nat.add_comm k j, Nat.pow_add, ← Nat.mul_assoc, Nat.gcd_mul_right, gcd_odd j hy]

theorem gcd_step (a b : Nat) : Nat.gcd b (a % b) = Nat.gcd a b := by
  rw [Nat.gcd_comm b, ← Nat.gcd_rec, Nat.gcd_comm]

theorem limbs_even {n : Nat} (h : n ≠ 0) : nth (limbs n) 0 % 2 = n % 2 := by
  rw [limbs_pos h]
  show n % B % 2 = n % 2
  rw [B_eq]; omega

theorem pow_le_bits {m k n : Nat} (h : n = m * 2 ^ k) (hn : n ≠ 0) : k < nbits n := by
  apply nbits_gt
  rcases Nat.eq_zero_or_pos m with rfl | hm
  · rw [Nat.zero_mul] at h; exact absurd h hn
  · rw [h]; exact Nat.le_mul_of_pos_left _ hm

theorem gcd_pos_right {a b : Nat} (h : 0 < b) : 0 < Nat.gcd a b := Nat.gcd_pos_of_pos_right a h

end Go.Proofs.YtkjcdnlpjldhaaaGreat

