/-
  The walks of the reference of layer 2.
-/
import Derived.Test.YteokdkcanckfeaaNatSub
namespace Go.Proofs.Yteokdkcanckfeaa
open Go.RowKit Tw
set_option linter.unusedVariables false
set_option linter.unusedSimpArgs false

set_option maxHeartbeats 400000 in
theorem ref2_at (v : Value) (l : List Nat) (i : Int) (w : World) (h : Rd w v l) (i0 : 0 ≤ i) :
    Calls Try.prog 74 #[v, .int .i64 i] w fun e w' => e = .returned (.int .u64 (nth l i.toNat : Nat)) ∧ w = w' := by
  obtain ⟨k, rfl⟩ := Int.eq_ofNat_of_zero_le i0
  rw [Int.toNat_natCast]
  by_cases hk : k < l.length
  · obtain ⟨a, n, cap, rfl, Hn, _⟩ := h.open
    obtain ⟨b, off, rfl, hcell⟩ := h.cells (by omega)
    have hck := hcell k hk
    have hx := h.1.nth k
    simp only [B_eq] at hx
    have hkn : k < n := by have := Hn.out; omega
    clear hcell
    go_enter Try.func74, Try.ntmps74
    go_wp2
    go_ret
    exact ⟨rfl, rfl⟩
  · have H := Lib.hid (nth_ge (Nat.not_lt.1 hk))
    obtain ⟨a, n, cap, rfl, Hn, _⟩ := h.open
    have hkn : n ≤ k := by have := Hn.out; omega
    go_enter Try.func74, Try.ntmps74
    go_wp2
    go_ret
    exact ⟨ret_one (int_eq (by rw [H.out]; rfl)), rfl⟩

theorem small_snoc {l : List Nat} {x : Nat} (h : Small l) (hx : x < 4294967296) : Small (l ++ [x]) := small_append.2 ⟨h, small1 hx⟩

set_option maxHeartbeats 1000000 in
theorem ref2_trim (v : Value) (l : List Nat) (w : World) (h : Rd w v l) (hl : l.length ≤ 1000000000) :
    Calls Try.prog 53 #[v] w (Gives w (limbs (val l))) := by
  have hsz := sz_val h.1
  have Hlim := Lib.hid (limbs_eq_take h.1)
  obtain ⟨a, na, cap, rfl, Hna, _⟩ := h.open
  go_enter Try.func53, Try.ntmps53
  go_wp2_with fail
  refine (ref1_low _ l _ h).mono ?_
  rintro e w' ⟨rfl, rfl⟩
  generalize hn : sz (val l) = n at *
  have Hn := Lib.hid hn
  clear hn
  go_wp2_with fail
  go_loopw [4, 5] (fun v i ww => ∃ k : Nat, k ≤ n ∧ i = .int .i64 k ∧ Own w.heap.size ww v (l.take k) ∧ Below w.heap.size w ww) (fun _ i _ => n - (intOf i).toNat)
  case atStart => exact ⟨0, Nat.zero_le _, rfl, Own.nil _ _, Below.refl _ _⟩
  case round =>
    obtain ⟨k, hk, rfl, hown, hbw⟩ := hrel
    by_cases hkn : k < n
    · obtain ⟨b, off, rfl, hcell⟩ := (h.to hbw).cells (by omega)
      have hck := hcell k (by omega)
      have hx := h.1.nth k
      simp only [B_eq] at hx
      have hlk : (l.take k).length = k := by rw [List.length_take]; omega
      have Hlk := Lib.hid hlk
      have hnk : k < na := by have := Hna.out; omega
      have Hsn := Lib.hid (take_snoc (show k < l.length by omega))
      clear hcell hlk
      go_wp2_with (at_builtin; refine wp_append _ rfl (.tmp 13) (.tmp 18) rfl w.heap.size _ _ (l.take k) [nth l k] rfl rfl (hown.alloc _) (own_lit_at wr _ [nth l k] rfl (small1 hx) (by simp [maxLen])).rd (by have := hbw.size; simp; omega) (by rw [Hlk.out]; simp; omega) ?_; intro v2 w2 hown2 hb2 hs2)
      go_roundw
      case rel => exact ⟨k + 1, by omega, by go_num, by rw [Hsn.out]; exact hown2, (hbw.alloc hbw.size _).trans hb2⟩
      case measure => simp [intOf]; omega
    · go_wp2_with fail
      go_ret
      exact ⟨_, rfl, by rw [Hlim.out, show n = k by omega]; exact hown, hbw⟩

set_option maxHeartbeats 1000000 in
theorem ref2_of (n : Int) (w : World) (n0 : 0 ≤ n) (n1 : n < 18446744073709551616) :
    Calls Try.prog 70 #[.int .u64 n] w (Gives w (limbs n.toNat)) := by
  obtain ⟨N, rfl⟩ := Int.eq_ofNat_of_zero_le n0
  rw [Int.toNat_natCast]
  go_enter Try.func70, Try.ntmps70
  go_wp2_with fail
  go_loopw [0, 3] (fun i v ww => ∃ (m : Nat) (X : List Nat), Hid (m < 18446744073709551616) ∧ i = .int .u64 m ∧ Own w.heap.size ww v X ∧ Below w.heap.size w ww ∧ Hid (limbs N = X ++ limbs m) ∧ X.length + sz m ≤ 2) (fun i _ _ => (intOf i).toNat)
  case atStart => exact ⟨N, [], by unfold Hid; omega, rfl, Own.nil _ _, Below.refl _ _, rfl, by simp; exact sz_le (by rw [B_eq]; simpa using (show N < 18446744073709551616 by omega))⟩
  case round =>
    obtain ⟨m, X, hm, rfl, hown, hbw, HX, hlen⟩ := hrel
    rcases Nat.eq_zero_or_pos m with rfl | hpos
    · go_wp2_with fail
      go_ret
      exact ⟨_, rfl, by rw [HX.out, limbs_zero, List.append_nil]; exact hown, hbw⟩
    · have E1 := Lib.hid (show (m : Int) % 4294967296 = ((m % 4294967296 : Nat) : Int) by omega)
      have E2 := Lib.hid (show (m : Int) / 4294967296 = ((m / 4294967296 : Nat) : Int) by omega)
      have hm2 : (m : Int) / 4294967296 ≤ 4294967295 := by have := hm.out; omega
      have hlp := limbs_pos (show m ≠ 0 by omega)
      have hs : sz m = sz (m / 4294967296) + 1 := by rw [← sz_def, hlp, List.length_cons]; rfl
      have HX2 : Hid (limbs N = (X ++ [m % 4294967296]) ++ limbs (m / 4294967296)) := by unfold Hid; rw [HX.out, hlp, List.append_assoc]; rfl
      have hlen2 : (X ++ [m % 4294967296]).length + sz (m / 4294967296) ≤ 2 := by rw [List.length_append]; simp; omega
      have hlx : X.length ≤ 2 := by omega
      clear hlp hs
      go_wp2_with (at_builtin; refine wp_append _ rfl (.tmp 6) (.tmp 10) rfl w.heap.size _ _ X [m % 4294967296] rfl rfl (hown.alloc _) (own_lit_at wr _ [m % 4294967296] rfl (small1 (by omega)) (by simp [maxLen])).rd (by have := hbw.size; simp; omega) (by simp; omega) ?_; intro v2 w2 hown2 hb2 hs2)
      go_roundw
      case rel => exact ⟨m / 4294967296, X ++ [m % 4294967296], by have := hm.out; unfold Hid; omega, int_eq E2.out, hown2, (hbw.alloc hbw.size _).trans hb2, HX2, hlen2⟩
      case measure => simp [intOf]; omega

theorem sz_le_two {n : Nat} (h : n < 18446744073709551616) : sz n ≤ 2 := sz_le (by rw [B_eq]; exact h)
theorem sz_gt_two {n : Nat} (h : 18446744073709551616 ≤ n) : 2 < sz n := by
  rcases Nat.lt_or_ge 2 (sz n) with h1 | h1
  · exact h1
  · have h2 := lt_sz n
    have h3 := Nat.pow_le_pow_right (n := B) B_pos h1
    have h4 : B ^ 2 = 18446744073709551616 := by decide
    omega

set_option maxHeartbeats 1000000 in
theorem ref2_cmp (va vb : Value) (la lb : List Nat) (w : World) (ha : Rd w va la) (hb : Rd w vb lb) (hla : la.length ≤ 1000000000) (hlb : lb.length ≤ 1000000000) :
    Calls Try.prog 71 #[va, vb] w fun e w' => e = .returned (.int .i64 (cmpN (val la) (val lb))) ∧ w = w' := by
  obtain ⟨aa, na, capa, rfl, Hna, _⟩ := ha.open
  obtain ⟨ab, nb, capb, rfl, Hnb, _⟩ := hb.open
  have hna : na ≤ 1000000000 := by have := Hna.out; omega
  have hnb : nb ≤ 1000000000 := by have := Hnb.out; omega
  obtain ⟨n, hn, hn1, hn2, hn3⟩ : ∃ n, max na nb = n ∧ na ≤ n ∧ nb ≤ n ∧ n ≤ 1000000000 := ⟨_, rfl, by omega, by omega, by omega⟩
  have hmax : max (na : Int) (nb : Int) = (n : Int) := by omega
  have Hst := Lib.hid (show SameTop la lb n from sameTop_long (by rw [Hna.out]; exact hn1) (by rw [Hnb.out]; exact hn2))
  clear hn
  go_enter Try.func71, Try.ntmps71
  go_wp2_with fail
  go_loop [6] (fun i => ∃ k : Nat, k ≤ n ∧ i = .int .i64 ((k : Int) - 1) ∧ Hid (SameTop la lb k)) (fun i => (intOf i + 1).toNat)
  case atStart => exact ⟨n, Nat.le_refl _, rfl, Hst⟩
  case round =>
    obtain ⟨k, hk, rfl, HT⟩ := hrel
    rcases Nat.eq_zero_or_pos k with rfl | hpos
    · have Hr := Lib.hid (cmpN_eq HT.out.zero)
      go_wp2_with fail
      go_ret
      exact ⟨ret_one (int_eq Hr.out.symm), rfl⟩
    · obtain ⟨j, rfl⟩ : ∃ j, k = j + 1 := ⟨k - 1, by omega⟩
      have hx := ha.1.nth j
      have hy := hb.1.nth j
      simp only [B_eq] at hx hy
      go_wp2_with fail
      refine (ref2_at _ la _ _ ha (by omega)).mono ?_
      rintro e w' ⟨rfl, rfl⟩
      go_wp2_with fail
      refine (ref2_at _ lb _ _ hb (by omega)).mono ?_
      rintro e w' ⟨rfl, rfl⟩
      rw [Int.toNat_natCast]
      rcases Nat.lt_trichotomy (nth la j) (nth lb j) with hxy | hxy | hxy
      · have Hr := Lib.hid (cmpN_lt (HT.out.lt ha.1 hxy))
        go_wp2_with fail
        go_ret
        exact ⟨ret_one (int_eq Hr.out.symm), rfl⟩
      · have Hr := Lib.hid (HT.out.step hxy)
        have h1 : ¬ nth la j < nth lb j := by omega
        have h2 : ¬ nth lb j < nth la j := by omega
        clear hxy
        go_wp2_with fail
        refine (ref2_at _ la _ _ ha (by omega)).mono ?_
        rintro e w' ⟨rfl, rfl⟩
        go_wp2_with fail
        refine (ref2_at _ lb _ _ hb (by omega)).mono ?_
        rintro e w' ⟨rfl, rfl⟩
        rw [Int.toNat_natCast]
        go_wp2_with fail
        go_round
        case rel => exact ⟨j, by omega, rfl, Hr⟩
        case measure => simp [intOf]
      · have Hr := Lib.hid (cmpN_gt (HT.out.symm.lt hb.1 hxy))
        have h1 : ¬ nth la j < nth lb j := by omega
        go_wp2_with fail
        refine (ref2_at _ la _ _ ha (by omega)).mono ?_
        rintro e w' ⟨rfl, rfl⟩
        go_wp2_with fail
        refine (ref2_at _ lb _ _ hb (by omega)).mono ?_
        rintro e w' ⟨rfl, rfl⟩
        rw [Int.toNat_natCast]
        go_wp2_with fail
        go_ret
        exact ⟨ret_one (int_eq Hr.out.symm), rfl⟩

set_option maxHeartbeats 400000 in
theorem few_yes (va vb : Value) (la lb : List Nat) (m : Int) (w : World) (ha : Rd w va la) (hb : Rd w vb lb) (h1 : (la.length : Int) ≤ m) (h2 : (lb.length : Int) ≤ m) :
    Calls Try.prog 34 #[va, vb, .int .i64 m] w fun e w' => e = .returned (.bool true) ∧ w = w' := by
  obtain ⟨aa, capa, rfl⟩ := ha.shape
  obtain ⟨ab, capb, rfl⟩ := hb.shape
  go_enter Try.func34, Try.ntmps34
  go_wp2_with fail
  go_ret
  exact ⟨ret_bool (by first | rfl | (simp; done) | (simp; omega)), rfl⟩

set_option maxHeartbeats 400000 in
theorem few_no (va vb : Value) (la lb : List Nat) (m : Int) (w : World) (ha : Rd w va la) (hb : Rd w vb lb) (h : ¬ ((la.length : Int) ≤ m ∧ (lb.length : Int) ≤ m)) :
    Calls Try.prog 34 #[va, vb, .int .i64 m] w fun e w' => e = .returned (.bool false) ∧ w = w' := by
  obtain ⟨aa, capa, rfl⟩ := ha.shape
  obtain ⟨ab, capb, rfl⟩ := hb.shape
  by_cases h1 : (la.length : Int) ≤ m
  · have h2 : ¬ (lb.length : Int) ≤ m := fun h3 => h ⟨h1, h3⟩
    have h3 : decide ((lb.length : Int) ≤ m) = false := by simpa using h2
    clear h
    go_enter Try.func34, Try.ntmps34
    go_wp2_with fail
    go_ret
    exact ⟨by first | rfl | (rw [h3]; rfl), rfl⟩
  · clear h
    go_enter Try.func34, Try.ntmps34
    go_wp2_with fail
    go_ret
    exact ⟨rfl, rfl⟩

set_option maxHeartbeats 1000000 in
theorem words_same (va vb : Value) (l : List Nat) (w : World) (ha : Rd w va l) (hb : Rd w vb l) :
    Calls Try.prog 17 #[va, vb] w fun e w' => e = .returned (.bool true) ∧ Below w.heap.size w w' := by
  obtain ⟨aa, capa, rfl⟩ := ha.shape
  obtain ⟨ab, capb, rfl⟩ := hb.shape
  have hm := ha.len_le
  unfold maxLen at hm
  go_enter Try.func17, Try.ntmps17
  go_wp2_with fail
  go_loopw [5] (fun i ww => ∃ k : Nat, k ≤ l.length ∧ i = .int .i64 k ∧ Below w.heap.size w ww) (fun i _ => l.length - (intOf i).toNat)
  case atStart => exact ⟨0, Nat.zero_le _, rfl, Below.refl _ _⟩
  case round =>
    obtain ⟨k, hk, rfl, hbw⟩ := hrel
    by_cases hkl : k < l.length
    · obtain ⟨ba, offa, rfl, hcella⟩ := (ha.to hbw).cells (by omega)
      obtain ⟨bb, offb, rfl, hcellb⟩ := (hb.to hbw).cells (by omega)
      have hxa := hcella k hkl
      have hxb := hcellb k hkl
      have hi1 : (k : Int) < (l.length : Int) := by omega
      clear hcella hcellb
      go_wp2_with fail
      go_quiet (fail)
      have hbw2 := below_drewN hbw nq
      clear hxa hxb
      generalize wr.drewN nq = w2 at *
      go_wp2_with fail
      go_roundw
      case rel => exact ⟨k + 1, by omega, by go_num, hbw2⟩
      case measure => simp [intOf]; omega
    · go_wp2_with fail
      go_ret
      exact ⟨rfl, hbw⟩

end Go.Proofs.Yteokdkcanckfeaa
