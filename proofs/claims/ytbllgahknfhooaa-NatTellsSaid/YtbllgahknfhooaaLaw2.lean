/-
  The walks of the statements of layer 2.
-/
import Derived.Test.YtbllgahknfhooaaRef2b
namespace Go.Proofs.Ytbllgahknfhooaa
open Go.RowKit Tw
set_option linter.unusedVariables false
set_option linter.unusedSimpArgs false

/-- What a statement's call comes to. -/
def Holds (w : World) (e : Ending) (w' : World) : Prop := e = .returned (.bool true) ∧ Below w.heap.size w w'

theorem lit2 (w : World) {a b : Nat} (ha : a < 4294967296) (hb : b < 4294967296) : Rd (w.alloc (.cells #[u32v a, u32v b] 23)) (.slice (some ⟨w.heap.size, 0, none⟩) 2 2) [a, b] :=
  (own_lit w [a, b] (small2 ha hb) (by simp [maxLen])).rd
theorem lit1 (w : World) {a : Nat} (ha : a < 4294967296) : Rd (w.alloc (.cells #[u32v a] 23)) (.slice (some ⟨w.heap.size, 0, none⟩) 1 1) [a] :=
  (own_lit w [a] (small1 ha) (by simp [maxLen])).rd
theorem lit1_at (w : World) {n a : Nat} (hn : n = w.heap.size) (ha : a < 4294967296) : Rd (w.alloc (.cells #[u32v a] 23)) (.slice (some ⟨n, 0, none⟩) 1 1) [a] := by
  subst hn; exact lit1 w ha

theorem below_new2 {w w1 : World} (o : Obj) (h : Below (w.alloc o).heap.size (w.alloc o) w1) : Below w.heap.size w w1 := below_step (below_new _ _) h

set_option maxRecDepth 100000 in
set_option maxHeartbeats 2000000 in
theorem awake2  (w : World)  :
    Calls Try.prog 30 #[] w (Holds w) := by
  have H1 := Lib.hid (show limbs (val [4294967295] + val [1]) = [0, 1] by decide +kernel)
  have H2 := Lib.hid (show limbs (4294967301 : Int).toNat = [5, 1] by decide +kernel)
  have H3 := Lib.hid (show val [0, 1] = 4294967296 by decide +kernel)
  have H4 := Lib.hid (show sz (val [0, 1]) = 2 by decide +kernel)
  have H5 := Lib.hid (show nbits (val [0, 1]) = 33 by decide +kernel)
  have H6 := Lib.hid (show cmpN (val [0, 1]) (val []) = 1 by decide +kernel)
  go_enter Try.func30, Try.ntmps30
  go_wp2_with fail
  refine (nat_add _ _ [4294967295] [1] _ ((lit1 w (by omega)).alloc _) (lit1_at (w.alloc _) (by simp) (by omega)) (by simp) (by simp)).mono ?_
  rintro e w1 ⟨va, rfl, hva, hb1⟩
  have hB := below_new2 _ (below_new2 _ hb1)
  replace hva := hva.rd
  rw [H1.out] at hva
  clear hb1
  go_wp2_with fail
  refine (nat_small _ [0, 1] _ hva (by simp) (by rw [H3.out]; omega)).mono ?_
  rintro e w' ⟨rfl, rfl⟩
  rw [H3.out]
  go_wp2_with fail
  refine (nat_of _ _ (by omega) (by omega)).mono ?_
  rintro e w2 ⟨vn, rfl, hn, hb2⟩
  replace hB := below_step hB hb2
  replace hva := hva.to hb2
  replace hn := hn.rd
  clear hb2
  rw [H2.out] at hn
  go_wp2_with fail
  refine (words_same _ _ [5, 1] _ (hn.alloc _) (lit2 w2 (by omega) (by omega))).mono ?_
  rintro e w3 ⟨rfl, hb3⟩
  replace hB := below_step hB (below_new2 _ hb3)
  replace hva := (hva.alloc _).to hb3
  clear hb3 hn
  go_wp2_with fail
  refine (words_same _ _ [0, 1] _ (hva.alloc _) (lit2 w3 (by omega) (by omega))).mono ?_
  rintro e w4 ⟨rfl, hb4⟩
  replace hB := below_step hB (below_new2 _ hb4)
  replace hva := (hva.alloc _).to hb4
  clear hb4
  go_wp2_with fail
  refine (nat_right _ [0, 1] _ hva).mono ?_
  rintro e w' ⟨rfl, rfl⟩
  rw [show decide (sz (val [0, 1]) = [0, 1].length) = true by rw [H4.out]; rfl]
  go_wp2_with fail
  refine (nat_bits _ [0, 1] _ hva (by simp)).mono ?_
  rintro e w' ⟨rfl, rfl⟩
  rw [H5.out]
  go_wp2_with fail
  refine (nat_cmp _ _ [0, 1] [] _ hva (Rd.nil _)).mono ?_
  rintro e w5 ⟨rfl, hb5⟩
  replace hB := below_step hB hb5
  replace hva := hva.to hb5
  clear hb5
  rw [H6.out]
  go_wp2_with fail
  go_ret
  exact ⟨rfl, hB⟩

set_option maxRecDepth 100000 in
set_option maxHeartbeats 2000000 in
theorem walk_NatTells (v : Value) (l : List Nat) (n : Int) (w : World) (h : Rd w v l) (n0 : 0 ≤ n) (n1 : n < 18446744073709551616) :
    Calls Try.prog 8 #[v, .int .u64 n] w (Holds w) := by
  have hlm := h.len_le
  unfold maxLen at hlm
  obtain ⟨ad, cap, rfl⟩ := h.shape
  by_cases hn : 40 < l.length
  · go_enter Try.func8, Try.ntmps8
    go_wp2_with fail
    refine (awake2 _).mono ?_
    rintro e w1 ⟨rfl, hb1⟩
    have hB := hb1
    replace h := h.to hb1
    clear hb1
    go_wp2_with fail
    go_ret
    exact ⟨rfl, hB⟩
  · rcases Nat.lt_or_ge (val l) 18446744073709551616 with hs0 | hs0
    · have hs := hs0
      clear hs0
      go_enter Try.func8, Try.ntmps8
      go_wp2_with fail
      refine (awake2 _).mono ?_
      rintro e w1 ⟨rfl, hb1⟩
      have hB := hb1
      replace h := h.to hb1
      clear hb1
      go_wp2_with fail
      refine (nat_small _ l _ h (by omega) hs).mono ?_
      rintro e w' ⟨rfl, rfl⟩
      go_wp2_with fail
      refine (ref2_small _ l _ h hs).mono ?_
      rintro e w' ⟨rfl, rfl⟩
      go_wp2_with fail
      refine (ref1_low _ l _ h).mono ?_
      rintro e w' ⟨rfl, rfl⟩
      go_wp2_with fail
      refine (nat_right _ l _ h).mono ?_
      rintro e w' ⟨rfl, rfl⟩
      rw [show decide (sz (val l) = l.length) = ((sz (val l) : Int) == (l.length : Int)) by rw [Bool.eq_iff_iff]; simp; omega]
      go_wp2_with fail
      refine (nat_trim _ l _ h (by omega)).mono ?_
      rintro e w2 ⟨vt, rfl, ht, hb2⟩
      replace hB := below_step hB hb2
      replace h := h.to hb2
      replace ht := ht.rd
      clear hb2
      go_wp2_with fail
      refine (ref2_trim _ l _ h (by omega)).mono ?_
      rintro e w3 ⟨vu, rfl, hu, hb3⟩
      replace hB := below_step hB hb3
      replace h := h.to hb3
      replace ht := ht.to hb3
      replace hu := hu.rd
      clear hb3
      go_wp2_with fail
      refine (words_same _ _ _ _ ht hu).mono ?_
      rintro e w4 ⟨rfl, hb4⟩
      replace hB := below_step hB hb4
      replace h := h.to hb4
      replace ht := ht.to hb4
      replace hu := hu.to hb4
      clear hb4
      go_wp2_with fail
      refine (nat_of _ _ n0 n1).mono ?_
      rintro e w5 ⟨vx, rfl, hx, hb5⟩
      replace hB := below_step hB hb5
      replace h := h.to hb5
      replace ht := ht.to hb5
      replace hu := hu.to hb5
      replace hx := hx.rd
      clear hb5
      go_wp2_with fail
      refine (ref2_of _ _ n0 n1).mono ?_
      rintro e w6 ⟨vy, rfl, hy, hb6⟩
      replace hB := below_step hB hb6
      replace h := h.to hb6
      replace ht := ht.to hb6
      replace hu := hu.to hb6
      replace hx := hx.to hb6
      replace hy := hy.rd
      clear hb6
      go_wp2_with fail
      refine (words_same _ _ _ _ hx hy).mono ?_
      rintro e w7 ⟨rfl, hb7⟩
      replace hB := below_step hB hb7
      replace h := h.to hb7
      replace ht := ht.to hb7
      replace hu := hu.to hb7
      replace hx := hx.to hb7
      replace hy := hy.to hb7
      clear hb7
      go_wp2_with fail
      refine (nat_bits _ l _ h (by omega)).mono ?_
      rintro e w' ⟨rfl, rfl⟩
      go_wp2_with fail
      refine (ref2_bits _ l _ h (by omega)).mono ?_
      rintro e w' ⟨rfl, rfl⟩
      go_wp2_with fail
      go_ret
      exact ⟨rfl, hB⟩
    · have hs := hs0
      clear hs0
      go_enter Try.func8, Try.ntmps8
      go_wp2_with fail
      refine (awake2 _).mono ?_
      rintro e w1 ⟨rfl, hb1⟩
      have hB := hb1
      replace h := h.to hb1
      clear hb1
      go_wp2_with fail
      refine (nat_small_no _ l _ h (by omega) hs).mono ?_
      rintro e w' ⟨rfl, rfl⟩
      go_wp2_with fail
      refine (ref2_small_no _ l _ h hs).mono ?_
      rintro e w' ⟨rfl, rfl⟩
      go_wp2_with fail
      refine (ref1_low _ l _ h).mono ?_
      rintro e w' ⟨rfl, rfl⟩
      go_wp2_with fail
      refine (nat_right _ l _ h).mono ?_
      rintro e w' ⟨rfl, rfl⟩
      rw [show decide (sz (val l) = l.length) = ((sz (val l) : Int) == (l.length : Int)) by rw [Bool.eq_iff_iff]; simp; omega]
      go_wp2_with fail
      refine (nat_trim _ l _ h (by omega)).mono ?_
      rintro e w2 ⟨vt, rfl, ht, hb2⟩
      replace hB := below_step hB hb2
      replace h := h.to hb2
      replace ht := ht.rd
      clear hb2
      go_wp2_with fail
      refine (ref2_trim _ l _ h (by omega)).mono ?_
      rintro e w3 ⟨vu, rfl, hu, hb3⟩
      replace hB := below_step hB hb3
      replace h := h.to hb3
      replace ht := ht.to hb3
      replace hu := hu.rd
      clear hb3
      go_wp2_with fail
      refine (words_same _ _ _ _ ht hu).mono ?_
      rintro e w4 ⟨rfl, hb4⟩
      replace hB := below_step hB hb4
      replace h := h.to hb4
      replace ht := ht.to hb4
      replace hu := hu.to hb4
      clear hb4
      go_wp2_with fail
      refine (nat_of _ _ n0 n1).mono ?_
      rintro e w5 ⟨vx, rfl, hx, hb5⟩
      replace hB := below_step hB hb5
      replace h := h.to hb5
      replace ht := ht.to hb5
      replace hu := hu.to hb5
      replace hx := hx.rd
      clear hb5
      go_wp2_with fail
      refine (ref2_of _ _ n0 n1).mono ?_
      rintro e w6 ⟨vy, rfl, hy, hb6⟩
      replace hB := below_step hB hb6
      replace h := h.to hb6
      replace ht := ht.to hb6
      replace hu := hu.to hb6
      replace hx := hx.to hb6
      replace hy := hy.rd
      clear hb6
      go_wp2_with fail
      refine (words_same _ _ _ _ hx hy).mono ?_
      rintro e w7 ⟨rfl, hb7⟩
      replace hB := below_step hB hb7
      replace h := h.to hb7
      replace ht := ht.to hb7
      replace hu := hu.to hb7
      replace hx := hx.to hb7
      replace hy := hy.to hb7
      clear hb7
      go_wp2_with fail
      refine (nat_bits _ l _ h (by omega)).mono ?_
      rintro e w' ⟨rfl, rfl⟩
      go_wp2_with fail
      refine (ref2_bits _ l _ h (by omega)).mono ?_
      rintro e w' ⟨rfl, rfl⟩
      go_wp2_with fail
      go_ret
      exact ⟨rfl, hB⟩

end Go.Proofs.Ytbllgahknfhooaa
