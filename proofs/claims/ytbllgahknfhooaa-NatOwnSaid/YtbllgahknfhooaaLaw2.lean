/-
  The walks of the statements of layer 2.
-/
import Derived.Test.YtbllgahknfhooaaRef2b
namespace Go.Proofs.Ytbllgahknfhooaa
open Go.RowKit Tw
set_option linter.unusedVariables false
set_option linter.unusedSimpArgs false

/-- What a statement's call comes to. -/
def Holds (w : World) (e : Ending) (w' : World) : Prop := e = .returned (.bool true) ∧ Below w.heap.size w w'

theorem lit2 (w : World) {a b : Nat} (ha : a < 4294967296) (hb : b < 4294967296) : Rd (w.alloc (.cells #[u32v a, u32v b] 23)) (.slice (some ⟨w.heap.size, 0, none⟩) 2 2) [a, b] :=
  (own_lit w [a, b] (small2 ha hb) (by simp [maxLen])).rd
theorem lit1 (w : World) {a : Nat} (ha : a < 4294967296) : Rd (w.alloc (.cells #[u32v a] 23)) (.slice (some ⟨w.heap.size, 0, none⟩) 1 1) [a] :=
  (own_lit w [a] (small1 ha) (by simp [maxLen])).rd
theorem lit1_at (w : World) {n a : Nat} (hn : n = w.heap.size) (ha : a < 4294967296) : Rd (w.alloc (.cells #[u32v a] 23)) (.slice (some ⟨n, 0, none⟩) 1 1) [a] := by
  subst hn; exact lit1 w ha

theorem below_new2 {w w1 : World} (o : Obj) (h : Below (w.alloc o).heap.size (w.alloc o) w1) : Below w.heap.size w w1 := below_step (below_new _ _) h

set_option maxRecDepth 100000 in
set_option maxHeartbeats 2000000 in
theorem awake2  (w : World)  :
    Calls Try.prog 30 #[] w (Holds w) := by
  have H1 := Lib.hid (show limbs (val [4294967295] + val [1]) = [0, 1] by decide +kernel)
  have H2 := Lib.hid (show limbs (4294967301 : Int).toNat = [5, 1] by decide +kernel)
  have H3 := Lib.hid (show val [0, 1] = 4294967296 by decide +kernel)
  have H4 := Lib.hid (show sz (val [0, 1]) = 2 by decide +kernel)
  have H5 := Lib.hid (show nbits (val [0, 1]) = 33 by decide +kernel)
  have H6 := Lib.hid (show cmpN (val [0, 1]) (val []) = 1 by decide +kernel)
  go_enter Try.func30, Try.ntmps30
  go_wp2_with fail
  refine (nat_add _ _ [4294967295] [1] _ ((lit1 w (by omega)).alloc _) (lit1_at (w.alloc _) (by simp) (by omega)) (by simp) (by simp)).mono ?_
  rintro e w1 ⟨va, rfl, hva, hb1⟩
  have hB := below_new2 _ (below_new2 _ hb1)
  replace hva := hva.rd
  rw [H1.out] at hva
  clear hb1
  go_wp2_with fail
  refine (nat_small _ [0, 1] _ hva (by simp) (by rw [H3.out]; omega)).mono ?_
  rintro e w' ⟨rfl, rfl⟩
  rw [H3.out]
  go_wp2_with fail
  refine (nat_of _ _ (by omega) (by omega)).mono ?_
  rintro e w2 ⟨vn, rfl, hn, hb2⟩
  replace hB := below_step hB hb2
  replace hva := hva.to hb2
  replace hn := hn.rd
  clear hb2
  rw [H2.out] at hn
  go_wp2_with fail
  refine (words_same _ _ [5, 1] _ (hn.alloc _) (lit2 w2 (by omega) (by omega))).mono ?_
  rintro e w3 ⟨rfl, hb3⟩
  replace hB := below_step hB (below_new2 _ hb3)
  replace hva := (hva.alloc _).to hb3
  clear hb3 hn
  go_wp2_with fail
  refine (words_same _ _ [0, 1] _ (hva.alloc _) (lit2 w3 (by omega) (by omega))).mono ?_
  rintro e w4 ⟨rfl, hb4⟩
  replace hB := below_step hB (below_new2 _ hb4)
  replace hva := (hva.alloc _).to hb4
  clear hb4
  go_wp2_with fail
  refine (nat_right _ [0, 1] _ hva).mono ?_
  rintro e w' ⟨rfl, rfl⟩
  rw [show decide (sz (val [0, 1]) = [0, 1].length) = true by rw [H4.out]; rfl]
  go_wp2_with fail
  refine (nat_bits _ [0, 1] _ hva (by simp)).mono ?_
  rintro e w' ⟨rfl, rfl⟩
  rw [H5.out]
  go_wp2_with fail
  refine (nat_cmp _ _ [0, 1] [] _ hva (Rd.nil _)).mono ?_
  rintro e w5 ⟨rfl, hb5⟩
  replace hB := below_step hB hb5
  replace hva := hva.to hb5
  clear hb5
  rw [H6.out]
  go_wp2_with fail
  go_ret
  exact ⟨by first | rfl | exact ret_bool (by first | (simp; done) | (simp; omega)), hB⟩

set_option maxRecDepth 100000 in
set_option maxHeartbeats 2000000 in
theorem walk_NatTells (v : Value) (l : List Nat) (n : Int) (w : World) (h : Rd w v l) (n0 : 0 ≤ n) (n1 : n < 18446744073709551616) :
    Calls Try.prog 8 #[v, .int .u64 n] w (Holds w) := by
  have hlm := h.len_le
  unfold maxLen at hlm
  obtain ⟨ad, cap, rfl⟩ := h.shape
  by_cases hn : 40 < l.length
  · go_enter Try.func8, Try.ntmps8
    go_wp2_with fail
    refine (awake2 _).mono ?_
    rintro e w1 ⟨rfl, hb1⟩
    have hB := hb1
    replace h := h.to hb1
    clear hb1
    go_wp2_with fail
    go_ret
    exact ⟨by first | rfl | exact ret_bool (by first | (simp; done) | (simp; omega)), hB⟩
  · rcases Nat.lt_or_ge (val l) 18446744073709551616 with hs0 | hs0
    · have hs := hs0
      clear hs0
      go_enter Try.func8, Try.ntmps8
      go_wp2_with fail
      refine (awake2 _).mono ?_
      rintro e w1 ⟨rfl, hb1⟩
      have hB := hb1
      replace h := h.to hb1
      clear hb1
      go_wp2_with fail
      refine (nat_small _ l _ h (by omega) hs).mono ?_
      rintro e w' ⟨rfl, rfl⟩
      go_wp2_with fail
      refine (ref2_small _ l _ h hs).mono ?_
      rintro e w' ⟨rfl, rfl⟩
      go_wp2_with fail
      refine (ref1_low _ l _ h).mono ?_
      rintro e w' ⟨rfl, rfl⟩
      go_wp2_with fail
      refine (nat_right _ l _ h).mono ?_
      rintro e w' ⟨rfl, rfl⟩
      rw [show decide (sz (val l) = l.length) = ((sz (val l) : Int) == (l.length : Int)) by rw [Bool.eq_iff_iff]; simp; omega]
      go_wp2_with fail
      refine (nat_trim _ l _ h (by omega)).mono ?_
      rintro e w2 ⟨vt, rfl, ht, hb2⟩
      replace hB := below_step hB hb2
      replace h := h.to hb2
      replace ht := ht.rd
      clear hb2
      go_wp2_with fail
      refine (ref2_trim _ l _ h (by omega)).mono ?_
      rintro e w3 ⟨vu, rfl, hu, hb3⟩
      replace hB := below_step hB hb3
      replace h := h.to hb3
      replace ht := ht.to hb3
      replace hu := hu.rd
      clear hb3
      go_wp2_with fail
      refine (words_same _ _ _ _ ht hu).mono ?_
      rintro e w4 ⟨rfl, hb4⟩
      replace hB := below_step hB hb4
      replace h := h.to hb4
      replace ht := ht.to hb4
      replace hu := hu.to hb4
      clear hb4
      go_wp2_with fail
      refine (nat_of _ _ n0 n1).mono ?_
      rintro e w5 ⟨vx, rfl, hx, hb5⟩
      replace hB := below_step hB hb5
      replace h := h.to hb5
      replace ht := ht.to hb5
      replace hu := hu.to hb5
      replace hx := hx.rd
      clear hb5
      go_wp2_with fail
      refine (ref2_of _ _ n0 n1).mono ?_
      rintro e w6 ⟨vy, rfl, hy, hb6⟩
      replace hB := below_step hB hb6
      replace h := h.to hb6
      replace ht := ht.to hb6
      replace hu := hu.to hb6
      replace hx := hx.to hb6
      replace hy := hy.rd
      clear hb6
      go_wp2_with fail
      refine (words_same _ _ _ _ hx hy).mono ?_
      rintro e w7 ⟨rfl, hb7⟩
      replace hB := below_step hB hb7
      replace h := h.to hb7
      replace ht := ht.to hb7
      replace hu := hu.to hb7
      replace hx := hx.to hb7
      replace hy := hy.to hb7
      clear hb7
      go_wp2_with fail
      refine (nat_bits _ l _ h (by omega)).mono ?_
      rintro e w' ⟨rfl, rfl⟩
      go_wp2_with fail
      refine (ref2_bits _ l _ h (by omega)).mono ?_
      rintro e w' ⟨rfl, rfl⟩
      go_wp2_with fail
      go_ret
      exact ⟨by first | rfl | exact ret_bool (by first | (simp; done) | (simp; omega)), hB⟩
    · have hs := hs0
      clear hs0
      go_enter Try.func8, Try.ntmps8
      go_wp2_with fail
      refine (awake2 _).mono ?_
      rintro e w1 ⟨rfl, hb1⟩
      have hB := hb1
      replace h := h.to hb1
      clear hb1
      go_wp2_with fail
      refine (nat_small_no _ l _ h (by omega) hs).mono ?_
      rintro e w' ⟨rfl, rfl⟩
      go_wp2_with fail
      refine (ref2_small_no _ l _ h hs).mono ?_
      rintro e w' ⟨rfl, rfl⟩
      go_wp2_with fail
      refine (ref1_low _ l _ h).mono ?_
      rintro e w' ⟨rfl, rfl⟩
      go_wp2_with fail
      refine (nat_right _ l _ h).mono ?_
      rintro e w' ⟨rfl, rfl⟩
      rw [show decide (sz (val l) = l.length) = ((sz (val l) : Int) == (l.length : Int)) by rw [Bool.eq_iff_iff]; simp; omega]
      go_wp2_with fail
      refine (nat_trim _ l _ h (by omega)).mono ?_
      rintro e w2 ⟨vt, rfl, ht, hb2⟩
      replace hB := below_step hB hb2
      replace h := h.to hb2
      replace ht := ht.rd
      clear hb2
      go_wp2_with fail
      refine (ref2_trim _ l _ h (by omega)).mono ?_
      rintro e w3 ⟨vu, rfl, hu, hb3⟩
      replace hB := below_step hB hb3
      replace h := h.to hb3
      replace ht := ht.to hb3
      replace hu := hu.rd
      clear hb3
      go_wp2_with fail
      refine (words_same _ _ _ _ ht hu).mono ?_
      rintro e w4 ⟨rfl, hb4⟩
      replace hB := below_step hB hb4
      replace h := h.to hb4
      replace ht := ht.to hb4
      replace hu := hu.to hb4
      clear hb4
      go_wp2_with fail
      refine (nat_of _ _ n0 n1).mono ?_
      rintro e w5 ⟨vx, rfl, hx, hb5⟩
      replace hB := below_step hB hb5
      replace h := h.to hb5
      replace ht := ht.to hb5
      replace hu := hu.to hb5
      replace hx := hx.rd
      clear hb5
      go_wp2_with fail
      refine (ref2_of _ _ n0 n1).mono ?_
      rintro e w6 ⟨vy, rfl, hy, hb6⟩
      replace hB := below_step hB hb6
      replace h := h.to hb6
      replace ht := ht.to hb6
      replace hu := hu.to hb6
      replace hx := hx.to hb6
      replace hy := hy.rd
      clear hb6
      go_wp2_with fail
      refine (words_same _ _ _ _ hx hy).mono ?_
      rintro e w7 ⟨rfl, hb7⟩
      replace hB := below_step hB hb7
      replace h := h.to hb7
      replace ht := ht.to hb7
      replace hu := hu.to hb7
      replace hx := hx.to hb7
      replace hy := hy.to hb7
      clear hb7
      go_wp2_with fail
      refine (nat_bits _ l _ h (by omega)).mono ?_
      rintro e w' ⟨rfl, rfl⟩
      go_wp2_with fail
      refine (ref2_bits _ l _ h (by omega)).mono ?_
      rintro e w' ⟨rfl, rfl⟩
      go_wp2_with fail
      go_ret
      exact ⟨by first | rfl | exact ret_bool (by first | (simp; done) | (simp; omega)), hB⟩

set_option maxRecDepth 100000 in
set_option maxHeartbeats 2000000 in
theorem walk_NatReckons (va : Value) (la : List Nat) (vb : Value) (lb : List Nat) (w : World) (ha : Rd w va la) (hb : Rd w vb lb) :
    Calls Try.prog 10 #[va, vb] w (Holds w) := by
  have hlma := ha.len_le
  have hlmb := hb.len_le
  unfold maxLen at hlma hlmb
  by_cases hfew : (la.length : Int) ≤ 40 ∧ (lb.length : Int) ≤ 40
  · obtain ⟨hla, hlb⟩ := hfew
    have hsa := sz_val ha.1
    have hsb := sz_val hb.1
    rcases Nat.lt_or_ge (val la) (val lb) with hc | hc
    · go_enter Try.func10, Try.ntmps10
      go_wp2_with fail
      refine (awake2 _).mono ?_
      rintro e w1 ⟨rfl, hb1⟩
      have hB := hb1
      replace ha := ha.to hb1
      replace hb := hb.to hb1
      clear hb1
      go_wp2_with fail
      refine (few_yes _ _ la lb 40 _ ha hb hla hlb).mono ?_
      rintro e w' ⟨rfl, rfl⟩
      go_wp2_with fail
      refine (nat_sub_no _ _ la lb _ ha hb hc).mono ?_
      rintro e w2 ⟨rfl, hb2⟩
      replace hB := below_step hB hb2
      replace ha := ha.to hb2
      replace hb := hb.to hb2
      clear hb2
      go_wp2_with fail
      refine (ref2_sub_no _ _ la lb _ ha hb (by omega) (by omega) hc).mono ?_
      rintro e w3 ⟨rfl, hb3⟩
      replace hB := below_step hB hb3
      replace ha := ha.to hb3
      replace hb := hb.to hb3
      clear hb3
      go_wp2_with fail
      refine (nat_cmp _ _ la lb _ ha hb).mono ?_
      rintro e w4 ⟨rfl, hb4⟩
      replace hB := below_step hB hb4
      replace ha := ha.to hb4
      replace hb := hb.to hb4
      clear hb4
      go_wp2_with fail
      refine (ref2_cmp _ _ la lb _ ha hb (by omega) (by omega)).mono ?_
      rintro e w' ⟨rfl, rfl⟩
      go_wp2_with fail
      refine (nat_add _ _ la lb _ ha hb (by omega) (by omega)).mono ?_
      rintro e w5 ⟨vs, rfl, hs, hb5⟩
      replace hB := below_step hB hb5
      replace ha := ha.to hb5
      replace hb := hb.to hb5
      replace hs := hs.rd
      clear hb5
      go_wp2_with fail
      refine (ref2_add _ _ la lb _ ha hb (by omega) (by omega)).mono ?_
      rintro e w6 ⟨vt, rfl, ht, hb6⟩
      replace hB := below_step hB hb6
      replace ha := ha.to hb6
      replace hb := hb.to hb6
      replace hs := hs.to hb6
      replace ht := ht.rd
      clear hb6
      go_wp2_with fail
      refine (words_same _ _ _ _ hs ht).mono ?_
      rintro e w7 ⟨rfl, hb7⟩
      replace hB := below_step hB hb7
      replace ha := ha.to hb7
      replace hb := hb.to hb7
      replace hs := hs.to hb7
      replace ht := ht.to hb7
      clear hb7
      go_wp2_with fail
      refine (words_same _ _ [] _ (Rd.nil _) (Rd.nil _)).mono ?_
      rintro e w8 ⟨rfl, hb8⟩
      replace hB := below_step hB hb8
      replace ha := ha.to hb8
      replace hb := hb.to hb8
      replace hs := hs.to hb8
      replace ht := ht.to hb8
      clear hb8
      go_wp2_with fail
      go_ret
      exact ⟨by first | rfl | exact ret_bool (by first | (simp; done) | (simp; omega)), hB⟩
    · go_enter Try.func10, Try.ntmps10
      go_wp2_with fail
      refine (awake2 _).mono ?_
      rintro e w1 ⟨rfl, hb1⟩
      have hB := hb1
      replace ha := ha.to hb1
      replace hb := hb.to hb1
      clear hb1
      go_wp2_with fail
      refine (few_yes _ _ la lb 40 _ ha hb hla hlb).mono ?_
      rintro e w' ⟨rfl, rfl⟩
      
      go_wp2_with fail
      refine (nat_sub _ _ la lb _ ha hb (by omega) hc).mono ?_
      rintro e w2 ⟨vx, rfl, hx, hb2⟩
      replace hB := below_step hB hb2
      replace ha := ha.to hb2
      replace hb := hb.to hb2
      replace hx := hx.rd
      clear hb2
      go_wp2_with fail
      refine (ref2_sub _ _ la lb _ ha hb (by omega) (by omega) hc).mono ?_
      rintro e w3 ⟨vy, rfl, hy, hb3⟩
      replace hB := below_step hB hb3
      replace ha := ha.to hb3
      replace hb := hb.to hb3
      replace hx := hx.to hb3
      replace hy := hy.rd
      clear hb3
      go_wp2_with fail
      refine (nat_cmp _ _ la lb _ ha hb).mono ?_
      rintro e w4 ⟨rfl, hb4⟩
      replace hB := below_step hB hb4
      replace ha := ha.to hb4
      replace hb := hb.to hb4
      replace hx := hx.to hb4
      replace hy := hy.to hb4
      clear hb4
      go_wp2_with fail
      refine (ref2_cmp _ _ la lb _ ha hb (by omega) (by omega)).mono ?_
      rintro e w' ⟨rfl, rfl⟩
      go_wp2_with fail
      refine (nat_add _ _ la lb _ ha hb (by omega) (by omega)).mono ?_
      rintro e w5 ⟨vs, rfl, hs, hb5⟩
      replace hB := below_step hB hb5
      replace ha := ha.to hb5
      replace hb := hb.to hb5
      replace hx := hx.to hb5
      replace hy := hy.to hb5
      replace hs := hs.rd
      clear hb5
      go_wp2_with fail
      refine (ref2_add _ _ la lb _ ha hb (by omega) (by omega)).mono ?_
      rintro e w6 ⟨vt, rfl, ht, hb6⟩
      replace hB := below_step hB hb6
      replace ha := ha.to hb6
      replace hb := hb.to hb6
      replace hx := hx.to hb6
      replace hy := hy.to hb6
      replace hs := hs.to hb6
      replace ht := ht.rd
      clear hb6
      go_wp2_with fail
      refine (words_same _ _ _ _ hs ht).mono ?_
      rintro e w7 ⟨rfl, hb7⟩
      replace hB := below_step hB hb7
      replace ha := ha.to hb7
      replace hb := hb.to hb7
      replace hx := hx.to hb7
      replace hy := hy.to hb7
      replace hs := hs.to hb7
      replace ht := ht.to hb7
      clear hb7
      go_wp2_with fail
      refine (words_same _ _ _ _ hx hy).mono ?_
      rintro e w8 ⟨rfl, hb8⟩
      replace hB := below_step hB hb8
      replace ha := ha.to hb8
      replace hb := hb.to hb8
      replace hx := hx.to hb8
      replace hy := hy.to hb8
      replace hs := hs.to hb8
      replace ht := ht.to hb8
      clear hb8
      go_wp2_with fail
      go_ret
      exact ⟨by first | rfl | exact ret_bool (by first | (simp; done) | (simp; omega)), hB⟩
  · go_enter Try.func10, Try.ntmps10
    go_wp2_with fail
    refine (awake2 _).mono ?_
    rintro e w1 ⟨rfl, hb1⟩
    have hB := hb1
    replace ha := ha.to hb1
    replace hb := hb.to hb1
    clear hb1
    go_wp2_with fail
    refine (few_no _ _ la lb 40 _ ha hb hfew).mono ?_
    rintro e w' ⟨rfl, rfl⟩
    go_wp2_with fail
    go_ret
    exact ⟨by first | rfl | exact ret_bool (by first | (simp; done) | (simp; omega)), hB⟩

set_option maxRecDepth 100000 in
set_option maxHeartbeats 2000000 in
theorem walk_NatBack (va : Value) (la : List Nat) (vb : Value) (lb : List Nat) (w : World) (ha : Rd w va la) (hb : Rd w vb lb) :
    Calls Try.prog 11 #[va, vb] w (Holds w) := by
  have hlma := ha.len_le
  have hlmb := hb.len_le
  unfold maxLen at hlma hlmb
  by_cases hfew : (la.length : Int) ≤ 40 ∧ (lb.length : Int) ≤ 40
  · obtain ⟨hla, hlb⟩ := hfew
    have hsa := sz_val ha.1
    have hsb := sz_val hb.1
    rcases Nat.lt_or_ge (val la) (val lb) with hc | hc
    · go_enter Try.func11, Try.ntmps11
      go_wp2_with fail
      refine (awake2 _).mono ?_
      rintro e w1 ⟨rfl, hb1⟩
      have hB := hb1
      replace ha := ha.to hb1
      replace hb := hb.to hb1
      clear hb1
      go_wp2_with fail
      refine (few_yes _ _ la lb 40 _ ha hb hla hlb).mono ?_
      rintro e w' ⟨rfl, rfl⟩
      go_wp2_with fail
      refine (nat_add _ _ la lb _ ha hb (by omega) (by omega)).mono ?_
      rintro e w2 ⟨vs, rfl, hs, hb2⟩
      replace hB := below_step hB hb2
      replace ha := ha.to hb2
      replace hb := hb.to hb2
      replace hs := hs.rd
      clear hb2
      go_wp2_with fail
      refine (nat_sub _ _ (limbs (val la + val lb)) lb _ hs hb (by have := sz_add (val la) (val lb); show sz _ ≤ _; omega) (by rw [val_limbs]; omega)).mono ?_
      rintro e w3 ⟨vd, rfl, hd, hb3⟩
      replace hB := below_step hB hb3
      replace ha := ha.to hb3
      replace hb := hb.to hb3
      replace hs := hs.to hb3
      replace hd : Rd w3 vd (limbs (val la)) := by have := hd.rd; (try simp only [val_limbs, Nat.add_sub_cancel] at this); exact this
      clear hb3
      go_wp2_with fail
      refine (nat_sub_no _ _ la lb _ ha hb hc).mono ?_
      rintro e w4 ⟨rfl, hb4⟩
      replace hB := below_step hB hb4
      replace ha := ha.to hb4
      replace hb := hb.to hb4
      replace hs := hs.to hb4
      replace hd := hd.to hb4
      clear hb4
      have hcc : cmpN (val la) (val lb) < 0 := cmpN_neg.2 hc
      go_wp2_with fail
      refine (nat_cmp _ _ la lb _ ha hb).mono ?_
      rintro e w5 ⟨rfl, hb5⟩
      replace hB := below_step hB hb5
      replace ha := ha.to hb5
      replace hb := hb.to hb5
      replace hs := hs.to hb5
      replace hd := hd.to hb5
      clear hb5
      go_wp2_with fail
      refine (nat_cmp _ _ _ la _ hd ha).mono ?_
      rintro e w6 ⟨rfl, hb6⟩
      replace hB := below_step hB hb6
      replace ha := ha.to hb6
      replace hb := hb.to hb6
      replace hs := hs.to hb6
      replace hd := hd.to hb6
      clear hb6
      rw [cmpN_eq (show val (limbs (val la)) = val la by simp only [val_limbs])]
      go_wp2_with fail
      refine (nat_right _ _ _ hs).mono ?_
      rintro e w' ⟨rfl, rfl⟩
      rw [show decide (sz (val (limbs (val la + val lb))) = (limbs (val la + val lb)).length) = true by rw [val_limbs]; simp [sz_def]]
      go_wp2_with fail
      refine (nat_right _ _ _ hd).mono ?_
      rintro e w' ⟨rfl, rfl⟩
      rw [show decide (sz (val (limbs (val la))) = (limbs (val la)).length) = true by rw [val_limbs]; simp [sz_def]]
      go_wp2_with fail
      refine (nat_right _ [] _ (Rd.nil _)).mono ?_
      rintro e w' ⟨rfl, rfl⟩
      rw [show decide (sz (val []) = ([] : List Nat).length) = true by decide]
      go_wp2_with fail
      refine (nat_trim _ la _ ha (by omega)).mono ?_
      rintro e w7 ⟨vt, rfl, ht, hb7⟩
      replace hB := below_step hB hb7
      replace ha := ha.to hb7
      replace hb := hb.to hb7
      replace hs := hs.to hb7
      replace hd := hd.to hb7
      replace ht := ht.rd
      clear hb7
      go_wp2_with fail
      refine (words_same _ _ _ _ hd ht).mono ?_
      rintro e w8 ⟨rfl, hb8⟩
      replace hB := below_step hB hb8
      replace ha := ha.to hb8
      replace hb := hb.to hb8
      replace hs := hs.to hb8
      replace hd := hd.to hb8
      replace ht := ht.to hb8
      clear hb8
      go_wp2_with fail
      go_ret
      exact ⟨by first | rfl | exact ret_bool (by first | (simp; done) | (simp; omega)), hB⟩
    · go_enter Try.func11, Try.ntmps11
      go_wp2_with fail
      refine (awake2 _).mono ?_
      rintro e w1 ⟨rfl, hb1⟩
      have hB := hb1
      replace ha := ha.to hb1
      replace hb := hb.to hb1
      clear hb1
      go_wp2_with fail
      refine (few_yes _ _ la lb 40 _ ha hb hla hlb).mono ?_
      rintro e w' ⟨rfl, rfl⟩
      go_wp2_with fail
      refine (nat_add _ _ la lb _ ha hb (by omega) (by omega)).mono ?_
      rintro e w2 ⟨vs, rfl, hs, hb2⟩
      replace hB := below_step hB hb2
      replace ha := ha.to hb2
      replace hb := hb.to hb2
      replace hs := hs.rd
      clear hb2
      go_wp2_with fail
      refine (nat_sub _ _ (limbs (val la + val lb)) lb _ hs hb (by have := sz_add (val la) (val lb); show sz _ ≤ _; omega) (by rw [val_limbs]; omega)).mono ?_
      rintro e w3 ⟨vd, rfl, hd, hb3⟩
      replace hB := below_step hB hb3
      replace ha := ha.to hb3
      replace hb := hb.to hb3
      replace hs := hs.to hb3
      replace hd : Rd w3 vd (limbs (val la)) := by have := hd.rd; (try simp only [val_limbs, Nat.add_sub_cancel] at this); exact this
      clear hb3
      go_wp2_with fail
      refine (nat_sub _ _ la lb _ ha hb (by omega) hc).mono ?_
      rintro e w4 ⟨ve, rfl, he, hb4⟩
      replace hB := below_step hB hb4
      replace ha := ha.to hb4
      replace hb := hb.to hb4
      replace hs := hs.to hb4
      replace hd := hd.to hb4
      replace he := he.rd
      clear hb4
      have hcc : 0 ≤ cmpN (val la) (val lb) := cmpN_ge.2 hc
      go_wp2_with fail
      refine (nat_cmp _ _ la lb _ ha hb).mono ?_
      rintro e w5 ⟨rfl, hb5⟩
      replace hB := below_step hB hb5
      replace ha := ha.to hb5
      replace hb := hb.to hb5
      replace hs := hs.to hb5
      replace hd := hd.to hb5
      replace he := he.to hb5
      clear hb5
      go_wp2_with fail
      refine (nat_add _ _ _ lb _ he hb (by show sz _ ≤ _; have := sz_sub (val la) (val lb); omega) (by omega)).mono ?_
      rintro e w6 ⟨vf, rfl, hf, hb6⟩
      replace hB := below_step hB hb6
      replace ha := ha.to hb6
      replace hb := hb.to hb6
      replace hs := hs.to hb6
      replace hd := hd.to hb6
      replace he := he.to hb6
      replace hf := hf.rd
      clear hb6
      go_wp2_with fail
      refine (nat_cmp _ _ _ la _ hf ha).mono ?_
      rintro e w7 ⟨rfl, hb7⟩
      replace hB := below_step hB hb7
      replace ha := ha.to hb7
      replace hb := hb.to hb7
      replace hs := hs.to hb7
      replace hd := hd.to hb7
      replace he := he.to hb7
      replace hf := hf.to hb7
      clear hb7
      rw [cmpN_eq (show val (limbs (val (limbs (val la - val lb)) + val lb)) = val la by simp only [val_limbs]; omega)]
      go_wp2_with fail
      refine (nat_cmp _ _ _ la _ hd ha).mono ?_
      rintro e w8 ⟨rfl, hb8⟩
      replace hB := below_step hB hb8
      replace ha := ha.to hb8
      replace hb := hb.to hb8
      replace hs := hs.to hb8
      replace hd := hd.to hb8
      replace he := he.to hb8
      replace hf := hf.to hb8
      clear hb8
      rw [cmpN_eq (show val (limbs (val la)) = val la by simp only [val_limbs])]
      go_wp2_with fail
      refine (nat_right _ _ _ hs).mono ?_
      rintro e w' ⟨rfl, rfl⟩
      rw [show decide (sz (val (limbs (val la + val lb))) = (limbs (val la + val lb)).length) = true by rw [val_limbs]; simp [sz_def]]
      go_wp2_with fail
      refine (nat_right _ _ _ hd).mono ?_
      rintro e w' ⟨rfl, rfl⟩
      rw [show decide (sz (val (limbs (val la))) = (limbs (val la)).length) = true by rw [val_limbs]; simp [sz_def]]
      go_wp2_with fail
      refine (nat_right _ _ _ he).mono ?_
      rintro e w' ⟨rfl, rfl⟩
      rw [show decide (sz (val (limbs (val la - val lb))) = (limbs (val la - val lb)).length) = true by rw [val_limbs]; simp [sz_def]]
      go_wp2_with fail
      refine (nat_trim _ la _ ha (by omega)).mono ?_
      rintro e w9 ⟨vt, rfl, ht, hb9⟩
      replace hB := below_step hB hb9
      replace ha := ha.to hb9
      replace hb := hb.to hb9
      replace hs := hs.to hb9
      replace hd := hd.to hb9
      replace he := he.to hb9
      replace hf := hf.to hb9
      replace ht := ht.rd
      clear hb9
      go_wp2_with fail
      refine (words_same _ _ _ _ hd ht).mono ?_
      rintro e w10 ⟨rfl, hb10⟩
      replace hB := below_step hB hb10
      replace ha := ha.to hb10
      replace hb := hb.to hb10
      replace hs := hs.to hb10
      replace hd := hd.to hb10
      replace he := he.to hb10
      replace hf := hf.to hb10
      replace ht := ht.to hb10
      clear hb10
      go_wp2_with fail
      go_ret
      exact ⟨by first | rfl | exact ret_bool (by first | (simp; done) | (simp; omega)), hB⟩
  · go_enter Try.func11, Try.ntmps11
    go_wp2_with fail
    refine (awake2 _).mono ?_
    rintro e w1 ⟨rfl, hb1⟩
    have hB := hb1
    replace ha := ha.to hb1
    replace hb := hb.to hb1
    clear hb1
    go_wp2_with fail
    refine (few_no _ _ la lb 40 _ ha hb hfew).mono ?_
    rintro e w' ⟨rfl, rfl⟩
    go_wp2_with fail
    go_ret
    exact ⟨by first | rfl | exact ret_bool (by first | (simp; done) | (simp; omega)), hB⟩

end Go.Proofs.Ytbllgahknfhooaa
