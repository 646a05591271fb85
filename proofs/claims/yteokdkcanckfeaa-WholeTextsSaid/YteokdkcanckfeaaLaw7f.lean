/-
  The walks of the laws of layer 7.
-/
import Derived.Test.YteokdkcanckfeaaLaw7
import Derived.Test.YteokdkcanckfeaaWholeR
import Derived.Test.YteokdkcanckfeaaLits
import Derived.Deep.RegionHeld3
import Derived.Deep.DrawnRows
import Derived.Laws.EntriesVeiled
namespace Go.Proofs.Yteokdkcanckfeaa
open Go.RowKit Tw
set_option linter.unusedVariables false
set_option linter.unusedSimpArgs false
attribute [local go_sem ↓] Go.wp_at_zero Go.wp_at_succ

set_option maxRecDepth 100000 in
set_option maxHeartbeats 40000000 in
theorem walk_WholeTexts (s : ByteArray) (b0 : Bool) (v0 : Value) (l0 : List Nat) (w : World) (hs : s.size ≤ maxLen) (h0 : Rd w v0 l0) :
    Calls Try.prog 9 #[.string s, aggI b0 v0] w (Holds w) := by
  obtain ⟨a0, n0, c0, rfl, H0, hm0⟩ := h0.open
  have hl0 := H0.out
  unfold maxLen at hs
  by_cases hl : 60 < s.size
  · clear hl0
    go_enter Try.func9, Try.ntmps9
    go_wp2_with fail
    obtain ⟨W0, hW0⟩ : ∃ W0, w.alloc (.cells #[.bool b0, .slice a0 n0 c0] 41) = W0 := ⟨_, rfl⟩
    have x0_0 : W0.cell? ⟨w.heap.size, 0, none⟩ = some (.bool b0) := by rw [← hW0]; simp [go_sem]
    have y0_0 : W0.frozen? ⟨w.heap.size, 0, none⟩ = false := by rw [← hW0]; simp [go_sem]
    have x0_1 : W0.cell? ⟨w.heap.size, 1, none⟩ = some (.slice a0 n0 c0) := by rw [← hW0]; simp [go_sem]
    have y0_1 : W0.frozen? ⟨w.heap.size, 1, none⟩ = false := by rw [← hW0]; simp [go_sem]
    have zs : w.heap.size < W0.heap.size := by rw [← hW0]; simp
    have zb : Below w.heap.size w W0 := by rw [← hW0]; exact below_new _ _
    rw [hW0]
    clear hW0
    have g0 := h0.to zb
    refine (awake7 _).mono ?_
    rintro e w1 ⟨rfl, hb1⟩
    have hw_w1 : w.heap.size ≤ W0.heap.size := (by omega)
    replace x0_0 := (hb1.cell (p := ⟨w.heap.size, 0, none⟩) (by show w.heap.size < W0.heap.size; omega)).trans x0_0
    replace y0_0 := (hb1.frozen (p := ⟨w.heap.size, 0, none⟩) (by show w.heap.size < W0.heap.size; omega)).trans y0_0
    replace x0_1 := (hb1.cell (p := ⟨w.heap.size, 1, none⟩) (by show w.heap.size < W0.heap.size; omega)).trans x0_1
    replace y0_1 := (hb1.frozen (p := ⟨w.heap.size, 1, none⟩) (by show w.heap.size < W0.heap.size; omega)).trans y0_1
    replace zs := Nat.lt_of_lt_of_le zs hb1.size
    replace g0 := g0.to hb1
    replace zb := below_step zb hb1
    go_wp2_with fail
    go_ret
    exact ⟨rfl, zb⟩
  have tl : decide ((60 : Int) < (s.size : Int)) = false := by simp; omega
  by_cases hf : 6 < n0
  · clear hl0
    go_enter Try.func9, Try.ntmps9
    go_wp2_with fail
    obtain ⟨W0, hW0⟩ : ∃ W0, w.alloc (.cells #[.bool b0, .slice a0 n0 c0] 41) = W0 := ⟨_, rfl⟩
    have x0_0 : W0.cell? ⟨w.heap.size, 0, none⟩ = some (.bool b0) := by rw [← hW0]; simp [go_sem]
    have y0_0 : W0.frozen? ⟨w.heap.size, 0, none⟩ = false := by rw [← hW0]; simp [go_sem]
    have x0_1 : W0.cell? ⟨w.heap.size, 1, none⟩ = some (.slice a0 n0 c0) := by rw [← hW0]; simp [go_sem]
    have y0_1 : W0.frozen? ⟨w.heap.size, 1, none⟩ = false := by rw [← hW0]; simp [go_sem]
    have zs : w.heap.size < W0.heap.size := by rw [← hW0]; simp
    have zb : Below w.heap.size w W0 := by rw [← hW0]; exact below_new _ _
    rw [hW0]
    clear hW0
    have g0 := h0.to zb
    refine (awake7 _).mono ?_
    rintro e w1 ⟨rfl, hb1⟩
    have hw_w1 : w.heap.size ≤ W0.heap.size := (by omega)
    replace x0_0 := (hb1.cell (p := ⟨w.heap.size, 0, none⟩) (by show w.heap.size < W0.heap.size; omega)).trans x0_0
    replace y0_0 := (hb1.frozen (p := ⟨w.heap.size, 0, none⟩) (by show w.heap.size < W0.heap.size; omega)).trans y0_0
    replace x0_1 := (hb1.cell (p := ⟨w.heap.size, 1, none⟩) (by show w.heap.size < W0.heap.size; omega)).trans x0_1
    replace y0_1 := (hb1.frozen (p := ⟨w.heap.size, 1, none⟩) (by show w.heap.size < W0.heap.size; omega)).trans y0_1
    replace zs := Nat.lt_of_lt_of_le zs hb1.size
    replace g0 := g0.to hb1
    replace zb := below_step zb hb1
    go_wp2_with fail
    go_ret
    exact ⟨rfl, zb⟩
  have hf' : l0.length ≤ 6 := by omega
  obtain ⟨A, hhA⟩ : ∃ z, sgn b0 (val l0) = z := ⟨_, rfl⟩
  have i0 : IsI w b0 (.slice a0 n0 c0) l0 A := ⟨h0, hhA, by omega⟩
  have Hnd := Lib.hid (show ndig A.natAbs ≤ 61 by rw [← hhA, sgn_abs]; have := ndig_bound h0.1; omega)
  obtain ⟨t, ht⟩ : ∃ t, ba (itext A) = t := ⟨_, rfl⟩
  have Ht := Lib.hid ht
  have Hpz := Lib.hid (show pz (bs t) = A by rw [← ht, bs_itext, pz_itext])
  have Hpk := Lib.hid (show pk (bs t) = 0 by rw [← ht, bs_itext, pk_itext])
  have Hts := Lib.hid (show t.size ≤ 1000 by rw [← ht, ba_size]; have := itext_len A; have := Hnd.out; omega)
  obtain ⟨z, hz⟩ : ∃ z, pz (bs s) = z := ⟨_, rfl⟩
  obtain ⟨k, hk⟩ : ∃ k, pk (bs s) = k := ⟨_, rfl⟩
  have Hz := Lib.hid hz
  have Hk := Lib.hid hk
  have Hs := Lib.hid (show s.size ≤ 1000 by omega)
  clear ht hz hk hhA hl0
  go_enter Try.func9, Try.ntmps9
  go_wp2_with fail
  obtain ⟨W0, hW0⟩ : ∃ W0, w.alloc (.cells #[.bool b0, .slice a0 n0 c0] 41) = W0 := ⟨_, rfl⟩
  have x0_0 : W0.cell? ⟨w.heap.size, 0, none⟩ = some (.bool b0) := by rw [← hW0]; simp [go_sem]
  have y0_0 : W0.frozen? ⟨w.heap.size, 0, none⟩ = false := by rw [← hW0]; simp [go_sem]
  have x0_1 : W0.cell? ⟨w.heap.size, 1, none⟩ = some (.slice a0 n0 c0) := by rw [← hW0]; simp [go_sem]
  have y0_1 : W0.frozen? ⟨w.heap.size, 1, none⟩ = false := by rw [← hW0]; simp [go_sem]
  have zs : w.heap.size < W0.heap.size := by rw [← hW0]; simp
  have zb : Below w.heap.size w W0 := by rw [← hW0]; exact below_new _ _
  rw [hW0]
  clear hW0
  have g0 := i0.to zb
  refine (awake7 _).mono ?_
  rintro e w1 ⟨rfl, hb1⟩
  have hw_w1 : w.heap.size ≤ W0.heap.size := (by omega)
  replace x0_0 := (hb1.cell (p := ⟨w.heap.size, 0, none⟩) (by show w.heap.size < W0.heap.size; omega)).trans x0_0
  replace y0_0 := (hb1.frozen (p := ⟨w.heap.size, 0, none⟩) (by show w.heap.size < W0.heap.size; omega)).trans y0_0
  replace x0_1 := (hb1.cell (p := ⟨w.heap.size, 1, none⟩) (by show w.heap.size < W0.heap.size; omega)).trans x0_1
  replace y0_1 := (hb1.frozen (p := ⟨w.heap.size, 1, none⟩) (by show w.heap.size < W0.heap.size; omega)).trans y0_1
  replace zs := Nat.lt_of_lt_of_le zs hb1.size
  replace g0 := g0.to hb1
  replace zb := below_step zb hb1
  go_wp2_with fail
  refine (parse_k s _ Hs.out z k Hz.out Hk.out).mono ?_
  rintro e w2 ⟨ng2, a2_, n2_, c2_, rfl, Hng2, g2, hb2⟩
  have hw_w2 : w.heap.size ≤ w1.heap.size := (by omega)
  replace x0_0 := (hb2.cell (p := ⟨w.heap.size, 0, none⟩) (by show w.heap.size < w1.heap.size; omega)).trans x0_0
  replace y0_0 := (hb2.frozen (p := ⟨w.heap.size, 0, none⟩) (by show w.heap.size < w1.heap.size; omega)).trans y0_0
  replace x0_1 := (hb2.cell (p := ⟨w.heap.size, 1, none⟩) (by show w.heap.size < w1.heap.size; omega)).trans x0_1
  replace y0_1 := (hb2.frozen (p := ⟨w.heap.size, 1, none⟩) (by show w.heap.size < w1.heap.size; omega)).trans y0_1
  replace zs := Nat.lt_of_lt_of_le zs hb2.size
  replace g0 := g0.to hb2
  replace zb := below_step zb hb2
  go_wp2_with fail
  obtain ⟨W2, hW2⟩ : ∃ W2, w2.alloc (.cells #[.bool ng2, .slice a2_ n2_ c2_] 41) = W2 := ⟨_, rfl⟩
  have hb_W2 : Below w2.heap.size w2 W2 := by rw [← hW2]; exact below_new _ _
  have zs_W2 : w2.heap.size < W2.heap.size := by rw [← hW2]; simp
  have hw_W2 : w.heap.size ≤ w2.heap.size := (by omega)
  replace x0_0 := (hb_W2.cell (p := ⟨w.heap.size, 0, none⟩) (by show w.heap.size < w2.heap.size; omega)).trans x0_0
  replace y0_0 := (hb_W2.frozen (p := ⟨w.heap.size, 0, none⟩) (by show w.heap.size < w2.heap.size; omega)).trans y0_0
  replace x0_1 := (hb_W2.cell (p := ⟨w.heap.size, 1, none⟩) (by show w.heap.size < w2.heap.size; omega)).trans x0_1
  replace y0_1 := (hb_W2.frozen (p := ⟨w.heap.size, 1, none⟩) (by show w.heap.size < w2.heap.size; omega)).trans y0_1
  replace zs := Nat.lt_of_lt_of_le zs hb_W2.size
  replace g0 := g0.to hb_W2
  replace g2 := g2.to hb_W2
  replace zb := below_step zb hb_W2
  have x5_0 : W2.cell? ⟨w2.heap.size, 0, none⟩ = some (.bool ng2) := by rw [← hW2]; simp [go_sem]
  have y5_0 : W2.frozen? ⟨w2.heap.size, 0, none⟩ = false := by rw [← hW2]; simp [go_sem]
  have x5_1 : W2.cell? ⟨w2.heap.size, 1, none⟩ = some (.slice a2_ n2_ c2_) := by rw [← hW2]; simp [go_sem]
  have y5_1 : W2.frozen? ⟨w2.heap.size, 1, none⟩ = false := by rw [← hW2]; simp [go_sem]
  rw [hW2]
  clear hW2
  go_wp2_with fail
  refine (rparse_k s _ Hs.out z k Hz.out Hk.out).mono ?_
  rintro e w3 ⟨ng3, a3_, n3_, c3_, rfl, Hng3, g3, hb3⟩
  have hw_w3 : w.heap.size ≤ W2.heap.size := (by omega)
  replace x0_0 := (hb3.cell (p := ⟨w.heap.size, 0, none⟩) (by show w.heap.size < W2.heap.size; omega)).trans x0_0
  replace y0_0 := (hb3.frozen (p := ⟨w.heap.size, 0, none⟩) (by show w.heap.size < W2.heap.size; omega)).trans y0_0
  replace x0_1 := (hb3.cell (p := ⟨w.heap.size, 1, none⟩) (by show w.heap.size < W2.heap.size; omega)).trans x0_1
  replace y0_1 := (hb3.frozen (p := ⟨w.heap.size, 1, none⟩) (by show w.heap.size < W2.heap.size; omega)).trans y0_1
  replace x5_0 := (hb3.cell (p := ⟨w2.heap.size, 0, none⟩) (by show w2.heap.size < W2.heap.size; omega)).trans x5_0
  replace y5_0 := (hb3.frozen (p := ⟨w2.heap.size, 0, none⟩) (by show w2.heap.size < W2.heap.size; omega)).trans y5_0
  replace x5_1 := (hb3.cell (p := ⟨w2.heap.size, 1, none⟩) (by show w2.heap.size < W2.heap.size; omega)).trans x5_1
  replace y5_1 := (hb3.frozen (p := ⟨w2.heap.size, 1, none⟩) (by show w2.heap.size < W2.heap.size; omega)).trans y5_1
  replace zs := Nat.lt_of_lt_of_le zs hb3.size
  replace zs_W2 := Nat.lt_of_lt_of_le zs_W2 hb3.size
  replace g0 := g0.to hb3
  replace g2 := g2.to hb3
  replace zb := below_step zb hb3
  go_wp2_with fail
  obtain ⟨W3, hW3⟩ : ∃ W3, w3.alloc (.cells #[.bool ng3, .slice a3_ n3_ c3_] 41) = W3 := ⟨_, rfl⟩
  have hb_W3 : Below w3.heap.size w3 W3 := by rw [← hW3]; exact below_new _ _
  have zs_W3 : w3.heap.size < W3.heap.size := by rw [← hW3]; simp
  have hw_W3 : w.heap.size ≤ w3.heap.size := (by omega)
  replace x0_0 := (hb_W3.cell (p := ⟨w.heap.size, 0, none⟩) (by show w.heap.size < w3.heap.size; omega)).trans x0_0
  replace y0_0 := (hb_W3.frozen (p := ⟨w.heap.size, 0, none⟩) (by show w.heap.size < w3.heap.size; omega)).trans y0_0
  replace x0_1 := (hb_W3.cell (p := ⟨w.heap.size, 1, none⟩) (by show w.heap.size < w3.heap.size; omega)).trans x0_1
  replace y0_1 := (hb_W3.frozen (p := ⟨w.heap.size, 1, none⟩) (by show w.heap.size < w3.heap.size; omega)).trans y0_1
  replace x5_0 := (hb_W3.cell (p := ⟨w2.heap.size, 0, none⟩) (by show w2.heap.size < w3.heap.size; omega)).trans x5_0
  replace y5_0 := (hb_W3.frozen (p := ⟨w2.heap.size, 0, none⟩) (by show w2.heap.size < w3.heap.size; omega)).trans y5_0
  replace x5_1 := (hb_W3.cell (p := ⟨w2.heap.size, 1, none⟩) (by show w2.heap.size < w3.heap.size; omega)).trans x5_1
  replace y5_1 := (hb_W3.frozen (p := ⟨w2.heap.size, 1, none⟩) (by show w2.heap.size < w3.heap.size; omega)).trans y5_1
  replace zs := Nat.lt_of_lt_of_le zs hb_W3.size
  replace zs_W2 := Nat.lt_of_lt_of_le zs_W2 hb_W3.size
  replace g0 := g0.to hb_W3
  replace g2 := g2.to hb_W3
  replace g3 := g3.to hb_W3
  replace zb := below_step zb hb_W3
  have x6_0 : W3.cell? ⟨w3.heap.size, 0, none⟩ = some (.bool ng3) := by rw [← hW3]; simp [go_sem]
  have y6_0 : W3.frozen? ⟨w3.heap.size, 0, none⟩ = false := by rw [← hW3]; simp [go_sem]
  have x6_1 : W3.cell? ⟨w3.heap.size, 1, none⟩ = some (.slice a3_ n3_ c3_) := by rw [← hW3]; simp [go_sem]
  have y6_1 : W3.frozen? ⟨w3.heap.size, 1, none⟩ = false := by rw [← hW3]; simp [go_sem]
  rw [hW3]
  clear hW3
  go_wp2_with fail
  refine (print_z _ g0 (by omega) t Ht.out).mono ?_
  rintro e w4 ⟨rfl, hb4⟩
  have hw_w4 : w.heap.size ≤ W3.heap.size := (by omega)
  replace x0_0 := (hb4.cell (p := ⟨w.heap.size, 0, none⟩) (by show w.heap.size < W3.heap.size; omega)).trans x0_0
  replace y0_0 := (hb4.frozen (p := ⟨w.heap.size, 0, none⟩) (by show w.heap.size < W3.heap.size; omega)).trans y0_0
  replace x0_1 := (hb4.cell (p := ⟨w.heap.size, 1, none⟩) (by show w.heap.size < W3.heap.size; omega)).trans x0_1
  replace y0_1 := (hb4.frozen (p := ⟨w.heap.size, 1, none⟩) (by show w.heap.size < W3.heap.size; omega)).trans y0_1
  replace x5_0 := (hb4.cell (p := ⟨w2.heap.size, 0, none⟩) (by show w2.heap.size < W3.heap.size; omega)).trans x5_0
  replace y5_0 := (hb4.frozen (p := ⟨w2.heap.size, 0, none⟩) (by show w2.heap.size < W3.heap.size; omega)).trans y5_0
  replace x5_1 := (hb4.cell (p := ⟨w2.heap.size, 1, none⟩) (by show w2.heap.size < W3.heap.size; omega)).trans x5_1
  replace y5_1 := (hb4.frozen (p := ⟨w2.heap.size, 1, none⟩) (by show w2.heap.size < W3.heap.size; omega)).trans y5_1
  replace x6_0 := (hb4.cell (p := ⟨w3.heap.size, 0, none⟩) (by show w3.heap.size < W3.heap.size; omega)).trans x6_0
  replace y6_0 := (hb4.frozen (p := ⟨w3.heap.size, 0, none⟩) (by show w3.heap.size < W3.heap.size; omega)).trans y6_0
  replace x6_1 := (hb4.cell (p := ⟨w3.heap.size, 1, none⟩) (by show w3.heap.size < W3.heap.size; omega)).trans x6_1
  replace y6_1 := (hb4.frozen (p := ⟨w3.heap.size, 1, none⟩) (by show w3.heap.size < W3.heap.size; omega)).trans y6_1
  replace zs := Nat.lt_of_lt_of_le zs hb4.size
  replace zs_W2 := Nat.lt_of_lt_of_le zs_W2 hb4.size
  replace zs_W3 := Nat.lt_of_lt_of_le zs_W3 hb4.size
  replace g0 := g0.to hb4
  replace g2 := g2.to hb4
  replace g3 := g3.to hb4
  replace zb := below_step zb hb4
  go_wp2_with fail
  refine (parse_k t _ Hts.out A 0 Hpz.out Hpk.out).mono ?_
  rintro e w7 ⟨ng7, a7_, n7_, c7_, rfl, Hng7, g7, hb7⟩
  have hw_w7 : w.heap.size ≤ w4.heap.size := (by omega)
  replace x0_0 := (hb7.cell (p := ⟨w.heap.size, 0, none⟩) (by show w.heap.size < w4.heap.size; omega)).trans x0_0
  replace y0_0 := (hb7.frozen (p := ⟨w.heap.size, 0, none⟩) (by show w.heap.size < w4.heap.size; omega)).trans y0_0
  replace x0_1 := (hb7.cell (p := ⟨w.heap.size, 1, none⟩) (by show w.heap.size < w4.heap.size; omega)).trans x0_1
  replace y0_1 := (hb7.frozen (p := ⟨w.heap.size, 1, none⟩) (by show w.heap.size < w4.heap.size; omega)).trans y0_1
  replace x5_0 := (hb7.cell (p := ⟨w2.heap.size, 0, none⟩) (by show w2.heap.size < w4.heap.size; omega)).trans x5_0
  replace y5_0 := (hb7.frozen (p := ⟨w2.heap.size, 0, none⟩) (by show w2.heap.size < w4.heap.size; omega)).trans y5_0
  replace x5_1 := (hb7.cell (p := ⟨w2.heap.size, 1, none⟩) (by show w2.heap.size < w4.heap.size; omega)).trans x5_1
  replace y5_1 := (hb7.frozen (p := ⟨w2.heap.size, 1, none⟩) (by show w2.heap.size < w4.heap.size; omega)).trans y5_1
  replace x6_0 := (hb7.cell (p := ⟨w3.heap.size, 0, none⟩) (by show w3.heap.size < w4.heap.size; omega)).trans x6_0
  replace y6_0 := (hb7.frozen (p := ⟨w3.heap.size, 0, none⟩) (by show w3.heap.size < w4.heap.size; omega)).trans y6_0
  replace x6_1 := (hb7.cell (p := ⟨w3.heap.size, 1, none⟩) (by show w3.heap.size < w4.heap.size; omega)).trans x6_1
  replace y6_1 := (hb7.frozen (p := ⟨w3.heap.size, 1, none⟩) (by show w3.heap.size < w4.heap.size; omega)).trans y6_1
  replace zs := Nat.lt_of_lt_of_le zs hb7.size
  replace zs_W2 := Nat.lt_of_lt_of_le zs_W2 hb7.size
  replace zs_W3 := Nat.lt_of_lt_of_le zs_W3 hb7.size
  replace g0 := g0.to hb7
  replace g2 := g2.to hb7
  replace g3 := g3.to hb7
  replace zb := below_step zb hb7
  go_wp2_with fail
  obtain ⟨W7, hW7⟩ : ∃ W7, w7.alloc (.cells #[.bool ng7, .slice a7_ n7_ c7_] 41) = W7 := ⟨_, rfl⟩
  have hb_W7 : Below w7.heap.size w7 W7 := by rw [← hW7]; exact below_new _ _
  have zs_W7 : w7.heap.size < W7.heap.size := by rw [← hW7]; simp
  have hw_W7 : w.heap.size ≤ w7.heap.size := (by omega)
  replace x0_0 := (hb_W7.cell (p := ⟨w.heap.size, 0, none⟩) (by show w.heap.size < w7.heap.size; omega)).trans x0_0
  replace y0_0 := (hb_W7.frozen (p := ⟨w.heap.size, 0, none⟩) (by show w.heap.size < w7.heap.size; omega)).trans y0_0
  replace x0_1 := (hb_W7.cell (p := ⟨w.heap.size, 1, none⟩) (by show w.heap.size < w7.heap.size; omega)).trans x0_1
  replace y0_1 := (hb_W7.frozen (p := ⟨w.heap.size, 1, none⟩) (by show w.heap.size < w7.heap.size; omega)).trans y0_1
  replace x5_0 := (hb_W7.cell (p := ⟨w2.heap.size, 0, none⟩) (by show w2.heap.size < w7.heap.size; omega)).trans x5_0
  replace y5_0 := (hb_W7.frozen (p := ⟨w2.heap.size, 0, none⟩) (by show w2.heap.size < w7.heap.size; omega)).trans y5_0
  replace x5_1 := (hb_W7.cell (p := ⟨w2.heap.size, 1, none⟩) (by show w2.heap.size < w7.heap.size; omega)).trans x5_1
  replace y5_1 := (hb_W7.frozen (p := ⟨w2.heap.size, 1, none⟩) (by show w2.heap.size < w7.heap.size; omega)).trans y5_1
  replace x6_0 := (hb_W7.cell (p := ⟨w3.heap.size, 0, none⟩) (by show w3.heap.size < w7.heap.size; omega)).trans x6_0
  replace y6_0 := (hb_W7.frozen (p := ⟨w3.heap.size, 0, none⟩) (by show w3.heap.size < w7.heap.size; omega)).trans y6_0
  replace x6_1 := (hb_W7.cell (p := ⟨w3.heap.size, 1, none⟩) (by show w3.heap.size < w7.heap.size; omega)).trans x6_1
  replace y6_1 := (hb_W7.frozen (p := ⟨w3.heap.size, 1, none⟩) (by show w3.heap.size < w7.heap.size; omega)).trans y6_1
  replace zs := Nat.lt_of_lt_of_le zs hb_W7.size
  replace zs_W2 := Nat.lt_of_lt_of_le zs_W2 hb_W7.size
  replace zs_W3 := Nat.lt_of_lt_of_le zs_W3 hb_W7.size
  replace g0 := g0.to hb_W7
  replace g2 := g2.to hb_W7
  replace g3 := g3.to hb_W7
  replace g7 := g7.to hb_W7
  replace zb := below_step zb hb_W7
  have x8_0 : W7.cell? ⟨w7.heap.size, 0, none⟩ = some (.bool ng7) := by rw [← hW7]; simp [go_sem]
  have y8_0 : W7.frozen? ⟨w7.heap.size, 0, none⟩ = false := by rw [← hW7]; simp [go_sem]
  have x8_1 : W7.cell? ⟨w7.heap.size, 1, none⟩ = some (.slice a7_ n7_ c7_) := by rw [← hW7]; simp [go_sem]
  have y8_1 : W7.frozen? ⟨w7.heap.size, 1, none⟩ = false := by rw [← hW7]; simp [go_sem]
  rw [hW7]
  clear hW7
  go_wp2_with fail
  go_region_held3 (fun W' => W'.cell? ⟨w.heap.size, 0, none⟩ = some (.bool b0) ∧ W'.cell? ⟨w.heap.size, 1, none⟩ = some (.slice a0 n0 c0) ∧ W'.cell? ⟨w2.heap.size, 0, none⟩ = some (.bool ng2) ∧ W'.cell? ⟨w2.heap.size, 1, none⟩ = some (.slice a2_ n2_ c2_) ∧ W'.cell? ⟨w3.heap.size, 0, none⟩ = some (.bool ng3) ∧ W'.cell? ⟨w3.heap.size, 1, none⟩ = some (.slice a3_ n3_ c3_) ∧ W'.cell? ⟨w7.heap.size, 0, none⟩ = some (.bool ng7) ∧ W'.cell? ⟨w7.heap.size, 1, none⟩ = some (.slice a7_ n7_ c7_)) (first | exact ⟨x0_0, x0_1, x5_0, x5_1, x6_0, x6_1, x8_0, x8_1⟩) (first
    | (go_at_call 31; (with_reducible refine (same_z _ g7 g11 Hng7 Hng11).mono ?_); rintro e w12 ⟨rfl, hb12⟩; have hw_w12 : w.heap.size ≤ w11.heap.size := (by omega); have x0_0 := (hb12.cell (p := ⟨w.heap.size, 0, none⟩) (by show w.heap.size < w11.heap.size; omega)).trans x0_0; have y0_0 := (hb12.frozen (p := ⟨w.heap.size, 0, none⟩) (by show w.heap.size < w11.heap.size; omega)).trans y0_0; have x0_1 := (hb12.cell (p := ⟨w.heap.size, 1, none⟩) (by show w.heap.size < w11.heap.size; omega)).trans x0_1; have y0_1 := (hb12.frozen (p := ⟨w.heap.size, 1, none⟩) (by show w.heap.size < w11.heap.size; omega)).trans y0_1; have x5_0 := (hb12.cell (p := ⟨w2.heap.size, 0, none⟩) (by show w2.heap.size < w11.heap.size; omega)).trans x5_0; have y5_0 := (hb12.frozen (p := ⟨w2.heap.size, 0, none⟩) (by show w2.heap.size < w11.heap.size; omega)).trans y5_0; have x5_1 := (hb12.cell (p := ⟨w2.heap.size, 1, none⟩) (by show w2.heap.size < w11.heap.size; omega)).trans x5_1; have y5_1 := (hb12.frozen (p := ⟨w2.heap.size, 1, none⟩) (by show w2.heap.size < w11.heap.size; omega)).trans y5_1; have x6_0 := (hb12.cell (p := ⟨w3.heap.size, 0, none⟩) (by show w3.heap.size < w11.heap.size; omega)).trans x6_0; have y6_0 := (hb12.frozen (p := ⟨w3.heap.size, 0, none⟩) (by show w3.heap.size < w11.heap.size; omega)).trans y6_0; have x6_1 := (hb12.cell (p := ⟨w3.heap.size, 1, none⟩) (by show w3.heap.size < w11.heap.size; omega)).trans x6_1; have y6_1 := (hb12.frozen (p := ⟨w3.heap.size, 1, none⟩) (by show w3.heap.size < w11.heap.size; omega)).trans y6_1; have x8_0 := (hb12.cell (p := ⟨w7.heap.size, 0, none⟩) (by show w7.heap.size < w11.heap.size; omega)).trans x8_0; have y8_0 := (hb12.frozen (p := ⟨w7.heap.size, 0, none⟩) (by show w7.heap.size < w11.heap.size; omega)).trans y8_0; have x8_1 := (hb12.cell (p := ⟨w7.heap.size, 1, none⟩) (by show w7.heap.size < w11.heap.size; omega)).trans x8_1; have y8_1 := (hb12.frozen (p := ⟨w7.heap.size, 1, none⟩) (by show w7.heap.size < w11.heap.size; omega)).trans y8_1; have zs := Nat.lt_of_lt_of_le zs hb12.size; have zs_W2 := Nat.lt_of_lt_of_le zs_W2 hb12.size; have zs_W3 := Nat.lt_of_lt_of_le zs_W3 hb12.size; have zs_W7 := Nat.lt_of_lt_of_le zs_W7 hb12.size; have g0 := g0.to hb12; have g2 := g2.to hb12; have g3 := g3.to hb12; have g7 := g7.to hb12; have g11 := g11.to hb12; have zb := below_step zb hb12)
    | (go_at_call 33; (with_reducible refine (rfix_z _ g0 A rfl).mono ?_); rintro e w11 ⟨ng11, a11_, n11_, c11_, rfl, Hng11, g11, hb11⟩; have hw_w11 : w.heap.size ≤ w10.heap.size := (by omega); have x0_0 := (hb11.cell (p := ⟨w.heap.size, 0, none⟩) (by show w.heap.size < w10.heap.size; omega)).trans x0_0; have y0_0 := (hb11.frozen (p := ⟨w.heap.size, 0, none⟩) (by show w.heap.size < w10.heap.size; omega)).trans y0_0; have x0_1 := (hb11.cell (p := ⟨w.heap.size, 1, none⟩) (by show w.heap.size < w10.heap.size; omega)).trans x0_1; have y0_1 := (hb11.frozen (p := ⟨w.heap.size, 1, none⟩) (by show w.heap.size < w10.heap.size; omega)).trans y0_1; have x5_0 := (hb11.cell (p := ⟨w2.heap.size, 0, none⟩) (by show w2.heap.size < w10.heap.size; omega)).trans x5_0; have y5_0 := (hb11.frozen (p := ⟨w2.heap.size, 0, none⟩) (by show w2.heap.size < w10.heap.size; omega)).trans y5_0; have x5_1 := (hb11.cell (p := ⟨w2.heap.size, 1, none⟩) (by show w2.heap.size < w10.heap.size; omega)).trans x5_1; have y5_1 := (hb11.frozen (p := ⟨w2.heap.size, 1, none⟩) (by show w2.heap.size < w10.heap.size; omega)).trans y5_1; have x6_0 := (hb11.cell (p := ⟨w3.heap.size, 0, none⟩) (by show w3.heap.size < w10.heap.size; omega)).trans x6_0; have y6_0 := (hb11.frozen (p := ⟨w3.heap.size, 0, none⟩) (by show w3.heap.size < w10.heap.size; omega)).trans y6_0; have x6_1 := (hb11.cell (p := ⟨w3.heap.size, 1, none⟩) (by show w3.heap.size < w10.heap.size; omega)).trans x6_1; have y6_1 := (hb11.frozen (p := ⟨w3.heap.size, 1, none⟩) (by show w3.heap.size < w10.heap.size; omega)).trans y6_1; have x8_0 := (hb11.cell (p := ⟨w7.heap.size, 0, none⟩) (by show w7.heap.size < w10.heap.size; omega)).trans x8_0; have y8_0 := (hb11.frozen (p := ⟨w7.heap.size, 0, none⟩) (by show w7.heap.size < w10.heap.size; omega)).trans y8_0; have x8_1 := (hb11.cell (p := ⟨w7.heap.size, 1, none⟩) (by show w7.heap.size < w10.heap.size; omega)).trans x8_1; have y8_1 := (hb11.frozen (p := ⟨w7.heap.size, 1, none⟩) (by show w7.heap.size < w10.heap.size; omega)).trans y8_1; have zs := Nat.lt_of_lt_of_le zs hb11.size; have zs_W2 := Nat.lt_of_lt_of_le zs_W2 hb11.size; have zs_W3 := Nat.lt_of_lt_of_le zs_W3 hb11.size; have zs_W7 := Nat.lt_of_lt_of_le zs_W7 hb11.size; have g0 := g0.to hb11; have g2 := g2.to hb11; have g3 := g3.to hb11; have g7 := g7.to hb11; have zb := below_step zb hb11)
    | (go_at_call 32; (with_reducible refine (rprint_z _ g0 (by omega) t Ht.out).mono ?_); rintro e w10 ⟨rfl, hb10⟩; have hw_w10 : w.heap.size ≤ w9.heap.size := (by omega); have x0_0 := (hb10.cell (p := ⟨w.heap.size, 0, none⟩) (by show w.heap.size < w9.heap.size; omega)).trans x0_0; have y0_0 := (hb10.frozen (p := ⟨w.heap.size, 0, none⟩) (by show w.heap.size < w9.heap.size; omega)).trans y0_0; have x0_1 := (hb10.cell (p := ⟨w.heap.size, 1, none⟩) (by show w.heap.size < w9.heap.size; omega)).trans x0_1; have y0_1 := (hb10.frozen (p := ⟨w.heap.size, 1, none⟩) (by show w.heap.size < w9.heap.size; omega)).trans y0_1; have x5_0 := (hb10.cell (p := ⟨w2.heap.size, 0, none⟩) (by show w2.heap.size < w9.heap.size; omega)).trans x5_0; have y5_0 := (hb10.frozen (p := ⟨w2.heap.size, 0, none⟩) (by show w2.heap.size < w9.heap.size; omega)).trans y5_0; have x5_1 := (hb10.cell (p := ⟨w2.heap.size, 1, none⟩) (by show w2.heap.size < w9.heap.size; omega)).trans x5_1; have y5_1 := (hb10.frozen (p := ⟨w2.heap.size, 1, none⟩) (by show w2.heap.size < w9.heap.size; omega)).trans y5_1; have x6_0 := (hb10.cell (p := ⟨w3.heap.size, 0, none⟩) (by show w3.heap.size < w9.heap.size; omega)).trans x6_0; have y6_0 := (hb10.frozen (p := ⟨w3.heap.size, 0, none⟩) (by show w3.heap.size < w9.heap.size; omega)).trans y6_0; have x6_1 := (hb10.cell (p := ⟨w3.heap.size, 1, none⟩) (by show w3.heap.size < w9.heap.size; omega)).trans x6_1; have y6_1 := (hb10.frozen (p := ⟨w3.heap.size, 1, none⟩) (by show w3.heap.size < w9.heap.size; omega)).trans y6_1; have x8_0 := (hb10.cell (p := ⟨w7.heap.size, 0, none⟩) (by show w7.heap.size < w9.heap.size; omega)).trans x8_0; have y8_0 := (hb10.frozen (p := ⟨w7.heap.size, 0, none⟩) (by show w7.heap.size < w9.heap.size; omega)).trans y8_0; have x8_1 := (hb10.cell (p := ⟨w7.heap.size, 1, none⟩) (by show w7.heap.size < w9.heap.size; omega)).trans x8_1; have y8_1 := (hb10.frozen (p := ⟨w7.heap.size, 1, none⟩) (by show w7.heap.size < w9.heap.size; omega)).trans y8_1; have zs := Nat.lt_of_lt_of_le zs hb10.size; have zs_W2 := Nat.lt_of_lt_of_le zs_W2 hb10.size; have zs_W3 := Nat.lt_of_lt_of_le zs_W3 hb10.size; have zs_W7 := Nat.lt_of_lt_of_le zs_W7 hb10.size; have g0 := g0.to hb10; have g2 := g2.to hb10; have g3 := g3.to hb10; have g7 := g7.to hb10; have zb := below_step zb hb10)
    | (go_at_call 31; have g0 := g0.drew; have g2 := g2.drew; have g3 := g3.drew; have g7 := g7.drew; have zb := zb.drew; (with_reducible refine (same_z _ g2 g3 Hng2 Hng3).mono ?_); rintro e w9 ⟨rfl, hb9⟩; have hw_w9 : w.heap.size ≤ W7.heap.size := (by omega); have x0_0 := (hb9.cell (p := ⟨w.heap.size, 0, none⟩) (by show w.heap.size < W7.heap.size; omega)).trans x0_0; have y0_0 := (hb9.frozen (p := ⟨w.heap.size, 0, none⟩) (by show w.heap.size < W7.heap.size; omega)).trans y0_0; have x0_1 := (hb9.cell (p := ⟨w.heap.size, 1, none⟩) (by show w.heap.size < W7.heap.size; omega)).trans x0_1; have y0_1 := (hb9.frozen (p := ⟨w.heap.size, 1, none⟩) (by show w.heap.size < W7.heap.size; omega)).trans y0_1; have x5_0 := (hb9.cell (p := ⟨w2.heap.size, 0, none⟩) (by show w2.heap.size < W7.heap.size; omega)).trans x5_0; have y5_0 := (hb9.frozen (p := ⟨w2.heap.size, 0, none⟩) (by show w2.heap.size < W7.heap.size; omega)).trans y5_0; have x5_1 := (hb9.cell (p := ⟨w2.heap.size, 1, none⟩) (by show w2.heap.size < W7.heap.size; omega)).trans x5_1; have y5_1 := (hb9.frozen (p := ⟨w2.heap.size, 1, none⟩) (by show w2.heap.size < W7.heap.size; omega)).trans y5_1; have x6_0 := (hb9.cell (p := ⟨w3.heap.size, 0, none⟩) (by show w3.heap.size < W7.heap.size; omega)).trans x6_0; have y6_0 := (hb9.frozen (p := ⟨w3.heap.size, 0, none⟩) (by show w3.heap.size < W7.heap.size; omega)).trans y6_0; have x6_1 := (hb9.cell (p := ⟨w3.heap.size, 1, none⟩) (by show w3.heap.size < W7.heap.size; omega)).trans x6_1; have y6_1 := (hb9.frozen (p := ⟨w3.heap.size, 1, none⟩) (by show w3.heap.size < W7.heap.size; omega)).trans y6_1; have x8_0 := (hb9.cell (p := ⟨w7.heap.size, 0, none⟩) (by show w7.heap.size < W7.heap.size; omega)).trans x8_0; have y8_0 := (hb9.frozen (p := ⟨w7.heap.size, 0, none⟩) (by show w7.heap.size < W7.heap.size; omega)).trans y8_0; have x8_1 := (hb9.cell (p := ⟨w7.heap.size, 1, none⟩) (by show w7.heap.size < W7.heap.size; omega)).trans x8_1; have y8_1 := (hb9.frozen (p := ⟨w7.heap.size, 1, none⟩) (by show w7.heap.size < W7.heap.size; omega)).trans y8_1; have zs := Nat.lt_of_lt_of_le zs hb9.size; have zs_W2 := Nat.lt_of_lt_of_le zs_W2 hb9.size; have zs_W3 := Nat.lt_of_lt_of_le zs_W3 hb9.size; have zs_W7 := Nat.lt_of_lt_of_le zs_W7 hb9.size; have g0 := g0.to hb9; have g2 := g2.to hb9; have g3 := g3.to hb9; have g7 := g7.to hb9; have zb := below_step zb hb9))
  go_wp2_with fail
  go_ret
  exact ⟨by first | rfl | exact ret_bool (by simp), zb⟩

end Go.Proofs.Yteokdkcanckfeaa
