/-
  The texts Law8, merged.
-/
import Derived.Test.YtmjnlpanlgmdmaaG12
import Derived.Test.YtmjnlpanlgmdmaaG20
import Derived.Test.YtmjnlpanlgmdmaaG05
import Derived.Deep.RegionHeld3
import Derived.Deep.Cut
import Derived.Deep.DrawnRows
import Derived.Laws.EntriesVeiled
namespace Go.Proofs.Ytmjnlpanlgmdmaa
open Go.RowKit Tw
set_option linter.unusedVariables false
set_option linter.unusedSimpArgs false
attribute [local go_sem ↓] Go.wp_at_zero Go.wp_at_succ

set_option maxRecDepth 100000 in
set_option maxHeartbeats 20000000 in
theorem awake8  (w : World)  :
    Calls Try.prog 10 #[] w (Holds w) := by
  have B1 := Lib.hid (show bs ⟨#[49, 124, 50]⟩ = itext 1 ++ 124 :: digs 2 by decide +kernel)
  have B2 := Lib.hid (show bs ⟨#[49, 124, 51]⟩ = itext 1 ++ 124 :: digs 3 by decide +kernel)
  have B3 := Lib.hid (show bs ⟨#[45, 52, 124, 54]⟩ = itext (-4) ++ 124 :: digs 6 by decide +kernel)
  obtain ⟨x, hx⟩ : ∃ x, mkRat 1 2 = x := ⟨_, rfl⟩
  obtain ⟨y, hy⟩ : ∃ x, mkRat 1 3 = x := ⟨_, rfl⟩
  obtain ⟨z, hz⟩ : ∃ x, mkRat (-4) 6 = x := ⟨_, rfl⟩
  have HX := Lib.hid hx
  have HY := Lib.hid hy
  have HZ := Lib.hid hz
  have T1 := Lib.hid (show ba (rtext (x + y)) = ⟨#[53, 124, 54]⟩ by rw [← hx, ← hy]; decide +kernel)
  have T2 := Lib.hid (show ba (rtext z) = ⟨#[45, 50, 124, 51]⟩ by rw [← hz]; decide +kernel)
  have T3 := Lib.hid (show ba (rtext ((-z) ^ (-(-2 : Int)).toNat)⁻¹) = ⟨#[57, 124, 52]⟩ by rw [← hz]; decide +kernel)
  have N1 := Lib.hid (show -z ≠ 0 by rw [← hz]; decide +kernel)
  have S1 : Hid (szq (x + y) ≤ 1000) := by show _ ≤ _; rw [← hx, ← hy]; decide +kernel
  have S2 : Hid (szq (-z) ≤ 1000) := by show _ ≤ _; rw [← hz]; decide +kernel
  have S3 := Lib.hid (show szq (-z) * (-(-2 : Int)).toNat ≤ 999 by rw [← hz]; decide +kernel)
  clear hx hy hz
  go_enter Try.func10, Try.ntmps10
  go_wp2_with fail
  obtain ⟨W0, hW0⟩ : ∃ W0, w = W0 := ⟨_, rfl⟩
  have zb : Below w.heap.size w W0 := by rw [← hW0]; exact Below.refl _ _
  subst hW0
  
  have gb : Below w.heap.size w w := Below.refl _ _
  
  refine (parse_frac ⟨#[49, 124, 50]⟩ _ (by decide) 1 2 B1.out (by omega) x HX.out).mono ?_
  rintro e w1 ⟨ng1, a1_, n1_, c1_, p1_, m1_, k1_, rfl, g1, hb1⟩
  replace gb := below_step gb hb1
  go_wp2_with fail
  obtain ⟨W1, hW1⟩ : ∃ W1, w1.alloc (.cells #[.bool ng1, .slice a1_ n1_ c1_, .slice p1_ m1_ k1_] 24) = W1 := ⟨_, rfl⟩
  have hb_W1 : Below w1.heap.size w1 W1 := by rw [← hW1]; exact below_new _ _
  have hs_W1 : Hid (W1.heap.size = w1.heap.size + 1) := by show _ = _; rw [← hW1]; simp
  replace g1 := g1.to hb_W1
  replace gb := below_step gb hb_W1
  have x1_0 : W1.cell? ⟨w1.heap.size, 0, none⟩ = some (.bool ng1) := by rw [← hW1]; simp [go_sem]
  have y1_0 : W1.frozen? ⟨w1.heap.size, 0, none⟩ = false := by rw [← hW1]; simp [go_sem]
  have x1_1 : W1.cell? ⟨w1.heap.size, 1, none⟩ = some (.slice a1_ n1_ c1_) := by rw [← hW1]; simp [go_sem]
  have y1_1 : W1.frozen? ⟨w1.heap.size, 1, none⟩ = false := by rw [← hW1]; simp [go_sem]
  have x1_2 : W1.cell? ⟨w1.heap.size, 2, none⟩ = some (.slice p1_ m1_ k1_) := by rw [← hW1]; simp [go_sem]
  have y1_2 : W1.frozen? ⟨w1.heap.size, 2, none⟩ = false := by rw [← hW1]; simp [go_sem]
  have z1 : w1.heap.size < W1.heap.size := by rw [← hW1]; simp
  rw [hW1]
  clear hW1
  replace zb := below_step zb gb
  have HXW1 := Lib.hid (show ∀ W', Below W1.heap.size W1 W' → (W'.cell? ⟨w1.heap.size, 0, none⟩ = some (.bool ng1) ∧ W'.cell? ⟨w1.heap.size, 1, none⟩ = some (.slice a1_ n1_ c1_) ∧ W'.cell? ⟨w1.heap.size, 2, none⟩ = some (.slice p1_ m1_ k1_)) from fun W' hb =>
    ⟨(hb.cell (p := ⟨w1.heap.size, 0, none⟩) z1).trans x1_0, (hb.cell (p := ⟨w1.heap.size, 1, none⟩) z1).trans x1_1, (hb.cell (p := ⟨w1.heap.size, 2, none⟩) z1).trans x1_2⟩)
  have HYW1 := Lib.hid (show ∀ W', Below W1.heap.size W1 W' → (W'.frozen? ⟨w1.heap.size, 0, none⟩ = false ∧ W'.frozen? ⟨w1.heap.size, 1, none⟩ = false ∧ W'.frozen? ⟨w1.heap.size, 2, none⟩ = false) from fun W' hb =>
    ⟨(hb.frozen (p := ⟨w1.heap.size, 0, none⟩) z1).trans y1_0, (hb.frozen (p := ⟨w1.heap.size, 1, none⟩) z1).trans y1_1, (hb.frozen (p := ⟨w1.heap.size, 2, none⟩) z1).trans y1_2⟩)
  have HZW1 := Lib.hid (show ∀ W', Below W1.heap.size W1 W' → (w1.heap.size < W'.heap.size) from fun W' hb =>
    Nat.lt_of_lt_of_le z1 hb.size)
  replace gb := Below.refl W1.heap.size W1
  go_wp2_with fail
  refine (parse_frac ⟨#[49, 124, 51]⟩ _ (by decide) 1 3 B2.out (by omega) y HY.out).mono ?_
  clear x1_0 y1_0 x1_1 y1_1 x1_2 y1_2
  rintro e w2 ⟨ng2, a2_, n2_, c2_, p2_, m2_, k2_, rfl, g2, hb2⟩
  replace gb := below_step gb hb2
  obtain ⟨x1_0, x1_1, x1_2⟩ := HXW1.out _ gb
  obtain ⟨y1_0, y1_1, y1_2⟩ := HYW1.out _ gb
  obtain z1 := HZW1.out _ gb
  go_wp2_with fail
  obtain ⟨W2, hW2⟩ : ∃ W2, w2.alloc (.cells #[.bool ng2, .slice a2_ n2_ c2_, .slice p2_ m2_ k2_] 24) = W2 := ⟨_, rfl⟩
  have hb_W2 : Below w2.heap.size w2 W2 := by rw [← hW2]; exact below_new _ _
  have hs_W2 : Hid (W2.heap.size = w2.heap.size + 1) := by show _ = _; rw [← hW2]; simp
  clear x1_0 y1_0 x1_1 y1_1 x1_2 y1_2
  replace g2 := g2.to hb_W2
  replace gb := below_step gb hb_W2
  obtain ⟨x1_0, x1_1, x1_2⟩ := HXW1.out _ gb
  obtain ⟨y1_0, y1_1, y1_2⟩ := HYW1.out _ gb
  obtain z1 := HZW1.out _ gb
  have x3_0 : W2.cell? ⟨w2.heap.size, 0, none⟩ = some (.bool ng2) := by rw [← hW2]; simp [go_sem]
  have y3_0 : W2.frozen? ⟨w2.heap.size, 0, none⟩ = false := by rw [← hW2]; simp [go_sem]
  have x3_1 : W2.cell? ⟨w2.heap.size, 1, none⟩ = some (.slice a2_ n2_ c2_) := by rw [← hW2]; simp [go_sem]
  have y3_1 : W2.frozen? ⟨w2.heap.size, 1, none⟩ = false := by rw [← hW2]; simp [go_sem]
  have x3_2 : W2.cell? ⟨w2.heap.size, 2, none⟩ = some (.slice p2_ m2_ k2_) := by rw [← hW2]; simp [go_sem]
  have y3_2 : W2.frozen? ⟨w2.heap.size, 2, none⟩ = false := by rw [← hW2]; simp [go_sem]
  have z3 : w2.heap.size < W2.heap.size := by rw [← hW2]; simp
  rw [hW2]
  clear hW2
  replace g1 := g1.to gb
  replace zb := below_step zb gb
  have HXW2 := Lib.hid (show ∀ W', Below W2.heap.size W2 W' → (W'.cell? ⟨w1.heap.size, 0, none⟩ = some (.bool ng1) ∧ W'.cell? ⟨w1.heap.size, 1, none⟩ = some (.slice a1_ n1_ c1_) ∧ W'.cell? ⟨w1.heap.size, 2, none⟩ = some (.slice p1_ m1_ k1_) ∧ W'.cell? ⟨w2.heap.size, 0, none⟩ = some (.bool ng2) ∧ W'.cell? ⟨w2.heap.size, 1, none⟩ = some (.slice a2_ n2_ c2_) ∧ W'.cell? ⟨w2.heap.size, 2, none⟩ = some (.slice p2_ m2_ k2_)) from fun W' hb =>
    ⟨(hb.cell (p := ⟨w1.heap.size, 0, none⟩) z1).trans x1_0, (hb.cell (p := ⟨w1.heap.size, 1, none⟩) z1).trans x1_1, (hb.cell (p := ⟨w1.heap.size, 2, none⟩) z1).trans x1_2, (hb.cell (p := ⟨w2.heap.size, 0, none⟩) z3).trans x3_0, (hb.cell (p := ⟨w2.heap.size, 1, none⟩) z3).trans x3_1, (hb.cell (p := ⟨w2.heap.size, 2, none⟩) z3).trans x3_2⟩)
  have HYW2 := Lib.hid (show ∀ W', Below W2.heap.size W2 W' → (W'.frozen? ⟨w1.heap.size, 0, none⟩ = false ∧ W'.frozen? ⟨w1.heap.size, 1, none⟩ = false ∧ W'.frozen? ⟨w1.heap.size, 2, none⟩ = false ∧ W'.frozen? ⟨w2.heap.size, 0, none⟩ = false ∧ W'.frozen? ⟨w2.heap.size, 1, none⟩ = false ∧ W'.frozen? ⟨w2.heap.size, 2, none⟩ = false) from fun W' hb =>
    ⟨(hb.frozen (p := ⟨w1.heap.size, 0, none⟩) z1).trans y1_0, (hb.frozen (p := ⟨w1.heap.size, 1, none⟩) z1).trans y1_1, (hb.frozen (p := ⟨w1.heap.size, 2, none⟩) z1).trans y1_2, (hb.frozen (p := ⟨w2.heap.size, 0, none⟩) z3).trans y3_0, (hb.frozen (p := ⟨w2.heap.size, 1, none⟩) z3).trans y3_1, (hb.frozen (p := ⟨w2.heap.size, 2, none⟩) z3).trans y3_2⟩)
  have HZW2 := Lib.hid (show ∀ W', Below W2.heap.size W2 W' → (w1.heap.size < W'.heap.size ∧ w2.heap.size < W'.heap.size) from fun W' hb =>
    ⟨Nat.lt_of_lt_of_le z1 hb.size, Nat.lt_of_lt_of_le z3 hb.size⟩)
  replace gb := Below.refl W2.heap.size W2
  go_wp2_with fail
  refine (parse_frac ⟨#[45, 52, 124, 54]⟩ _ (by decide) (-4) 6 B3.out (by omega) z HZ.out).mono ?_
  clear x1_0 y1_0 x1_1 y1_1 x1_2 y1_2 x3_0 y3_0 x3_1 y3_1 x3_2 y3_2
  rintro e w3 ⟨ng3, a3_, n3_, c3_, p3_, m3_, k3_, rfl, g3, hb3⟩
  replace gb := below_step gb hb3
  obtain ⟨x1_0, x1_1, x1_2, x3_0, x3_1, x3_2⟩ := HXW2.out _ gb
  obtain ⟨y1_0, y1_1, y1_2, y3_0, y3_1, y3_2⟩ := HYW2.out _ gb
  obtain ⟨z1, z3⟩ := HZW2.out _ gb
  go_wp2_with fail
  obtain ⟨W3, hW3⟩ : ∃ W3, w3.alloc (.cells #[.bool ng3, .slice a3_ n3_ c3_, .slice p3_ m3_ k3_] 24) = W3 := ⟨_, rfl⟩
  have hb_W3 : Below w3.heap.size w3 W3 := by rw [← hW3]; exact below_new _ _
  have hs_W3 : Hid (W3.heap.size = w3.heap.size + 1) := by show _ = _; rw [← hW3]; simp
  clear x1_0 y1_0 x1_1 y1_1 x1_2 y1_2 x3_0 y3_0 x3_1 y3_1 x3_2 y3_2
  replace g3 := g3.to hb_W3
  replace gb := below_step gb hb_W3
  obtain ⟨x1_0, x1_1, x1_2, x3_0, x3_1, x3_2⟩ := HXW2.out _ gb
  obtain ⟨y1_0, y1_1, y1_2, y3_0, y3_1, y3_2⟩ := HYW2.out _ gb
  obtain ⟨z1, z3⟩ := HZW2.out _ gb
  have x5_0 : W3.cell? ⟨w3.heap.size, 0, none⟩ = some (.bool ng3) := by rw [← hW3]; simp [go_sem]
  have y5_0 : W3.frozen? ⟨w3.heap.size, 0, none⟩ = false := by rw [← hW3]; simp [go_sem]
  have x5_1 : W3.cell? ⟨w3.heap.size, 1, none⟩ = some (.slice a3_ n3_ c3_) := by rw [← hW3]; simp [go_sem]
  have y5_1 : W3.frozen? ⟨w3.heap.size, 1, none⟩ = false := by rw [← hW3]; simp [go_sem]
  have x5_2 : W3.cell? ⟨w3.heap.size, 2, none⟩ = some (.slice p3_ m3_ k3_) := by rw [← hW3]; simp [go_sem]
  have y5_2 : W3.frozen? ⟨w3.heap.size, 2, none⟩ = false := by rw [← hW3]; simp [go_sem]
  have z5 : w3.heap.size < W3.heap.size := by rw [← hW3]; simp
  rw [hW3]
  clear hW3
  replace g1 := g1.to gb
  replace g2 := g2.to gb
  replace zb := below_step zb gb
  have HXW3 := Lib.hid (show ∀ W', Below W3.heap.size W3 W' → (W'.cell? ⟨w1.heap.size, 0, none⟩ = some (.bool ng1) ∧ W'.cell? ⟨w1.heap.size, 1, none⟩ = some (.slice a1_ n1_ c1_) ∧ W'.cell? ⟨w1.heap.size, 2, none⟩ = some (.slice p1_ m1_ k1_) ∧ W'.cell? ⟨w2.heap.size, 0, none⟩ = some (.bool ng2) ∧ W'.cell? ⟨w2.heap.size, 1, none⟩ = some (.slice a2_ n2_ c2_) ∧ W'.cell? ⟨w2.heap.size, 2, none⟩ = some (.slice p2_ m2_ k2_) ∧ W'.cell? ⟨w3.heap.size, 0, none⟩ = some (.bool ng3) ∧ W'.cell? ⟨w3.heap.size, 1, none⟩ = some (.slice a3_ n3_ c3_) ∧ W'.cell? ⟨w3.heap.size, 2, none⟩ = some (.slice p3_ m3_ k3_)) from fun W' hb =>
    ⟨(hb.cell (p := ⟨w1.heap.size, 0, none⟩) z1).trans x1_0, (hb.cell (p := ⟨w1.heap.size, 1, none⟩) z1).trans x1_1, (hb.cell (p := ⟨w1.heap.size, 2, none⟩) z1).trans x1_2, (hb.cell (p := ⟨w2.heap.size, 0, none⟩) z3).trans x3_0, (hb.cell (p := ⟨w2.heap.size, 1, none⟩) z3).trans x3_1, (hb.cell (p := ⟨w2.heap.size, 2, none⟩) z3).trans x3_2, (hb.cell (p := ⟨w3.heap.size, 0, none⟩) z5).trans x5_0, (hb.cell (p := ⟨w3.heap.size, 1, none⟩) z5).trans x5_1, (hb.cell (p := ⟨w3.heap.size, 2, none⟩) z5).trans x5_2⟩)
  have HYW3 := Lib.hid (show ∀ W', Below W3.heap.size W3 W' → (W'.frozen? ⟨w1.heap.size, 0, none⟩ = false ∧ W'.frozen? ⟨w1.heap.size, 1, none⟩ = false ∧ W'.frozen? ⟨w1.heap.size, 2, none⟩ = false ∧ W'.frozen? ⟨w2.heap.size, 0, none⟩ = false ∧ W'.frozen? ⟨w2.heap.size, 1, none⟩ = false ∧ W'.frozen? ⟨w2.heap.size, 2, none⟩ = false ∧ W'.frozen? ⟨w3.heap.size, 0, none⟩ = false ∧ W'.frozen? ⟨w3.heap.size, 1, none⟩ = false ∧ W'.frozen? ⟨w3.heap.size, 2, none⟩ = false) from fun W' hb =>
    ⟨(hb.frozen (p := ⟨w1.heap.size, 0, none⟩) z1).trans y1_0, (hb.frozen (p := ⟨w1.heap.size, 1, none⟩) z1).trans y1_1, (hb.frozen (p := ⟨w1.heap.size, 2, none⟩) z1).trans y1_2, (hb.frozen (p := ⟨w2.heap.size, 0, none⟩) z3).trans y3_0, (hb.frozen (p := ⟨w2.heap.size, 1, none⟩) z3).trans y3_1, (hb.frozen (p := ⟨w2.heap.size, 2, none⟩) z3).trans y3_2, (hb.frozen (p := ⟨w3.heap.size, 0, none⟩) z5).trans y5_0, (hb.frozen (p := ⟨w3.heap.size, 1, none⟩) z5).trans y5_1, (hb.frozen (p := ⟨w3.heap.size, 2, none⟩) z5).trans y5_2⟩)
  have HZW3 := Lib.hid (show ∀ W', Below W3.heap.size W3 W' → (w1.heap.size < W'.heap.size ∧ w2.heap.size < W'.heap.size ∧ w3.heap.size < W'.heap.size) from fun W' hb =>
    ⟨Nat.lt_of_lt_of_le z1 hb.size, Nat.lt_of_lt_of_le z3 hb.size, Nat.lt_of_lt_of_le z5 hb.size⟩)
  replace gb := Below.refl W3.heap.size W3
  go_wp2_with fail
  refine (ratio_neg _ _ _ _ _ _ (g3.to gb).isQ (-z) rfl S2).mono ?_
  clear x1_0 y1_0 x1_1 y1_1 x1_2 y1_2 x3_0 y3_0 x3_1 y3_1 x3_2 y3_2 x5_0 y5_0 x5_1 y5_1 x5_2 y5_2
  rintro e w4 ⟨ng4, a4_, n4_, c4_, p4_, m4_, k4_, rfl, g4, hb4⟩
  replace gb := below_step gb hb4
  obtain ⟨x1_0, x1_1, x1_2, x3_0, x3_1, x3_2, x5_0, x5_1, x5_2⟩ := HXW3.out _ gb
  obtain ⟨y1_0, y1_1, y1_2, y3_0, y3_1, y3_2, y5_0, y5_1, y5_2⟩ := HYW3.out _ gb
  obtain ⟨z1, z3, z5⟩ := HZW3.out _ gb
  go_wp2_with fail
  refine (pow_neg _ _ _ _ _ (-2) _ g4.isQ (by omega) (by omega) N1.out S3.out).mono ?_
  clear x1_0 y1_0 x1_1 y1_1 x1_2 y1_2 x3_0 y3_0 x3_1 y3_1 x3_2 y3_2 x5_0 y5_0 x5_1 y5_1 x5_2 y5_2
  rintro e w5 ⟨ng5, a5_, n5_, c5_, p5_, m5_, k5_, rfl, g5, hb5⟩
  replace g4 := g4.to hb5
  replace gb := below_step gb hb5
  obtain ⟨x1_0, x1_1, x1_2, x3_0, x3_1, x3_2, x5_0, x5_1, x5_2⟩ := HXW3.out _ gb
  obtain ⟨y1_0, y1_1, y1_2, y3_0, y3_1, y3_2, y5_0, y5_1, y5_2⟩ := HYW3.out _ gb
  obtain ⟨z1, z3, z5⟩ := HZW3.out _ gb
  go_wp2_with fail
  obtain ⟨W5, hW5⟩ : ∃ W5, w5.alloc (.cells #[.bool ng5, .slice a5_ n5_ c5_, .slice p5_ m5_ k5_] 24) = W5 := ⟨_, rfl⟩
  have hb_W5 : Below w5.heap.size w5 W5 := by rw [← hW5]; exact below_new _ _
  have hs_W5 : Hid (W5.heap.size = w5.heap.size + 1) := by show _ = _; rw [← hW5]; simp
  clear x1_0 y1_0 x1_1 y1_1 x1_2 y1_2 x3_0 y3_0 x3_1 y3_1 x3_2 y3_2 x5_0 y5_0 x5_1 y5_1 x5_2 y5_2
  replace g4 := g4.to hb_W5
  replace g5 := g5.to hb_W5
  replace gb := below_step gb hb_W5
  obtain ⟨x1_0, x1_1, x1_2, x3_0, x3_1, x3_2, x5_0, x5_1, x5_2⟩ := HXW3.out _ gb
  obtain ⟨y1_0, y1_1, y1_2, y3_0, y3_1, y3_2, y5_0, y5_1, y5_2⟩ := HYW3.out _ gb
  obtain ⟨z1, z3, z5⟩ := HZW3.out _ gb
  have x7_0 : W5.cell? ⟨w5.heap.size, 0, none⟩ = some (.bool ng5) := by rw [← hW5]; simp [go_sem]
  have y7_0 : W5.frozen? ⟨w5.heap.size, 0, none⟩ = false := by rw [← hW5]; simp [go_sem]
  have x7_1 : W5.cell? ⟨w5.heap.size, 1, none⟩ = some (.slice a5_ n5_ c5_) := by rw [← hW5]; simp [go_sem]
  have y7_1 : W5.frozen? ⟨w5.heap.size, 1, none⟩ = false := by rw [← hW5]; simp [go_sem]
  have x7_2 : W5.cell? ⟨w5.heap.size, 2, none⟩ = some (.slice p5_ m5_ k5_) := by rw [← hW5]; simp [go_sem]
  have y7_2 : W5.frozen? ⟨w5.heap.size, 2, none⟩ = false := by rw [← hW5]; simp [go_sem]
  have z7 : w5.heap.size < W5.heap.size := by rw [← hW5]; simp
  rw [hW5]
  clear hW5
  replace g1 := g1.to gb
  replace g2 := g2.to gb
  replace g3 := g3.to gb
  replace zb := below_step zb gb
  have HXW5 := Lib.hid (show ∀ W', Below W5.heap.size W5 W' → (W'.cell? ⟨w1.heap.size, 0, none⟩ = some (.bool ng1) ∧ W'.cell? ⟨w1.heap.size, 1, none⟩ = some (.slice a1_ n1_ c1_) ∧ W'.cell? ⟨w1.heap.size, 2, none⟩ = some (.slice p1_ m1_ k1_) ∧ W'.cell? ⟨w2.heap.size, 0, none⟩ = some (.bool ng2) ∧ W'.cell? ⟨w2.heap.size, 1, none⟩ = some (.slice a2_ n2_ c2_) ∧ W'.cell? ⟨w2.heap.size, 2, none⟩ = some (.slice p2_ m2_ k2_) ∧ W'.cell? ⟨w3.heap.size, 0, none⟩ = some (.bool ng3) ∧ W'.cell? ⟨w3.heap.size, 1, none⟩ = some (.slice a3_ n3_ c3_) ∧ W'.cell? ⟨w3.heap.size, 2, none⟩ = some (.slice p3_ m3_ k3_) ∧ W'.cell? ⟨w5.heap.size, 0, none⟩ = some (.bool ng5) ∧ W'.cell? ⟨w5.heap.size, 1, none⟩ = some (.slice a5_ n5_ c5_) ∧ W'.cell? ⟨w5.heap.size, 2, none⟩ = some (.slice p5_ m5_ k5_)) from fun W' hb =>
    ⟨(hb.cell (p := ⟨w1.heap.size, 0, none⟩) z1).trans x1_0, (hb.cell (p := ⟨w1.heap.size, 1, none⟩) z1).trans x1_1, (hb.cell (p := ⟨w1.heap.size, 2, none⟩) z1).trans x1_2, (hb.cell (p := ⟨w2.heap.size, 0, none⟩) z3).trans x3_0, (hb.cell (p := ⟨w2.heap.size, 1, none⟩) z3).trans x3_1, (hb.cell (p := ⟨w2.heap.size, 2, none⟩) z3).trans x3_2, (hb.cell (p := ⟨w3.heap.size, 0, none⟩) z5).trans x5_0, (hb.cell (p := ⟨w3.heap.size, 1, none⟩) z5).trans x5_1, (hb.cell (p := ⟨w3.heap.size, 2, none⟩) z5).trans x5_2, (hb.cell (p := ⟨w5.heap.size, 0, none⟩) z7).trans x7_0, (hb.cell (p := ⟨w5.heap.size, 1, none⟩) z7).trans x7_1, (hb.cell (p := ⟨w5.heap.size, 2, none⟩) z7).trans x7_2⟩)
  have HYW5 := Lib.hid (show ∀ W', Below W5.heap.size W5 W' → (W'.frozen? ⟨w1.heap.size, 0, none⟩ = false ∧ W'.frozen? ⟨w1.heap.size, 1, none⟩ = false ∧ W'.frozen? ⟨w1.heap.size, 2, none⟩ = false ∧ W'.frozen? ⟨w2.heap.size, 0, none⟩ = false ∧ W'.frozen? ⟨w2.heap.size, 1, none⟩ = false ∧ W'.frozen? ⟨w2.heap.size, 2, none⟩ = false ∧ W'.frozen? ⟨w3.heap.size, 0, none⟩ = false ∧ W'.frozen? ⟨w3.heap.size, 1, none⟩ = false ∧ W'.frozen? ⟨w3.heap.size, 2, none⟩ = false ∧ W'.frozen? ⟨w5.heap.size, 0, none⟩ = false ∧ W'.frozen? ⟨w5.heap.size, 1, none⟩ = false ∧ W'.frozen? ⟨w5.heap.size, 2, none⟩ = false) from fun W' hb =>
    ⟨(hb.frozen (p := ⟨w1.heap.size, 0, none⟩) z1).trans y1_0, (hb.frozen (p := ⟨w1.heap.size, 1, none⟩) z1).trans y1_1, (hb.frozen (p := ⟨w1.heap.size, 2, none⟩) z1).trans y1_2, (hb.frozen (p := ⟨w2.heap.size, 0, none⟩) z3).trans y3_0, (hb.frozen (p := ⟨w2.heap.size, 1, none⟩) z3).trans y3_1, (hb.frozen (p := ⟨w2.heap.size, 2, none⟩) z3).trans y3_2, (hb.frozen (p := ⟨w3.heap.size, 0, none⟩) z5).trans y5_0, (hb.frozen (p := ⟨w3.heap.size, 1, none⟩) z5).trans y5_1, (hb.frozen (p := ⟨w3.heap.size, 2, none⟩) z5).trans y5_2, (hb.frozen (p := ⟨w5.heap.size, 0, none⟩) z7).trans y7_0, (hb.frozen (p := ⟨w5.heap.size, 1, none⟩) z7).trans y7_1, (hb.frozen (p := ⟨w5.heap.size, 2, none⟩) z7).trans y7_2⟩)
  have HZW5 := Lib.hid (show ∀ W', Below W5.heap.size W5 W' → (w1.heap.size < W'.heap.size ∧ w2.heap.size < W'.heap.size ∧ w3.heap.size < W'.heap.size ∧ w5.heap.size < W'.heap.size) from fun W' hb =>
    ⟨Nat.lt_of_lt_of_le z1 hb.size, Nat.lt_of_lt_of_le z3 hb.size, Nat.lt_of_lt_of_le z5 hb.size, Nat.lt_of_lt_of_le z7 hb.size⟩)
  replace gb := Below.refl W5.heap.size W5
  go_wp2_with fail
  refine (ratio_add _ _ _ _ _ _ _ _ _ _ _ (g1.to gb).isQ (g2.to gb).isQ (x + y) rfl S1).mono ?_
  clear x1_0 y1_0 x1_1 y1_1 x1_2 y1_2 x3_0 y3_0 x3_1 y3_1 x3_2 y3_2 x5_0 y5_0 x5_1 y5_1 x5_2 y5_2 x7_0 y7_0 x7_1 y7_1 x7_2 y7_2
  rintro e w6 ⟨ng6, a6_, n6_, c6_, p6_, m6_, k6_, rfl, g6, hb6⟩
  replace gb := below_step gb hb6
  obtain ⟨x1_0, x1_1, x1_2, x3_0, x3_1, x3_2, x5_0, x5_1, x5_2, x7_0, x7_1, x7_2⟩ := HXW5.out _ gb
  obtain ⟨y1_0, y1_1, y1_2, y3_0, y3_1, y3_2, y5_0, y5_1, y5_2, y7_0, y7_1, y7_2⟩ := HYW5.out _ gb
  obtain ⟨z1, z3, z5, z7⟩ := HZW5.out _ gb
  go_wp2_with fail
  refine (ratio_print _ _ _ _ _ _ g6.isQ _ T1.out).mono ?_
  clear x1_0 y1_0 x1_1 y1_1 x1_2 y1_2 x3_0 y3_0 x3_1 y3_1 x3_2 y3_2 x5_0 y5_0 x5_1 y5_1 x5_2 y5_2 x7_0 y7_0 x7_1 y7_1 x7_2 y7_2
  rintro e w7 ⟨rfl, hb7⟩
  replace g6 := g6.to hb7
  replace gb := below_step gb hb7
  obtain ⟨x1_0, x1_1, x1_2, x3_0, x3_1, x3_2, x5_0, x5_1, x5_2, x7_0, x7_1, x7_2⟩ := HXW5.out _ gb
  obtain ⟨y1_0, y1_1, y1_2, y3_0, y3_1, y3_2, y5_0, y5_1, y5_2, y7_0, y7_1, y7_2⟩ := HYW5.out _ gb
  obtain ⟨z1, z3, z5, z7⟩ := HZW5.out _ gb
  go_wp2_with fail
  refine (ratio_print _ _ _ _ _ _ (g3.to gb).isQ _ T2.out).mono ?_
  clear x1_0 y1_0 x1_1 y1_1 x1_2 y1_2 x3_0 y3_0 x3_1 y3_1 x3_2 y3_2 x5_0 y5_0 x5_1 y5_1 x5_2 y5_2 x7_0 y7_0 x7_1 y7_1 x7_2 y7_2
  rintro e w8 ⟨rfl, hb8⟩
  replace g6 := g6.to hb8
  replace gb := below_step gb hb8
  obtain ⟨x1_0, x1_1, x1_2, x3_0, x3_1, x3_2, x5_0, x5_1, x5_2, x7_0, x7_1, x7_2⟩ := HXW5.out _ gb
  obtain ⟨y1_0, y1_1, y1_2, y3_0, y3_1, y3_2, y5_0, y5_1, y5_2, y7_0, y7_1, y7_2⟩ := HYW5.out _ gb
  obtain ⟨z1, z3, z5, z7⟩ := HZW5.out _ gb
  go_wp2_with fail
  refine (ratio_print _ _ _ _ _ _ (g5.to gb).isQ _ T3.out).mono ?_
  clear x1_0 y1_0 x1_1 y1_1 x1_2 y1_2 x3_0 y3_0 x3_1 y3_1 x3_2 y3_2 x5_0 y5_0 x5_1 y5_1 x5_2 y5_2 x7_0 y7_0 x7_1 y7_1 x7_2 y7_2
  rintro e w9 ⟨rfl, hb9⟩
  replace g6 := g6.to hb9
  replace gb := below_step gb hb9
  obtain ⟨x1_0, x1_1, x1_2, x3_0, x3_1, x3_2, x5_0, x5_1, x5_2, x7_0, x7_1, x7_2⟩ := HXW5.out _ gb
  obtain ⟨y1_0, y1_1, y1_2, y3_0, y3_1, y3_2, y5_0, y5_1, y5_2, y7_0, y7_1, y7_2⟩ := HYW5.out _ gb
  obtain ⟨z1, z3, z5, z7⟩ := HZW5.out _ gb
  go_wp2_with fail
  go_ret
  exact ⟨by first | rfl | exact ret_bool (by decide +kernel) | exact ret_bool (by simp), below_step zb gb⟩

end Go.Proofs.Ytmjnlpanlgmdmaa

