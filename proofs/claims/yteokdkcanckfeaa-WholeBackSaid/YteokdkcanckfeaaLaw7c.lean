/-
  The walks of the laws of layer 7.
-/
import Derived.Test.YteokdkcanckfeaaLaw7
import Derived.Test.YteokdkcanckfeaaWholeO
import Derived.Deep.Cut
import Derived.Test.YteokdkcanckfeaaLits
import Derived.Deep.RegionHeld3
import Derived.Deep.DrawnRows
import Derived.Laws.EntriesVeiled
namespace Go.Proofs.Yteokdkcanckfeaa
open Go.RowKit Tw
set_option linter.unusedVariables false
set_option linter.unusedSimpArgs false
attribute [local go_sem ↓] Go.wp_at_zero Go.wp_at_succ

theorem cmpZ_turn (a b : Int) : cmpZ (-b) (-a) = cmpZ a b := by
  unfold cmpZ
  repeat' split
  all_goals omega
theorem cmpZ_both (a b c : Int) : cmpZ (a + c) (b + c) = cmpZ a b := by
  unfold cmpZ
  repeat' split
  all_goals omega

set_option maxRecDepth 100000 in
set_option maxHeartbeats 40000000 in
theorem walk_WholeBack (b0 : Bool) (v0 : Value) (l0 : List Nat) (b1 : Bool) (v1 : Value) (l1 : List Nat) (b2 : Bool) (v2 : Value) (l2 : List Nat) (w : World) (h0 : Rd w v0 l0) (h1 : Rd w v1 l1) (h2 : Rd w v2 l2) :
    Calls Try.prog 11 #[aggI b0 v0, aggI b1 v1, aggI b2 v2] w (Holds w) := by
  obtain ⟨a0, n0, c0, rfl, H0, hm0⟩ := h0.open
  obtain ⟨a1, n1, c1, rfl, H1, hm1⟩ := h1.open
  obtain ⟨a2, n2, c2, rfl, H2, hm2⟩ := h2.open
  have hl0 := H0.out
  have hl1 := H1.out
  have hl2 := H2.out
  by_cases hf : l0.length ≤ 12 ∧ l1.length ≤ 12
  rotate_left
  · clear hl0 hl1 hl2
    go_enter Try.func11, Try.ntmps11
    go_wp2_with fail
    obtain ⟨W0, hW0⟩ : ∃ W0, ((w.alloc (.cells #[.bool b0, .slice a0 n0 c0] 41)).alloc (.cells #[.bool b1, .slice a1 n1 c1] 41)).alloc (.cells #[.bool b2, .slice a2 n2 c2] 41) = W0 := ⟨_, rfl⟩
    have x0_0 : W0.cell? ⟨w.heap.size, 0, none⟩ = some (.bool b0) := by rw [← hW0]; simp [go_sem]
    have y0_0 : W0.frozen? ⟨w.heap.size, 0, none⟩ = false := by rw [← hW0]; simp [go_sem]
    have x0_1 : W0.cell? ⟨w.heap.size, 1, none⟩ = some (.slice a0 n0 c0) := by rw [← hW0]; simp [go_sem]
    have y0_1 : W0.frozen? ⟨w.heap.size, 1, none⟩ = false := by rw [← hW0]; simp [go_sem]
    have x1_0 : W0.cell? ⟨w.heap.size + 1, 0, none⟩ = some (.bool b1) := by rw [← hW0]; simp [go_sem]
    have y1_0 : W0.frozen? ⟨w.heap.size + 1, 0, none⟩ = false := by rw [← hW0]; simp [go_sem]
    have x1_1 : W0.cell? ⟨w.heap.size + 1, 1, none⟩ = some (.slice a1 n1 c1) := by rw [← hW0]; simp [go_sem]
    have y1_1 : W0.frozen? ⟨w.heap.size + 1, 1, none⟩ = false := by rw [← hW0]; simp [go_sem]
    have x2_0 : W0.cell? ⟨w.heap.size + 1 + 1, 0, none⟩ = some (.bool b2) := by rw [← hW0]; simp [go_sem]
    have y2_0 : W0.frozen? ⟨w.heap.size + 1 + 1, 0, none⟩ = false := by rw [← hW0]; simp [go_sem]
    have x2_1 : W0.cell? ⟨w.heap.size + 1 + 1, 1, none⟩ = some (.slice a2 n2 c2) := by rw [← hW0]; simp [go_sem]
    have y2_1 : W0.frozen? ⟨w.heap.size + 1 + 1, 1, none⟩ = false := by rw [← hW0]; simp [go_sem]
    have zs : w.heap.size + 1 + 1 < W0.heap.size := by rw [← hW0]; simp
    have zq0 : w.heap.size < W0.heap.size := by omega
    have zq1 : w.heap.size + 1 < W0.heap.size := by omega
    have zb : Below w.heap.size w W0 := by rw [← hW0]; exact below_step (below_step (below_new _ _) (below_new _ _)) (below_new _ _)
    rw [hW0]
    clear hW0
    have g0 := h0.to zb
    have g1 := h1.to zb
    have g2 := h2.to zb
    refine (awake7 _).mono ?_
    rintro e w1 ⟨rfl, hb1⟩
    have hw_w1 : w.heap.size ≤ W0.heap.size := (by omega)
    replace x0_0 := (hb1.cell (p := ⟨w.heap.size, 0, none⟩) (by show w.heap.size < W0.heap.size; omega)).trans x0_0
    replace y0_0 := (hb1.frozen (p := ⟨w.heap.size, 0, none⟩) (by show w.heap.size < W0.heap.size; omega)).trans y0_0
    replace x0_1 := (hb1.cell (p := ⟨w.heap.size, 1, none⟩) (by show w.heap.size < W0.heap.size; omega)).trans x0_1
    replace y0_1 := (hb1.frozen (p := ⟨w.heap.size, 1, none⟩) (by show w.heap.size < W0.heap.size; omega)).trans y0_1
    replace x1_0 := (hb1.cell (p := ⟨w.heap.size + 1, 0, none⟩) (by show w.heap.size + 1 < W0.heap.size; omega)).trans x1_0
    replace y1_0 := (hb1.frozen (p := ⟨w.heap.size + 1, 0, none⟩) (by show w.heap.size + 1 < W0.heap.size; omega)).trans y1_0
    replace x1_1 := (hb1.cell (p := ⟨w.heap.size + 1, 1, none⟩) (by show w.heap.size + 1 < W0.heap.size; omega)).trans x1_1
    replace y1_1 := (hb1.frozen (p := ⟨w.heap.size + 1, 1, none⟩) (by show w.heap.size + 1 < W0.heap.size; omega)).trans y1_1
    replace x2_0 := (hb1.cell (p := ⟨w.heap.size + 1 + 1, 0, none⟩) (by show w.heap.size + 1 + 1 < W0.heap.size; omega)).trans x2_0
    replace y2_0 := (hb1.frozen (p := ⟨w.heap.size + 1 + 1, 0, none⟩) (by show w.heap.size + 1 + 1 < W0.heap.size; omega)).trans y2_0
    replace x2_1 := (hb1.cell (p := ⟨w.heap.size + 1 + 1, 1, none⟩) (by show w.heap.size + 1 + 1 < W0.heap.size; omega)).trans x2_1
    replace y2_1 := (hb1.frozen (p := ⟨w.heap.size + 1 + 1, 1, none⟩) (by show w.heap.size + 1 + 1 < W0.heap.size; omega)).trans y2_1
    replace zs := Nat.lt_of_lt_of_le zs hb1.size
    replace zq0 := Nat.lt_of_lt_of_le zq0 hb1.size
    replace zq1 := Nat.lt_of_lt_of_le zq1 hb1.size
    replace g0 := g0.to hb1
    replace g1 := g1.to hb1
    replace g2 := g2.to hb1
    replace zb := below_step zb hb1
    go_wp2_with fail
    refine (few_no _ _ l0 l1 12 _ g0 g1 (by omega)).mono ?_
    rintro e w2 ⟨rfl, rfl⟩
    go_wp2_with fail
    go_ret
    exact ⟨rfl, zb⟩
  by_cases hf2 : l2.length ≤ 12
  rotate_left
  · have t2 : 12 < n2 := by omega
    clear hl0 hl1 hl2
    go_enter Try.func11, Try.ntmps11
    go_wp2_with fail
    obtain ⟨W0, hW0⟩ : ∃ W0, ((w.alloc (.cells #[.bool b0, .slice a0 n0 c0] 41)).alloc (.cells #[.bool b1, .slice a1 n1 c1] 41)).alloc (.cells #[.bool b2, .slice a2 n2 c2] 41) = W0 := ⟨_, rfl⟩
    have x0_0 : W0.cell? ⟨w.heap.size, 0, none⟩ = some (.bool b0) := by rw [← hW0]; simp [go_sem]
    have y0_0 : W0.frozen? ⟨w.heap.size, 0, none⟩ = false := by rw [← hW0]; simp [go_sem]
    have x0_1 : W0.cell? ⟨w.heap.size, 1, none⟩ = some (.slice a0 n0 c0) := by rw [← hW0]; simp [go_sem]
    have y0_1 : W0.frozen? ⟨w.heap.size, 1, none⟩ = false := by rw [← hW0]; simp [go_sem]
    have x1_0 : W0.cell? ⟨w.heap.size + 1, 0, none⟩ = some (.bool b1) := by rw [← hW0]; simp [go_sem]
    have y1_0 : W0.frozen? ⟨w.heap.size + 1, 0, none⟩ = false := by rw [← hW0]; simp [go_sem]
    have x1_1 : W0.cell? ⟨w.heap.size + 1, 1, none⟩ = some (.slice a1 n1 c1) := by rw [← hW0]; simp [go_sem]
    have y1_1 : W0.frozen? ⟨w.heap.size + 1, 1, none⟩ = false := by rw [← hW0]; simp [go_sem]
    have x2_0 : W0.cell? ⟨w.heap.size + 1 + 1, 0, none⟩ = some (.bool b2) := by rw [← hW0]; simp [go_sem]
    have y2_0 : W0.frozen? ⟨w.heap.size + 1 + 1, 0, none⟩ = false := by rw [← hW0]; simp [go_sem]
    have x2_1 : W0.cell? ⟨w.heap.size + 1 + 1, 1, none⟩ = some (.slice a2 n2 c2) := by rw [← hW0]; simp [go_sem]
    have y2_1 : W0.frozen? ⟨w.heap.size + 1 + 1, 1, none⟩ = false := by rw [← hW0]; simp [go_sem]
    have zs : w.heap.size + 1 + 1 < W0.heap.size := by rw [← hW0]; simp
    have zq0 : w.heap.size < W0.heap.size := by omega
    have zq1 : w.heap.size + 1 < W0.heap.size := by omega
    have zb : Below w.heap.size w W0 := by rw [← hW0]; exact below_step (below_step (below_new _ _) (below_new _ _)) (below_new _ _)
    rw [hW0]
    clear hW0
    have g0 := h0.to zb
    have g1 := h1.to zb
    have g2 := h2.to zb
    refine (awake7 _).mono ?_
    rintro e w1 ⟨rfl, hb1⟩
    have hw_w1 : w.heap.size ≤ W0.heap.size := (by omega)
    replace x0_0 := (hb1.cell (p := ⟨w.heap.size, 0, none⟩) (by show w.heap.size < W0.heap.size; omega)).trans x0_0
    replace y0_0 := (hb1.frozen (p := ⟨w.heap.size, 0, none⟩) (by show w.heap.size < W0.heap.size; omega)).trans y0_0
    replace x0_1 := (hb1.cell (p := ⟨w.heap.size, 1, none⟩) (by show w.heap.size < W0.heap.size; omega)).trans x0_1
    replace y0_1 := (hb1.frozen (p := ⟨w.heap.size, 1, none⟩) (by show w.heap.size < W0.heap.size; omega)).trans y0_1
    replace x1_0 := (hb1.cell (p := ⟨w.heap.size + 1, 0, none⟩) (by show w.heap.size + 1 < W0.heap.size; omega)).trans x1_0
    replace y1_0 := (hb1.frozen (p := ⟨w.heap.size + 1, 0, none⟩) (by show w.heap.size + 1 < W0.heap.size; omega)).trans y1_0
    replace x1_1 := (hb1.cell (p := ⟨w.heap.size + 1, 1, none⟩) (by show w.heap.size + 1 < W0.heap.size; omega)).trans x1_1
    replace y1_1 := (hb1.frozen (p := ⟨w.heap.size + 1, 1, none⟩) (by show w.heap.size + 1 < W0.heap.size; omega)).trans y1_1
    replace x2_0 := (hb1.cell (p := ⟨w.heap.size + 1 + 1, 0, none⟩) (by show w.heap.size + 1 + 1 < W0.heap.size; omega)).trans x2_0
    replace y2_0 := (hb1.frozen (p := ⟨w.heap.size + 1 + 1, 0, none⟩) (by show w.heap.size + 1 + 1 < W0.heap.size; omega)).trans y2_0
    replace x2_1 := (hb1.cell (p := ⟨w.heap.size + 1 + 1, 1, none⟩) (by show w.heap.size + 1 + 1 < W0.heap.size; omega)).trans x2_1
    replace y2_1 := (hb1.frozen (p := ⟨w.heap.size + 1 + 1, 1, none⟩) (by show w.heap.size + 1 + 1 < W0.heap.size; omega)).trans y2_1
    replace zs := Nat.lt_of_lt_of_le zs hb1.size
    replace zq0 := Nat.lt_of_lt_of_le zq0 hb1.size
    replace zq1 := Nat.lt_of_lt_of_le zq1 hb1.size
    replace g0 := g0.to hb1
    replace g1 := g1.to hb1
    replace g2 := g2.to hb1
    replace zb := below_step zb hb1
    go_wp2_with fail
    refine (few_yes _ _ l0 l1 12 _ g0 g1 (by omega) (by omega)).mono ?_
    rintro e w2 ⟨rfl, rfl⟩
    go_wp2_with fail
    go_ret
    exact ⟨rfl, zb⟩
  obtain ⟨A, hhA⟩ : ∃ z, sgn b0 (val l0) = z := ⟨_, rfl⟩
  have i0 : IsI w b0 (.slice a0 n0 c0) l0 A := ⟨h0, hhA, by omega⟩
  have HBA : Hid (szi A ≤ 12) := Nat.le_trans i0.small (by omega)
  clear hhA
  obtain ⟨B, hhB⟩ : ∃ z, sgn b1 (val l1) = z := ⟨_, rfl⟩
  have i1 : IsI w b1 (.slice a1 n1 c1) l1 B := ⟨h1, hhB, by omega⟩
  have HBB : Hid (szi B ≤ 12) := Nat.le_trans i1.small (by omega)
  clear hhB
  obtain ⟨C, hhC⟩ : ∃ z, sgn b2 (val l2) = z := ⟨_, rfl⟩
  have i2 : IsI w b2 (.slice a2 n2 c2) l2 C := ⟨h2, hhC, by omega⟩
  have HBC : Hid (szi C ≤ 12) := Nat.le_trans i2.small (by omega)
  clear hhC
  have HB9 : Hid (szi ((A + B)) ≤ 13) := by
    have h1 : szi (A) ≤ 12 := HBA.out
    have h2 : szi (B) ≤ 12 := HBB.out
    have := szi_add (A) (B)
    show _ ≤ _
    omega
  have HC9 : Hid (szi ((A + B)) ≤ 90000) := Nat.le_trans HB9.out (by omega)
  have HB10 : Hid (szi ((A + C)) ≤ 13) := by
    have h1 : szi (A) ≤ 12 := HBA.out
    have h2 : szi (C) ≤ 12 := HBC.out
    have := szi_add (A) (C)
    show _ ≤ _
    omega
  have HC10 : Hid (szi ((A + C)) ≤ 90000) := Nat.le_trans HB10.out (by omega)
  have HB11 : Hid (szi ((B + C)) ≤ 13) := by
    have h1 : szi (B) ≤ 12 := HBB.out
    have h2 : szi (C) ≤ 12 := HBC.out
    have := szi_add (B) (C)
    show _ ≤ _
    omega
  have HC11 : Hid (szi ((B + C)) ≤ 90000) := Nat.le_trans HB11.out (by omega)
  have HCA : Hid (szi A ≤ 90000) := Nat.le_trans HBA.out (by omega)
  have HZ : Hid (szi 0 ≤ 90000) := by show _ ≤ _; decide +kernel
  have hf1 := hf.1
  have hf2' := hf.2
  have t2 : n2 ≤ 12 := by omega
  clear hf hl0 hl1 hl2
  go_enter Try.func11, Try.ntmps11
  go_wp2_with fail
  obtain ⟨W0, hW0⟩ : ∃ W0, ((w.alloc (.cells #[.bool b0, .slice a0 n0 c0] 41)).alloc (.cells #[.bool b1, .slice a1 n1 c1] 41)).alloc (.cells #[.bool b2, .slice a2 n2 c2] 41) = W0 := ⟨_, rfl⟩
  have x0_0 : W0.cell? ⟨w.heap.size, 0, none⟩ = some (.bool b0) := by rw [← hW0]; simp [go_sem]
  have y0_0 : W0.frozen? ⟨w.heap.size, 0, none⟩ = false := by rw [← hW0]; simp [go_sem]
  have x0_1 : W0.cell? ⟨w.heap.size, 1, none⟩ = some (.slice a0 n0 c0) := by rw [← hW0]; simp [go_sem]
  have y0_1 : W0.frozen? ⟨w.heap.size, 1, none⟩ = false := by rw [← hW0]; simp [go_sem]
  have x1_0 : W0.cell? ⟨w.heap.size + 1, 0, none⟩ = some (.bool b1) := by rw [← hW0]; simp [go_sem]
  have y1_0 : W0.frozen? ⟨w.heap.size + 1, 0, none⟩ = false := by rw [← hW0]; simp [go_sem]
  have x1_1 : W0.cell? ⟨w.heap.size + 1, 1, none⟩ = some (.slice a1 n1 c1) := by rw [← hW0]; simp [go_sem]
  have y1_1 : W0.frozen? ⟨w.heap.size + 1, 1, none⟩ = false := by rw [← hW0]; simp [go_sem]
  have x2_0 : W0.cell? ⟨w.heap.size + 1 + 1, 0, none⟩ = some (.bool b2) := by rw [← hW0]; simp [go_sem]
  have y2_0 : W0.frozen? ⟨w.heap.size + 1 + 1, 0, none⟩ = false := by rw [← hW0]; simp [go_sem]
  have x2_1 : W0.cell? ⟨w.heap.size + 1 + 1, 1, none⟩ = some (.slice a2 n2 c2) := by rw [← hW0]; simp [go_sem]
  have y2_1 : W0.frozen? ⟨w.heap.size + 1 + 1, 1, none⟩ = false := by rw [← hW0]; simp [go_sem]
  have zs : w.heap.size + 1 + 1 < W0.heap.size := by rw [← hW0]; simp
  have zq0 : w.heap.size < W0.heap.size := by omega
  have zq1 : w.heap.size + 1 < W0.heap.size := by omega
  have zb : Below w.heap.size w W0 := by rw [← hW0]; exact below_step (below_step (below_new _ _) (below_new _ _)) (below_new _ _)
  rw [hW0]
  clear hW0
  have g0 := i0.to zb
  have g1 := i1.to zb
  have g2 := i2.to zb
  refine (awake7 _).mono ?_
  rintro e w1 ⟨rfl, hb1⟩
  have hw_w1 : w.heap.size ≤ W0.heap.size := (by omega)
  replace x0_0 := (hb1.cell (p := ⟨w.heap.size, 0, none⟩) (by show w.heap.size < W0.heap.size; omega)).trans x0_0
  replace y0_0 := (hb1.frozen (p := ⟨w.heap.size, 0, none⟩) (by show w.heap.size < W0.heap.size; omega)).trans y0_0
  replace x0_1 := (hb1.cell (p := ⟨w.heap.size, 1, none⟩) (by show w.heap.size < W0.heap.size; omega)).trans x0_1
  replace y0_1 := (hb1.frozen (p := ⟨w.heap.size, 1, none⟩) (by show w.heap.size < W0.heap.size; omega)).trans y0_1
  replace x1_0 := (hb1.cell (p := ⟨w.heap.size + 1, 0, none⟩) (by show w.heap.size + 1 < W0.heap.size; omega)).trans x1_0
  replace y1_0 := (hb1.frozen (p := ⟨w.heap.size + 1, 0, none⟩) (by show w.heap.size + 1 < W0.heap.size; omega)).trans y1_0
  replace x1_1 := (hb1.cell (p := ⟨w.heap.size + 1, 1, none⟩) (by show w.heap.size + 1 < W0.heap.size; omega)).trans x1_1
  replace y1_1 := (hb1.frozen (p := ⟨w.heap.size + 1, 1, none⟩) (by show w.heap.size + 1 < W0.heap.size; omega)).trans y1_1
  replace x2_0 := (hb1.cell (p := ⟨w.heap.size + 1 + 1, 0, none⟩) (by show w.heap.size + 1 + 1 < W0.heap.size; omega)).trans x2_0
  replace y2_0 := (hb1.frozen (p := ⟨w.heap.size + 1 + 1, 0, none⟩) (by show w.heap.size + 1 + 1 < W0.heap.size; omega)).trans y2_0
  replace x2_1 := (hb1.cell (p := ⟨w.heap.size + 1 + 1, 1, none⟩) (by show w.heap.size + 1 + 1 < W0.heap.size; omega)).trans x2_1
  replace y2_1 := (hb1.frozen (p := ⟨w.heap.size + 1 + 1, 1, none⟩) (by show w.heap.size + 1 + 1 < W0.heap.size; omega)).trans y2_1
  replace zs := Nat.lt_of_lt_of_le zs hb1.size
  replace zq0 := Nat.lt_of_lt_of_le zq0 hb1.size
  replace zq1 := Nat.lt_of_lt_of_le zq1 hb1.size
  replace g0 := g0.to hb1
  replace g1 := g1.to hb1
  replace g2 := g2.to hb1
  replace zb := below_step zb hb1
  go_wp2_with fail
  refine (few_yes _ _ l0 l1 12 _ g0.1 g1.1 (by omega) (by omega)).mono ?_
  rintro e w2 ⟨rfl, rfl⟩
  go_upto_region 5 with fail
  go_cut [9] from 12 (fun s9 wx => BoxI w1 (A) s9 wx)
  case first =>
    have gb := Below.refl w1.heap.size w1
    go_region_held3 (fun W' => W'.cell? ⟨w.heap.size, 0, none⟩ = some (.bool b0) ∧ W'.cell? ⟨w.heap.size, 1, none⟩ = some (.slice a0 n0 c0) ∧ W'.cell? ⟨w.heap.size + 1, 0, none⟩ = some (.bool b1) ∧ W'.cell? ⟨w.heap.size + 1, 1, none⟩ = some (.slice a1 n1 c1) ∧ W'.cell? ⟨w.heap.size + 1 + 1, 0, none⟩ = some (.bool b2) ∧ W'.cell? ⟨w.heap.size + 1 + 1, 1, none⟩ = some (.slice a2 n2 c2)) (first | exact ⟨x0_0, x0_1, x1_0, x1_1, x2_0, x2_1⟩ | exact ⟨cell_alloc x0_0 _, cell_alloc x0_1 _, cell_alloc x1_0 _, cell_alloc x1_1 _, cell_alloc x2_0 _, cell_alloc x2_1 _⟩ | exact ⟨cell_set (cell_set (x0_0) (by omega) _) (by omega) _, cell_set (cell_set (x0_1) (by omega) _) (by omega) _, cell_set (cell_set (x1_0) (by omega) _) (by omega) _, cell_set (cell_set (x1_1) (by omega) _) (by omega) _, cell_set (cell_set (x2_0) (by omega) _) (by omega) _, cell_set (cell_set (x2_1) (by omega) _) (by omega) _⟩) (first
      | (go_at_call 38; obtain ⟨V61, hV61⟩ : ∃ V, (w3.alloc (.cells #[.bool false, .slice none 0 0] 41)) = V := ⟨_, rfl⟩; rw [hV61]; have hg61 := gb.size; have hbV61 : Below w3.heap.size w3 V61 := (by rw [← hV61]; exact (below_new _ _)); have zs_V61 : w3.heap.size < V61.heap.size := (by rw [← hV61]; simp); have hw_V61 : w.heap.size ≤ w3.heap.size := (by omega); have x0_0 := (hbV61.cell (p := ⟨w.heap.size, 0, none⟩) (by show w.heap.size < w3.heap.size; omega)).trans x0_0; have y0_0 := (hbV61.frozen (p := ⟨w.heap.size, 0, none⟩) (by show w.heap.size < w3.heap.size; omega)).trans y0_0; have x0_1 := (hbV61.cell (p := ⟨w.heap.size, 1, none⟩) (by show w.heap.size < w3.heap.size; omega)).trans x0_1; have y0_1 := (hbV61.frozen (p := ⟨w.heap.size, 1, none⟩) (by show w.heap.size < w3.heap.size; omega)).trans y0_1; have x1_0 := (hbV61.cell (p := ⟨w.heap.size + 1, 0, none⟩) (by show w.heap.size + 1 < w3.heap.size; omega)).trans x1_0; have y1_0 := (hbV61.frozen (p := ⟨w.heap.size + 1, 0, none⟩) (by show w.heap.size + 1 < w3.heap.size; omega)).trans y1_0; have x1_1 := (hbV61.cell (p := ⟨w.heap.size + 1, 1, none⟩) (by show w.heap.size + 1 < w3.heap.size; omega)).trans x1_1; have y1_1 := (hbV61.frozen (p := ⟨w.heap.size + 1, 1, none⟩) (by show w.heap.size + 1 < w3.heap.size; omega)).trans y1_1; have x2_0 := (hbV61.cell (p := ⟨w.heap.size + 1 + 1, 0, none⟩) (by show w.heap.size + 1 + 1 < w3.heap.size; omega)).trans x2_0; have y2_0 := (hbV61.frozen (p := ⟨w.heap.size + 1 + 1, 0, none⟩) (by show w.heap.size + 1 + 1 < w3.heap.size; omega)).trans y2_0; have x2_1 := (hbV61.cell (p := ⟨w.heap.size + 1 + 1, 1, none⟩) (by show w.heap.size + 1 + 1 < w3.heap.size; omega)).trans x2_1; have y2_1 := (hbV61.frozen (p := ⟨w.heap.size + 1 + 1, 1, none⟩) (by show w.heap.size + 1 + 1 < w3.heap.size; omega)).trans y2_1; have zs := Nat.lt_of_lt_of_le zs hbV61.size; have zq0 := Nat.lt_of_lt_of_le zq0 hbV61.size; have zq1 := Nat.lt_of_lt_of_le zq1 hbV61.size; have g0 := g0.to hbV61; have g1 := g1.to hbV61; have g2 := g2.to hbV61; have g3 := g3.to hbV61; have zb := below_step zb hbV61; have x61_0 : V61.cell? ⟨w3.heap.size, 0, none⟩ = some (.bool false) := (by rw [← hV61]; simp [go_sem]); have y61_0 : V61.frozen? ⟨w3.heap.size, 0, none⟩ = false := (by rw [← hV61]; simp [go_sem]); have x61_1 : V61.cell? ⟨w3.heap.size, 1, none⟩ = some (.slice none 0 0) := (by rw [← hV61]; simp [go_sem]); have y61_1 : V61.frozen? ⟨w3.heap.size, 1, none⟩ = false := (by rw [← hV61]; simp [go_sem]); have gb := below_step gb hbV61; have hl61 := zs_V61; (with_reducible refine (sub_o _ g3 g1 A (Int.add_sub_cancel A B) HCA).mono ?_); rintro e w4 ⟨ng4, a4_, n4_, c4_, rfl, Hng4, og4, g4, hb4⟩; have hw_w4 : w.heap.size ≤ V61.heap.size := (by omega); have x0_0 := (hb4.cell (p := ⟨w.heap.size, 0, none⟩) (by show w.heap.size < V61.heap.size; omega)).trans x0_0; have y0_0 := (hb4.frozen (p := ⟨w.heap.size, 0, none⟩) (by show w.heap.size < V61.heap.size; omega)).trans y0_0; have x0_1 := (hb4.cell (p := ⟨w.heap.size, 1, none⟩) (by show w.heap.size < V61.heap.size; omega)).trans x0_1; have y0_1 := (hb4.frozen (p := ⟨w.heap.size, 1, none⟩) (by show w.heap.size < V61.heap.size; omega)).trans y0_1; have x1_0 := (hb4.cell (p := ⟨w.heap.size + 1, 0, none⟩) (by show w.heap.size + 1 < V61.heap.size; omega)).trans x1_0; have y1_0 := (hb4.frozen (p := ⟨w.heap.size + 1, 0, none⟩) (by show w.heap.size + 1 < V61.heap.size; omega)).trans y1_0; have x1_1 := (hb4.cell (p := ⟨w.heap.size + 1, 1, none⟩) (by show w.heap.size + 1 < V61.heap.size; omega)).trans x1_1; have y1_1 := (hb4.frozen (p := ⟨w.heap.size + 1, 1, none⟩) (by show w.heap.size + 1 < V61.heap.size; omega)).trans y1_1; have x2_0 := (hb4.cell (p := ⟨w.heap.size + 1 + 1, 0, none⟩) (by show w.heap.size + 1 + 1 < V61.heap.size; omega)).trans x2_0; have y2_0 := (hb4.frozen (p := ⟨w.heap.size + 1 + 1, 0, none⟩) (by show w.heap.size + 1 + 1 < V61.heap.size; omega)).trans y2_0; have x2_1 := (hb4.cell (p := ⟨w.heap.size + 1 + 1, 1, none⟩) (by show w.heap.size + 1 + 1 < V61.heap.size; omega)).trans x2_1; have y2_1 := (hb4.frozen (p := ⟨w.heap.size + 1 + 1, 1, none⟩) (by show w.heap.size + 1 + 1 < V61.heap.size; omega)).trans y2_1; have x61_0 := (hb4.cell (p := ⟨w3.heap.size, 0, none⟩) (by show w3.heap.size < V61.heap.size; omega)).trans x61_0; have y61_0 := (hb4.frozen (p := ⟨w3.heap.size, 0, none⟩) (by show w3.heap.size < V61.heap.size; omega)).trans y61_0; have x61_1 := (hb4.cell (p := ⟨w3.heap.size, 1, none⟩) (by show w3.heap.size < V61.heap.size; omega)).trans x61_1; have y61_1 := (hb4.frozen (p := ⟨w3.heap.size, 1, none⟩) (by show w3.heap.size < V61.heap.size; omega)).trans y61_1; have zs := Nat.lt_of_lt_of_le zs hb4.size; have zq0 := Nat.lt_of_lt_of_le zq0 hb4.size; have zq1 := Nat.lt_of_lt_of_le zq1 hb4.size; have zs_V61 := Nat.lt_of_lt_of_le zs_V61 hb4.size; have g0 := g0.to hb4; have g1 := g1.to hb4; have g2 := g2.to hb4; have g3 := g3.to hb4; have zb := below_step zb hb4; have gb := below_step gb hb4)
      | (go_at_call 38; have _q := zs_V60; have hl60 := zs_V60; (with_reducible refine (sub_o _ g3 g1 A (Int.add_sub_cancel A B) HCA).mono ?_); rintro e w4 ⟨ng4, a4_, n4_, c4_, rfl, Hng4, og4, g4, hb4⟩; have hw_w4 : w.heap.size ≤ w3.heap.size := (by omega); have x0_0 := (hb4.cell (p := ⟨w.heap.size, 0, none⟩) (by show w.heap.size < w3.heap.size; omega)).trans x0_0; have y0_0 := (hb4.frozen (p := ⟨w.heap.size, 0, none⟩) (by show w.heap.size < w3.heap.size; omega)).trans y0_0; have x0_1 := (hb4.cell (p := ⟨w.heap.size, 1, none⟩) (by show w.heap.size < w3.heap.size; omega)).trans x0_1; have y0_1 := (hb4.frozen (p := ⟨w.heap.size, 1, none⟩) (by show w.heap.size < w3.heap.size; omega)).trans y0_1; have x1_0 := (hb4.cell (p := ⟨w.heap.size + 1, 0, none⟩) (by show w.heap.size + 1 < w3.heap.size; omega)).trans x1_0; have y1_0 := (hb4.frozen (p := ⟨w.heap.size + 1, 0, none⟩) (by show w.heap.size + 1 < w3.heap.size; omega)).trans y1_0; have x1_1 := (hb4.cell (p := ⟨w.heap.size + 1, 1, none⟩) (by show w.heap.size + 1 < w3.heap.size; omega)).trans x1_1; have y1_1 := (hb4.frozen (p := ⟨w.heap.size + 1, 1, none⟩) (by show w.heap.size + 1 < w3.heap.size; omega)).trans y1_1; have x2_0 := (hb4.cell (p := ⟨w.heap.size + 1 + 1, 0, none⟩) (by show w.heap.size + 1 + 1 < w3.heap.size; omega)).trans x2_0; have y2_0 := (hb4.frozen (p := ⟨w.heap.size + 1 + 1, 0, none⟩) (by show w.heap.size + 1 + 1 < w3.heap.size; omega)).trans y2_0; have x2_1 := (hb4.cell (p := ⟨w.heap.size + 1 + 1, 1, none⟩) (by show w.heap.size + 1 + 1 < w3.heap.size; omega)).trans x2_1; have y2_1 := (hb4.frozen (p := ⟨w.heap.size + 1 + 1, 1, none⟩) (by show w.heap.size + 1 + 1 < w3.heap.size; omega)).trans y2_1; have x60_0 := (hb4.cell (p := ⟨w1.heap.size, 0, none⟩) (by show w1.heap.size < w3.heap.size; omega)).trans x60_0; have y60_0 := (hb4.frozen (p := ⟨w1.heap.size, 0, none⟩) (by show w1.heap.size < w3.heap.size; omega)).trans y60_0; have x60_1 := (hb4.cell (p := ⟨w1.heap.size, 1, none⟩) (by show w1.heap.size < w3.heap.size; omega)).trans x60_1; have y60_1 := (hb4.frozen (p := ⟨w1.heap.size, 1, none⟩) (by show w1.heap.size < w3.heap.size; omega)).trans y60_1; have zs := Nat.lt_of_lt_of_le zs hb4.size; have zq0 := Nat.lt_of_lt_of_le zq0 hb4.size; have zq1 := Nat.lt_of_lt_of_le zq1 hb4.size; have zs_V60 := Nat.lt_of_lt_of_le zs_V60 hb4.size; have g0 := g0.to hb4; have g1 := g1.to hb4; have g2 := g2.to hb4; have g3 := g3.to hb4; have zb := below_step zb hb4; have gb := below_step gb hb4)
      | (go_at_call 35; obtain ⟨V60, hV60⟩ : ∃ V, (w1.alloc (.cells #[.bool false, .slice none 0 0] 41)).drew = V := ⟨_, rfl⟩; rw [hV60]; have hg60 := Nat.le_refl w1.heap.size; have hbV60 : Below w1.heap.size w1 V60 := (by rw [← hV60]; exact (below_new _ _).drew); have zs_V60 : w1.heap.size < V60.heap.size := (by rw [← hV60]; simp); have hw_V60 : w.heap.size ≤ w1.heap.size := (by omega); have x0_0 := (hbV60.cell (p := ⟨w.heap.size, 0, none⟩) (by show w.heap.size < w1.heap.size; omega)).trans x0_0; have y0_0 := (hbV60.frozen (p := ⟨w.heap.size, 0, none⟩) (by show w.heap.size < w1.heap.size; omega)).trans y0_0; have x0_1 := (hbV60.cell (p := ⟨w.heap.size, 1, none⟩) (by show w.heap.size < w1.heap.size; omega)).trans x0_1; have y0_1 := (hbV60.frozen (p := ⟨w.heap.size, 1, none⟩) (by show w.heap.size < w1.heap.size; omega)).trans y0_1; have x1_0 := (hbV60.cell (p := ⟨w.heap.size + 1, 0, none⟩) (by show w.heap.size + 1 < w1.heap.size; omega)).trans x1_0; have y1_0 := (hbV60.frozen (p := ⟨w.heap.size + 1, 0, none⟩) (by show w.heap.size + 1 < w1.heap.size; omega)).trans y1_0; have x1_1 := (hbV60.cell (p := ⟨w.heap.size + 1, 1, none⟩) (by show w.heap.size + 1 < w1.heap.size; omega)).trans x1_1; have y1_1 := (hbV60.frozen (p := ⟨w.heap.size + 1, 1, none⟩) (by show w.heap.size + 1 < w1.heap.size; omega)).trans y1_1; have x2_0 := (hbV60.cell (p := ⟨w.heap.size + 1 + 1, 0, none⟩) (by show w.heap.size + 1 + 1 < w1.heap.size; omega)).trans x2_0; have y2_0 := (hbV60.frozen (p := ⟨w.heap.size + 1 + 1, 0, none⟩) (by show w.heap.size + 1 + 1 < w1.heap.size; omega)).trans y2_0; have x2_1 := (hbV60.cell (p := ⟨w.heap.size + 1 + 1, 1, none⟩) (by show w.heap.size + 1 + 1 < w1.heap.size; omega)).trans x2_1; have y2_1 := (hbV60.frozen (p := ⟨w.heap.size + 1 + 1, 1, none⟩) (by show w.heap.size + 1 + 1 < w1.heap.size; omega)).trans y2_1; have zs := Nat.lt_of_lt_of_le zs hbV60.size; have zq0 := Nat.lt_of_lt_of_le zq0 hbV60.size; have zq1 := Nat.lt_of_lt_of_le zq1 hbV60.size; have g0 := g0.to hbV60; have g1 := g1.to hbV60; have g2 := g2.to hbV60; have zb := below_step zb hbV60; have x60_0 : V60.cell? ⟨w1.heap.size, 0, none⟩ = some (.bool false) := (by rw [← hV60]; simp [go_sem]); have y60_0 : V60.frozen? ⟨w1.heap.size, 0, none⟩ = false := (by rw [← hV60]; simp [go_sem]); have x60_1 : V60.cell? ⟨w1.heap.size, 1, none⟩ = some (.slice none 0 0) := (by rw [← hV60]; simp [go_sem]); have y60_1 : V60.frozen? ⟨w1.heap.size, 1, none⟩ = false := (by rw [← hV60]; simp [go_sem]); have gb := below_step gb hbV60; (with_reducible refine (add_z _ g0 g1 (A + B) rfl HC9).mono ?_); rintro e w3 ⟨ng3, a3_, n3_, c3_, rfl, Hng3, g3, hb3⟩; have hw_w3 : w.heap.size ≤ V60.heap.size := (by omega); have x0_0 := (hb3.cell (p := ⟨w.heap.size, 0, none⟩) (by show w.heap.size < V60.heap.size; omega)).trans x0_0; have y0_0 := (hb3.frozen (p := ⟨w.heap.size, 0, none⟩) (by show w.heap.size < V60.heap.size; omega)).trans y0_0; have x0_1 := (hb3.cell (p := ⟨w.heap.size, 1, none⟩) (by show w.heap.size < V60.heap.size; omega)).trans x0_1; have y0_1 := (hb3.frozen (p := ⟨w.heap.size, 1, none⟩) (by show w.heap.size < V60.heap.size; omega)).trans y0_1; have x1_0 := (hb3.cell (p := ⟨w.heap.size + 1, 0, none⟩) (by show w.heap.size + 1 < V60.heap.size; omega)).trans x1_0; have y1_0 := (hb3.frozen (p := ⟨w.heap.size + 1, 0, none⟩) (by show w.heap.size + 1 < V60.heap.size; omega)).trans y1_0; have x1_1 := (hb3.cell (p := ⟨w.heap.size + 1, 1, none⟩) (by show w.heap.size + 1 < V60.heap.size; omega)).trans x1_1; have y1_1 := (hb3.frozen (p := ⟨w.heap.size + 1, 1, none⟩) (by show w.heap.size + 1 < V60.heap.size; omega)).trans y1_1; have x2_0 := (hb3.cell (p := ⟨w.heap.size + 1 + 1, 0, none⟩) (by show w.heap.size + 1 + 1 < V60.heap.size; omega)).trans x2_0; have y2_0 := (hb3.frozen (p := ⟨w.heap.size + 1 + 1, 0, none⟩) (by show w.heap.size + 1 + 1 < V60.heap.size; omega)).trans y2_0; have x2_1 := (hb3.cell (p := ⟨w.heap.size + 1 + 1, 1, none⟩) (by show w.heap.size + 1 + 1 < V60.heap.size; omega)).trans x2_1; have y2_1 := (hb3.frozen (p := ⟨w.heap.size + 1 + 1, 1, none⟩) (by show w.heap.size + 1 + 1 < V60.heap.size; omega)).trans y2_1; have x60_0 := (hb3.cell (p := ⟨w1.heap.size, 0, none⟩) (by show w1.heap.size < V60.heap.size; omega)).trans x60_0; have y60_0 := (hb3.frozen (p := ⟨w1.heap.size, 0, none⟩) (by show w1.heap.size < V60.heap.size; omega)).trans y60_0; have x60_1 := (hb3.cell (p := ⟨w1.heap.size, 1, none⟩) (by show w1.heap.size < V60.heap.size; omega)).trans x60_1; have y60_1 := (hb3.frozen (p := ⟨w1.heap.size, 1, none⟩) (by show w1.heap.size < V60.heap.size; omega)).trans y60_1; have zs := Nat.lt_of_lt_of_le zs hb3.size; have zq0 := Nat.lt_of_lt_of_le zq0 hb3.size; have zq1 := Nat.lt_of_lt_of_le zq1 hb3.size; have zs_V60 := Nat.lt_of_lt_of_le zs_V60 hb3.size; have g0 := g0.to hb3; have g1 := g1.to hb3; have g2 := g2.to hb3; have zb := below_step zb hb3; have gb := below_step gb hb3)
      | (go_at_call 38; (with_reducible refine (sub_o _ g3 g1 A (Int.add_sub_cancel A B) HCA).mono ?_); rintro e w4 ⟨ng4, a4_, n4_, c4_, rfl, Hng4, og4, g4, hb4⟩; have hw_w4 : w.heap.size ≤ w3.heap.size := (by omega); have x0_0 := (hb4.cell (p := ⟨w.heap.size, 0, none⟩) (by show w.heap.size < w3.heap.size; omega)).trans x0_0; have y0_0 := (hb4.frozen (p := ⟨w.heap.size, 0, none⟩) (by show w.heap.size < w3.heap.size; omega)).trans y0_0; have x0_1 := (hb4.cell (p := ⟨w.heap.size, 1, none⟩) (by show w.heap.size < w3.heap.size; omega)).trans x0_1; have y0_1 := (hb4.frozen (p := ⟨w.heap.size, 1, none⟩) (by show w.heap.size < w3.heap.size; omega)).trans y0_1; have x1_0 := (hb4.cell (p := ⟨w.heap.size + 1, 0, none⟩) (by show w.heap.size + 1 < w3.heap.size; omega)).trans x1_0; have y1_0 := (hb4.frozen (p := ⟨w.heap.size + 1, 0, none⟩) (by show w.heap.size + 1 < w3.heap.size; omega)).trans y1_0; have x1_1 := (hb4.cell (p := ⟨w.heap.size + 1, 1, none⟩) (by show w.heap.size + 1 < w3.heap.size; omega)).trans x1_1; have y1_1 := (hb4.frozen (p := ⟨w.heap.size + 1, 1, none⟩) (by show w.heap.size + 1 < w3.heap.size; omega)).trans y1_1; have x2_0 := (hb4.cell (p := ⟨w.heap.size + 1 + 1, 0, none⟩) (by show w.heap.size + 1 + 1 < w3.heap.size; omega)).trans x2_0; have y2_0 := (hb4.frozen (p := ⟨w.heap.size + 1 + 1, 0, none⟩) (by show w.heap.size + 1 + 1 < w3.heap.size; omega)).trans y2_0; have x2_1 := (hb4.cell (p := ⟨w.heap.size + 1 + 1, 1, none⟩) (by show w.heap.size + 1 + 1 < w3.heap.size; omega)).trans x2_1; have y2_1 := (hb4.frozen (p := ⟨w.heap.size + 1 + 1, 1, none⟩) (by show w.heap.size + 1 + 1 < w3.heap.size; omega)).trans y2_1; have zs := Nat.lt_of_lt_of_le zs hb4.size; have zq0 := Nat.lt_of_lt_of_le zq0 hb4.size; have zq1 := Nat.lt_of_lt_of_le zq1 hb4.size; have g0 := g0.to hb4; have g1 := g1.to hb4; have g2 := g2.to hb4; have g3 := g3.to hb4; have zb := below_step zb hb4; have gb := below_step gb hb4)
      | (go_at_call 35; have g0 := g0.drew; have g1 := g1.drew; have g2 := g2.drew; have zb := zb.drew; have gb := gb.drew; (with_reducible refine (add_z _ g0 g1 (A + B) rfl HC9).mono ?_); rintro e w3 ⟨ng3, a3_, n3_, c3_, rfl, Hng3, g3, hb3⟩; have hw_w3 : w.heap.size ≤ w1.heap.size := (by omega); have x0_0 := (hb3.cell (p := ⟨w.heap.size, 0, none⟩) (by show w.heap.size < w1.heap.size; omega)).trans x0_0; have y0_0 := (hb3.frozen (p := ⟨w.heap.size, 0, none⟩) (by show w.heap.size < w1.heap.size; omega)).trans y0_0; have x0_1 := (hb3.cell (p := ⟨w.heap.size, 1, none⟩) (by show w.heap.size < w1.heap.size; omega)).trans x0_1; have y0_1 := (hb3.frozen (p := ⟨w.heap.size, 1, none⟩) (by show w.heap.size < w1.heap.size; omega)).trans y0_1; have x1_0 := (hb3.cell (p := ⟨w.heap.size + 1, 0, none⟩) (by show w.heap.size + 1 < w1.heap.size; omega)).trans x1_0; have y1_0 := (hb3.frozen (p := ⟨w.heap.size + 1, 0, none⟩) (by show w.heap.size + 1 < w1.heap.size; omega)).trans y1_0; have x1_1 := (hb3.cell (p := ⟨w.heap.size + 1, 1, none⟩) (by show w.heap.size + 1 < w1.heap.size; omega)).trans x1_1; have y1_1 := (hb3.frozen (p := ⟨w.heap.size + 1, 1, none⟩) (by show w.heap.size + 1 < w1.heap.size; omega)).trans y1_1; have x2_0 := (hb3.cell (p := ⟨w.heap.size + 1 + 1, 0, none⟩) (by show w.heap.size + 1 + 1 < w1.heap.size; omega)).trans x2_0; have y2_0 := (hb3.frozen (p := ⟨w.heap.size + 1 + 1, 0, none⟩) (by show w.heap.size + 1 + 1 < w1.heap.size; omega)).trans y2_0; have x2_1 := (hb3.cell (p := ⟨w.heap.size + 1 + 1, 1, none⟩) (by show w.heap.size + 1 + 1 < w1.heap.size; omega)).trans x2_1; have y2_1 := (hb3.frozen (p := ⟨w.heap.size + 1 + 1, 1, none⟩) (by show w.heap.size + 1 + 1 < w1.heap.size; omega)).trans y2_1; have zs := Nat.lt_of_lt_of_le zs hb3.size; have zq0 := Nat.lt_of_lt_of_le zq0 hb3.size; have zq1 := Nat.lt_of_lt_of_le zq1 hb3.size; have g0 := g0.to hb3; have g1 := g1.to hb3; have g2 := g2.to hb3; have zb := below_step zb hb3; have gb := below_step gb hb3))
    all_goals (go_wp2_with fail; go_meet)
    all_goals first
      | exact boxI_new gb Hng4 g4
      | exact boxI_set gb Hng4 og4 g4 hg60 hl60 x60_0 x60_1 y60_0 y60_1
      | exact boxI_set gb Hng4 og4 g4 hg61 hl61 x61_0 x61_1 y61_0 y61_1
  case rest =>
  obtain ⟨B5, ng5, a5_, n5_, c5_, rfl, hB5, hB5', x5_0, x5_1, y5_0, y5_1, Hng5, g5, hb5⟩ := hcut
  have hw_wc : w.heap.size ≤ w1.heap.size := (by omega)
  replace x0_0 := (hb5.cell (p := ⟨w.heap.size, 0, none⟩) (by show w.heap.size < w1.heap.size; omega)).trans x0_0
  replace y0_0 := (hb5.frozen (p := ⟨w.heap.size, 0, none⟩) (by show w.heap.size < w1.heap.size; omega)).trans y0_0
  replace x0_1 := (hb5.cell (p := ⟨w.heap.size, 1, none⟩) (by show w.heap.size < w1.heap.size; omega)).trans x0_1
  replace y0_1 := (hb5.frozen (p := ⟨w.heap.size, 1, none⟩) (by show w.heap.size < w1.heap.size; omega)).trans y0_1
  replace x1_0 := (hb5.cell (p := ⟨w.heap.size + 1, 0, none⟩) (by show w.heap.size + 1 < w1.heap.size; omega)).trans x1_0
  replace y1_0 := (hb5.frozen (p := ⟨w.heap.size + 1, 0, none⟩) (by show w.heap.size + 1 < w1.heap.size; omega)).trans y1_0
  replace x1_1 := (hb5.cell (p := ⟨w.heap.size + 1, 1, none⟩) (by show w.heap.size + 1 < w1.heap.size; omega)).trans x1_1
  replace y1_1 := (hb5.frozen (p := ⟨w.heap.size + 1, 1, none⟩) (by show w.heap.size + 1 < w1.heap.size; omega)).trans y1_1
  replace x2_0 := (hb5.cell (p := ⟨w.heap.size + 1 + 1, 0, none⟩) (by show w.heap.size + 1 + 1 < w1.heap.size; omega)).trans x2_0
  replace y2_0 := (hb5.frozen (p := ⟨w.heap.size + 1 + 1, 0, none⟩) (by show w.heap.size + 1 + 1 < w1.heap.size; omega)).trans y2_0
  replace x2_1 := (hb5.cell (p := ⟨w.heap.size + 1 + 1, 1, none⟩) (by show w.heap.size + 1 + 1 < w1.heap.size; omega)).trans x2_1
  replace y2_1 := (hb5.frozen (p := ⟨w.heap.size + 1 + 1, 1, none⟩) (by show w.heap.size + 1 + 1 < w1.heap.size; omega)).trans y2_1
  replace zs := Nat.lt_of_lt_of_le zs hb5.size
  replace zq0 := Nat.lt_of_lt_of_le zq0 hb5.size
  replace zq1 := Nat.lt_of_lt_of_le zq1 hb5.size
  replace g0 := g0.to hb5
  replace g1 := g1.to hb5
  replace g2 := g2.to hb5
  replace zb := below_step zb hb5
  go_wp2_with fail
  refine (sub_z _ g0 g0 0 (by omega) HZ).mono ?_
  rintro e w6 ⟨ng6, a6_, n6_, c6_, rfl, Hng6, g6, hb6⟩
  have hw_w6 : w.heap.size ≤ wc.heap.size := (by omega)
  replace x0_0 := (hb6.cell (p := ⟨w.heap.size, 0, none⟩) (by show w.heap.size < wc.heap.size; omega)).trans x0_0
  replace y0_0 := (hb6.frozen (p := ⟨w.heap.size, 0, none⟩) (by show w.heap.size < wc.heap.size; omega)).trans y0_0
  replace x0_1 := (hb6.cell (p := ⟨w.heap.size, 1, none⟩) (by show w.heap.size < wc.heap.size; omega)).trans x0_1
  replace y0_1 := (hb6.frozen (p := ⟨w.heap.size, 1, none⟩) (by show w.heap.size < wc.heap.size; omega)).trans y0_1
  replace x1_0 := (hb6.cell (p := ⟨w.heap.size + 1, 0, none⟩) (by show w.heap.size + 1 < wc.heap.size; omega)).trans x1_0
  replace y1_0 := (hb6.frozen (p := ⟨w.heap.size + 1, 0, none⟩) (by show w.heap.size + 1 < wc.heap.size; omega)).trans y1_0
  replace x1_1 := (hb6.cell (p := ⟨w.heap.size + 1, 1, none⟩) (by show w.heap.size + 1 < wc.heap.size; omega)).trans x1_1
  replace y1_1 := (hb6.frozen (p := ⟨w.heap.size + 1, 1, none⟩) (by show w.heap.size + 1 < wc.heap.size; omega)).trans y1_1
  replace x2_0 := (hb6.cell (p := ⟨w.heap.size + 1 + 1, 0, none⟩) (by show w.heap.size + 1 + 1 < wc.heap.size; omega)).trans x2_0
  replace y2_0 := (hb6.frozen (p := ⟨w.heap.size + 1 + 1, 0, none⟩) (by show w.heap.size + 1 + 1 < wc.heap.size; omega)).trans y2_0
  replace x2_1 := (hb6.cell (p := ⟨w.heap.size + 1 + 1, 1, none⟩) (by show w.heap.size + 1 + 1 < wc.heap.size; omega)).trans x2_1
  replace y2_1 := (hb6.frozen (p := ⟨w.heap.size + 1 + 1, 1, none⟩) (by show w.heap.size + 1 + 1 < wc.heap.size; omega)).trans y2_1
  replace x5_0 := (hb6.cell (p := ⟨B5, 0, none⟩) (by show B5 < wc.heap.size; omega)).trans x5_0
  replace y5_0 := (hb6.frozen (p := ⟨B5, 0, none⟩) (by show B5 < wc.heap.size; omega)).trans y5_0
  replace x5_1 := (hb6.cell (p := ⟨B5, 1, none⟩) (by show B5 < wc.heap.size; omega)).trans x5_1
  replace y5_1 := (hb6.frozen (p := ⟨B5, 1, none⟩) (by show B5 < wc.heap.size; omega)).trans y5_1
  replace zs := Nat.lt_of_lt_of_le zs hb6.size
  replace zq0 := Nat.lt_of_lt_of_le zq0 hb6.size
  replace zq1 := Nat.lt_of_lt_of_le zq1 hb6.size
  replace hB5' := Nat.lt_of_lt_of_le hB5' hb6.size
  replace g0 := g0.to hb6
  replace g1 := g1.to hb6
  replace g2 := g2.to hb6
  replace g5 := g5.to hb6
  replace zb := below_step zb hb6
  obtain rfl : ng6 = false := Hng6.out.symm
  obtain rfl : n6_ = 0 := by
    obtain ⟨_, _, h⟩ := g6.1.shape
    rw [show limbs (0 : Int).natAbs = [] by decide +kernel] at h
    injection h with _ h _
  go_wp2_with fail
  obtain ⟨W6, hW6⟩ : ∃ W6, w6.alloc (.cells #[.bool false, .slice a6_ 0 c6_] 41) = W6 := ⟨_, rfl⟩
  have hb_W6 : Below w6.heap.size w6 W6 := by rw [← hW6]; exact below_new _ _
  have zs_W6 : w6.heap.size < W6.heap.size := by rw [← hW6]; simp
  have hw_W6 : w.heap.size ≤ w6.heap.size := (by omega)
  replace x0_0 := (hb_W6.cell (p := ⟨w.heap.size, 0, none⟩) (by show w.heap.size < w6.heap.size; omega)).trans x0_0
  replace y0_0 := (hb_W6.frozen (p := ⟨w.heap.size, 0, none⟩) (by show w.heap.size < w6.heap.size; omega)).trans y0_0
  replace x0_1 := (hb_W6.cell (p := ⟨w.heap.size, 1, none⟩) (by show w.heap.size < w6.heap.size; omega)).trans x0_1
  replace y0_1 := (hb_W6.frozen (p := ⟨w.heap.size, 1, none⟩) (by show w.heap.size < w6.heap.size; omega)).trans y0_1
  replace x1_0 := (hb_W6.cell (p := ⟨w.heap.size + 1, 0, none⟩) (by show w.heap.size + 1 < w6.heap.size; omega)).trans x1_0
  replace y1_0 := (hb_W6.frozen (p := ⟨w.heap.size + 1, 0, none⟩) (by show w.heap.size + 1 < w6.heap.size; omega)).trans y1_0
  replace x1_1 := (hb_W6.cell (p := ⟨w.heap.size + 1, 1, none⟩) (by show w.heap.size + 1 < w6.heap.size; omega)).trans x1_1
  replace y1_1 := (hb_W6.frozen (p := ⟨w.heap.size + 1, 1, none⟩) (by show w.heap.size + 1 < w6.heap.size; omega)).trans y1_1
  replace x2_0 := (hb_W6.cell (p := ⟨w.heap.size + 1 + 1, 0, none⟩) (by show w.heap.size + 1 + 1 < w6.heap.size; omega)).trans x2_0
  replace y2_0 := (hb_W6.frozen (p := ⟨w.heap.size + 1 + 1, 0, none⟩) (by show w.heap.size + 1 + 1 < w6.heap.size; omega)).trans y2_0
  replace x2_1 := (hb_W6.cell (p := ⟨w.heap.size + 1 + 1, 1, none⟩) (by show w.heap.size + 1 + 1 < w6.heap.size; omega)).trans x2_1
  replace y2_1 := (hb_W6.frozen (p := ⟨w.heap.size + 1 + 1, 1, none⟩) (by show w.heap.size + 1 + 1 < w6.heap.size; omega)).trans y2_1
  replace x5_0 := (hb_W6.cell (p := ⟨B5, 0, none⟩) (by show B5 < w6.heap.size; omega)).trans x5_0
  replace y5_0 := (hb_W6.frozen (p := ⟨B5, 0, none⟩) (by show B5 < w6.heap.size; omega)).trans y5_0
  replace x5_1 := (hb_W6.cell (p := ⟨B5, 1, none⟩) (by show B5 < w6.heap.size; omega)).trans x5_1
  replace y5_1 := (hb_W6.frozen (p := ⟨B5, 1, none⟩) (by show B5 < w6.heap.size; omega)).trans y5_1
  replace zs := Nat.lt_of_lt_of_le zs hb_W6.size
  replace zq0 := Nat.lt_of_lt_of_le zq0 hb_W6.size
  replace zq1 := Nat.lt_of_lt_of_le zq1 hb_W6.size
  replace hB5' := Nat.lt_of_lt_of_le hB5' hb_W6.size
  replace g0 := g0.to hb_W6
  replace g1 := g1.to hb_W6
  replace g2 := g2.to hb_W6
  replace g5 := g5.to hb_W6
  replace g6 := g6.to hb_W6
  replace zb := below_step zb hb_W6
  have x6_0 : W6.cell? ⟨w6.heap.size, 0, none⟩ = some (.bool false) := by rw [← hW6]; simp [go_sem]
  have y6_0 : W6.frozen? ⟨w6.heap.size, 0, none⟩ = false := by rw [← hW6]; simp [go_sem]
  have x6_1 : W6.cell? ⟨w6.heap.size, 1, none⟩ = some (.slice a6_ 0 c6_) := by rw [← hW6]; simp [go_sem]
  have y6_1 : W6.frozen? ⟨w6.heap.size, 1, none⟩ = false := by rw [← hW6]; simp [go_sem]
  rw [hW6]
  clear hW6
  obtain ⟨k, hk⟩ : ∃ k, cmpZ A B = k := ⟨_, rfl⟩
  have Hk := Lib.hid hk
  clear hk
  refine (cmp_z _ g0 g1 k Hk.out).mono ?_
  rintro e w7 ⟨rfl, hb7⟩
  have hw_w7 : w.heap.size ≤ W6.heap.size := (by omega)
  replace x0_0 := (hb7.cell (p := ⟨w.heap.size, 0, none⟩) (by show w.heap.size < W6.heap.size; omega)).trans x0_0
  replace y0_0 := (hb7.frozen (p := ⟨w.heap.size, 0, none⟩) (by show w.heap.size < W6.heap.size; omega)).trans y0_0
  replace x0_1 := (hb7.cell (p := ⟨w.heap.size, 1, none⟩) (by show w.heap.size < W6.heap.size; omega)).trans x0_1
  replace y0_1 := (hb7.frozen (p := ⟨w.heap.size, 1, none⟩) (by show w.heap.size < W6.heap.size; omega)).trans y0_1
  replace x1_0 := (hb7.cell (p := ⟨w.heap.size + 1, 0, none⟩) (by show w.heap.size + 1 < W6.heap.size; omega)).trans x1_0
  replace y1_0 := (hb7.frozen (p := ⟨w.heap.size + 1, 0, none⟩) (by show w.heap.size + 1 < W6.heap.size; omega)).trans y1_0
  replace x1_1 := (hb7.cell (p := ⟨w.heap.size + 1, 1, none⟩) (by show w.heap.size + 1 < W6.heap.size; omega)).trans x1_1
  replace y1_1 := (hb7.frozen (p := ⟨w.heap.size + 1, 1, none⟩) (by show w.heap.size + 1 < W6.heap.size; omega)).trans y1_1
  replace x2_0 := (hb7.cell (p := ⟨w.heap.size + 1 + 1, 0, none⟩) (by show w.heap.size + 1 + 1 < W6.heap.size; omega)).trans x2_0
  replace y2_0 := (hb7.frozen (p := ⟨w.heap.size + 1 + 1, 0, none⟩) (by show w.heap.size + 1 + 1 < W6.heap.size; omega)).trans y2_0
  replace x2_1 := (hb7.cell (p := ⟨w.heap.size + 1 + 1, 1, none⟩) (by show w.heap.size + 1 + 1 < W6.heap.size; omega)).trans x2_1
  replace y2_1 := (hb7.frozen (p := ⟨w.heap.size + 1 + 1, 1, none⟩) (by show w.heap.size + 1 + 1 < W6.heap.size; omega)).trans y2_1
  replace x5_0 := (hb7.cell (p := ⟨B5, 0, none⟩) (by show B5 < W6.heap.size; omega)).trans x5_0
  replace y5_0 := (hb7.frozen (p := ⟨B5, 0, none⟩) (by show B5 < W6.heap.size; omega)).trans y5_0
  replace x5_1 := (hb7.cell (p := ⟨B5, 1, none⟩) (by show B5 < W6.heap.size; omega)).trans x5_1
  replace y5_1 := (hb7.frozen (p := ⟨B5, 1, none⟩) (by show B5 < W6.heap.size; omega)).trans y5_1
  replace x6_0 := (hb7.cell (p := ⟨w6.heap.size, 0, none⟩) (by show w6.heap.size < W6.heap.size; omega)).trans x6_0
  replace y6_0 := (hb7.frozen (p := ⟨w6.heap.size, 0, none⟩) (by show w6.heap.size < W6.heap.size; omega)).trans y6_0
  replace x6_1 := (hb7.cell (p := ⟨w6.heap.size, 1, none⟩) (by show w6.heap.size < W6.heap.size; omega)).trans x6_1
  replace y6_1 := (hb7.frozen (p := ⟨w6.heap.size, 1, none⟩) (by show w6.heap.size < W6.heap.size; omega)).trans y6_1
  replace zs := Nat.lt_of_lt_of_le zs hb7.size
  replace zq0 := Nat.lt_of_lt_of_le zq0 hb7.size
  replace zq1 := Nat.lt_of_lt_of_le zq1 hb7.size
  replace hB5' := Nat.lt_of_lt_of_le hB5' hb7.size
  replace zs_W6 := Nat.lt_of_lt_of_le zs_W6 hb7.size
  replace g0 := g0.to hb7
  replace g1 := g1.to hb7
  replace g2 := g2.to hb7
  replace g5 := g5.to hb7
  replace g6 := g6.to hb7
  replace zb := below_step zb hb7
  go_wp2_with fail
  go_region_held3 (fun W' => W'.cell? ⟨w.heap.size, 0, none⟩ = some (.bool b0) ∧ W'.cell? ⟨w.heap.size, 1, none⟩ = some (.slice a0 n0 c0) ∧ W'.cell? ⟨w.heap.size + 1, 0, none⟩ = some (.bool b1) ∧ W'.cell? ⟨w.heap.size + 1, 1, none⟩ = some (.slice a1 n1 c1) ∧ W'.cell? ⟨w.heap.size + 1 + 1, 0, none⟩ = some (.bool b2) ∧ W'.cell? ⟨w.heap.size + 1 + 1, 1, none⟩ = some (.slice a2 n2 c2) ∧ W'.cell? ⟨B5, 0, none⟩ = some (.bool ng5) ∧ W'.cell? ⟨B5, 1, none⟩ = some (.slice a5_ n5_ c5_) ∧ W'.cell? ⟨w6.heap.size, 0, none⟩ = some (.bool false) ∧ W'.cell? ⟨w6.heap.size, 1, none⟩ = some (.slice a6_ 0 c6_)) (first | exact ⟨x0_0, x0_1, x1_0, x1_1, x2_0, x2_1, x5_0, x5_1, x6_0, x6_1⟩) (first
    | (go_at_call 39; (with_reducible refine (cmp_z _ g19 g20 k ((cmpZ_both A B C).trans Hk.out)).mono ?_); rintro e w21 ⟨rfl, hb21⟩; have hw_w21 : w.heap.size ≤ w20.heap.size := (by omega); have x0_0 := (hb21.cell (p := ⟨w.heap.size, 0, none⟩) (by show w.heap.size < w20.heap.size; omega)).trans x0_0; have y0_0 := (hb21.frozen (p := ⟨w.heap.size, 0, none⟩) (by show w.heap.size < w20.heap.size; omega)).trans y0_0; have x0_1 := (hb21.cell (p := ⟨w.heap.size, 1, none⟩) (by show w.heap.size < w20.heap.size; omega)).trans x0_1; have y0_1 := (hb21.frozen (p := ⟨w.heap.size, 1, none⟩) (by show w.heap.size < w20.heap.size; omega)).trans y0_1; have x1_0 := (hb21.cell (p := ⟨w.heap.size + 1, 0, none⟩) (by show w.heap.size + 1 < w20.heap.size; omega)).trans x1_0; have y1_0 := (hb21.frozen (p := ⟨w.heap.size + 1, 0, none⟩) (by show w.heap.size + 1 < w20.heap.size; omega)).trans y1_0; have x1_1 := (hb21.cell (p := ⟨w.heap.size + 1, 1, none⟩) (by show w.heap.size + 1 < w20.heap.size; omega)).trans x1_1; have y1_1 := (hb21.frozen (p := ⟨w.heap.size + 1, 1, none⟩) (by show w.heap.size + 1 < w20.heap.size; omega)).trans y1_1; have x2_0 := (hb21.cell (p := ⟨w.heap.size + 1 + 1, 0, none⟩) (by show w.heap.size + 1 + 1 < w20.heap.size; omega)).trans x2_0; have y2_0 := (hb21.frozen (p := ⟨w.heap.size + 1 + 1, 0, none⟩) (by show w.heap.size + 1 + 1 < w20.heap.size; omega)).trans y2_0; have x2_1 := (hb21.cell (p := ⟨w.heap.size + 1 + 1, 1, none⟩) (by show w.heap.size + 1 + 1 < w20.heap.size; omega)).trans x2_1; have y2_1 := (hb21.frozen (p := ⟨w.heap.size + 1 + 1, 1, none⟩) (by show w.heap.size + 1 + 1 < w20.heap.size; omega)).trans y2_1; have x5_0 := (hb21.cell (p := ⟨B5, 0, none⟩) (by show B5 < w20.heap.size; omega)).trans x5_0; have y5_0 := (hb21.frozen (p := ⟨B5, 0, none⟩) (by show B5 < w20.heap.size; omega)).trans y5_0; have x5_1 := (hb21.cell (p := ⟨B5, 1, none⟩) (by show B5 < w20.heap.size; omega)).trans x5_1; have y5_1 := (hb21.frozen (p := ⟨B5, 1, none⟩) (by show B5 < w20.heap.size; omega)).trans y5_1; have x6_0 := (hb21.cell (p := ⟨w6.heap.size, 0, none⟩) (by show w6.heap.size < w20.heap.size; omega)).trans x6_0; have y6_0 := (hb21.frozen (p := ⟨w6.heap.size, 0, none⟩) (by show w6.heap.size < w20.heap.size; omega)).trans y6_0; have x6_1 := (hb21.cell (p := ⟨w6.heap.size, 1, none⟩) (by show w6.heap.size < w20.heap.size; omega)).trans x6_1; have y6_1 := (hb21.frozen (p := ⟨w6.heap.size, 1, none⟩) (by show w6.heap.size < w20.heap.size; omega)).trans y6_1; have zs := Nat.lt_of_lt_of_le zs hb21.size; have zq0 := Nat.lt_of_lt_of_le zq0 hb21.size; have zq1 := Nat.lt_of_lt_of_le zq1 hb21.size; have hB5' := Nat.lt_of_lt_of_le hB5' hb21.size; have zs_W6 := Nat.lt_of_lt_of_le zs_W6 hb21.size; have g0 := g0.to hb21; have g1 := g1.to hb21; have g2 := g2.to hb21; have g5 := g5.to hb21; have g6 := g6.to hb21; have g10 := g10.to hb21; have g12 := g12.to hb21; have g13 := g13.to hb21; have g14 := g14.to hb21; have g16 := g16.to hb21; have g17 := g17.to hb21; have g19 := g19.to hb21; have g20 := g20.to hb21; have zb := below_step zb hb21)
    | (go_at_call 35; (with_reducible refine (add_z _ g1 g2 (B + C) rfl HC11).mono ?_); rintro e w20 ⟨ng20, a20_, n20_, c20_, rfl, Hng20, g20, hb20⟩; have hw_w20 : w.heap.size ≤ w19.heap.size := (by omega); have x0_0 := (hb20.cell (p := ⟨w.heap.size, 0, none⟩) (by show w.heap.size < w19.heap.size; omega)).trans x0_0; have y0_0 := (hb20.frozen (p := ⟨w.heap.size, 0, none⟩) (by show w.heap.size < w19.heap.size; omega)).trans y0_0; have x0_1 := (hb20.cell (p := ⟨w.heap.size, 1, none⟩) (by show w.heap.size < w19.heap.size; omega)).trans x0_1; have y0_1 := (hb20.frozen (p := ⟨w.heap.size, 1, none⟩) (by show w.heap.size < w19.heap.size; omega)).trans y0_1; have x1_0 := (hb20.cell (p := ⟨w.heap.size + 1, 0, none⟩) (by show w.heap.size + 1 < w19.heap.size; omega)).trans x1_0; have y1_0 := (hb20.frozen (p := ⟨w.heap.size + 1, 0, none⟩) (by show w.heap.size + 1 < w19.heap.size; omega)).trans y1_0; have x1_1 := (hb20.cell (p := ⟨w.heap.size + 1, 1, none⟩) (by show w.heap.size + 1 < w19.heap.size; omega)).trans x1_1; have y1_1 := (hb20.frozen (p := ⟨w.heap.size + 1, 1, none⟩) (by show w.heap.size + 1 < w19.heap.size; omega)).trans y1_1; have x2_0 := (hb20.cell (p := ⟨w.heap.size + 1 + 1, 0, none⟩) (by show w.heap.size + 1 + 1 < w19.heap.size; omega)).trans x2_0; have y2_0 := (hb20.frozen (p := ⟨w.heap.size + 1 + 1, 0, none⟩) (by show w.heap.size + 1 + 1 < w19.heap.size; omega)).trans y2_0; have x2_1 := (hb20.cell (p := ⟨w.heap.size + 1 + 1, 1, none⟩) (by show w.heap.size + 1 + 1 < w19.heap.size; omega)).trans x2_1; have y2_1 := (hb20.frozen (p := ⟨w.heap.size + 1 + 1, 1, none⟩) (by show w.heap.size + 1 + 1 < w19.heap.size; omega)).trans y2_1; have x5_0 := (hb20.cell (p := ⟨B5, 0, none⟩) (by show B5 < w19.heap.size; omega)).trans x5_0; have y5_0 := (hb20.frozen (p := ⟨B5, 0, none⟩) (by show B5 < w19.heap.size; omega)).trans y5_0; have x5_1 := (hb20.cell (p := ⟨B5, 1, none⟩) (by show B5 < w19.heap.size; omega)).trans x5_1; have y5_1 := (hb20.frozen (p := ⟨B5, 1, none⟩) (by show B5 < w19.heap.size; omega)).trans y5_1; have x6_0 := (hb20.cell (p := ⟨w6.heap.size, 0, none⟩) (by show w6.heap.size < w19.heap.size; omega)).trans x6_0; have y6_0 := (hb20.frozen (p := ⟨w6.heap.size, 0, none⟩) (by show w6.heap.size < w19.heap.size; omega)).trans y6_0; have x6_1 := (hb20.cell (p := ⟨w6.heap.size, 1, none⟩) (by show w6.heap.size < w19.heap.size; omega)).trans x6_1; have y6_1 := (hb20.frozen (p := ⟨w6.heap.size, 1, none⟩) (by show w6.heap.size < w19.heap.size; omega)).trans y6_1; have zs := Nat.lt_of_lt_of_le zs hb20.size; have zq0 := Nat.lt_of_lt_of_le zq0 hb20.size; have zq1 := Nat.lt_of_lt_of_le zq1 hb20.size; have hB5' := Nat.lt_of_lt_of_le hB5' hb20.size; have zs_W6 := Nat.lt_of_lt_of_le zs_W6 hb20.size; have g0 := g0.to hb20; have g1 := g1.to hb20; have g2 := g2.to hb20; have g5 := g5.to hb20; have g6 := g6.to hb20; have g10 := g10.to hb20; have g12 := g12.to hb20; have g13 := g13.to hb20; have g14 := g14.to hb20; have g16 := g16.to hb20; have g17 := g17.to hb20; have g19 := g19.to hb20; have zb := below_step zb hb20)
    | (go_at_call 35; (with_reducible refine (add_z _ g0 g2 (A + C) rfl HC10).mono ?_); rintro e w19 ⟨ng19, a19_, n19_, c19_, rfl, Hng19, g19, hb19⟩; have hw_w19 : w.heap.size ≤ w18.heap.size := (by omega); have x0_0 := (hb19.cell (p := ⟨w.heap.size, 0, none⟩) (by show w.heap.size < w18.heap.size; omega)).trans x0_0; have y0_0 := (hb19.frozen (p := ⟨w.heap.size, 0, none⟩) (by show w.heap.size < w18.heap.size; omega)).trans y0_0; have x0_1 := (hb19.cell (p := ⟨w.heap.size, 1, none⟩) (by show w.heap.size < w18.heap.size; omega)).trans x0_1; have y0_1 := (hb19.frozen (p := ⟨w.heap.size, 1, none⟩) (by show w.heap.size < w18.heap.size; omega)).trans y0_1; have x1_0 := (hb19.cell (p := ⟨w.heap.size + 1, 0, none⟩) (by show w.heap.size + 1 < w18.heap.size; omega)).trans x1_0; have y1_0 := (hb19.frozen (p := ⟨w.heap.size + 1, 0, none⟩) (by show w.heap.size + 1 < w18.heap.size; omega)).trans y1_0; have x1_1 := (hb19.cell (p := ⟨w.heap.size + 1, 1, none⟩) (by show w.heap.size + 1 < w18.heap.size; omega)).trans x1_1; have y1_1 := (hb19.frozen (p := ⟨w.heap.size + 1, 1, none⟩) (by show w.heap.size + 1 < w18.heap.size; omega)).trans y1_1; have x2_0 := (hb19.cell (p := ⟨w.heap.size + 1 + 1, 0, none⟩) (by show w.heap.size + 1 + 1 < w18.heap.size; omega)).trans x2_0; have y2_0 := (hb19.frozen (p := ⟨w.heap.size + 1 + 1, 0, none⟩) (by show w.heap.size + 1 + 1 < w18.heap.size; omega)).trans y2_0; have x2_1 := (hb19.cell (p := ⟨w.heap.size + 1 + 1, 1, none⟩) (by show w.heap.size + 1 + 1 < w18.heap.size; omega)).trans x2_1; have y2_1 := (hb19.frozen (p := ⟨w.heap.size + 1 + 1, 1, none⟩) (by show w.heap.size + 1 + 1 < w18.heap.size; omega)).trans y2_1; have x5_0 := (hb19.cell (p := ⟨B5, 0, none⟩) (by show B5 < w18.heap.size; omega)).trans x5_0; have y5_0 := (hb19.frozen (p := ⟨B5, 0, none⟩) (by show B5 < w18.heap.size; omega)).trans y5_0; have x5_1 := (hb19.cell (p := ⟨B5, 1, none⟩) (by show B5 < w18.heap.size; omega)).trans x5_1; have y5_1 := (hb19.frozen (p := ⟨B5, 1, none⟩) (by show B5 < w18.heap.size; omega)).trans y5_1; have x6_0 := (hb19.cell (p := ⟨w6.heap.size, 0, none⟩) (by show w6.heap.size < w18.heap.size; omega)).trans x6_0; have y6_0 := (hb19.frozen (p := ⟨w6.heap.size, 0, none⟩) (by show w6.heap.size < w18.heap.size; omega)).trans y6_0; have x6_1 := (hb19.cell (p := ⟨w6.heap.size, 1, none⟩) (by show w6.heap.size < w18.heap.size; omega)).trans x6_1; have y6_1 := (hb19.frozen (p := ⟨w6.heap.size, 1, none⟩) (by show w6.heap.size < w18.heap.size; omega)).trans y6_1; have zs := Nat.lt_of_lt_of_le zs hb19.size; have zq0 := Nat.lt_of_lt_of_le zq0 hb19.size; have zq1 := Nat.lt_of_lt_of_le zq1 hb19.size; have hB5' := Nat.lt_of_lt_of_le hB5' hb19.size; have zs_W6 := Nat.lt_of_lt_of_le zs_W6 hb19.size; have g0 := g0.to hb19; have g1 := g1.to hb19; have g2 := g2.to hb19; have g5 := g5.to hb19; have g6 := g6.to hb19; have g10 := g10.to hb19; have g12 := g12.to hb19; have g13 := g13.to hb19; have g14 := g14.to hb19; have g16 := g16.to hb19; have g17 := g17.to hb19; have zb := below_step zb hb19)
    | (go_at_call 39; (with_reducible refine (cmp_z _ g16 g17 k ((cmpZ_turn A B).trans Hk.out)).mono ?_); rintro e w18 ⟨rfl, hb18⟩; have hw_w18 : w.heap.size ≤ w17.heap.size := (by omega); have x0_0 := (hb18.cell (p := ⟨w.heap.size, 0, none⟩) (by show w.heap.size < w17.heap.size; omega)).trans x0_0; have y0_0 := (hb18.frozen (p := ⟨w.heap.size, 0, none⟩) (by show w.heap.size < w17.heap.size; omega)).trans y0_0; have x0_1 := (hb18.cell (p := ⟨w.heap.size, 1, none⟩) (by show w.heap.size < w17.heap.size; omega)).trans x0_1; have y0_1 := (hb18.frozen (p := ⟨w.heap.size, 1, none⟩) (by show w.heap.size < w17.heap.size; omega)).trans y0_1; have x1_0 := (hb18.cell (p := ⟨w.heap.size + 1, 0, none⟩) (by show w.heap.size + 1 < w17.heap.size; omega)).trans x1_0; have y1_0 := (hb18.frozen (p := ⟨w.heap.size + 1, 0, none⟩) (by show w.heap.size + 1 < w17.heap.size; omega)).trans y1_0; have x1_1 := (hb18.cell (p := ⟨w.heap.size + 1, 1, none⟩) (by show w.heap.size + 1 < w17.heap.size; omega)).trans x1_1; have y1_1 := (hb18.frozen (p := ⟨w.heap.size + 1, 1, none⟩) (by show w.heap.size + 1 < w17.heap.size; omega)).trans y1_1; have x2_0 := (hb18.cell (p := ⟨w.heap.size + 1 + 1, 0, none⟩) (by show w.heap.size + 1 + 1 < w17.heap.size; omega)).trans x2_0; have y2_0 := (hb18.frozen (p := ⟨w.heap.size + 1 + 1, 0, none⟩) (by show w.heap.size + 1 + 1 < w17.heap.size; omega)).trans y2_0; have x2_1 := (hb18.cell (p := ⟨w.heap.size + 1 + 1, 1, none⟩) (by show w.heap.size + 1 + 1 < w17.heap.size; omega)).trans x2_1; have y2_1 := (hb18.frozen (p := ⟨w.heap.size + 1 + 1, 1, none⟩) (by show w.heap.size + 1 + 1 < w17.heap.size; omega)).trans y2_1; have x5_0 := (hb18.cell (p := ⟨B5, 0, none⟩) (by show B5 < w17.heap.size; omega)).trans x5_0; have y5_0 := (hb18.frozen (p := ⟨B5, 0, none⟩) (by show B5 < w17.heap.size; omega)).trans y5_0; have x5_1 := (hb18.cell (p := ⟨B5, 1, none⟩) (by show B5 < w17.heap.size; omega)).trans x5_1; have y5_1 := (hb18.frozen (p := ⟨B5, 1, none⟩) (by show B5 < w17.heap.size; omega)).trans y5_1; have x6_0 := (hb18.cell (p := ⟨w6.heap.size, 0, none⟩) (by show w6.heap.size < w17.heap.size; omega)).trans x6_0; have y6_0 := (hb18.frozen (p := ⟨w6.heap.size, 0, none⟩) (by show w6.heap.size < w17.heap.size; omega)).trans y6_0; have x6_1 := (hb18.cell (p := ⟨w6.heap.size, 1, none⟩) (by show w6.heap.size < w17.heap.size; omega)).trans x6_1; have y6_1 := (hb18.frozen (p := ⟨w6.heap.size, 1, none⟩) (by show w6.heap.size < w17.heap.size; omega)).trans y6_1; have zs := Nat.lt_of_lt_of_le zs hb18.size; have zq0 := Nat.lt_of_lt_of_le zq0 hb18.size; have zq1 := Nat.lt_of_lt_of_le zq1 hb18.size; have hB5' := Nat.lt_of_lt_of_le hB5' hb18.size; have zs_W6 := Nat.lt_of_lt_of_le zs_W6 hb18.size; have g0 := g0.to hb18; have g1 := g1.to hb18; have g2 := g2.to hb18; have g5 := g5.to hb18; have g6 := g6.to hb18; have g10 := g10.to hb18; have g12 := g12.to hb18; have g13 := g13.to hb18; have g14 := g14.to hb18; have g16 := g16.to hb18; have g17 := g17.to hb18; have zb := below_step zb hb18)
    | (go_at_call 41; (with_reducible refine (neg_z _ g0 (-A) rfl).mono ?_); rintro e w17 ⟨ng17, a17_, n17_, c17_, rfl, Hng17, g17, hb17⟩; have hw_w17 : w.heap.size ≤ w16.heap.size := (by omega); have x0_0 := (hb17.cell (p := ⟨w.heap.size, 0, none⟩) (by show w.heap.size < w16.heap.size; omega)).trans x0_0; have y0_0 := (hb17.frozen (p := ⟨w.heap.size, 0, none⟩) (by show w.heap.size < w16.heap.size; omega)).trans y0_0; have x0_1 := (hb17.cell (p := ⟨w.heap.size, 1, none⟩) (by show w.heap.size < w16.heap.size; omega)).trans x0_1; have y0_1 := (hb17.frozen (p := ⟨w.heap.size, 1, none⟩) (by show w.heap.size < w16.heap.size; omega)).trans y0_1; have x1_0 := (hb17.cell (p := ⟨w.heap.size + 1, 0, none⟩) (by show w.heap.size + 1 < w16.heap.size; omega)).trans x1_0; have y1_0 := (hb17.frozen (p := ⟨w.heap.size + 1, 0, none⟩) (by show w.heap.size + 1 < w16.heap.size; omega)).trans y1_0; have x1_1 := (hb17.cell (p := ⟨w.heap.size + 1, 1, none⟩) (by show w.heap.size + 1 < w16.heap.size; omega)).trans x1_1; have y1_1 := (hb17.frozen (p := ⟨w.heap.size + 1, 1, none⟩) (by show w.heap.size + 1 < w16.heap.size; omega)).trans y1_1; have x2_0 := (hb17.cell (p := ⟨w.heap.size + 1 + 1, 0, none⟩) (by show w.heap.size + 1 + 1 < w16.heap.size; omega)).trans x2_0; have y2_0 := (hb17.frozen (p := ⟨w.heap.size + 1 + 1, 0, none⟩) (by show w.heap.size + 1 + 1 < w16.heap.size; omega)).trans y2_0; have x2_1 := (hb17.cell (p := ⟨w.heap.size + 1 + 1, 1, none⟩) (by show w.heap.size + 1 + 1 < w16.heap.size; omega)).trans x2_1; have y2_1 := (hb17.frozen (p := ⟨w.heap.size + 1 + 1, 1, none⟩) (by show w.heap.size + 1 + 1 < w16.heap.size; omega)).trans y2_1; have x5_0 := (hb17.cell (p := ⟨B5, 0, none⟩) (by show B5 < w16.heap.size; omega)).trans x5_0; have y5_0 := (hb17.frozen (p := ⟨B5, 0, none⟩) (by show B5 < w16.heap.size; omega)).trans y5_0; have x5_1 := (hb17.cell (p := ⟨B5, 1, none⟩) (by show B5 < w16.heap.size; omega)).trans x5_1; have y5_1 := (hb17.frozen (p := ⟨B5, 1, none⟩) (by show B5 < w16.heap.size; omega)).trans y5_1; have x6_0 := (hb17.cell (p := ⟨w6.heap.size, 0, none⟩) (by show w6.heap.size < w16.heap.size; omega)).trans x6_0; have y6_0 := (hb17.frozen (p := ⟨w6.heap.size, 0, none⟩) (by show w6.heap.size < w16.heap.size; omega)).trans y6_0; have x6_1 := (hb17.cell (p := ⟨w6.heap.size, 1, none⟩) (by show w6.heap.size < w16.heap.size; omega)).trans x6_1; have y6_1 := (hb17.frozen (p := ⟨w6.heap.size, 1, none⟩) (by show w6.heap.size < w16.heap.size; omega)).trans y6_1; have zs := Nat.lt_of_lt_of_le zs hb17.size; have zq0 := Nat.lt_of_lt_of_le zq0 hb17.size; have zq1 := Nat.lt_of_lt_of_le zq1 hb17.size; have hB5' := Nat.lt_of_lt_of_le hB5' hb17.size; have zs_W6 := Nat.lt_of_lt_of_le zs_W6 hb17.size; have g0 := g0.to hb17; have g1 := g1.to hb17; have g2 := g2.to hb17; have g5 := g5.to hb17; have g6 := g6.to hb17; have g10 := g10.to hb17; have g12 := g12.to hb17; have g13 := g13.to hb17; have g14 := g14.to hb17; have g16 := g16.to hb17; have zb := below_step zb hb17)
    | (go_at_call 41; (with_reducible refine (neg_z _ g1 (-B) rfl).mono ?_); rintro e w16 ⟨ng16, a16_, n16_, c16_, rfl, Hng16, g16, hb16⟩; have hw_w16 : w.heap.size ≤ w15.heap.size := (by omega); have x0_0 := (hb16.cell (p := ⟨w.heap.size, 0, none⟩) (by show w.heap.size < w15.heap.size; omega)).trans x0_0; have y0_0 := (hb16.frozen (p := ⟨w.heap.size, 0, none⟩) (by show w.heap.size < w15.heap.size; omega)).trans y0_0; have x0_1 := (hb16.cell (p := ⟨w.heap.size, 1, none⟩) (by show w.heap.size < w15.heap.size; omega)).trans x0_1; have y0_1 := (hb16.frozen (p := ⟨w.heap.size, 1, none⟩) (by show w.heap.size < w15.heap.size; omega)).trans y0_1; have x1_0 := (hb16.cell (p := ⟨w.heap.size + 1, 0, none⟩) (by show w.heap.size + 1 < w15.heap.size; omega)).trans x1_0; have y1_0 := (hb16.frozen (p := ⟨w.heap.size + 1, 0, none⟩) (by show w.heap.size + 1 < w15.heap.size; omega)).trans y1_0; have x1_1 := (hb16.cell (p := ⟨w.heap.size + 1, 1, none⟩) (by show w.heap.size + 1 < w15.heap.size; omega)).trans x1_1; have y1_1 := (hb16.frozen (p := ⟨w.heap.size + 1, 1, none⟩) (by show w.heap.size + 1 < w15.heap.size; omega)).trans y1_1; have x2_0 := (hb16.cell (p := ⟨w.heap.size + 1 + 1, 0, none⟩) (by show w.heap.size + 1 + 1 < w15.heap.size; omega)).trans x2_0; have y2_0 := (hb16.frozen (p := ⟨w.heap.size + 1 + 1, 0, none⟩) (by show w.heap.size + 1 + 1 < w15.heap.size; omega)).trans y2_0; have x2_1 := (hb16.cell (p := ⟨w.heap.size + 1 + 1, 1, none⟩) (by show w.heap.size + 1 + 1 < w15.heap.size; omega)).trans x2_1; have y2_1 := (hb16.frozen (p := ⟨w.heap.size + 1 + 1, 1, none⟩) (by show w.heap.size + 1 + 1 < w15.heap.size; omega)).trans y2_1; have x5_0 := (hb16.cell (p := ⟨B5, 0, none⟩) (by show B5 < w15.heap.size; omega)).trans x5_0; have y5_0 := (hb16.frozen (p := ⟨B5, 0, none⟩) (by show B5 < w15.heap.size; omega)).trans y5_0; have x5_1 := (hb16.cell (p := ⟨B5, 1, none⟩) (by show B5 < w15.heap.size; omega)).trans x5_1; have y5_1 := (hb16.frozen (p := ⟨B5, 1, none⟩) (by show B5 < w15.heap.size; omega)).trans y5_1; have x6_0 := (hb16.cell (p := ⟨w6.heap.size, 0, none⟩) (by show w6.heap.size < w15.heap.size; omega)).trans x6_0; have y6_0 := (hb16.frozen (p := ⟨w6.heap.size, 0, none⟩) (by show w6.heap.size < w15.heap.size; omega)).trans y6_0; have x6_1 := (hb16.cell (p := ⟨w6.heap.size, 1, none⟩) (by show w6.heap.size < w15.heap.size; omega)).trans x6_1; have y6_1 := (hb16.frozen (p := ⟨w6.heap.size, 1, none⟩) (by show w6.heap.size < w15.heap.size; omega)).trans y6_1; have zs := Nat.lt_of_lt_of_le zs hb16.size; have zq0 := Nat.lt_of_lt_of_le zq0 hb16.size; have zq1 := Nat.lt_of_lt_of_le zq1 hb16.size; have hB5' := Nat.lt_of_lt_of_le hB5' hb16.size; have zs_W6 := Nat.lt_of_lt_of_le zs_W6 hb16.size; have g0 := g0.to hb16; have g1 := g1.to hb16; have g2 := g2.to hb16; have g5 := g5.to hb16; have g6 := g6.to hb16; have g10 := g10.to hb16; have g12 := g12.to hb16; have g13 := g13.to hb16; have g14 := g14.to hb16; have zb := below_step zb hb16)
    | (go_at_call 31; (with_reducible refine (same_z _ g13 g14 Hng13 Hng14).mono ?_); rintro e w15 ⟨rfl, hb15⟩; have hw_w15 : w.heap.size ≤ w14.heap.size := (by omega); have x0_0 := (hb15.cell (p := ⟨w.heap.size, 0, none⟩) (by show w.heap.size < w14.heap.size; omega)).trans x0_0; have y0_0 := (hb15.frozen (p := ⟨w.heap.size, 0, none⟩) (by show w.heap.size < w14.heap.size; omega)).trans y0_0; have x0_1 := (hb15.cell (p := ⟨w.heap.size, 1, none⟩) (by show w.heap.size < w14.heap.size; omega)).trans x0_1; have y0_1 := (hb15.frozen (p := ⟨w.heap.size, 1, none⟩) (by show w.heap.size < w14.heap.size; omega)).trans y0_1; have x1_0 := (hb15.cell (p := ⟨w.heap.size + 1, 0, none⟩) (by show w.heap.size + 1 < w14.heap.size; omega)).trans x1_0; have y1_0 := (hb15.frozen (p := ⟨w.heap.size + 1, 0, none⟩) (by show w.heap.size + 1 < w14.heap.size; omega)).trans y1_0; have x1_1 := (hb15.cell (p := ⟨w.heap.size + 1, 1, none⟩) (by show w.heap.size + 1 < w14.heap.size; omega)).trans x1_1; have y1_1 := (hb15.frozen (p := ⟨w.heap.size + 1, 1, none⟩) (by show w.heap.size + 1 < w14.heap.size; omega)).trans y1_1; have x2_0 := (hb15.cell (p := ⟨w.heap.size + 1 + 1, 0, none⟩) (by show w.heap.size + 1 + 1 < w14.heap.size; omega)).trans x2_0; have y2_0 := (hb15.frozen (p := ⟨w.heap.size + 1 + 1, 0, none⟩) (by show w.heap.size + 1 + 1 < w14.heap.size; omega)).trans y2_0; have x2_1 := (hb15.cell (p := ⟨w.heap.size + 1 + 1, 1, none⟩) (by show w.heap.size + 1 + 1 < w14.heap.size; omega)).trans x2_1; have y2_1 := (hb15.frozen (p := ⟨w.heap.size + 1 + 1, 1, none⟩) (by show w.heap.size + 1 + 1 < w14.heap.size; omega)).trans y2_1; have x5_0 := (hb15.cell (p := ⟨B5, 0, none⟩) (by show B5 < w14.heap.size; omega)).trans x5_0; have y5_0 := (hb15.frozen (p := ⟨B5, 0, none⟩) (by show B5 < w14.heap.size; omega)).trans y5_0; have x5_1 := (hb15.cell (p := ⟨B5, 1, none⟩) (by show B5 < w14.heap.size; omega)).trans x5_1; have y5_1 := (hb15.frozen (p := ⟨B5, 1, none⟩) (by show B5 < w14.heap.size; omega)).trans y5_1; have x6_0 := (hb15.cell (p := ⟨w6.heap.size, 0, none⟩) (by show w6.heap.size < w14.heap.size; omega)).trans x6_0; have y6_0 := (hb15.frozen (p := ⟨w6.heap.size, 0, none⟩) (by show w6.heap.size < w14.heap.size; omega)).trans y6_0; have x6_1 := (hb15.cell (p := ⟨w6.heap.size, 1, none⟩) (by show w6.heap.size < w14.heap.size; omega)).trans x6_1; have y6_1 := (hb15.frozen (p := ⟨w6.heap.size, 1, none⟩) (by show w6.heap.size < w14.heap.size; omega)).trans y6_1; have zs := Nat.lt_of_lt_of_le zs hb15.size; have zq0 := Nat.lt_of_lt_of_le zq0 hb15.size; have zq1 := Nat.lt_of_lt_of_le zq1 hb15.size; have hB5' := Nat.lt_of_lt_of_le hB5' hb15.size; have zs_W6 := Nat.lt_of_lt_of_le zs_W6 hb15.size; have g0 := g0.to hb15; have g1 := g1.to hb15; have g2 := g2.to hb15; have g5 := g5.to hb15; have g6 := g6.to hb15; have g10 := g10.to hb15; have g12 := g12.to hb15; have g13 := g13.to hb15; have g14 := g14.to hb15; have zb := below_step zb hb15)
    | (go_at_call 40; (with_reducible refine (fix_z _ g0 A rfl).mono ?_); rintro e w14 ⟨ng14, a14_, n14_, c14_, rfl, Hng14, g14, hb14⟩; have hw_w14 : w.heap.size ≤ w13.heap.size := (by omega); have x0_0 := (hb14.cell (p := ⟨w.heap.size, 0, none⟩) (by show w.heap.size < w13.heap.size; omega)).trans x0_0; have y0_0 := (hb14.frozen (p := ⟨w.heap.size, 0, none⟩) (by show w.heap.size < w13.heap.size; omega)).trans y0_0; have x0_1 := (hb14.cell (p := ⟨w.heap.size, 1, none⟩) (by show w.heap.size < w13.heap.size; omega)).trans x0_1; have y0_1 := (hb14.frozen (p := ⟨w.heap.size, 1, none⟩) (by show w.heap.size < w13.heap.size; omega)).trans y0_1; have x1_0 := (hb14.cell (p := ⟨w.heap.size + 1, 0, none⟩) (by show w.heap.size + 1 < w13.heap.size; omega)).trans x1_0; have y1_0 := (hb14.frozen (p := ⟨w.heap.size + 1, 0, none⟩) (by show w.heap.size + 1 < w13.heap.size; omega)).trans y1_0; have x1_1 := (hb14.cell (p := ⟨w.heap.size + 1, 1, none⟩) (by show w.heap.size + 1 < w13.heap.size; omega)).trans x1_1; have y1_1 := (hb14.frozen (p := ⟨w.heap.size + 1, 1, none⟩) (by show w.heap.size + 1 < w13.heap.size; omega)).trans y1_1; have x2_0 := (hb14.cell (p := ⟨w.heap.size + 1 + 1, 0, none⟩) (by show w.heap.size + 1 + 1 < w13.heap.size; omega)).trans x2_0; have y2_0 := (hb14.frozen (p := ⟨w.heap.size + 1 + 1, 0, none⟩) (by show w.heap.size + 1 + 1 < w13.heap.size; omega)).trans y2_0; have x2_1 := (hb14.cell (p := ⟨w.heap.size + 1 + 1, 1, none⟩) (by show w.heap.size + 1 + 1 < w13.heap.size; omega)).trans x2_1; have y2_1 := (hb14.frozen (p := ⟨w.heap.size + 1 + 1, 1, none⟩) (by show w.heap.size + 1 + 1 < w13.heap.size; omega)).trans y2_1; have x5_0 := (hb14.cell (p := ⟨B5, 0, none⟩) (by show B5 < w13.heap.size; omega)).trans x5_0; have y5_0 := (hb14.frozen (p := ⟨B5, 0, none⟩) (by show B5 < w13.heap.size; omega)).trans y5_0; have x5_1 := (hb14.cell (p := ⟨B5, 1, none⟩) (by show B5 < w13.heap.size; omega)).trans x5_1; have y5_1 := (hb14.frozen (p := ⟨B5, 1, none⟩) (by show B5 < w13.heap.size; omega)).trans y5_1; have x6_0 := (hb14.cell (p := ⟨w6.heap.size, 0, none⟩) (by show w6.heap.size < w13.heap.size; omega)).trans x6_0; have y6_0 := (hb14.frozen (p := ⟨w6.heap.size, 0, none⟩) (by show w6.heap.size < w13.heap.size; omega)).trans y6_0; have x6_1 := (hb14.cell (p := ⟨w6.heap.size, 1, none⟩) (by show w6.heap.size < w13.heap.size; omega)).trans x6_1; have y6_1 := (hb14.frozen (p := ⟨w6.heap.size, 1, none⟩) (by show w6.heap.size < w13.heap.size; omega)).trans y6_1; have zs := Nat.lt_of_lt_of_le zs hb14.size; have zq0 := Nat.lt_of_lt_of_le zq0 hb14.size; have zq1 := Nat.lt_of_lt_of_le zq1 hb14.size; have hB5' := Nat.lt_of_lt_of_le hB5' hb14.size; have zs_W6 := Nat.lt_of_lt_of_le zs_W6 hb14.size; have g0 := g0.to hb14; have g1 := g1.to hb14; have g2 := g2.to hb14; have g5 := g5.to hb14; have g6 := g6.to hb14; have g10 := g10.to hb14; have g12 := g12.to hb14; have g13 := g13.to hb14; have zb := below_step zb hb14)
    | (go_at_call 41; (with_reducible refine (neg_z _ g12 A (by omega)).mono ?_); rintro e w13 ⟨ng13, a13_, n13_, c13_, rfl, Hng13, g13, hb13⟩; have hw_w13 : w.heap.size ≤ w12.heap.size := (by omega); have x0_0 := (hb13.cell (p := ⟨w.heap.size, 0, none⟩) (by show w.heap.size < w12.heap.size; omega)).trans x0_0; have y0_0 := (hb13.frozen (p := ⟨w.heap.size, 0, none⟩) (by show w.heap.size < w12.heap.size; omega)).trans y0_0; have x0_1 := (hb13.cell (p := ⟨w.heap.size, 1, none⟩) (by show w.heap.size < w12.heap.size; omega)).trans x0_1; have y0_1 := (hb13.frozen (p := ⟨w.heap.size, 1, none⟩) (by show w.heap.size < w12.heap.size; omega)).trans y0_1; have x1_0 := (hb13.cell (p := ⟨w.heap.size + 1, 0, none⟩) (by show w.heap.size + 1 < w12.heap.size; omega)).trans x1_0; have y1_0 := (hb13.frozen (p := ⟨w.heap.size + 1, 0, none⟩) (by show w.heap.size + 1 < w12.heap.size; omega)).trans y1_0; have x1_1 := (hb13.cell (p := ⟨w.heap.size + 1, 1, none⟩) (by show w.heap.size + 1 < w12.heap.size; omega)).trans x1_1; have y1_1 := (hb13.frozen (p := ⟨w.heap.size + 1, 1, none⟩) (by show w.heap.size + 1 < w12.heap.size; omega)).trans y1_1; have x2_0 := (hb13.cell (p := ⟨w.heap.size + 1 + 1, 0, none⟩) (by show w.heap.size + 1 + 1 < w12.heap.size; omega)).trans x2_0; have y2_0 := (hb13.frozen (p := ⟨w.heap.size + 1 + 1, 0, none⟩) (by show w.heap.size + 1 + 1 < w12.heap.size; omega)).trans y2_0; have x2_1 := (hb13.cell (p := ⟨w.heap.size + 1 + 1, 1, none⟩) (by show w.heap.size + 1 + 1 < w12.heap.size; omega)).trans x2_1; have y2_1 := (hb13.frozen (p := ⟨w.heap.size + 1 + 1, 1, none⟩) (by show w.heap.size + 1 + 1 < w12.heap.size; omega)).trans y2_1; have x5_0 := (hb13.cell (p := ⟨B5, 0, none⟩) (by show B5 < w12.heap.size; omega)).trans x5_0; have y5_0 := (hb13.frozen (p := ⟨B5, 0, none⟩) (by show B5 < w12.heap.size; omega)).trans y5_0; have x5_1 := (hb13.cell (p := ⟨B5, 1, none⟩) (by show B5 < w12.heap.size; omega)).trans x5_1; have y5_1 := (hb13.frozen (p := ⟨B5, 1, none⟩) (by show B5 < w12.heap.size; omega)).trans y5_1; have x6_0 := (hb13.cell (p := ⟨w6.heap.size, 0, none⟩) (by show w6.heap.size < w12.heap.size; omega)).trans x6_0; have y6_0 := (hb13.frozen (p := ⟨w6.heap.size, 0, none⟩) (by show w6.heap.size < w12.heap.size; omega)).trans y6_0; have x6_1 := (hb13.cell (p := ⟨w6.heap.size, 1, none⟩) (by show w6.heap.size < w12.heap.size; omega)).trans x6_1; have y6_1 := (hb13.frozen (p := ⟨w6.heap.size, 1, none⟩) (by show w6.heap.size < w12.heap.size; omega)).trans y6_1; have zs := Nat.lt_of_lt_of_le zs hb13.size; have zq0 := Nat.lt_of_lt_of_le zq0 hb13.size; have zq1 := Nat.lt_of_lt_of_le zq1 hb13.size; have hB5' := Nat.lt_of_lt_of_le hB5' hb13.size; have zs_W6 := Nat.lt_of_lt_of_le zs_W6 hb13.size; have g0 := g0.to hb13; have g1 := g1.to hb13; have g2 := g2.to hb13; have g5 := g5.to hb13; have g6 := g6.to hb13; have g10 := g10.to hb13; have g12 := g12.to hb13; have zb := below_step zb hb13)
    | (go_at_call 41; (with_reducible refine (neg_z _ g0 (-A) rfl).mono ?_); rintro e w12 ⟨ng12, a12_, n12_, c12_, rfl, Hng12, g12, hb12⟩; have hw_w12 : w.heap.size ≤ w11.heap.size := (by omega); have x0_0 := (hb12.cell (p := ⟨w.heap.size, 0, none⟩) (by show w.heap.size < w11.heap.size; omega)).trans x0_0; have y0_0 := (hb12.frozen (p := ⟨w.heap.size, 0, none⟩) (by show w.heap.size < w11.heap.size; omega)).trans y0_0; have x0_1 := (hb12.cell (p := ⟨w.heap.size, 1, none⟩) (by show w.heap.size < w11.heap.size; omega)).trans x0_1; have y0_1 := (hb12.frozen (p := ⟨w.heap.size, 1, none⟩) (by show w.heap.size < w11.heap.size; omega)).trans y0_1; have x1_0 := (hb12.cell (p := ⟨w.heap.size + 1, 0, none⟩) (by show w.heap.size + 1 < w11.heap.size; omega)).trans x1_0; have y1_0 := (hb12.frozen (p := ⟨w.heap.size + 1, 0, none⟩) (by show w.heap.size + 1 < w11.heap.size; omega)).trans y1_0; have x1_1 := (hb12.cell (p := ⟨w.heap.size + 1, 1, none⟩) (by show w.heap.size + 1 < w11.heap.size; omega)).trans x1_1; have y1_1 := (hb12.frozen (p := ⟨w.heap.size + 1, 1, none⟩) (by show w.heap.size + 1 < w11.heap.size; omega)).trans y1_1; have x2_0 := (hb12.cell (p := ⟨w.heap.size + 1 + 1, 0, none⟩) (by show w.heap.size + 1 + 1 < w11.heap.size; omega)).trans x2_0; have y2_0 := (hb12.frozen (p := ⟨w.heap.size + 1 + 1, 0, none⟩) (by show w.heap.size + 1 + 1 < w11.heap.size; omega)).trans y2_0; have x2_1 := (hb12.cell (p := ⟨w.heap.size + 1 + 1, 1, none⟩) (by show w.heap.size + 1 + 1 < w11.heap.size; omega)).trans x2_1; have y2_1 := (hb12.frozen (p := ⟨w.heap.size + 1 + 1, 1, none⟩) (by show w.heap.size + 1 + 1 < w11.heap.size; omega)).trans y2_1; have x5_0 := (hb12.cell (p := ⟨B5, 0, none⟩) (by show B5 < w11.heap.size; omega)).trans x5_0; have y5_0 := (hb12.frozen (p := ⟨B5, 0, none⟩) (by show B5 < w11.heap.size; omega)).trans y5_0; have x5_1 := (hb12.cell (p := ⟨B5, 1, none⟩) (by show B5 < w11.heap.size; omega)).trans x5_1; have y5_1 := (hb12.frozen (p := ⟨B5, 1, none⟩) (by show B5 < w11.heap.size; omega)).trans y5_1; have x6_0 := (hb12.cell (p := ⟨w6.heap.size, 0, none⟩) (by show w6.heap.size < w11.heap.size; omega)).trans x6_0; have y6_0 := (hb12.frozen (p := ⟨w6.heap.size, 0, none⟩) (by show w6.heap.size < w11.heap.size; omega)).trans y6_0; have x6_1 := (hb12.cell (p := ⟨w6.heap.size, 1, none⟩) (by show w6.heap.size < w11.heap.size; omega)).trans x6_1; have y6_1 := (hb12.frozen (p := ⟨w6.heap.size, 1, none⟩) (by show w6.heap.size < w11.heap.size; omega)).trans y6_1; have zs := Nat.lt_of_lt_of_le zs hb12.size; have zq0 := Nat.lt_of_lt_of_le zq0 hb12.size; have zq1 := Nat.lt_of_lt_of_le zq1 hb12.size; have hB5' := Nat.lt_of_lt_of_le hB5' hb12.size; have zs_W6 := Nat.lt_of_lt_of_le zs_W6 hb12.size; have g0 := g0.to hb12; have g1 := g1.to hb12; have g2 := g2.to hb12; have g5 := g5.to hb12; have g6 := g6.to hb12; have g10 := g10.to hb12; have zb := below_step zb hb12)
    | (go_at_call 31; (with_reducible refine (same_z _ g5 g10 Hng5 Hng10).mono ?_); rintro e w11 ⟨rfl, hb11⟩; have hw_w11 : w.heap.size ≤ w10.heap.size := (by omega); have x0_0 := (hb11.cell (p := ⟨w.heap.size, 0, none⟩) (by show w.heap.size < w10.heap.size; omega)).trans x0_0; have y0_0 := (hb11.frozen (p := ⟨w.heap.size, 0, none⟩) (by show w.heap.size < w10.heap.size; omega)).trans y0_0; have x0_1 := (hb11.cell (p := ⟨w.heap.size, 1, none⟩) (by show w.heap.size < w10.heap.size; omega)).trans x0_1; have y0_1 := (hb11.frozen (p := ⟨w.heap.size, 1, none⟩) (by show w.heap.size < w10.heap.size; omega)).trans y0_1; have x1_0 := (hb11.cell (p := ⟨w.heap.size + 1, 0, none⟩) (by show w.heap.size + 1 < w10.heap.size; omega)).trans x1_0; have y1_0 := (hb11.frozen (p := ⟨w.heap.size + 1, 0, none⟩) (by show w.heap.size + 1 < w10.heap.size; omega)).trans y1_0; have x1_1 := (hb11.cell (p := ⟨w.heap.size + 1, 1, none⟩) (by show w.heap.size + 1 < w10.heap.size; omega)).trans x1_1; have y1_1 := (hb11.frozen (p := ⟨w.heap.size + 1, 1, none⟩) (by show w.heap.size + 1 < w10.heap.size; omega)).trans y1_1; have x2_0 := (hb11.cell (p := ⟨w.heap.size + 1 + 1, 0, none⟩) (by show w.heap.size + 1 + 1 < w10.heap.size; omega)).trans x2_0; have y2_0 := (hb11.frozen (p := ⟨w.heap.size + 1 + 1, 0, none⟩) (by show w.heap.size + 1 + 1 < w10.heap.size; omega)).trans y2_0; have x2_1 := (hb11.cell (p := ⟨w.heap.size + 1 + 1, 1, none⟩) (by show w.heap.size + 1 + 1 < w10.heap.size; omega)).trans x2_1; have y2_1 := (hb11.frozen (p := ⟨w.heap.size + 1 + 1, 1, none⟩) (by show w.heap.size + 1 + 1 < w10.heap.size; omega)).trans y2_1; have x5_0 := (hb11.cell (p := ⟨B5, 0, none⟩) (by show B5 < w10.heap.size; omega)).trans x5_0; have y5_0 := (hb11.frozen (p := ⟨B5, 0, none⟩) (by show B5 < w10.heap.size; omega)).trans y5_0; have x5_1 := (hb11.cell (p := ⟨B5, 1, none⟩) (by show B5 < w10.heap.size; omega)).trans x5_1; have y5_1 := (hb11.frozen (p := ⟨B5, 1, none⟩) (by show B5 < w10.heap.size; omega)).trans y5_1; have x6_0 := (hb11.cell (p := ⟨w6.heap.size, 0, none⟩) (by show w6.heap.size < w10.heap.size; omega)).trans x6_0; have y6_0 := (hb11.frozen (p := ⟨w6.heap.size, 0, none⟩) (by show w6.heap.size < w10.heap.size; omega)).trans y6_0; have x6_1 := (hb11.cell (p := ⟨w6.heap.size, 1, none⟩) (by show w6.heap.size < w10.heap.size; omega)).trans x6_1; have y6_1 := (hb11.frozen (p := ⟨w6.heap.size, 1, none⟩) (by show w6.heap.size < w10.heap.size; omega)).trans y6_1; have zs := Nat.lt_of_lt_of_le zs hb11.size; have zq0 := Nat.lt_of_lt_of_le zq0 hb11.size; have zq1 := Nat.lt_of_lt_of_le zq1 hb11.size; have hB5' := Nat.lt_of_lt_of_le hB5' hb11.size; have zs_W6 := Nat.lt_of_lt_of_le zs_W6 hb11.size; have g0 := g0.to hb11; have g1 := g1.to hb11; have g2 := g2.to hb11; have g5 := g5.to hb11; have g6 := g6.to hb11; have g10 := g10.to hb11; have zb := below_step zb hb11)
    | (go_at_call 40; have g0 := g0.drew; have g1 := g1.drew; have g2 := g2.drew; have g5 := g5.drew; have g6 := g6.drew; have zb := zb.drew; (with_reducible refine (fix_z _ g0 A rfl).mono ?_); rintro e w10 ⟨ng10, a10_, n10_, c10_, rfl, Hng10, g10, hb10⟩; have hw_w10 : w.heap.size ≤ w7.heap.size := (by omega); have x0_0 := (hb10.cell (p := ⟨w.heap.size, 0, none⟩) (by show w.heap.size < w7.heap.size; omega)).trans x0_0; have y0_0 := (hb10.frozen (p := ⟨w.heap.size, 0, none⟩) (by show w.heap.size < w7.heap.size; omega)).trans y0_0; have x0_1 := (hb10.cell (p := ⟨w.heap.size, 1, none⟩) (by show w.heap.size < w7.heap.size; omega)).trans x0_1; have y0_1 := (hb10.frozen (p := ⟨w.heap.size, 1, none⟩) (by show w.heap.size < w7.heap.size; omega)).trans y0_1; have x1_0 := (hb10.cell (p := ⟨w.heap.size + 1, 0, none⟩) (by show w.heap.size + 1 < w7.heap.size; omega)).trans x1_0; have y1_0 := (hb10.frozen (p := ⟨w.heap.size + 1, 0, none⟩) (by show w.heap.size + 1 < w7.heap.size; omega)).trans y1_0; have x1_1 := (hb10.cell (p := ⟨w.heap.size + 1, 1, none⟩) (by show w.heap.size + 1 < w7.heap.size; omega)).trans x1_1; have y1_1 := (hb10.frozen (p := ⟨w.heap.size + 1, 1, none⟩) (by show w.heap.size + 1 < w7.heap.size; omega)).trans y1_1; have x2_0 := (hb10.cell (p := ⟨w.heap.size + 1 + 1, 0, none⟩) (by show w.heap.size + 1 + 1 < w7.heap.size; omega)).trans x2_0; have y2_0 := (hb10.frozen (p := ⟨w.heap.size + 1 + 1, 0, none⟩) (by show w.heap.size + 1 + 1 < w7.heap.size; omega)).trans y2_0; have x2_1 := (hb10.cell (p := ⟨w.heap.size + 1 + 1, 1, none⟩) (by show w.heap.size + 1 + 1 < w7.heap.size; omega)).trans x2_1; have y2_1 := (hb10.frozen (p := ⟨w.heap.size + 1 + 1, 1, none⟩) (by show w.heap.size + 1 + 1 < w7.heap.size; omega)).trans y2_1; have x5_0 := (hb10.cell (p := ⟨B5, 0, none⟩) (by show B5 < w7.heap.size; omega)).trans x5_0; have y5_0 := (hb10.frozen (p := ⟨B5, 0, none⟩) (by show B5 < w7.heap.size; omega)).trans y5_0; have x5_1 := (hb10.cell (p := ⟨B5, 1, none⟩) (by show B5 < w7.heap.size; omega)).trans x5_1; have y5_1 := (hb10.frozen (p := ⟨B5, 1, none⟩) (by show B5 < w7.heap.size; omega)).trans y5_1; have x6_0 := (hb10.cell (p := ⟨w6.heap.size, 0, none⟩) (by show w6.heap.size < w7.heap.size; omega)).trans x6_0; have y6_0 := (hb10.frozen (p := ⟨w6.heap.size, 0, none⟩) (by show w6.heap.size < w7.heap.size; omega)).trans y6_0; have x6_1 := (hb10.cell (p := ⟨w6.heap.size, 1, none⟩) (by show w6.heap.size < w7.heap.size; omega)).trans x6_1; have y6_1 := (hb10.frozen (p := ⟨w6.heap.size, 1, none⟩) (by show w6.heap.size < w7.heap.size; omega)).trans y6_1; have zs := Nat.lt_of_lt_of_le zs hb10.size; have zq0 := Nat.lt_of_lt_of_le zq0 hb10.size; have zq1 := Nat.lt_of_lt_of_le zq1 hb10.size; have hB5' := Nat.lt_of_lt_of_le hB5' hb10.size; have zs_W6 := Nat.lt_of_lt_of_le zs_W6 hb10.size; have g0 := g0.to hb10; have g1 := g1.to hb10; have g2 := g2.to hb10; have g5 := g5.to hb10; have g6 := g6.to hb10; have zb := below_step zb hb10))
  go_wp2_with fail
  go_ret
  exact ⟨by first | rfl | exact ret_bool (by simp), zb⟩

end Go.Proofs.Yteokdkcanckfeaa
