/-
  The walks of the laws of layer 8.
-/
import Derived.Test.YtmjnlpanlgmdmaaGreatG12
import Derived.Test.YtmjnlpanlgmdmaaGreatG19
import Derived.Test.YtmjnlpanlgmdmaaGreatWRat10
import Derived.Test.YtmjnlpanlgmdmaaGreatWRat11
import Derived.Test.YtmjnlpanlgmdmaaGreatG05
import Derived.Deep.RegionHeld3
import Derived.Deep.Cut
import Derived.Deep.DrawnRows
import Derived.Laws.EntriesVeiled
namespace Go.Proofs.YtmjnlpanlgmdmaaGreat
open Go.RowKit Tw
set_option linter.unusedVariables false
set_option linter.unusedSimpArgs false
attribute [local go_sem ↓] Go.wp_at_zero Go.wp_at_succ

set_option maxRecDepth 100000 in
set_option maxHeartbeats 60000000 in
theorem walk_RatioReckons (b0 : Bool) (v0 : Value) (l0 : List Nat) (u0 : Value) (m0 : List Nat) (b1 : Bool) (v1 : Value) (l1 : List Nat) (u1 : Value) (m1 : List Nat) (w : World) (hn0 : Rd w v0 l0) (hd0 : Rd w u0 m0) (hn1 : Rd w v1 l1) (hd1 : Rd w u1 m1) :
    Calls Tryz.prog 3 #[aggR b0 v0 u0, aggR b1 v1 u1] w (Holds w) := by
  have h0 : IsF w v0 u0 l0 m0 := ⟨hn0, hd0⟩
  clear hn0 hd0
  have h1 : IsF w v1 u1 l1 m1 := ⟨hn1, hd1⟩
  clear hn1 hd1
  obtain ⟨a0, n0, c0, rfl, H0, hm0⟩ := h0.1.open
  obtain ⟨a1, n1, c1, rfl, H1, hm1⟩ := h0.2.open
  obtain ⟨a2, n2, c2, rfl, H2, hm2⟩ := h1.1.open
  obtain ⟨a3, n3, c3, rfl, H3, hm3⟩ := h1.2.open
  by_cases hf : n0 ≤ 4 ∧ n1 ≤ 4 ∧ n2 ≤ 4 ∧ n3 ≤ 4
  rotate_left
  · skip
    go_enter Tryz.func3, Tryz.ntmps3
    go_wp2_with fail
    obtain ⟨W0, hW0⟩ : ∃ W0, (w.alloc (.cells #[.bool b0, .slice a0 n0 c0, .slice a1 n1 c1] 24)).alloc (.cells #[.bool b1, .slice a2 n2 c2, .slice a3 n3 c3] 24) = W0 := ⟨_, rfl⟩
    have HXW0 := Lib.hid (show ∀ W', Below W0.heap.size W0 W' → (W'.cell? ⟨w.heap.size, 0, none⟩ = some (.bool b0) ∧ W'.cell? ⟨w.heap.size, 1, none⟩ = some (.slice a0 n0 c0) ∧ W'.cell? ⟨w.heap.size, 2, none⟩ = some (.slice a1 n1 c1) ∧ W'.cell? ⟨w.heap.size + 1, 0, none⟩ = some (.bool b1) ∧ W'.cell? ⟨w.heap.size + 1, 1, none⟩ = some (.slice a2 n2 c2) ∧ W'.cell? ⟨w.heap.size + 1, 2, none⟩ = some (.slice a3 n3 c3)) from fun W' hb =>
      ⟨(hb.cell (p := ⟨w.heap.size, 0, none⟩) (by rw [← hW0]; simp <;> omega)).trans (by rw [← hW0]; simp [go_sem]), (hb.cell (p := ⟨w.heap.size, 1, none⟩) (by rw [← hW0]; simp <;> omega)).trans (by rw [← hW0]; simp [go_sem]), (hb.cell (p := ⟨w.heap.size, 2, none⟩) (by rw [← hW0]; simp <;> omega)).trans (by rw [← hW0]; simp [go_sem]), (hb.cell (p := ⟨w.heap.size + 1, 0, none⟩) (by rw [← hW0]; simp <;> omega)).trans (by rw [← hW0]; simp [go_sem]), (hb.cell (p := ⟨w.heap.size + 1, 1, none⟩) (by rw [← hW0]; simp <;> omega)).trans (by rw [← hW0]; simp [go_sem]), (hb.cell (p := ⟨w.heap.size + 1, 2, none⟩) (by rw [← hW0]; simp <;> omega)).trans (by rw [← hW0]; simp [go_sem])⟩)
    have HYW0 := Lib.hid (show ∀ W', Below W0.heap.size W0 W' → (W'.frozen? ⟨w.heap.size, 0, none⟩ = false ∧ W'.frozen? ⟨w.heap.size, 1, none⟩ = false ∧ W'.frozen? ⟨w.heap.size, 2, none⟩ = false ∧ W'.frozen? ⟨w.heap.size + 1, 0, none⟩ = false ∧ W'.frozen? ⟨w.heap.size + 1, 1, none⟩ = false ∧ W'.frozen? ⟨w.heap.size + 1, 2, none⟩ = false) from fun W' hb =>
      ⟨(hb.frozen (p := ⟨w.heap.size, 0, none⟩) (by rw [← hW0]; simp <;> omega)).trans (by rw [← hW0]; simp [go_sem]), (hb.frozen (p := ⟨w.heap.size, 1, none⟩) (by rw [← hW0]; simp <;> omega)).trans (by rw [← hW0]; simp [go_sem]), (hb.frozen (p := ⟨w.heap.size, 2, none⟩) (by rw [← hW0]; simp <;> omega)).trans (by rw [← hW0]; simp [go_sem]), (hb.frozen (p := ⟨w.heap.size + 1, 0, none⟩) (by rw [← hW0]; simp <;> omega)).trans (by rw [← hW0]; simp [go_sem]), (hb.frozen (p := ⟨w.heap.size + 1, 1, none⟩) (by rw [← hW0]; simp <;> omega)).trans (by rw [← hW0]; simp [go_sem]), (hb.frozen (p := ⟨w.heap.size + 1, 2, none⟩) (by rw [← hW0]; simp <;> omega)).trans (by rw [← hW0]; simp [go_sem])⟩)
    have HZW0 := Lib.hid (show ∀ W', Below W0.heap.size W0 W' → (w.heap.size < W'.heap.size ∧ w.heap.size + 1 < W'.heap.size) from fun W' hb =>
      ⟨Nat.lt_of_lt_of_le (by rw [← hW0]; simp <;> omega) hb.size, Nat.lt_of_lt_of_le (by rw [← hW0]; simp <;> omega) hb.size⟩)
    have zb : Below w.heap.size w W0 := by rw [← hW0]; exact below_step (below_new _ _) (below_new _ _)
    rw [hW0]
    clear hW0
    have i0 := h0.to zb
    have i1 := h1.to zb
    have gb : Below W0.heap.size W0 W0 := Below.refl _ _
    obtain ⟨x0_0, x0_1, x0_2, x1_0, x1_1, x1_2⟩ := HXW0.out _ gb
    obtain ⟨y0_0, y0_1, y0_2, y1_0, y1_1, y1_2⟩ := HYW0.out _ gb
    obtain ⟨z0, z1⟩ := HZW0.out _ gb
    refine (awake8 _).mono ?_
    clear x0_0 y0_0 x0_1 y0_1 x0_2 y0_2 x1_0 y1_0 x1_1 y1_1 x1_2 y1_2
    rintro e w1 ⟨rfl, hb1⟩
    replace gb := below_step gb hb1
    obtain ⟨x0_0, x0_1, x0_2, x1_0, x1_1, x1_2⟩ := HXW0.out _ gb
    obtain ⟨y0_0, y0_1, y0_2, y1_0, y1_1, y1_2⟩ := HYW0.out _ gb
    obtain ⟨z0, z1⟩ := HZW0.out _ gb
    go_wp2_with fail
    refine (law8_few _ _ _ _ _ _ _ _ _ _ _ _ _ _ _ _ _ _ _ _ _ false _ (decide_eq_false (by omega))).mono ?_
    clear x0_0 y0_0 x0_1 y0_1 x0_2 y0_2 x1_0 y1_0 x1_1 y1_1 x1_2 y1_2
    rintro e w2 ⟨rfl, hb2⟩
    replace gb := below_step gb hb2
    obtain ⟨x0_0, x0_1, x0_2, x1_0, x1_1, x1_2⟩ := HXW0.out _ gb
    obtain ⟨y0_0, y0_1, y0_2, y1_0, y1_1, y1_2⟩ := HYW0.out _ gb
    obtain ⟨z0, z1⟩ := HZW0.out _ gb
    go_wp2_with fail
    go_ret
    exact ⟨rfl, below_step zb gb⟩
  have hlens := hf
  have e1 := H0.out
  have e2 := H1.out
  obtain ⟨A, hh⟩ : ∃ z, rat b0 (val l0) (val m0) = z := ⟨_, rfl⟩
  have i0 : IsQ w b0 (.slice a0 n0 c0) (.slice a1 n1 c1) l0 m0 A := ⟨h0.1, h0.2, hh, by omega, by omega⟩
  have HBA : Hid (szq A ≤ 4) := by
    show _ ≤ _
    rw [← hh]
    refine Nat.le_trans (szq_rat _ _ _) ?_
    have k1 := sz_val h0.1.1
    have k2 := sz_val h0.2.1
    omega
  have HCA : Hid (szq A ≤ 1000) := Nat.le_trans HBA.out (by omega)
  have HRA := Lib.hid hh
  clear hh e1 e2
  have e1 := H2.out
  have e2 := H3.out
  obtain ⟨B, hh⟩ : ∃ z, rat b1 (val l1) (val m1) = z := ⟨_, rfl⟩
  have i1 : IsQ w b1 (.slice a2 n2 c2) (.slice a3 n3 c3) l1 m1 B := ⟨h1.1, h1.2, hh, by omega, by omega⟩
  have HBB : Hid (szq B ≤ 4) := by
    show _ ≤ _
    rw [← hh]
    refine Nat.le_trans (szq_rat _ _ _) ?_
    have k1 := sz_val h1.1.1
    have k2 := sz_val h1.2.1
    omega
  have HCB : Hid (szq B ≤ 1000) := Nat.le_trans HBB.out (by omega)
  have HRB := Lib.hid hh
  clear hh e1 e2
  have HB25 : Hid (szq ((A + B)) ≤ 9) := by
    have h1 : szq (A) ≤ 4 := HBA.out
    have h2 : szq (B) ≤ 4 := HBB.out
    have := szq_add (A) (B)
    show _ ≤ _
    omega
  have HC25 : Hid (szq ((A + B)) ≤ 1000) := Nat.le_trans HB25.out (by omega)
  have HB26 : Hid (szq ((A - B)) ≤ 9) := by
    have h1 : szq (A) ≤ 4 := HBA.out
    have h2 : szq (B) ≤ 4 := HBB.out
    have := szq_sub (A) (B)
    show _ ≤ _
    omega
  have HC26 : Hid (szq ((A - B)) ≤ 1000) := Nat.le_trans HB26.out (by omega)
  have HB27 : Hid (szq ((A * B)) ≤ 8) := by
    have h1 : szq (A) ≤ 4 := HBA.out
    have h2 : szq (B) ≤ 4 := HBB.out
    have := szq_mul (A) (B)
    show _ ≤ _
    omega
  have HC27 : Hid (szq ((A * B)) ≤ 1000) := Nat.le_trans HB27.out (by omega)
  obtain ⟨mg, r1, r2, rk, P1, P2⟩ := div_both (x := A) (y := B) b0 (.slice a0 n0 c0) (.slice a1 n1 c1) l0 m0 b1 (.slice a2 n2 c2) (.slice a3 n3 c3) l1 m1 (Nat.le_trans HBA.out (by omega)) (Nat.le_trans HBB.out (by omega))
  have M1 := Lib.hid P1
  have M2 := Lib.hid P2
  clear P1 P2
  obtain ⟨kk, hk⟩ : ∃ k, cmpQ A B = k := ⟨_, rfl⟩
  have HK := Lib.hid hk
  have HSM : Hid (decide (A = B) = (kk == 0)) := by show _ = _; rw [← hk]; exact (same_cmp A B).symm
  clear hk
  have HF := Lib.hid (show decide (n0 ≤ 4 ∧ n1 ≤ 4 ∧ n2 ≤ 4 ∧ n3 ≤ 4 ∧ n0 ≤ 4 ∧ n1 ≤ 4) = true from decide_eq_true (by omega))
  clear hf hlens
  go_enter Tryz.func3, Tryz.ntmps3
  go_wp2_with fail
  obtain ⟨W0, hW0⟩ : ∃ W0, (w.alloc (.cells #[.bool b0, .slice a0 n0 c0, .slice a1 n1 c1] 24)).alloc (.cells #[.bool b1, .slice a2 n2 c2, .slice a3 n3 c3] 24) = W0 := ⟨_, rfl⟩
  have HXW0 := Lib.hid (show ∀ W', Below W0.heap.size W0 W' → (W'.cell? ⟨w.heap.size, 0, none⟩ = some (.bool b0) ∧ W'.cell? ⟨w.heap.size, 1, none⟩ = some (.slice a0 n0 c0) ∧ W'.cell? ⟨w.heap.size, 2, none⟩ = some (.slice a1 n1 c1) ∧ W'.cell? ⟨w.heap.size + 1, 0, none⟩ = some (.bool b1) ∧ W'.cell? ⟨w.heap.size + 1, 1, none⟩ = some (.slice a2 n2 c2) ∧ W'.cell? ⟨w.heap.size + 1, 2, none⟩ = some (.slice a3 n3 c3)) from fun W' hb =>
    ⟨(hb.cell (p := ⟨w.heap.size, 0, none⟩) (by rw [← hW0]; simp <;> omega)).trans (by rw [← hW0]; simp [go_sem]), (hb.cell (p := ⟨w.heap.size, 1, none⟩) (by rw [← hW0]; simp <;> omega)).trans (by rw [← hW0]; simp [go_sem]), (hb.cell (p := ⟨w.heap.size, 2, none⟩) (by rw [← hW0]; simp <;> omega)).trans (by rw [← hW0]; simp [go_sem]), (hb.cell (p := ⟨w.heap.size + 1, 0, none⟩) (by rw [← hW0]; simp <;> omega)).trans (by rw [← hW0]; simp [go_sem]), (hb.cell (p := ⟨w.heap.size + 1, 1, none⟩) (by rw [← hW0]; simp <;> omega)).trans (by rw [← hW0]; simp [go_sem]), (hb.cell (p := ⟨w.heap.size + 1, 2, none⟩) (by rw [← hW0]; simp <;> omega)).trans (by rw [← hW0]; simp [go_sem])⟩)
  have HYW0 := Lib.hid (show ∀ W', Below W0.heap.size W0 W' → (W'.frozen? ⟨w.heap.size, 0, none⟩ = false ∧ W'.frozen? ⟨w.heap.size, 1, none⟩ = false ∧ W'.frozen? ⟨w.heap.size, 2, none⟩ = false ∧ W'.frozen? ⟨w.heap.size + 1, 0, none⟩ = false ∧ W'.frozen? ⟨w.heap.size + 1, 1, none⟩ = false ∧ W'.frozen? ⟨w.heap.size + 1, 2, none⟩ = false) from fun W' hb =>
    ⟨(hb.frozen (p := ⟨w.heap.size, 0, none⟩) (by rw [← hW0]; simp <;> omega)).trans (by rw [← hW0]; simp [go_sem]), (hb.frozen (p := ⟨w.heap.size, 1, none⟩) (by rw [← hW0]; simp <;> omega)).trans (by rw [← hW0]; simp [go_sem]), (hb.frozen (p := ⟨w.heap.size, 2, none⟩) (by rw [← hW0]; simp <;> omega)).trans (by rw [← hW0]; simp [go_sem]), (hb.frozen (p := ⟨w.heap.size + 1, 0, none⟩) (by rw [← hW0]; simp <;> omega)).trans (by rw [← hW0]; simp [go_sem]), (hb.frozen (p := ⟨w.heap.size + 1, 1, none⟩) (by rw [← hW0]; simp <;> omega)).trans (by rw [← hW0]; simp [go_sem]), (hb.frozen (p := ⟨w.heap.size + 1, 2, none⟩) (by rw [← hW0]; simp <;> omega)).trans (by rw [← hW0]; simp [go_sem])⟩)
  have HZW0 := Lib.hid (show ∀ W', Below W0.heap.size W0 W' → (w.heap.size < W'.heap.size ∧ w.heap.size + 1 < W'.heap.size) from fun W' hb =>
    ⟨Nat.lt_of_lt_of_le (by rw [← hW0]; simp <;> omega) hb.size, Nat.lt_of_lt_of_le (by rw [← hW0]; simp <;> omega) hb.size⟩)
  have zb : Below w.heap.size w W0 := by rw [← hW0]; exact below_step (below_new _ _) (below_new _ _)
  rw [hW0]
  clear hW0
  have i0 := i0.to zb
  have i1 := i1.to zb
  have gb : Below W0.heap.size W0 W0 := Below.refl _ _
  obtain ⟨x0_0, x0_1, x0_2, x1_0, x1_1, x1_2⟩ := HXW0.out _ gb
  obtain ⟨y0_0, y0_1, y0_2, y1_0, y1_1, y1_2⟩ := HYW0.out _ gb
  obtain ⟨z0, z1⟩ := HZW0.out _ gb
  refine (awake8 _).mono ?_
  clear x0_0 y0_0 x0_1 y0_1 x0_2 y0_2 x1_0 y1_0 x1_1 y1_1 x1_2 y1_2
  rintro e w1 ⟨rfl, hb1⟩
  replace gb := below_step gb hb1
  obtain ⟨x0_0, x0_1, x0_2, x1_0, x1_1, x1_2⟩ := HXW0.out _ gb
  obtain ⟨y0_0, y0_1, y0_2, y1_0, y1_1, y1_2⟩ := HYW0.out _ gb
  obtain ⟨z0, z1⟩ := HZW0.out _ gb
  go_wp2_with fail
  refine (law8_few _ _ _ _ _ _ _ _ _ _ _ _ _ _ _ _ _ _ _ _ _ true _ HF.out).mono ?_
  clear x0_0 y0_0 x0_1 y0_1 x0_2 y0_2 x1_0 y1_0 x1_1 y1_1 x1_2 y1_2
  rintro e w2 ⟨rfl, hb2⟩
  replace gb := below_step gb hb2
  obtain ⟨x0_0, x0_1, x0_2, x1_0, x1_1, x1_2⟩ := HXW0.out _ gb
  obtain ⟨y0_0, y0_1, y0_2, y1_0, y1_1, y1_2⟩ := HYW0.out _ gb
  obtain ⟨z0, z1⟩ := HZW0.out _ gb
  go_wp2_with fail
  refine (M1.out _ (i0.to gb) (i1.to gb)).mono ?_
  clear x0_0 y0_0 x0_1 y0_1 x0_2 y0_2 x1_0 y1_0 x1_1 y1_1 x1_2 y1_2
  rintro e w3 ⟨a3_, n3_, c3_, p3_, m3_, k3_, rfl, g3, hb3⟩
  replace gb := below_step gb hb3
  obtain ⟨x0_0, x0_1, x0_2, x1_0, x1_1, x1_2⟩ := HXW0.out _ gb
  obtain ⟨y0_0, y0_1, y0_2, y1_0, y1_1, y1_2⟩ := HYW0.out _ gb
  obtain ⟨z0, z1⟩ := HZW0.out _ gb
  go_wp2_with fail
  obtain ⟨W3, hW3⟩ : ∃ W3, w3.alloc (.cells #[.bool mg, .slice a3_ n3_ c3_, .slice p3_ m3_ k3_] 24) = W3 := ⟨_, rfl⟩
  have hb_W3 : Below w3.heap.size w3 W3 := by rw [← hW3]; exact below_new _ _
  have hs_W3 : Hid (W3.heap.size = w3.heap.size + 1) := by show _ = _; rw [← hW3]; simp
  clear x0_0 y0_0 x0_1 y0_1 x0_2 y0_2 x1_0 y1_0 x1_1 y1_1 x1_2 y1_2
  replace g3 := g3.to hb_W3
  replace gb := below_step gb hb_W3
  obtain ⟨x0_0, x0_1, x0_2, x1_0, x1_1, x1_2⟩ := HXW0.out _ gb
  obtain ⟨y0_0, y0_1, y0_2, y1_0, y1_1, y1_2⟩ := HYW0.out _ gb
  obtain ⟨z0, z1⟩ := HZW0.out _ gb
  have x7_0 : W3.cell? ⟨w3.heap.size, 0, none⟩ = some (.bool mg) := by rw [← hW3]; simp [go_sem]
  have y7_0 : W3.frozen? ⟨w3.heap.size, 0, none⟩ = false := by rw [← hW3]; simp [go_sem]
  have x7_1 : W3.cell? ⟨w3.heap.size, 1, none⟩ = some (.slice a3_ n3_ c3_) := by rw [← hW3]; simp [go_sem]
  have y7_1 : W3.frozen? ⟨w3.heap.size, 1, none⟩ = false := by rw [← hW3]; simp [go_sem]
  have x7_2 : W3.cell? ⟨w3.heap.size, 2, none⟩ = some (.slice p3_ m3_ k3_) := by rw [← hW3]; simp [go_sem]
  have y7_2 : W3.frozen? ⟨w3.heap.size, 2, none⟩ = false := by rw [← hW3]; simp [go_sem]
  have z7 : w3.heap.size < W3.heap.size := by rw [← hW3]; simp
  rw [hW3]
  clear hW3
  replace i0 := i0.to gb
  replace i1 := i1.to gb
  replace zb := below_step zb gb
  have HXW3 := Lib.hid (show ∀ W', Below W3.heap.size W3 W' → (W'.cell? ⟨w.heap.size, 0, none⟩ = some (.bool b0) ∧ W'.cell? ⟨w.heap.size, 1, none⟩ = some (.slice a0 n0 c0) ∧ W'.cell? ⟨w.heap.size, 2, none⟩ = some (.slice a1 n1 c1) ∧ W'.cell? ⟨w.heap.size + 1, 0, none⟩ = some (.bool b1) ∧ W'.cell? ⟨w.heap.size + 1, 1, none⟩ = some (.slice a2 n2 c2) ∧ W'.cell? ⟨w.heap.size + 1, 2, none⟩ = some (.slice a3 n3 c3) ∧ W'.cell? ⟨w3.heap.size, 0, none⟩ = some (.bool mg) ∧ W'.cell? ⟨w3.heap.size, 1, none⟩ = some (.slice a3_ n3_ c3_) ∧ W'.cell? ⟨w3.heap.size, 2, none⟩ = some (.slice p3_ m3_ k3_)) from fun W' hb =>
    ⟨(hb.cell (p := ⟨w.heap.size, 0, none⟩) z0).trans x0_0, (hb.cell (p := ⟨w.heap.size, 1, none⟩) z0).trans x0_1, (hb.cell (p := ⟨w.heap.size, 2, none⟩) z0).trans x0_2, (hb.cell (p := ⟨w.heap.size + 1, 0, none⟩) z1).trans x1_0, (hb.cell (p := ⟨w.heap.size + 1, 1, none⟩) z1).trans x1_1, (hb.cell (p := ⟨w.heap.size + 1, 2, none⟩) z1).trans x1_2, (hb.cell (p := ⟨w3.heap.size, 0, none⟩) z7).trans x7_0, (hb.cell (p := ⟨w3.heap.size, 1, none⟩) z7).trans x7_1, (hb.cell (p := ⟨w3.heap.size, 2, none⟩) z7).trans x7_2⟩)
  have HYW3 := Lib.hid (show ∀ W', Below W3.heap.size W3 W' → (W'.frozen? ⟨w.heap.size, 0, none⟩ = false ∧ W'.frozen? ⟨w.heap.size, 1, none⟩ = false ∧ W'.frozen? ⟨w.heap.size, 2, none⟩ = false ∧ W'.frozen? ⟨w.heap.size + 1, 0, none⟩ = false ∧ W'.frozen? ⟨w.heap.size + 1, 1, none⟩ = false ∧ W'.frozen? ⟨w.heap.size + 1, 2, none⟩ = false ∧ W'.frozen? ⟨w3.heap.size, 0, none⟩ = false ∧ W'.frozen? ⟨w3.heap.size, 1, none⟩ = false ∧ W'.frozen? ⟨w3.heap.size, 2, none⟩ = false) from fun W' hb =>
    ⟨(hb.frozen (p := ⟨w.heap.size, 0, none⟩) z0).trans y0_0, (hb.frozen (p := ⟨w.heap.size, 1, none⟩) z0).trans y0_1, (hb.frozen (p := ⟨w.heap.size, 2, none⟩) z0).trans y0_2, (hb.frozen (p := ⟨w.heap.size + 1, 0, none⟩) z1).trans y1_0, (hb.frozen (p := ⟨w.heap.size + 1, 1, none⟩) z1).trans y1_1, (hb.frozen (p := ⟨w.heap.size + 1, 2, none⟩) z1).trans y1_2, (hb.frozen (p := ⟨w3.heap.size, 0, none⟩) z7).trans y7_0, (hb.frozen (p := ⟨w3.heap.size, 1, none⟩) z7).trans y7_1, (hb.frozen (p := ⟨w3.heap.size, 2, none⟩) z7).trans y7_2⟩)
  have HZW3 := Lib.hid (show ∀ W', Below W3.heap.size W3 W' → (w.heap.size < W'.heap.size ∧ w.heap.size + 1 < W'.heap.size ∧ w3.heap.size < W'.heap.size) from fun W' hb =>
    ⟨Nat.lt_of_lt_of_le z0 hb.size, Nat.lt_of_lt_of_le z1 hb.size, Nat.lt_of_lt_of_le z7 hb.size⟩)
  replace gb := Below.refl W3.heap.size W3
  go_wp2_with fail
  refine (M2.out _ (i0.to gb) (i1.to gb)).mono ?_
  clear x0_0 y0_0 x0_1 y0_1 x0_2 y0_2 x1_0 y1_0 x1_1 y1_1 x1_2 y1_2 x7_0 y7_0 x7_1 y7_1 x7_2 y7_2
  rintro e w4 ⟨a4_, n4_, c4_, p4_, m4_, k4_, rfl, g4, hb4⟩
  replace gb := below_step gb hb4
  obtain ⟨x0_0, x0_1, x0_2, x1_0, x1_1, x1_2, x7_0, x7_1, x7_2⟩ := HXW3.out _ gb
  obtain ⟨y0_0, y0_1, y0_2, y1_0, y1_1, y1_2, y7_0, y7_1, y7_2⟩ := HYW3.out _ gb
  obtain ⟨z0, z1, z7⟩ := HZW3.out _ gb
  go_wp2_with fail
  obtain ⟨W4, hW4⟩ : ∃ W4, w4.alloc (.cells #[.bool mg, .slice a4_ n4_ c4_, .slice p4_ m4_ k4_] 24) = W4 := ⟨_, rfl⟩
  have hb_W4 : Below w4.heap.size w4 W4 := by rw [← hW4]; exact below_new _ _
  have hs_W4 : Hid (W4.heap.size = w4.heap.size + 1) := by show _ = _; rw [← hW4]; simp
  clear x0_0 y0_0 x0_1 y0_1 x0_2 y0_2 x1_0 y1_0 x1_1 y1_1 x1_2 y1_2 x7_0 y7_0 x7_1 y7_1 x7_2 y7_2
  replace g4 := g4.to hb_W4
  replace gb := below_step gb hb_W4
  obtain ⟨x0_0, x0_1, x0_2, x1_0, x1_1, x1_2, x7_0, x7_1, x7_2⟩ := HXW3.out _ gb
  obtain ⟨y0_0, y0_1, y0_2, y1_0, y1_1, y1_2, y7_0, y7_1, y7_2⟩ := HYW3.out _ gb
  obtain ⟨z0, z1, z7⟩ := HZW3.out _ gb
  have x8_0 : W4.cell? ⟨w4.heap.size, 0, none⟩ = some (.bool mg) := by rw [← hW4]; simp [go_sem]
  have y8_0 : W4.frozen? ⟨w4.heap.size, 0, none⟩ = false := by rw [← hW4]; simp [go_sem]
  have x8_1 : W4.cell? ⟨w4.heap.size, 1, none⟩ = some (.slice a4_ n4_ c4_) := by rw [← hW4]; simp [go_sem]
  have y8_1 : W4.frozen? ⟨w4.heap.size, 1, none⟩ = false := by rw [← hW4]; simp [go_sem]
  have x8_2 : W4.cell? ⟨w4.heap.size, 2, none⟩ = some (.slice p4_ m4_ k4_) := by rw [← hW4]; simp [go_sem]
  have y8_2 : W4.frozen? ⟨w4.heap.size, 2, none⟩ = false := by rw [← hW4]; simp [go_sem]
  have z8 : w4.heap.size < W4.heap.size := by rw [← hW4]; simp
  rw [hW4]
  clear hW4
  replace i0 := i0.to gb
  replace i1 := i1.to gb
  replace g3 := g3.to gb
  replace zb := below_step zb gb
  have HXW4 := Lib.hid (show ∀ W', Below W4.heap.size W4 W' → (W'.cell? ⟨w.heap.size, 0, none⟩ = some (.bool b0) ∧ W'.cell? ⟨w.heap.size, 1, none⟩ = some (.slice a0 n0 c0) ∧ W'.cell? ⟨w.heap.size, 2, none⟩ = some (.slice a1 n1 c1) ∧ W'.cell? ⟨w.heap.size + 1, 0, none⟩ = some (.bool b1) ∧ W'.cell? ⟨w.heap.size + 1, 1, none⟩ = some (.slice a2 n2 c2) ∧ W'.cell? ⟨w.heap.size + 1, 2, none⟩ = some (.slice a3 n3 c3) ∧ W'.cell? ⟨w3.heap.size, 0, none⟩ = some (.bool mg) ∧ W'.cell? ⟨w3.heap.size, 1, none⟩ = some (.slice a3_ n3_ c3_) ∧ W'.cell? ⟨w3.heap.size, 2, none⟩ = some (.slice p3_ m3_ k3_) ∧ W'.cell? ⟨w4.heap.size, 0, none⟩ = some (.bool mg) ∧ W'.cell? ⟨w4.heap.size, 1, none⟩ = some (.slice a4_ n4_ c4_) ∧ W'.cell? ⟨w4.heap.size, 2, none⟩ = some (.slice p4_ m4_ k4_)) from fun W' hb =>
    ⟨(hb.cell (p := ⟨w.heap.size, 0, none⟩) z0).trans x0_0, (hb.cell (p := ⟨w.heap.size, 1, none⟩) z0).trans x0_1, (hb.cell (p := ⟨w.heap.size, 2, none⟩) z0).trans x0_2, (hb.cell (p := ⟨w.heap.size + 1, 0, none⟩) z1).trans x1_0, (hb.cell (p := ⟨w.heap.size + 1, 1, none⟩) z1).trans x1_1, (hb.cell (p := ⟨w.heap.size + 1, 2, none⟩) z1).trans x1_2, (hb.cell (p := ⟨w3.heap.size, 0, none⟩) z7).trans x7_0, (hb.cell (p := ⟨w3.heap.size, 1, none⟩) z7).trans x7_1, (hb.cell (p := ⟨w3.heap.size, 2, none⟩) z7).trans x7_2, (hb.cell (p := ⟨w4.heap.size, 0, none⟩) z8).trans x8_0, (hb.cell (p := ⟨w4.heap.size, 1, none⟩) z8).trans x8_1, (hb.cell (p := ⟨w4.heap.size, 2, none⟩) z8).trans x8_2⟩)
  have HYW4 := Lib.hid (show ∀ W', Below W4.heap.size W4 W' → (W'.frozen? ⟨w.heap.size, 0, none⟩ = false ∧ W'.frozen? ⟨w.heap.size, 1, none⟩ = false ∧ W'.frozen? ⟨w.heap.size, 2, none⟩ = false ∧ W'.frozen? ⟨w.heap.size + 1, 0, none⟩ = false ∧ W'.frozen? ⟨w.heap.size + 1, 1, none⟩ = false ∧ W'.frozen? ⟨w.heap.size + 1, 2, none⟩ = false ∧ W'.frozen? ⟨w3.heap.size, 0, none⟩ = false ∧ W'.frozen? ⟨w3.heap.size, 1, none⟩ = false ∧ W'.frozen? ⟨w3.heap.size, 2, none⟩ = false ∧ W'.frozen? ⟨w4.heap.size, 0, none⟩ = false ∧ W'.frozen? ⟨w4.heap.size, 1, none⟩ = false ∧ W'.frozen? ⟨w4.heap.size, 2, none⟩ = false) from fun W' hb =>
    ⟨(hb.frozen (p := ⟨w.heap.size, 0, none⟩) z0).trans y0_0, (hb.frozen (p := ⟨w.heap.size, 1, none⟩) z0).trans y0_1, (hb.frozen (p := ⟨w.heap.size, 2, none⟩) z0).trans y0_2, (hb.frozen (p := ⟨w.heap.size + 1, 0, none⟩) z1).trans y1_0, (hb.frozen (p := ⟨w.heap.size + 1, 1, none⟩) z1).trans y1_1, (hb.frozen (p := ⟨w.heap.size + 1, 2, none⟩) z1).trans y1_2, (hb.frozen (p := ⟨w3.heap.size, 0, none⟩) z7).trans y7_0, (hb.frozen (p := ⟨w3.heap.size, 1, none⟩) z7).trans y7_1, (hb.frozen (p := ⟨w3.heap.size, 2, none⟩) z7).trans y7_2, (hb.frozen (p := ⟨w4.heap.size, 0, none⟩) z8).trans y8_0, (hb.frozen (p := ⟨w4.heap.size, 1, none⟩) z8).trans y8_1, (hb.frozen (p := ⟨w4.heap.size, 2, none⟩) z8).trans y8_2⟩)
  have HZW4 := Lib.hid (show ∀ W', Below W4.heap.size W4 W' → (w.heap.size < W'.heap.size ∧ w.heap.size + 1 < W'.heap.size ∧ w3.heap.size < W'.heap.size ∧ w4.heap.size < W'.heap.size) from fun W' hb =>
    ⟨Nat.lt_of_lt_of_le z0 hb.size, Nat.lt_of_lt_of_le z1 hb.size, Nat.lt_of_lt_of_le z7 hb.size, Nat.lt_of_lt_of_le z8 hb.size⟩)
  replace gb := Below.refl W4.heap.size W4
  go_wp2_with fail
  refine (ref8_cmp _ _ _ _ _ _ _ _ _ _ _ (i0.to gb) (i1.to gb) kk HK.out).mono ?_
  clear x0_0 y0_0 x0_1 y0_1 x0_2 y0_2 x1_0 y1_0 x1_1 y1_1 x1_2 y1_2 x7_0 y7_0 x7_1 y7_1 x7_2 y7_2 x8_0 y8_0 x8_1 y8_1 x8_2 y8_2
  rintro e w5 ⟨rfl, hb5⟩
  replace gb := below_step gb hb5
  obtain ⟨x0_0, x0_1, x0_2, x1_0, x1_1, x1_2, x7_0, x7_1, x7_2, x8_0, x8_1, x8_2⟩ := HXW4.out _ gb
  obtain ⟨y0_0, y0_1, y0_2, y1_0, y1_1, y1_2, y7_0, y7_1, y7_2, y8_0, y8_1, y8_2⟩ := HYW4.out _ gb
  obtain ⟨z0, z1, z7, z8⟩ := HZW4.out _ gb
  go_wp2_with fail
  go_region_held3 (fun W' => W'.cell? ⟨w.heap.size, 0, none⟩ = some (.bool b0) ∧ W'.cell? ⟨w.heap.size, 1, none⟩ = some (.slice a0 n0 c0) ∧ W'.cell? ⟨w.heap.size, 2, none⟩ = some (.slice a1 n1 c1) ∧ W'.cell? ⟨w.heap.size + 1, 0, none⟩ = some (.bool b1) ∧ W'.cell? ⟨w.heap.size + 1, 1, none⟩ = some (.slice a2 n2 c2) ∧ W'.cell? ⟨w.heap.size + 1, 2, none⟩ = some (.slice a3 n3 c3) ∧ W'.cell? ⟨w3.heap.size, 0, none⟩ = some (.bool mg) ∧ W'.cell? ⟨w3.heap.size, 1, none⟩ = some (.slice a3_ n3_ c3_) ∧ W'.cell? ⟨w3.heap.size, 2, none⟩ = some (.slice p3_ m3_ k3_) ∧ W'.cell? ⟨w4.heap.size, 0, none⟩ = some (.bool mg) ∧ W'.cell? ⟨w4.heap.size, 1, none⟩ = some (.slice a4_ n4_ c4_) ∧ W'.cell? ⟨w4.heap.size, 2, none⟩ = some (.slice p4_ m4_ k4_)) (first | (with_reducible exact ⟨x0_0, x0_1, x0_2, x1_0, x1_1, x1_2, x7_0, x7_1, x7_2, x8_0, x8_1, x8_2⟩) | exact ⟨x0_0, x0_1, x0_2, x1_0, x1_1, x1_2, x7_0, x7_1, x7_2, x8_0, x8_1, x8_2⟩) (first
    | (go_at_call 17; (with_reducible refine (ratio_same _ _ _ _ _ _ _ _ _ _ _ (i0.to gb) (i1.to gb) (kk == 0) HSM HC26).mono ?_); rintro e w21 ⟨rfl, hb21⟩; have g10 := g10.to hb21; have g11 := g11.to hb21; have g13 := g13.to hb21; have g14 := g14.to hb21; have g16 := g16.to hb21; have g17 := g17.to hb21; have gb := below_step gb hb21; obtain ⟨x0_0, x0_1, x0_2, x1_0, x1_1, x1_2, x7_0, x7_1, x7_2, x8_0, x8_1, x8_2⟩ := HXW4.out _ gb; obtain ⟨y0_0, y0_1, y0_2, y1_0, y1_1, y1_2, y7_0, y7_1, y7_2, y8_0, y8_1, y8_2⟩ := HYW4.out _ gb; obtain ⟨z0, z1, z7, z8⟩ := HZW4.out _ gb)
    | (go_at_call 16; (with_reducible refine (ratio_cmp _ _ _ _ _ _ _ _ _ _ _ (i0.to gb) (i1.to gb) kk HK.out HC26).mono ?_); rintro e w20 ⟨rfl, hb20⟩; have g10 := g10.to hb20; have g11 := g11.to hb20; have g13 := g13.to hb20; have g14 := g14.to hb20; have g16 := g16.to hb20; have g17 := g17.to hb20; have gb := below_step gb hb20; obtain ⟨x0_0, x0_1, x0_2, x1_0, x1_1, x1_2, x7_0, x7_1, x7_2, x8_0, x8_1, x8_2⟩ := HXW4.out _ gb; obtain ⟨y0_0, y0_1, y0_2, y1_0, y1_1, y1_2, y7_0, y7_1, y7_2, y8_0, y8_1, y8_2⟩ := HYW4.out _ gb; obtain ⟨z0, z1, z7, z8⟩ := HZW4.out _ gb)
    | (go_at_call 9; (with_reducible refine (equal_f _ (g3.to gb) (g4.to gb)).mono ?_); rintro e w19 ⟨rfl, hb19⟩; have g10 := g10.to hb19; have g11 := g11.to hb19; have g13 := g13.to hb19; have g14 := g14.to hb19; have g16 := g16.to hb19; have g17 := g17.to hb19; have gb := below_step gb hb19; obtain ⟨x0_0, x0_1, x0_2, x1_0, x1_1, x1_2, x7_0, x7_1, x7_2, x8_0, x8_1, x8_2⟩ := HXW4.out _ gb; obtain ⟨y0_0, y0_1, y0_2, y1_0, y1_1, y1_2, y7_0, y7_1, y7_2, y8_0, y8_1, y8_2⟩ := HYW4.out _ gb; obtain ⟨z0, z1, z7, z8⟩ := HZW4.out _ gb)
    | (go_at_call 9; (with_reducible refine (equal_q _ g16 g17).mono ?_); rintro e w18 ⟨rfl, hb18⟩; have g10 := g10.to hb18; have g11 := g11.to hb18; have g13 := g13.to hb18; have g14 := g14.to hb18; have g16 := g16.to hb18; have g17 := g17.to hb18; have gb := below_step gb hb18; obtain ⟨x0_0, x0_1, x0_2, x1_0, x1_1, x1_2, x7_0, x7_1, x7_2, x8_0, x8_1, x8_2⟩ := HXW4.out _ gb; obtain ⟨y0_0, y0_1, y0_2, y1_0, y1_1, y1_2, y7_0, y7_1, y7_2, y8_0, y8_1, y8_2⟩ := HYW4.out _ gb; obtain ⟨z0, z1, z7, z8⟩ := HZW4.out _ gb)
    | (go_at_call 15; (with_reducible refine (ref8_mul _ _ _ _ _ _ _ _ _ _ _ (i0.to gb) (i1.to gb) (A * B) rfl HC27).mono ?_); rintro e w17 ⟨ng17, a17_, n17_, c17_, p17_, m17_, k17_, rfl, g17, hb17⟩; have g10 := g10.to hb17; have g11 := g11.to hb17; have g13 := g13.to hb17; have g14 := g14.to hb17; have g16 := g16.to hb17; have gb := below_step gb hb17; obtain ⟨x0_0, x0_1, x0_2, x1_0, x1_1, x1_2, x7_0, x7_1, x7_2, x8_0, x8_1, x8_2⟩ := HXW4.out _ gb; obtain ⟨y0_0, y0_1, y0_2, y1_0, y1_1, y1_2, y7_0, y7_1, y7_2, y8_0, y8_1, y8_2⟩ := HYW4.out _ gb; obtain ⟨z0, z1, z7, z8⟩ := HZW4.out _ gb)
    | (go_at_call 14; (with_reducible refine (ratio_mul _ _ _ _ _ _ _ _ _ _ _ (i0.to gb) (i1.to gb) (A * B) rfl HC27).mono ?_); rintro e w16 ⟨ng16, a16_, n16_, c16_, p16_, m16_, k16_, rfl, g16, hb16⟩; have g10 := g10.to hb16; have g11 := g11.to hb16; have g13 := g13.to hb16; have g14 := g14.to hb16; have gb := below_step gb hb16; obtain ⟨x0_0, x0_1, x0_2, x1_0, x1_1, x1_2, x7_0, x7_1, x7_2, x8_0, x8_1, x8_2⟩ := HXW4.out _ gb; obtain ⟨y0_0, y0_1, y0_2, y1_0, y1_1, y1_2, y7_0, y7_1, y7_2, y8_0, y8_1, y8_2⟩ := HYW4.out _ gb; obtain ⟨z0, z1, z7, z8⟩ := HZW4.out _ gb)
    | (go_at_call 9; (with_reducible refine (equal_q _ g13 g14).mono ?_); rintro e w15 ⟨rfl, hb15⟩; have g10 := g10.to hb15; have g11 := g11.to hb15; have g13 := g13.to hb15; have g14 := g14.to hb15; have gb := below_step gb hb15; obtain ⟨x0_0, x0_1, x0_2, x1_0, x1_1, x1_2, x7_0, x7_1, x7_2, x8_0, x8_1, x8_2⟩ := HXW4.out _ gb; obtain ⟨y0_0, y0_1, y0_2, y1_0, y1_1, y1_2, y7_0, y7_1, y7_2, y8_0, y8_1, y8_2⟩ := HYW4.out _ gb; obtain ⟨z0, z1, z7, z8⟩ := HZW4.out _ gb)
    | (go_at_call 13; (with_reducible refine (ref8_sub _ _ _ _ _ _ _ _ _ _ _ (i0.to gb) (i1.to gb) (A - B) rfl HC26).mono ?_); rintro e w14 ⟨ng14, a14_, n14_, c14_, p14_, m14_, k14_, rfl, g14, hb14⟩; have g10 := g10.to hb14; have g11 := g11.to hb14; have g13 := g13.to hb14; have gb := below_step gb hb14; obtain ⟨x0_0, x0_1, x0_2, x1_0, x1_1, x1_2, x7_0, x7_1, x7_2, x8_0, x8_1, x8_2⟩ := HXW4.out _ gb; obtain ⟨y0_0, y0_1, y0_2, y1_0, y1_1, y1_2, y7_0, y7_1, y7_2, y8_0, y8_1, y8_2⟩ := HYW4.out _ gb; obtain ⟨z0, z1, z7, z8⟩ := HZW4.out _ gb)
    | (go_at_call 12; (with_reducible refine (ratio_sub _ _ _ _ _ _ _ _ _ _ _ (i0.to gb) (i1.to gb) (A - B) rfl HC26).mono ?_); rintro e w13 ⟨ng13, a13_, n13_, c13_, p13_, m13_, k13_, rfl, g13, hb13⟩; have g10 := g10.to hb13; have g11 := g11.to hb13; have gb := below_step gb hb13; obtain ⟨x0_0, x0_1, x0_2, x1_0, x1_1, x1_2, x7_0, x7_1, x7_2, x8_0, x8_1, x8_2⟩ := HXW4.out _ gb; obtain ⟨y0_0, y0_1, y0_2, y1_0, y1_1, y1_2, y7_0, y7_1, y7_2, y8_0, y8_1, y8_2⟩ := HYW4.out _ gb; obtain ⟨z0, z1, z7, z8⟩ := HZW4.out _ gb)
    | (go_at_call 9; (with_reducible refine (equal_q _ g10 g11).mono ?_); rintro e w12 ⟨rfl, hb12⟩; have g10 := g10.to hb12; have g11 := g11.to hb12; have gb := below_step gb hb12; obtain ⟨x0_0, x0_1, x0_2, x1_0, x1_1, x1_2, x7_0, x7_1, x7_2, x8_0, x8_1, x8_2⟩ := HXW4.out _ gb; obtain ⟨y0_0, y0_1, y0_2, y1_0, y1_1, y1_2, y7_0, y7_1, y7_2, y8_0, y8_1, y8_2⟩ := HYW4.out _ gb; obtain ⟨z0, z1, z7, z8⟩ := HZW4.out _ gb)
    | (go_at_call 11; (with_reducible refine (ref8_add _ _ _ _ _ _ _ _ _ _ _ (i0.to gb) (i1.to gb) (A + B) rfl HC25).mono ?_); rintro e w11 ⟨ng11, a11_, n11_, c11_, p11_, m11_, k11_, rfl, g11, hb11⟩; have g10 := g10.to hb11; have gb := below_step gb hb11; obtain ⟨x0_0, x0_1, x0_2, x1_0, x1_1, x1_2, x7_0, x7_1, x7_2, x8_0, x8_1, x8_2⟩ := HXW4.out _ gb; obtain ⟨y0_0, y0_1, y0_2, y1_0, y1_1, y1_2, y7_0, y7_1, y7_2, y8_0, y8_1, y8_2⟩ := HYW4.out _ gb; obtain ⟨z0, z1, z7, z8⟩ := HZW4.out _ gb)
    | (go_at_call 10; have gb := gb.drew; (with_reducible refine (ratio_add _ _ _ _ _ _ _ _ _ _ _ (i0.to gb) (i1.to gb) (A + B) rfl HC25).mono ?_); rintro e w10 ⟨ng10, a10_, n10_, c10_, p10_, m10_, k10_, rfl, g10, hb10⟩; have gb := below_step gb hb10; obtain ⟨x0_0, x0_1, x0_2, x1_0, x1_1, x1_2, x7_0, x7_1, x7_2, x8_0, x8_1, x8_2⟩ := HXW4.out _ gb; obtain ⟨y0_0, y0_1, y0_2, y1_0, y1_1, y1_2, y7_0, y7_1, y7_2, y8_0, y8_1, y8_2⟩ := HYW4.out _ gb; obtain ⟨z0, z1, z7, z8⟩ := HZW4.out _ gb))
  go_wp2_with fail
  go_ret
  exact ⟨by first | rfl | exact ret_bool (by simp), below_step zb gb⟩

end Go.Proofs.YtmjnlpanlgmdmaaGreat

