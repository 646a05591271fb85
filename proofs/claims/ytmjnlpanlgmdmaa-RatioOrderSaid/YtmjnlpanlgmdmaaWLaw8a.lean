/-
  The walks of the laws of layer 8.
-/
import Derived.Test.YtmjnlpanlgmdmaaG12
import Derived.Test.YtmjnlpanlgmdmaaG21
import Derived.Test.YtmjnlpanlgmdmaaG05
import Derived.Deep.RegionHeld3
import Derived.Deep.Cut
import Derived.Deep.DrawnRows
import Derived.Laws.EntriesVeiled
namespace Go.Proofs.Ytmjnlpanlgmdmaa
open Go.RowKit Tw
set_option linter.unusedVariables false
set_option linter.unusedSimpArgs false
attribute [local go_sem ↓] Go.wp_at_zero Go.wp_at_succ

set_option maxRecDepth 100000 in
set_option maxHeartbeats 60000000 in
theorem walk_RatioOrder (b0 : Bool) (v0 : Value) (l0 : List Nat) (u0 : Value) (m0 : List Nat) (b1 : Bool) (v1 : Value) (l1 : List Nat) (u1 : Value) (m1 : List Nat) (b2 : Bool) (v2 : Value) (l2 : List Nat) (u2 : Value) (m2 : List Nat) (w : World) (hn0 : Rd w v0 l0) (hd0 : Rd w u0 m0) (hn1 : Rd w v1 l1) (hd1 : Rd w u1 m1) (hn2 : Rd w v2 l2) (hd2 : Rd w u2 m2) :
    Calls Try.prog 6 #[aggR b0 v0 u0, aggR b1 v1 u1, aggR b2 v2 u2] w (Holds w) := by
  have h0 : IsF w v0 u0 l0 m0 := ⟨hn0, hd0⟩
  clear hn0 hd0
  have h1 : IsF w v1 u1 l1 m1 := ⟨hn1, hd1⟩
  clear hn1 hd1
  have h2 : IsF w v2 u2 l2 m2 := ⟨hn2, hd2⟩
  clear hn2 hd2
  obtain ⟨a0, n0, c0, rfl, H0, hm0⟩ := h0.1.open
  obtain ⟨a1, n1, c1, rfl, H1, hm1⟩ := h0.2.open
  obtain ⟨a2, n2, c2, rfl, H2, hm2⟩ := h1.1.open
  obtain ⟨a3, n3, c3, rfl, H3, hm3⟩ := h1.2.open
  obtain ⟨a4, n4, c4, rfl, H4, hm4⟩ := h2.1.open
  obtain ⟨a5, n5, c5, rfl, H5, hm5⟩ := h2.2.open
  by_cases hf : n0 ≤ 4 ∧ n1 ≤ 4 ∧ n2 ≤ 4 ∧ n3 ≤ 4 ∧ n4 ≤ 4 ∧ n5 ≤ 4
  rotate_left
  · skip
    go_enter Try.func6, Try.ntmps6
    go_wp2_with fail
    obtain ⟨W0, hW0⟩ : ∃ W0, ((w.alloc (.cells #[.bool b0, .slice a0 n0 c0, .slice a1 n1 c1] 24)).alloc (.cells #[.bool b1, .slice a2 n2 c2, .slice a3 n3 c3] 24)).alloc (.cells #[.bool b2, .slice a4 n4 c4, .slice a5 n5 c5] 24) = W0 := ⟨_, rfl⟩
    have HXW0 := Lib.hid (show ∀ W', Below W0.heap.size W0 W' → (W'.cell? ⟨w.heap.size, 0, none⟩ = some (.bool b0) ∧ W'.cell? ⟨w.heap.size, 1, none⟩ = some (.slice a0 n0 c0) ∧ W'.cell? ⟨w.heap.size, 2, none⟩ = some (.slice a1 n1 c1) ∧ W'.cell? ⟨w.heap.size + 1, 0, none⟩ = some (.bool b1) ∧ W'.cell? ⟨w.heap.size + 1, 1, none⟩ = some (.slice a2 n2 c2) ∧ W'.cell? ⟨w.heap.size + 1, 2, none⟩ = some (.slice a3 n3 c3) ∧ W'.cell? ⟨w.heap.size + 1 + 1, 0, none⟩ = some (.bool b2) ∧ W'.cell? ⟨w.heap.size + 1 + 1, 1, none⟩ = some (.slice a4 n4 c4) ∧ W'.cell? ⟨w.heap.size + 1 + 1, 2, none⟩ = some (.slice a5 n5 c5)) from fun W' hb =>
      ⟨(hb.cell (p := ⟨w.heap.size, 0, none⟩) (by rw [← hW0]; simp <;> omega)).trans (by rw [← hW0]; simp [go_sem]), (hb.cell (p := ⟨w.heap.size, 1, none⟩) (by rw [← hW0]; simp <;> omega)).trans (by rw [← hW0]; simp [go_sem]), (hb.cell (p := ⟨w.heap.size, 2, none⟩) (by rw [← hW0]; simp <;> omega)).trans (by rw [← hW0]; simp [go_sem]), (hb.cell (p := ⟨w.heap.size + 1, 0, none⟩) (by rw [← hW0]; simp <;> omega)).trans (by rw [← hW0]; simp [go_sem]), (hb.cell (p := ⟨w.heap.size + 1, 1, none⟩) (by rw [← hW0]; simp <;> omega)).trans (by rw [← hW0]; simp [go_sem]), (hb.cell (p := ⟨w.heap.size + 1, 2, none⟩) (by rw [← hW0]; simp <;> omega)).trans (by rw [← hW0]; simp [go_sem]), (hb.cell (p := ⟨w.heap.size + 1 + 1, 0, none⟩) (by rw [← hW0]; simp <;> omega)).trans (by rw [← hW0]; simp [go_sem]), (hb.cell (p := ⟨w.heap.size + 1 + 1, 1, none⟩) (by rw [← hW0]; simp <;> omega)).trans (by rw [← hW0]; simp [go_sem]), (hb.cell (p := ⟨w.heap.size + 1 + 1, 2, none⟩) (by rw [← hW0]; simp <;> omega)).trans (by rw [← hW0]; simp [go_sem])⟩)
    have HYW0 := Lib.hid (show ∀ W', Below W0.heap.size W0 W' → (W'.frozen? ⟨w.heap.size, 0, none⟩ = false ∧ W'.frozen? ⟨w.heap.size, 1, none⟩ = false ∧ W'.frozen? ⟨w.heap.size, 2, none⟩ = false ∧ W'.frozen? ⟨w.heap.size + 1, 0, none⟩ = false ∧ W'.frozen? ⟨w.heap.size + 1, 1, none⟩ = false ∧ W'.frozen? ⟨w.heap.size + 1, 2, none⟩ = false ∧ W'.frozen? ⟨w.heap.size + 1 + 1, 0, none⟩ = false ∧ W'.frozen? ⟨w.heap.size + 1 + 1, 1, none⟩ = false ∧ W'.frozen? ⟨w.heap.size + 1 + 1, 2, none⟩ = false) from fun W' hb =>
      ⟨(hb.frozen (p := ⟨w.heap.size, 0, none⟩) (by rw [← hW0]; simp <;> omega)).trans (by rw [← hW0]; simp [go_sem]), (hb.frozen (p := ⟨w.heap.size, 1, none⟩) (by rw [← hW0]; simp <;> omega)).trans (by rw [← hW0]; simp [go_sem]), (hb.frozen (p := ⟨w.heap.size, 2, none⟩) (by rw [← hW0]; simp <;> omega)).trans (by rw [← hW0]; simp [go_sem]), (hb.frozen (p := ⟨w.heap.size + 1, 0, none⟩) (by rw [← hW0]; simp <;> omega)).trans (by rw [← hW0]; simp [go_sem]), (hb.frozen (p := ⟨w.heap.size + 1, 1, none⟩) (by rw [← hW0]; simp <;> omega)).trans (by rw [← hW0]; simp [go_sem]), (hb.frozen (p := ⟨w.heap.size + 1, 2, none⟩) (by rw [← hW0]; simp <;> omega)).trans (by rw [← hW0]; simp [go_sem]), (hb.frozen (p := ⟨w.heap.size + 1 + 1, 0, none⟩) (by rw [← hW0]; simp <;> omega)).trans (by rw [← hW0]; simp [go_sem]), (hb.frozen (p := ⟨w.heap.size + 1 + 1, 1, none⟩) (by rw [← hW0]; simp <;> omega)).trans (by rw [← hW0]; simp [go_sem]), (hb.frozen (p := ⟨w.heap.size + 1 + 1, 2, none⟩) (by rw [← hW0]; simp <;> omega)).trans (by rw [← hW0]; simp [go_sem])⟩)
    have HZW0 := Lib.hid (show ∀ W', Below W0.heap.size W0 W' → (w.heap.size < W'.heap.size ∧ w.heap.size + 1 < W'.heap.size ∧ w.heap.size + 1 + 1 < W'.heap.size) from fun W' hb =>
      ⟨Nat.lt_of_lt_of_le (by rw [← hW0]; simp <;> omega) hb.size, Nat.lt_of_lt_of_le (by rw [← hW0]; simp <;> omega) hb.size, Nat.lt_of_lt_of_le (by rw [← hW0]; simp <;> omega) hb.size⟩)
    have zb : Below w.heap.size w W0 := by rw [← hW0]; exact below_step (below_step (below_new _ _) (below_new _ _)) (below_new _ _)
    rw [hW0]
    clear hW0
    have i0 := h0.to zb
    have i1 := h1.to zb
    have i2 := h2.to zb
    have gb : Below W0.heap.size W0 W0 := Below.refl _ _
    obtain ⟨x0_0, x0_1, x0_2, x1_0, x1_1, x1_2, x2_0, x2_1, x2_2⟩ := HXW0.out _ gb
    obtain ⟨y0_0, y0_1, y0_2, y1_0, y1_1, y1_2, y2_0, y2_1, y2_2⟩ := HYW0.out _ gb
    obtain ⟨z0, z1, z2⟩ := HZW0.out _ gb
    refine (awake8 _).mono ?_
    clear x0_0 y0_0 x0_1 y0_1 x0_2 y0_2 x1_0 y1_0 x1_1 y1_1 x1_2 y1_2 x2_0 y2_0 x2_1 y2_1 x2_2 y2_2
    rintro e w1 ⟨rfl, hb1⟩
    replace gb := below_step gb hb1
    obtain ⟨x0_0, x0_1, x0_2, x1_0, x1_1, x1_2, x2_0, x2_1, x2_2⟩ := HXW0.out _ gb
    obtain ⟨y0_0, y0_1, y0_2, y1_0, y1_1, y1_2, y2_0, y2_1, y2_2⟩ := HYW0.out _ gb
    obtain ⟨z0, z1, z2⟩ := HZW0.out _ gb
    go_wp2_with fail
    refine (law8_few _ _ _ _ _ _ _ _ _ _ _ _ _ _ _ _ _ _ _ _ _ false _ (decide_eq_false (by omega))).mono ?_
    clear x0_0 y0_0 x0_1 y0_1 x0_2 y0_2 x1_0 y1_0 x1_1 y1_1 x1_2 y1_2 x2_0 y2_0 x2_1 y2_1 x2_2 y2_2
    rintro e w2 ⟨rfl, hb2⟩
    replace gb := below_step gb hb2
    obtain ⟨x0_0, x0_1, x0_2, x1_0, x1_1, x1_2, x2_0, x2_1, x2_2⟩ := HXW0.out _ gb
    obtain ⟨y0_0, y0_1, y0_2, y1_0, y1_1, y1_2, y2_0, y2_1, y2_2⟩ := HYW0.out _ gb
    obtain ⟨z0, z1, z2⟩ := HZW0.out _ gb
    go_wp2_with fail
    go_ret
    exact ⟨rfl, below_step zb gb⟩
  have hlens := hf
  have e1 := H0.out
  have e2 := H1.out
  obtain ⟨A, hh⟩ : ∃ z, rat b0 (val l0) (val m0) = z := ⟨_, rfl⟩
  have i0 : IsQ w b0 (.slice a0 n0 c0) (.slice a1 n1 c1) l0 m0 A := ⟨h0.1, h0.2, hh, by omega, by omega⟩
  have HBA : Hid (szq A ≤ 4) := by
    show _ ≤ _
    rw [← hh]
    refine Nat.le_trans (szq_rat _ _ _) ?_
    have k1 := sz_val h0.1.1
    have k2 := sz_val h0.2.1
    omega
  have HCA : Hid (szq A ≤ 1000) := Nat.le_trans HBA.out (by omega)
  have HRA := Lib.hid hh
  clear hh e1 e2
  have e1 := H2.out
  have e2 := H3.out
  obtain ⟨B, hh⟩ : ∃ z, rat b1 (val l1) (val m1) = z := ⟨_, rfl⟩
  have i1 : IsQ w b1 (.slice a2 n2 c2) (.slice a3 n3 c3) l1 m1 B := ⟨h1.1, h1.2, hh, by omega, by omega⟩
  have HBB : Hid (szq B ≤ 4) := by
    show _ ≤ _
    rw [← hh]
    refine Nat.le_trans (szq_rat _ _ _) ?_
    have k1 := sz_val h1.1.1
    have k2 := sz_val h1.2.1
    omega
  have HCB : Hid (szq B ≤ 1000) := Nat.le_trans HBB.out (by omega)
  have HRB := Lib.hid hh
  clear hh e1 e2
  have e1 := H4.out
  have e2 := H5.out
  obtain ⟨C, hh⟩ : ∃ z, rat b2 (val l2) (val m2) = z := ⟨_, rfl⟩
  have i2 : IsQ w b2 (.slice a4 n4 c4) (.slice a5 n5 c5) l2 m2 C := ⟨h2.1, h2.2, hh, by omega, by omega⟩
  have HBC : Hid (szq C ≤ 4) := by
    show _ ≤ _
    rw [← hh]
    refine Nat.le_trans (szq_rat _ _ _) ?_
    have k1 := sz_val h2.1.1
    have k2 := sz_val h2.2.1
    omega
  have HCC : Hid (szq C ≤ 1000) := Nat.le_trans HBC.out (by omega)
  have HRC := Lib.hid hh
  clear hh e1 e2
  have HB1 : Hid (szq ((A + B)) ≤ 9) := by
    have h1 : szq (A) ≤ 4 := HBA.out
    have h2 : szq (B) ≤ 4 := HBB.out
    have := szq_add (A) (B)
    show _ ≤ _
    omega
  have HC1 : Hid (szq ((A + B)) ≤ 1000) := Nat.le_trans HB1.out (by omega)
  have HB2 : Hid (szq ((A * B)) ≤ 8) := by
    have h1 : szq (A) ≤ 4 := HBA.out
    have h2 : szq (B) ≤ 4 := HBB.out
    have := szq_mul (A) (B)
    show _ ≤ _
    omega
  have HC2 : Hid (szq ((A * B)) ≤ 1000) := Nat.le_trans HB2.out (by omega)
  have HB3 : Hid (szq (((A + B) + C)) ≤ 14) := by
    have h1 : szq ((A + B)) ≤ 9 := HB1.out
    have h2 : szq (C) ≤ 4 := HBC.out
    have := szq_add ((A + B)) (C)
    show _ ≤ _
    omega
  have HC3 : Hid (szq (((A + B) + C)) ≤ 1000) := Nat.le_trans HB3.out (by omega)
  have HB4 : Hid (szq ((B + C)) ≤ 9) := by
    have h1 : szq (B) ≤ 4 := HBB.out
    have h2 : szq (C) ≤ 4 := HBC.out
    have := szq_add (B) (C)
    show _ ≤ _
    omega
  have HC4 : Hid (szq ((B + C)) ≤ 1000) := Nat.le_trans HB4.out (by omega)
  have HB5 : Hid (szq (((A * B) * C)) ≤ 12) := by
    have h1 : szq ((A * B)) ≤ 8 := HB2.out
    have h2 : szq (C) ≤ 4 := HBC.out
    have := szq_mul ((A * B)) (C)
    show _ ≤ _
    omega
  have HC5 : Hid (szq (((A * B) * C)) ≤ 1000) := Nat.le_trans HB5.out (by omega)
  have HB6 : Hid (szq ((B * C)) ≤ 8) := by
    have h1 : szq (B) ≤ 4 := HBB.out
    have h2 : szq (C) ≤ 4 := HBC.out
    have := szq_mul (B) (C)
    show _ ≤ _
    omega
  have HC6 : Hid (szq ((B * C)) ≤ 1000) := Nat.le_trans HB6.out (by omega)
  have HB7 : Hid (szq (((A + B) * C)) ≤ 13) := by
    have h1 : szq ((A + B)) ≤ 9 := HB1.out
    have h2 : szq (C) ≤ 4 := HBC.out
    have := szq_mul ((A + B)) (C)
    show _ ≤ _
    omega
  have HC7 : Hid (szq (((A + B) * C)) ≤ 1000) := Nat.le_trans HB7.out (by omega)
  have HB8 : Hid (szq ((A * C)) ≤ 8) := by
    have h1 : szq (A) ≤ 4 := HBA.out
    have h2 : szq (C) ≤ 4 := HBC.out
    have := szq_mul (A) (C)
    show _ ≤ _
    omega
  have HC8 : Hid (szq ((A * C)) ≤ 1000) := Nat.le_trans HB8.out (by omega)
  have HF := Lib.hid (show decide (n0 ≤ 4 ∧ n1 ≤ 4 ∧ n2 ≤ 4 ∧ n3 ≤ 4 ∧ n4 ≤ 4 ∧ n5 ≤ 4) = true from decide_eq_true (by omega))
  clear hf hlens
  go_enter Try.func6, Try.ntmps6
  go_wp2_with fail
  obtain ⟨W0, hW0⟩ : ∃ W0, ((w.alloc (.cells #[.bool b0, .slice a0 n0 c0, .slice a1 n1 c1] 24)).alloc (.cells #[.bool b1, .slice a2 n2 c2, .slice a3 n3 c3] 24)).alloc (.cells #[.bool b2, .slice a4 n4 c4, .slice a5 n5 c5] 24) = W0 := ⟨_, rfl⟩
  have HXW0 := Lib.hid (show ∀ W', Below W0.heap.size W0 W' → (W'.cell? ⟨w.heap.size, 0, none⟩ = some (.bool b0) ∧ W'.cell? ⟨w.heap.size, 1, none⟩ = some (.slice a0 n0 c0) ∧ W'.cell? ⟨w.heap.size, 2, none⟩ = some (.slice a1 n1 c1) ∧ W'.cell? ⟨w.heap.size + 1, 0, none⟩ = some (.bool b1) ∧ W'.cell? ⟨w.heap.size + 1, 1, none⟩ = some (.slice a2 n2 c2) ∧ W'.cell? ⟨w.heap.size + 1, 2, none⟩ = some (.slice a3 n3 c3) ∧ W'.cell? ⟨w.heap.size + 1 + 1, 0, none⟩ = some (.bool b2) ∧ W'.cell? ⟨w.heap.size + 1 + 1, 1, none⟩ = some (.slice a4 n4 c4) ∧ W'.cell? ⟨w.heap.size + 1 + 1, 2, none⟩ = some (.slice a5 n5 c5)) from fun W' hb =>
    ⟨(hb.cell (p := ⟨w.heap.size, 0, none⟩) (by rw [← hW0]; simp <;> omega)).trans (by rw [← hW0]; simp [go_sem]), (hb.cell (p := ⟨w.heap.size, 1, none⟩) (by rw [← hW0]; simp <;> omega)).trans (by rw [← hW0]; simp [go_sem]), (hb.cell (p := ⟨w.heap.size, 2, none⟩) (by rw [← hW0]; simp <;> omega)).trans (by rw [← hW0]; simp [go_sem]), (hb.cell (p := ⟨w.heap.size + 1, 0, none⟩) (by rw [← hW0]; simp <;> omega)).trans (by rw [← hW0]; simp [go_sem]), (hb.cell (p := ⟨w.heap.size + 1, 1, none⟩) (by rw [← hW0]; simp <;> omega)).trans (by rw [← hW0]; simp [go_sem]), (hb.cell (p := ⟨w.heap.size + 1, 2, none⟩) (by rw [← hW0]; simp <;> omega)).trans (by rw [← hW0]; simp [go_sem]), (hb.cell (p := ⟨w.heap.size + 1 + 1, 0, none⟩) (by rw [← hW0]; simp <;> omega)).trans (by rw [← hW0]; simp [go_sem]), (hb.cell (p := ⟨w.heap.size + 1 + 1, 1, none⟩) (by rw [← hW0]; simp <;> omega)).trans (by rw [← hW0]; simp [go_sem]), (hb.cell (p := ⟨w.heap.size + 1 + 1, 2, none⟩) (by rw [← hW0]; simp <;> omega)).trans (by rw [← hW0]; simp [go_sem])⟩)
  have HYW0 := Lib.hid (show ∀ W', Below W0.heap.size W0 W' → (W'.frozen? ⟨w.heap.size, 0, none⟩ = false ∧ W'.frozen? ⟨w.heap.size, 1, none⟩ = false ∧ W'.frozen? ⟨w.heap.size, 2, none⟩ = false ∧ W'.frozen? ⟨w.heap.size + 1, 0, none⟩ = false ∧ W'.frozen? ⟨w.heap.size + 1, 1, none⟩ = false ∧ W'.frozen? ⟨w.heap.size + 1, 2, none⟩ = false ∧ W'.frozen? ⟨w.heap.size + 1 + 1, 0, none⟩ = false ∧ W'.frozen? ⟨w.heap.size + 1 + 1, 1, none⟩ = false ∧ W'.frozen? ⟨w.heap.size + 1 + 1, 2, none⟩ = false) from fun W' hb =>
    ⟨(hb.frozen (p := ⟨w.heap.size, 0, none⟩) (by rw [← hW0]; simp <;> omega)).trans (by rw [← hW0]; simp [go_sem]), (hb.frozen (p := ⟨w.heap.size, 1, none⟩) (by rw [← hW0]; simp <;> omega)).trans (by rw [← hW0]; simp [go_sem]), (hb.frozen (p := ⟨w.heap.size, 2, none⟩) (by rw [← hW0]; simp <;> omega)).trans (by rw [← hW0]; simp [go_sem]), (hb.frozen (p := ⟨w.heap.size + 1, 0, none⟩) (by rw [← hW0]; simp <;> omega)).trans (by rw [← hW0]; simp [go_sem]), (hb.frozen (p := ⟨w.heap.size + 1, 1, none⟩) (by rw [← hW0]; simp <;> omega)).trans (by rw [← hW0]; simp [go_sem]), (hb.frozen (p := ⟨w.heap.size + 1, 2, none⟩) (by rw [← hW0]; simp <;> omega)).trans (by rw [← hW0]; simp [go_sem]), (hb.frozen (p := ⟨w.heap.size + 1 + 1, 0, none⟩) (by rw [← hW0]; simp <;> omega)).trans (by rw [← hW0]; simp [go_sem]), (hb.frozen (p := ⟨w.heap.size + 1 + 1, 1, none⟩) (by rw [← hW0]; simp <;> omega)).trans (by rw [← hW0]; simp [go_sem]), (hb.frozen (p := ⟨w.heap.size + 1 + 1, 2, none⟩) (by rw [← hW0]; simp <;> omega)).trans (by rw [← hW0]; simp [go_sem])⟩)
  have HZW0 := Lib.hid (show ∀ W', Below W0.heap.size W0 W' → (w.heap.size < W'.heap.size ∧ w.heap.size + 1 < W'.heap.size ∧ w.heap.size + 1 + 1 < W'.heap.size) from fun W' hb =>
    ⟨Nat.lt_of_lt_of_le (by rw [← hW0]; simp <;> omega) hb.size, Nat.lt_of_lt_of_le (by rw [← hW0]; simp <;> omega) hb.size, Nat.lt_of_lt_of_le (by rw [← hW0]; simp <;> omega) hb.size⟩)
  have zb : Below w.heap.size w W0 := by rw [← hW0]; exact below_step (below_step (below_new _ _) (below_new _ _)) (below_new _ _)
  rw [hW0]
  clear hW0
  have i0 := i0.to zb
  have i1 := i1.to zb
  have i2 := i2.to zb
  have gb : Below W0.heap.size W0 W0 := Below.refl _ _
  obtain ⟨x0_0, x0_1, x0_2, x1_0, x1_1, x1_2, x2_0, x2_1, x2_2⟩ := HXW0.out _ gb
  obtain ⟨y0_0, y0_1, y0_2, y1_0, y1_1, y1_2, y2_0, y2_1, y2_2⟩ := HYW0.out _ gb
  obtain ⟨z0, z1, z2⟩ := HZW0.out _ gb
  refine (awake8 _).mono ?_
  clear x0_0 y0_0 x0_1 y0_1 x0_2 y0_2 x1_0 y1_0 x1_1 y1_1 x1_2 y1_2 x2_0 y2_0 x2_1 y2_1 x2_2 y2_2
  rintro e w1 ⟨rfl, hb1⟩
  replace gb := below_step gb hb1
  obtain ⟨x0_0, x0_1, x0_2, x1_0, x1_1, x1_2, x2_0, x2_1, x2_2⟩ := HXW0.out _ gb
  obtain ⟨y0_0, y0_1, y0_2, y1_0, y1_1, y1_2, y2_0, y2_1, y2_2⟩ := HYW0.out _ gb
  obtain ⟨z0, z1, z2⟩ := HZW0.out _ gb
  go_wp2_with fail
  refine (law8_few _ _ _ _ _ _ _ _ _ _ _ _ _ _ _ _ _ _ _ _ _ true _ HF.out).mono ?_
  clear x0_0 y0_0 x0_1 y0_1 x0_2 y0_2 x1_0 y1_0 x1_1 y1_1 x1_2 y1_2 x2_0 y2_0 x2_1 y2_1 x2_2 y2_2
  rintro e w2 ⟨rfl, hb2⟩
  replace gb := below_step gb hb2
  obtain ⟨x0_0, x0_1, x0_2, x1_0, x1_1, x1_2, x2_0, x2_1, x2_2⟩ := HXW0.out _ gb
  obtain ⟨y0_0, y0_1, y0_2, y1_0, y1_1, y1_2, y2_0, y2_1, y2_2⟩ := HYW0.out _ gb
  obtain ⟨z0, z1, z2⟩ := HZW0.out _ gb
  go_wp2_with fail
  refine (ratio_add _ _ _ _ _ _ _ _ _ _ _ (i0.to gb) (i1.to gb) (A + B) rfl HC1).mono ?_
  clear x0_0 y0_0 x0_1 y0_1 x0_2 y0_2 x1_0 y1_0 x1_1 y1_1 x1_2 y1_2 x2_0 y2_0 x2_1 y2_1 x2_2 y2_2
  rintro e w3 ⟨ng3, a3_, n3_, c3_, p3_, m3_, k3_, rfl, g3, hb3⟩
  replace gb := below_step gb hb3
  obtain ⟨x0_0, x0_1, x0_2, x1_0, x1_1, x1_2, x2_0, x2_1, x2_2⟩ := HXW0.out _ gb
  obtain ⟨y0_0, y0_1, y0_2, y1_0, y1_1, y1_2, y2_0, y2_1, y2_2⟩ := HYW0.out _ gb
  obtain ⟨z0, z1, z2⟩ := HZW0.out _ gb
  go_wp2_with fail
  obtain ⟨W3, hW3⟩ : ∃ W3, w3.alloc (.cells #[.bool ng3, .slice a3_ n3_ c3_, .slice p3_ m3_ k3_] 24) = W3 := ⟨_, rfl⟩
  have hb_W3 : Below w3.heap.size w3 W3 := by rw [← hW3]; exact below_new _ _
  have hs_W3 : Hid (W3.heap.size = w3.heap.size + 1) := by show _ = _; rw [← hW3]; simp
  clear x0_0 y0_0 x0_1 y0_1 x0_2 y0_2 x1_0 y1_0 x1_1 y1_1 x1_2 y1_2 x2_0 y2_0 x2_1 y2_1 x2_2 y2_2
  replace g3 := g3.to hb_W3
  replace gb := below_step gb hb_W3
  obtain ⟨x0_0, x0_1, x0_2, x1_0, x1_1, x1_2, x2_0, x2_1, x2_2⟩ := HXW0.out _ gb
  obtain ⟨y0_0, y0_1, y0_2, y1_0, y1_1, y1_2, y2_0, y2_1, y2_2⟩ := HYW0.out _ gb
  obtain ⟨z0, z1, z2⟩ := HZW0.out _ gb
  have x7_0 : W3.cell? ⟨w3.heap.size, 0, none⟩ = some (.bool ng3) := by rw [← hW3]; simp [go_sem]
  have y7_0 : W3.frozen? ⟨w3.heap.size, 0, none⟩ = false := by rw [← hW3]; simp [go_sem]
  have x7_1 : W3.cell? ⟨w3.heap.size, 1, none⟩ = some (.slice a3_ n3_ c3_) := by rw [← hW3]; simp [go_sem]
  have y7_1 : W3.frozen? ⟨w3.heap.size, 1, none⟩ = false := by rw [← hW3]; simp [go_sem]
  have x7_2 : W3.cell? ⟨w3.heap.size, 2, none⟩ = some (.slice p3_ m3_ k3_) := by rw [← hW3]; simp [go_sem]
  have y7_2 : W3.frozen? ⟨w3.heap.size, 2, none⟩ = false := by rw [← hW3]; simp [go_sem]
  have z7 : w3.heap.size < W3.heap.size := by rw [← hW3]; simp
  rw [hW3]
  clear hW3
  replace i0 := i0.to gb
  replace i1 := i1.to gb
  replace i2 := i2.to gb
  replace zb := below_step zb gb
  have HXW3 := Lib.hid (show ∀ W', Below W3.heap.size W3 W' → (W'.cell? ⟨w.heap.size, 0, none⟩ = some (.bool b0) ∧ W'.cell? ⟨w.heap.size, 1, none⟩ = some (.slice a0 n0 c0) ∧ W'.cell? ⟨w.heap.size, 2, none⟩ = some (.slice a1 n1 c1) ∧ W'.cell? ⟨w.heap.size + 1, 0, none⟩ = some (.bool b1) ∧ W'.cell? ⟨w.heap.size + 1, 1, none⟩ = some (.slice a2 n2 c2) ∧ W'.cell? ⟨w.heap.size + 1, 2, none⟩ = some (.slice a3 n3 c3) ∧ W'.cell? ⟨w.heap.size + 1 + 1, 0, none⟩ = some (.bool b2) ∧ W'.cell? ⟨w.heap.size + 1 + 1, 1, none⟩ = some (.slice a4 n4 c4) ∧ W'.cell? ⟨w.heap.size + 1 + 1, 2, none⟩ = some (.slice a5 n5 c5) ∧ W'.cell? ⟨w3.heap.size, 0, none⟩ = some (.bool ng3) ∧ W'.cell? ⟨w3.heap.size, 1, none⟩ = some (.slice a3_ n3_ c3_) ∧ W'.cell? ⟨w3.heap.size, 2, none⟩ = some (.slice p3_ m3_ k3_)) from fun W' hb =>
    ⟨(hb.cell (p := ⟨w.heap.size, 0, none⟩) z0).trans x0_0, (hb.cell (p := ⟨w.heap.size, 1, none⟩) z0).trans x0_1, (hb.cell (p := ⟨w.heap.size, 2, none⟩) z0).trans x0_2, (hb.cell (p := ⟨w.heap.size + 1, 0, none⟩) z1).trans x1_0, (hb.cell (p := ⟨w.heap.size + 1, 1, none⟩) z1).trans x1_1, (hb.cell (p := ⟨w.heap.size + 1, 2, none⟩) z1).trans x1_2, (hb.cell (p := ⟨w.heap.size + 1 + 1, 0, none⟩) z2).trans x2_0, (hb.cell (p := ⟨w.heap.size + 1 + 1, 1, none⟩) z2).trans x2_1, (hb.cell (p := ⟨w.heap.size + 1 + 1, 2, none⟩) z2).trans x2_2, (hb.cell (p := ⟨w3.heap.size, 0, none⟩) z7).trans x7_0, (hb.cell (p := ⟨w3.heap.size, 1, none⟩) z7).trans x7_1, (hb.cell (p := ⟨w3.heap.size, 2, none⟩) z7).trans x7_2⟩)
  have HYW3 := Lib.hid (show ∀ W', Below W3.heap.size W3 W' → (W'.frozen? ⟨w.heap.size, 0, none⟩ = false ∧ W'.frozen? ⟨w.heap.size, 1, none⟩ = false ∧ W'.frozen? ⟨w.heap.size, 2, none⟩ = false ∧ W'.frozen? ⟨w.heap.size + 1, 0, none⟩ = false ∧ W'.frozen? ⟨w.heap.size + 1, 1, none⟩ = false ∧ W'.frozen? ⟨w.heap.size + 1, 2, none⟩ = false ∧ W'.frozen? ⟨w.heap.size + 1 + 1, 0, none⟩ = false ∧ W'.frozen? ⟨w.heap.size + 1 + 1, 1, none⟩ = false ∧ W'.frozen? ⟨w.heap.size + 1 + 1, 2, none⟩ = false ∧ W'.frozen? ⟨w3.heap.size, 0, none⟩ = false ∧ W'.frozen? ⟨w3.heap.size, 1, none⟩ = false ∧ W'.frozen? ⟨w3.heap.size, 2, none⟩ = false) from fun W' hb =>
    ⟨(hb.frozen (p := ⟨w.heap.size, 0, none⟩) z0).trans y0_0, (hb.frozen (p := ⟨w.heap.size, 1, none⟩) z0).trans y0_1, (hb.frozen (p := ⟨w.heap.size, 2, none⟩) z0).trans y0_2, (hb.frozen (p := ⟨w.heap.size + 1, 0, none⟩) z1).trans y1_0, (hb.frozen (p := ⟨w.heap.size + 1, 1, none⟩) z1).trans y1_1, (hb.frozen (p := ⟨w.heap.size + 1, 2, none⟩) z1).trans y1_2, (hb.frozen (p := ⟨w.heap.size + 1 + 1, 0, none⟩) z2).trans y2_0, (hb.frozen (p := ⟨w.heap.size + 1 + 1, 1, none⟩) z2).trans y2_1, (hb.frozen (p := ⟨w.heap.size + 1 + 1, 2, none⟩) z2).trans y2_2, (hb.frozen (p := ⟨w3.heap.size, 0, none⟩) z7).trans y7_0, (hb.frozen (p := ⟨w3.heap.size, 1, none⟩) z7).trans y7_1, (hb.frozen (p := ⟨w3.heap.size, 2, none⟩) z7).trans y7_2⟩)
  have HZW3 := Lib.hid (show ∀ W', Below W3.heap.size W3 W' → (w.heap.size < W'.heap.size ∧ w.heap.size + 1 < W'.heap.size ∧ w.heap.size + 1 + 1 < W'.heap.size ∧ w3.heap.size < W'.heap.size) from fun W' hb =>
    ⟨Nat.lt_of_lt_of_le z0 hb.size, Nat.lt_of_lt_of_le z1 hb.size, Nat.lt_of_lt_of_le z2 hb.size, Nat.lt_of_lt_of_le z7 hb.size⟩)
  replace gb := Below.refl W3.heap.size W3
  go_wp2_with fail
  refine (ratio_mul _ _ _ _ _ _ _ _ _ _ _ (i0.to gb) (i1.to gb) (A * B) rfl HC2).mono ?_
  clear x0_0 y0_0 x0_1 y0_1 x0_2 y0_2 x1_0 y1_0 x1_1 y1_1 x1_2 y1_2 x2_0 y2_0 x2_1 y2_1 x2_2 y2_2 x7_0 y7_0 x7_1 y7_1 x7_2 y7_2
  rintro e w4 ⟨ng4, a4_, n4_, c4_, p4_, m4_, k4_, rfl, g4, hb4⟩
  replace gb := below_step gb hb4
  obtain ⟨x0_0, x0_1, x0_2, x1_0, x1_1, x1_2, x2_0, x2_1, x2_2, x7_0, x7_1, x7_2⟩ := HXW3.out _ gb
  obtain ⟨y0_0, y0_1, y0_2, y1_0, y1_1, y1_2, y2_0, y2_1, y2_2, y7_0, y7_1, y7_2⟩ := HYW3.out _ gb
  obtain ⟨z0, z1, z2, z7⟩ := HZW3.out _ gb
  go_wp2_with fail
  obtain ⟨W4, hW4⟩ : ∃ W4, w4.alloc (.cells #[.bool ng4, .slice a4_ n4_ c4_, .slice p4_ m4_ k4_] 24) = W4 := ⟨_, rfl⟩
  have hb_W4 : Below w4.heap.size w4 W4 := by rw [← hW4]; exact below_new _ _
  have hs_W4 : Hid (W4.heap.size = w4.heap.size + 1) := by show _ = _; rw [← hW4]; simp
  clear x0_0 y0_0 x0_1 y0_1 x0_2 y0_2 x1_0 y1_0 x1_1 y1_1 x1_2 y1_2 x2_0 y2_0 x2_1 y2_1 x2_2 y2_2 x7_0 y7_0 x7_1 y7_1 x7_2 y7_2
  replace g4 := g4.to hb_W4
  replace gb := below_step gb hb_W4
  obtain ⟨x0_0, x0_1, x0_2, x1_0, x1_1, x1_2, x2_0, x2_1, x2_2, x7_0, x7_1, x7_2⟩ := HXW3.out _ gb
  obtain ⟨y0_0, y0_1, y0_2, y1_0, y1_1, y1_2, y2_0, y2_1, y2_2, y7_0, y7_1, y7_2⟩ := HYW3.out _ gb
  obtain ⟨z0, z1, z2, z7⟩ := HZW3.out _ gb
  have x8_0 : W4.cell? ⟨w4.heap.size, 0, none⟩ = some (.bool ng4) := by rw [← hW4]; simp [go_sem]
  have y8_0 : W4.frozen? ⟨w4.heap.size, 0, none⟩ = false := by rw [← hW4]; simp [go_sem]
  have x8_1 : W4.cell? ⟨w4.heap.size, 1, none⟩ = some (.slice a4_ n4_ c4_) := by rw [← hW4]; simp [go_sem]
  have y8_1 : W4.frozen? ⟨w4.heap.size, 1, none⟩ = false := by rw [← hW4]; simp [go_sem]
  have x8_2 : W4.cell? ⟨w4.heap.size, 2, none⟩ = some (.slice p4_ m4_ k4_) := by rw [← hW4]; simp [go_sem]
  have y8_2 : W4.frozen? ⟨w4.heap.size, 2, none⟩ = false := by rw [← hW4]; simp [go_sem]
  have z8 : w4.heap.size < W4.heap.size := by rw [← hW4]; simp
  rw [hW4]
  clear hW4
  replace i0 := i0.to gb
  replace i1 := i1.to gb
  replace i2 := i2.to gb
  replace g3 := g3.to gb
  replace zb := below_step zb gb
  have HXW4 := Lib.hid (show ∀ W', Below W4.heap.size W4 W' → (W'.cell? ⟨w.heap.size, 0, none⟩ = some (.bool b0) ∧ W'.cell? ⟨w.heap.size, 1, none⟩ = some (.slice a0 n0 c0) ∧ W'.cell? ⟨w.heap.size, 2, none⟩ = some (.slice a1 n1 c1) ∧ W'.cell? ⟨w.heap.size + 1, 0, none⟩ = some (.bool b1) ∧ W'.cell? ⟨w.heap.size + 1, 1, none⟩ = some (.slice a2 n2 c2) ∧ W'.cell? ⟨w.heap.size + 1, 2, none⟩ = some (.slice a3 n3 c3) ∧ W'.cell? ⟨w.heap.size + 1 + 1, 0, none⟩ = some (.bool b2) ∧ W'.cell? ⟨w.heap.size + 1 + 1, 1, none⟩ = some (.slice a4 n4 c4) ∧ W'.cell? ⟨w.heap.size + 1 + 1, 2, none⟩ = some (.slice a5 n5 c5) ∧ W'.cell? ⟨w3.heap.size, 0, none⟩ = some (.bool ng3) ∧ W'.cell? ⟨w3.heap.size, 1, none⟩ = some (.slice a3_ n3_ c3_) ∧ W'.cell? ⟨w3.heap.size, 2, none⟩ = some (.slice p3_ m3_ k3_) ∧ W'.cell? ⟨w4.heap.size, 0, none⟩ = some (.bool ng4) ∧ W'.cell? ⟨w4.heap.size, 1, none⟩ = some (.slice a4_ n4_ c4_) ∧ W'.cell? ⟨w4.heap.size, 2, none⟩ = some (.slice p4_ m4_ k4_)) from fun W' hb =>
    ⟨(hb.cell (p := ⟨w.heap.size, 0, none⟩) z0).trans x0_0, (hb.cell (p := ⟨w.heap.size, 1, none⟩) z0).trans x0_1, (hb.cell (p := ⟨w.heap.size, 2, none⟩) z0).trans x0_2, (hb.cell (p := ⟨w.heap.size + 1, 0, none⟩) z1).trans x1_0, (hb.cell (p := ⟨w.heap.size + 1, 1, none⟩) z1).trans x1_1, (hb.cell (p := ⟨w.heap.size + 1, 2, none⟩) z1).trans x1_2, (hb.cell (p := ⟨w.heap.size + 1 + 1, 0, none⟩) z2).trans x2_0, (hb.cell (p := ⟨w.heap.size + 1 + 1, 1, none⟩) z2).trans x2_1, (hb.cell (p := ⟨w.heap.size + 1 + 1, 2, none⟩) z2).trans x2_2, (hb.cell (p := ⟨w3.heap.size, 0, none⟩) z7).trans x7_0, (hb.cell (p := ⟨w3.heap.size, 1, none⟩) z7).trans x7_1, (hb.cell (p := ⟨w3.heap.size, 2, none⟩) z7).trans x7_2, (hb.cell (p := ⟨w4.heap.size, 0, none⟩) z8).trans x8_0, (hb.cell (p := ⟨w4.heap.size, 1, none⟩) z8).trans x8_1, (hb.cell (p := ⟨w4.heap.size, 2, none⟩) z8).trans x8_2⟩)
  have HYW4 := Lib.hid (show ∀ W', Below W4.heap.size W4 W' → (W'.frozen? ⟨w.heap.size, 0, none⟩ = false ∧ W'.frozen? ⟨w.heap.size, 1, none⟩ = false ∧ W'.frozen? ⟨w.heap.size, 2, none⟩ = false ∧ W'.frozen? ⟨w.heap.size + 1, 0, none⟩ = false ∧ W'.frozen? ⟨w.heap.size + 1, 1, none⟩ = false ∧ W'.frozen? ⟨w.heap.size + 1, 2, none⟩ = false ∧ W'.frozen? ⟨w.heap.size + 1 + 1, 0, none⟩ = false ∧ W'.frozen? ⟨w.heap.size + 1 + 1, 1, none⟩ = false ∧ W'.frozen? ⟨w.heap.size + 1 + 1, 2, none⟩ = false ∧ W'.frozen? ⟨w3.heap.size, 0, none⟩ = false ∧ W'.frozen? ⟨w3.heap.size, 1, none⟩ = false ∧ W'.frozen? ⟨w3.heap.size, 2, none⟩ = false ∧ W'.frozen? ⟨w4.heap.size, 0, none⟩ = false ∧ W'.frozen? ⟨w4.heap.size, 1, none⟩ = false ∧ W'.frozen? ⟨w4.heap.size, 2, none⟩ = false) from fun W' hb =>
    ⟨(hb.frozen (p := ⟨w.heap.size, 0, none⟩) z0).trans y0_0, (hb.frozen (p := ⟨w.heap.size, 1, none⟩) z0).trans y0_1, (hb.frozen (p := ⟨w.heap.size, 2, none⟩) z0).trans y0_2, (hb.frozen (p := ⟨w.heap.size + 1, 0, none⟩) z1).trans y1_0, (hb.frozen (p := ⟨w.heap.size + 1, 1, none⟩) z1).trans y1_1, (hb.frozen (p := ⟨w.heap.size + 1, 2, none⟩) z1).trans y1_2, (hb.frozen (p := ⟨w.heap.size + 1 + 1, 0, none⟩) z2).trans y2_0, (hb.frozen (p := ⟨w.heap.size + 1 + 1, 1, none⟩) z2).trans y2_1, (hb.frozen (p := ⟨w.heap.size + 1 + 1, 2, none⟩) z2).trans y2_2, (hb.frozen (p := ⟨w3.heap.size, 0, none⟩) z7).trans y7_0, (hb.frozen (p := ⟨w3.heap.size, 1, none⟩) z7).trans y7_1, (hb.frozen (p := ⟨w3.heap.size, 2, none⟩) z7).trans y7_2, (hb.frozen (p := ⟨w4.heap.size, 0, none⟩) z8).trans y8_0, (hb.frozen (p := ⟨w4.heap.size, 1, none⟩) z8).trans y8_1, (hb.frozen (p := ⟨w4.heap.size, 2, none⟩) z8).trans y8_2⟩)
  have HZW4 := Lib.hid (show ∀ W', Below W4.heap.size W4 W' → (w.heap.size < W'.heap.size ∧ w.heap.size + 1 < W'.heap.size ∧ w.heap.size + 1 + 1 < W'.heap.size ∧ w3.heap.size < W'.heap.size ∧ w4.heap.size < W'.heap.size) from fun W' hb =>
    ⟨Nat.lt_of_lt_of_le z0 hb.size, Nat.lt_of_lt_of_le z1 hb.size, Nat.lt_of_lt_of_le z2 hb.size, Nat.lt_of_lt_of_le z7 hb.size, Nat.lt_of_lt_of_le z8 hb.size⟩)
  replace gb := Below.refl W4.heap.size W4
  go_wp2_with fail
  go_region_held3 (fun W' => W'.cell? ⟨w.heap.size, 0, none⟩ = some (.bool b0) ∧ W'.cell? ⟨w.heap.size, 1, none⟩ = some (.slice a0 n0 c0) ∧ W'.cell? ⟨w.heap.size, 2, none⟩ = some (.slice a1 n1 c1) ∧ W'.cell? ⟨w.heap.size + 1, 0, none⟩ = some (.bool b1) ∧ W'.cell? ⟨w.heap.size + 1, 1, none⟩ = some (.slice a2 n2 c2) ∧ W'.cell? ⟨w.heap.size + 1, 2, none⟩ = some (.slice a3 n3 c3) ∧ W'.cell? ⟨w.heap.size + 1 + 1, 0, none⟩ = some (.bool b2) ∧ W'.cell? ⟨w.heap.size + 1 + 1, 1, none⟩ = some (.slice a4 n4 c4) ∧ W'.cell? ⟨w.heap.size + 1 + 1, 2, none⟩ = some (.slice a5 n5 c5) ∧ W'.cell? ⟨w3.heap.size, 0, none⟩ = some (.bool ng3) ∧ W'.cell? ⟨w3.heap.size, 1, none⟩ = some (.slice a3_ n3_ c3_) ∧ W'.cell? ⟨w3.heap.size, 2, none⟩ = some (.slice p3_ m3_ k3_) ∧ W'.cell? ⟨w4.heap.size, 0, none⟩ = some (.bool ng4) ∧ W'.cell? ⟨w4.heap.size, 1, none⟩ = some (.slice a4_ n4_ c4_) ∧ W'.cell? ⟨w4.heap.size, 2, none⟩ = some (.slice p4_ m4_ k4_)) (first | (with_reducible exact ⟨x0_0, x0_1, x0_2, x1_0, x1_1, x1_2, x2_0, x2_1, x2_2, x7_0, x7_1, x7_2, x8_0, x8_1, x8_2⟩) | exact ⟨x0_0, x0_1, x0_2, x1_0, x1_1, x1_2, x2_0, x2_1, x2_2, x7_0, x7_1, x7_2, x8_0, x8_1, x8_2⟩) (first
    | (go_at_call 25; (with_reducible refine (ratio_right_can _ _ _ _ (g4.to gb)).mono ?_); rintro e w28 ⟨rfl, hb28⟩; have g10 := g10.to hb28; have g12 := g12.to hb28; have g14 := g14.to hb28; have g15 := g15.to hb28; have g16 := g16.to hb28; have g18 := g18.to hb28; have g19 := g19.to hb28; have g20 := g20.to hb28; have g22 := g22.to hb28; have g23 := g23.to hb28; have g24 := g24.to hb28; have g25 := g25.to hb28; have gb := below_step gb hb28; obtain ⟨x0_0, x0_1, x0_2, x1_0, x1_1, x1_2, x2_0, x2_1, x2_2, x7_0, x7_1, x7_2, x8_0, x8_1, x8_2⟩ := HXW4.out _ gb; obtain ⟨y0_0, y0_1, y0_2, y1_0, y1_1, y1_2, y2_0, y2_1, y2_2, y7_0, y7_1, y7_2, y8_0, y8_1, y8_2⟩ := HYW4.out _ gb; obtain ⟨z0, z1, z2, z7, z8⟩ := HZW4.out _ gb)
    | (go_at_call 25; (with_reducible refine (ratio_right_can _ _ _ _ (g3.to gb)).mono ?_); rintro e w27 ⟨rfl, hb27⟩; have g10 := g10.to hb27; have g12 := g12.to hb27; have g14 := g14.to hb27; have g15 := g15.to hb27; have g16 := g16.to hb27; have g18 := g18.to hb27; have g19 := g19.to hb27; have g20 := g20.to hb27; have g22 := g22.to hb27; have g23 := g23.to hb27; have g24 := g24.to hb27; have g25 := g25.to hb27; have gb := below_step gb hb27; obtain ⟨x0_0, x0_1, x0_2, x1_0, x1_1, x1_2, x2_0, x2_1, x2_2, x7_0, x7_1, x7_2, x8_0, x8_1, x8_2⟩ := HXW4.out _ gb; obtain ⟨y0_0, y0_1, y0_2, y1_0, y1_1, y1_2, y2_0, y2_1, y2_2, y7_0, y7_1, y7_2, y8_0, y8_1, y8_2⟩ := HYW4.out _ gb; obtain ⟨z0, z1, z2, z7, z8⟩ := HZW4.out _ gb)
    | (go_at_call 15; (with_reducible refine (equal_q _ g22 g25).mono ?_); rintro e w26 ⟨rfl, hb26⟩; have g10 := g10.to hb26; have g12 := g12.to hb26; have g14 := g14.to hb26; have g15 := g15.to hb26; have g16 := g16.to hb26; have g18 := g18.to hb26; have g19 := g19.to hb26; have g20 := g20.to hb26; have g22 := g22.to hb26; have g23 := g23.to hb26; have g24 := g24.to hb26; have g25 := g25.to hb26; have gb := below_step gb hb26; obtain ⟨x0_0, x0_1, x0_2, x1_0, x1_1, x1_2, x2_0, x2_1, x2_2, x7_0, x7_1, x7_2, x8_0, x8_1, x8_2⟩ := HXW4.out _ gb; obtain ⟨y0_0, y0_1, y0_2, y1_0, y1_1, y1_2, y2_0, y2_1, y2_2, y7_0, y7_1, y7_2, y8_0, y8_1, y8_2⟩ := HYW4.out _ gb; obtain ⟨z0, z1, z2, z7, z8⟩ := HZW4.out _ gb)
    | (go_at_call 24; (with_reducible refine (ratio_add _ _ _ _ _ _ _ _ _ _ _ g23.isQ g24.isQ ((A + B) * C) (Rat.add_mul _ _ _).symm HC7).mono ?_); rintro e w25 ⟨ng25, a25_, n25_, c25_, p25_, m25_, k25_, rfl, g25, hb25⟩; have g10 := g10.to hb25; have g12 := g12.to hb25; have g14 := g14.to hb25; have g15 := g15.to hb25; have g16 := g16.to hb25; have g18 := g18.to hb25; have g19 := g19.to hb25; have g20 := g20.to hb25; have g22 := g22.to hb25; have g23 := g23.to hb25; have g24 := g24.to hb25; have gb := below_step gb hb25; obtain ⟨x0_0, x0_1, x0_2, x1_0, x1_1, x1_2, x2_0, x2_1, x2_2, x7_0, x7_1, x7_2, x8_0, x8_1, x8_2⟩ := HXW4.out _ gb; obtain ⟨y0_0, y0_1, y0_2, y1_0, y1_1, y1_2, y2_0, y2_1, y2_2, y7_0, y7_1, y7_2, y8_0, y8_1, y8_2⟩ := HYW4.out _ gb; obtain ⟨z0, z1, z2, z7, z8⟩ := HZW4.out _ gb)
    | (go_at_call 20; (with_reducible refine (ratio_mul _ _ _ _ _ _ _ _ _ _ _ (i1.to gb) (i2.to gb) (B * C) rfl HC6).mono ?_); rintro e w24 ⟨ng24, a24_, n24_, c24_, p24_, m24_, k24_, rfl, g24, hb24⟩; have g10 := g10.to hb24; have g12 := g12.to hb24; have g14 := g14.to hb24; have g15 := g15.to hb24; have g16 := g16.to hb24; have g18 := g18.to hb24; have g19 := g19.to hb24; have g20 := g20.to hb24; have g22 := g22.to hb24; have g23 := g23.to hb24; have gb := below_step gb hb24; obtain ⟨x0_0, x0_1, x0_2, x1_0, x1_1, x1_2, x2_0, x2_1, x2_2, x7_0, x7_1, x7_2, x8_0, x8_1, x8_2⟩ := HXW4.out _ gb; obtain ⟨y0_0, y0_1, y0_2, y1_0, y1_1, y1_2, y2_0, y2_1, y2_2, y7_0, y7_1, y7_2, y8_0, y8_1, y8_2⟩ := HYW4.out _ gb; obtain ⟨z0, z1, z2, z7, z8⟩ := HZW4.out _ gb)
    | (go_at_call 20; (with_reducible refine (ratio_mul _ _ _ _ _ _ _ _ _ _ _ (i0.to gb) (i2.to gb) (A * C) rfl HC8).mono ?_); rintro e w23 ⟨ng23, a23_, n23_, c23_, p23_, m23_, k23_, rfl, g23, hb23⟩; have g10 := g10.to hb23; have g12 := g12.to hb23; have g14 := g14.to hb23; have g15 := g15.to hb23; have g16 := g16.to hb23; have g18 := g18.to hb23; have g19 := g19.to hb23; have g20 := g20.to hb23; have g22 := g22.to hb23; have gb := below_step gb hb23; obtain ⟨x0_0, x0_1, x0_2, x1_0, x1_1, x1_2, x2_0, x2_1, x2_2, x7_0, x7_1, x7_2, x8_0, x8_1, x8_2⟩ := HXW4.out _ gb; obtain ⟨y0_0, y0_1, y0_2, y1_0, y1_1, y1_2, y2_0, y2_1, y2_2, y7_0, y7_1, y7_2, y8_0, y8_1, y8_2⟩ := HYW4.out _ gb; obtain ⟨z0, z1, z2, z7, z8⟩ := HZW4.out _ gb)
    | (go_at_call 20; (with_reducible refine (ratio_mul _ _ _ _ _ _ _ _ _ _ _ (g3.to gb).isQ (i2.to gb) ((A + B) * C) rfl HC7).mono ?_); rintro e w22 ⟨ng22, a22_, n22_, c22_, p22_, m22_, k22_, rfl, g22, hb22⟩; have g10 := g10.to hb22; have g12 := g12.to hb22; have g14 := g14.to hb22; have g15 := g15.to hb22; have g16 := g16.to hb22; have g18 := g18.to hb22; have g19 := g19.to hb22; have g20 := g20.to hb22; have gb := below_step gb hb22; obtain ⟨x0_0, x0_1, x0_2, x1_0, x1_1, x1_2, x2_0, x2_1, x2_2, x7_0, x7_1, x7_2, x8_0, x8_1, x8_2⟩ := HXW4.out _ gb; obtain ⟨y0_0, y0_1, y0_2, y1_0, y1_1, y1_2, y2_0, y2_1, y2_2, y7_0, y7_1, y7_2, y8_0, y8_1, y8_2⟩ := HYW4.out _ gb; obtain ⟨z0, z1, z2, z7, z8⟩ := HZW4.out _ gb)
    | (go_at_call 15; (with_reducible refine (equal_q _ g18 g20).mono ?_); rintro e w21 ⟨rfl, hb21⟩; have g10 := g10.to hb21; have g12 := g12.to hb21; have g14 := g14.to hb21; have g15 := g15.to hb21; have g16 := g16.to hb21; have g18 := g18.to hb21; have g19 := g19.to hb21; have g20 := g20.to hb21; have gb := below_step gb hb21; obtain ⟨x0_0, x0_1, x0_2, x1_0, x1_1, x1_2, x2_0, x2_1, x2_2, x7_0, x7_1, x7_2, x8_0, x8_1, x8_2⟩ := HXW4.out _ gb; obtain ⟨y0_0, y0_1, y0_2, y1_0, y1_1, y1_2, y2_0, y2_1, y2_2, y7_0, y7_1, y7_2, y8_0, y8_1, y8_2⟩ := HYW4.out _ gb; obtain ⟨z0, z1, z2, z7, z8⟩ := HZW4.out _ gb)
    | (go_at_call 20; (with_reducible refine (ratio_mul _ _ _ _ _ _ _ _ _ _ _ (i0.to gb) g19.isQ ((A * B) * C) (Rat.mul_assoc _ _ _).symm HC5).mono ?_); rintro e w20 ⟨ng20, a20_, n20_, c20_, p20_, m20_, k20_, rfl, g20, hb20⟩; have g10 := g10.to hb20; have g12 := g12.to hb20; have g14 := g14.to hb20; have g15 := g15.to hb20; have g16 := g16.to hb20; have g18 := g18.to hb20; have g19 := g19.to hb20; have gb := below_step gb hb20; obtain ⟨x0_0, x0_1, x0_2, x1_0, x1_1, x1_2, x2_0, x2_1, x2_2, x7_0, x7_1, x7_2, x8_0, x8_1, x8_2⟩ := HXW4.out _ gb; obtain ⟨y0_0, y0_1, y0_2, y1_0, y1_1, y1_2, y2_0, y2_1, y2_2, y7_0, y7_1, y7_2, y8_0, y8_1, y8_2⟩ := HYW4.out _ gb; obtain ⟨z0, z1, z2, z7, z8⟩ := HZW4.out _ gb)
    | (go_at_call 20; (with_reducible refine (ratio_mul _ _ _ _ _ _ _ _ _ _ _ (i1.to gb) (i2.to gb) (B * C) rfl HC6).mono ?_); rintro e w19 ⟨ng19, a19_, n19_, c19_, p19_, m19_, k19_, rfl, g19, hb19⟩; have g10 := g10.to hb19; have g12 := g12.to hb19; have g14 := g14.to hb19; have g15 := g15.to hb19; have g16 := g16.to hb19; have g18 := g18.to hb19; have gb := below_step gb hb19; obtain ⟨x0_0, x0_1, x0_2, x1_0, x1_1, x1_2, x2_0, x2_1, x2_2, x7_0, x7_1, x7_2, x8_0, x8_1, x8_2⟩ := HXW4.out _ gb; obtain ⟨y0_0, y0_1, y0_2, y1_0, y1_1, y1_2, y2_0, y2_1, y2_2, y7_0, y7_1, y7_2, y8_0, y8_1, y8_2⟩ := HYW4.out _ gb; obtain ⟨z0, z1, z2, z7, z8⟩ := HZW4.out _ gb)
    | (go_at_call 20; (with_reducible refine (ratio_mul _ _ _ _ _ _ _ _ _ _ _ (g4.to gb).isQ (i2.to gb) ((A * B) * C) rfl HC5).mono ?_); rintro e w18 ⟨ng18, a18_, n18_, c18_, p18_, m18_, k18_, rfl, g18, hb18⟩; have g10 := g10.to hb18; have g12 := g12.to hb18; have g14 := g14.to hb18; have g15 := g15.to hb18; have g16 := g16.to hb18; have gb := below_step gb hb18; obtain ⟨x0_0, x0_1, x0_2, x1_0, x1_1, x1_2, x2_0, x2_1, x2_2, x7_0, x7_1, x7_2, x8_0, x8_1, x8_2⟩ := HXW4.out _ gb; obtain ⟨y0_0, y0_1, y0_2, y1_0, y1_1, y1_2, y2_0, y2_1, y2_2, y7_0, y7_1, y7_2, y8_0, y8_1, y8_2⟩ := HYW4.out _ gb; obtain ⟨z0, z1, z2, z7, z8⟩ := HZW4.out _ gb)
    | (go_at_call 15; (with_reducible refine (equal_q _ g14 g16).mono ?_); rintro e w17 ⟨rfl, hb17⟩; have g10 := g10.to hb17; have g12 := g12.to hb17; have g14 := g14.to hb17; have g15 := g15.to hb17; have g16 := g16.to hb17; have gb := below_step gb hb17; obtain ⟨x0_0, x0_1, x0_2, x1_0, x1_1, x1_2, x2_0, x2_1, x2_2, x7_0, x7_1, x7_2, x8_0, x8_1, x8_2⟩ := HXW4.out _ gb; obtain ⟨y0_0, y0_1, y0_2, y1_0, y1_1, y1_2, y2_0, y2_1, y2_2, y7_0, y7_1, y7_2, y8_0, y8_1, y8_2⟩ := HYW4.out _ gb; obtain ⟨z0, z1, z2, z7, z8⟩ := HZW4.out _ gb)
    | (go_at_call 24; (with_reducible refine (ratio_add _ _ _ _ _ _ _ _ _ _ _ (i0.to gb) g15.isQ ((A + B) + C) (Rat.add_assoc _ _ _).symm HC3).mono ?_); rintro e w16 ⟨ng16, a16_, n16_, c16_, p16_, m16_, k16_, rfl, g16, hb16⟩; have g10 := g10.to hb16; have g12 := g12.to hb16; have g14 := g14.to hb16; have g15 := g15.to hb16; have gb := below_step gb hb16; obtain ⟨x0_0, x0_1, x0_2, x1_0, x1_1, x1_2, x2_0, x2_1, x2_2, x7_0, x7_1, x7_2, x8_0, x8_1, x8_2⟩ := HXW4.out _ gb; obtain ⟨y0_0, y0_1, y0_2, y1_0, y1_1, y1_2, y2_0, y2_1, y2_2, y7_0, y7_1, y7_2, y8_0, y8_1, y8_2⟩ := HYW4.out _ gb; obtain ⟨z0, z1, z2, z7, z8⟩ := HZW4.out _ gb)
    | (go_at_call 24; (with_reducible refine (ratio_add _ _ _ _ _ _ _ _ _ _ _ (i1.to gb) (i2.to gb) (B + C) rfl HC4).mono ?_); rintro e w15 ⟨ng15, a15_, n15_, c15_, p15_, m15_, k15_, rfl, g15, hb15⟩; have g10 := g10.to hb15; have g12 := g12.to hb15; have g14 := g14.to hb15; have gb := below_step gb hb15; obtain ⟨x0_0, x0_1, x0_2, x1_0, x1_1, x1_2, x2_0, x2_1, x2_2, x7_0, x7_1, x7_2, x8_0, x8_1, x8_2⟩ := HXW4.out _ gb; obtain ⟨y0_0, y0_1, y0_2, y1_0, y1_1, y1_2, y2_0, y2_1, y2_2, y7_0, y7_1, y7_2, y8_0, y8_1, y8_2⟩ := HYW4.out _ gb; obtain ⟨z0, z1, z2, z7, z8⟩ := HZW4.out _ gb)
    | (go_at_call 24; (with_reducible refine (ratio_add _ _ _ _ _ _ _ _ _ _ _ (g3.to gb).isQ (i2.to gb) ((A + B) + C) rfl HC3).mono ?_); rintro e w14 ⟨ng14, a14_, n14_, c14_, p14_, m14_, k14_, rfl, g14, hb14⟩; have g10 := g10.to hb14; have g12 := g12.to hb14; have gb := below_step gb hb14; obtain ⟨x0_0, x0_1, x0_2, x1_0, x1_1, x1_2, x2_0, x2_1, x2_2, x7_0, x7_1, x7_2, x8_0, x8_1, x8_2⟩ := HXW4.out _ gb; obtain ⟨y0_0, y0_1, y0_2, y1_0, y1_1, y1_2, y2_0, y2_1, y2_2, y7_0, y7_1, y7_2, y8_0, y8_1, y8_2⟩ := HYW4.out _ gb; obtain ⟨z0, z1, z2, z7, z8⟩ := HZW4.out _ gb)
    | (go_at_call 15; (with_reducible refine (equal_q _ (g4.to gb) g12).mono ?_); rintro e w13 ⟨rfl, hb13⟩; have g10 := g10.to hb13; have g12 := g12.to hb13; have gb := below_step gb hb13; obtain ⟨x0_0, x0_1, x0_2, x1_0, x1_1, x1_2, x2_0, x2_1, x2_2, x7_0, x7_1, x7_2, x8_0, x8_1, x8_2⟩ := HXW4.out _ gb; obtain ⟨y0_0, y0_1, y0_2, y1_0, y1_1, y1_2, y2_0, y2_1, y2_2, y7_0, y7_1, y7_2, y8_0, y8_1, y8_2⟩ := HYW4.out _ gb; obtain ⟨z0, z1, z2, z7, z8⟩ := HZW4.out _ gb)
    | (go_at_call 20; (with_reducible refine (ratio_mul _ _ _ _ _ _ _ _ _ _ _ (i1.to gb) (i0.to gb) (A * B) (Rat.mul_comm _ _) HC2).mono ?_); rintro e w12 ⟨ng12, a12_, n12_, c12_, p12_, m12_, k12_, rfl, g12, hb12⟩; have g10 := g10.to hb12; have gb := below_step gb hb12; obtain ⟨x0_0, x0_1, x0_2, x1_0, x1_1, x1_2, x2_0, x2_1, x2_2, x7_0, x7_1, x7_2, x8_0, x8_1, x8_2⟩ := HXW4.out _ gb; obtain ⟨y0_0, y0_1, y0_2, y1_0, y1_1, y1_2, y2_0, y2_1, y2_2, y7_0, y7_1, y7_2, y8_0, y8_1, y8_2⟩ := HYW4.out _ gb; obtain ⟨z0, z1, z2, z7, z8⟩ := HZW4.out _ gb)
    | (go_at_call 15; (with_reducible refine (equal_q _ (g3.to gb) g10).mono ?_); rintro e w11 ⟨rfl, hb11⟩; have g10 := g10.to hb11; have gb := below_step gb hb11; obtain ⟨x0_0, x0_1, x0_2, x1_0, x1_1, x1_2, x2_0, x2_1, x2_2, x7_0, x7_1, x7_2, x8_0, x8_1, x8_2⟩ := HXW4.out _ gb; obtain ⟨y0_0, y0_1, y0_2, y1_0, y1_1, y1_2, y2_0, y2_1, y2_2, y7_0, y7_1, y7_2, y8_0, y8_1, y8_2⟩ := HYW4.out _ gb; obtain ⟨z0, z1, z2, z7, z8⟩ := HZW4.out _ gb)
    | (go_at_call 24; have gb := gb.drew; (with_reducible refine (ratio_add _ _ _ _ _ _ _ _ _ _ _ (i1.to gb) (i0.to gb) (A + B) (Rat.add_comm _ _) HC1).mono ?_); rintro e w10 ⟨ng10, a10_, n10_, c10_, p10_, m10_, k10_, rfl, g10, hb10⟩; have gb := below_step gb hb10; obtain ⟨x0_0, x0_1, x0_2, x1_0, x1_1, x1_2, x2_0, x2_1, x2_2, x7_0, x7_1, x7_2, x8_0, x8_1, x8_2⟩ := HXW4.out _ gb; obtain ⟨y0_0, y0_1, y0_2, y1_0, y1_1, y1_2, y2_0, y2_1, y2_2, y7_0, y7_1, y7_2, y8_0, y8_1, y8_2⟩ := HYW4.out _ gb; obtain ⟨z0, z1, z2, z7, z8⟩ := HZW4.out _ gb))
  go_wp2_with fail
  go_ret
  exact ⟨by first | rfl | exact ret_bool (by simp), below_step zb gb⟩

end Go.Proofs.Ytmjnlpanlgmdmaa

