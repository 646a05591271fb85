/-
  The walks of the laws of layer 8.
-/
import Derived.Test.YtmjnlpanlgmdmaaG12
import Derived.Test.YtmjnlpanlgmdmaaG21
import Derived.Test.YtmjnlpanlgmdmaaG20
import Derived.Test.YtmjnlpanlgmdmaaG05
import Derived.Deep.RegionHeld3
import Derived.Deep.Cut
import Derived.Deep.DrawnRows
import Derived.Laws.EntriesVeiled
namespace Go.Proofs.Ytmjnlpanlgmdmaa
open Go.RowKit Tw
set_option linter.unusedVariables false
set_option linter.unusedSimpArgs false
attribute [local go_sem ↓] Go.wp_at_zero Go.wp_at_succ

set_option maxRecDepth 100000 in
set_option maxHeartbeats 60000000 in
theorem walk_RatioTells (b0 : Bool) (v0 : Value) (l0 : List Nat) (u0 : Value) (m0 : List Nat) (b1 : Bool) (v1 : Value) (l1 : List Nat) (b2 : Bool) (v2 : Value) (l2 : List Nat) (k : Int) (w : World) (hn0 : Rd w v0 l0) (hd0 : Rd w u0 m0) (g1 : Rd w v1 l1) (g2 : Rd w v2 l2) (k0 : -9223372036854775808 ≤ k) (k1 : k < 9223372036854775808) :
    Calls Try.prog 7 #[aggR b0 v0 u0, aggI b1 v1, aggI b2 v2, .int .i64 k] w (Holds w) := by
  have h0 : IsF w v0 u0 l0 m0 := ⟨hn0, hd0⟩
  clear hn0 hd0
  obtain ⟨a0, n0, c0, rfl, H0, hm0⟩ := h0.1.open
  obtain ⟨a1, n1, c1, rfl, H1, hm1⟩ := h0.2.open
  obtain ⟨a2, n2, c2, rfl, H2, hm2⟩ := g1.open
  obtain ⟨a3, n3, c3, rfl, H3, hm3⟩ := g2.open
  obtain ⟨mg, r1, r2, rk, M1, M2⟩ : ∃ mg r1 r2 rk, Hid (n2 ≤ 4 → n3 ≤ 4 → ∀ w, Rd w (.slice a2 n2 c2) l1 → Rd w (.slice a3 n3 c3) l2 → Calls Try.prog 22 #[aggI b1 (.slice a2 n2 c2), aggI b2 (.slice a3 n3 c3)] w (GivesF w mg r1 r2 rk)) ∧ Hid (n2 ≤ 4 → n3 ≤ 4 → ∀ w, Rd w (.slice a2 n2 c2) l1 → Rd w (.slice a3 n3 c3) l2 → Calls Try.prog 26 #[aggI b1 (.slice a2 n2 c2), aggI b2 (.slice a3 n3 c3)] w (GivesF w mg r1 r2 rk)) := by
    by_cases hL : l1.length ≤ 1000 ∧ l2.length ≤ 1000
    · obtain ⟨mg, r1, r2, rk, h1, h2⟩ := make_both b1 b2 (.slice a2 n2 c2) (.slice a3 n3 c3) l1 l2 g1.1 g2.1 hL.1 hL.2
      exact ⟨mg, r1, r2, rk, fun _ _ => h1, fun _ _ => h2⟩
    · exact ⟨false, [], [], 0, fun q1 q2 => absurd ⟨by have := H2.out; omega, by have := H3.out; omega⟩ hL, fun q1 q2 => absurd ⟨by have := H2.out; omega, by have := H3.out; omega⟩ hL⟩
  by_cases hf : n0 ≤ 4 ∧ n1 ≤ 4
  rotate_left
  · skip
    go_enter Try.func7, Try.ntmps7
    go_wp2_with fail
    obtain ⟨W0, hW0⟩ : ∃ W0, ((w.alloc (.cells #[.bool b0, .slice a0 n0 c0, .slice a1 n1 c1] 24)).alloc (.cells #[.bool b1, .slice a2 n2 c2] 40)).alloc (.cells #[.bool b2, .slice a3 n3 c3] 40) = W0 := ⟨_, rfl⟩
    have HXW0 := Lib.hid (show ∀ W', Below W0.heap.size W0 W' → (W'.cell? ⟨w.heap.size, 0, none⟩ = some (.bool b0) ∧ W'.cell? ⟨w.heap.size, 1, none⟩ = some (.slice a0 n0 c0) ∧ W'.cell? ⟨w.heap.size, 2, none⟩ = some (.slice a1 n1 c1) ∧ W'.cell? ⟨w.heap.size + 1, 0, none⟩ = some (.bool b1) ∧ W'.cell? ⟨w.heap.size + 1, 1, none⟩ = some (.slice a2 n2 c2) ∧ W'.cell? ⟨w.heap.size + 1 + 1, 0, none⟩ = some (.bool b2) ∧ W'.cell? ⟨w.heap.size + 1 + 1, 1, none⟩ = some (.slice a3 n3 c3)) from fun W' hb =>
      ⟨(hb.cell (p := ⟨w.heap.size, 0, none⟩) (by rw [← hW0]; simp <;> omega)).trans (by rw [← hW0]; simp [go_sem]), (hb.cell (p := ⟨w.heap.size, 1, none⟩) (by rw [← hW0]; simp <;> omega)).trans (by rw [← hW0]; simp [go_sem]), (hb.cell (p := ⟨w.heap.size, 2, none⟩) (by rw [← hW0]; simp <;> omega)).trans (by rw [← hW0]; simp [go_sem]), (hb.cell (p := ⟨w.heap.size + 1, 0, none⟩) (by rw [← hW0]; simp <;> omega)).trans (by rw [← hW0]; simp [go_sem]), (hb.cell (p := ⟨w.heap.size + 1, 1, none⟩) (by rw [← hW0]; simp <;> omega)).trans (by rw [← hW0]; simp [go_sem]), (hb.cell (p := ⟨w.heap.size + 1 + 1, 0, none⟩) (by rw [← hW0]; simp <;> omega)).trans (by rw [← hW0]; simp [go_sem]), (hb.cell (p := ⟨w.heap.size + 1 + 1, 1, none⟩) (by rw [← hW0]; simp <;> omega)).trans (by rw [← hW0]; simp [go_sem])⟩)
    have HYW0 := Lib.hid (show ∀ W', Below W0.heap.size W0 W' → (W'.frozen? ⟨w.heap.size, 0, none⟩ = false ∧ W'.frozen? ⟨w.heap.size, 1, none⟩ = false ∧ W'.frozen? ⟨w.heap.size, 2, none⟩ = false ∧ W'.frozen? ⟨w.heap.size + 1, 0, none⟩ = false ∧ W'.frozen? ⟨w.heap.size + 1, 1, none⟩ = false ∧ W'.frozen? ⟨w.heap.size + 1 + 1, 0, none⟩ = false ∧ W'.frozen? ⟨w.heap.size + 1 + 1, 1, none⟩ = false) from fun W' hb =>
      ⟨(hb.frozen (p := ⟨w.heap.size, 0, none⟩) (by rw [← hW0]; simp <;> omega)).trans (by rw [← hW0]; simp [go_sem]), (hb.frozen (p := ⟨w.heap.size, 1, none⟩) (by rw [← hW0]; simp <;> omega)).trans (by rw [← hW0]; simp [go_sem]), (hb.frozen (p := ⟨w.heap.size, 2, none⟩) (by rw [← hW0]; simp <;> omega)).trans (by rw [← hW0]; simp [go_sem]), (hb.frozen (p := ⟨w.heap.size + 1, 0, none⟩) (by rw [← hW0]; simp <;> omega)).trans (by rw [← hW0]; simp [go_sem]), (hb.frozen (p := ⟨w.heap.size + 1, 1, none⟩) (by rw [← hW0]; simp <;> omega)).trans (by rw [← hW0]; simp [go_sem]), (hb.frozen (p := ⟨w.heap.size + 1 + 1, 0, none⟩) (by rw [← hW0]; simp <;> omega)).trans (by rw [← hW0]; simp [go_sem]), (hb.frozen (p := ⟨w.heap.size + 1 + 1, 1, none⟩) (by rw [← hW0]; simp <;> omega)).trans (by rw [← hW0]; simp [go_sem])⟩)
    have HZW0 := Lib.hid (show ∀ W', Below W0.heap.size W0 W' → (w.heap.size < W'.heap.size ∧ w.heap.size + 1 < W'.heap.size ∧ w.heap.size + 1 + 1 < W'.heap.size) from fun W' hb =>
      ⟨Nat.lt_of_lt_of_le (by rw [← hW0]; simp <;> omega) hb.size, Nat.lt_of_lt_of_le (by rw [← hW0]; simp <;> omega) hb.size, Nat.lt_of_lt_of_le (by rw [← hW0]; simp <;> omega) hb.size⟩)
    have zb : Below w.heap.size w W0 := by rw [← hW0]; exact below_step (below_step (below_new _ _) (below_new _ _)) (below_new _ _)
    rw [hW0]
    clear hW0
    have i0 := h0.to zb
    have i1 := g1.to zb
    have i2 := g2.to zb
    have gb : Below W0.heap.size W0 W0 := Below.refl _ _
    obtain ⟨x0_0, x0_1, x0_2, x1_0, x1_1, x2_0, x2_1⟩ := HXW0.out _ gb
    obtain ⟨y0_0, y0_1, y0_2, y1_0, y1_1, y2_0, y2_1⟩ := HYW0.out _ gb
    obtain ⟨z0, z1, z2⟩ := HZW0.out _ gb
    refine (awake8 _).mono ?_
    clear x0_0 y0_0 x0_1 y0_1 x0_2 y0_2 x1_0 y1_0 x1_1 y1_1 x2_0 y2_0 x2_1 y2_1
    rintro e w1 ⟨rfl, hb1⟩
    replace gb := below_step gb hb1
    obtain ⟨x0_0, x0_1, x0_2, x1_0, x1_1, x2_0, x2_1⟩ := HXW0.out _ gb
    obtain ⟨y0_0, y0_1, y0_2, y1_0, y1_1, y2_0, y2_1⟩ := HYW0.out _ gb
    obtain ⟨z0, z1, z2⟩ := HZW0.out _ gb
    go_wp2_with fail
    refine (law8_few _ _ _ _ _ _ _ _ _ _ _ _ _ _ _ _ _ _ _ _ _ false _ (decide_eq_false (by omega))).mono ?_
    clear x0_0 y0_0 x0_1 y0_1 x0_2 y0_2 x1_0 y1_0 x1_1 y1_1 x2_0 y2_0 x2_1 y2_1
    rintro e w2 ⟨rfl, hb2⟩
    replace gb := below_step gb hb2
    obtain ⟨x0_0, x0_1, x0_2, x1_0, x1_1, x2_0, x2_1⟩ := HXW0.out _ gb
    obtain ⟨y0_0, y0_1, y0_2, y1_0, y1_1, y2_0, y2_1⟩ := HYW0.out _ gb
    obtain ⟨z0, z1, z2⟩ := HZW0.out _ gb
    go_wp2_with fail
    go_ret
    exact ⟨rfl, below_step zb gb⟩
  have hlens := hf
  have e1 := H0.out
  have e2 := H1.out
  obtain ⟨A, hh⟩ : ∃ z, rat b0 (val l0) (val m0) = z := ⟨_, rfl⟩
  have i0 : IsQ w b0 (.slice a0 n0 c0) (.slice a1 n1 c1) l0 m0 A := ⟨h0.1, h0.2, hh, by omega, by omega⟩
  have HBA : Hid (szq A ≤ 4) := by
    show _ ≤ _
    rw [← hh]
    refine Nat.le_trans (szq_rat _ _ _) ?_
    have k1 := sz_val h0.1.1
    have k2 := sz_val h0.2.1
    omega
  have HCA : Hid (szq A ≤ 1000) := Nat.le_trans HBA.out (by omega)
  have HRA := Lib.hid hh
  clear hh e1 e2
  have HB9 : Hid (szq ((-A)) ≤ 4) := by
    have h1 : szq (A) ≤ 4 := HBA.out
    show _ ≤ _
    rw [szq_neg]
    exact h1
  have HC9 : Hid (szq ((-A)) ≤ 1000) := Nat.le_trans HB9.out (by omega)
  have HF := Lib.hid (show decide (n0 ≤ 4 ∧ n1 ≤ 4 ∧ n0 ≤ 4 ∧ n1 ≤ 4 ∧ n0 ≤ 4 ∧ n1 ≤ 4) = true from decide_eq_true (by omega))
  clear hf hlens
  go_enter Try.func7, Try.ntmps7
  go_wp2_with fail
  obtain ⟨W0, hW0⟩ : ∃ W0, ((w.alloc (.cells #[.bool b0, .slice a0 n0 c0, .slice a1 n1 c1] 24)).alloc (.cells #[.bool b1, .slice a2 n2 c2] 40)).alloc (.cells #[.bool b2, .slice a3 n3 c3] 40) = W0 := ⟨_, rfl⟩
  have HXW0 := Lib.hid (show ∀ W', Below W0.heap.size W0 W' → (W'.cell? ⟨w.heap.size, 0, none⟩ = some (.bool b0) ∧ W'.cell? ⟨w.heap.size, 1, none⟩ = some (.slice a0 n0 c0) ∧ W'.cell? ⟨w.heap.size, 2, none⟩ = some (.slice a1 n1 c1) ∧ W'.cell? ⟨w.heap.size + 1, 0, none⟩ = some (.bool b1) ∧ W'.cell? ⟨w.heap.size + 1, 1, none⟩ = some (.slice a2 n2 c2) ∧ W'.cell? ⟨w.heap.size + 1 + 1, 0, none⟩ = some (.bool b2) ∧ W'.cell? ⟨w.heap.size + 1 + 1, 1, none⟩ = some (.slice a3 n3 c3)) from fun W' hb =>
    ⟨(hb.cell (p := ⟨w.heap.size, 0, none⟩) (by rw [← hW0]; simp <;> omega)).trans (by rw [← hW0]; simp [go_sem]), (hb.cell (p := ⟨w.heap.size, 1, none⟩) (by rw [← hW0]; simp <;> omega)).trans (by rw [← hW0]; simp [go_sem]), (hb.cell (p := ⟨w.heap.size, 2, none⟩) (by rw [← hW0]; simp <;> omega)).trans (by rw [← hW0]; simp [go_sem]), (hb.cell (p := ⟨w.heap.size + 1, 0, none⟩) (by rw [← hW0]; simp <;> omega)).trans (by rw [← hW0]; simp [go_sem]), (hb.cell (p := ⟨w.heap.size + 1, 1, none⟩) (by rw [← hW0]; simp <;> omega)).trans (by rw [← hW0]; simp [go_sem]), (hb.cell (p := ⟨w.heap.size + 1 + 1, 0, none⟩) (by rw [← hW0]; simp <;> omega)).trans (by rw [← hW0]; simp [go_sem]), (hb.cell (p := ⟨w.heap.size + 1 + 1, 1, none⟩) (by rw [← hW0]; simp <;> omega)).trans (by rw [← hW0]; simp [go_sem])⟩)
  have HYW0 := Lib.hid (show ∀ W', Below W0.heap.size W0 W' → (W'.frozen? ⟨w.heap.size, 0, none⟩ = false ∧ W'.frozen? ⟨w.heap.size, 1, none⟩ = false ∧ W'.frozen? ⟨w.heap.size, 2, none⟩ = false ∧ W'.frozen? ⟨w.heap.size + 1, 0, none⟩ = false ∧ W'.frozen? ⟨w.heap.size + 1, 1, none⟩ = false ∧ W'.frozen? ⟨w.heap.size + 1 + 1, 0, none⟩ = false ∧ W'.frozen? ⟨w.heap.size + 1 + 1, 1, none⟩ = false) from fun W' hb =>
    ⟨(hb.frozen (p := ⟨w.heap.size, 0, none⟩) (by rw [← hW0]; simp <;> omega)).trans (by rw [← hW0]; simp [go_sem]), (hb.frozen (p := ⟨w.heap.size, 1, none⟩) (by rw [← hW0]; simp <;> omega)).trans (by rw [← hW0]; simp [go_sem]), (hb.frozen (p := ⟨w.heap.size, 2, none⟩) (by rw [← hW0]; simp <;> omega)).trans (by rw [← hW0]; simp [go_sem]), (hb.frozen (p := ⟨w.heap.size + 1, 0, none⟩) (by rw [← hW0]; simp <;> omega)).trans (by rw [← hW0]; simp [go_sem]), (hb.frozen (p := ⟨w.heap.size + 1, 1, none⟩) (by rw [← hW0]; simp <;> omega)).trans (by rw [← hW0]; simp [go_sem]), (hb.frozen (p := ⟨w.heap.size + 1 + 1, 0, none⟩) (by rw [← hW0]; simp <;> omega)).trans (by rw [← hW0]; simp [go_sem]), (hb.frozen (p := ⟨w.heap.size + 1 + 1, 1, none⟩) (by rw [← hW0]; simp <;> omega)).trans (by rw [← hW0]; simp [go_sem])⟩)
  have HZW0 := Lib.hid (show ∀ W', Below W0.heap.size W0 W' → (w.heap.size < W'.heap.size ∧ w.heap.size + 1 < W'.heap.size ∧ w.heap.size + 1 + 1 < W'.heap.size) from fun W' hb =>
    ⟨Nat.lt_of_lt_of_le (by rw [← hW0]; simp <;> omega) hb.size, Nat.lt_of_lt_of_le (by rw [← hW0]; simp <;> omega) hb.size, Nat.lt_of_lt_of_le (by rw [← hW0]; simp <;> omega) hb.size⟩)
  have zb : Below w.heap.size w W0 := by rw [← hW0]; exact below_step (below_step (below_new _ _) (below_new _ _)) (below_new _ _)
  rw [hW0]
  clear hW0
  have i0 := i0.to zb
  have i1 := g1.to zb
  have i2 := g2.to zb
  have gb : Below W0.heap.size W0 W0 := Below.refl _ _
  obtain ⟨x0_0, x0_1, x0_2, x1_0, x1_1, x2_0, x2_1⟩ := HXW0.out _ gb
  obtain ⟨y0_0, y0_1, y0_2, y1_0, y1_1, y2_0, y2_1⟩ := HYW0.out _ gb
  obtain ⟨z0, z1, z2⟩ := HZW0.out _ gb
  refine (awake8 _).mono ?_
  clear x0_0 y0_0 x0_1 y0_1 x0_2 y0_2 x1_0 y1_0 x1_1 y1_1 x2_0 y2_0 x2_1 y2_1
  rintro e w1 ⟨rfl, hb1⟩
  replace gb := below_step gb hb1
  obtain ⟨x0_0, x0_1, x0_2, x1_0, x1_1, x2_0, x2_1⟩ := HXW0.out _ gb
  obtain ⟨y0_0, y0_1, y0_2, y1_0, y1_1, y2_0, y2_1⟩ := HYW0.out _ gb
  obtain ⟨z0, z1, z2⟩ := HZW0.out _ gb
  go_wp2_with fail
  refine (law8_few _ _ _ _ _ _ _ _ _ _ _ _ _ _ _ _ _ _ _ _ _ true _ HF.out).mono ?_
  clear x0_0 y0_0 x0_1 y0_1 x0_2 y0_2 x1_0 y1_0 x1_1 y1_1 x2_0 y2_0 x2_1 y2_1
  rintro e w2 ⟨rfl, hb2⟩
  replace gb := below_step gb hb2
  obtain ⟨x0_0, x0_1, x0_2, x1_0, x1_1, x2_0, x2_1⟩ := HXW0.out _ gb
  obtain ⟨y0_0, y0_1, y0_2, y1_0, y1_1, y2_0, y2_1⟩ := HYW0.out _ gb
  obtain ⟨z0, z1, z2⟩ := HZW0.out _ gb
  obtain ⟨o, ho⟩ : ∃ o, rightQ b0 l0 m0 A = o := ⟨_, rfl⟩
  have HO := Lib.hid ho
  clear ho
  by_cases hI : n2 ≤ 4
  rotate_left
  · skip
    skip
    go_wp2_with fail
    go_ret
    exact ⟨by first | rfl | exact ret_bool (by simp), below_step zb gb⟩
  have hIa := Lib.hid hI
  by_cases hI : n3 ≤ 4
  rotate_left
  · skip
    skip
    go_wp2_with fail
    go_ret
    exact ⟨by first | rfl | exact ret_bool (by simp), below_step zb gb⟩
  have hIb := Lib.hid hI
  go_wp2_with fail
  refine (M1.out hIa.out hIb.out _ (i1.to gb) (i2.to gb)).mono ?_
  clear x0_0 y0_0 x0_1 y0_1 x0_2 y0_2 x1_0 y1_0 x1_1 y1_1 x2_0 y2_0 x2_1 y2_1
  rintro e w3 ⟨a3_, n3_, c3_, p3_, m3_, k3_, rfl, g3, hb3⟩
  replace gb := below_step gb hb3
  obtain ⟨x0_0, x0_1, x0_2, x1_0, x1_1, x2_0, x2_1⟩ := HXW0.out _ gb
  obtain ⟨y0_0, y0_1, y0_2, y1_0, y1_1, y2_0, y2_1⟩ := HYW0.out _ gb
  obtain ⟨z0, z1, z2⟩ := HZW0.out _ gb
  go_wp2_with fail
  obtain ⟨W3, hW3⟩ : ∃ W3, w3.alloc (.cells #[.bool mg, .slice a3_ n3_ c3_, .slice p3_ m3_ k3_] 24) = W3 := ⟨_, rfl⟩
  have hb_W3 : Below w3.heap.size w3 W3 := by rw [← hW3]; exact below_new _ _
  have hs_W3 : Hid (W3.heap.size = w3.heap.size + 1) := by show _ = _; rw [← hW3]; simp
  clear x0_0 y0_0 x0_1 y0_1 x0_2 y0_2 x1_0 y1_0 x1_1 y1_1 x2_0 y2_0 x2_1 y2_1
  replace g3 := g3.to hb_W3
  replace gb := below_step gb hb_W3
  obtain ⟨x0_0, x0_1, x0_2, x1_0, x1_1, x2_0, x2_1⟩ := HXW0.out _ gb
  obtain ⟨y0_0, y0_1, y0_2, y1_0, y1_1, y2_0, y2_1⟩ := HYW0.out _ gb
  obtain ⟨z0, z1, z2⟩ := HZW0.out _ gb
  have x7_0 : W3.cell? ⟨w3.heap.size, 0, none⟩ = some (.bool mg) := by rw [← hW3]; simp [go_sem]
  have y7_0 : W3.frozen? ⟨w3.heap.size, 0, none⟩ = false := by rw [← hW3]; simp [go_sem]
  have x7_1 : W3.cell? ⟨w3.heap.size, 1, none⟩ = some (.slice a3_ n3_ c3_) := by rw [← hW3]; simp [go_sem]
  have y7_1 : W3.frozen? ⟨w3.heap.size, 1, none⟩ = false := by rw [← hW3]; simp [go_sem]
  have x7_2 : W3.cell? ⟨w3.heap.size, 2, none⟩ = some (.slice p3_ m3_ k3_) := by rw [← hW3]; simp [go_sem]
  have y7_2 : W3.frozen? ⟨w3.heap.size, 2, none⟩ = false := by rw [← hW3]; simp [go_sem]
  have z7 : w3.heap.size < W3.heap.size := by rw [← hW3]; simp
  rw [hW3]
  clear hW3
  replace i0 := i0.to gb
  replace i1 := i1.to gb
  replace i2 := i2.to gb
  replace zb := below_step zb gb
  have HXW3 := Lib.hid (show ∀ W', Below W3.heap.size W3 W' → (W'.cell? ⟨w.heap.size, 0, none⟩ = some (.bool b0) ∧ W'.cell? ⟨w.heap.size, 1, none⟩ = some (.slice a0 n0 c0) ∧ W'.cell? ⟨w.heap.size, 2, none⟩ = some (.slice a1 n1 c1) ∧ W'.cell? ⟨w.heap.size + 1, 0, none⟩ = some (.bool b1) ∧ W'.cell? ⟨w.heap.size + 1, 1, none⟩ = some (.slice a2 n2 c2) ∧ W'.cell? ⟨w.heap.size + 1 + 1, 0, none⟩ = some (.bool b2) ∧ W'.cell? ⟨w.heap.size + 1 + 1, 1, none⟩ = some (.slice a3 n3 c3) ∧ W'.cell? ⟨w3.heap.size, 0, none⟩ = some (.bool mg) ∧ W'.cell? ⟨w3.heap.size, 1, none⟩ = some (.slice a3_ n3_ c3_) ∧ W'.cell? ⟨w3.heap.size, 2, none⟩ = some (.slice p3_ m3_ k3_)) from fun W' hb =>
    ⟨(hb.cell (p := ⟨w.heap.size, 0, none⟩) z0).trans x0_0, (hb.cell (p := ⟨w.heap.size, 1, none⟩) z0).trans x0_1, (hb.cell (p := ⟨w.heap.size, 2, none⟩) z0).trans x0_2, (hb.cell (p := ⟨w.heap.size + 1, 0, none⟩) z1).trans x1_0, (hb.cell (p := ⟨w.heap.size + 1, 1, none⟩) z1).trans x1_1, (hb.cell (p := ⟨w.heap.size + 1 + 1, 0, none⟩) z2).trans x2_0, (hb.cell (p := ⟨w.heap.size + 1 + 1, 1, none⟩) z2).trans x2_1, (hb.cell (p := ⟨w3.heap.size, 0, none⟩) z7).trans x7_0, (hb.cell (p := ⟨w3.heap.size, 1, none⟩) z7).trans x7_1, (hb.cell (p := ⟨w3.heap.size, 2, none⟩) z7).trans x7_2⟩)
  have HYW3 := Lib.hid (show ∀ W', Below W3.heap.size W3 W' → (W'.frozen? ⟨w.heap.size, 0, none⟩ = false ∧ W'.frozen? ⟨w.heap.size, 1, none⟩ = false ∧ W'.frozen? ⟨w.heap.size, 2, none⟩ = false ∧ W'.frozen? ⟨w.heap.size + 1, 0, none⟩ = false ∧ W'.frozen? ⟨w.heap.size + 1, 1, none⟩ = false ∧ W'.frozen? ⟨w.heap.size + 1 + 1, 0, none⟩ = false ∧ W'.frozen? ⟨w.heap.size + 1 + 1, 1, none⟩ = false ∧ W'.frozen? ⟨w3.heap.size, 0, none⟩ = false ∧ W'.frozen? ⟨w3.heap.size, 1, none⟩ = false ∧ W'.frozen? ⟨w3.heap.size, 2, none⟩ = false) from fun W' hb =>
    ⟨(hb.frozen (p := ⟨w.heap.size, 0, none⟩) z0).trans y0_0, (hb.frozen (p := ⟨w.heap.size, 1, none⟩) z0).trans y0_1, (hb.frozen (p := ⟨w.heap.size, 2, none⟩) z0).trans y0_2, (hb.frozen (p := ⟨w.heap.size + 1, 0, none⟩) z1).trans y1_0, (hb.frozen (p := ⟨w.heap.size + 1, 1, none⟩) z1).trans y1_1, (hb.frozen (p := ⟨w.heap.size + 1 + 1, 0, none⟩) z2).trans y2_0, (hb.frozen (p := ⟨w.heap.size + 1 + 1, 1, none⟩) z2).trans y2_1, (hb.frozen (p := ⟨w3.heap.size, 0, none⟩) z7).trans y7_0, (hb.frozen (p := ⟨w3.heap.size, 1, none⟩) z7).trans y7_1, (hb.frozen (p := ⟨w3.heap.size, 2, none⟩) z7).trans y7_2⟩)
  have HZW3 := Lib.hid (show ∀ W', Below W3.heap.size W3 W' → (w.heap.size < W'.heap.size ∧ w.heap.size + 1 < W'.heap.size ∧ w.heap.size + 1 + 1 < W'.heap.size ∧ w3.heap.size < W'.heap.size) from fun W' hb =>
    ⟨Nat.lt_of_lt_of_le z0 hb.size, Nat.lt_of_lt_of_le z1 hb.size, Nat.lt_of_lt_of_le z2 hb.size, Nat.lt_of_lt_of_le z7 hb.size⟩)
  replace gb := Below.refl W3.heap.size W3
  go_wp2_with fail
  refine (M2.out hIa.out hIb.out _ (i1.to gb) (i2.to gb)).mono ?_
  clear x0_0 y0_0 x0_1 y0_1 x0_2 y0_2 x1_0 y1_0 x1_1 y1_1 x2_0 y2_0 x2_1 y2_1 x7_0 y7_0 x7_1 y7_1 x7_2 y7_2
  rintro e w4 ⟨a4_, n4_, c4_, p4_, m4_, k4_, rfl, g4, hb4⟩
  replace gb := below_step gb hb4
  obtain ⟨x0_0, x0_1, x0_2, x1_0, x1_1, x2_0, x2_1, x7_0, x7_1, x7_2⟩ := HXW3.out _ gb
  obtain ⟨y0_0, y0_1, y0_2, y1_0, y1_1, y2_0, y2_1, y7_0, y7_1, y7_2⟩ := HYW3.out _ gb
  obtain ⟨z0, z1, z2, z7⟩ := HZW3.out _ gb
  go_wp2_with fail
  obtain ⟨W4, hW4⟩ : ∃ W4, w4.alloc (.cells #[.bool mg, .slice a4_ n4_ c4_, .slice p4_ m4_ k4_] 24) = W4 := ⟨_, rfl⟩
  have hb_W4 : Below w4.heap.size w4 W4 := by rw [← hW4]; exact below_new _ _
  have hs_W4 : Hid (W4.heap.size = w4.heap.size + 1) := by show _ = _; rw [← hW4]; simp
  clear x0_0 y0_0 x0_1 y0_1 x0_2 y0_2 x1_0 y1_0 x1_1 y1_1 x2_0 y2_0 x2_1 y2_1 x7_0 y7_0 x7_1 y7_1 x7_2 y7_2
  replace g4 := g4.to hb_W4
  replace gb := below_step gb hb_W4
  obtain ⟨x0_0, x0_1, x0_2, x1_0, x1_1, x2_0, x2_1, x7_0, x7_1, x7_2⟩ := HXW3.out _ gb
  obtain ⟨y0_0, y0_1, y0_2, y1_0, y1_1, y2_0, y2_1, y7_0, y7_1, y7_2⟩ := HYW3.out _ gb
  obtain ⟨z0, z1, z2, z7⟩ := HZW3.out _ gb
  have x8_0 : W4.cell? ⟨w4.heap.size, 0, none⟩ = some (.bool mg) := by rw [← hW4]; simp [go_sem]
  have y8_0 : W4.frozen? ⟨w4.heap.size, 0, none⟩ = false := by rw [← hW4]; simp [go_sem]
  have x8_1 : W4.cell? ⟨w4.heap.size, 1, none⟩ = some (.slice a4_ n4_ c4_) := by rw [← hW4]; simp [go_sem]
  have y8_1 : W4.frozen? ⟨w4.heap.size, 1, none⟩ = false := by rw [← hW4]; simp [go_sem]
  have x8_2 : W4.cell? ⟨w4.heap.size, 2, none⟩ = some (.slice p4_ m4_ k4_) := by rw [← hW4]; simp [go_sem]
  have y8_2 : W4.frozen? ⟨w4.heap.size, 2, none⟩ = false := by rw [← hW4]; simp [go_sem]
  have z8 : w4.heap.size < W4.heap.size := by rw [← hW4]; simp
  rw [hW4]
  clear hW4
  replace i0 := i0.to gb
  replace i1 := i1.to gb
  replace i2 := i2.to gb
  replace g3 := g3.to gb
  replace zb := below_step zb gb
  have HXW4 := Lib.hid (show ∀ W', Below W4.heap.size W4 W' → (W'.cell? ⟨w.heap.size, 0, none⟩ = some (.bool b0) ∧ W'.cell? ⟨w.heap.size, 1, none⟩ = some (.slice a0 n0 c0) ∧ W'.cell? ⟨w.heap.size, 2, none⟩ = some (.slice a1 n1 c1) ∧ W'.cell? ⟨w.heap.size + 1, 0, none⟩ = some (.bool b1) ∧ W'.cell? ⟨w.heap.size + 1, 1, none⟩ = some (.slice a2 n2 c2) ∧ W'.cell? ⟨w.heap.size + 1 + 1, 0, none⟩ = some (.bool b2) ∧ W'.cell? ⟨w.heap.size + 1 + 1, 1, none⟩ = some (.slice a3 n3 c3) ∧ W'.cell? ⟨w3.heap.size, 0, none⟩ = some (.bool mg) ∧ W'.cell? ⟨w3.heap.size, 1, none⟩ = some (.slice a3_ n3_ c3_) ∧ W'.cell? ⟨w3.heap.size, 2, none⟩ = some (.slice p3_ m3_ k3_) ∧ W'.cell? ⟨w4.heap.size, 0, none⟩ = some (.bool mg) ∧ W'.cell? ⟨w4.heap.size, 1, none⟩ = some (.slice a4_ n4_ c4_) ∧ W'.cell? ⟨w4.heap.size, 2, none⟩ = some (.slice p4_ m4_ k4_)) from fun W' hb =>
    ⟨(hb.cell (p := ⟨w.heap.size, 0, none⟩) z0).trans x0_0, (hb.cell (p := ⟨w.heap.size, 1, none⟩) z0).trans x0_1, (hb.cell (p := ⟨w.heap.size, 2, none⟩) z0).trans x0_2, (hb.cell (p := ⟨w.heap.size + 1, 0, none⟩) z1).trans x1_0, (hb.cell (p := ⟨w.heap.size + 1, 1, none⟩) z1).trans x1_1, (hb.cell (p := ⟨w.heap.size + 1 + 1, 0, none⟩) z2).trans x2_0, (hb.cell (p := ⟨w.heap.size + 1 + 1, 1, none⟩) z2).trans x2_1, (hb.cell (p := ⟨w3.heap.size, 0, none⟩) z7).trans x7_0, (hb.cell (p := ⟨w3.heap.size, 1, none⟩) z7).trans x7_1, (hb.cell (p := ⟨w3.heap.size, 2, none⟩) z7).trans x7_2, (hb.cell (p := ⟨w4.heap.size, 0, none⟩) z8).trans x8_0, (hb.cell (p := ⟨w4.heap.size, 1, none⟩) z8).trans x8_1, (hb.cell (p := ⟨w4.heap.size, 2, none⟩) z8).trans x8_2⟩)
  have HYW4 := Lib.hid (show ∀ W', Below W4.heap.size W4 W' → (W'.frozen? ⟨w.heap.size, 0, none⟩ = false ∧ W'.frozen? ⟨w.heap.size, 1, none⟩ = false ∧ W'.frozen? ⟨w.heap.size, 2, none⟩ = false ∧ W'.frozen? ⟨w.heap.size + 1, 0, none⟩ = false ∧ W'.frozen? ⟨w.heap.size + 1, 1, none⟩ = false ∧ W'.frozen? ⟨w.heap.size + 1 + 1, 0, none⟩ = false ∧ W'.frozen? ⟨w.heap.size + 1 + 1, 1, none⟩ = false ∧ W'.frozen? ⟨w3.heap.size, 0, none⟩ = false ∧ W'.frozen? ⟨w3.heap.size, 1, none⟩ = false ∧ W'.frozen? ⟨w3.heap.size, 2, none⟩ = false ∧ W'.frozen? ⟨w4.heap.size, 0, none⟩ = false ∧ W'.frozen? ⟨w4.heap.size, 1, none⟩ = false ∧ W'.frozen? ⟨w4.heap.size, 2, none⟩ = false) from fun W' hb =>
    ⟨(hb.frozen (p := ⟨w.heap.size, 0, none⟩) z0).trans y0_0, (hb.frozen (p := ⟨w.heap.size, 1, none⟩) z0).trans y0_1, (hb.frozen (p := ⟨w.heap.size, 2, none⟩) z0).trans y0_2, (hb.frozen (p := ⟨w.heap.size + 1, 0, none⟩) z1).trans y1_0, (hb.frozen (p := ⟨w.heap.size + 1, 1, none⟩) z1).trans y1_1, (hb.frozen (p := ⟨w.heap.size + 1 + 1, 0, none⟩) z2).trans y2_0, (hb.frozen (p := ⟨w.heap.size + 1 + 1, 1, none⟩) z2).trans y2_1, (hb.frozen (p := ⟨w3.heap.size, 0, none⟩) z7).trans y7_0, (hb.frozen (p := ⟨w3.heap.size, 1, none⟩) z7).trans y7_1, (hb.frozen (p := ⟨w3.heap.size, 2, none⟩) z7).trans y7_2, (hb.frozen (p := ⟨w4.heap.size, 0, none⟩) z8).trans y8_0, (hb.frozen (p := ⟨w4.heap.size, 1, none⟩) z8).trans y8_1, (hb.frozen (p := ⟨w4.heap.size, 2, none⟩) z8).trans y8_2⟩)
  have HZW4 := Lib.hid (show ∀ W', Below W4.heap.size W4 W' → (w.heap.size < W'.heap.size ∧ w.heap.size + 1 < W'.heap.size ∧ w.heap.size + 1 + 1 < W'.heap.size ∧ w3.heap.size < W'.heap.size ∧ w4.heap.size < W'.heap.size) from fun W' hb =>
    ⟨Nat.lt_of_lt_of_le z0 hb.size, Nat.lt_of_lt_of_le z1 hb.size, Nat.lt_of_lt_of_le z2 hb.size, Nat.lt_of_lt_of_le z7 hb.size, Nat.lt_of_lt_of_le z8 hb.size⟩)
  replace gb := Below.refl W4.heap.size W4
  go_wp2_with fail
  go_region_held3 (fun W' => W'.cell? ⟨w.heap.size, 0, none⟩ = some (.bool b0) ∧ W'.cell? ⟨w.heap.size, 1, none⟩ = some (.slice a0 n0 c0) ∧ W'.cell? ⟨w.heap.size, 2, none⟩ = some (.slice a1 n1 c1) ∧ W'.cell? ⟨w.heap.size + 1, 0, none⟩ = some (.bool b1) ∧ W'.cell? ⟨w.heap.size + 1, 1, none⟩ = some (.slice a2 n2 c2) ∧ W'.cell? ⟨w.heap.size + 1 + 1, 0, none⟩ = some (.bool b2) ∧ W'.cell? ⟨w.heap.size + 1 + 1, 1, none⟩ = some (.slice a3 n3 c3) ∧ W'.cell? ⟨w3.heap.size, 0, none⟩ = some (.bool mg) ∧ W'.cell? ⟨w3.heap.size, 1, none⟩ = some (.slice a3_ n3_ c3_) ∧ W'.cell? ⟨w3.heap.size, 2, none⟩ = some (.slice p3_ m3_ k3_) ∧ W'.cell? ⟨w4.heap.size, 0, none⟩ = some (.bool mg) ∧ W'.cell? ⟨w4.heap.size, 1, none⟩ = some (.slice a4_ n4_ c4_) ∧ W'.cell? ⟨w4.heap.size, 2, none⟩ = some (.slice p4_ m4_ k4_)) (first | (with_reducible exact ⟨x0_0, x0_1, x0_2, x1_0, x1_1, x2_0, x2_1, x7_0, x7_1, x7_2, x8_0, x8_1, x8_2⟩) | exact ⟨x0_0, x0_1, x0_2, x1_0, x1_1, x2_0, x2_1, x7_0, x7_1, x7_2, x8_0, x8_1, x8_2⟩) (first
    | (go_at_call 15; (with_reducible refine (equal_f _ (g3.to gb) (g4.to gb)).mono ?_); rintro e w21 ⟨rfl, hb21⟩; have g12 := g12.to hb21; have g13 := g13.to hb21; have g15 := g15.to hb21; have g16 := g16.to hb21; have g18 := g18.to hb21; have g19 := g19.to hb21; have gb := below_step gb hb21; obtain ⟨x0_0, x0_1, x0_2, x1_0, x1_1, x2_0, x2_1, x7_0, x7_1, x7_2, x8_0, x8_1, x8_2⟩ := HXW4.out _ gb; obtain ⟨y0_0, y0_1, y0_2, y1_0, y1_1, y2_0, y2_1, y7_0, y7_1, y7_2, y8_0, y8_1, y8_2⟩ := HYW4.out _ gb; obtain ⟨z0, z1, z2, z7, z8⟩ := HZW4.out _ gb)
    | (go_at_call 15; (with_reducible refine (equal_q _ g18 g19).mono ?_); rintro e w20 ⟨rfl, hb20⟩; have g12 := g12.to hb20; have g13 := g13.to hb20; have g15 := g15.to hb20; have g16 := g16.to hb20; have g18 := g18.to hb20; have g19 := g19.to hb20; have gb := below_step gb hb20; obtain ⟨x0_0, x0_1, x0_2, x1_0, x1_1, x2_0, x2_1, x7_0, x7_1, x7_2, x8_0, x8_1, x8_2⟩ := HXW4.out _ gb; obtain ⟨y0_0, y0_1, y0_2, y1_0, y1_1, y2_0, y2_1, y7_0, y7_1, y7_2, y8_0, y8_1, y8_2⟩ := HYW4.out _ gb; obtain ⟨z0, z1, z2, z7, z8⟩ := HZW4.out _ gb)
    | (go_at_call 31; (with_reducible refine (ref8_of k k _ rfl (by omega) (by omega)).mono ?_); rintro e w19 ⟨ng19, a19_, n19_, c19_, p19_, m19_, k19_, rfl, g19, hb19⟩; have g12 := g12.to hb19; have g13 := g13.to hb19; have g15 := g15.to hb19; have g16 := g16.to hb19; have g18 := g18.to hb19; have gb := below_step gb hb19; obtain ⟨x0_0, x0_1, x0_2, x1_0, x1_1, x2_0, x2_1, x7_0, x7_1, x7_2, x8_0, x8_1, x8_2⟩ := HXW4.out _ gb; obtain ⟨y0_0, y0_1, y0_2, y1_0, y1_1, y2_0, y2_1, y7_0, y7_1, y7_2, y8_0, y8_1, y8_2⟩ := HYW4.out _ gb; obtain ⟨z0, z1, z2, z7, z8⟩ := HZW4.out _ gb)
    | (go_at_call 30; (with_reducible refine (ratio_of_int k k _ rfl (by omega) (by omega)).mono ?_); rintro e w18 ⟨ng18, a18_, n18_, c18_, p18_, m18_, k18_, rfl, g18, hb18⟩; have g12 := g12.to hb18; have g13 := g13.to hb18; have g15 := g15.to hb18; have g16 := g16.to hb18; have gb := below_step gb hb18; obtain ⟨x0_0, x0_1, x0_2, x1_0, x1_1, x2_0, x2_1, x7_0, x7_1, x7_2, x8_0, x8_1, x8_2⟩ := HXW4.out _ gb; obtain ⟨y0_0, y0_1, y0_2, y1_0, y1_1, y2_0, y2_1, y7_0, y7_1, y7_2, y8_0, y8_1, y8_2⟩ := HYW4.out _ gb; obtain ⟨z0, z1, z2, z7, z8⟩ := HZW4.out _ gb)
    | (go_at_call 15; (with_reducible refine (equal_q _ g15 g16).mono ?_); rintro e w17 ⟨rfl, hb17⟩; have g12 := g12.to hb17; have g13 := g13.to hb17; have g15 := g15.to hb17; have g16 := g16.to hb17; have gb := below_step gb hb17; obtain ⟨x0_0, x0_1, x0_2, x1_0, x1_1, x2_0, x2_1, x7_0, x7_1, x7_2, x8_0, x8_1, x8_2⟩ := HXW4.out _ gb; obtain ⟨y0_0, y0_1, y0_2, y1_0, y1_1, y2_0, y2_1, y7_0, y7_1, y7_2, y8_0, y8_1, y8_2⟩ := HYW4.out _ gb; obtain ⟨z0, z1, z2, z7, z8⟩ := HZW4.out _ gb)
    | (go_at_call 29; (with_reducible refine (ref8_neg _ _ _ _ _ _ (i0.to gb)).mono ?_); rintro e w16 ⟨ng16, a16_, n16_, c16_, p16_, m16_, k16_, rfl, g16, hb16⟩; have g12 := g12.to hb16; have g13 := g13.to hb16; have g15 := g15.to hb16; have gb := below_step gb hb16; obtain ⟨x0_0, x0_1, x0_2, x1_0, x1_1, x2_0, x2_1, x7_0, x7_1, x7_2, x8_0, x8_1, x8_2⟩ := HXW4.out _ gb; obtain ⟨y0_0, y0_1, y0_2, y1_0, y1_1, y2_0, y2_1, y7_0, y7_1, y7_2, y8_0, y8_1, y8_2⟩ := HYW4.out _ gb; obtain ⟨z0, z1, z2, z7, z8⟩ := HZW4.out _ gb)
    | (go_at_call 28; (with_reducible refine (ratio_neg _ _ _ _ _ _ (i0.to gb) (-A) rfl HC9).mono ?_); rintro e w15 ⟨ng15, a15_, n15_, c15_, p15_, m15_, k15_, rfl, g15, hb15⟩; have g12 := g12.to hb15; have g13 := g13.to hb15; have gb := below_step gb hb15; obtain ⟨x0_0, x0_1, x0_2, x1_0, x1_1, x2_0, x2_1, x7_0, x7_1, x7_2, x8_0, x8_1, x8_2⟩ := HXW4.out _ gb; obtain ⟨y0_0, y0_1, y0_2, y1_0, y1_1, y2_0, y2_1, y7_0, y7_1, y7_2, y8_0, y8_1, y8_2⟩ := HYW4.out _ gb; obtain ⟨z0, z1, z2, z7, z8⟩ := HZW4.out _ gb)
    | (go_at_call 15; (with_reducible refine (equal_q _ g12 g13).mono ?_); rintro e w14 ⟨rfl, hb14⟩; have g12 := g12.to hb14; have g13 := g13.to hb14; have gb := below_step gb hb14; obtain ⟨x0_0, x0_1, x0_2, x1_0, x1_1, x2_0, x2_1, x7_0, x7_1, x7_2, x8_0, x8_1, x8_2⟩ := HXW4.out _ gb; obtain ⟨y0_0, y0_1, y0_2, y1_0, y1_1, y2_0, y2_1, y7_0, y7_1, y7_2, y8_0, y8_1, y8_2⟩ := HYW4.out _ gb; obtain ⟨z0, z1, z2, z7, z8⟩ := HZW4.out _ gb)
    | (go_at_call 17; (with_reducible refine (ref8_fix _ _ _ _ _ _ (i0.to gb) A rfl HCA).mono ?_); rintro e w13 ⟨ng13, a13_, n13_, c13_, p13_, m13_, k13_, rfl, g13, hb13⟩; have g12 := g12.to hb13; have gb := below_step gb hb13; obtain ⟨x0_0, x0_1, x0_2, x1_0, x1_1, x2_0, x2_1, x7_0, x7_1, x7_2, x8_0, x8_1, x8_2⟩ := HXW4.out _ gb; obtain ⟨y0_0, y0_1, y0_2, y1_0, y1_1, y2_0, y2_1, y7_0, y7_1, y7_2, y8_0, y8_1, y8_2⟩ := HYW4.out _ gb; obtain ⟨z0, z1, z2, z7, z8⟩ := HZW4.out _ gb)
    | (go_at_call 23; (with_reducible refine (ratio_fix _ _ _ _ _ _ (i0.to gb) A rfl HCA).mono ?_); rintro e w12 ⟨ng12, a12_, n12_, c12_, p12_, m12_, k12_, rfl, g12, hb12⟩; have gb := below_step gb hb12; obtain ⟨x0_0, x0_1, x0_2, x1_0, x1_1, x2_0, x2_1, x7_0, x7_1, x7_2, x8_0, x8_1, x8_2⟩ := HXW4.out _ gb; obtain ⟨y0_0, y0_1, y0_2, y1_0, y1_1, y2_0, y2_1, y7_0, y7_1, y7_2, y8_0, y8_1, y8_2⟩ := HYW4.out _ gb; obtain ⟨z0, z1, z2, z7, z8⟩ := HZW4.out _ gb)
    | (go_at_call 27; (with_reducible refine (ref8_right _ _ _ _ _ _ (i0.to gb) o HO.out).mono ?_); rintro e w11 ⟨rfl, hb11⟩; have gb := below_step gb hb11; obtain ⟨x0_0, x0_1, x0_2, x1_0, x1_1, x2_0, x2_1, x7_0, x7_1, x7_2, x8_0, x8_1, x8_2⟩ := HXW4.out _ gb; obtain ⟨y0_0, y0_1, y0_2, y1_0, y1_1, y2_0, y2_1, y7_0, y7_1, y7_2, y8_0, y8_1, y8_2⟩ := HYW4.out _ gb; obtain ⟨z0, z1, z2, z7, z8⟩ := HZW4.out _ gb)
    | (go_at_call 25; have gb := gb.drew; (with_reducible refine (ratio_right _ _ _ _ _ _ (i0.to gb) o HO.out).mono ?_); rintro e w10 ⟨rfl, hb10⟩; have gb := below_step gb hb10; obtain ⟨x0_0, x0_1, x0_2, x1_0, x1_1, x2_0, x2_1, x7_0, x7_1, x7_2, x8_0, x8_1, x8_2⟩ := HXW4.out _ gb; obtain ⟨y0_0, y0_1, y0_2, y1_0, y1_1, y2_0, y2_1, y7_0, y7_1, y7_2, y8_0, y8_1, y8_2⟩ := HYW4.out _ gb; obtain ⟨z0, z1, z2, z7, z8⟩ := HZW4.out _ gb))
  go_wp2_with fail
  go_ret
  exact ⟨by first | rfl | exact ret_bool (by simp), below_step zb gb⟩

set_option maxRecDepth 100000 in
set_option maxHeartbeats 60000000 in
theorem walk_RatioTexts (s : ByteArray) (b0 : Bool) (v0 : Value) (l0 : List Nat) (u0 : Value) (m0 : List Nat)  (w : World) (hss : s.size ≤ maxLen) (hn0 : Rd w v0 l0) (hd0 : Rd w u0 m0)  :
    Calls Try.prog 3 #[.string s, aggR b0 v0 u0] w (Holds w) := by
  have h0 : IsF w v0 u0 l0 m0 := ⟨hn0, hd0⟩
  clear hn0 hd0
  obtain ⟨a0, n0, c0, rfl, H0, hm0⟩ := h0.1.open
  obtain ⟨a1, n1, c1, rfl, H1, hm1⟩ := h0.2.open
  obtain ⟨mg, r1, r2, rk, M1, M2⟩ : ∃ mg r1 r2 rk, Hid (s.size ≤ 60 → ∀ w, Calls Try.prog 12 #[.string s] w (GivesF w mg r1 r2 rk)) ∧ Hid (s.size ≤ 60 → ∀ w, Calls Try.prog 13 #[.string s] w (GivesF w mg r1 r2 rk)) := by
    by_cases hL : s.size ≤ 60
    · obtain ⟨mg, r1, r2, rk, h1, h2⟩ := parse_both s (by omega)
      exact ⟨mg, r1, r2, rk, fun _ => h1, fun _ => h2⟩
    · exact ⟨false, [], [], 0, fun q => absurd q hL, fun q => absurd q hL⟩
  by_cases hf : n0 ≤ 4 ∧ n1 ≤ 4
  rotate_left
  · skip
    go_enter Try.func3, Try.ntmps3
    go_wp2_with fail
    obtain ⟨W0, hW0⟩ : ∃ W0, w.alloc (.cells #[.bool b0, .slice a0 n0 c0, .slice a1 n1 c1] 24) = W0 := ⟨_, rfl⟩
    have HXW0 := Lib.hid (show ∀ W', Below W0.heap.size W0 W' → (W'.cell? ⟨w.heap.size, 0, none⟩ = some (.bool b0) ∧ W'.cell? ⟨w.heap.size, 1, none⟩ = some (.slice a0 n0 c0) ∧ W'.cell? ⟨w.heap.size, 2, none⟩ = some (.slice a1 n1 c1)) from fun W' hb =>
      ⟨(hb.cell (p := ⟨w.heap.size, 0, none⟩) (by rw [← hW0]; simp <;> omega)).trans (by rw [← hW0]; simp [go_sem]), (hb.cell (p := ⟨w.heap.size, 1, none⟩) (by rw [← hW0]; simp <;> omega)).trans (by rw [← hW0]; simp [go_sem]), (hb.cell (p := ⟨w.heap.size, 2, none⟩) (by rw [← hW0]; simp <;> omega)).trans (by rw [← hW0]; simp [go_sem])⟩)
    have HYW0 := Lib.hid (show ∀ W', Below W0.heap.size W0 W' → (W'.frozen? ⟨w.heap.size, 0, none⟩ = false ∧ W'.frozen? ⟨w.heap.size, 1, none⟩ = false ∧ W'.frozen? ⟨w.heap.size, 2, none⟩ = false) from fun W' hb =>
      ⟨(hb.frozen (p := ⟨w.heap.size, 0, none⟩) (by rw [← hW0]; simp <;> omega)).trans (by rw [← hW0]; simp [go_sem]), (hb.frozen (p := ⟨w.heap.size, 1, none⟩) (by rw [← hW0]; simp <;> omega)).trans (by rw [← hW0]; simp [go_sem]), (hb.frozen (p := ⟨w.heap.size, 2, none⟩) (by rw [← hW0]; simp <;> omega)).trans (by rw [← hW0]; simp [go_sem])⟩)
    have HZW0 := Lib.hid (show ∀ W', Below W0.heap.size W0 W' → (w.heap.size < W'.heap.size) from fun W' hb =>
      Nat.lt_of_lt_of_le (by rw [← hW0]; simp <;> omega) hb.size)
    have zb : Below w.heap.size w W0 := by rw [← hW0]; exact below_new _ _
    rw [hW0]
    clear hW0
    have i0 := h0.to zb
    have gb : Below W0.heap.size W0 W0 := Below.refl _ _
    obtain ⟨x0_0, x0_1, x0_2⟩ := HXW0.out _ gb
    obtain ⟨y0_0, y0_1, y0_2⟩ := HYW0.out _ gb
    obtain z0 := HZW0.out _ gb
    refine (awake8 _).mono ?_
    clear x0_0 y0_0 x0_1 y0_1 x0_2 y0_2
    rintro e w1 ⟨rfl, hb1⟩
    replace gb := below_step gb hb1
    obtain ⟨x0_0, x0_1, x0_2⟩ := HXW0.out _ gb
    obtain ⟨y0_0, y0_1, y0_2⟩ := HYW0.out _ gb
    obtain z0 := HZW0.out _ gb
    go_wp2_with fail
    refine (law8_few _ _ _ _ _ _ _ _ _ _ _ _ _ _ _ _ _ _ _ _ _ false _ (decide_eq_false (by omega))).mono ?_
    clear x0_0 y0_0 x0_1 y0_1 x0_2 y0_2
    rintro e w2 ⟨rfl, hb2⟩
    replace gb := below_step gb hb2
    obtain ⟨x0_0, x0_1, x0_2⟩ := HXW0.out _ gb
    obtain ⟨y0_0, y0_1, y0_2⟩ := HYW0.out _ gb
    obtain z0 := HZW0.out _ gb
    go_wp2_with fail
    go_ret
    exact ⟨rfl, below_step zb gb⟩
  have hlens := hf
  have e1 := H0.out
  have e2 := H1.out
  obtain ⟨A, hh⟩ : ∃ z, rat b0 (val l0) (val m0) = z := ⟨_, rfl⟩
  have i0 : IsQ w b0 (.slice a0 n0 c0) (.slice a1 n1 c1) l0 m0 A := ⟨h0.1, h0.2, hh, by omega, by omega⟩
  have HBA : Hid (szq A ≤ 4) := by
    show _ ≤ _
    rw [← hh]
    refine Nat.le_trans (szq_rat _ _ _) ?_
    have k1 := sz_val h0.1.1
    have k2 := sz_val h0.2.1
    omega
  have HCA : Hid (szq A ≤ 1000) := Nat.le_trans HBA.out (by omega)
  have HRA := Lib.hid hh
  clear hh e1 e2
  obtain ⟨t, ht⟩ : ∃ t, ba (rtext A) = t := ⟨_, rfl⟩
  have HT := Lib.hid ht
  have HTS := Lib.hid (show t.size ≤ 900 by rw [← ht]; exact rtext_size HBA.out)
  clear ht
  have HF := Lib.hid (show decide (n0 ≤ 4 ∧ n1 ≤ 4 ∧ n0 ≤ 4 ∧ n1 ≤ 4 ∧ n0 ≤ 4 ∧ n1 ≤ 4) = true from decide_eq_true (by omega))
  clear hf hlens
  go_enter Try.func3, Try.ntmps3
  go_wp2_with fail
  obtain ⟨W0, hW0⟩ : ∃ W0, w.alloc (.cells #[.bool b0, .slice a0 n0 c0, .slice a1 n1 c1] 24) = W0 := ⟨_, rfl⟩
  have HXW0 := Lib.hid (show ∀ W', Below W0.heap.size W0 W' → (W'.cell? ⟨w.heap.size, 0, none⟩ = some (.bool b0) ∧ W'.cell? ⟨w.heap.size, 1, none⟩ = some (.slice a0 n0 c0) ∧ W'.cell? ⟨w.heap.size, 2, none⟩ = some (.slice a1 n1 c1)) from fun W' hb =>
    ⟨(hb.cell (p := ⟨w.heap.size, 0, none⟩) (by rw [← hW0]; simp <;> omega)).trans (by rw [← hW0]; simp [go_sem]), (hb.cell (p := ⟨w.heap.size, 1, none⟩) (by rw [← hW0]; simp <;> omega)).trans (by rw [← hW0]; simp [go_sem]), (hb.cell (p := ⟨w.heap.size, 2, none⟩) (by rw [← hW0]; simp <;> omega)).trans (by rw [← hW0]; simp [go_sem])⟩)
  have HYW0 := Lib.hid (show ∀ W', Below W0.heap.size W0 W' → (W'.frozen? ⟨w.heap.size, 0, none⟩ = false ∧ W'.frozen? ⟨w.heap.size, 1, none⟩ = false ∧ W'.frozen? ⟨w.heap.size, 2, none⟩ = false) from fun W' hb =>
    ⟨(hb.frozen (p := ⟨w.heap.size, 0, none⟩) (by rw [← hW0]; simp <;> omega)).trans (by rw [← hW0]; simp [go_sem]), (hb.frozen (p := ⟨w.heap.size, 1, none⟩) (by rw [← hW0]; simp <;> omega)).trans (by rw [← hW0]; simp [go_sem]), (hb.frozen (p := ⟨w.heap.size, 2, none⟩) (by rw [← hW0]; simp <;> omega)).trans (by rw [← hW0]; simp [go_sem])⟩)
  have HZW0 := Lib.hid (show ∀ W', Below W0.heap.size W0 W' → (w.heap.size < W'.heap.size) from fun W' hb =>
    Nat.lt_of_lt_of_le (by rw [← hW0]; simp <;> omega) hb.size)
  have zb : Below w.heap.size w W0 := by rw [← hW0]; exact below_new _ _
  rw [hW0]
  clear hW0
  have i0 := i0.to zb
  have gb : Below W0.heap.size W0 W0 := Below.refl _ _
  obtain ⟨x0_0, x0_1, x0_2⟩ := HXW0.out _ gb
  obtain ⟨y0_0, y0_1, y0_2⟩ := HYW0.out _ gb
  obtain z0 := HZW0.out _ gb
  refine (awake8 _).mono ?_
  clear x0_0 y0_0 x0_1 y0_1 x0_2 y0_2
  rintro e w1 ⟨rfl, hb1⟩
  replace gb := below_step gb hb1
  obtain ⟨x0_0, x0_1, x0_2⟩ := HXW0.out _ gb
  obtain ⟨y0_0, y0_1, y0_2⟩ := HYW0.out _ gb
  obtain z0 := HZW0.out _ gb
  go_wp2_with fail
  refine (law8_few _ _ _ _ _ _ _ _ _ _ _ _ _ _ _ _ _ _ _ _ _ true _ HF.out).mono ?_
  clear x0_0 y0_0 x0_1 y0_1 x0_2 y0_2
  rintro e w2 ⟨rfl, hb2⟩
  replace gb := below_step gb hb2
  obtain ⟨x0_0, x0_1, x0_2⟩ := HXW0.out _ gb
  obtain ⟨y0_0, y0_1, y0_2⟩ := HYW0.out _ gb
  obtain z0 := HZW0.out _ gb
  by_cases hI : s.size ≤ 60
  rotate_left
  · skip
    skip
    go_wp2_with fail
    go_ret
    exact ⟨by first | rfl | exact ret_bool (by simp), below_step zb gb⟩
  have hI60 := hI
  go_wp2_with fail
  refine (M1.out hI _).mono ?_
  clear x0_0 y0_0 x0_1 y0_1 x0_2 y0_2
  rintro e w3 ⟨a3_, n3_, c3_, p3_, m3_, k3_, rfl, g3, hb3⟩
  replace gb := below_step gb hb3
  obtain ⟨x0_0, x0_1, x0_2⟩ := HXW0.out _ gb
  obtain ⟨y0_0, y0_1, y0_2⟩ := HYW0.out _ gb
  obtain z0 := HZW0.out _ gb
  go_wp2_with fail
  obtain ⟨W3, hW3⟩ : ∃ W3, w3.alloc (.cells #[.bool mg, .slice a3_ n3_ c3_, .slice p3_ m3_ k3_] 24) = W3 := ⟨_, rfl⟩
  have hb_W3 : Below w3.heap.size w3 W3 := by rw [← hW3]; exact below_new _ _
  have hs_W3 : Hid (W3.heap.size = w3.heap.size + 1) := by show _ = _; rw [← hW3]; simp
  clear x0_0 y0_0 x0_1 y0_1 x0_2 y0_2
  replace g3 := g3.to hb_W3
  replace gb := below_step gb hb_W3
  obtain ⟨x0_0, x0_1, x0_2⟩ := HXW0.out _ gb
  obtain ⟨y0_0, y0_1, y0_2⟩ := HYW0.out _ gb
  obtain z0 := HZW0.out _ gb
  have x7_0 : W3.cell? ⟨w3.heap.size, 0, none⟩ = some (.bool mg) := by rw [← hW3]; simp [go_sem]
  have y7_0 : W3.frozen? ⟨w3.heap.size, 0, none⟩ = false := by rw [← hW3]; simp [go_sem]
  have x7_1 : W3.cell? ⟨w3.heap.size, 1, none⟩ = some (.slice a3_ n3_ c3_) := by rw [← hW3]; simp [go_sem]
  have y7_1 : W3.frozen? ⟨w3.heap.size, 1, none⟩ = false := by rw [← hW3]; simp [go_sem]
  have x7_2 : W3.cell? ⟨w3.heap.size, 2, none⟩ = some (.slice p3_ m3_ k3_) := by rw [← hW3]; simp [go_sem]
  have y7_2 : W3.frozen? ⟨w3.heap.size, 2, none⟩ = false := by rw [← hW3]; simp [go_sem]
  have z7 : w3.heap.size < W3.heap.size := by rw [← hW3]; simp
  rw [hW3]
  clear hW3
  replace i0 := i0.to gb
  replace zb := below_step zb gb
  have HXW3 := Lib.hid (show ∀ W', Below W3.heap.size W3 W' → (W'.cell? ⟨w.heap.size, 0, none⟩ = some (.bool b0) ∧ W'.cell? ⟨w.heap.size, 1, none⟩ = some (.slice a0 n0 c0) ∧ W'.cell? ⟨w.heap.size, 2, none⟩ = some (.slice a1 n1 c1) ∧ W'.cell? ⟨w3.heap.size, 0, none⟩ = some (.bool mg) ∧ W'.cell? ⟨w3.heap.size, 1, none⟩ = some (.slice a3_ n3_ c3_) ∧ W'.cell? ⟨w3.heap.size, 2, none⟩ = some (.slice p3_ m3_ k3_)) from fun W' hb =>
    ⟨(hb.cell (p := ⟨w.heap.size, 0, none⟩) z0).trans x0_0, (hb.cell (p := ⟨w.heap.size, 1, none⟩) z0).trans x0_1, (hb.cell (p := ⟨w.heap.size, 2, none⟩) z0).trans x0_2, (hb.cell (p := ⟨w3.heap.size, 0, none⟩) z7).trans x7_0, (hb.cell (p := ⟨w3.heap.size, 1, none⟩) z7).trans x7_1, (hb.cell (p := ⟨w3.heap.size, 2, none⟩) z7).trans x7_2⟩)
  have HYW3 := Lib.hid (show ∀ W', Below W3.heap.size W3 W' → (W'.frozen? ⟨w.heap.size, 0, none⟩ = false ∧ W'.frozen? ⟨w.heap.size, 1, none⟩ = false ∧ W'.frozen? ⟨w.heap.size, 2, none⟩ = false ∧ W'.frozen? ⟨w3.heap.size, 0, none⟩ = false ∧ W'.frozen? ⟨w3.heap.size, 1, none⟩ = false ∧ W'.frozen? ⟨w3.heap.size, 2, none⟩ = false) from fun W' hb =>
    ⟨(hb.frozen (p := ⟨w.heap.size, 0, none⟩) z0).trans y0_0, (hb.frozen (p := ⟨w.heap.size, 1, none⟩) z0).trans y0_1, (hb.frozen (p := ⟨w.heap.size, 2, none⟩) z0).trans y0_2, (hb.frozen (p := ⟨w3.heap.size, 0, none⟩) z7).trans y7_0, (hb.frozen (p := ⟨w3.heap.size, 1, none⟩) z7).trans y7_1, (hb.frozen (p := ⟨w3.heap.size, 2, none⟩) z7).trans y7_2⟩)
  have HZW3 := Lib.hid (show ∀ W', Below W3.heap.size W3 W' → (w.heap.size < W'.heap.size ∧ w3.heap.size < W'.heap.size) from fun W' hb =>
    ⟨Nat.lt_of_lt_of_le z0 hb.size, Nat.lt_of_lt_of_le z7 hb.size⟩)
  replace gb := Below.refl W3.heap.size W3
  go_wp2_with fail
  refine (M2.out hI _).mono ?_
  clear x0_0 y0_0 x0_1 y0_1 x0_2 y0_2 x7_0 y7_0 x7_1 y7_1 x7_2 y7_2
  rintro e w4 ⟨a4_, n4_, c4_, p4_, m4_, k4_, rfl, g4, hb4⟩
  replace gb := below_step gb hb4
  obtain ⟨x0_0, x0_1, x0_2, x7_0, x7_1, x7_2⟩ := HXW3.out _ gb
  obtain ⟨y0_0, y0_1, y0_2, y7_0, y7_1, y7_2⟩ := HYW3.out _ gb
  obtain ⟨z0, z7⟩ := HZW3.out _ gb
  go_wp2_with fail
  obtain ⟨W4, hW4⟩ : ∃ W4, w4.alloc (.cells #[.bool mg, .slice a4_ n4_ c4_, .slice p4_ m4_ k4_] 24) = W4 := ⟨_, rfl⟩
  have hb_W4 : Below w4.heap.size w4 W4 := by rw [← hW4]; exact below_new _ _
  have hs_W4 : Hid (W4.heap.size = w4.heap.size + 1) := by show _ = _; rw [← hW4]; simp
  clear x0_0 y0_0 x0_1 y0_1 x0_2 y0_2 x7_0 y7_0 x7_1 y7_1 x7_2 y7_2
  replace g4 := g4.to hb_W4
  replace gb := below_step gb hb_W4
  obtain ⟨x0_0, x0_1, x0_2, x7_0, x7_1, x7_2⟩ := HXW3.out _ gb
  obtain ⟨y0_0, y0_1, y0_2, y7_0, y7_1, y7_2⟩ := HYW3.out _ gb
  obtain ⟨z0, z7⟩ := HZW3.out _ gb
  have x8_0 : W4.cell? ⟨w4.heap.size, 0, none⟩ = some (.bool mg) := by rw [← hW4]; simp [go_sem]
  have y8_0 : W4.frozen? ⟨w4.heap.size, 0, none⟩ = false := by rw [← hW4]; simp [go_sem]
  have x8_1 : W4.cell? ⟨w4.heap.size, 1, none⟩ = some (.slice a4_ n4_ c4_) := by rw [← hW4]; simp [go_sem]
  have y8_1 : W4.frozen? ⟨w4.heap.size, 1, none⟩ = false := by rw [← hW4]; simp [go_sem]
  have x8_2 : W4.cell? ⟨w4.heap.size, 2, none⟩ = some (.slice p4_ m4_ k4_) := by rw [← hW4]; simp [go_sem]
  have y8_2 : W4.frozen? ⟨w4.heap.size, 2, none⟩ = false := by rw [← hW4]; simp [go_sem]
  have z8 : w4.heap.size < W4.heap.size := by rw [← hW4]; simp
  rw [hW4]
  clear hW4
  replace i0 := i0.to gb
  replace g3 := g3.to gb
  replace zb := below_step zb gb
  have HXW4 := Lib.hid (show ∀ W', Below W4.heap.size W4 W' → (W'.cell? ⟨w.heap.size, 0, none⟩ = some (.bool b0) ∧ W'.cell? ⟨w.heap.size, 1, none⟩ = some (.slice a0 n0 c0) ∧ W'.cell? ⟨w.heap.size, 2, none⟩ = some (.slice a1 n1 c1) ∧ W'.cell? ⟨w3.heap.size, 0, none⟩ = some (.bool mg) ∧ W'.cell? ⟨w3.heap.size, 1, none⟩ = some (.slice a3_ n3_ c3_) ∧ W'.cell? ⟨w3.heap.size, 2, none⟩ = some (.slice p3_ m3_ k3_) ∧ W'.cell? ⟨w4.heap.size, 0, none⟩ = some (.bool mg) ∧ W'.cell? ⟨w4.heap.size, 1, none⟩ = some (.slice a4_ n4_ c4_) ∧ W'.cell? ⟨w4.heap.size, 2, none⟩ = some (.slice p4_ m4_ k4_)) from fun W' hb =>
    ⟨(hb.cell (p := ⟨w.heap.size, 0, none⟩) z0).trans x0_0, (hb.cell (p := ⟨w.heap.size, 1, none⟩) z0).trans x0_1, (hb.cell (p := ⟨w.heap.size, 2, none⟩) z0).trans x0_2, (hb.cell (p := ⟨w3.heap.size, 0, none⟩) z7).trans x7_0, (hb.cell (p := ⟨w3.heap.size, 1, none⟩) z7).trans x7_1, (hb.cell (p := ⟨w3.heap.size, 2, none⟩) z7).trans x7_2, (hb.cell (p := ⟨w4.heap.size, 0, none⟩) z8).trans x8_0, (hb.cell (p := ⟨w4.heap.size, 1, none⟩) z8).trans x8_1, (hb.cell (p := ⟨w4.heap.size, 2, none⟩) z8).trans x8_2⟩)
  have HYW4 := Lib.hid (show ∀ W', Below W4.heap.size W4 W' → (W'.frozen? ⟨w.heap.size, 0, none⟩ = false ∧ W'.frozen? ⟨w.heap.size, 1, none⟩ = false ∧ W'.frozen? ⟨w.heap.size, 2, none⟩ = false ∧ W'.frozen? ⟨w3.heap.size, 0, none⟩ = false ∧ W'.frozen? ⟨w3.heap.size, 1, none⟩ = false ∧ W'.frozen? ⟨w3.heap.size, 2, none⟩ = false ∧ W'.frozen? ⟨w4.heap.size, 0, none⟩ = false ∧ W'.frozen? ⟨w4.heap.size, 1, none⟩ = false ∧ W'.frozen? ⟨w4.heap.size, 2, none⟩ = false) from fun W' hb =>
    ⟨(hb.frozen (p := ⟨w.heap.size, 0, none⟩) z0).trans y0_0, (hb.frozen (p := ⟨w.heap.size, 1, none⟩) z0).trans y0_1, (hb.frozen (p := ⟨w.heap.size, 2, none⟩) z0).trans y0_2, (hb.frozen (p := ⟨w3.heap.size, 0, none⟩) z7).trans y7_0, (hb.frozen (p := ⟨w3.heap.size, 1, none⟩) z7).trans y7_1, (hb.frozen (p := ⟨w3.heap.size, 2, none⟩) z7).trans y7_2, (hb.frozen (p := ⟨w4.heap.size, 0, none⟩) z8).trans y8_0, (hb.frozen (p := ⟨w4.heap.size, 1, none⟩) z8).trans y8_1, (hb.frozen (p := ⟨w4.heap.size, 2, none⟩) z8).trans y8_2⟩)
  have HZW4 := Lib.hid (show ∀ W', Below W4.heap.size W4 W' → (w.heap.size < W'.heap.size ∧ w3.heap.size < W'.heap.size ∧ w4.heap.size < W'.heap.size) from fun W' hb =>
    ⟨Nat.lt_of_lt_of_le z0 hb.size, Nat.lt_of_lt_of_le z7 hb.size, Nat.lt_of_lt_of_le z8 hb.size⟩)
  replace gb := Below.refl W4.heap.size W4
  go_wp2_with fail
  refine (ratio_print _ _ _ _ _ _ (i0.to gb) t HT.out).mono ?_
  clear x0_0 y0_0 x0_1 y0_1 x0_2 y0_2 x7_0 y7_0 x7_1 y7_1 x7_2 y7_2 x8_0 y8_0 x8_1 y8_1 x8_2 y8_2
  rintro e w5 ⟨rfl, hb5⟩
  replace gb := below_step gb hb5
  obtain ⟨x0_0, x0_1, x0_2, x7_0, x7_1, x7_2, x8_0, x8_1, x8_2⟩ := HXW4.out _ gb
  obtain ⟨y0_0, y0_1, y0_2, y7_0, y7_1, y7_2, y8_0, y8_1, y8_2⟩ := HYW4.out _ gb
  obtain ⟨z0, z7, z8⟩ := HZW4.out _ gb
  go_wp2_with fail
  refine (parse_rtext A t HT.out _ HTS.out).mono ?_
  clear x0_0 y0_0 x0_1 y0_1 x0_2 y0_2 x7_0 y7_0 x7_1 y7_1 x7_2 y7_2 x8_0 y8_0 x8_1 y8_1 x8_2 y8_2
  rintro e w6 ⟨ng6, a6_, n6_, c6_, p6_, m6_, k6_, rfl, g6, hb6⟩
  replace gb := below_step gb hb6
  obtain ⟨x0_0, x0_1, x0_2, x7_0, x7_1, x7_2, x8_0, x8_1, x8_2⟩ := HXW4.out _ gb
  obtain ⟨y0_0, y0_1, y0_2, y7_0, y7_1, y7_2, y8_0, y8_1, y8_2⟩ := HYW4.out _ gb
  obtain ⟨z0, z7, z8⟩ := HZW4.out _ gb
  go_wp2_with fail
  obtain ⟨W6, hW6⟩ : ∃ W6, w6.alloc (.cells #[.bool ng6, .slice a6_ n6_ c6_, .slice p6_ m6_ k6_] 24) = W6 := ⟨_, rfl⟩
  have hb_W6 : Below w6.heap.size w6 W6 := by rw [← hW6]; exact below_new _ _
  have hs_W6 : Hid (W6.heap.size = w6.heap.size + 1) := by show _ = _; rw [← hW6]; simp
  clear x0_0 y0_0 x0_1 y0_1 x0_2 y0_2 x7_0 y7_0 x7_1 y7_1 x7_2 y7_2 x8_0 y8_0 x8_1 y8_1 x8_2 y8_2
  replace g6 := g6.to hb_W6
  replace gb := below_step gb hb_W6
  obtain ⟨x0_0, x0_1, x0_2, x7_0, x7_1, x7_2, x8_0, x8_1, x8_2⟩ := HXW4.out _ gb
  obtain ⟨y0_0, y0_1, y0_2, y7_0, y7_1, y7_2, y8_0, y8_1, y8_2⟩ := HYW4.out _ gb
  obtain ⟨z0, z7, z8⟩ := HZW4.out _ gb
  have x9_0 : W6.cell? ⟨w6.heap.size, 0, none⟩ = some (.bool ng6) := by rw [← hW6]; simp [go_sem]
  have y9_0 : W6.frozen? ⟨w6.heap.size, 0, none⟩ = false := by rw [← hW6]; simp [go_sem]
  have x9_1 : W6.cell? ⟨w6.heap.size, 1, none⟩ = some (.slice a6_ n6_ c6_) := by rw [← hW6]; simp [go_sem]
  have y9_1 : W6.frozen? ⟨w6.heap.size, 1, none⟩ = false := by rw [← hW6]; simp [go_sem]
  have x9_2 : W6.cell? ⟨w6.heap.size, 2, none⟩ = some (.slice p6_ m6_ k6_) := by rw [← hW6]; simp [go_sem]
  have y9_2 : W6.frozen? ⟨w6.heap.size, 2, none⟩ = false := by rw [← hW6]; simp [go_sem]
  have z9 : w6.heap.size < W6.heap.size := by rw [← hW6]; simp
  rw [hW6]
  clear hW6
  replace i0 := i0.to gb
  replace g3 := g3.to gb
  replace g4 := g4.to gb
  replace zb := below_step zb gb
  have HXW6 := Lib.hid (show ∀ W', Below W6.heap.size W6 W' → (W'.cell? ⟨w.heap.size, 0, none⟩ = some (.bool b0) ∧ W'.cell? ⟨w.heap.size, 1, none⟩ = some (.slice a0 n0 c0) ∧ W'.cell? ⟨w.heap.size, 2, none⟩ = some (.slice a1 n1 c1) ∧ W'.cell? ⟨w3.heap.size, 0, none⟩ = some (.bool mg) ∧ W'.cell? ⟨w3.heap.size, 1, none⟩ = some (.slice a3_ n3_ c3_) ∧ W'.cell? ⟨w3.heap.size, 2, none⟩ = some (.slice p3_ m3_ k3_) ∧ W'.cell? ⟨w4.heap.size, 0, none⟩ = some (.bool mg) ∧ W'.cell? ⟨w4.heap.size, 1, none⟩ = some (.slice a4_ n4_ c4_) ∧ W'.cell? ⟨w4.heap.size, 2, none⟩ = some (.slice p4_ m4_ k4_) ∧ W'.cell? ⟨w6.heap.size, 0, none⟩ = some (.bool ng6) ∧ W'.cell? ⟨w6.heap.size, 1, none⟩ = some (.slice a6_ n6_ c6_) ∧ W'.cell? ⟨w6.heap.size, 2, none⟩ = some (.slice p6_ m6_ k6_)) from fun W' hb =>
    ⟨(hb.cell (p := ⟨w.heap.size, 0, none⟩) z0).trans x0_0, (hb.cell (p := ⟨w.heap.size, 1, none⟩) z0).trans x0_1, (hb.cell (p := ⟨w.heap.size, 2, none⟩) z0).trans x0_2, (hb.cell (p := ⟨w3.heap.size, 0, none⟩) z7).trans x7_0, (hb.cell (p := ⟨w3.heap.size, 1, none⟩) z7).trans x7_1, (hb.cell (p := ⟨w3.heap.size, 2, none⟩) z7).trans x7_2, (hb.cell (p := ⟨w4.heap.size, 0, none⟩) z8).trans x8_0, (hb.cell (p := ⟨w4.heap.size, 1, none⟩) z8).trans x8_1, (hb.cell (p := ⟨w4.heap.size, 2, none⟩) z8).trans x8_2, (hb.cell (p := ⟨w6.heap.size, 0, none⟩) z9).trans x9_0, (hb.cell (p := ⟨w6.heap.size, 1, none⟩) z9).trans x9_1, (hb.cell (p := ⟨w6.heap.size, 2, none⟩) z9).trans x9_2⟩)
  have HYW6 := Lib.hid (show ∀ W', Below W6.heap.size W6 W' → (W'.frozen? ⟨w.heap.size, 0, none⟩ = false ∧ W'.frozen? ⟨w.heap.size, 1, none⟩ = false ∧ W'.frozen? ⟨w.heap.size, 2, none⟩ = false ∧ W'.frozen? ⟨w3.heap.size, 0, none⟩ = false ∧ W'.frozen? ⟨w3.heap.size, 1, none⟩ = false ∧ W'.frozen? ⟨w3.heap.size, 2, none⟩ = false ∧ W'.frozen? ⟨w4.heap.size, 0, none⟩ = false ∧ W'.frozen? ⟨w4.heap.size, 1, none⟩ = false ∧ W'.frozen? ⟨w4.heap.size, 2, none⟩ = false ∧ W'.frozen? ⟨w6.heap.size, 0, none⟩ = false ∧ W'.frozen? ⟨w6.heap.size, 1, none⟩ = false ∧ W'.frozen? ⟨w6.heap.size, 2, none⟩ = false) from fun W' hb =>
    ⟨(hb.frozen (p := ⟨w.heap.size, 0, none⟩) z0).trans y0_0, (hb.frozen (p := ⟨w.heap.size, 1, none⟩) z0).trans y0_1, (hb.frozen (p := ⟨w.heap.size, 2, none⟩) z0).trans y0_2, (hb.frozen (p := ⟨w3.heap.size, 0, none⟩) z7).trans y7_0, (hb.frozen (p := ⟨w3.heap.size, 1, none⟩) z7).trans y7_1, (hb.frozen (p := ⟨w3.heap.size, 2, none⟩) z7).trans y7_2, (hb.frozen (p := ⟨w4.heap.size, 0, none⟩) z8).trans y8_0, (hb.frozen (p := ⟨w4.heap.size, 1, none⟩) z8).trans y8_1, (hb.frozen (p := ⟨w4.heap.size, 2, none⟩) z8).trans y8_2, (hb.frozen (p := ⟨w6.heap.size, 0, none⟩) z9).trans y9_0, (hb.frozen (p := ⟨w6.heap.size, 1, none⟩) z9).trans y9_1, (hb.frozen (p := ⟨w6.heap.size, 2, none⟩) z9).trans y9_2⟩)
  have HZW6 := Lib.hid (show ∀ W', Below W6.heap.size W6 W' → (w.heap.size < W'.heap.size ∧ w3.heap.size < W'.heap.size ∧ w4.heap.size < W'.heap.size ∧ w6.heap.size < W'.heap.size) from fun W' hb =>
    ⟨Nat.lt_of_lt_of_le z0 hb.size, Nat.lt_of_lt_of_le z7 hb.size, Nat.lt_of_lt_of_le z8 hb.size, Nat.lt_of_lt_of_le z9 hb.size⟩)
  replace gb := Below.refl W6.heap.size W6
  go_wp2_with fail
  go_region_held3 (fun W' => W'.cell? ⟨w.heap.size, 0, none⟩ = some (.bool b0) ∧ W'.cell? ⟨w.heap.size, 1, none⟩ = some (.slice a0 n0 c0) ∧ W'.cell? ⟨w.heap.size, 2, none⟩ = some (.slice a1 n1 c1) ∧ W'.cell? ⟨w3.heap.size, 0, none⟩ = some (.bool mg) ∧ W'.cell? ⟨w3.heap.size, 1, none⟩ = some (.slice a3_ n3_ c3_) ∧ W'.cell? ⟨w3.heap.size, 2, none⟩ = some (.slice p3_ m3_ k3_) ∧ W'.cell? ⟨w4.heap.size, 0, none⟩ = some (.bool mg) ∧ W'.cell? ⟨w4.heap.size, 1, none⟩ = some (.slice a4_ n4_ c4_) ∧ W'.cell? ⟨w4.heap.size, 2, none⟩ = some (.slice p4_ m4_ k4_) ∧ W'.cell? ⟨w6.heap.size, 0, none⟩ = some (.bool ng6) ∧ W'.cell? ⟨w6.heap.size, 1, none⟩ = some (.slice a6_ n6_ c6_) ∧ W'.cell? ⟨w6.heap.size, 2, none⟩ = some (.slice p6_ m6_ k6_)) (first | (with_reducible exact ⟨x0_0, x0_1, x0_2, x7_0, x7_1, x7_2, x8_0, x8_1, x8_2, x9_0, x9_1, x9_2⟩) | exact ⟨x0_0, x0_1, x0_2, x7_0, x7_1, x7_2, x8_0, x8_1, x8_2, x9_0, x9_1, x9_2⟩) (first
    | (go_at_call 15; (with_reducible refine (equal_q _ (g6.to gb) g12).mono ?_); rintro e w13 ⟨rfl, hb13⟩; have g12 := g12.to hb13; have gb := below_step gb hb13; obtain ⟨x0_0, x0_1, x0_2, x7_0, x7_1, x7_2, x8_0, x8_1, x8_2, x9_0, x9_1, x9_2⟩ := HXW6.out _ gb; obtain ⟨y0_0, y0_1, y0_2, y7_0, y7_1, y7_2, y8_0, y8_1, y8_2, y9_0, y9_1, y9_2⟩ := HYW6.out _ gb; obtain ⟨z0, z7, z8, z9⟩ := HZW6.out _ gb)
    | (go_at_call 17; (with_reducible refine (ref8_fix _ _ _ _ _ _ (i0.to gb) A rfl HCA).mono ?_); rintro e w12 ⟨ng12, a12_, n12_, c12_, p12_, m12_, k12_, rfl, g12, hb12⟩; have gb := below_step gb hb12; obtain ⟨x0_0, x0_1, x0_2, x7_0, x7_1, x7_2, x8_0, x8_1, x8_2, x9_0, x9_1, x9_2⟩ := HXW6.out _ gb; obtain ⟨y0_0, y0_1, y0_2, y7_0, y7_1, y7_2, y8_0, y8_1, y8_2, y9_0, y9_1, y9_2⟩ := HYW6.out _ gb; obtain ⟨z0, z7, z8, z9⟩ := HZW6.out _ gb)
    | (go_at_call 16; (with_reducible refine (ref8_print _ _ _ _ _ _ (i0.to gb) t HT.out).mono ?_); rintro e w11 ⟨rfl, hb11⟩; have gb := below_step gb hb11; obtain ⟨x0_0, x0_1, x0_2, x7_0, x7_1, x7_2, x8_0, x8_1, x8_2, x9_0, x9_1, x9_2⟩ := HXW6.out _ gb; obtain ⟨y0_0, y0_1, y0_2, y7_0, y7_1, y7_2, y8_0, y8_1, y8_2, y9_0, y9_1, y9_2⟩ := HYW6.out _ gb; obtain ⟨z0, z7, z8, z9⟩ := HZW6.out _ gb)
    | (go_at_call 15; have gb := gb.drew; (with_reducible refine (equal_f _ (g3.to gb) (g4.to gb)).mono ?_); rintro e w10 ⟨rfl, hb10⟩; have gb := below_step gb hb10; obtain ⟨x0_0, x0_1, x0_2, x7_0, x7_1, x7_2, x8_0, x8_1, x8_2, x9_0, x9_1, x9_2⟩ := HXW6.out _ gb; obtain ⟨y0_0, y0_1, y0_2, y7_0, y7_1, y7_2, y8_0, y8_1, y8_2, y9_0, y9_1, y9_2⟩ := HYW6.out _ gb; obtain ⟨z0, z7, z8, z9⟩ := HZW6.out _ gb))
  go_wp2_with fail
  go_ret
  exact ⟨by first | rfl | exact ret_bool (by simp), below_step zb gb⟩

end Go.Proofs.Ytmjnlpanlgmdmaa

