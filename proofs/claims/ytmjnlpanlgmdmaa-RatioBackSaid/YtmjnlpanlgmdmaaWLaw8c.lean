/-
  The walks of the laws of layer 8.
-/
import Derived.Test.YtmjnlpanlgmdmaaG12
import Derived.Test.YtmjnlpanlgmdmaaG21
import Derived.Test.YtmjnlpanlgmdmaaG20
import Derived.Test.YtmjnlpanlgmdmaaG05
import Derived.Deep.RegionHeld3
import Derived.Deep.Cut
import Derived.Deep.DrawnRows
import Derived.Laws.EntriesVeiled
namespace Go.Proofs.Ytmjnlpanlgmdmaa
open Go.RowKit Tw
set_option linter.unusedVariables false
set_option linter.unusedSimpArgs false
attribute [local go_sem ↓] Go.wp_at_zero Go.wp_at_succ

set_option maxRecDepth 100000 in
set_option maxHeartbeats 60000000 in
theorem walk_RatioBack (b0 : Bool) (v0 : Value) (l0 : List Nat) (u0 : Value) (m0 : List Nat) (b1 : Bool) (v1 : Value) (l1 : List Nat) (u1 : Value) (m1 : List Nat) (w : World) (hn0 : Rd w v0 l0) (hd0 : Rd w u0 m0) (hn1 : Rd w v1 l1) (hd1 : Rd w u1 m1) :
    Calls Try.prog 9 #[aggR b0 v0 u0, aggR b1 v1 u1] w (Holds w) := by
  have h0 : IsF w v0 u0 l0 m0 := ⟨hn0, hd0⟩
  clear hn0 hd0
  have h1 : IsF w v1 u1 l1 m1 := ⟨hn1, hd1⟩
  clear hn1 hd1
  obtain ⟨a0, n0, c0, rfl, H0, hm0⟩ := h0.1.open
  obtain ⟨a1, n1, c1, rfl, H1, hm1⟩ := h0.2.open
  obtain ⟨a2, n2, c2, rfl, H2, hm2⟩ := h1.1.open
  obtain ⟨a3, n3, c3, rfl, H3, hm3⟩ := h1.2.open
  by_cases hf : n0 ≤ 4 ∧ n1 ≤ 4 ∧ n2 ≤ 4 ∧ n3 ≤ 4
  rotate_left
  · skip
    go_enter Try.func9, Try.ntmps9
    go_wp2_with fail
    obtain ⟨W0, hW0⟩ : ∃ W0, (w.alloc (.cells #[.bool b0, .slice a0 n0 c0, .slice a1 n1 c1] 24)).alloc (.cells #[.bool b1, .slice a2 n2 c2, .slice a3 n3 c3] 24) = W0 := ⟨_, rfl⟩
    have HXW0 := Lib.hid (show ∀ W', Below W0.heap.size W0 W' → (W'.cell? ⟨w.heap.size, 0, none⟩ = some (.bool b0) ∧ W'.cell? ⟨w.heap.size, 1, none⟩ = some (.slice a0 n0 c0) ∧ W'.cell? ⟨w.heap.size, 2, none⟩ = some (.slice a1 n1 c1) ∧ W'.cell? ⟨w.heap.size + 1, 0, none⟩ = some (.bool b1) ∧ W'.cell? ⟨w.heap.size + 1, 1, none⟩ = some (.slice a2 n2 c2) ∧ W'.cell? ⟨w.heap.size + 1, 2, none⟩ = some (.slice a3 n3 c3)) from fun W' hb =>
      ⟨(hb.cell (p := ⟨w.heap.size, 0, none⟩) (by rw [← hW0]; simp <;> omega)).trans (by rw [← hW0]; simp [go_sem]), (hb.cell (p := ⟨w.heap.size, 1, none⟩) (by rw [← hW0]; simp <;> omega)).trans (by rw [← hW0]; simp [go_sem]), (hb.cell (p := ⟨w.heap.size, 2, none⟩) (by rw [← hW0]; simp <;> omega)).trans (by rw [← hW0]; simp [go_sem]), (hb.cell (p := ⟨w.heap.size + 1, 0, none⟩) (by rw [← hW0]; simp <;> omega)).trans (by rw [← hW0]; simp [go_sem]), (hb.cell (p := ⟨w.heap.size + 1, 1, none⟩) (by rw [← hW0]; simp <;> omega)).trans (by rw [← hW0]; simp [go_sem]), (hb.cell (p := ⟨w.heap.size + 1, 2, none⟩) (by rw [← hW0]; simp <;> omega)).trans (by rw [← hW0]; simp [go_sem])⟩)
    have HYW0 := Lib.hid (show ∀ W', Below W0.heap.size W0 W' → (W'.frozen? ⟨w.heap.size, 0, none⟩ = false ∧ W'.frozen? ⟨w.heap.size, 1, none⟩ = false ∧ W'.frozen? ⟨w.heap.size, 2, none⟩ = false ∧ W'.frozen? ⟨w.heap.size + 1, 0, none⟩ = false ∧ W'.frozen? ⟨w.heap.size + 1, 1, none⟩ = false ∧ W'.frozen? ⟨w.heap.size + 1, 2, none⟩ = false) from fun W' hb =>
      ⟨(hb.frozen (p := ⟨w.heap.size, 0, none⟩) (by rw [← hW0]; simp <;> omega)).trans (by rw [← hW0]; simp [go_sem]), (hb.frozen (p := ⟨w.heap.size, 1, none⟩) (by rw [← hW0]; simp <;> omega)).trans (by rw [← hW0]; simp [go_sem]), (hb.frozen (p := ⟨w.heap.size, 2, none⟩) (by rw [← hW0]; simp <;> omega)).trans (by rw [← hW0]; simp [go_sem]), (hb.frozen (p := ⟨w.heap.size + 1, 0, none⟩) (by rw [← hW0]; simp <;> omega)).trans (by rw [← hW0]; simp [go_sem]), (hb.frozen (p := ⟨w.heap.size + 1, 1, none⟩) (by rw [← hW0]; simp <;> omega)).trans (by rw [← hW0]; simp [go_sem]), (hb.frozen (p := ⟨w.heap.size + 1, 2, none⟩) (by rw [← hW0]; simp <;> omega)).trans (by rw [← hW0]; simp [go_sem])⟩)
    have HZW0 := Lib.hid (show ∀ W', Below W0.heap.size W0 W' → (w.heap.size < W'.heap.size ∧ w.heap.size + 1 < W'.heap.size) from fun W' hb =>
      ⟨Nat.lt_of_lt_of_le (by rw [← hW0]; simp <;> omega) hb.size, Nat.lt_of_lt_of_le (by rw [← hW0]; simp <;> omega) hb.size⟩)
    have zb : Below w.heap.size w W0 := by rw [← hW0]; exact below_step (below_new _ _) (below_new _ _)
    rw [hW0]
    clear hW0
    have i0 := h0.to zb
    have i1 := h1.to zb
    have gb : Below W0.heap.size W0 W0 := Below.refl _ _
    obtain ⟨x0_0, x0_1, x0_2, x1_0, x1_1, x1_2⟩ := HXW0.out _ gb
    obtain ⟨y0_0, y0_1, y0_2, y1_0, y1_1, y1_2⟩ := HYW0.out _ gb
    obtain ⟨z0, z1⟩ := HZW0.out _ gb
    refine (awake8 _).mono ?_
    clear x0_0 y0_0 x0_1 y0_1 x0_2 y0_2 x1_0 y1_0 x1_1 y1_1 x1_2 y1_2
    rintro e w1 ⟨rfl, hb1⟩
    replace gb := below_step gb hb1
    obtain ⟨x0_0, x0_1, x0_2, x1_0, x1_1, x1_2⟩ := HXW0.out _ gb
    obtain ⟨y0_0, y0_1, y0_2, y1_0, y1_1, y1_2⟩ := HYW0.out _ gb
    obtain ⟨z0, z1⟩ := HZW0.out _ gb
    go_wp2_with fail
    refine (law8_few _ _ _ _ _ _ _ _ _ _ _ _ _ _ _ _ _ _ _ _ _ false _ (decide_eq_false (by omega))).mono ?_
    clear x0_0 y0_0 x0_1 y0_1 x0_2 y0_2 x1_0 y1_0 x1_1 y1_1 x1_2 y1_2
    rintro e w2 ⟨rfl, hb2⟩
    replace gb := below_step gb hb2
    obtain ⟨x0_0, x0_1, x0_2, x1_0, x1_1, x1_2⟩ := HXW0.out _ gb
    obtain ⟨y0_0, y0_1, y0_2, y1_0, y1_1, y1_2⟩ := HYW0.out _ gb
    obtain ⟨z0, z1⟩ := HZW0.out _ gb
    go_wp2_with fail
    go_ret
    exact ⟨rfl, below_step zb gb⟩
  have hlens := hf
  have e1 := H0.out
  have e2 := H1.out
  obtain ⟨A, hh⟩ : ∃ z, rat b0 (val l0) (val m0) = z := ⟨_, rfl⟩
  have i0 : IsQ w b0 (.slice a0 n0 c0) (.slice a1 n1 c1) l0 m0 A := ⟨h0.1, h0.2, hh, by omega, by omega⟩
  have HBA : Hid (szq A ≤ 4) := by
    show _ ≤ _
    rw [← hh]
    refine Nat.le_trans (szq_rat _ _ _) ?_
    have k1 := sz_val h0.1.1
    have k2 := sz_val h0.2.1
    omega
  have HCA : Hid (szq A ≤ 1000) := Nat.le_trans HBA.out (by omega)
  have HRA := Lib.hid hh
  clear hh e1 e2
  have e1 := H2.out
  have e2 := H3.out
  obtain ⟨B, hh⟩ : ∃ z, rat b1 (val l1) (val m1) = z := ⟨_, rfl⟩
  have i1 : IsQ w b1 (.slice a2 n2 c2) (.slice a3 n3 c3) l1 m1 B := ⟨h1.1, h1.2, hh, by omega, by omega⟩
  have HBB : Hid (szq B ≤ 4) := by
    show _ ≤ _
    rw [← hh]
    refine Nat.le_trans (szq_rat _ _ _) ?_
    have k1 := sz_val h1.1.1
    have k2 := sz_val h1.2.1
    omega
  have HCB : Hid (szq B ≤ 1000) := Nat.le_trans HBB.out (by omega)
  have HRB := Lib.hid hh
  clear hh e1 e2
  obtain ⟨o, ho⟩ : ∃ o, rightQ b0 l0 m0 A = o := ⟨_, rfl⟩
  have HO := Lib.hid ho
  have HRI := Lib.hid (show ∀ ng, decide (A < 0) = ng → (ng == b0 && decide (limbs A.num.natAbs = l0) && decide (limbs A.den = m0)) = o from fun ng e => by rw [← e, ← ho]; rfl)
  have HSA := Lib.hid (show ∀ y, y = A → decide (A = y) = true from fun y e => decide_eq_true e.symm)
  have HAA := Lib.hid (show ∀ y, y = A → szq (A - y) ≤ 1000 from fun y e => by
    have h1 := szq_sub A y
    have h2 : szq A ≤ 4 := HBA.out
    rw [e] at h1 ⊢
    omega)
  have HBZ : Hid (szq (B - ((0 : Int) : Rat)) ≤ 1000) := by
    have h1 := szq_sub B ((0 : Int) : Rat)
    have h2 : szq B ≤ 4 := HBB.out
    have h3 : szq ((0 : Int) : Rat) ≤ 1 := by decide +kernel
    show _ ≤ _
    omega
  clear ho
  have HB10 : Hid (szq ((A + B)) ≤ 9) := by
    have h1 : szq (A) ≤ 4 := HBA.out
    have h2 : szq (B) ≤ 4 := HBB.out
    have := szq_add (A) (B)
    show _ ≤ _
    omega
  have HC10 : Hid (szq ((A + B)) ≤ 1000) := Nat.le_trans HB10.out (by omega)
  have HB11 : Hid (szq ((A * B)) ≤ 8) := by
    have h1 : szq (A) ≤ 4 := HBA.out
    have h2 : szq (B) ≤ 4 := HBB.out
    have := szq_mul (A) (B)
    show _ ≤ _
    omega
  have HC11 : Hid (szq ((A * B)) ≤ 1000) := Nat.le_trans HB11.out (by omega)
  have HB12 : Hid (szq (((A + B) - B)) ≤ 14) := by
    have h1 : szq ((A + B)) ≤ 9 := HB10.out
    have h2 : szq (B) ≤ 4 := HBB.out
    have := szq_sub ((A + B)) (B)
    show _ ≤ _
    omega
  have HC12 : Hid (szq (((A + B) - B)) ≤ 1000) := Nat.le_trans HB12.out (by omega)
  have HY : Hid (True) := trivial
  have KS : A + B - B = A := by grind
  have HKS := Lib.hid KS
  clear KS
  have HF := Lib.hid (show decide (n0 ≤ 4 ∧ n1 ≤ 4 ∧ n2 ≤ 4 ∧ n3 ≤ 4 ∧ n0 ≤ 4 ∧ n1 ≤ 4) = true from decide_eq_true (by omega))
  clear hf hlens
  go_enter Try.func9, Try.ntmps9
  go_wp2_with fail
  obtain ⟨W0, hW0⟩ : ∃ W0, (w.alloc (.cells #[.bool b0, .slice a0 n0 c0, .slice a1 n1 c1] 24)).alloc (.cells #[.bool b1, .slice a2 n2 c2, .slice a3 n3 c3] 24) = W0 := ⟨_, rfl⟩
  have HXW0 := Lib.hid (show ∀ W', Below W0.heap.size W0 W' → (W'.cell? ⟨w.heap.size, 0, none⟩ = some (.bool b0) ∧ W'.cell? ⟨w.heap.size, 1, none⟩ = some (.slice a0 n0 c0) ∧ W'.cell? ⟨w.heap.size, 2, none⟩ = some (.slice a1 n1 c1) ∧ W'.cell? ⟨w.heap.size + 1, 0, none⟩ = some (.bool b1) ∧ W'.cell? ⟨w.heap.size + 1, 1, none⟩ = some (.slice a2 n2 c2) ∧ W'.cell? ⟨w.heap.size + 1, 2, none⟩ = some (.slice a3 n3 c3)) from fun W' hb =>
    ⟨(hb.cell (p := ⟨w.heap.size, 0, none⟩) (by rw [← hW0]; simp <;> omega)).trans (by rw [← hW0]; simp [go_sem]), (hb.cell (p := ⟨w.heap.size, 1, none⟩) (by rw [← hW0]; simp <;> omega)).trans (by rw [← hW0]; simp [go_sem]), (hb.cell (p := ⟨w.heap.size, 2, none⟩) (by rw [← hW0]; simp <;> omega)).trans (by rw [← hW0]; simp [go_sem]), (hb.cell (p := ⟨w.heap.size + 1, 0, none⟩) (by rw [← hW0]; simp <;> omega)).trans (by rw [← hW0]; simp [go_sem]), (hb.cell (p := ⟨w.heap.size + 1, 1, none⟩) (by rw [← hW0]; simp <;> omega)).trans (by rw [← hW0]; simp [go_sem]), (hb.cell (p := ⟨w.heap.size + 1, 2, none⟩) (by rw [← hW0]; simp <;> omega)).trans (by rw [← hW0]; simp [go_sem])⟩)
  have HYW0 := Lib.hid (show ∀ W', Below W0.heap.size W0 W' → (W'.frozen? ⟨w.heap.size, 0, none⟩ = false ∧ W'.frozen? ⟨w.heap.size, 1, none⟩ = false ∧ W'.frozen? ⟨w.heap.size, 2, none⟩ = false ∧ W'.frozen? ⟨w.heap.size + 1, 0, none⟩ = false ∧ W'.frozen? ⟨w.heap.size + 1, 1, none⟩ = false ∧ W'.frozen? ⟨w.heap.size + 1, 2, none⟩ = false) from fun W' hb =>
    ⟨(hb.frozen (p := ⟨w.heap.size, 0, none⟩) (by rw [← hW0]; simp <;> omega)).trans (by rw [← hW0]; simp [go_sem]), (hb.frozen (p := ⟨w.heap.size, 1, none⟩) (by rw [← hW0]; simp <;> omega)).trans (by rw [← hW0]; simp [go_sem]), (hb.frozen (p := ⟨w.heap.size, 2, none⟩) (by rw [← hW0]; simp <;> omega)).trans (by rw [← hW0]; simp [go_sem]), (hb.frozen (p := ⟨w.heap.size + 1, 0, none⟩) (by rw [← hW0]; simp <;> omega)).trans (by rw [← hW0]; simp [go_sem]), (hb.frozen (p := ⟨w.heap.size + 1, 1, none⟩) (by rw [← hW0]; simp <;> omega)).trans (by rw [← hW0]; simp [go_sem]), (hb.frozen (p := ⟨w.heap.size + 1, 2, none⟩) (by rw [← hW0]; simp <;> omega)).trans (by rw [← hW0]; simp [go_sem])⟩)
  have HZW0 := Lib.hid (show ∀ W', Below W0.heap.size W0 W' → (w.heap.size < W'.heap.size ∧ w.heap.size + 1 < W'.heap.size) from fun W' hb =>
    ⟨Nat.lt_of_lt_of_le (by rw [← hW0]; simp <;> omega) hb.size, Nat.lt_of_lt_of_le (by rw [← hW0]; simp <;> omega) hb.size⟩)
  have zb : Below w.heap.size w W0 := by rw [← hW0]; exact below_step (below_new _ _) (below_new _ _)
  rw [hW0]
  clear hW0
  have i0 := i0.to zb
  have i1 := i1.to zb
  have gb : Below W0.heap.size W0 W0 := Below.refl _ _
  obtain ⟨x0_0, x0_1, x0_2, x1_0, x1_1, x1_2⟩ := HXW0.out _ gb
  obtain ⟨y0_0, y0_1, y0_2, y1_0, y1_1, y1_2⟩ := HYW0.out _ gb
  obtain ⟨z0, z1⟩ := HZW0.out _ gb
  refine (awake8 _).mono ?_
  clear x0_0 y0_0 x0_1 y0_1 x0_2 y0_2 x1_0 y1_0 x1_1 y1_1 x1_2 y1_2
  rintro e w1 ⟨rfl, hb1⟩
  replace gb := below_step gb hb1
  obtain ⟨x0_0, x0_1, x0_2, x1_0, x1_1, x1_2⟩ := HXW0.out _ gb
  obtain ⟨y0_0, y0_1, y0_2, y1_0, y1_1, y1_2⟩ := HYW0.out _ gb
  obtain ⟨z0, z1⟩ := HZW0.out _ gb
  go_wp2_with fail
  refine (law8_few _ _ _ _ _ _ _ _ _ _ _ _ _ _ _ _ _ _ _ _ _ true _ HF.out).mono ?_
  clear x0_0 y0_0 x0_1 y0_1 x0_2 y0_2 x1_0 y1_0 x1_1 y1_1 x1_2 y1_2
  rintro e w2 ⟨rfl, hb2⟩
  replace gb := below_step gb hb2
  obtain ⟨x0_0, x0_1, x0_2, x1_0, x1_1, x1_2⟩ := HXW0.out _ gb
  obtain ⟨y0_0, y0_1, y0_2, y1_0, y1_1, y1_2⟩ := HYW0.out _ gb
  obtain ⟨z0, z1⟩ := HZW0.out _ gb
  go_wp2_with fail
  refine (ratio_fix _ _ _ _ _ _ (i0.to gb) A rfl HCA).mono ?_
  clear x0_0 y0_0 x0_1 y0_1 x0_2 y0_2 x1_0 y1_0 x1_1 y1_1 x1_2 y1_2
  rintro e w3 ⟨ng3, a3_, n3_, c3_, p3_, m3_, k3_, rfl, g3, hb3⟩
  replace gb := below_step gb hb3
  obtain ⟨x0_0, x0_1, x0_2, x1_0, x1_1, x1_2⟩ := HXW0.out _ gb
  obtain ⟨y0_0, y0_1, y0_2, y1_0, y1_1, y1_2⟩ := HYW0.out _ gb
  obtain ⟨z0, z1⟩ := HZW0.out _ gb
  go_wp2_with fail
  obtain ⟨W3, hW3⟩ : ∃ W3, w3.alloc (.cells #[.bool ng3, .slice a3_ n3_ c3_, .slice p3_ m3_ k3_] 24) = W3 := ⟨_, rfl⟩
  have hb_W3 : Below w3.heap.size w3 W3 := by rw [← hW3]; exact below_new _ _
  have hs_W3 : Hid (W3.heap.size = w3.heap.size + 1) := by show _ = _; rw [← hW3]; simp
  clear x0_0 y0_0 x0_1 y0_1 x0_2 y0_2 x1_0 y1_0 x1_1 y1_1 x1_2 y1_2
  replace g3 := g3.to hb_W3
  replace gb := below_step gb hb_W3
  obtain ⟨x0_0, x0_1, x0_2, x1_0, x1_1, x1_2⟩ := HXW0.out _ gb
  obtain ⟨y0_0, y0_1, y0_2, y1_0, y1_1, y1_2⟩ := HYW0.out _ gb
  obtain ⟨z0, z1⟩ := HZW0.out _ gb
  have x7_0 : W3.cell? ⟨w3.heap.size, 0, none⟩ = some (.bool ng3) := by rw [← hW3]; simp [go_sem]
  have y7_0 : W3.frozen? ⟨w3.heap.size, 0, none⟩ = false := by rw [← hW3]; simp [go_sem]
  have x7_1 : W3.cell? ⟨w3.heap.size, 1, none⟩ = some (.slice a3_ n3_ c3_) := by rw [← hW3]; simp [go_sem]
  have y7_1 : W3.frozen? ⟨w3.heap.size, 1, none⟩ = false := by rw [← hW3]; simp [go_sem]
  have x7_2 : W3.cell? ⟨w3.heap.size, 2, none⟩ = some (.slice p3_ m3_ k3_) := by rw [← hW3]; simp [go_sem]
  have y7_2 : W3.frozen? ⟨w3.heap.size, 2, none⟩ = false := by rw [← hW3]; simp [go_sem]
  have z7 : w3.heap.size < W3.heap.size := by rw [← hW3]; simp
  rw [hW3]
  clear hW3
  replace i0 := i0.to gb
  replace i1 := i1.to gb
  replace zb := below_step zb gb
  have HXW3 := Lib.hid (show ∀ W', Below W3.heap.size W3 W' → (W'.cell? ⟨w.heap.size, 0, none⟩ = some (.bool b0) ∧ W'.cell? ⟨w.heap.size, 1, none⟩ = some (.slice a0 n0 c0) ∧ W'.cell? ⟨w.heap.size, 2, none⟩ = some (.slice a1 n1 c1) ∧ W'.cell? ⟨w.heap.size + 1, 0, none⟩ = some (.bool b1) ∧ W'.cell? ⟨w.heap.size + 1, 1, none⟩ = some (.slice a2 n2 c2) ∧ W'.cell? ⟨w.heap.size + 1, 2, none⟩ = some (.slice a3 n3 c3) ∧ W'.cell? ⟨w3.heap.size, 0, none⟩ = some (.bool ng3) ∧ W'.cell? ⟨w3.heap.size, 1, none⟩ = some (.slice a3_ n3_ c3_) ∧ W'.cell? ⟨w3.heap.size, 2, none⟩ = some (.slice p3_ m3_ k3_)) from fun W' hb =>
    ⟨(hb.cell (p := ⟨w.heap.size, 0, none⟩) z0).trans x0_0, (hb.cell (p := ⟨w.heap.size, 1, none⟩) z0).trans x0_1, (hb.cell (p := ⟨w.heap.size, 2, none⟩) z0).trans x0_2, (hb.cell (p := ⟨w.heap.size + 1, 0, none⟩) z1).trans x1_0, (hb.cell (p := ⟨w.heap.size + 1, 1, none⟩) z1).trans x1_1, (hb.cell (p := ⟨w.heap.size + 1, 2, none⟩) z1).trans x1_2, (hb.cell (p := ⟨w3.heap.size, 0, none⟩) z7).trans x7_0, (hb.cell (p := ⟨w3.heap.size, 1, none⟩) z7).trans x7_1, (hb.cell (p := ⟨w3.heap.size, 2, none⟩) z7).trans x7_2⟩)
  have HYW3 := Lib.hid (show ∀ W', Below W3.heap.size W3 W' → (W'.frozen? ⟨w.heap.size, 0, none⟩ = false ∧ W'.frozen? ⟨w.heap.size, 1, none⟩ = false ∧ W'.frozen? ⟨w.heap.size, 2, none⟩ = false ∧ W'.frozen? ⟨w.heap.size + 1, 0, none⟩ = false ∧ W'.frozen? ⟨w.heap.size + 1, 1, none⟩ = false ∧ W'.frozen? ⟨w.heap.size + 1, 2, none⟩ = false ∧ W'.frozen? ⟨w3.heap.size, 0, none⟩ = false ∧ W'.frozen? ⟨w3.heap.size, 1, none⟩ = false ∧ W'.frozen? ⟨w3.heap.size, 2, none⟩ = false) from fun W' hb =>
    ⟨(hb.frozen (p := ⟨w.heap.size, 0, none⟩) z0).trans y0_0, (hb.frozen (p := ⟨w.heap.size, 1, none⟩) z0).trans y0_1, (hb.frozen (p := ⟨w.heap.size, 2, none⟩) z0).trans y0_2, (hb.frozen (p := ⟨w.heap.size + 1, 0, none⟩) z1).trans y1_0, (hb.frozen (p := ⟨w.heap.size + 1, 1, none⟩) z1).trans y1_1, (hb.frozen (p := ⟨w.heap.size + 1, 2, none⟩) z1).trans y1_2, (hb.frozen (p := ⟨w3.heap.size, 0, none⟩) z7).trans y7_0, (hb.frozen (p := ⟨w3.heap.size, 1, none⟩) z7).trans y7_1, (hb.frozen (p := ⟨w3.heap.size, 2, none⟩) z7).trans y7_2⟩)
  have HZW3 := Lib.hid (show ∀ W', Below W3.heap.size W3 W' → (w.heap.size < W'.heap.size ∧ w.heap.size + 1 < W'.heap.size ∧ w3.heap.size < W'.heap.size) from fun W' hb =>
    ⟨Nat.lt_of_lt_of_le z0 hb.size, Nat.lt_of_lt_of_le z1 hb.size, Nat.lt_of_lt_of_le z7 hb.size⟩)
  replace gb := Below.refl W3.heap.size W3
  go_wp2_with fail
  have hgb := gb
  go_upto_region 6 with fail
  go_cut [8] from 22 (fun s8 wx => BoxQ W3 (A) s8 wx)
  case first =>
    go_region_held3 (fun W' => W'.cell? ⟨w.heap.size, 0, none⟩ = some (.bool b0) ∧ W'.cell? ⟨w.heap.size, 1, none⟩ = some (.slice a0 n0 c0) ∧ W'.cell? ⟨w.heap.size, 2, none⟩ = some (.slice a1 n1 c1) ∧ W'.cell? ⟨w.heap.size + 1, 0, none⟩ = some (.bool b1) ∧ W'.cell? ⟨w.heap.size + 1, 1, none⟩ = some (.slice a2 n2 c2) ∧ W'.cell? ⟨w.heap.size + 1, 2, none⟩ = some (.slice a3 n3 c3) ∧ W'.cell? ⟨w3.heap.size, 0, none⟩ = some (.bool ng3) ∧ W'.cell? ⟨w3.heap.size, 1, none⟩ = some (.slice a3_ n3_ c3_) ∧ W'.cell? ⟨w3.heap.size, 2, none⟩ = some (.slice p3_ m3_ k3_)) (first | (with_reducible exact HXW3.out _ gb) | ((with_reducible refine HXW3.out _ ?_); first | ((with_reducible refine Below.drew ?_); first | (with_reducible exact gb) | ((with_reducible refine below_set3 ?_ ?_ _ _ _); rotate_left; (first | (with_reducible exact et4_R_0) | (with_reducible exact et5_R_0)); with_reducible exact gb) | ((with_reducible refine below_step ?_ (below_new _ _)); with_reducible exact gb)) | (first | (with_reducible exact gb) | ((with_reducible refine below_set3 ?_ ?_ _ _ _); rotate_left; (first | (with_reducible exact et4_R_0) | (with_reducible exact et5_R_0)); first | (with_reducible exact gb) | ((with_reducible refine below_set3 ?_ ?_ _ _ _); rotate_left; (first | (with_reducible exact et4_R_0) | (with_reducible exact et5_R_0)); with_reducible exact gb) | ((with_reducible refine below_step ?_ (below_new _ _)); with_reducible exact gb)) | ((with_reducible refine below_step ?_ (below_new _ _)); first | (with_reducible exact gb) | ((with_reducible refine below_set3 ?_ ?_ _ _ _); rotate_left; (first | (with_reducible exact et4_R_0) | (with_reducible exact et5_R_0)); with_reducible exact gb) | ((with_reducible refine below_step ?_ (below_new _ _)); with_reducible exact gb))))) (first
      | (go_at_call 34; (refine calls_gen w4 (by first | with_reducible exact Below.refl _ _ | with_reducible exact below_new _ _) ?_); intro V5 hV5 hbV5; have hsV5 := hbV5.size; have hu5 := gb.size; have g4 := g4.to hbV5; have gb := below_step gb hbV5; (try have t4_R_0 := t4_R_0.to hbV5); (try have t5_R_0 : Tri V5 (w4.heap.size) (.bool false) (.slice none 0 0) (.slice none 0 0) := (by rw [hV5]; first | with_reducible exact tri_new _ (.bool false) (.slice none 0 0) (.slice none 0 0) _ | with_reducible exact (tri_new _ (.bool false) (.slice none 0 0) (.slice none 0 0) _).alloc _)); have et5_R_0 : W3.heap.size ≤ w4.heap.size := (hu5); (try have vt4_R_0_5 := t4_R_0.lt); (try have vt5_R_0_5 := t5_R_0.lt); (with_reducible refine (ratio_sub _ _ _ _ _ _ _ _ _ _ _ g4.isQ (i1.to gb) A HKS.out HCA).mono ?_); rintro e w5 ⟨ng5, a5_, n5_, c5_, p5_, m5_, k5_, rfl, g5, hb5⟩; have g4 := g4.to hb5; have gb := below_step gb hb5; have hs5 := hb5.size; (try have t4_R_0 := t4_R_0.to hb5); (try have t5_R_0 := t5_R_0.to hb5); (try have lt4_R_0_5 := t4_R_0.lt); (try have lt5_R_0_5 := t5_R_0.lt); (try (have qt4_R_0 := t4_R_0; obtain ⟨rt4_R_00, rt4_R_01, rt4_R_02, st4_R_00, st4_R_01, st4_R_02⟩ := qt4_R_0)); (try (have qt5_R_0 := t5_R_0; obtain ⟨rt5_R_00, rt5_R_01, rt5_R_02, st5_R_00, st5_R_01, st5_R_02⟩ := qt5_R_0)))
      | (go_at_call 24; (refine calls_gen W3 (by first | with_reducible exact (Below.refl _ _).drew | with_reducible exact (below_new _ _).drew) ?_); intro V4 hV4 hbV4; have hsV4 := hbV4.size; have hu4 := gb.size; have gb := below_step gb hbV4; (try have t4_R_0 : Tri V4 (W3.heap.size) (.bool false) (.slice none 0 0) (.slice none 0 0) := (by rw [hV4]; first | with_reducible exact (tri_new _ (.bool false) (.slice none 0 0) (.slice none 0 0) _).drew | with_reducible exact ((tri_new _ (.bool false) (.slice none 0 0) (.slice none 0 0) _).alloc _).drew)); have et4_R_0 : W3.heap.size ≤ W3.heap.size := (hu4); (try have vt4_R_0_4 := t4_R_0.lt); (with_reducible refine (ratio_add _ _ _ _ _ _ _ _ _ _ _ (i0.to gb) (i1.to gb) (A + B) rfl HC10).mono ?_); rintro e w4 ⟨ng4, a4_, n4_, c4_, p4_, m4_, k4_, rfl, g4, hb4⟩; have gb := below_step gb hb4; have hs4 := hb4.size; (try have t4_R_0 := t4_R_0.to hb4); (try have lt4_R_0_4 := t4_R_0.lt); (try (have qt4_R_0 := t4_R_0; obtain ⟨rt4_R_00, rt4_R_01, rt4_R_02, st4_R_00, st4_R_01, st4_R_02⟩ := qt4_R_0))))
    all_goals (go_wp2_with fail; go_meet)
    all_goals first
      | (with_reducible exact boxQ_old t4_R_0 g5 (.inl vt4_R_0_5) gb et4_R_0)
      | (with_reducible exact boxQ_old t5_R_0 g5 (.inl vt5_R_0_5) gb et5_R_0)
      | (with_reducible exact boxQ_new g5 gb)
  case rest =>
  obtain ⟨B8, ng5, a5_, n5_, c5_, p5_, m5_, k5_, lo8, hi8, rfl, hB8, T8, g5, hc8⟩ := hcut
  clear x0_0 y0_0 x0_1 y0_1 x0_2 y0_2 x1_0 y1_0 x1_1 y1_1 x1_2 y1_2 x7_0 y7_0 x7_1 y7_1 x7_2 y7_2
  have gb := hc8
  obtain ⟨x0_0, x0_1, x0_2, x1_0, x1_1, x1_2, x7_0, x7_1, x7_2⟩ := HXW3.out _ gb
  obtain ⟨y0_0, y0_1, y0_2, y1_0, y1_1, y1_2, y7_0, y7_1, y7_2⟩ := HYW3.out _ gb
  obtain ⟨z0, z1, z7⟩ := HZW3.out _ gb
  have z8 := T8.lt
  obtain ⟨x8_0, x8_1, x8_2, y8_0, y8_1, y8_2⟩ := T8
  clear hgb
  obtain ⟨W5, hW5⟩ : ∃ W, wc = W := ⟨_, rfl⟩
  subst hW5
  replace i0 := i0.to gb
  replace i1 := i1.to gb
  replace g3 := g3.to gb
  replace zb := below_step zb gb
  have HXwc := Lib.hid (show ∀ W', Below wc.heap.size wc W' → (W'.cell? ⟨w.heap.size, 0, none⟩ = some (.bool b0) ∧ W'.cell? ⟨w.heap.size, 1, none⟩ = some (.slice a0 n0 c0) ∧ W'.cell? ⟨w.heap.size, 2, none⟩ = some (.slice a1 n1 c1) ∧ W'.cell? ⟨w.heap.size + 1, 0, none⟩ = some (.bool b1) ∧ W'.cell? ⟨w.heap.size + 1, 1, none⟩ = some (.slice a2 n2 c2) ∧ W'.cell? ⟨w.heap.size + 1, 2, none⟩ = some (.slice a3 n3 c3) ∧ W'.cell? ⟨w3.heap.size, 0, none⟩ = some (.bool ng3) ∧ W'.cell? ⟨w3.heap.size, 1, none⟩ = some (.slice a3_ n3_ c3_) ∧ W'.cell? ⟨w3.heap.size, 2, none⟩ = some (.slice p3_ m3_ k3_) ∧ W'.cell? ⟨B8, 0, none⟩ = some (.bool ng5) ∧ W'.cell? ⟨B8, 1, none⟩ = some (.slice a5_ n5_ c5_) ∧ W'.cell? ⟨B8, 2, none⟩ = some (.slice p5_ m5_ k5_)) from fun W' hb =>
    ⟨(hb.cell (p := ⟨w.heap.size, 0, none⟩) z0).trans x0_0, (hb.cell (p := ⟨w.heap.size, 1, none⟩) z0).trans x0_1, (hb.cell (p := ⟨w.heap.size, 2, none⟩) z0).trans x0_2, (hb.cell (p := ⟨w.heap.size + 1, 0, none⟩) z1).trans x1_0, (hb.cell (p := ⟨w.heap.size + 1, 1, none⟩) z1).trans x1_1, (hb.cell (p := ⟨w.heap.size + 1, 2, none⟩) z1).trans x1_2, (hb.cell (p := ⟨w3.heap.size, 0, none⟩) z7).trans x7_0, (hb.cell (p := ⟨w3.heap.size, 1, none⟩) z7).trans x7_1, (hb.cell (p := ⟨w3.heap.size, 2, none⟩) z7).trans x7_2, (hb.cell (p := ⟨B8, 0, none⟩) z8).trans x8_0, (hb.cell (p := ⟨B8, 1, none⟩) z8).trans x8_1, (hb.cell (p := ⟨B8, 2, none⟩) z8).trans x8_2⟩)
  have HYwc := Lib.hid (show ∀ W', Below wc.heap.size wc W' → (W'.frozen? ⟨w.heap.size, 0, none⟩ = false ∧ W'.frozen? ⟨w.heap.size, 1, none⟩ = false ∧ W'.frozen? ⟨w.heap.size, 2, none⟩ = false ∧ W'.frozen? ⟨w.heap.size + 1, 0, none⟩ = false ∧ W'.frozen? ⟨w.heap.size + 1, 1, none⟩ = false ∧ W'.frozen? ⟨w.heap.size + 1, 2, none⟩ = false ∧ W'.frozen? ⟨w3.heap.size, 0, none⟩ = false ∧ W'.frozen? ⟨w3.heap.size, 1, none⟩ = false ∧ W'.frozen? ⟨w3.heap.size, 2, none⟩ = false ∧ W'.frozen? ⟨B8, 0, none⟩ = false ∧ W'.frozen? ⟨B8, 1, none⟩ = false ∧ W'.frozen? ⟨B8, 2, none⟩ = false) from fun W' hb =>
    ⟨(hb.frozen (p := ⟨w.heap.size, 0, none⟩) z0).trans y0_0, (hb.frozen (p := ⟨w.heap.size, 1, none⟩) z0).trans y0_1, (hb.frozen (p := ⟨w.heap.size, 2, none⟩) z0).trans y0_2, (hb.frozen (p := ⟨w.heap.size + 1, 0, none⟩) z1).trans y1_0, (hb.frozen (p := ⟨w.heap.size + 1, 1, none⟩) z1).trans y1_1, (hb.frozen (p := ⟨w.heap.size + 1, 2, none⟩) z1).trans y1_2, (hb.frozen (p := ⟨w3.heap.size, 0, none⟩) z7).trans y7_0, (hb.frozen (p := ⟨w3.heap.size, 1, none⟩) z7).trans y7_1, (hb.frozen (p := ⟨w3.heap.size, 2, none⟩) z7).trans y7_2, (hb.frozen (p := ⟨B8, 0, none⟩) z8).trans y8_0, (hb.frozen (p := ⟨B8, 1, none⟩) z8).trans y8_1, (hb.frozen (p := ⟨B8, 2, none⟩) z8).trans y8_2⟩)
  have HZwc := Lib.hid (show ∀ W', Below wc.heap.size wc W' → (w.heap.size < W'.heap.size ∧ w.heap.size + 1 < W'.heap.size ∧ w3.heap.size < W'.heap.size ∧ B8 < W'.heap.size) from fun W' hb =>
    ⟨Nat.lt_of_lt_of_le z0 hb.size, Nat.lt_of_lt_of_le z1 hb.size, Nat.lt_of_lt_of_le z7 hb.size, Nat.lt_of_lt_of_le z8 hb.size⟩)
  replace gb := Below.refl wc.heap.size wc
  go_wp2_with fail
  by_cases hB : B = 0
  · have HB0 := Lib.hid hB
    have HB1 := Lib.hid (show decide (B = (((0 : Int) : Rat))) = true by rw [hB]; rfl)
    clear hB
    have hgb := gb
    go_upto_region 7 with fail
    go_cut [9, 10] from 27 (fun s9 s10 wx => Below wc.heap.size wc wx ∧ s10 = .int .i64 3)
    case first =>
      go_region_held3 (fun W' => W'.cell? ⟨w.heap.size, 0, none⟩ = some (.bool b0) ∧ W'.cell? ⟨w.heap.size, 1, none⟩ = some (.slice a0 n0 c0) ∧ W'.cell? ⟨w.heap.size, 2, none⟩ = some (.slice a1 n1 c1) ∧ W'.cell? ⟨w.heap.size + 1, 0, none⟩ = some (.bool b1) ∧ W'.cell? ⟨w.heap.size + 1, 1, none⟩ = some (.slice a2 n2 c2) ∧ W'.cell? ⟨w.heap.size + 1, 2, none⟩ = some (.slice a3 n3 c3) ∧ W'.cell? ⟨w3.heap.size, 0, none⟩ = some (.bool ng3) ∧ W'.cell? ⟨w3.heap.size, 1, none⟩ = some (.slice a3_ n3_ c3_) ∧ W'.cell? ⟨w3.heap.size, 2, none⟩ = some (.slice p3_ m3_ k3_) ∧ W'.cell? ⟨B8, 0, none⟩ = some (.bool ng5) ∧ W'.cell? ⟨B8, 1, none⟩ = some (.slice a5_ n5_ c5_) ∧ W'.cell? ⟨B8, 2, none⟩ = some (.slice p5_ m5_ k5_)) (first | (with_reducible exact HXwc.out _ gb) | ((with_reducible refine HXwc.out _ ?_); first | ((with_reducible refine Below.drew ?_); first | (with_reducible exact gb) | ((with_reducible refine below_set3 ?_ ?_ _ _ _); rotate_left; (first | (with_reducible exact et6_R_0) | (with_reducible exact et7_R_0)); with_reducible exact gb) | ((with_reducible refine below_step ?_ (below_new _ _)); with_reducible exact gb)) | (first | (with_reducible exact gb) | ((with_reducible refine below_set3 ?_ ?_ _ _ _); rotate_left; (first | (with_reducible exact et6_R_0) | (with_reducible exact et7_R_0)); first | (with_reducible exact gb) | ((with_reducible refine below_set3 ?_ ?_ _ _ _); rotate_left; (first | (with_reducible exact et6_R_0) | (with_reducible exact et7_R_0)); with_reducible exact gb) | ((with_reducible refine below_step ?_ (below_new _ _)); with_reducible exact gb)) | ((with_reducible refine below_step ?_ (below_new _ _)); first | (with_reducible exact gb) | ((with_reducible refine below_set3 ?_ ?_ _ _ _); rotate_left; (first | (with_reducible exact et6_R_0) | (with_reducible exact et7_R_0)); with_reducible exact gb) | ((with_reducible refine below_step ?_ (below_new _ _)); with_reducible exact gb))))) (first
        | (go_at_call 32; (refine calls_gen w6 (by first | with_reducible exact Below.refl _ _ | with_reducible exact below_new _ _) ?_); intro V7 hV7 hbV7; have hsV7 := hbV7.size; have hu7 := gb.size; have g6 := g6.to hbV7; have gb := below_step gb hbV7; (try have t6_R_0 := t6_R_0.to hbV7); (try have t7_R_0 : Tri V7 (w6.heap.size) (.bool false) (.slice none 0 0) (.slice none 0 0) := (by rw [hV7]; first | with_reducible exact tri_new _ (.bool false) (.slice none 0 0) (.slice none 0 0) _ | with_reducible exact (tri_new _ (.bool false) (.slice none 0 0) (.slice none 0 0) _).alloc _)); have et7_R_0 : wc.heap.size ≤ w6.heap.size := (hu7); (try have vt6_R_0_7 := t6_R_0.lt); (try have vt7_R_0_7 := t7_R_0.lt); (with_reducible refine (ratio_div_no _ _ _ _ _ _ _ _ _ _ _ g6.isQ (i1.to gb) HB0.out).mono ?_); rintro e w7 ⟨rfl, hb7⟩; have g6 := g6.to hb7; have gb := below_step gb hb7; have hs7 := hb7.size; (try have t6_R_0 := t6_R_0.to hb7); (try have t7_R_0 := t7_R_0.to hb7); (try have lt6_R_0_7 := t6_R_0.lt); (try have lt7_R_0_7 := t7_R_0.lt); (try (have qt6_R_0 := t6_R_0; obtain ⟨rt6_R_00, rt6_R_01, rt6_R_02, st6_R_00, st6_R_01, st6_R_02⟩ := qt6_R_0)); (try (have qt7_R_0 := t7_R_0; obtain ⟨rt7_R_00, rt7_R_01, rt7_R_02, st7_R_00, st7_R_01, st7_R_02⟩ := qt7_R_0)))
        | (go_at_call 20; (refine calls_gen wc (by first | with_reducible exact (Below.refl _ _).drew | with_reducible exact (below_new _ _).drew) ?_); intro V6 hV6 hbV6; have hsV6 := hbV6.size; have hu6 := gb.size; have gb := below_step gb hbV6; (try have t6_R_0 : Tri V6 (wc.heap.size) (.bool false) (.slice none 0 0) (.slice none 0 0) := (by rw [hV6]; first | with_reducible exact (tri_new _ (.bool false) (.slice none 0 0) (.slice none 0 0) _).drew | with_reducible exact ((tri_new _ (.bool false) (.slice none 0 0) (.slice none 0 0) _).alloc _).drew)); have et6_R_0 : wc.heap.size ≤ wc.heap.size := (hu6); (try have vt6_R_0_6 := t6_R_0.lt); (with_reducible refine (ratio_mul _ _ _ _ _ _ _ _ _ _ _ (i0.to gb) (i1.to gb) (A * B) rfl HC11).mono ?_); rintro e w6 ⟨ng6, a6_, n6_, c6_, p6_, m6_, k6_, rfl, g6, hb6⟩; have gb := below_step gb hb6; have hs6 := hb6.size; (try have t6_R_0 := t6_R_0.to hb6); (try have lt6_R_0_6 := t6_R_0.lt); (try (have qt6_R_0 := t6_R_0; obtain ⟨rt6_R_00, rt6_R_01, rt6_R_02, st6_R_00, st6_R_01, st6_R_02⟩ := qt6_R_0))))
      all_goals (go_wp2_with fail; go_meet)
      all_goals refine ⟨?_, rfl⟩
      all_goals first
        | (first | (with_reducible exact gb) | ((with_reducible refine below_set3 ?_ ?_ _ _ _); rotate_left; (first | (with_reducible exact et6_R_0) | (with_reducible exact et7_R_0)); first | (with_reducible exact gb) | ((with_reducible refine below_set3 ?_ ?_ _ _ _); rotate_left; (first | (with_reducible exact et6_R_0) | (with_reducible exact et7_R_0)); with_reducible exact gb) | ((with_reducible refine below_step ?_ (below_new _ _)); with_reducible exact gb)) | ((with_reducible refine below_step ?_ (below_new _ _)); first | (with_reducible exact gb) | ((with_reducible refine below_set3 ?_ ?_ _ _ _); rotate_left; (first | (with_reducible exact et6_R_0) | (with_reducible exact et7_R_0)); with_reducible exact gb) | ((with_reducible refine below_step ?_ (below_new _ _)); with_reducible exact gb)))
    case rest =>
    obtain ⟨hc0, rfl⟩ := hcut
    clear x0_0 y0_0 x0_1 y0_1 x0_2 y0_2 x1_0 y1_0 x1_1 y1_1 x1_2 y1_2 x7_0 y7_0 x7_1 y7_1 x7_2 y7_2 x8_0 y8_0 x8_1 y8_1 x8_2 y8_2
    have gb := hc0
    obtain ⟨x0_0, x0_1, x0_2, x1_0, x1_1, x1_2, x7_0, x7_1, x7_2, x8_0, x8_1, x8_2⟩ := HXwc.out _ gb
    obtain ⟨y0_0, y0_1, y0_2, y1_0, y1_1, y1_2, y7_0, y7_1, y7_2, y8_0, y8_1, y8_2⟩ := HYwc.out _ gb
    obtain ⟨z0, z1, z7, z8⟩ := HZwc.out _ gb
    clear hgb
    obtain ⟨W7, hW7⟩ : ∃ W, wc = W := ⟨_, rfl⟩
    subst hW7
    replace i0 := i0.to gb
    replace i1 := i1.to gb
    replace g3 := g3.to gb
    replace g5 := g5.to gb
    replace zb := below_step zb gb
    have HXwc := Lib.hid (show ∀ W', Below wc.heap.size wc W' → (W'.cell? ⟨w.heap.size, 0, none⟩ = some (.bool b0) ∧ W'.cell? ⟨w.heap.size, 1, none⟩ = some (.slice a0 n0 c0) ∧ W'.cell? ⟨w.heap.size, 2, none⟩ = some (.slice a1 n1 c1) ∧ W'.cell? ⟨w.heap.size + 1, 0, none⟩ = some (.bool b1) ∧ W'.cell? ⟨w.heap.size + 1, 1, none⟩ = some (.slice a2 n2 c2) ∧ W'.cell? ⟨w.heap.size + 1, 2, none⟩ = some (.slice a3 n3 c3) ∧ W'.cell? ⟨w3.heap.size, 0, none⟩ = some (.bool ng3) ∧ W'.cell? ⟨w3.heap.size, 1, none⟩ = some (.slice a3_ n3_ c3_) ∧ W'.cell? ⟨w3.heap.size, 2, none⟩ = some (.slice p3_ m3_ k3_) ∧ W'.cell? ⟨B8, 0, none⟩ = some (.bool ng5) ∧ W'.cell? ⟨B8, 1, none⟩ = some (.slice a5_ n5_ c5_) ∧ W'.cell? ⟨B8, 2, none⟩ = some (.slice p5_ m5_ k5_)) from fun W' hb =>
      ⟨(hb.cell (p := ⟨w.heap.size, 0, none⟩) z0).trans x0_0, (hb.cell (p := ⟨w.heap.size, 1, none⟩) z0).trans x0_1, (hb.cell (p := ⟨w.heap.size, 2, none⟩) z0).trans x0_2, (hb.cell (p := ⟨w.heap.size + 1, 0, none⟩) z1).trans x1_0, (hb.cell (p := ⟨w.heap.size + 1, 1, none⟩) z1).trans x1_1, (hb.cell (p := ⟨w.heap.size + 1, 2, none⟩) z1).trans x1_2, (hb.cell (p := ⟨w3.heap.size, 0, none⟩) z7).trans x7_0, (hb.cell (p := ⟨w3.heap.size, 1, none⟩) z7).trans x7_1, (hb.cell (p := ⟨w3.heap.size, 2, none⟩) z7).trans x7_2, (hb.cell (p := ⟨B8, 0, none⟩) z8).trans x8_0, (hb.cell (p := ⟨B8, 1, none⟩) z8).trans x8_1, (hb.cell (p := ⟨B8, 2, none⟩) z8).trans x8_2⟩)
    have HYwc := Lib.hid (show ∀ W', Below wc.heap.size wc W' → (W'.frozen? ⟨w.heap.size, 0, none⟩ = false ∧ W'.frozen? ⟨w.heap.size, 1, none⟩ = false ∧ W'.frozen? ⟨w.heap.size, 2, none⟩ = false ∧ W'.frozen? ⟨w.heap.size + 1, 0, none⟩ = false ∧ W'.frozen? ⟨w.heap.size + 1, 1, none⟩ = false ∧ W'.frozen? ⟨w.heap.size + 1, 2, none⟩ = false ∧ W'.frozen? ⟨w3.heap.size, 0, none⟩ = false ∧ W'.frozen? ⟨w3.heap.size, 1, none⟩ = false ∧ W'.frozen? ⟨w3.heap.size, 2, none⟩ = false ∧ W'.frozen? ⟨B8, 0, none⟩ = false ∧ W'.frozen? ⟨B8, 1, none⟩ = false ∧ W'.frozen? ⟨B8, 2, none⟩ = false) from fun W' hb =>
      ⟨(hb.frozen (p := ⟨w.heap.size, 0, none⟩) z0).trans y0_0, (hb.frozen (p := ⟨w.heap.size, 1, none⟩) z0).trans y0_1, (hb.frozen (p := ⟨w.heap.size, 2, none⟩) z0).trans y0_2, (hb.frozen (p := ⟨w.heap.size + 1, 0, none⟩) z1).trans y1_0, (hb.frozen (p := ⟨w.heap.size + 1, 1, none⟩) z1).trans y1_1, (hb.frozen (p := ⟨w.heap.size + 1, 2, none⟩) z1).trans y1_2, (hb.frozen (p := ⟨w3.heap.size, 0, none⟩) z7).trans y7_0, (hb.frozen (p := ⟨w3.heap.size, 1, none⟩) z7).trans y7_1, (hb.frozen (p := ⟨w3.heap.size, 2, none⟩) z7).trans y7_2, (hb.frozen (p := ⟨B8, 0, none⟩) z8).trans y8_0, (hb.frozen (p := ⟨B8, 1, none⟩) z8).trans y8_1, (hb.frozen (p := ⟨B8, 2, none⟩) z8).trans y8_2⟩)
    have HZwc := Lib.hid (show ∀ W', Below wc.heap.size wc W' → (w.heap.size < W'.heap.size ∧ w.heap.size + 1 < W'.heap.size ∧ w3.heap.size < W'.heap.size ∧ B8 < W'.heap.size) from fun W' hb =>
      ⟨Nat.lt_of_lt_of_le z0 hb.size, Nat.lt_of_lt_of_le z1 hb.size, Nat.lt_of_lt_of_le z7 hb.size, Nat.lt_of_lt_of_le z8 hb.size⟩)
    replace gb := Below.refl wc.heap.size wc
    go_wp2_with fail
    go_region_held3 (fun W' => W'.cell? ⟨w.heap.size, 0, none⟩ = some (.bool b0) ∧ W'.cell? ⟨w.heap.size, 1, none⟩ = some (.slice a0 n0 c0) ∧ W'.cell? ⟨w.heap.size, 2, none⟩ = some (.slice a1 n1 c1) ∧ W'.cell? ⟨w.heap.size + 1, 0, none⟩ = some (.bool b1) ∧ W'.cell? ⟨w.heap.size + 1, 1, none⟩ = some (.slice a2 n2 c2) ∧ W'.cell? ⟨w.heap.size + 1, 2, none⟩ = some (.slice a3 n3 c3) ∧ W'.cell? ⟨w3.heap.size, 0, none⟩ = some (.bool ng3) ∧ W'.cell? ⟨w3.heap.size, 1, none⟩ = some (.slice a3_ n3_ c3_) ∧ W'.cell? ⟨w3.heap.size, 2, none⟩ = some (.slice p3_ m3_ k3_) ∧ W'.cell? ⟨B8, 0, none⟩ = some (.bool ng5) ∧ W'.cell? ⟨B8, 1, none⟩ = some (.slice a5_ n5_ c5_) ∧ W'.cell? ⟨B8, 2, none⟩ = some (.slice p5_ m5_ k5_)) (first | (with_reducible exact ⟨x0_0, x0_1, x0_2, x1_0, x1_1, x1_2, x7_0, x7_1, x7_2, x8_0, x8_1, x8_2⟩) | exact ⟨x0_0, x0_1, x0_2, x1_0, x1_1, x1_2, x7_0, x7_1, x7_2, x8_0, x8_1, x8_2⟩) (first
      | (go_at_call 35; (with_reducible refine (ratio_same _ _ _ _ _ _ _ _ _ _ _ (i1.to gb) g8.isQ true HB1 HBZ).mono ?_); rintro e w9 ⟨rfl, hb9⟩; have g8 := g8.to hb9; have gb := below_step gb hb9; obtain ⟨x0_0, x0_1, x0_2, x1_0, x1_1, x1_2, x7_0, x7_1, x7_2, x8_0, x8_1, x8_2⟩ := HXwc.out _ gb; obtain ⟨y0_0, y0_1, y0_2, y1_0, y1_1, y1_2, y7_0, y7_1, y7_2, y8_0, y8_1, y8_2⟩ := HYwc.out _ gb; obtain ⟨z0, z1, z7, z8⟩ := HZwc.out _ gb)
      | (go_at_call 30; have gb := gb.drew; (with_reducible refine (ratio_of_int 0 0 _ rfl (by omega) (by omega)).mono ?_); rintro e w8 ⟨ng8, a8_, n8_, c8_, p8_, m8_, k8_, rfl, g8, hb8⟩; have gb := below_step gb hb8; obtain ⟨x0_0, x0_1, x0_2, x1_0, x1_1, x1_2, x7_0, x7_1, x7_2, x8_0, x8_1, x8_2⟩ := HXwc.out _ gb; obtain ⟨y0_0, y0_1, y0_2, y1_0, y1_1, y1_2, y7_0, y7_1, y7_2, y8_0, y8_1, y8_2⟩ := HYwc.out _ gb; obtain ⟨z0, z1, z7, z8⟩ := HZwc.out _ gb))
    go_wp2_with fail
    go_region_held3 (fun W' => W'.cell? ⟨w.heap.size, 0, none⟩ = some (.bool b0) ∧ W'.cell? ⟨w.heap.size, 1, none⟩ = some (.slice a0 n0 c0) ∧ W'.cell? ⟨w.heap.size, 2, none⟩ = some (.slice a1 n1 c1) ∧ W'.cell? ⟨w.heap.size + 1, 0, none⟩ = some (.bool b1) ∧ W'.cell? ⟨w.heap.size + 1, 1, none⟩ = some (.slice a2 n2 c2) ∧ W'.cell? ⟨w.heap.size + 1, 2, none⟩ = some (.slice a3 n3 c3) ∧ W'.cell? ⟨w3.heap.size, 0, none⟩ = some (.bool ng3) ∧ W'.cell? ⟨w3.heap.size, 1, none⟩ = some (.slice a3_ n3_ c3_) ∧ W'.cell? ⟨w3.heap.size, 2, none⟩ = some (.slice p3_ m3_ k3_) ∧ W'.cell? ⟨B8, 0, none⟩ = some (.bool ng5) ∧ W'.cell? ⟨B8, 1, none⟩ = some (.slice a5_ n5_ c5_) ∧ W'.cell? ⟨B8, 2, none⟩ = some (.slice p5_ m5_ k5_)) (first | (with_reducible exact ⟨x0_0, x0_1, x0_2, x1_0, x1_1, x1_2, x7_0, x7_1, x7_2, x8_0, x8_1, x8_2⟩) | exact ⟨x0_0, x0_1, x0_2, x1_0, x1_1, x1_2, x7_0, x7_1, x7_2, x8_0, x8_1, x8_2⟩) (first
      | (go_at_call 35; (with_reducible refine (ratio_same _ _ _ _ _ _ _ _ _ _ _ (i0.to gb) (g3.to gb).isQ true (Lib.hid (HSA.out _ rfl)) (Lib.hid (HAA.out _ rfl))).mono ?_); rintro e w24 ⟨rfl, hb24⟩; have g8 := g8.to hb24; have gb := below_step gb hb24; obtain ⟨x0_0, x0_1, x0_2, x1_0, x1_1, x1_2, x7_0, x7_1, x7_2, x8_0, x8_1, x8_2⟩ := HXwc.out _ gb; obtain ⟨y0_0, y0_1, y0_2, y1_0, y1_1, y1_2, y7_0, y7_1, y7_2, y8_0, y8_1, y8_2⟩ := HYwc.out _ gb; obtain ⟨z0, z1, z7, z8⟩ := HZwc.out _ gb)
      | (go_at_call 15; (with_reducible refine (ref8_equal _ _ _ _ _ _ _ _ _ _ _ (g3.to gb).isF (i0.to gb).isF o (HRI.out _ g3.ng)).mono ?_); rintro e w23 ⟨rfl, hb23⟩; have g8 := g8.to hb23; have gb := below_step gb hb23; obtain ⟨x0_0, x0_1, x0_2, x1_0, x1_1, x1_2, x7_0, x7_1, x7_2, x8_0, x8_1, x8_2⟩ := HXwc.out _ gb; obtain ⟨y0_0, y0_1, y0_2, y1_0, y1_1, y1_2, y7_0, y7_1, y7_2, y8_0, y8_1, y8_2⟩ := HYwc.out _ gb; obtain ⟨z0, z1, z7, z8⟩ := HZwc.out _ gb)
      | (go_at_call 25; (with_reducible refine (ratio_right _ _ _ _ _ _ (i0.to gb) o HO.out).mono ?_); rintro e w22 ⟨rfl, hb22⟩; have g8 := g8.to hb22; have gb := below_step gb hb22; obtain ⟨x0_0, x0_1, x0_2, x1_0, x1_1, x1_2, x7_0, x7_1, x7_2, x8_0, x8_1, x8_2⟩ := HXwc.out _ gb; obtain ⟨y0_0, y0_1, y0_2, y1_0, y1_1, y1_2, y7_0, y7_1, y7_2, y8_0, y8_1, y8_2⟩ := HYwc.out _ gb; obtain ⟨z0, z1, z7, z8⟩ := HZwc.out _ gb)
      | (go_at_call 25; (with_reducible refine (ratio_right_can _ _ _ _ (g3.to gb)).mono ?_); rintro e w21 ⟨rfl, hb21⟩; have g8 := g8.to hb21; have gb := below_step gb hb21; obtain ⟨x0_0, x0_1, x0_2, x1_0, x1_1, x1_2, x7_0, x7_1, x7_2, x8_0, x8_1, x8_2⟩ := HXwc.out _ gb; obtain ⟨y0_0, y0_1, y0_2, y1_0, y1_1, y1_2, y7_0, y7_1, y7_2, y8_0, y8_1, y8_2⟩ := HYwc.out _ gb; obtain ⟨z0, z1, z7, z8⟩ := HZwc.out _ gb)
      | (go_at_call 15; have g8 := g8.drew; have gb := gb.drew; (with_reducible refine (equal_q _ (g5.to gb) (g3.to gb)).mono ?_); rintro e w20 ⟨rfl, hb20⟩; have g8 := g8.to hb20; have gb := below_step gb hb20; obtain ⟨x0_0, x0_1, x0_2, x1_0, x1_1, x1_2, x7_0, x7_1, x7_2, x8_0, x8_1, x8_2⟩ := HXwc.out _ gb; obtain ⟨y0_0, y0_1, y0_2, y1_0, y1_1, y1_2, y7_0, y7_1, y7_2, y8_0, y8_1, y8_2⟩ := HYwc.out _ gb; obtain ⟨z0, z1, z7, z8⟩ := HZwc.out _ gb))
    go_wp2_with fail
    go_ret
    exact ⟨by first | rfl | exact ret_bool (by simp), below_step zb gb⟩
  · have HB0 := Lib.hid hB
    have HB1 := Lib.hid (show decide (B = (((0 : Int) : Rat))) = false from decide_eq_false hB)
    have HKD := Lib.hid (show A * B / B = A by grind)
    clear hB
    have hgb := gb
    go_upto_region 7 with fail
    go_cut [9, 10] from 27 (fun s9 s10 wx => BoxQ wc (A) s9 wx ∧ s10 = .int .i64 0)
    case first =>
      go_region_held3 (fun W' => W'.cell? ⟨w.heap.size, 0, none⟩ = some (.bool b0) ∧ W'.cell? ⟨w.heap.size, 1, none⟩ = some (.slice a0 n0 c0) ∧ W'.cell? ⟨w.heap.size, 2, none⟩ = some (.slice a1 n1 c1) ∧ W'.cell? ⟨w.heap.size + 1, 0, none⟩ = some (.bool b1) ∧ W'.cell? ⟨w.heap.size + 1, 1, none⟩ = some (.slice a2 n2 c2) ∧ W'.cell? ⟨w.heap.size + 1, 2, none⟩ = some (.slice a3 n3 c3) ∧ W'.cell? ⟨w3.heap.size, 0, none⟩ = some (.bool ng3) ∧ W'.cell? ⟨w3.heap.size, 1, none⟩ = some (.slice a3_ n3_ c3_) ∧ W'.cell? ⟨w3.heap.size, 2, none⟩ = some (.slice p3_ m3_ k3_) ∧ W'.cell? ⟨B8, 0, none⟩ = some (.bool ng5) ∧ W'.cell? ⟨B8, 1, none⟩ = some (.slice a5_ n5_ c5_) ∧ W'.cell? ⟨B8, 2, none⟩ = some (.slice p5_ m5_ k5_)) (first | (with_reducible exact HXwc.out _ gb) | ((with_reducible refine HXwc.out _ ?_); first | ((with_reducible refine Below.drew ?_); first | (with_reducible exact gb) | ((with_reducible refine below_set3 ?_ ?_ _ _ _); rotate_left; (first | (with_reducible exact et6_R_0) | (with_reducible exact et7_R_0)); with_reducible exact gb) | ((with_reducible refine below_step ?_ (below_new _ _)); with_reducible exact gb)) | (first | (with_reducible exact gb) | ((with_reducible refine below_set3 ?_ ?_ _ _ _); rotate_left; (first | (with_reducible exact et6_R_0) | (with_reducible exact et7_R_0)); first | (with_reducible exact gb) | ((with_reducible refine below_set3 ?_ ?_ _ _ _); rotate_left; (first | (with_reducible exact et6_R_0) | (with_reducible exact et7_R_0)); with_reducible exact gb) | ((with_reducible refine below_step ?_ (below_new _ _)); with_reducible exact gb)) | ((with_reducible refine below_step ?_ (below_new _ _)); first | (with_reducible exact gb) | ((with_reducible refine below_set3 ?_ ?_ _ _ _); rotate_left; (first | (with_reducible exact et6_R_0) | (with_reducible exact et7_R_0)); with_reducible exact gb) | ((with_reducible refine below_step ?_ (below_new _ _)); with_reducible exact gb))))) (first
        | (go_at_call 32; (refine calls_gen w6 (by first | with_reducible exact Below.refl _ _ | with_reducible exact below_new _ _) ?_); intro V7 hV7 hbV7; have hsV7 := hbV7.size; have hu7 := gb.size; have g6 := g6.to hbV7; have gb := below_step gb hbV7; (try have t6_R_0 := t6_R_0.to hbV7); (try have t7_R_0 : Tri V7 (w6.heap.size) (.bool false) (.slice none 0 0) (.slice none 0 0) := (by rw [hV7]; first | with_reducible exact tri_new _ (.bool false) (.slice none 0 0) (.slice none 0 0) _ | with_reducible exact (tri_new _ (.bool false) (.slice none 0 0) (.slice none 0 0) _).alloc _)); have et7_R_0 : wc.heap.size ≤ w6.heap.size := (hu7); (try have vt6_R_0_7 := t6_R_0.lt); (try have vt7_R_0_7 := t7_R_0.lt); (with_reducible refine (ratio_div _ _ _ _ _ _ _ _ _ _ _ g6.isQ (i1.to gb) HB0.out A HKD.out HCA).mono ?_); rintro e w7 ⟨ng7, a7_, n7_, c7_, p7_, m7_, k7_, rfl, g7, hb7⟩; have g6 := g6.to hb7; have gb := below_step gb hb7; have hs7 := hb7.size; (try have t6_R_0 := t6_R_0.to hb7); (try have t7_R_0 := t7_R_0.to hb7); (try have lt6_R_0_7 := t6_R_0.lt); (try have lt7_R_0_7 := t7_R_0.lt); (try (have qt6_R_0 := t6_R_0; obtain ⟨rt6_R_00, rt6_R_01, rt6_R_02, st6_R_00, st6_R_01, st6_R_02⟩ := qt6_R_0)); (try (have qt7_R_0 := t7_R_0; obtain ⟨rt7_R_00, rt7_R_01, rt7_R_02, st7_R_00, st7_R_01, st7_R_02⟩ := qt7_R_0)))
        | (go_at_call 20; (refine calls_gen wc (by first | with_reducible exact (Below.refl _ _).drew | with_reducible exact (below_new _ _).drew) ?_); intro V6 hV6 hbV6; have hsV6 := hbV6.size; have hu6 := gb.size; have gb := below_step gb hbV6; (try have t6_R_0 : Tri V6 (wc.heap.size) (.bool false) (.slice none 0 0) (.slice none 0 0) := (by rw [hV6]; first | with_reducible exact (tri_new _ (.bool false) (.slice none 0 0) (.slice none 0 0) _).drew | with_reducible exact ((tri_new _ (.bool false) (.slice none 0 0) (.slice none 0 0) _).alloc _).drew)); have et6_R_0 : wc.heap.size ≤ wc.heap.size := (hu6); (try have vt6_R_0_6 := t6_R_0.lt); (with_reducible refine (ratio_mul _ _ _ _ _ _ _ _ _ _ _ (i0.to gb) (i1.to gb) (A * B) rfl HC11).mono ?_); rintro e w6 ⟨ng6, a6_, n6_, c6_, p6_, m6_, k6_, rfl, g6, hb6⟩; have gb := below_step gb hb6; have hs6 := hb6.size; (try have t6_R_0 := t6_R_0.to hb6); (try have lt6_R_0_6 := t6_R_0.lt); (try (have qt6_R_0 := t6_R_0; obtain ⟨rt6_R_00, rt6_R_01, rt6_R_02, st6_R_00, st6_R_01, st6_R_02⟩ := qt6_R_0))))
      all_goals (go_wp2_with fail; go_meet)
      all_goals refine ⟨?_, rfl⟩
      all_goals first
        | (with_reducible exact boxQ_old t6_R_0 g7 (.inl vt6_R_0_7) gb et6_R_0)
        | (with_reducible exact boxQ_old t7_R_0 g7 (.inl vt7_R_0_7) gb et7_R_0)
        | (with_reducible exact boxQ_new g7 gb)
    case rest =>
    obtain ⟨⟨B9, ng7, a7_, n7_, c7_, p7_, m7_, k7_, lo9, hi9, rfl, hB9, T9, g7, hc9⟩, rfl⟩ := hcut
    clear x0_0 y0_0 x0_1 y0_1 x0_2 y0_2 x1_0 y1_0 x1_1 y1_1 x1_2 y1_2 x7_0 y7_0 x7_1 y7_1 x7_2 y7_2 x8_0 y8_0 x8_1 y8_1 x8_2 y8_2
    have gb := hc9
    obtain ⟨x0_0, x0_1, x0_2, x1_0, x1_1, x1_2, x7_0, x7_1, x7_2, x8_0, x8_1, x8_2⟩ := HXwc.out _ gb
    obtain ⟨y0_0, y0_1, y0_2, y1_0, y1_1, y1_2, y7_0, y7_1, y7_2, y8_0, y8_1, y8_2⟩ := HYwc.out _ gb
    obtain ⟨z0, z1, z7, z8⟩ := HZwc.out _ gb
    have z9 := T9.lt
    obtain ⟨x9_0, x9_1, x9_2, y9_0, y9_1, y9_2⟩ := T9
    clear hgb
    obtain ⟨W7, hW7⟩ : ∃ W, wc = W := ⟨_, rfl⟩
    subst hW7
    replace i0 := i0.to gb
    replace i1 := i1.to gb
    replace g3 := g3.to gb
    replace g5 := g5.to gb
    replace zb := below_step zb gb
    have HXwc := Lib.hid (show ∀ W', Below wc.heap.size wc W' → (W'.cell? ⟨w.heap.size, 0, none⟩ = some (.bool b0) ∧ W'.cell? ⟨w.heap.size, 1, none⟩ = some (.slice a0 n0 c0) ∧ W'.cell? ⟨w.heap.size, 2, none⟩ = some (.slice a1 n1 c1) ∧ W'.cell? ⟨w.heap.size + 1, 0, none⟩ = some (.bool b1) ∧ W'.cell? ⟨w.heap.size + 1, 1, none⟩ = some (.slice a2 n2 c2) ∧ W'.cell? ⟨w.heap.size + 1, 2, none⟩ = some (.slice a3 n3 c3) ∧ W'.cell? ⟨w3.heap.size, 0, none⟩ = some (.bool ng3) ∧ W'.cell? ⟨w3.heap.size, 1, none⟩ = some (.slice a3_ n3_ c3_) ∧ W'.cell? ⟨w3.heap.size, 2, none⟩ = some (.slice p3_ m3_ k3_) ∧ W'.cell? ⟨B8, 0, none⟩ = some (.bool ng5) ∧ W'.cell? ⟨B8, 1, none⟩ = some (.slice a5_ n5_ c5_) ∧ W'.cell? ⟨B8, 2, none⟩ = some (.slice p5_ m5_ k5_) ∧ W'.cell? ⟨B9, 0, none⟩ = some (.bool ng7) ∧ W'.cell? ⟨B9, 1, none⟩ = some (.slice a7_ n7_ c7_) ∧ W'.cell? ⟨B9, 2, none⟩ = some (.slice p7_ m7_ k7_)) from fun W' hb =>
      ⟨(hb.cell (p := ⟨w.heap.size, 0, none⟩) z0).trans x0_0, (hb.cell (p := ⟨w.heap.size, 1, none⟩) z0).trans x0_1, (hb.cell (p := ⟨w.heap.size, 2, none⟩) z0).trans x0_2, (hb.cell (p := ⟨w.heap.size + 1, 0, none⟩) z1).trans x1_0, (hb.cell (p := ⟨w.heap.size + 1, 1, none⟩) z1).trans x1_1, (hb.cell (p := ⟨w.heap.size + 1, 2, none⟩) z1).trans x1_2, (hb.cell (p := ⟨w3.heap.size, 0, none⟩) z7).trans x7_0, (hb.cell (p := ⟨w3.heap.size, 1, none⟩) z7).trans x7_1, (hb.cell (p := ⟨w3.heap.size, 2, none⟩) z7).trans x7_2, (hb.cell (p := ⟨B8, 0, none⟩) z8).trans x8_0, (hb.cell (p := ⟨B8, 1, none⟩) z8).trans x8_1, (hb.cell (p := ⟨B8, 2, none⟩) z8).trans x8_2, (hb.cell (p := ⟨B9, 0, none⟩) z9).trans x9_0, (hb.cell (p := ⟨B9, 1, none⟩) z9).trans x9_1, (hb.cell (p := ⟨B9, 2, none⟩) z9).trans x9_2⟩)
    have HYwc := Lib.hid (show ∀ W', Below wc.heap.size wc W' → (W'.frozen? ⟨w.heap.size, 0, none⟩ = false ∧ W'.frozen? ⟨w.heap.size, 1, none⟩ = false ∧ W'.frozen? ⟨w.heap.size, 2, none⟩ = false ∧ W'.frozen? ⟨w.heap.size + 1, 0, none⟩ = false ∧ W'.frozen? ⟨w.heap.size + 1, 1, none⟩ = false ∧ W'.frozen? ⟨w.heap.size + 1, 2, none⟩ = false ∧ W'.frozen? ⟨w3.heap.size, 0, none⟩ = false ∧ W'.frozen? ⟨w3.heap.size, 1, none⟩ = false ∧ W'.frozen? ⟨w3.heap.size, 2, none⟩ = false ∧ W'.frozen? ⟨B8, 0, none⟩ = false ∧ W'.frozen? ⟨B8, 1, none⟩ = false ∧ W'.frozen? ⟨B8, 2, none⟩ = false ∧ W'.frozen? ⟨B9, 0, none⟩ = false ∧ W'.frozen? ⟨B9, 1, none⟩ = false ∧ W'.frozen? ⟨B9, 2, none⟩ = false) from fun W' hb =>
      ⟨(hb.frozen (p := ⟨w.heap.size, 0, none⟩) z0).trans y0_0, (hb.frozen (p := ⟨w.heap.size, 1, none⟩) z0).trans y0_1, (hb.frozen (p := ⟨w.heap.size, 2, none⟩) z0).trans y0_2, (hb.frozen (p := ⟨w.heap.size + 1, 0, none⟩) z1).trans y1_0, (hb.frozen (p := ⟨w.heap.size + 1, 1, none⟩) z1).trans y1_1, (hb.frozen (p := ⟨w.heap.size + 1, 2, none⟩) z1).trans y1_2, (hb.frozen (p := ⟨w3.heap.size, 0, none⟩) z7).trans y7_0, (hb.frozen (p := ⟨w3.heap.size, 1, none⟩) z7).trans y7_1, (hb.frozen (p := ⟨w3.heap.size, 2, none⟩) z7).trans y7_2, (hb.frozen (p := ⟨B8, 0, none⟩) z8).trans y8_0, (hb.frozen (p := ⟨B8, 1, none⟩) z8).trans y8_1, (hb.frozen (p := ⟨B8, 2, none⟩) z8).trans y8_2, (hb.frozen (p := ⟨B9, 0, none⟩) z9).trans y9_0, (hb.frozen (p := ⟨B9, 1, none⟩) z9).trans y9_1, (hb.frozen (p := ⟨B9, 2, none⟩) z9).trans y9_2⟩)
    have HZwc := Lib.hid (show ∀ W', Below wc.heap.size wc W' → (w.heap.size < W'.heap.size ∧ w.heap.size + 1 < W'.heap.size ∧ w3.heap.size < W'.heap.size ∧ B8 < W'.heap.size ∧ B9 < W'.heap.size) from fun W' hb =>
      ⟨Nat.lt_of_lt_of_le z0 hb.size, Nat.lt_of_lt_of_le z1 hb.size, Nat.lt_of_lt_of_le z7 hb.size, Nat.lt_of_lt_of_le z8 hb.size, Nat.lt_of_lt_of_le z9 hb.size⟩)
    replace gb := Below.refl wc.heap.size wc
    go_wp2_with fail
    go_region_held3 (fun W' => W'.cell? ⟨w.heap.size, 0, none⟩ = some (.bool b0) ∧ W'.cell? ⟨w.heap.size, 1, none⟩ = some (.slice a0 n0 c0) ∧ W'.cell? ⟨w.heap.size, 2, none⟩ = some (.slice a1 n1 c1) ∧ W'.cell? ⟨w.heap.size + 1, 0, none⟩ = some (.bool b1) ∧ W'.cell? ⟨w.heap.size + 1, 1, none⟩ = some (.slice a2 n2 c2) ∧ W'.cell? ⟨w.heap.size + 1, 2, none⟩ = some (.slice a3 n3 c3) ∧ W'.cell? ⟨w3.heap.size, 0, none⟩ = some (.bool ng3) ∧ W'.cell? ⟨w3.heap.size, 1, none⟩ = some (.slice a3_ n3_ c3_) ∧ W'.cell? ⟨w3.heap.size, 2, none⟩ = some (.slice p3_ m3_ k3_) ∧ W'.cell? ⟨B8, 0, none⟩ = some (.bool ng5) ∧ W'.cell? ⟨B8, 1, none⟩ = some (.slice a5_ n5_ c5_) ∧ W'.cell? ⟨B8, 2, none⟩ = some (.slice p5_ m5_ k5_) ∧ W'.cell? ⟨B9, 0, none⟩ = some (.bool ng7) ∧ W'.cell? ⟨B9, 1, none⟩ = some (.slice a7_ n7_ c7_) ∧ W'.cell? ⟨B9, 2, none⟩ = some (.slice p7_ m7_ k7_)) (first | (with_reducible exact ⟨x0_0, x0_1, x0_2, x1_0, x1_1, x1_2, x7_0, x7_1, x7_2, x8_0, x8_1, x8_2, x9_0, x9_1, x9_2⟩) | exact ⟨x0_0, x0_1, x0_2, x1_0, x1_1, x1_2, x7_0, x7_1, x7_2, x8_0, x8_1, x8_2, x9_0, x9_1, x9_2⟩) (first
      | (go_at_call 35; (with_reducible refine (ratio_same _ _ _ _ _ _ _ _ _ _ _ (i1.to gb) g8.isQ false HB1 HBZ).mono ?_); rintro e w9 ⟨rfl, hb9⟩; have g8 := g8.to hb9; have gb := below_step gb hb9; obtain ⟨x0_0, x0_1, x0_2, x1_0, x1_1, x1_2, x7_0, x7_1, x7_2, x8_0, x8_1, x8_2, x9_0, x9_1, x9_2⟩ := HXwc.out _ gb; obtain ⟨y0_0, y0_1, y0_2, y1_0, y1_1, y1_2, y7_0, y7_1, y7_2, y8_0, y8_1, y8_2, y9_0, y9_1, y9_2⟩ := HYwc.out _ gb; obtain ⟨z0, z1, z7, z8, z9⟩ := HZwc.out _ gb)
      | (go_at_call 30; have gb := gb.drew; (with_reducible refine (ratio_of_int 0 0 _ rfl (by omega) (by omega)).mono ?_); rintro e w8 ⟨ng8, a8_, n8_, c8_, p8_, m8_, k8_, rfl, g8, hb8⟩; have gb := below_step gb hb8; obtain ⟨x0_0, x0_1, x0_2, x1_0, x1_1, x1_2, x7_0, x7_1, x7_2, x8_0, x8_1, x8_2, x9_0, x9_1, x9_2⟩ := HXwc.out _ gb; obtain ⟨y0_0, y0_1, y0_2, y1_0, y1_1, y1_2, y7_0, y7_1, y7_2, y8_0, y8_1, y8_2, y9_0, y9_1, y9_2⟩ := HYwc.out _ gb; obtain ⟨z0, z1, z7, z8, z9⟩ := HZwc.out _ gb))
    go_wp2_with fail
    refine (equal_q _ (g7.to gb) (g3.to gb)).mono ?_
    clear x0_0 y0_0 x0_1 y0_1 x0_2 y0_2 x1_0 y1_0 x1_1 y1_1 x1_2 y1_2 x7_0 y7_0 x7_1 y7_1 x7_2 y7_2 x8_0 y8_0 x8_1 y8_1 x8_2 y8_2 x9_0 y9_0 x9_1 y9_1 x9_2 y9_2
    rintro e w10 ⟨rfl, hb10⟩
    replace g8 := g8.to hb10
    replace gb := below_step gb hb10
    obtain ⟨x0_0, x0_1, x0_2, x1_0, x1_1, x1_2, x7_0, x7_1, x7_2, x8_0, x8_1, x8_2, x9_0, x9_1, x9_2⟩ := HXwc.out _ gb
    obtain ⟨y0_0, y0_1, y0_2, y1_0, y1_1, y1_2, y7_0, y7_1, y7_2, y8_0, y8_1, y8_2, y9_0, y9_1, y9_2⟩ := HYwc.out _ gb
    obtain ⟨z0, z1, z7, z8, z9⟩ := HZwc.out _ gb
    go_wp2_with fail
    go_region_held3 (fun W' => W'.cell? ⟨w.heap.size, 0, none⟩ = some (.bool b0) ∧ W'.cell? ⟨w.heap.size, 1, none⟩ = some (.slice a0 n0 c0) ∧ W'.cell? ⟨w.heap.size, 2, none⟩ = some (.slice a1 n1 c1) ∧ W'.cell? ⟨w.heap.size + 1, 0, none⟩ = some (.bool b1) ∧ W'.cell? ⟨w.heap.size + 1, 1, none⟩ = some (.slice a2 n2 c2) ∧ W'.cell? ⟨w.heap.size + 1, 2, none⟩ = some (.slice a3 n3 c3) ∧ W'.cell? ⟨w3.heap.size, 0, none⟩ = some (.bool ng3) ∧ W'.cell? ⟨w3.heap.size, 1, none⟩ = some (.slice a3_ n3_ c3_) ∧ W'.cell? ⟨w3.heap.size, 2, none⟩ = some (.slice p3_ m3_ k3_) ∧ W'.cell? ⟨B8, 0, none⟩ = some (.bool ng5) ∧ W'.cell? ⟨B8, 1, none⟩ = some (.slice a5_ n5_ c5_) ∧ W'.cell? ⟨B8, 2, none⟩ = some (.slice p5_ m5_ k5_) ∧ W'.cell? ⟨B9, 0, none⟩ = some (.bool ng7) ∧ W'.cell? ⟨B9, 1, none⟩ = some (.slice a7_ n7_ c7_) ∧ W'.cell? ⟨B9, 2, none⟩ = some (.slice p7_ m7_ k7_)) (first | (with_reducible exact ⟨x0_0, x0_1, x0_2, x1_0, x1_1, x1_2, x7_0, x7_1, x7_2, x8_0, x8_1, x8_2, x9_0, x9_1, x9_2⟩) | exact ⟨x0_0, x0_1, x0_2, x1_0, x1_1, x1_2, x7_0, x7_1, x7_2, x8_0, x8_1, x8_2, x9_0, x9_1, x9_2⟩) (first
      | (go_at_call 35; (with_reducible refine (ratio_same _ _ _ _ _ _ _ _ _ _ _ (i0.to gb) (g3.to gb).isQ true (Lib.hid (HSA.out _ rfl)) (Lib.hid (HAA.out _ rfl))).mono ?_); rintro e w24 ⟨rfl, hb24⟩; have g8 := g8.to hb24; have gb := below_step gb hb24; obtain ⟨x0_0, x0_1, x0_2, x1_0, x1_1, x1_2, x7_0, x7_1, x7_2, x8_0, x8_1, x8_2, x9_0, x9_1, x9_2⟩ := HXwc.out _ gb; obtain ⟨y0_0, y0_1, y0_2, y1_0, y1_1, y1_2, y7_0, y7_1, y7_2, y8_0, y8_1, y8_2, y9_0, y9_1, y9_2⟩ := HYwc.out _ gb; obtain ⟨z0, z1, z7, z8, z9⟩ := HZwc.out _ gb)
      | (go_at_call 15; (with_reducible refine (ref8_equal _ _ _ _ _ _ _ _ _ _ _ (g3.to gb).isF (i0.to gb).isF o (HRI.out _ g3.ng)).mono ?_); rintro e w23 ⟨rfl, hb23⟩; have g8 := g8.to hb23; have gb := below_step gb hb23; obtain ⟨x0_0, x0_1, x0_2, x1_0, x1_1, x1_2, x7_0, x7_1, x7_2, x8_0, x8_1, x8_2, x9_0, x9_1, x9_2⟩ := HXwc.out _ gb; obtain ⟨y0_0, y0_1, y0_2, y1_0, y1_1, y1_2, y7_0, y7_1, y7_2, y8_0, y8_1, y8_2, y9_0, y9_1, y9_2⟩ := HYwc.out _ gb; obtain ⟨z0, z1, z7, z8, z9⟩ := HZwc.out _ gb)
      | (go_at_call 25; (with_reducible refine (ratio_right _ _ _ _ _ _ (i0.to gb) o HO.out).mono ?_); rintro e w22 ⟨rfl, hb22⟩; have g8 := g8.to hb22; have gb := below_step gb hb22; obtain ⟨x0_0, x0_1, x0_2, x1_0, x1_1, x1_2, x7_0, x7_1, x7_2, x8_0, x8_1, x8_2, x9_0, x9_1, x9_2⟩ := HXwc.out _ gb; obtain ⟨y0_0, y0_1, y0_2, y1_0, y1_1, y1_2, y7_0, y7_1, y7_2, y8_0, y8_1, y8_2, y9_0, y9_1, y9_2⟩ := HYwc.out _ gb; obtain ⟨z0, z1, z7, z8, z9⟩ := HZwc.out _ gb)
      | (go_at_call 25; (with_reducible refine (ratio_right_can _ _ _ _ (g3.to gb)).mono ?_); rintro e w21 ⟨rfl, hb21⟩; have g8 := g8.to hb21; have gb := below_step gb hb21; obtain ⟨x0_0, x0_1, x0_2, x1_0, x1_1, x1_2, x7_0, x7_1, x7_2, x8_0, x8_1, x8_2, x9_0, x9_1, x9_2⟩ := HXwc.out _ gb; obtain ⟨y0_0, y0_1, y0_2, y1_0, y1_1, y1_2, y7_0, y7_1, y7_2, y8_0, y8_1, y8_2, y9_0, y9_1, y9_2⟩ := HYwc.out _ gb; obtain ⟨z0, z1, z7, z8, z9⟩ := HZwc.out _ gb)
      | (go_at_call 15; have g8 := g8.drew; have gb := gb.drew; (with_reducible refine (equal_q _ (g5.to gb) (g3.to gb)).mono ?_); rintro e w20 ⟨rfl, hb20⟩; have g8 := g8.to hb20; have gb := below_step gb hb20; obtain ⟨x0_0, x0_1, x0_2, x1_0, x1_1, x1_2, x7_0, x7_1, x7_2, x8_0, x8_1, x8_2, x9_0, x9_1, x9_2⟩ := HXwc.out _ gb; obtain ⟨y0_0, y0_1, y0_2, y1_0, y1_1, y1_2, y7_0, y7_1, y7_2, y8_0, y8_1, y8_2, y9_0, y9_1, y9_2⟩ := HYwc.out _ gb; obtain ⟨z0, z1, z7, z8, z9⟩ := HZwc.out _ gb))
    go_wp2_with fail
    go_ret
    exact ⟨by first | rfl | exact ret_bool (by simp), below_step zb gb⟩

end Go.Proofs.Ytmjnlpanlgmdmaa

