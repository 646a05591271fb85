/-
  The walks of the laws of layer 8.
-/
import Derived.Test.YtmjnlpanlgmdmaaG12
import Derived.Test.YtmjnlpanlgmdmaaG21
import Derived.Test.YtmjnlpanlgmdmaaG20
import Derived.Test.YtmjnlpanlgmdmaaG05
import Derived.Deep.RegionHeld3
import Derived.Deep.Cut
import Derived.Deep.DrawnRows
import Derived.Laws.EntriesVeiled
namespace Go.Proofs.Ytmjnlpanlgmdmaa
open Go.RowKit Tw
set_option linter.unusedVariables false
set_option linter.unusedSimpArgs false
attribute [local go_sem ↓] Go.wp_at_zero Go.wp_at_succ

set_option maxRecDepth 100000 in
set_option maxHeartbeats 60000000 in
theorem walk_RatioBetween (b0 : Bool) (v0 : Value) (l0 : List Nat) (u0 : Value) (m0 : List Nat) (b1 : Bool) (v1 : Value) (l1 : List Nat) (u1 : Value) (m1 : List Nat) (b2 : Bool) (v2 : Value) (l2 : List Nat) (u2 : Value) (m2 : List Nat) (w : World) (hn0 : Rd w v0 l0) (hd0 : Rd w u0 m0) (hn1 : Rd w v1 l1) (hd1 : Rd w u1 m1) (hn2 : Rd w v2 l2) (hd2 : Rd w u2 m2) :
    Calls Try.prog 8 #[aggR b0 v0 u0, aggR b1 v1 u1, aggR b2 v2 u2] w (Holds w) := by
  have h0 : IsF w v0 u0 l0 m0 := ⟨hn0, hd0⟩
  clear hn0 hd0
  have h1 : IsF w v1 u1 l1 m1 := ⟨hn1, hd1⟩
  clear hn1 hd1
  have h2 : IsF w v2 u2 l2 m2 := ⟨hn2, hd2⟩
  clear hn2 hd2
  obtain ⟨a0, n0, c0, rfl, H0, hm0⟩ := h0.1.open
  obtain ⟨a1, n1, c1, rfl, H1, hm1⟩ := h0.2.open
  obtain ⟨a2, n2, c2, rfl, H2, hm2⟩ := h1.1.open
  obtain ⟨a3, n3, c3, rfl, H3, hm3⟩ := h1.2.open
  obtain ⟨a4, n4, c4, rfl, H4, hm4⟩ := h2.1.open
  obtain ⟨a5, n5, c5, rfl, H5, hm5⟩ := h2.2.open
  by_cases hf : n0 ≤ 4 ∧ n1 ≤ 4 ∧ n2 ≤ 4 ∧ n3 ≤ 4 ∧ n4 ≤ 4 ∧ n5 ≤ 4
  rotate_left
  · skip
    go_enter Try.func8, Try.ntmps8
    go_wp2_with fail
    obtain ⟨W0, hW0⟩ : ∃ W0, ((w.alloc (.cells #[.bool b0, .slice a0 n0 c0, .slice a1 n1 c1] 24)).alloc (.cells #[.bool b1, .slice a2 n2 c2, .slice a3 n3 c3] 24)).alloc (.cells #[.bool b2, .slice a4 n4 c4, .slice a5 n5 c5] 24) = W0 := ⟨_, rfl⟩
    have HXW0 := Lib.hid (show ∀ W', Below W0.heap.size W0 W' → (W'.cell? ⟨w.heap.size, 0, none⟩ = some (.bool b0) ∧ W'.cell? ⟨w.heap.size, 1, none⟩ = some (.slice a0 n0 c0) ∧ W'.cell? ⟨w.heap.size, 2, none⟩ = some (.slice a1 n1 c1) ∧ W'.cell? ⟨w.heap.size + 1, 0, none⟩ = some (.bool b1) ∧ W'.cell? ⟨w.heap.size + 1, 1, none⟩ = some (.slice a2 n2 c2) ∧ W'.cell? ⟨w.heap.size + 1, 2, none⟩ = some (.slice a3 n3 c3) ∧ W'.cell? ⟨w.heap.size + 1 + 1, 0, none⟩ = some (.bool b2) ∧ W'.cell? ⟨w.heap.size + 1 + 1, 1, none⟩ = some (.slice a4 n4 c4) ∧ W'.cell? ⟨w.heap.size + 1 + 1, 2, none⟩ = some (.slice a5 n5 c5)) from fun W' hb =>
      ⟨(hb.cell (p := ⟨w.heap.size, 0, none⟩) (by rw [← hW0]; simp <;> omega)).trans (by rw [← hW0]; simp [go_sem]), (hb.cell (p := ⟨w.heap.size, 1, none⟩) (by rw [← hW0]; simp <;> omega)).trans (by rw [← hW0]; simp [go_sem]), (hb.cell (p := ⟨w.heap.size, 2, none⟩) (by rw [← hW0]; simp <;> omega)).trans (by rw [← hW0]; simp [go_sem]), (hb.cell (p := ⟨w.heap.size + 1, 0, none⟩) (by rw [← hW0]; simp <;> omega)).trans (by rw [← hW0]; simp [go_sem]), (hb.cell (p := ⟨w.heap.size + 1, 1, none⟩) (by rw [← hW0]; simp <;> omega)).trans (by rw [← hW0]; simp [go_sem]), (hb.cell (p := ⟨w.heap.size + 1, 2, none⟩) (by rw [← hW0]; simp <;> omega)).trans (by rw [← hW0]; simp [go_sem]), (hb.cell (p := ⟨w.heap.size + 1 + 1, 0, none⟩) (by rw [← hW0]; simp <;> omega)).trans (by rw [← hW0]; simp [go_sem]), (hb.cell (p := ⟨w.heap.size + 1 + 1, 1, none⟩) (by rw [← hW0]; simp <;> omega)).trans (by rw [← hW0]; simp [go_sem]), (hb.cell (p := ⟨w.heap.size + 1 + 1, 2, none⟩) (by rw [← hW0]; simp <;> omega)).trans (by rw [← hW0]; simp [go_sem])⟩)
    have HYW0 := Lib.hid (show ∀ W', Below W0.heap.size W0 W' → (W'.frozen? ⟨w.heap.size, 0, none⟩ = false ∧ W'.frozen? ⟨w.heap.size, 1, none⟩ = false ∧ W'.frozen? ⟨w.heap.size, 2, none⟩ = false ∧ W'.frozen? ⟨w.heap.size + 1, 0, none⟩ = false ∧ W'.frozen? ⟨w.heap.size + 1, 1, none⟩ = false ∧ W'.frozen? ⟨w.heap.size + 1, 2, none⟩ = false ∧ W'.frozen? ⟨w.heap.size + 1 + 1, 0, none⟩ = false ∧ W'.frozen? ⟨w.heap.size + 1 + 1, 1, none⟩ = false ∧ W'.frozen? ⟨w.heap.size + 1 + 1, 2, none⟩ = false) from fun W' hb =>
      ⟨(hb.frozen (p := ⟨w.heap.size, 0, none⟩) (by rw [← hW0]; simp <;> omega)).trans (by rw [← hW0]; simp [go_sem]), (hb.frozen (p := ⟨w.heap.size, 1, none⟩) (by rw [← hW0]; simp <;> omega)).trans (by rw [← hW0]; simp [go_sem]), (hb.frozen (p := ⟨w.heap.size, 2, none⟩) (by rw [← hW0]; simp <;> omega)).trans (by rw [← hW0]; simp [go_sem]), (hb.frozen (p := ⟨w.heap.size + 1, 0, none⟩) (by rw [← hW0]; simp <;> omega)).trans (by rw [← hW0]; simp [go_sem]), (hb.frozen (p := ⟨w.heap.size + 1, 1, none⟩) (by rw [← hW0]; simp <;> omega)).trans (by rw [← hW0]; simp [go_sem]), (hb.frozen (p := ⟨w.heap.size + 1, 2, none⟩) (by rw [← hW0]; simp <;> omega)).trans (by rw [← hW0]; simp [go_sem]), (hb.frozen (p := ⟨w.heap.size + 1 + 1, 0, none⟩) (by rw [← hW0]; simp <;> omega)).trans (by rw [← hW0]; simp [go_sem]), (hb.frozen (p := ⟨w.heap.size + 1 + 1, 1, none⟩) (by rw [← hW0]; simp <;> omega)).trans (by rw [← hW0]; simp [go_sem]), (hb.frozen (p := ⟨w.heap.size + 1 + 1, 2, none⟩) (by rw [← hW0]; simp <;> omega)).trans (by rw [← hW0]; simp [go_sem])⟩)
    have HZW0 := Lib.hid (show ∀ W', Below W0.heap.size W0 W' → (w.heap.size < W'.heap.size ∧ w.heap.size + 1 < W'.heap.size ∧ w.heap.size + 1 + 1 < W'.heap.size) from fun W' hb =>
      ⟨Nat.lt_of_lt_of_le (by rw [← hW0]; simp <;> omega) hb.size, Nat.lt_of_lt_of_le (by rw [← hW0]; simp <;> omega) hb.size, Nat.lt_of_lt_of_le (by rw [← hW0]; simp <;> omega) hb.size⟩)
    have zb : Below w.heap.size w W0 := by rw [← hW0]; exact below_step (below_step (below_new _ _) (below_new _ _)) (below_new _ _)
    rw [hW0]
    clear hW0
    have i0 := h0.to zb
    have i1 := h1.to zb
    have i2 := h2.to zb
    have gb : Below W0.heap.size W0 W0 := Below.refl _ _
    obtain ⟨x0_0, x0_1, x0_2, x1_0, x1_1, x1_2, x2_0, x2_1, x2_2⟩ := HXW0.out _ gb
    obtain ⟨y0_0, y0_1, y0_2, y1_0, y1_1, y1_2, y2_0, y2_1, y2_2⟩ := HYW0.out _ gb
    obtain ⟨z0, z1, z2⟩ := HZW0.out _ gb
    refine (awake8 _).mono ?_
    clear x0_0 y0_0 x0_1 y0_1 x0_2 y0_2 x1_0 y1_0 x1_1 y1_1 x1_2 y1_2 x2_0 y2_0 x2_1 y2_1 x2_2 y2_2
    rintro e w1 ⟨rfl, hb1⟩
    replace gb := below_step gb hb1
    obtain ⟨x0_0, x0_1, x0_2, x1_0, x1_1, x1_2, x2_0, x2_1, x2_2⟩ := HXW0.out _ gb
    obtain ⟨y0_0, y0_1, y0_2, y1_0, y1_1, y1_2, y2_0, y2_1, y2_2⟩ := HYW0.out _ gb
    obtain ⟨z0, z1, z2⟩ := HZW0.out _ gb
    go_wp2_with fail
    refine (law8_few _ _ _ _ _ _ _ _ _ _ _ _ _ _ _ _ _ _ _ _ _ false _ (decide_eq_false (by omega))).mono ?_
    clear x0_0 y0_0 x0_1 y0_1 x0_2 y0_2 x1_0 y1_0 x1_1 y1_1 x1_2 y1_2 x2_0 y2_0 x2_1 y2_1 x2_2 y2_2
    rintro e w2 ⟨rfl, hb2⟩
    replace gb := below_step gb hb2
    obtain ⟨x0_0, x0_1, x0_2, x1_0, x1_1, x1_2, x2_0, x2_1, x2_2⟩ := HXW0.out _ gb
    obtain ⟨y0_0, y0_1, y0_2, y1_0, y1_1, y1_2, y2_0, y2_1, y2_2⟩ := HYW0.out _ gb
    obtain ⟨z0, z1, z2⟩ := HZW0.out _ gb
    go_wp2_with fail
    go_ret
    exact ⟨rfl, below_step zb gb⟩
  have hlens := hf
  have e1 := H0.out
  have e2 := H1.out
  obtain ⟨A, hh⟩ : ∃ z, rat b0 (val l0) (val m0) = z := ⟨_, rfl⟩
  have i0 : IsQ w b0 (.slice a0 n0 c0) (.slice a1 n1 c1) l0 m0 A := ⟨h0.1, h0.2, hh, by omega, by omega⟩
  have HBA : Hid (szq A ≤ 4) := by
    show _ ≤ _
    rw [← hh]
    refine Nat.le_trans (szq_rat _ _ _) ?_
    have k1 := sz_val h0.1.1
    have k2 := sz_val h0.2.1
    omega
  have HCA : Hid (szq A ≤ 1000) := Nat.le_trans HBA.out (by omega)
  have HRA := Lib.hid hh
  clear hh e1 e2
  have e1 := H2.out
  have e2 := H3.out
  obtain ⟨B, hh⟩ : ∃ z, rat b1 (val l1) (val m1) = z := ⟨_, rfl⟩
  have i1 : IsQ w b1 (.slice a2 n2 c2) (.slice a3 n3 c3) l1 m1 B := ⟨h1.1, h1.2, hh, by omega, by omega⟩
  have HBB : Hid (szq B ≤ 4) := by
    show _ ≤ _
    rw [← hh]
    refine Nat.le_trans (szq_rat _ _ _) ?_
    have k1 := sz_val h1.1.1
    have k2 := sz_val h1.2.1
    omega
  have HCB : Hid (szq B ≤ 1000) := Nat.le_trans HBB.out (by omega)
  have HRB := Lib.hid hh
  clear hh e1 e2
  have e1 := H4.out
  have e2 := H5.out
  obtain ⟨C, hh⟩ : ∃ z, rat b2 (val l2) (val m2) = z := ⟨_, rfl⟩
  have i2 : IsQ w b2 (.slice a4 n4 c4) (.slice a5 n5 c5) l2 m2 C := ⟨h2.1, h2.2, hh, by omega, by omega⟩
  have HBC : Hid (szq C ≤ 4) := by
    show _ ≤ _
    rw [← hh]
    refine Nat.le_trans (szq_rat _ _ _) ?_
    have k1 := sz_val h2.1.1
    have k2 := sz_val h2.2.1
    omega
  have HCC : Hid (szq C ≤ 1000) := Nat.le_trans HBC.out (by omega)
  have HRC := Lib.hid hh
  clear hh e1 e2
  have HB13 : Hid (szq ((A + B)) ≤ 9) := by
    have h1 : szq (A) ≤ 4 := HBA.out
    have h2 : szq (B) ≤ 4 := HBB.out
    have := szq_add (A) (B)
    show _ ≤ _
    omega
  have HC13 : Hid (szq ((A + B)) ≤ 1000) := Nat.le_trans HB13.out (by omega)
  have H20 := Lib.hid (show ((2 : Int) : Rat) ≠ 0 by decide)
  have HBT : Hid (szq ((2 : Int) : Rat) ≤ 1) := by show _ ≤ _; decide +kernel
  have HCT : Hid (szq ((2 : Int) : Rat) ≤ 1000) := Nat.le_trans HBT.out (by omega)
  have HB14 : Hid (szq (((A + B) / ((2 : Int) : Rat))) ≤ 10) := by
    have h1 : szq ((A + B)) ≤ 9 := HB13.out
    have h2 : szq (((2 : Int) : Rat)) ≤ 1 := HBT.out
    have := szq_div ((A + B)) (((2 : Int) : Rat))
    show _ ≤ _
    omega
  have HC14 : Hid (szq (((A + B) / ((2 : Int) : Rat))) ≤ 1000) := Nat.le_trans HB14.out (by omega)
  have HB15 : Hid (szq ((A + C)) ≤ 9) := by
    have h1 : szq (A) ≤ 4 := HBA.out
    have h2 : szq (C) ≤ 4 := HBC.out
    have := szq_add (A) (C)
    show _ ≤ _
    omega
  have HC15 : Hid (szq ((A + C)) ≤ 1000) := Nat.le_trans HB15.out (by omega)
  have HB16 : Hid (szq ((B + C)) ≤ 9) := by
    have h1 : szq (B) ≤ 4 := HBB.out
    have h2 : szq (C) ≤ 4 := HBC.out
    have := szq_add (B) (C)
    show _ ≤ _
    omega
  have HC16 : Hid (szq ((B + C)) ≤ 1000) := Nat.le_trans HB16.out (by omega)
  have HB17 : Hid (szq ((-A)) ≤ 4) := by
    have h1 : szq (A) ≤ 4 := HBA.out
    show _ ≤ _
    rw [szq_neg]
    exact h1
  have HC17 : Hid (szq ((-A)) ≤ 1000) := Nat.le_trans HB17.out (by omega)
  have HB18 : Hid (szq ((-B)) ≤ 4) := by
    have h1 : szq (B) ≤ 4 := HBB.out
    show _ ≤ _
    rw [szq_neg]
    exact h1
  have HC18 : Hid (szq ((-B)) ≤ 1000) := Nat.le_trans HB18.out (by omega)
  have HB19 : Hid (szq ((A - ((A + B) / ((2 : Int) : Rat)))) ≤ 15) := by
    have h1 : szq (A) ≤ 4 := HBA.out
    have h2 : szq (((A + B) / ((2 : Int) : Rat))) ≤ 10 := HB14.out
    have := szq_sub (A) (((A + B) / ((2 : Int) : Rat)))
    show _ ≤ _
    omega
  have HC19 : Hid (szq ((A - ((A + B) / ((2 : Int) : Rat)))) ≤ 1000) := Nat.le_trans HB19.out (by omega)
  have HB20 : Hid (szq ((((A + B) / ((2 : Int) : Rat)) - B)) ≤ 15) := by
    have h1 : szq (((A + B) / ((2 : Int) : Rat))) ≤ 10 := HB14.out
    have h2 : szq (B) ≤ 4 := HBB.out
    have := szq_sub (((A + B) / ((2 : Int) : Rat))) (B)
    show _ ≤ _
    omega
  have HC20 : Hid (szq ((((A + B) / ((2 : Int) : Rat)) - B)) ≤ 1000) := Nat.le_trans HB20.out (by omega)
  have HB21 : Hid (szq (((A + C) - (B + C))) ≤ 19) := by
    have h1 : szq ((A + C)) ≤ 9 := HB15.out
    have h2 : szq ((B + C)) ≤ 9 := HB16.out
    have := szq_sub ((A + C)) ((B + C))
    show _ ≤ _
    omega
  have HC21 : Hid (szq (((A + C) - (B + C))) ≤ 1000) := Nat.le_trans HB21.out (by omega)
  have HB22 : Hid (szq (((-B) - (-A))) ≤ 9) := by
    have h1 : szq ((-B)) ≤ 4 := HB18.out
    have h2 : szq ((-A)) ≤ 4 := HB17.out
    have := szq_sub ((-B)) ((-A))
    show _ ≤ _
    omega
  have HC22 : Hid (szq (((-B) - (-A))) ≤ 1000) := Nat.le_trans HB22.out (by omega)
  have HB23 : Hid (szq ((B - A)) ≤ 9) := by
    have h1 : szq (B) ≤ 4 := HBB.out
    have h2 : szq (A) ≤ 4 := HBA.out
    have := szq_sub (B) (A)
    show _ ≤ _
    omega
  have HC23 : Hid (szq ((B - A)) ≤ 1000) := Nat.le_trans HB23.out (by omega)
  have HB24 : Hid (szq ((A - B)) ≤ 9) := by
    have h1 : szq (A) ≤ 4 := HBA.out
    have h2 : szq (B) ≤ 4 := HBB.out
    have := szq_sub (A) (B)
    show _ ≤ _
    omega
  have HC24 : Hid (szq ((A - B)) ≤ 1000) := Nat.le_trans HB24.out (by omega)
  obtain ⟨kk, hk⟩ : ∃ k, cmpQ A B = k := ⟨_, rfl⟩
  have HK := Lib.hid hk
  have HK1 := Lib.hid (show cmpQ A ((A + B) / ((2 : Int) : Rat)) = kk by rw [← hk]; exact cmp_half1 A B)
  have HK2 := Lib.hid (show cmpQ ((A + B) / ((2 : Int) : Rat)) B = kk by rw [← hk]; exact cmp_half2 A B)
  have HK3 := Lib.hid (show cmpQ (A + C) (B + C) = kk by rw [← hk]; exact cmp_more A B C)
  have HK4 := Lib.hid (show cmpQ (-B) (-A) = kk by rw [← hk]; exact cmp_neg A B)
  have HK5 := Lib.hid (show cmpQ B A = -kk by rw [← hk]; exact cmp_turn A B)
  have hk0 : -1 ≤ kk ∧ kk ≤ 1 := by rw [← hk]; exact cmpQ_bounds A B
  have hkw : IntKind.i64.wrap (-kk) = -kk := IntWalk.i64_in _ (by omega)
  clear hk
  have HF := Lib.hid (show decide (n0 ≤ 4 ∧ n1 ≤ 4 ∧ n2 ≤ 4 ∧ n3 ≤ 4 ∧ n4 ≤ 4 ∧ n5 ≤ 4) = true from decide_eq_true (by omega))
  clear hf hlens
  go_enter Try.func8, Try.ntmps8
  go_wp2_with fail
  obtain ⟨W0, hW0⟩ : ∃ W0, ((w.alloc (.cells #[.bool b0, .slice a0 n0 c0, .slice a1 n1 c1] 24)).alloc (.cells #[.bool b1, .slice a2 n2 c2, .slice a3 n3 c3] 24)).alloc (.cells #[.bool b2, .slice a4 n4 c4, .slice a5 n5 c5] 24) = W0 := ⟨_, rfl⟩
  have HXW0 := Lib.hid (show ∀ W', Below W0.heap.size W0 W' → (W'.cell? ⟨w.heap.size, 0, none⟩ = some (.bool b0) ∧ W'.cell? ⟨w.heap.size, 1, none⟩ = some (.slice a0 n0 c0) ∧ W'.cell? ⟨w.heap.size, 2, none⟩ = some (.slice a1 n1 c1) ∧ W'.cell? ⟨w.heap.size + 1, 0, none⟩ = some (.bool b1) ∧ W'.cell? ⟨w.heap.size + 1, 1, none⟩ = some (.slice a2 n2 c2) ∧ W'.cell? ⟨w.heap.size + 1, 2, none⟩ = some (.slice a3 n3 c3) ∧ W'.cell? ⟨w.heap.size + 1 + 1, 0, none⟩ = some (.bool b2) ∧ W'.cell? ⟨w.heap.size + 1 + 1, 1, none⟩ = some (.slice a4 n4 c4) ∧ W'.cell? ⟨w.heap.size + 1 + 1, 2, none⟩ = some (.slice a5 n5 c5)) from fun W' hb =>
    ⟨(hb.cell (p := ⟨w.heap.size, 0, none⟩) (by rw [← hW0]; simp <;> omega)).trans (by rw [← hW0]; simp [go_sem]), (hb.cell (p := ⟨w.heap.size, 1, none⟩) (by rw [← hW0]; simp <;> omega)).trans (by rw [← hW0]; simp [go_sem]), (hb.cell (p := ⟨w.heap.size, 2, none⟩) (by rw [← hW0]; simp <;> omega)).trans (by rw [← hW0]; simp [go_sem]), (hb.cell (p := ⟨w.heap.size + 1, 0, none⟩) (by rw [← hW0]; simp <;> omega)).trans (by rw [← hW0]; simp [go_sem]), (hb.cell (p := ⟨w.heap.size + 1, 1, none⟩) (by rw [← hW0]; simp <;> omega)).trans (by rw [← hW0]; simp [go_sem]), (hb.cell (p := ⟨w.heap.size + 1, 2, none⟩) (by rw [← hW0]; simp <;> omega)).trans (by rw [← hW0]; simp [go_sem]), (hb.cell (p := ⟨w.heap.size + 1 + 1, 0, none⟩) (by rw [← hW0]; simp <;> omega)).trans (by rw [← hW0]; simp [go_sem]), (hb.cell (p := ⟨w.heap.size + 1 + 1, 1, none⟩) (by rw [← hW0]; simp <;> omega)).trans (by rw [← hW0]; simp [go_sem]), (hb.cell (p := ⟨w.heap.size + 1 + 1, 2, none⟩) (by rw [← hW0]; simp <;> omega)).trans (by rw [← hW0]; simp [go_sem])⟩)
  have HYW0 := Lib.hid (show ∀ W', Below W0.heap.size W0 W' → (W'.frozen? ⟨w.heap.size, 0, none⟩ = false ∧ W'.frozen? ⟨w.heap.size, 1, none⟩ = false ∧ W'.frozen? ⟨w.heap.size, 2, none⟩ = false ∧ W'.frozen? ⟨w.heap.size + 1, 0, none⟩ = false ∧ W'.frozen? ⟨w.heap.size + 1, 1, none⟩ = false ∧ W'.frozen? ⟨w.heap.size + 1, 2, none⟩ = false ∧ W'.frozen? ⟨w.heap.size + 1 + 1, 0, none⟩ = false ∧ W'.frozen? ⟨w.heap.size + 1 + 1, 1, none⟩ = false ∧ W'.frozen? ⟨w.heap.size + 1 + 1, 2, none⟩ = false) from fun W' hb =>
    ⟨(hb.frozen (p := ⟨w.heap.size, 0, none⟩) (by rw [← hW0]; simp <;> omega)).trans (by rw [← hW0]; simp [go_sem]), (hb.frozen (p := ⟨w.heap.size, 1, none⟩) (by rw [← hW0]; simp <;> omega)).trans (by rw [← hW0]; simp [go_sem]), (hb.frozen (p := ⟨w.heap.size, 2, none⟩) (by rw [← hW0]; simp <;> omega)).trans (by rw [← hW0]; simp [go_sem]), (hb.frozen (p := ⟨w.heap.size + 1, 0, none⟩) (by rw [← hW0]; simp <;> omega)).trans (by rw [← hW0]; simp [go_sem]), (hb.frozen (p := ⟨w.heap.size + 1, 1, none⟩) (by rw [← hW0]; simp <;> omega)).trans (by rw [← hW0]; simp [go_sem]), (hb.frozen (p := ⟨w.heap.size + 1, 2, none⟩) (by rw [← hW0]; simp <;> omega)).trans (by rw [← hW0]; simp [go_sem]), (hb.frozen (p := ⟨w.heap.size + 1 + 1, 0, none⟩) (by rw [← hW0]; simp <;> omega)).trans (by rw [← hW0]; simp [go_sem]), (hb.frozen (p := ⟨w.heap.size + 1 + 1, 1, none⟩) (by rw [← hW0]; simp <;> omega)).trans (by rw [← hW0]; simp [go_sem]), (hb.frozen (p := ⟨w.heap.size + 1 + 1, 2, none⟩) (by rw [← hW0]; simp <;> omega)).trans (by rw [← hW0]; simp [go_sem])⟩)
  have HZW0 := Lib.hid (show ∀ W', Below W0.heap.size W0 W' → (w.heap.size < W'.heap.size ∧ w.heap.size + 1 < W'.heap.size ∧ w.heap.size + 1 + 1 < W'.heap.size) from fun W' hb =>
    ⟨Nat.lt_of_lt_of_le (by rw [← hW0]; simp <;> omega) hb.size, Nat.lt_of_lt_of_le (by rw [← hW0]; simp <;> omega) hb.size, Nat.lt_of_lt_of_le (by rw [← hW0]; simp <;> omega) hb.size⟩)
  have zb : Below w.heap.size w W0 := by rw [← hW0]; exact below_step (below_step (below_new _ _) (below_new _ _)) (below_new _ _)
  rw [hW0]
  clear hW0
  have i0 := i0.to zb
  have i1 := i1.to zb
  have i2 := i2.to zb
  have gb : Below W0.heap.size W0 W0 := Below.refl _ _
  obtain ⟨x0_0, x0_1, x0_2, x1_0, x1_1, x1_2, x2_0, x2_1, x2_2⟩ := HXW0.out _ gb
  obtain ⟨y0_0, y0_1, y0_2, y1_0, y1_1, y1_2, y2_0, y2_1, y2_2⟩ := HYW0.out _ gb
  obtain ⟨z0, z1, z2⟩ := HZW0.out _ gb
  refine (awake8 _).mono ?_
  clear x0_0 y0_0 x0_1 y0_1 x0_2 y0_2 x1_0 y1_0 x1_1 y1_1 x1_2 y1_2 x2_0 y2_0 x2_1 y2_1 x2_2 y2_2
  rintro e w1 ⟨rfl, hb1⟩
  replace gb := below_step gb hb1
  obtain ⟨x0_0, x0_1, x0_2, x1_0, x1_1, x1_2, x2_0, x2_1, x2_2⟩ := HXW0.out _ gb
  obtain ⟨y0_0, y0_1, y0_2, y1_0, y1_1, y1_2, y2_0, y2_1, y2_2⟩ := HYW0.out _ gb
  obtain ⟨z0, z1, z2⟩ := HZW0.out _ gb
  go_wp2_with fail
  refine (law8_few _ _ _ _ _ _ _ _ _ _ _ _ _ _ _ _ _ _ _ _ _ true _ HF.out).mono ?_
  clear x0_0 y0_0 x0_1 y0_1 x0_2 y0_2 x1_0 y1_0 x1_1 y1_1 x1_2 y1_2 x2_0 y2_0 x2_1 y2_1 x2_2 y2_2
  rintro e w2 ⟨rfl, hb2⟩
  replace gb := below_step gb hb2
  obtain ⟨x0_0, x0_1, x0_2, x1_0, x1_1, x1_2, x2_0, x2_1, x2_2⟩ := HXW0.out _ gb
  obtain ⟨y0_0, y0_1, y0_2, y1_0, y1_1, y1_2, y2_0, y2_1, y2_2⟩ := HYW0.out _ gb
  obtain ⟨z0, z1, z2⟩ := HZW0.out _ gb
  go_wp2_with fail
  refine (ratio_add _ _ _ _ _ _ _ _ _ _ _ (i0.to gb) (i1.to gb) (A + B) rfl HC13).mono ?_
  clear x0_0 y0_0 x0_1 y0_1 x0_2 y0_2 x1_0 y1_0 x1_1 y1_1 x1_2 y1_2 x2_0 y2_0 x2_1 y2_1 x2_2 y2_2
  rintro e w3 ⟨ng3, a3_, n3_, c3_, p3_, m3_, k3_, rfl, g3, hb3⟩
  replace gb := below_step gb hb3
  obtain ⟨x0_0, x0_1, x0_2, x1_0, x1_1, x1_2, x2_0, x2_1, x2_2⟩ := HXW0.out _ gb
  obtain ⟨y0_0, y0_1, y0_2, y1_0, y1_1, y1_2, y2_0, y2_1, y2_2⟩ := HYW0.out _ gb
  obtain ⟨z0, z1, z2⟩ := HZW0.out _ gb
  go_wp2_with fail
  refine (ratio_of_int 2 2 _ rfl (by omega) (by omega)).mono ?_
  clear x0_0 y0_0 x0_1 y0_1 x0_2 y0_2 x1_0 y1_0 x1_1 y1_1 x1_2 y1_2 x2_0 y2_0 x2_1 y2_1 x2_2 y2_2
  rintro e w4 ⟨ng4, a4_, n4_, c4_, p4_, m4_, k4_, rfl, g4, hb4⟩
  replace g3 := g3.to hb4
  replace gb := below_step gb hb4
  obtain ⟨x0_0, x0_1, x0_2, x1_0, x1_1, x1_2, x2_0, x2_1, x2_2⟩ := HXW0.out _ gb
  obtain ⟨y0_0, y0_1, y0_2, y1_0, y1_1, y1_2, y2_0, y2_1, y2_2⟩ := HYW0.out _ gb
  obtain ⟨z0, z1, z2⟩ := HZW0.out _ gb
  go_wp2_with fail
  refine (ratio_div _ _ _ _ _ _ _ _ _ _ _ g3.isQ g4.isQ H20.out ((A + B) / ((2 : Int) : Rat)) rfl HC14).mono ?_
  clear x0_0 y0_0 x0_1 y0_1 x0_2 y0_2 x1_0 y1_0 x1_1 y1_1 x1_2 y1_2 x2_0 y2_0 x2_1 y2_1 x2_2 y2_2
  rintro e w5 ⟨ng5, a5_, n5_, c5_, p5_, m5_, k5_, rfl, g5, hb5⟩
  replace g3 := g3.to hb5
  replace g4 := g4.to hb5
  replace gb := below_step gb hb5
  obtain ⟨x0_0, x0_1, x0_2, x1_0, x1_1, x1_2, x2_0, x2_1, x2_2⟩ := HXW0.out _ gb
  obtain ⟨y0_0, y0_1, y0_2, y1_0, y1_1, y1_2, y2_0, y2_1, y2_2⟩ := HYW0.out _ gb
  obtain ⟨z0, z1, z2⟩ := HZW0.out _ gb
  go_wp2_with fail
  obtain ⟨W5, hW5⟩ : ∃ W5, w5.alloc (.cells #[.bool ng5, .slice a5_ n5_ c5_, .slice p5_ m5_ k5_] 24) = W5 := ⟨_, rfl⟩
  have hb_W5 : Below w5.heap.size w5 W5 := by rw [← hW5]; exact below_new _ _
  have hs_W5 : Hid (W5.heap.size = w5.heap.size + 1) := by show _ = _; rw [← hW5]; simp
  clear x0_0 y0_0 x0_1 y0_1 x0_2 y0_2 x1_0 y1_0 x1_1 y1_1 x1_2 y1_2 x2_0 y2_0 x2_1 y2_1 x2_2 y2_2
  replace g3 := g3.to hb_W5
  replace g4 := g4.to hb_W5
  replace g5 := g5.to hb_W5
  replace gb := below_step gb hb_W5
  obtain ⟨x0_0, x0_1, x0_2, x1_0, x1_1, x1_2, x2_0, x2_1, x2_2⟩ := HXW0.out _ gb
  obtain ⟨y0_0, y0_1, y0_2, y1_0, y1_1, y1_2, y2_0, y2_1, y2_2⟩ := HYW0.out _ gb
  obtain ⟨z0, z1, z2⟩ := HZW0.out _ gb
  have x7_0 : W5.cell? ⟨w5.heap.size, 0, none⟩ = some (.bool ng5) := by rw [← hW5]; simp [go_sem]
  have y7_0 : W5.frozen? ⟨w5.heap.size, 0, none⟩ = false := by rw [← hW5]; simp [go_sem]
  have x7_1 : W5.cell? ⟨w5.heap.size, 1, none⟩ = some (.slice a5_ n5_ c5_) := by rw [← hW5]; simp [go_sem]
  have y7_1 : W5.frozen? ⟨w5.heap.size, 1, none⟩ = false := by rw [← hW5]; simp [go_sem]
  have x7_2 : W5.cell? ⟨w5.heap.size, 2, none⟩ = some (.slice p5_ m5_ k5_) := by rw [← hW5]; simp [go_sem]
  have y7_2 : W5.frozen? ⟨w5.heap.size, 2, none⟩ = false := by rw [← hW5]; simp [go_sem]
  have z7 : w5.heap.size < W5.heap.size := by rw [← hW5]; simp
  rw [hW5]
  clear hW5
  replace i0 := i0.to gb
  replace i1 := i1.to gb
  replace i2 := i2.to gb
  replace zb := below_step zb gb
  have HXW5 := Lib.hid (show ∀ W', Below W5.heap.size W5 W' → (W'.cell? ⟨w.heap.size, 0, none⟩ = some (.bool b0) ∧ W'.cell? ⟨w.heap.size, 1, none⟩ = some (.slice a0 n0 c0) ∧ W'.cell? ⟨w.heap.size, 2, none⟩ = some (.slice a1 n1 c1) ∧ W'.cell? ⟨w.heap.size + 1, 0, none⟩ = some (.bool b1) ∧ W'.cell? ⟨w.heap.size + 1, 1, none⟩ = some (.slice a2 n2 c2) ∧ W'.cell? ⟨w.heap.size + 1, 2, none⟩ = some (.slice a3 n3 c3) ∧ W'.cell? ⟨w.heap.size + 1 + 1, 0, none⟩ = some (.bool b2) ∧ W'.cell? ⟨w.heap.size + 1 + 1, 1, none⟩ = some (.slice a4 n4 c4) ∧ W'.cell? ⟨w.heap.size + 1 + 1, 2, none⟩ = some (.slice a5 n5 c5) ∧ W'.cell? ⟨w5.heap.size, 0, none⟩ = some (.bool ng5) ∧ W'.cell? ⟨w5.heap.size, 1, none⟩ = some (.slice a5_ n5_ c5_) ∧ W'.cell? ⟨w5.heap.size, 2, none⟩ = some (.slice p5_ m5_ k5_)) from fun W' hb =>
    ⟨(hb.cell (p := ⟨w.heap.size, 0, none⟩) z0).trans x0_0, (hb.cell (p := ⟨w.heap.size, 1, none⟩) z0).trans x0_1, (hb.cell (p := ⟨w.heap.size, 2, none⟩) z0).trans x0_2, (hb.cell (p := ⟨w.heap.size + 1, 0, none⟩) z1).trans x1_0, (hb.cell (p := ⟨w.heap.size + 1, 1, none⟩) z1).trans x1_1, (hb.cell (p := ⟨w.heap.size + 1, 2, none⟩) z1).trans x1_2, (hb.cell (p := ⟨w.heap.size + 1 + 1, 0, none⟩) z2).trans x2_0, (hb.cell (p := ⟨w.heap.size + 1 + 1, 1, none⟩) z2).trans x2_1, (hb.cell (p := ⟨w.heap.size + 1 + 1, 2, none⟩) z2).trans x2_2, (hb.cell (p := ⟨w5.heap.size, 0, none⟩) z7).trans x7_0, (hb.cell (p := ⟨w5.heap.size, 1, none⟩) z7).trans x7_1, (hb.cell (p := ⟨w5.heap.size, 2, none⟩) z7).trans x7_2⟩)
  have HYW5 := Lib.hid (show ∀ W', Below W5.heap.size W5 W' → (W'.frozen? ⟨w.heap.size, 0, none⟩ = false ∧ W'.frozen? ⟨w.heap.size, 1, none⟩ = false ∧ W'.frozen? ⟨w.heap.size, 2, none⟩ = false ∧ W'.frozen? ⟨w.heap.size + 1, 0, none⟩ = false ∧ W'.frozen? ⟨w.heap.size + 1, 1, none⟩ = false ∧ W'.frozen? ⟨w.heap.size + 1, 2, none⟩ = false ∧ W'.frozen? ⟨w.heap.size + 1 + 1, 0, none⟩ = false ∧ W'.frozen? ⟨w.heap.size + 1 + 1, 1, none⟩ = false ∧ W'.frozen? ⟨w.heap.size + 1 + 1, 2, none⟩ = false ∧ W'.frozen? ⟨w5.heap.size, 0, none⟩ = false ∧ W'.frozen? ⟨w5.heap.size, 1, none⟩ = false ∧ W'.frozen? ⟨w5.heap.size, 2, none⟩ = false) from fun W' hb =>
    ⟨(hb.frozen (p := ⟨w.heap.size, 0, none⟩) z0).trans y0_0, (hb.frozen (p := ⟨w.heap.size, 1, none⟩) z0).trans y0_1, (hb.frozen (p := ⟨w.heap.size, 2, none⟩) z0).trans y0_2, (hb.frozen (p := ⟨w.heap.size + 1, 0, none⟩) z1).trans y1_0, (hb.frozen (p := ⟨w.heap.size + 1, 1, none⟩) z1).trans y1_1, (hb.frozen (p := ⟨w.heap.size + 1, 2, none⟩) z1).trans y1_2, (hb.frozen (p := ⟨w.heap.size + 1 + 1, 0, none⟩) z2).trans y2_0, (hb.frozen (p := ⟨w.heap.size + 1 + 1, 1, none⟩) z2).trans y2_1, (hb.frozen (p := ⟨w.heap.size + 1 + 1, 2, none⟩) z2).trans y2_2, (hb.frozen (p := ⟨w5.heap.size, 0, none⟩) z7).trans y7_0, (hb.frozen (p := ⟨w5.heap.size, 1, none⟩) z7).trans y7_1, (hb.frozen (p := ⟨w5.heap.size, 2, none⟩) z7).trans y7_2⟩)
  have HZW5 := Lib.hid (show ∀ W', Below W5.heap.size W5 W' → (w.heap.size < W'.heap.size ∧ w.heap.size + 1 < W'.heap.size ∧ w.heap.size + 1 + 1 < W'.heap.size ∧ w5.heap.size < W'.heap.size) from fun W' hb =>
    ⟨Nat.lt_of_lt_of_le z0 hb.size, Nat.lt_of_lt_of_le z1 hb.size, Nat.lt_of_lt_of_le z2 hb.size, Nat.lt_of_lt_of_le z7 hb.size⟩)
  replace gb := Below.refl W5.heap.size W5
  go_wp2_with fail
  refine (ratio_cmp _ _ _ _ _ _ _ _ _ _ _ (i0.to gb) (i1.to gb) kk HK.out HC24).mono ?_
  clear x0_0 y0_0 x0_1 y0_1 x0_2 y0_2 x1_0 y1_0 x1_1 y1_1 x1_2 y1_2 x2_0 y2_0 x2_1 y2_1 x2_2 y2_2 x7_0 y7_0 x7_1 y7_1 x7_2 y7_2
  rintro e w6 ⟨rfl, hb6⟩
  replace gb := below_step gb hb6
  obtain ⟨x0_0, x0_1, x0_2, x1_0, x1_1, x1_2, x2_0, x2_1, x2_2, x7_0, x7_1, x7_2⟩ := HXW5.out _ gb
  obtain ⟨y0_0, y0_1, y0_2, y1_0, y1_1, y1_2, y2_0, y2_1, y2_2, y7_0, y7_1, y7_2⟩ := HYW5.out _ gb
  obtain ⟨z0, z1, z2, z7⟩ := HZW5.out _ gb
  go_wp2_with fail
  go_region_held3 (fun W' => W'.cell? ⟨w.heap.size, 0, none⟩ = some (.bool b0) ∧ W'.cell? ⟨w.heap.size, 1, none⟩ = some (.slice a0 n0 c0) ∧ W'.cell? ⟨w.heap.size, 2, none⟩ = some (.slice a1 n1 c1) ∧ W'.cell? ⟨w.heap.size + 1, 0, none⟩ = some (.bool b1) ∧ W'.cell? ⟨w.heap.size + 1, 1, none⟩ = some (.slice a2 n2 c2) ∧ W'.cell? ⟨w.heap.size + 1, 2, none⟩ = some (.slice a3 n3 c3) ∧ W'.cell? ⟨w.heap.size + 1 + 1, 0, none⟩ = some (.bool b2) ∧ W'.cell? ⟨w.heap.size + 1 + 1, 1, none⟩ = some (.slice a4 n4 c4) ∧ W'.cell? ⟨w.heap.size + 1 + 1, 2, none⟩ = some (.slice a5 n5 c5) ∧ W'.cell? ⟨w5.heap.size, 0, none⟩ = some (.bool ng5) ∧ W'.cell? ⟨w5.heap.size, 1, none⟩ = some (.slice a5_ n5_ c5_) ∧ W'.cell? ⟨w5.heap.size, 2, none⟩ = some (.slice p5_ m5_ k5_)) (first | (with_reducible exact ⟨x0_0, x0_1, x0_2, x1_0, x1_1, x1_2, x2_0, x2_1, x2_2, x7_0, x7_1, x7_2⟩) | exact ⟨x0_0, x0_1, x0_2, x1_0, x1_1, x1_2, x2_0, x2_1, x2_2, x7_0, x7_1, x7_2⟩) (first
    | (go_at_call 33; (with_reducible refine (ratio_cmp _ _ _ _ _ _ _ _ _ _ _ (i1.to gb) (i0.to gb) (-kk) HK5.out HC23).mono ?_); rintro e w18 ⟨rfl, hb18⟩; have g12 := g12.to hb18; have g13 := g13.to hb18; have g15 := g15.to hb18; have g16 := g16.to hb18; have gb := below_step gb hb18; obtain ⟨x0_0, x0_1, x0_2, x1_0, x1_1, x1_2, x2_0, x2_1, x2_2, x7_0, x7_1, x7_2⟩ := HXW5.out _ gb; obtain ⟨y0_0, y0_1, y0_2, y1_0, y1_1, y1_2, y2_0, y2_1, y2_2, y7_0, y7_1, y7_2⟩ := HYW5.out _ gb; obtain ⟨z0, z1, z2, z7⟩ := HZW5.out _ gb)
    | (go_at_call 33; (with_reducible refine (ratio_cmp _ _ _ _ _ _ _ _ _ _ _ g15.isQ g16.isQ kk HK4.out HC22).mono ?_); rintro e w17 ⟨rfl, hb17⟩; have g12 := g12.to hb17; have g13 := g13.to hb17; have g15 := g15.to hb17; have g16 := g16.to hb17; have gb := below_step gb hb17; obtain ⟨x0_0, x0_1, x0_2, x1_0, x1_1, x1_2, x2_0, x2_1, x2_2, x7_0, x7_1, x7_2⟩ := HXW5.out _ gb; obtain ⟨y0_0, y0_1, y0_2, y1_0, y1_1, y1_2, y2_0, y2_1, y2_2, y7_0, y7_1, y7_2⟩ := HYW5.out _ gb; obtain ⟨z0, z1, z2, z7⟩ := HZW5.out _ gb)
    | (go_at_call 28; (with_reducible refine (ratio_neg _ _ _ _ _ _ (i0.to gb) (-A) rfl HC17).mono ?_); rintro e w16 ⟨ng16, a16_, n16_, c16_, p16_, m16_, k16_, rfl, g16, hb16⟩; have g12 := g12.to hb16; have g13 := g13.to hb16; have g15 := g15.to hb16; have gb := below_step gb hb16; obtain ⟨x0_0, x0_1, x0_2, x1_0, x1_1, x1_2, x2_0, x2_1, x2_2, x7_0, x7_1, x7_2⟩ := HXW5.out _ gb; obtain ⟨y0_0, y0_1, y0_2, y1_0, y1_1, y1_2, y2_0, y2_1, y2_2, y7_0, y7_1, y7_2⟩ := HYW5.out _ gb; obtain ⟨z0, z1, z2, z7⟩ := HZW5.out _ gb)
    | (go_at_call 28; (with_reducible refine (ratio_neg _ _ _ _ _ _ (i1.to gb) (-B) rfl HC18).mono ?_); rintro e w15 ⟨ng15, a15_, n15_, c15_, p15_, m15_, k15_, rfl, g15, hb15⟩; have g12 := g12.to hb15; have g13 := g13.to hb15; have gb := below_step gb hb15; obtain ⟨x0_0, x0_1, x0_2, x1_0, x1_1, x1_2, x2_0, x2_1, x2_2, x7_0, x7_1, x7_2⟩ := HXW5.out _ gb; obtain ⟨y0_0, y0_1, y0_2, y1_0, y1_1, y1_2, y2_0, y2_1, y2_2, y7_0, y7_1, y7_2⟩ := HYW5.out _ gb; obtain ⟨z0, z1, z2, z7⟩ := HZW5.out _ gb)
    | (go_at_call 33; (with_reducible refine (ratio_cmp _ _ _ _ _ _ _ _ _ _ _ g12.isQ g13.isQ kk HK3.out HC21).mono ?_); rintro e w14 ⟨rfl, hb14⟩; have g12 := g12.to hb14; have g13 := g13.to hb14; have gb := below_step gb hb14; obtain ⟨x0_0, x0_1, x0_2, x1_0, x1_1, x1_2, x2_0, x2_1, x2_2, x7_0, x7_1, x7_2⟩ := HXW5.out _ gb; obtain ⟨y0_0, y0_1, y0_2, y1_0, y1_1, y1_2, y2_0, y2_1, y2_2, y7_0, y7_1, y7_2⟩ := HYW5.out _ gb; obtain ⟨z0, z1, z2, z7⟩ := HZW5.out _ gb)
    | (go_at_call 24; (with_reducible refine (ratio_add _ _ _ _ _ _ _ _ _ _ _ (i1.to gb) (i2.to gb) (B + C) rfl HC16).mono ?_); rintro e w13 ⟨ng13, a13_, n13_, c13_, p13_, m13_, k13_, rfl, g13, hb13⟩; have g12 := g12.to hb13; have gb := below_step gb hb13; obtain ⟨x0_0, x0_1, x0_2, x1_0, x1_1, x1_2, x2_0, x2_1, x2_2, x7_0, x7_1, x7_2⟩ := HXW5.out _ gb; obtain ⟨y0_0, y0_1, y0_2, y1_0, y1_1, y1_2, y2_0, y2_1, y2_2, y7_0, y7_1, y7_2⟩ := HYW5.out _ gb; obtain ⟨z0, z1, z2, z7⟩ := HZW5.out _ gb)
    | (go_at_call 24; (with_reducible refine (ratio_add _ _ _ _ _ _ _ _ _ _ _ (i0.to gb) (i2.to gb) (A + C) rfl HC15).mono ?_); rintro e w12 ⟨ng12, a12_, n12_, c12_, p12_, m12_, k12_, rfl, g12, hb12⟩; have gb := below_step gb hb12; obtain ⟨x0_0, x0_1, x0_2, x1_0, x1_1, x1_2, x2_0, x2_1, x2_2, x7_0, x7_1, x7_2⟩ := HXW5.out _ gb; obtain ⟨y0_0, y0_1, y0_2, y1_0, y1_1, y1_2, y2_0, y2_1, y2_2, y7_0, y7_1, y7_2⟩ := HYW5.out _ gb; obtain ⟨z0, z1, z2, z7⟩ := HZW5.out _ gb)
    | (go_at_call 33; (with_reducible refine (ratio_cmp _ _ _ _ _ _ _ _ _ _ _ (g5.to gb).isQ (i1.to gb) kk HK2.out HC20).mono ?_); rintro e w11 ⟨rfl, hb11⟩; have gb := below_step gb hb11; obtain ⟨x0_0, x0_1, x0_2, x1_0, x1_1, x1_2, x2_0, x2_1, x2_2, x7_0, x7_1, x7_2⟩ := HXW5.out _ gb; obtain ⟨y0_0, y0_1, y0_2, y1_0, y1_1, y1_2, y2_0, y2_1, y2_2, y7_0, y7_1, y7_2⟩ := HYW5.out _ gb; obtain ⟨z0, z1, z2, z7⟩ := HZW5.out _ gb)
    | (go_at_call 33; have gb := gb.drew; (with_reducible refine (ratio_cmp _ _ _ _ _ _ _ _ _ _ _ (i0.to gb) (g5.to gb).isQ kk HK1.out HC19).mono ?_); rintro e w10 ⟨rfl, hb10⟩; have gb := below_step gb hb10; obtain ⟨x0_0, x0_1, x0_2, x1_0, x1_1, x1_2, x2_0, x2_1, x2_2, x7_0, x7_1, x7_2⟩ := HXW5.out _ gb; obtain ⟨y0_0, y0_1, y0_2, y1_0, y1_1, y1_2, y2_0, y2_1, y2_2, y7_0, y7_1, y7_2⟩ := HYW5.out _ gb; obtain ⟨z0, z1, z2, z7⟩ := HZW5.out _ gb))
  go_wp2_with fail
  go_ret
  exact ⟨by first | rfl | exact ret_bool (by simp), below_step zb gb⟩

end Go.Proofs.Ytmjnlpanlgmdmaa

