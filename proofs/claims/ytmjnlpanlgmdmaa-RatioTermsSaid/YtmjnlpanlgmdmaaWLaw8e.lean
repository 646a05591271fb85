/-
  The walks of the laws of layer 8.
-/
import Derived.Test.YtmjnlpanlgmdmaaG12
import Derived.Test.YtmjnlpanlgmdmaaG21
import Derived.Test.YtmjnlpanlgmdmaaG20
import Derived.Test.YtmjnlpanlgmdmaaG05
import Derived.Deep.RegionHeld3
import Derived.Deep.Cut
import Derived.Deep.DrawnRows
import Derived.Laws.EntriesVeiled
namespace Go.Proofs.Ytmjnlpanlgmdmaa
open Go.RowKit Tw
set_option linter.unusedVariables false
set_option linter.unusedSimpArgs false
attribute [local go_sem ↓] Go.wp_at_zero Go.wp_at_succ

set_option maxRecDepth 100000 in
set_option maxHeartbeats 60000000 in
theorem walk_RatioTerms (b0 : Bool) (v0 : Value) (l0 : List Nat) (u0 : Value) (m0 : List Nat) (v1 : Value) (l1 : List Nat) (w : World) (hn0 : Rd w v0 l0) (hd0 : Rd w u0 m0) (g1 : Rd w v1 l1) :
    Calls Try.prog 5 #[aggR b0 v0 u0, v1] w (Holds w) := by
  have h0 : IsF w v0 u0 l0 m0 := ⟨hn0, hd0⟩
  clear hn0 hd0
  obtain ⟨a0, n0, c0, rfl, H0, hm0⟩ := h0.1.open
  obtain ⟨a1, n1, c1, rfl, H1, hm1⟩ := h0.2.open
  obtain ⟨a2, n2, c2, rfl, H2, hm2⟩ := g1.open
  by_cases hf : n0 ≤ 4 ∧ n1 ≤ 4
  rotate_left
  · skip
    go_enter Try.func5, Try.ntmps5
    go_wp2_with fail
    obtain ⟨W0, hW0⟩ : ∃ W0, w.alloc (.cells #[.bool b0, .slice a0 n0 c0, .slice a1 n1 c1] 24) = W0 := ⟨_, rfl⟩
    have HXW0 := Lib.hid (show ∀ W', Below W0.heap.size W0 W' → (W'.cell? ⟨w.heap.size, 0, none⟩ = some (.bool b0) ∧ W'.cell? ⟨w.heap.size, 1, none⟩ = some (.slice a0 n0 c0) ∧ W'.cell? ⟨w.heap.size, 2, none⟩ = some (.slice a1 n1 c1)) from fun W' hb =>
      ⟨(hb.cell (p := ⟨w.heap.size, 0, none⟩) (by rw [← hW0]; simp <;> omega)).trans (by rw [← hW0]; simp [go_sem]), (hb.cell (p := ⟨w.heap.size, 1, none⟩) (by rw [← hW0]; simp <;> omega)).trans (by rw [← hW0]; simp [go_sem]), (hb.cell (p := ⟨w.heap.size, 2, none⟩) (by rw [← hW0]; simp <;> omega)).trans (by rw [← hW0]; simp [go_sem])⟩)
    have HYW0 := Lib.hid (show ∀ W', Below W0.heap.size W0 W' → (W'.frozen? ⟨w.heap.size, 0, none⟩ = false ∧ W'.frozen? ⟨w.heap.size, 1, none⟩ = false ∧ W'.frozen? ⟨w.heap.size, 2, none⟩ = false) from fun W' hb =>
      ⟨(hb.frozen (p := ⟨w.heap.size, 0, none⟩) (by rw [← hW0]; simp <;> omega)).trans (by rw [← hW0]; simp [go_sem]), (hb.frozen (p := ⟨w.heap.size, 1, none⟩) (by rw [← hW0]; simp <;> omega)).trans (by rw [← hW0]; simp [go_sem]), (hb.frozen (p := ⟨w.heap.size, 2, none⟩) (by rw [← hW0]; simp <;> omega)).trans (by rw [← hW0]; simp [go_sem])⟩)
    have HZW0 := Lib.hid (show ∀ W', Below W0.heap.size W0 W' → (w.heap.size < W'.heap.size) from fun W' hb =>
      Nat.lt_of_lt_of_le (by rw [← hW0]; simp <;> omega) hb.size)
    have zb : Below w.heap.size w W0 := by rw [← hW0]; exact below_new _ _
    rw [hW0]
    clear hW0
    have i0 := h0.to zb
    have i1 := g1.to zb
    have gb : Below W0.heap.size W0 W0 := Below.refl _ _
    obtain ⟨x0_0, x0_1, x0_2⟩ := HXW0.out _ gb
    obtain ⟨y0_0, y0_1, y0_2⟩ := HYW0.out _ gb
    obtain z0 := HZW0.out _ gb
    refine (awake8 _).mono ?_
    clear x0_0 y0_0 x0_1 y0_1 x0_2 y0_2
    rintro e w1 ⟨rfl, hb1⟩
    replace gb := below_step gb hb1
    obtain ⟨x0_0, x0_1, x0_2⟩ := HXW0.out _ gb
    obtain ⟨y0_0, y0_1, y0_2⟩ := HYW0.out _ gb
    obtain z0 := HZW0.out _ gb
    go_wp2_with fail
    refine (law8_few _ _ _ _ _ _ _ _ _ _ _ _ _ _ _ _ _ _ _ _ _ false _ (decide_eq_false (by omega))).mono ?_
    clear x0_0 y0_0 x0_1 y0_1 x0_2 y0_2
    rintro e w2 ⟨rfl, hb2⟩
    replace gb := below_step gb hb2
    obtain ⟨x0_0, x0_1, x0_2⟩ := HXW0.out _ gb
    obtain ⟨y0_0, y0_1, y0_2⟩ := HYW0.out _ gb
    obtain z0 := HZW0.out _ gb
    go_wp2_with fail
    go_ret
    exact ⟨rfl, below_step zb gb⟩
  have hlens := hf
  have e1 := H0.out
  have e2 := H1.out
  obtain ⟨A, hh⟩ : ∃ z, rat b0 (val l0) (val m0) = z := ⟨_, rfl⟩
  have i0 : IsQ w b0 (.slice a0 n0 c0) (.slice a1 n1 c1) l0 m0 A := ⟨h0.1, h0.2, hh, by omega, by omega⟩
  have HBA : Hid (szq A ≤ 4) := by
    show _ ≤ _
    rw [← hh]
    refine Nat.le_trans (szq_rat _ _ _) ?_
    have k1 := sz_val h0.1.1
    have k2 := sz_val h0.2.1
    omega
  have HCA : Hid (szq A ≤ 1000) := Nat.le_trans HBA.out (by omega)
  have HRA := Lib.hid hh
  clear hh e1 e2
  have HF := Lib.hid (show decide (n0 ≤ 4 ∧ n1 ≤ 4 ∧ n0 ≤ 4 ∧ n1 ≤ 4 ∧ n0 ≤ 4 ∧ n1 ≤ 4) = true from decide_eq_true (by omega))
  clear hf hlens
  go_enter Try.func5, Try.ntmps5
  go_wp2_with fail
  obtain ⟨W0, hW0⟩ : ∃ W0, w.alloc (.cells #[.bool b0, .slice a0 n0 c0, .slice a1 n1 c1] 24) = W0 := ⟨_, rfl⟩
  have HXW0 := Lib.hid (show ∀ W', Below W0.heap.size W0 W' → (W'.cell? ⟨w.heap.size, 0, none⟩ = some (.bool b0) ∧ W'.cell? ⟨w.heap.size, 1, none⟩ = some (.slice a0 n0 c0) ∧ W'.cell? ⟨w.heap.size, 2, none⟩ = some (.slice a1 n1 c1)) from fun W' hb =>
    ⟨(hb.cell (p := ⟨w.heap.size, 0, none⟩) (by rw [← hW0]; simp <;> omega)).trans (by rw [← hW0]; simp [go_sem]), (hb.cell (p := ⟨w.heap.size, 1, none⟩) (by rw [← hW0]; simp <;> omega)).trans (by rw [← hW0]; simp [go_sem]), (hb.cell (p := ⟨w.heap.size, 2, none⟩) (by rw [← hW0]; simp <;> omega)).trans (by rw [← hW0]; simp [go_sem])⟩)
  have HYW0 := Lib.hid (show ∀ W', Below W0.heap.size W0 W' → (W'.frozen? ⟨w.heap.size, 0, none⟩ = false ∧ W'.frozen? ⟨w.heap.size, 1, none⟩ = false ∧ W'.frozen? ⟨w.heap.size, 2, none⟩ = false) from fun W' hb =>
    ⟨(hb.frozen (p := ⟨w.heap.size, 0, none⟩) (by rw [← hW0]; simp <;> omega)).trans (by rw [← hW0]; simp [go_sem]), (hb.frozen (p := ⟨w.heap.size, 1, none⟩) (by rw [← hW0]; simp <;> omega)).trans (by rw [← hW0]; simp [go_sem]), (hb.frozen (p := ⟨w.heap.size, 2, none⟩) (by rw [← hW0]; simp <;> omega)).trans (by rw [← hW0]; simp [go_sem])⟩)
  have HZW0 := Lib.hid (show ∀ W', Below W0.heap.size W0 W' → (w.heap.size < W'.heap.size) from fun W' hb =>
    Nat.lt_of_lt_of_le (by rw [← hW0]; simp <;> omega) hb.size)
  have zb : Below w.heap.size w W0 := by rw [← hW0]; exact below_new _ _
  rw [hW0]
  clear hW0
  have i0 := i0.to zb
  have i1 := g1.to zb
  have gb : Below W0.heap.size W0 W0 := Below.refl _ _
  obtain ⟨x0_0, x0_1, x0_2⟩ := HXW0.out _ gb
  obtain ⟨y0_0, y0_1, y0_2⟩ := HYW0.out _ gb
  obtain z0 := HZW0.out _ gb
  refine (awake8 _).mono ?_
  clear x0_0 y0_0 x0_1 y0_1 x0_2 y0_2
  rintro e w1 ⟨rfl, hb1⟩
  replace gb := below_step gb hb1
  obtain ⟨x0_0, x0_1, x0_2⟩ := HXW0.out _ gb
  obtain ⟨y0_0, y0_1, y0_2⟩ := HYW0.out _ gb
  obtain z0 := HZW0.out _ gb
  go_wp2_with fail
  refine (law8_few _ _ _ _ _ _ _ _ _ _ _ _ _ _ _ _ _ _ _ _ _ true _ HF.out).mono ?_
  clear x0_0 y0_0 x0_1 y0_1 x0_2 y0_2
  rintro e w2 ⟨rfl, hb2⟩
  replace gb := below_step gb hb2
  obtain ⟨x0_0, x0_1, x0_2⟩ := HXW0.out _ gb
  obtain ⟨y0_0, y0_1, y0_2⟩ := HYW0.out _ gb
  obtain z0 := HZW0.out _ gb
  by_cases hI : n2 ≤ 4
  rotate_left
  · skip
    skip
    go_wp2_with fail
    go_ret
    exact ⟨by first | rfl | exact ret_bool (by simp), below_step zb gb⟩
  have HI := Lib.hid hI
  obtain ⟨F, hF⟩ : ∃ F, val l1 = F := ⟨_, rfl⟩
  have HF1 := Lib.hid hF
  clear hF
  go_wp2_with fail
  refine (ref2_trim _ l1 _ (i1.to gb) (by have := H2.out; omega)).mono ?_
  clear x0_0 y0_0 x0_1 y0_1 x0_2 y0_2
  rintro e w3 ⟨v3, rfl, g3, hb3⟩
  obtain ⟨a3_, n3_, c3_, rfl, H3, hm3⟩ := g3.rd.open
  replace gb := below_step gb hb3
  obtain ⟨x0_0, x0_1, x0_2⟩ := HXW0.out _ gb
  obtain ⟨y0_0, y0_1, y0_2⟩ := HYW0.out _ gb
  obtain z0 := HZW0.out _ gb
  have hl3 := Lib.hid (show n3_ = sz F by rw [← HF1.out]; exact H3.out.symm)
  by_cases hz : F = 0
  · obtain rfl : n3_ = 0 := by rw [hl3.out, hz]; rfl
    go_wp2_with fail
    go_ret
    exact ⟨by first | rfl | exact ret_bool (by simp), below_step zb gb⟩
  have hn3 : 0 < n3_ := by rw [hl3.out]; exact Nat.pos_of_ne_zero fun e => hz (sz_eq_zero.1 e)
  have HFZ := Lib.hid hz
  clear hz
  have HFS := Lib.hid (show sz F ≤ 4 by rw [← HF1.out]; have h2 := sz_val i1.1; have h3 := H2.out; have h4 := HI.out; omega)
  have J1 := Lib.hid (show ∀ W : World, Rd W (.slice a3_ n3_ c3_) (limbs (val l1)) → IsQ W false (.slice a3_ n3_ c3_) (.slice a3_ n3_ c3_) (limbs (val l1)) (limbs (val l1)) 1 from fun W h => ⟨h, h, by rw [val_limbs, HF1.out]; exact rat_same HFZ.out, by rw [sz_def, HF1.out]; have := HFS.out; omega, by rw [sz_def, HF1.out]; have := HFS.out; omega⟩)
  go_wp2_with fail
  by_cases hd : val m0 = 0
  · have HD := Lib.hid hd
    clear hd
    refine (ratio_make_no _ _ _ _ _ _ _ (i0.to gb).up (i0.to gb).dn (Nat.le_trans (i0.to gb).ldn (by omega)) HD.out).mono ?_
    clear x0_0 y0_0 x0_1 y0_1 x0_2 y0_2
    rintro e w4 ⟨rfl, hb4⟩
    replace g3 := g3.to hb4
    replace gb := below_step gb hb4
    obtain ⟨x0_0, x0_1, x0_2⟩ := HXW0.out _ gb
    obtain ⟨y0_0, y0_1, y0_2⟩ := HYW0.out _ gb
    obtain z0 := HZW0.out _ gb
    go_wp2_with fail
    obtain ⟨W4, hW4⟩ : ∃ W4, w4.alloc (.cells #[.bool false, .slice none 0 0, .slice none 0 0] 24) = W4 := ⟨_, rfl⟩
    have hb_W4 : Below w4.heap.size w4 W4 := by rw [← hW4]; exact below_new _ _
    have hs_W4 : Hid (W4.heap.size = w4.heap.size + 1) := by show _ = _; rw [← hW4]; simp
    clear x0_0 y0_0 x0_1 y0_1 x0_2 y0_2
    replace g3 := g3.to hb_W4
    replace gb := below_step gb hb_W4
    obtain ⟨x0_0, x0_1, x0_2⟩ := HXW0.out _ gb
    obtain ⟨y0_0, y0_1, y0_2⟩ := HYW0.out _ gb
    obtain z0 := HZW0.out _ gb
    have x7_0 : W4.cell? ⟨w4.heap.size, 0, none⟩ = some (.bool false) := by rw [← hW4]; simp [go_sem]
    have y7_0 : W4.frozen? ⟨w4.heap.size, 0, none⟩ = false := by rw [← hW4]; simp [go_sem]
    have x7_1 : W4.cell? ⟨w4.heap.size, 1, none⟩ = some (.slice none 0 0) := by rw [← hW4]; simp [go_sem]
    have y7_1 : W4.frozen? ⟨w4.heap.size, 1, none⟩ = false := by rw [← hW4]; simp [go_sem]
    have x7_2 : W4.cell? ⟨w4.heap.size, 2, none⟩ = some (.slice none 0 0) := by rw [← hW4]; simp [go_sem]
    have y7_2 : W4.frozen? ⟨w4.heap.size, 2, none⟩ = false := by rw [← hW4]; simp [go_sem]
    have z7 : w4.heap.size < W4.heap.size := by rw [← hW4]; simp
    rw [hW4]
    clear hW4
    replace i0 := i0.to gb
    replace i1 := i1.to gb
    replace zb := below_step zb gb
    have HXW4 := Lib.hid (show ∀ W', Below W4.heap.size W4 W' → (W'.cell? ⟨w.heap.size, 0, none⟩ = some (.bool b0) ∧ W'.cell? ⟨w.heap.size, 1, none⟩ = some (.slice a0 n0 c0) ∧ W'.cell? ⟨w.heap.size, 2, none⟩ = some (.slice a1 n1 c1) ∧ W'.cell? ⟨w4.heap.size, 0, none⟩ = some (.bool false) ∧ W'.cell? ⟨w4.heap.size, 1, none⟩ = some (.slice none 0 0) ∧ W'.cell? ⟨w4.heap.size, 2, none⟩ = some (.slice none 0 0)) from fun W' hb =>
      ⟨(hb.cell (p := ⟨w.heap.size, 0, none⟩) z0).trans x0_0, (hb.cell (p := ⟨w.heap.size, 1, none⟩) z0).trans x0_1, (hb.cell (p := ⟨w.heap.size, 2, none⟩) z0).trans x0_2, (hb.cell (p := ⟨w4.heap.size, 0, none⟩) z7).trans x7_0, (hb.cell (p := ⟨w4.heap.size, 1, none⟩) z7).trans x7_1, (hb.cell (p := ⟨w4.heap.size, 2, none⟩) z7).trans x7_2⟩)
    have HYW4 := Lib.hid (show ∀ W', Below W4.heap.size W4 W' → (W'.frozen? ⟨w.heap.size, 0, none⟩ = false ∧ W'.frozen? ⟨w.heap.size, 1, none⟩ = false ∧ W'.frozen? ⟨w.heap.size, 2, none⟩ = false ∧ W'.frozen? ⟨w4.heap.size, 0, none⟩ = false ∧ W'.frozen? ⟨w4.heap.size, 1, none⟩ = false ∧ W'.frozen? ⟨w4.heap.size, 2, none⟩ = false) from fun W' hb =>
      ⟨(hb.frozen (p := ⟨w.heap.size, 0, none⟩) z0).trans y0_0, (hb.frozen (p := ⟨w.heap.size, 1, none⟩) z0).trans y0_1, (hb.frozen (p := ⟨w.heap.size, 2, none⟩) z0).trans y0_2, (hb.frozen (p := ⟨w4.heap.size, 0, none⟩) z7).trans y7_0, (hb.frozen (p := ⟨w4.heap.size, 1, none⟩) z7).trans y7_1, (hb.frozen (p := ⟨w4.heap.size, 2, none⟩) z7).trans y7_2⟩)
    have HZW4 := Lib.hid (show ∀ W', Below W4.heap.size W4 W' → (w.heap.size < W'.heap.size ∧ w4.heap.size < W'.heap.size) from fun W' hb =>
      ⟨Nat.lt_of_lt_of_le z0 hb.size, Nat.lt_of_lt_of_le z7 hb.size⟩)
    replace gb := Below.refl W4.heap.size W4
    go_wp2_with fail
    refine (ratio_mul _ _ _ _ _ _ _ _ _ _ _ (i0.to gb) (J1.out _ (g3.to gb).rd) A (Rat.mul_one A) HCA).mono ?_
    clear x0_0 y0_0 x0_1 y0_1 x0_2 y0_2 x7_0 y7_0 x7_1 y7_1 x7_2 y7_2
    rintro e w5 ⟨ng5, a5_, n5_, c5_, p5_, m5_, k5_, rfl, g5, hb5⟩
    replace gb := below_step gb hb5
    obtain ⟨x0_0, x0_1, x0_2, x7_0, x7_1, x7_2⟩ := HXW4.out _ gb
    obtain ⟨y0_0, y0_1, y0_2, y7_0, y7_1, y7_2⟩ := HYW4.out _ gb
    obtain ⟨z0, z7⟩ := HZW4.out _ gb
    go_wp2_with fail
    obtain ⟨W5, hW5⟩ : ∃ W5, w5.alloc (.cells #[.bool ng5, .slice a5_ n5_ c5_, .slice p5_ m5_ k5_] 24) = W5 := ⟨_, rfl⟩
    have hb_W5 : Below w5.heap.size w5 W5 := by rw [← hW5]; exact below_new _ _
    have hs_W5 : Hid (W5.heap.size = w5.heap.size + 1) := by show _ = _; rw [← hW5]; simp
    clear x0_0 y0_0 x0_1 y0_1 x0_2 y0_2 x7_0 y7_0 x7_1 y7_1 x7_2 y7_2
    replace g5 := g5.to hb_W5
    replace gb := below_step gb hb_W5
    obtain ⟨x0_0, x0_1, x0_2, x7_0, x7_1, x7_2⟩ := HXW4.out _ gb
    obtain ⟨y0_0, y0_1, y0_2, y7_0, y7_1, y7_2⟩ := HYW4.out _ gb
    obtain ⟨z0, z7⟩ := HZW4.out _ gb
    have x8_0 : W5.cell? ⟨w5.heap.size, 0, none⟩ = some (.bool ng5) := by rw [← hW5]; simp [go_sem]
    have y8_0 : W5.frozen? ⟨w5.heap.size, 0, none⟩ = false := by rw [← hW5]; simp [go_sem]
    have x8_1 : W5.cell? ⟨w5.heap.size, 1, none⟩ = some (.slice a5_ n5_ c5_) := by rw [← hW5]; simp [go_sem]
    have y8_1 : W5.frozen? ⟨w5.heap.size, 1, none⟩ = false := by rw [← hW5]; simp [go_sem]
    have x8_2 : W5.cell? ⟨w5.heap.size, 2, none⟩ = some (.slice p5_ m5_ k5_) := by rw [← hW5]; simp [go_sem]
    have y8_2 : W5.frozen? ⟨w5.heap.size, 2, none⟩ = false := by rw [← hW5]; simp [go_sem]
    have z8 : w5.heap.size < W5.heap.size := by rw [← hW5]; simp
    rw [hW5]
    clear hW5
    replace i0 := i0.to gb
    replace i1 := i1.to gb
    replace g3 := g3.to gb
    replace zb := below_step zb gb
    have HXW5 := Lib.hid (show ∀ W', Below W5.heap.size W5 W' → (W'.cell? ⟨w.heap.size, 0, none⟩ = some (.bool b0) ∧ W'.cell? ⟨w.heap.size, 1, none⟩ = some (.slice a0 n0 c0) ∧ W'.cell? ⟨w.heap.size, 2, none⟩ = some (.slice a1 n1 c1) ∧ W'.cell? ⟨w4.heap.size, 0, none⟩ = some (.bool false) ∧ W'.cell? ⟨w4.heap.size, 1, none⟩ = some (.slice none 0 0) ∧ W'.cell? ⟨w4.heap.size, 2, none⟩ = some (.slice none 0 0) ∧ W'.cell? ⟨w5.heap.size, 0, none⟩ = some (.bool ng5) ∧ W'.cell? ⟨w5.heap.size, 1, none⟩ = some (.slice a5_ n5_ c5_) ∧ W'.cell? ⟨w5.heap.size, 2, none⟩ = some (.slice p5_ m5_ k5_)) from fun W' hb =>
      ⟨(hb.cell (p := ⟨w.heap.size, 0, none⟩) z0).trans x0_0, (hb.cell (p := ⟨w.heap.size, 1, none⟩) z0).trans x0_1, (hb.cell (p := ⟨w.heap.size, 2, none⟩) z0).trans x0_2, (hb.cell (p := ⟨w4.heap.size, 0, none⟩) z7).trans x7_0, (hb.cell (p := ⟨w4.heap.size, 1, none⟩) z7).trans x7_1, (hb.cell (p := ⟨w4.heap.size, 2, none⟩) z7).trans x7_2, (hb.cell (p := ⟨w5.heap.size, 0, none⟩) z8).trans x8_0, (hb.cell (p := ⟨w5.heap.size, 1, none⟩) z8).trans x8_1, (hb.cell (p := ⟨w5.heap.size, 2, none⟩) z8).trans x8_2⟩)
    have HYW5 := Lib.hid (show ∀ W', Below W5.heap.size W5 W' → (W'.frozen? ⟨w.heap.size, 0, none⟩ = false ∧ W'.frozen? ⟨w.heap.size, 1, none⟩ = false ∧ W'.frozen? ⟨w.heap.size, 2, none⟩ = false ∧ W'.frozen? ⟨w4.heap.size, 0, none⟩ = false ∧ W'.frozen? ⟨w4.heap.size, 1, none⟩ = false ∧ W'.frozen? ⟨w4.heap.size, 2, none⟩ = false ∧ W'.frozen? ⟨w5.heap.size, 0, none⟩ = false ∧ W'.frozen? ⟨w5.heap.size, 1, none⟩ = false ∧ W'.frozen? ⟨w5.heap.size, 2, none⟩ = false) from fun W' hb =>
      ⟨(hb.frozen (p := ⟨w.heap.size, 0, none⟩) z0).trans y0_0, (hb.frozen (p := ⟨w.heap.size, 1, none⟩) z0).trans y0_1, (hb.frozen (p := ⟨w.heap.size, 2, none⟩) z0).trans y0_2, (hb.frozen (p := ⟨w4.heap.size, 0, none⟩) z7).trans y7_0, (hb.frozen (p := ⟨w4.heap.size, 1, none⟩) z7).trans y7_1, (hb.frozen (p := ⟨w4.heap.size, 2, none⟩) z7).trans y7_2, (hb.frozen (p := ⟨w5.heap.size, 0, none⟩) z8).trans y8_0, (hb.frozen (p := ⟨w5.heap.size, 1, none⟩) z8).trans y8_1, (hb.frozen (p := ⟨w5.heap.size, 2, none⟩) z8).trans y8_2⟩)
    have HZW5 := Lib.hid (show ∀ W', Below W5.heap.size W5 W' → (w.heap.size < W'.heap.size ∧ w4.heap.size < W'.heap.size ∧ w5.heap.size < W'.heap.size) from fun W' hb =>
      ⟨Nat.lt_of_lt_of_le z0 hb.size, Nat.lt_of_lt_of_le z7 hb.size, Nat.lt_of_lt_of_le z8 hb.size⟩)
    replace gb := Below.refl W5.heap.size W5
    go_wp2_with fail
    go_region_held3 (fun W' => W'.cell? ⟨w.heap.size, 0, none⟩ = some (.bool b0) ∧ W'.cell? ⟨w.heap.size, 1, none⟩ = some (.slice a0 n0 c0) ∧ W'.cell? ⟨w.heap.size, 2, none⟩ = some (.slice a1 n1 c1) ∧ W'.cell? ⟨w4.heap.size, 0, none⟩ = some (.bool false) ∧ W'.cell? ⟨w4.heap.size, 1, none⟩ = some (.slice none 0 0) ∧ W'.cell? ⟨w4.heap.size, 2, none⟩ = some (.slice none 0 0) ∧ W'.cell? ⟨w5.heap.size, 0, none⟩ = some (.bool ng5) ∧ W'.cell? ⟨w5.heap.size, 1, none⟩ = some (.slice a5_ n5_ c5_) ∧ W'.cell? ⟨w5.heap.size, 2, none⟩ = some (.slice p5_ m5_ k5_)) (first | (with_reducible exact ⟨x0_0, x0_1, x0_2, x7_0, x7_1, x7_2, x8_0, x8_1, x8_2⟩) | exact ⟨x0_0, x0_1, x0_2, x7_0, x7_1, x7_2, x8_0, x8_1, x8_2⟩) (first
      | (go_at_call 15; (with_reducible refine (equal_q _ (g5.to gb) g7).mono ?_); rintro e w8 ⟨rfl, hb8⟩; have g7 := g7.to hb8; have gb := below_step gb hb8; obtain ⟨x0_0, x0_1, x0_2, x7_0, x7_1, x7_2, x8_0, x8_1, x8_2⟩ := HXW5.out _ gb; obtain ⟨y0_0, y0_1, y0_2, y7_0, y7_1, y7_2, y8_0, y8_1, y8_2⟩ := HYW5.out _ gb; obtain ⟨z0, z7, z8⟩ := HZW5.out _ gb)
      | (go_at_call 23; have gb := gb.drew; (with_reducible refine (ratio_fix _ _ _ _ _ _ (i0.to gb) A rfl HCA).mono ?_); rintro e w7 ⟨ng7, a7_, n7_, c7_, p7_, m7_, k7_, rfl, g7, hb7⟩; have gb := below_step gb hb7; obtain ⟨x0_0, x0_1, x0_2, x7_0, x7_1, x7_2, x8_0, x8_1, x8_2⟩ := HXW5.out _ gb; obtain ⟨y0_0, y0_1, y0_2, y7_0, y7_1, y7_2, y8_0, y8_1, y8_2⟩ := HYW5.out _ gb; obtain ⟨z0, z7, z8⟩ := HZW5.out _ gb))
    go_wp2_with fail
    go_ret
    exact ⟨by first | rfl | exact ret_bool (by simp), below_step zb gb⟩
  · have HD := Lib.hid hd
    clear hd
    refine (ratio_make _ _ _ _ _ _ _ (i0.to gb).up (i0.to gb).dn (Nat.le_trans (i0.to gb).lup (by omega)) (Nat.le_trans (i0.to gb).ldn (by omega)) HD.out A (by rw [Bool.bne_false]; exact HRA.out) HCA).mono ?_
    clear x0_0 y0_0 x0_1 y0_1 x0_2 y0_2
    rintro e w4 ⟨ng4, a4_, n4_, c4_, p4_, m4_, k4_, rfl, g4, hb4⟩
    replace g3 := g3.to hb4
    replace gb := below_step gb hb4
    obtain ⟨x0_0, x0_1, x0_2⟩ := HXW0.out _ gb
    obtain ⟨y0_0, y0_1, y0_2⟩ := HYW0.out _ gb
    obtain z0 := HZW0.out _ gb
    go_wp2_with fail
    obtain ⟨W4, hW4⟩ : ∃ W4, w4.alloc (.cells #[.bool ng4, .slice a4_ n4_ c4_, .slice p4_ m4_ k4_] 24) = W4 := ⟨_, rfl⟩
    have hb_W4 : Below w4.heap.size w4 W4 := by rw [← hW4]; exact below_new _ _
    have hs_W4 : Hid (W4.heap.size = w4.heap.size + 1) := by show _ = _; rw [← hW4]; simp
    clear x0_0 y0_0 x0_1 y0_1 x0_2 y0_2
    replace g3 := g3.to hb_W4
    replace g4 := g4.to hb_W4
    replace gb := below_step gb hb_W4
    obtain ⟨x0_0, x0_1, x0_2⟩ := HXW0.out _ gb
    obtain ⟨y0_0, y0_1, y0_2⟩ := HYW0.out _ gb
    obtain z0 := HZW0.out _ gb
    have x7_0 : W4.cell? ⟨w4.heap.size, 0, none⟩ = some (.bool ng4) := by rw [← hW4]; simp [go_sem]
    have y7_0 : W4.frozen? ⟨w4.heap.size, 0, none⟩ = false := by rw [← hW4]; simp [go_sem]
    have x7_1 : W4.cell? ⟨w4.heap.size, 1, none⟩ = some (.slice a4_ n4_ c4_) := by rw [← hW4]; simp [go_sem]
    have y7_1 : W4.frozen? ⟨w4.heap.size, 1, none⟩ = false := by rw [← hW4]; simp [go_sem]
    have x7_2 : W4.cell? ⟨w4.heap.size, 2, none⟩ = some (.slice p4_ m4_ k4_) := by rw [← hW4]; simp [go_sem]
    have y7_2 : W4.frozen? ⟨w4.heap.size, 2, none⟩ = false := by rw [← hW4]; simp [go_sem]
    have z7 : w4.heap.size < W4.heap.size := by rw [← hW4]; simp
    rw [hW4]
    clear hW4
    replace i0 := i0.to gb
    replace i1 := i1.to gb
    replace zb := below_step zb gb
    have HXW4 := Lib.hid (show ∀ W', Below W4.heap.size W4 W' → (W'.cell? ⟨w.heap.size, 0, none⟩ = some (.bool b0) ∧ W'.cell? ⟨w.heap.size, 1, none⟩ = some (.slice a0 n0 c0) ∧ W'.cell? ⟨w.heap.size, 2, none⟩ = some (.slice a1 n1 c1) ∧ W'.cell? ⟨w4.heap.size, 0, none⟩ = some (.bool ng4) ∧ W'.cell? ⟨w4.heap.size, 1, none⟩ = some (.slice a4_ n4_ c4_) ∧ W'.cell? ⟨w4.heap.size, 2, none⟩ = some (.slice p4_ m4_ k4_)) from fun W' hb =>
      ⟨(hb.cell (p := ⟨w.heap.size, 0, none⟩) z0).trans x0_0, (hb.cell (p := ⟨w.heap.size, 1, none⟩) z0).trans x0_1, (hb.cell (p := ⟨w.heap.size, 2, none⟩) z0).trans x0_2, (hb.cell (p := ⟨w4.heap.size, 0, none⟩) z7).trans x7_0, (hb.cell (p := ⟨w4.heap.size, 1, none⟩) z7).trans x7_1, (hb.cell (p := ⟨w4.heap.size, 2, none⟩) z7).trans x7_2⟩)
    have HYW4 := Lib.hid (show ∀ W', Below W4.heap.size W4 W' → (W'.frozen? ⟨w.heap.size, 0, none⟩ = false ∧ W'.frozen? ⟨w.heap.size, 1, none⟩ = false ∧ W'.frozen? ⟨w.heap.size, 2, none⟩ = false ∧ W'.frozen? ⟨w4.heap.size, 0, none⟩ = false ∧ W'.frozen? ⟨w4.heap.size, 1, none⟩ = false ∧ W'.frozen? ⟨w4.heap.size, 2, none⟩ = false) from fun W' hb =>
      ⟨(hb.frozen (p := ⟨w.heap.size, 0, none⟩) z0).trans y0_0, (hb.frozen (p := ⟨w.heap.size, 1, none⟩) z0).trans y0_1, (hb.frozen (p := ⟨w.heap.size, 2, none⟩) z0).trans y0_2, (hb.frozen (p := ⟨w4.heap.size, 0, none⟩) z7).trans y7_0, (hb.frozen (p := ⟨w4.heap.size, 1, none⟩) z7).trans y7_1, (hb.frozen (p := ⟨w4.heap.size, 2, none⟩) z7).trans y7_2⟩)
    have HZW4 := Lib.hid (show ∀ W', Below W4.heap.size W4 W' → (w.heap.size < W'.heap.size ∧ w4.heap.size < W'.heap.size) from fun W' hb =>
      ⟨Nat.lt_of_lt_of_le z0 hb.size, Nat.lt_of_lt_of_le z7 hb.size⟩)
    replace gb := Below.refl W4.heap.size W4
    go_wp2_with fail
    refine (ratio_mul _ _ _ _ _ _ _ _ _ _ _ (i0.to gb) (J1.out _ (g3.to gb).rd) A (Rat.mul_one A) HCA).mono ?_
    clear x0_0 y0_0 x0_1 y0_1 x0_2 y0_2 x7_0 y7_0 x7_1 y7_1 x7_2 y7_2
    rintro e w5 ⟨ng5, a5_, n5_, c5_, p5_, m5_, k5_, rfl, g5, hb5⟩
    replace gb := below_step gb hb5
    obtain ⟨x0_0, x0_1, x0_2, x7_0, x7_1, x7_2⟩ := HXW4.out _ gb
    obtain ⟨y0_0, y0_1, y0_2, y7_0, y7_1, y7_2⟩ := HYW4.out _ gb
    obtain ⟨z0, z7⟩ := HZW4.out _ gb
    go_wp2_with fail
    obtain ⟨W5, hW5⟩ : ∃ W5, w5.alloc (.cells #[.bool ng5, .slice a5_ n5_ c5_, .slice p5_ m5_ k5_] 24) = W5 := ⟨_, rfl⟩
    have hb_W5 : Below w5.heap.size w5 W5 := by rw [← hW5]; exact below_new _ _
    have hs_W5 : Hid (W5.heap.size = w5.heap.size + 1) := by show _ = _; rw [← hW5]; simp
    clear x0_0 y0_0 x0_1 y0_1 x0_2 y0_2 x7_0 y7_0 x7_1 y7_1 x7_2 y7_2
    replace g5 := g5.to hb_W5
    replace gb := below_step gb hb_W5
    obtain ⟨x0_0, x0_1, x0_2, x7_0, x7_1, x7_2⟩ := HXW4.out _ gb
    obtain ⟨y0_0, y0_1, y0_2, y7_0, y7_1, y7_2⟩ := HYW4.out _ gb
    obtain ⟨z0, z7⟩ := HZW4.out _ gb
    have x8_0 : W5.cell? ⟨w5.heap.size, 0, none⟩ = some (.bool ng5) := by rw [← hW5]; simp [go_sem]
    have y8_0 : W5.frozen? ⟨w5.heap.size, 0, none⟩ = false := by rw [← hW5]; simp [go_sem]
    have x8_1 : W5.cell? ⟨w5.heap.size, 1, none⟩ = some (.slice a5_ n5_ c5_) := by rw [← hW5]; simp [go_sem]
    have y8_1 : W5.frozen? ⟨w5.heap.size, 1, none⟩ = false := by rw [← hW5]; simp [go_sem]
    have x8_2 : W5.cell? ⟨w5.heap.size, 2, none⟩ = some (.slice p5_ m5_ k5_) := by rw [← hW5]; simp [go_sem]
    have y8_2 : W5.frozen? ⟨w5.heap.size, 2, none⟩ = false := by rw [← hW5]; simp [go_sem]
    have z8 : w5.heap.size < W5.heap.size := by rw [← hW5]; simp
    rw [hW5]
    clear hW5
    replace i0 := i0.to gb
    replace i1 := i1.to gb
    replace g3 := g3.to gb
    replace g4 := g4.to gb
    replace zb := below_step zb gb
    have HXW5 := Lib.hid (show ∀ W', Below W5.heap.size W5 W' → (W'.cell? ⟨w.heap.size, 0, none⟩ = some (.bool b0) ∧ W'.cell? ⟨w.heap.size, 1, none⟩ = some (.slice a0 n0 c0) ∧ W'.cell? ⟨w.heap.size, 2, none⟩ = some (.slice a1 n1 c1) ∧ W'.cell? ⟨w4.heap.size, 0, none⟩ = some (.bool ng4) ∧ W'.cell? ⟨w4.heap.size, 1, none⟩ = some (.slice a4_ n4_ c4_) ∧ W'.cell? ⟨w4.heap.size, 2, none⟩ = some (.slice p4_ m4_ k4_) ∧ W'.cell? ⟨w5.heap.size, 0, none⟩ = some (.bool ng5) ∧ W'.cell? ⟨w5.heap.size, 1, none⟩ = some (.slice a5_ n5_ c5_) ∧ W'.cell? ⟨w5.heap.size, 2, none⟩ = some (.slice p5_ m5_ k5_)) from fun W' hb =>
      ⟨(hb.cell (p := ⟨w.heap.size, 0, none⟩) z0).trans x0_0, (hb.cell (p := ⟨w.heap.size, 1, none⟩) z0).trans x0_1, (hb.cell (p := ⟨w.heap.size, 2, none⟩) z0).trans x0_2, (hb.cell (p := ⟨w4.heap.size, 0, none⟩) z7).trans x7_0, (hb.cell (p := ⟨w4.heap.size, 1, none⟩) z7).trans x7_1, (hb.cell (p := ⟨w4.heap.size, 2, none⟩) z7).trans x7_2, (hb.cell (p := ⟨w5.heap.size, 0, none⟩) z8).trans x8_0, (hb.cell (p := ⟨w5.heap.size, 1, none⟩) z8).trans x8_1, (hb.cell (p := ⟨w5.heap.size, 2, none⟩) z8).trans x8_2⟩)
    have HYW5 := Lib.hid (show ∀ W', Below W5.heap.size W5 W' → (W'.frozen? ⟨w.heap.size, 0, none⟩ = false ∧ W'.frozen? ⟨w.heap.size, 1, none⟩ = false ∧ W'.frozen? ⟨w.heap.size, 2, none⟩ = false ∧ W'.frozen? ⟨w4.heap.size, 0, none⟩ = false ∧ W'.frozen? ⟨w4.heap.size, 1, none⟩ = false ∧ W'.frozen? ⟨w4.heap.size, 2, none⟩ = false ∧ W'.frozen? ⟨w5.heap.size, 0, none⟩ = false ∧ W'.frozen? ⟨w5.heap.size, 1, none⟩ = false ∧ W'.frozen? ⟨w5.heap.size, 2, none⟩ = false) from fun W' hb =>
      ⟨(hb.frozen (p := ⟨w.heap.size, 0, none⟩) z0).trans y0_0, (hb.frozen (p := ⟨w.heap.size, 1, none⟩) z0).trans y0_1, (hb.frozen (p := ⟨w.heap.size, 2, none⟩) z0).trans y0_2, (hb.frozen (p := ⟨w4.heap.size, 0, none⟩) z7).trans y7_0, (hb.frozen (p := ⟨w4.heap.size, 1, none⟩) z7).trans y7_1, (hb.frozen (p := ⟨w4.heap.size, 2, none⟩) z7).trans y7_2, (hb.frozen (p := ⟨w5.heap.size, 0, none⟩) z8).trans y8_0, (hb.frozen (p := ⟨w5.heap.size, 1, none⟩) z8).trans y8_1, (hb.frozen (p := ⟨w5.heap.size, 2, none⟩) z8).trans y8_2⟩)
    have HZW5 := Lib.hid (show ∀ W', Below W5.heap.size W5 W' → (w.heap.size < W'.heap.size ∧ w4.heap.size < W'.heap.size ∧ w5.heap.size < W'.heap.size) from fun W' hb =>
      ⟨Nat.lt_of_lt_of_le z0 hb.size, Nat.lt_of_lt_of_le z7 hb.size, Nat.lt_of_lt_of_le z8 hb.size⟩)
    replace gb := Below.refl W5.heap.size W5
    go_wp2_with fail
    refine (equal_q _ (g4.to gb) (g5.to gb)).mono ?_
    clear x0_0 y0_0 x0_1 y0_1 x0_2 y0_2 x7_0 y7_0 x7_1 y7_1 x7_2 y7_2 x8_0 y8_0 x8_1 y8_1 x8_2 y8_2
    rintro e w6 ⟨rfl, hb6⟩
    replace gb := below_step gb hb6
    obtain ⟨x0_0, x0_1, x0_2, x7_0, x7_1, x7_2, x8_0, x8_1, x8_2⟩ := HXW5.out _ gb
    obtain ⟨y0_0, y0_1, y0_2, y7_0, y7_1, y7_2, y8_0, y8_1, y8_2⟩ := HYW5.out _ gb
    obtain ⟨z0, z7, z8⟩ := HZW5.out _ gb
    go_wp2_with fail
    go_region_held3 (fun W' => W'.cell? ⟨w.heap.size, 0, none⟩ = some (.bool b0) ∧ W'.cell? ⟨w.heap.size, 1, none⟩ = some (.slice a0 n0 c0) ∧ W'.cell? ⟨w.heap.size, 2, none⟩ = some (.slice a1 n1 c1) ∧ W'.cell? ⟨w4.heap.size, 0, none⟩ = some (.bool ng4) ∧ W'.cell? ⟨w4.heap.size, 1, none⟩ = some (.slice a4_ n4_ c4_) ∧ W'.cell? ⟨w4.heap.size, 2, none⟩ = some (.slice p4_ m4_ k4_) ∧ W'.cell? ⟨w5.heap.size, 0, none⟩ = some (.bool ng5) ∧ W'.cell? ⟨w5.heap.size, 1, none⟩ = some (.slice a5_ n5_ c5_) ∧ W'.cell? ⟨w5.heap.size, 2, none⟩ = some (.slice p5_ m5_ k5_)) (first | (with_reducible exact ⟨x0_0, x0_1, x0_2, x7_0, x7_1, x7_2, x8_0, x8_1, x8_2⟩) | exact ⟨x0_0, x0_1, x0_2, x7_0, x7_1, x7_2, x8_0, x8_1, x8_2⟩) (first
      | (go_at_call 15; (with_reducible refine (equal_q _ (g5.to gb) g7).mono ?_); rintro e w8 ⟨rfl, hb8⟩; have g7 := g7.to hb8; have gb := below_step gb hb8; obtain ⟨x0_0, x0_1, x0_2, x7_0, x7_1, x7_2, x8_0, x8_1, x8_2⟩ := HXW5.out _ gb; obtain ⟨y0_0, y0_1, y0_2, y7_0, y7_1, y7_2, y8_0, y8_1, y8_2⟩ := HYW5.out _ gb; obtain ⟨z0, z7, z8⟩ := HZW5.out _ gb)
      | (go_at_call 23; have gb := gb.drew; (with_reducible refine (ratio_fix _ _ _ _ _ _ (i0.to gb) A rfl HCA).mono ?_); rintro e w7 ⟨ng7, a7_, n7_, c7_, p7_, m7_, k7_, rfl, g7, hb7⟩; have gb := below_step gb hb7; obtain ⟨x0_0, x0_1, x0_2, x7_0, x7_1, x7_2, x8_0, x8_1, x8_2⟩ := HXW5.out _ gb; obtain ⟨y0_0, y0_1, y0_2, y7_0, y7_1, y7_2, y8_0, y8_1, y8_2⟩ := HYW5.out _ gb; obtain ⟨z0, z7, z8⟩ := HZW5.out _ gb))
    go_wp2_with fail
    go_ret
    exact ⟨by first | rfl | exact ret_bool (by simp), below_step zb gb⟩

end Go.Proofs.Ytmjnlpanlgmdmaa

