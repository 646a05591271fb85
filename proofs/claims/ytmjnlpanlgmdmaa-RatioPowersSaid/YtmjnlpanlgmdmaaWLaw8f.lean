/-
  The walks of the laws of layer 8.
-/
import Derived.Test.YtmjnlpanlgmdmaaG12
import Derived.Test.YtmjnlpanlgmdmaaG21
import Derived.Test.YtmjnlpanlgmdmaaG20
import Derived.Test.YtmjnlpanlgmdmaaG05
import Derived.Deep.RegionHeld3
import Derived.Deep.Cut
import Derived.Deep.DrawnRows
import Derived.Laws.EntriesVeiled
namespace Go.Proofs.Ytmjnlpanlgmdmaa
open Go.RowKit Tw
set_option linter.unusedVariables false
set_option linter.unusedSimpArgs false
attribute [local go_sem ↓] Go.wp_at_zero Go.wp_at_succ

set_option maxRecDepth 100000 in
set_option maxHeartbeats 60000000 in
theorem walk_RatioPowers (b0 : Bool) (v0 : Value) (l0 : List Nat) (u0 : Value) (m0 : List Nat) (n i j : Int) (w : World) (hn0 : Rd w v0 l0) (hd0 : Rd w u0 m0) (q0 : -9223372036854775808 ≤ n) (q1 : n < 9223372036854775808) (q2 : 0 ≤ i) (q3 : i < 256) (q4 : 0 ≤ j) (q5 : j < 256) :
    Calls Try.prog 4 #[aggR b0 v0 u0, .int .i64 n, .int .u8 i, .int .u8 j] w (Holds w) := by
  have h0 : IsF w v0 u0 l0 m0 := ⟨hn0, hd0⟩
  clear hn0 hd0
  obtain ⟨a0, n0, c0, rfl, H0, hm0⟩ := h0.1.open
  obtain ⟨a1, n1, c1, rfl, H1, hm1⟩ := h0.2.open
  by_cases hI : n0 ≤ 2
  rotate_left
  · skip
    go_enter Try.func4, Try.ntmps4
    go_wp2_with fail
    obtain ⟨W0, hW0⟩ : ∃ W0, w.alloc (.cells #[.bool b0, .slice a0 n0 c0, .slice a1 n1 c1] 24) = W0 := ⟨_, rfl⟩
    have HXW0 := Lib.hid (show ∀ W', Below W0.heap.size W0 W' → (W'.cell? ⟨w.heap.size, 0, none⟩ = some (.bool b0) ∧ W'.cell? ⟨w.heap.size, 1, none⟩ = some (.slice a0 n0 c0) ∧ W'.cell? ⟨w.heap.size, 2, none⟩ = some (.slice a1 n1 c1)) from fun W' hb =>
      ⟨(hb.cell (p := ⟨w.heap.size, 0, none⟩) (by rw [← hW0]; simp <;> omega)).trans (by rw [← hW0]; simp [go_sem]), (hb.cell (p := ⟨w.heap.size, 1, none⟩) (by rw [← hW0]; simp <;> omega)).trans (by rw [← hW0]; simp [go_sem]), (hb.cell (p := ⟨w.heap.size, 2, none⟩) (by rw [← hW0]; simp <;> omega)).trans (by rw [← hW0]; simp [go_sem])⟩)
    have HYW0 := Lib.hid (show ∀ W', Below W0.heap.size W0 W' → (W'.frozen? ⟨w.heap.size, 0, none⟩ = false ∧ W'.frozen? ⟨w.heap.size, 1, none⟩ = false ∧ W'.frozen? ⟨w.heap.size, 2, none⟩ = false) from fun W' hb =>
      ⟨(hb.frozen (p := ⟨w.heap.size, 0, none⟩) (by rw [← hW0]; simp <;> omega)).trans (by rw [← hW0]; simp [go_sem]), (hb.frozen (p := ⟨w.heap.size, 1, none⟩) (by rw [← hW0]; simp <;> omega)).trans (by rw [← hW0]; simp [go_sem]), (hb.frozen (p := ⟨w.heap.size, 2, none⟩) (by rw [← hW0]; simp <;> omega)).trans (by rw [← hW0]; simp [go_sem])⟩)
    have HZW0 := Lib.hid (show ∀ W', Below W0.heap.size W0 W' → (w.heap.size < W'.heap.size) from fun W' hb =>
      Nat.lt_of_lt_of_le (by rw [← hW0]; simp <;> omega) hb.size)
    have zb : Below w.heap.size w W0 := by rw [← hW0]; exact below_new _ _
    rw [hW0]
    clear hW0
    have i0 := h0.to zb
    have gb : Below W0.heap.size W0 W0 := Below.refl _ _
    obtain ⟨x0_0, x0_1, x0_2⟩ := HXW0.out _ gb
    obtain ⟨y0_0, y0_1, y0_2⟩ := HYW0.out _ gb
    obtain z0 := HZW0.out _ gb
    refine (awake8 _).mono ?_
    clear x0_0 y0_0 x0_1 y0_1 x0_2 y0_2
    rintro e w1 ⟨rfl, hb1⟩
    replace gb := below_step gb hb1
    obtain ⟨x0_0, x0_1, x0_2⟩ := HXW0.out _ gb
    obtain ⟨y0_0, y0_1, y0_2⟩ := HYW0.out _ gb
    obtain z0 := HZW0.out _ gb
    go_wp2_with fail
    go_ret
    exact ⟨rfl, below_step zb gb⟩
  have hC0 := hI
  clear hI
  by_cases hI : n1 ≤ 2
  rotate_left
  · skip
    go_enter Try.func4, Try.ntmps4
    go_wp2_with fail
    obtain ⟨W0, hW0⟩ : ∃ W0, w.alloc (.cells #[.bool b0, .slice a0 n0 c0, .slice a1 n1 c1] 24) = W0 := ⟨_, rfl⟩
    have HXW0 := Lib.hid (show ∀ W', Below W0.heap.size W0 W' → (W'.cell? ⟨w.heap.size, 0, none⟩ = some (.bool b0) ∧ W'.cell? ⟨w.heap.size, 1, none⟩ = some (.slice a0 n0 c0) ∧ W'.cell? ⟨w.heap.size, 2, none⟩ = some (.slice a1 n1 c1)) from fun W' hb =>
      ⟨(hb.cell (p := ⟨w.heap.size, 0, none⟩) (by rw [← hW0]; simp <;> omega)).trans (by rw [← hW0]; simp [go_sem]), (hb.cell (p := ⟨w.heap.size, 1, none⟩) (by rw [← hW0]; simp <;> omega)).trans (by rw [← hW0]; simp [go_sem]), (hb.cell (p := ⟨w.heap.size, 2, none⟩) (by rw [← hW0]; simp <;> omega)).trans (by rw [← hW0]; simp [go_sem])⟩)
    have HYW0 := Lib.hid (show ∀ W', Below W0.heap.size W0 W' → (W'.frozen? ⟨w.heap.size, 0, none⟩ = false ∧ W'.frozen? ⟨w.heap.size, 1, none⟩ = false ∧ W'.frozen? ⟨w.heap.size, 2, none⟩ = false) from fun W' hb =>
      ⟨(hb.frozen (p := ⟨w.heap.size, 0, none⟩) (by rw [← hW0]; simp <;> omega)).trans (by rw [← hW0]; simp [go_sem]), (hb.frozen (p := ⟨w.heap.size, 1, none⟩) (by rw [← hW0]; simp <;> omega)).trans (by rw [← hW0]; simp [go_sem]), (hb.frozen (p := ⟨w.heap.size, 2, none⟩) (by rw [← hW0]; simp <;> omega)).trans (by rw [← hW0]; simp [go_sem])⟩)
    have HZW0 := Lib.hid (show ∀ W', Below W0.heap.size W0 W' → (w.heap.size < W'.heap.size) from fun W' hb =>
      Nat.lt_of_lt_of_le (by rw [← hW0]; simp <;> omega) hb.size)
    have zb : Below w.heap.size w W0 := by rw [← hW0]; exact below_new _ _
    rw [hW0]
    clear hW0
    have i0 := h0.to zb
    have gb : Below W0.heap.size W0 W0 := Below.refl _ _
    obtain ⟨x0_0, x0_1, x0_2⟩ := HXW0.out _ gb
    obtain ⟨y0_0, y0_1, y0_2⟩ := HYW0.out _ gb
    obtain z0 := HZW0.out _ gb
    refine (awake8 _).mono ?_
    clear x0_0 y0_0 x0_1 y0_1 x0_2 y0_2
    rintro e w1 ⟨rfl, hb1⟩
    replace gb := below_step gb hb1
    obtain ⟨x0_0, x0_1, x0_2⟩ := HXW0.out _ gb
    obtain ⟨y0_0, y0_1, y0_2⟩ := HYW0.out _ gb
    obtain z0 := HZW0.out _ gb
    go_wp2_with fail
    go_ret
    exact ⟨rfl, below_step zb gb⟩
  have hC1 := hI
  clear hI
  by_cases hI : ¬ (8 < n ∧ n ≤ 64)
  rotate_left
  · skip
    have hI1 : 8 < n := by omega
    have hI2 : n ≤ 64 := by omega
    clear hI
    go_enter Try.func4, Try.ntmps4
    go_wp2_with fail
    obtain ⟨W0, hW0⟩ : ∃ W0, w.alloc (.cells #[.bool b0, .slice a0 n0 c0, .slice a1 n1 c1] 24) = W0 := ⟨_, rfl⟩
    have HXW0 := Lib.hid (show ∀ W', Below W0.heap.size W0 W' → (W'.cell? ⟨w.heap.size, 0, none⟩ = some (.bool b0) ∧ W'.cell? ⟨w.heap.size, 1, none⟩ = some (.slice a0 n0 c0) ∧ W'.cell? ⟨w.heap.size, 2, none⟩ = some (.slice a1 n1 c1)) from fun W' hb =>
      ⟨(hb.cell (p := ⟨w.heap.size, 0, none⟩) (by rw [← hW0]; simp <;> omega)).trans (by rw [← hW0]; simp [go_sem]), (hb.cell (p := ⟨w.heap.size, 1, none⟩) (by rw [← hW0]; simp <;> omega)).trans (by rw [← hW0]; simp [go_sem]), (hb.cell (p := ⟨w.heap.size, 2, none⟩) (by rw [← hW0]; simp <;> omega)).trans (by rw [← hW0]; simp [go_sem])⟩)
    have HYW0 := Lib.hid (show ∀ W', Below W0.heap.size W0 W' → (W'.frozen? ⟨w.heap.size, 0, none⟩ = false ∧ W'.frozen? ⟨w.heap.size, 1, none⟩ = false ∧ W'.frozen? ⟨w.heap.size, 2, none⟩ = false) from fun W' hb =>
      ⟨(hb.frozen (p := ⟨w.heap.size, 0, none⟩) (by rw [← hW0]; simp <;> omega)).trans (by rw [← hW0]; simp [go_sem]), (hb.frozen (p := ⟨w.heap.size, 1, none⟩) (by rw [← hW0]; simp <;> omega)).trans (by rw [← hW0]; simp [go_sem]), (hb.frozen (p := ⟨w.heap.size, 2, none⟩) (by rw [← hW0]; simp <;> omega)).trans (by rw [← hW0]; simp [go_sem])⟩)
    have HZW0 := Lib.hid (show ∀ W', Below W0.heap.size W0 W' → (w.heap.size < W'.heap.size) from fun W' hb =>
      Nat.lt_of_lt_of_le (by rw [← hW0]; simp <;> omega) hb.size)
    have zb : Below w.heap.size w W0 := by rw [← hW0]; exact below_new _ _
    rw [hW0]
    clear hW0
    have i0 := h0.to zb
    have gb : Below W0.heap.size W0 W0 := Below.refl _ _
    obtain ⟨x0_0, x0_1, x0_2⟩ := HXW0.out _ gb
    obtain ⟨y0_0, y0_1, y0_2⟩ := HYW0.out _ gb
    obtain z0 := HZW0.out _ gb
    refine (awake8 _).mono ?_
    clear x0_0 y0_0 x0_1 y0_1 x0_2 y0_2
    rintro e w1 ⟨rfl, hb1⟩
    replace gb := below_step gb hb1
    obtain ⟨x0_0, x0_1, x0_2⟩ := HXW0.out _ gb
    obtain ⟨y0_0, y0_1, y0_2⟩ := HYW0.out _ gb
    obtain z0 := HZW0.out _ gb
    go_wp2_with fail
    go_ret
    exact ⟨rfl, below_step zb gb⟩
  have hC2 := hI
  clear hI
  by_cases hI : ¬ (n < -8 ∧ -64 ≤ n)
  rotate_left
  · skip
    have hI1 : n < -8 := by omega
    have hI2 : -64 ≤ n := by omega
    have hI3 : ¬ 8 < n := by omega
    clear hI
    go_enter Try.func4, Try.ntmps4
    go_wp2_with fail
    obtain ⟨W0, hW0⟩ : ∃ W0, w.alloc (.cells #[.bool b0, .slice a0 n0 c0, .slice a1 n1 c1] 24) = W0 := ⟨_, rfl⟩
    have HXW0 := Lib.hid (show ∀ W', Below W0.heap.size W0 W' → (W'.cell? ⟨w.heap.size, 0, none⟩ = some (.bool b0) ∧ W'.cell? ⟨w.heap.size, 1, none⟩ = some (.slice a0 n0 c0) ∧ W'.cell? ⟨w.heap.size, 2, none⟩ = some (.slice a1 n1 c1)) from fun W' hb =>
      ⟨(hb.cell (p := ⟨w.heap.size, 0, none⟩) (by rw [← hW0]; simp <;> omega)).trans (by rw [← hW0]; simp [go_sem]), (hb.cell (p := ⟨w.heap.size, 1, none⟩) (by rw [← hW0]; simp <;> omega)).trans (by rw [← hW0]; simp [go_sem]), (hb.cell (p := ⟨w.heap.size, 2, none⟩) (by rw [← hW0]; simp <;> omega)).trans (by rw [← hW0]; simp [go_sem])⟩)
    have HYW0 := Lib.hid (show ∀ W', Below W0.heap.size W0 W' → (W'.frozen? ⟨w.heap.size, 0, none⟩ = false ∧ W'.frozen? ⟨w.heap.size, 1, none⟩ = false ∧ W'.frozen? ⟨w.heap.size, 2, none⟩ = false) from fun W' hb =>
      ⟨(hb.frozen (p := ⟨w.heap.size, 0, none⟩) (by rw [← hW0]; simp <;> omega)).trans (by rw [← hW0]; simp [go_sem]), (hb.frozen (p := ⟨w.heap.size, 1, none⟩) (by rw [← hW0]; simp <;> omega)).trans (by rw [← hW0]; simp [go_sem]), (hb.frozen (p := ⟨w.heap.size, 2, none⟩) (by rw [← hW0]; simp <;> omega)).trans (by rw [← hW0]; simp [go_sem])⟩)
    have HZW0 := Lib.hid (show ∀ W', Below W0.heap.size W0 W' → (w.heap.size < W'.heap.size) from fun W' hb =>
      Nat.lt_of_lt_of_le (by rw [← hW0]; simp <;> omega) hb.size)
    have zb : Below w.heap.size w W0 := by rw [← hW0]; exact below_new _ _
    rw [hW0]
    clear hW0
    have i0 := h0.to zb
    have gb : Below W0.heap.size W0 W0 := Below.refl _ _
    obtain ⟨x0_0, x0_1, x0_2⟩ := HXW0.out _ gb
    obtain ⟨y0_0, y0_1, y0_2⟩ := HYW0.out _ gb
    obtain z0 := HZW0.out _ gb
    refine (awake8 _).mono ?_
    clear x0_0 y0_0 x0_1 y0_1 x0_2 y0_2
    rintro e w1 ⟨rfl, hb1⟩
    replace gb := below_step gb hb1
    obtain ⟨x0_0, x0_1, x0_2⟩ := HXW0.out _ gb
    obtain ⟨y0_0, y0_1, y0_2⟩ := HYW0.out _ gb
    obtain z0 := HZW0.out _ gb
    go_wp2_with fail
    go_ret
    exact ⟨rfl, below_step zb gb⟩
  have hC3 := hI
  clear hI
  have e1 := H0.out
  have e2 := H1.out
  obtain ⟨A, hh⟩ : ∃ z, rat b0 (val l0) (val m0) = z := ⟨_, rfl⟩
  have j0 : IsQ w b0 (.slice a0 n0 c0) (.slice a1 n1 c1) l0 m0 A := ⟨h0.1, h0.2, hh, by omega, by omega⟩
  have hA2 : szq A ≤ 2 := by
    rw [← hh]
    refine Nat.le_trans (szq_rat _ _ _) ?_
    have k1 := sz_val h0.1.1
    have k2 := sz_val h0.2.1
    omega
  clear hh e1 e2
  obtain ⟨mg, r1, r2, rk, P1, P2⟩ := pow_both (x := A) b0 (.slice a0 n0 c0) (.slice a1 n1 c1) l0 m0 n hA2 (by omega) (by omega) (by omega)
  have M1 := Lib.hid P1
  have M2 := Lib.hid P2
  clear P1 P2
  have hC5 : (8 < n ∧ ¬ n ≤ 64) ∨ ¬ 8 < n := by omega
  have hC6 : (n < -8 ∧ ¬ -64 ≤ n) ∨ ¬ n < -8 := by omega
  obtain ⟨I, hi, hi5⟩ : ∃ I : Nat, i % 6 = (I : Int) ∧ I ≤ 5 := ⟨(i % 6).toNat, by omega, by omega⟩
  obtain ⟨J, hj, hj5⟩ : ∃ J : Nat, j % 6 = (J : Int) ∧ J ≤ 5 := ⟨(j % 6).toNat, by omega, by omega⟩
  have hij : IntKind.i64.wrap ((I : Int) + (J : Int)) = ((I : Int) + (J : Int)) := IntWalk.i64_in _ (by omega)
  have L1 := Lib.hid (show szq A * I ≤ 999 from Nat.le_trans (Nat.mul_le_mul hA2 hi5) (by omega))
  have L2 := Lib.hid (show szq A * J ≤ 999 from Nat.le_trans (Nat.mul_le_mul hA2 hj5) (by omega))
  have L3 := Lib.hid (show szq A * (I + J) ≤ 999 from Nat.le_trans (Nat.mul_le_mul hA2 (show I + J ≤ 10 by omega)) (by omega))
  have L4 : Hid (szq (A ^ (I + J)) ≤ 1000) := szq_pow L3.out
  have HE := Lib.hid (show A ^ I * A ^ J = A ^ (I + J) from (rat_pow_add A I J).symm)
  clear hA2
  rcases hC5 with ⟨d1, d2⟩ | d1 <;> rcases hC6 with ⟨d3, d4⟩ | d3
  · omega
  · skip
    go_enter Try.func4, Try.ntmps4
    go_wp2_with fail
    obtain ⟨W0, hW0⟩ : ∃ W0, w.alloc (.cells #[.bool b0, .slice a0 n0 c0, .slice a1 n1 c1] 24) = W0 := ⟨_, rfl⟩
    have HXW0 := Lib.hid (show ∀ W', Below W0.heap.size W0 W' → (W'.cell? ⟨w.heap.size, 0, none⟩ = some (.bool b0) ∧ W'.cell? ⟨w.heap.size, 1, none⟩ = some (.slice a0 n0 c0) ∧ W'.cell? ⟨w.heap.size, 2, none⟩ = some (.slice a1 n1 c1)) from fun W' hb =>
      ⟨(hb.cell (p := ⟨w.heap.size, 0, none⟩) (by rw [← hW0]; simp <;> omega)).trans (by rw [← hW0]; simp [go_sem]), (hb.cell (p := ⟨w.heap.size, 1, none⟩) (by rw [← hW0]; simp <;> omega)).trans (by rw [← hW0]; simp [go_sem]), (hb.cell (p := ⟨w.heap.size, 2, none⟩) (by rw [← hW0]; simp <;> omega)).trans (by rw [← hW0]; simp [go_sem])⟩)
    have HYW0 := Lib.hid (show ∀ W', Below W0.heap.size W0 W' → (W'.frozen? ⟨w.heap.size, 0, none⟩ = false ∧ W'.frozen? ⟨w.heap.size, 1, none⟩ = false ∧ W'.frozen? ⟨w.heap.size, 2, none⟩ = false) from fun W' hb =>
      ⟨(hb.frozen (p := ⟨w.heap.size, 0, none⟩) (by rw [← hW0]; simp <;> omega)).trans (by rw [← hW0]; simp [go_sem]), (hb.frozen (p := ⟨w.heap.size, 1, none⟩) (by rw [← hW0]; simp <;> omega)).trans (by rw [← hW0]; simp [go_sem]), (hb.frozen (p := ⟨w.heap.size, 2, none⟩) (by rw [← hW0]; simp <;> omega)).trans (by rw [← hW0]; simp [go_sem])⟩)
    have HZW0 := Lib.hid (show ∀ W', Below W0.heap.size W0 W' → (w.heap.size < W'.heap.size) from fun W' hb =>
      Nat.lt_of_lt_of_le (by rw [← hW0]; simp <;> omega) hb.size)
    have zb : Below w.heap.size w W0 := by rw [← hW0]; exact below_new _ _
    rw [hW0]
    clear hW0
    have i0 := j0.to zb
    have gb : Below W0.heap.size W0 W0 := Below.refl _ _
    obtain ⟨x0_0, x0_1, x0_2⟩ := HXW0.out _ gb
    obtain ⟨y0_0, y0_1, y0_2⟩ := HYW0.out _ gb
    obtain z0 := HZW0.out _ gb
    refine (awake8 _).mono ?_
    clear x0_0 y0_0 x0_1 y0_1 x0_2 y0_2
    rintro e w1 ⟨rfl, hb1⟩
    replace gb := below_step gb hb1
    obtain ⟨x0_0, x0_1, x0_2⟩ := HXW0.out _ gb
    obtain ⟨y0_0, y0_1, y0_2⟩ := HYW0.out _ gb
    obtain z0 := HZW0.out _ gb
    go_wp2_with fail
    refine (M1.out _ (i0.to gb)).mono ?_
    clear x0_0 y0_0 x0_1 y0_1 x0_2 y0_2
    rintro e w3 ⟨a3_, n3_, c3_, p3_, m3_, k3_, rfl, g3, hb3⟩
    replace gb := below_step gb hb3
    obtain ⟨x0_0, x0_1, x0_2⟩ := HXW0.out _ gb
    obtain ⟨y0_0, y0_1, y0_2⟩ := HYW0.out _ gb
    obtain z0 := HZW0.out _ gb
    go_wp2_with fail
    obtain ⟨W3, hW3⟩ : ∃ W3, w3.alloc (.cells #[.bool mg, .slice a3_ n3_ c3_, .slice p3_ m3_ k3_] 24) = W3 := ⟨_, rfl⟩
    have hb_W3 : Below w3.heap.size w3 W3 := by rw [← hW3]; exact below_new _ _
    have hs_W3 : Hid (W3.heap.size = w3.heap.size + 1) := by show _ = _; rw [← hW3]; simp
    clear x0_0 y0_0 x0_1 y0_1 x0_2 y0_2
    replace g3 := g3.to hb_W3
    replace gb := below_step gb hb_W3
    obtain ⟨x0_0, x0_1, x0_2⟩ := HXW0.out _ gb
    obtain ⟨y0_0, y0_1, y0_2⟩ := HYW0.out _ gb
    obtain z0 := HZW0.out _ gb
    have x7_0 : W3.cell? ⟨w3.heap.size, 0, none⟩ = some (.bool mg) := by rw [← hW3]; simp [go_sem]
    have y7_0 : W3.frozen? ⟨w3.heap.size, 0, none⟩ = false := by rw [← hW3]; simp [go_sem]
    have x7_1 : W3.cell? ⟨w3.heap.size, 1, none⟩ = some (.slice a3_ n3_ c3_) := by rw [← hW3]; simp [go_sem]
    have y7_1 : W3.frozen? ⟨w3.heap.size, 1, none⟩ = false := by rw [← hW3]; simp [go_sem]
    have x7_2 : W3.cell? ⟨w3.heap.size, 2, none⟩ = some (.slice p3_ m3_ k3_) := by rw [← hW3]; simp [go_sem]
    have y7_2 : W3.frozen? ⟨w3.heap.size, 2, none⟩ = false := by rw [← hW3]; simp [go_sem]
    have z7 : w3.heap.size < W3.heap.size := by rw [← hW3]; simp
    rw [hW3]
    clear hW3
    replace i0 := i0.to gb
    replace zb := below_step zb gb
    have HXW3 := Lib.hid (show ∀ W', Below W3.heap.size W3 W' → (W'.cell? ⟨w.heap.size, 0, none⟩ = some (.bool b0) ∧ W'.cell? ⟨w.heap.size, 1, none⟩ = some (.slice a0 n0 c0) ∧ W'.cell? ⟨w.heap.size, 2, none⟩ = some (.slice a1 n1 c1) ∧ W'.cell? ⟨w3.heap.size, 0, none⟩ = some (.bool mg) ∧ W'.cell? ⟨w3.heap.size, 1, none⟩ = some (.slice a3_ n3_ c3_) ∧ W'.cell? ⟨w3.heap.size, 2, none⟩ = some (.slice p3_ m3_ k3_)) from fun W' hb =>
      ⟨(hb.cell (p := ⟨w.heap.size, 0, none⟩) z0).trans x0_0, (hb.cell (p := ⟨w.heap.size, 1, none⟩) z0).trans x0_1, (hb.cell (p := ⟨w.heap.size, 2, none⟩) z0).trans x0_2, (hb.cell (p := ⟨w3.heap.size, 0, none⟩) z7).trans x7_0, (hb.cell (p := ⟨w3.heap.size, 1, none⟩) z7).trans x7_1, (hb.cell (p := ⟨w3.heap.size, 2, none⟩) z7).trans x7_2⟩)
    have HYW3 := Lib.hid (show ∀ W', Below W3.heap.size W3 W' → (W'.frozen? ⟨w.heap.size, 0, none⟩ = false ∧ W'.frozen? ⟨w.heap.size, 1, none⟩ = false ∧ W'.frozen? ⟨w.heap.size, 2, none⟩ = false ∧ W'.frozen? ⟨w3.heap.size, 0, none⟩ = false ∧ W'.frozen? ⟨w3.heap.size, 1, none⟩ = false ∧ W'.frozen? ⟨w3.heap.size, 2, none⟩ = false) from fun W' hb =>
      ⟨(hb.frozen (p := ⟨w.heap.size, 0, none⟩) z0).trans y0_0, (hb.frozen (p := ⟨w.heap.size, 1, none⟩) z0).trans y0_1, (hb.frozen (p := ⟨w.heap.size, 2, none⟩) z0).trans y0_2, (hb.frozen (p := ⟨w3.heap.size, 0, none⟩) z7).trans y7_0, (hb.frozen (p := ⟨w3.heap.size, 1, none⟩) z7).trans y7_1, (hb.frozen (p := ⟨w3.heap.size, 2, none⟩) z7).trans y7_2⟩)
    have HZW3 := Lib.hid (show ∀ W', Below W3.heap.size W3 W' → (w.heap.size < W'.heap.size ∧ w3.heap.size < W'.heap.size) from fun W' hb =>
      ⟨Nat.lt_of_lt_of_le z0 hb.size, Nat.lt_of_lt_of_le z7 hb.size⟩)
    replace gb := Below.refl W3.heap.size W3
    go_wp2_with fail
    refine (M2.out _ (i0.to gb)).mono ?_
    clear x0_0 y0_0 x0_1 y0_1 x0_2 y0_2 x7_0 y7_0 x7_1 y7_1 x7_2 y7_2
    rintro e w4 ⟨a4_, n4_, c4_, p4_, m4_, k4_, rfl, g4, hb4⟩
    replace gb := below_step gb hb4
    obtain ⟨x0_0, x0_1, x0_2, x7_0, x7_1, x7_2⟩ := HXW3.out _ gb
    obtain ⟨y0_0, y0_1, y0_2, y7_0, y7_1, y7_2⟩ := HYW3.out _ gb
    obtain ⟨z0, z7⟩ := HZW3.out _ gb
    go_wp2_with fail
    obtain ⟨W4, hW4⟩ : ∃ W4, w4.alloc (.cells #[.bool mg, .slice a4_ n4_ c4_, .slice p4_ m4_ k4_] 24) = W4 := ⟨_, rfl⟩
    have hb_W4 : Below w4.heap.size w4 W4 := by rw [← hW4]; exact below_new _ _
    have hs_W4 : Hid (W4.heap.size = w4.heap.size + 1) := by show _ = _; rw [← hW4]; simp
    clear x0_0 y0_0 x0_1 y0_1 x0_2 y0_2 x7_0 y7_0 x7_1 y7_1 x7_2 y7_2
    replace g4 := g4.to hb_W4
    replace gb := below_step gb hb_W4
    obtain ⟨x0_0, x0_1, x0_2, x7_0, x7_1, x7_2⟩ := HXW3.out _ gb
    obtain ⟨y0_0, y0_1, y0_2, y7_0, y7_1, y7_2⟩ := HYW3.out _ gb
    obtain ⟨z0, z7⟩ := HZW3.out _ gb
    have x8_0 : W4.cell? ⟨w4.heap.size, 0, none⟩ = some (.bool mg) := by rw [← hW4]; simp [go_sem]
    have y8_0 : W4.frozen? ⟨w4.heap.size, 0, none⟩ = false := by rw [← hW4]; simp [go_sem]
    have x8_1 : W4.cell? ⟨w4.heap.size, 1, none⟩ = some (.slice a4_ n4_ c4_) := by rw [← hW4]; simp [go_sem]
    have y8_1 : W4.frozen? ⟨w4.heap.size, 1, none⟩ = false := by rw [← hW4]; simp [go_sem]
    have x8_2 : W4.cell? ⟨w4.heap.size, 2, none⟩ = some (.slice p4_ m4_ k4_) := by rw [← hW4]; simp [go_sem]
    have y8_2 : W4.frozen? ⟨w4.heap.size, 2, none⟩ = false := by rw [← hW4]; simp [go_sem]
    have z8 : w4.heap.size < W4.heap.size := by rw [← hW4]; simp
    rw [hW4]
    clear hW4
    replace i0 := i0.to gb
    replace g3 := g3.to gb
    replace zb := below_step zb gb
    have HXW4 := Lib.hid (show ∀ W', Below W4.heap.size W4 W' → (W'.cell? ⟨w.heap.size, 0, none⟩ = some (.bool b0) ∧ W'.cell? ⟨w.heap.size, 1, none⟩ = some (.slice a0 n0 c0) ∧ W'.cell? ⟨w.heap.size, 2, none⟩ = some (.slice a1 n1 c1) ∧ W'.cell? ⟨w3.heap.size, 0, none⟩ = some (.bool mg) ∧ W'.cell? ⟨w3.heap.size, 1, none⟩ = some (.slice a3_ n3_ c3_) ∧ W'.cell? ⟨w3.heap.size, 2, none⟩ = some (.slice p3_ m3_ k3_) ∧ W'.cell? ⟨w4.heap.size, 0, none⟩ = some (.bool mg) ∧ W'.cell? ⟨w4.heap.size, 1, none⟩ = some (.slice a4_ n4_ c4_) ∧ W'.cell? ⟨w4.heap.size, 2, none⟩ = some (.slice p4_ m4_ k4_)) from fun W' hb =>
      ⟨(hb.cell (p := ⟨w.heap.size, 0, none⟩) z0).trans x0_0, (hb.cell (p := ⟨w.heap.size, 1, none⟩) z0).trans x0_1, (hb.cell (p := ⟨w.heap.size, 2, none⟩) z0).trans x0_2, (hb.cell (p := ⟨w3.heap.size, 0, none⟩) z7).trans x7_0, (hb.cell (p := ⟨w3.heap.size, 1, none⟩) z7).trans x7_1, (hb.cell (p := ⟨w3.heap.size, 2, none⟩) z7).trans x7_2, (hb.cell (p := ⟨w4.heap.size, 0, none⟩) z8).trans x8_0, (hb.cell (p := ⟨w4.heap.size, 1, none⟩) z8).trans x8_1, (hb.cell (p := ⟨w4.heap.size, 2, none⟩) z8).trans x8_2⟩)
    have HYW4 := Lib.hid (show ∀ W', Below W4.heap.size W4 W' → (W'.frozen? ⟨w.heap.size, 0, none⟩ = false ∧ W'.frozen? ⟨w.heap.size, 1, none⟩ = false ∧ W'.frozen? ⟨w.heap.size, 2, none⟩ = false ∧ W'.frozen? ⟨w3.heap.size, 0, none⟩ = false ∧ W'.frozen? ⟨w3.heap.size, 1, none⟩ = false ∧ W'.frozen? ⟨w3.heap.size, 2, none⟩ = false ∧ W'.frozen? ⟨w4.heap.size, 0, none⟩ = false ∧ W'.frozen? ⟨w4.heap.size, 1, none⟩ = false ∧ W'.frozen? ⟨w4.heap.size, 2, none⟩ = false) from fun W' hb =>
      ⟨(hb.frozen (p := ⟨w.heap.size, 0, none⟩) z0).trans y0_0, (hb.frozen (p := ⟨w.heap.size, 1, none⟩) z0).trans y0_1, (hb.frozen (p := ⟨w.heap.size, 2, none⟩) z0).trans y0_2, (hb.frozen (p := ⟨w3.heap.size, 0, none⟩) z7).trans y7_0, (hb.frozen (p := ⟨w3.heap.size, 1, none⟩) z7).trans y7_1, (hb.frozen (p := ⟨w3.heap.size, 2, none⟩) z7).trans y7_2, (hb.frozen (p := ⟨w4.heap.size, 0, none⟩) z8).trans y8_0, (hb.frozen (p := ⟨w4.heap.size, 1, none⟩) z8).trans y8_1, (hb.frozen (p := ⟨w4.heap.size, 2, none⟩) z8).trans y8_2⟩)
    have HZW4 := Lib.hid (show ∀ W', Below W4.heap.size W4 W' → (w.heap.size < W'.heap.size ∧ w3.heap.size < W'.heap.size ∧ w4.heap.size < W'.heap.size) from fun W' hb =>
      ⟨Nat.lt_of_lt_of_le z0 hb.size, Nat.lt_of_lt_of_le z7 hb.size, Nat.lt_of_lt_of_le z8 hb.size⟩)
    replace gb := Below.refl W4.heap.size W4
    go_wp2_with fail
    refine (pow_int _ _ _ _ _ _ I _ (i0.to gb) rfl (by omega) L1.out).mono ?_
    clear x0_0 y0_0 x0_1 y0_1 x0_2 y0_2 x7_0 y7_0 x7_1 y7_1 x7_2 y7_2 x8_0 y8_0 x8_1 y8_1 x8_2 y8_2
    rintro e w5 ⟨ng5, a5_, n5_, c5_, p5_, m5_, k5_, rfl, g5, hb5⟩
    replace gb := below_step gb hb5
    obtain ⟨x0_0, x0_1, x0_2, x7_0, x7_1, x7_2, x8_0, x8_1, x8_2⟩ := HXW4.out _ gb
    obtain ⟨y0_0, y0_1, y0_2, y7_0, y7_1, y7_2, y8_0, y8_1, y8_2⟩ := HYW4.out _ gb
    obtain ⟨z0, z7, z8⟩ := HZW4.out _ gb
    go_wp2_with fail
    obtain ⟨W5, hW5⟩ : ∃ W5, w5.alloc (.cells #[.bool ng5, .slice a5_ n5_ c5_, .slice p5_ m5_ k5_] 24) = W5 := ⟨_, rfl⟩
    have hb_W5 : Below w5.heap.size w5 W5 := by rw [← hW5]; exact below_new _ _
    have hs_W5 : Hid (W5.heap.size = w5.heap.size + 1) := by show _ = _; rw [← hW5]; simp
    clear x0_0 y0_0 x0_1 y0_1 x0_2 y0_2 x7_0 y7_0 x7_1 y7_1 x7_2 y7_2 x8_0 y8_0 x8_1 y8_1 x8_2 y8_2
    replace g5 := g5.to hb_W5
    replace gb := below_step gb hb_W5
    obtain ⟨x0_0, x0_1, x0_2, x7_0, x7_1, x7_2, x8_0, x8_1, x8_2⟩ := HXW4.out _ gb
    obtain ⟨y0_0, y0_1, y0_2, y7_0, y7_1, y7_2, y8_0, y8_1, y8_2⟩ := HYW4.out _ gb
    obtain ⟨z0, z7, z8⟩ := HZW4.out _ gb
    have x9_0 : W5.cell? ⟨w5.heap.size, 0, none⟩ = some (.bool ng5) := by rw [← hW5]; simp [go_sem]
    have y9_0 : W5.frozen? ⟨w5.heap.size, 0, none⟩ = false := by rw [← hW5]; simp [go_sem]
    have x9_1 : W5.cell? ⟨w5.heap.size, 1, none⟩ = some (.slice a5_ n5_ c5_) := by rw [← hW5]; simp [go_sem]
    have y9_1 : W5.frozen? ⟨w5.heap.size, 1, none⟩ = false := by rw [← hW5]; simp [go_sem]
    have x9_2 : W5.cell? ⟨w5.heap.size, 2, none⟩ = some (.slice p5_ m5_ k5_) := by rw [← hW5]; simp [go_sem]
    have y9_2 : W5.frozen? ⟨w5.heap.size, 2, none⟩ = false := by rw [← hW5]; simp [go_sem]
    have z9 : w5.heap.size < W5.heap.size := by rw [← hW5]; simp
    rw [hW5]
    clear hW5
    replace i0 := i0.to gb
    replace g3 := g3.to gb
    replace g4 := g4.to gb
    replace zb := below_step zb gb
    have HXW5 := Lib.hid (show ∀ W', Below W5.heap.size W5 W' → (W'.cell? ⟨w.heap.size, 0, none⟩ = some (.bool b0) ∧ W'.cell? ⟨w.heap.size, 1, none⟩ = some (.slice a0 n0 c0) ∧ W'.cell? ⟨w.heap.size, 2, none⟩ = some (.slice a1 n1 c1) ∧ W'.cell? ⟨w3.heap.size, 0, none⟩ = some (.bool mg) ∧ W'.cell? ⟨w3.heap.size, 1, none⟩ = some (.slice a3_ n3_ c3_) ∧ W'.cell? ⟨w3.heap.size, 2, none⟩ = some (.slice p3_ m3_ k3_) ∧ W'.cell? ⟨w4.heap.size, 0, none⟩ = some (.bool mg) ∧ W'.cell? ⟨w4.heap.size, 1, none⟩ = some (.slice a4_ n4_ c4_) ∧ W'.cell? ⟨w4.heap.size, 2, none⟩ = some (.slice p4_ m4_ k4_) ∧ W'.cell? ⟨w5.heap.size, 0, none⟩ = some (.bool ng5) ∧ W'.cell? ⟨w5.heap.size, 1, none⟩ = some (.slice a5_ n5_ c5_) ∧ W'.cell? ⟨w5.heap.size, 2, none⟩ = some (.slice p5_ m5_ k5_)) from fun W' hb =>
      ⟨(hb.cell (p := ⟨w.heap.size, 0, none⟩) z0).trans x0_0, (hb.cell (p := ⟨w.heap.size, 1, none⟩) z0).trans x0_1, (hb.cell (p := ⟨w.heap.size, 2, none⟩) z0).trans x0_2, (hb.cell (p := ⟨w3.heap.size, 0, none⟩) z7).trans x7_0, (hb.cell (p := ⟨w3.heap.size, 1, none⟩) z7).trans x7_1, (hb.cell (p := ⟨w3.heap.size, 2, none⟩) z7).trans x7_2, (hb.cell (p := ⟨w4.heap.size, 0, none⟩) z8).trans x8_0, (hb.cell (p := ⟨w4.heap.size, 1, none⟩) z8).trans x8_1, (hb.cell (p := ⟨w4.heap.size, 2, none⟩) z8).trans x8_2, (hb.cell (p := ⟨w5.heap.size, 0, none⟩) z9).trans x9_0, (hb.cell (p := ⟨w5.heap.size, 1, none⟩) z9).trans x9_1, (hb.cell (p := ⟨w5.heap.size, 2, none⟩) z9).trans x9_2⟩)
    have HYW5 := Lib.hid (show ∀ W', Below W5.heap.size W5 W' → (W'.frozen? ⟨w.heap.size, 0, none⟩ = false ∧ W'.frozen? ⟨w.heap.size, 1, none⟩ = false ∧ W'.frozen? ⟨w.heap.size, 2, none⟩ = false ∧ W'.frozen? ⟨w3.heap.size, 0, none⟩ = false ∧ W'.frozen? ⟨w3.heap.size, 1, none⟩ = false ∧ W'.frozen? ⟨w3.heap.size, 2, none⟩ = false ∧ W'.frozen? ⟨w4.heap.size, 0, none⟩ = false ∧ W'.frozen? ⟨w4.heap.size, 1, none⟩ = false ∧ W'.frozen? ⟨w4.heap.size, 2, none⟩ = false ∧ W'.frozen? ⟨w5.heap.size, 0, none⟩ = false ∧ W'.frozen? ⟨w5.heap.size, 1, none⟩ = false ∧ W'.frozen? ⟨w5.heap.size, 2, none⟩ = false) from fun W' hb =>
      ⟨(hb.frozen (p := ⟨w.heap.size, 0, none⟩) z0).trans y0_0, (hb.frozen (p := ⟨w.heap.size, 1, none⟩) z0).trans y0_1, (hb.frozen (p := ⟨w.heap.size, 2, none⟩) z0).trans y0_2, (hb.frozen (p := ⟨w3.heap.size, 0, none⟩) z7).trans y7_0, (hb.frozen (p := ⟨w3.heap.size, 1, none⟩) z7).trans y7_1, (hb.frozen (p := ⟨w3.heap.size, 2, none⟩) z7).trans y7_2, (hb.frozen (p := ⟨w4.heap.size, 0, none⟩) z8).trans y8_0, (hb.frozen (p := ⟨w4.heap.size, 1, none⟩) z8).trans y8_1, (hb.frozen (p := ⟨w4.heap.size, 2, none⟩) z8).trans y8_2, (hb.frozen (p := ⟨w5.heap.size, 0, none⟩) z9).trans y9_0, (hb.frozen (p := ⟨w5.heap.size, 1, none⟩) z9).trans y9_1, (hb.frozen (p := ⟨w5.heap.size, 2, none⟩) z9).trans y9_2⟩)
    have HZW5 := Lib.hid (show ∀ W', Below W5.heap.size W5 W' → (w.heap.size < W'.heap.size ∧ w3.heap.size < W'.heap.size ∧ w4.heap.size < W'.heap.size ∧ w5.heap.size < W'.heap.size) from fun W' hb =>
      ⟨Nat.lt_of_lt_of_le z0 hb.size, Nat.lt_of_lt_of_le z7 hb.size, Nat.lt_of_lt_of_le z8 hb.size, Nat.lt_of_lt_of_le z9 hb.size⟩)
    replace gb := Below.refl W5.heap.size W5
    go_wp2_with fail
    refine (pow_int _ _ _ _ _ _ J _ (i0.to gb) rfl (by omega) L2.out).mono ?_
    clear x0_0 y0_0 x0_1 y0_1 x0_2 y0_2 x7_0 y7_0 x7_1 y7_1 x7_2 y7_2 x8_0 y8_0 x8_1 y8_1 x8_2 y8_2 x9_0 y9_0 x9_1 y9_1 x9_2 y9_2
    rintro e w6 ⟨ng6, a6_, n6_, c6_, p6_, m6_, k6_, rfl, g6, hb6⟩
    replace gb := below_step gb hb6
    obtain ⟨x0_0, x0_1, x0_2, x7_0, x7_1, x7_2, x8_0, x8_1, x8_2, x9_0, x9_1, x9_2⟩ := HXW5.out _ gb
    obtain ⟨y0_0, y0_1, y0_2, y7_0, y7_1, y7_2, y8_0, y8_1, y8_2, y9_0, y9_1, y9_2⟩ := HYW5.out _ gb
    obtain ⟨z0, z7, z8, z9⟩ := HZW5.out _ gb
    go_wp2_with fail
    obtain ⟨W6, hW6⟩ : ∃ W6, w6.alloc (.cells #[.bool ng6, .slice a6_ n6_ c6_, .slice p6_ m6_ k6_] 24) = W6 := ⟨_, rfl⟩
    have hb_W6 : Below w6.heap.size w6 W6 := by rw [← hW6]; exact below_new _ _
    have hs_W6 : Hid (W6.heap.size = w6.heap.size + 1) := by show _ = _; rw [← hW6]; simp
    clear x0_0 y0_0 x0_1 y0_1 x0_2 y0_2 x7_0 y7_0 x7_1 y7_1 x7_2 y7_2 x8_0 y8_0 x8_1 y8_1 x8_2 y8_2 x9_0 y9_0 x9_1 y9_1 x9_2 y9_2
    replace g6 := g6.to hb_W6
    replace gb := below_step gb hb_W6
    obtain ⟨x0_0, x0_1, x0_2, x7_0, x7_1, x7_2, x8_0, x8_1, x8_2, x9_0, x9_1, x9_2⟩ := HXW5.out _ gb
    obtain ⟨y0_0, y0_1, y0_2, y7_0, y7_1, y7_2, y8_0, y8_1, y8_2, y9_0, y9_1, y9_2⟩ := HYW5.out _ gb
    obtain ⟨z0, z7, z8, z9⟩ := HZW5.out _ gb
    have x10_0 : W6.cell? ⟨w6.heap.size, 0, none⟩ = some (.bool ng6) := by rw [← hW6]; simp [go_sem]
    have y10_0 : W6.frozen? ⟨w6.heap.size, 0, none⟩ = false := by rw [← hW6]; simp [go_sem]
    have x10_1 : W6.cell? ⟨w6.heap.size, 1, none⟩ = some (.slice a6_ n6_ c6_) := by rw [← hW6]; simp [go_sem]
    have y10_1 : W6.frozen? ⟨w6.heap.size, 1, none⟩ = false := by rw [← hW6]; simp [go_sem]
    have x10_2 : W6.cell? ⟨w6.heap.size, 2, none⟩ = some (.slice p6_ m6_ k6_) := by rw [← hW6]; simp [go_sem]
    have y10_2 : W6.frozen? ⟨w6.heap.size, 2, none⟩ = false := by rw [← hW6]; simp [go_sem]
    have z10 : w6.heap.size < W6.heap.size := by rw [← hW6]; simp
    rw [hW6]
    clear hW6
    replace i0 := i0.to gb
    replace g3 := g3.to gb
    replace g4 := g4.to gb
    replace g5 := g5.to gb
    replace zb := below_step zb gb
    have HXW6 := Lib.hid (show ∀ W', Below W6.heap.size W6 W' → (W'.cell? ⟨w.heap.size, 0, none⟩ = some (.bool b0) ∧ W'.cell? ⟨w.heap.size, 1, none⟩ = some (.slice a0 n0 c0) ∧ W'.cell? ⟨w.heap.size, 2, none⟩ = some (.slice a1 n1 c1) ∧ W'.cell? ⟨w3.heap.size, 0, none⟩ = some (.bool mg) ∧ W'.cell? ⟨w3.heap.size, 1, none⟩ = some (.slice a3_ n3_ c3_) ∧ W'.cell? ⟨w3.heap.size, 2, none⟩ = some (.slice p3_ m3_ k3_) ∧ W'.cell? ⟨w4.heap.size, 0, none⟩ = some (.bool mg) ∧ W'.cell? ⟨w4.heap.size, 1, none⟩ = some (.slice a4_ n4_ c4_) ∧ W'.cell? ⟨w4.heap.size, 2, none⟩ = some (.slice p4_ m4_ k4_) ∧ W'.cell? ⟨w5.heap.size, 0, none⟩ = some (.bool ng5) ∧ W'.cell? ⟨w5.heap.size, 1, none⟩ = some (.slice a5_ n5_ c5_) ∧ W'.cell? ⟨w5.heap.size, 2, none⟩ = some (.slice p5_ m5_ k5_) ∧ W'.cell? ⟨w6.heap.size, 0, none⟩ = some (.bool ng6) ∧ W'.cell? ⟨w6.heap.size, 1, none⟩ = some (.slice a6_ n6_ c6_) ∧ W'.cell? ⟨w6.heap.size, 2, none⟩ = some (.slice p6_ m6_ k6_)) from fun W' hb =>
      ⟨(hb.cell (p := ⟨w.heap.size, 0, none⟩) z0).trans x0_0, (hb.cell (p := ⟨w.heap.size, 1, none⟩) z0).trans x0_1, (hb.cell (p := ⟨w.heap.size, 2, none⟩) z0).trans x0_2, (hb.cell (p := ⟨w3.heap.size, 0, none⟩) z7).trans x7_0, (hb.cell (p := ⟨w3.heap.size, 1, none⟩) z7).trans x7_1, (hb.cell (p := ⟨w3.heap.size, 2, none⟩) z7).trans x7_2, (hb.cell (p := ⟨w4.heap.size, 0, none⟩) z8).trans x8_0, (hb.cell (p := ⟨w4.heap.size, 1, none⟩) z8).trans x8_1, (hb.cell (p := ⟨w4.heap.size, 2, none⟩) z8).trans x8_2, (hb.cell (p := ⟨w5.heap.size, 0, none⟩) z9).trans x9_0, (hb.cell (p := ⟨w5.heap.size, 1, none⟩) z9).trans x9_1, (hb.cell (p := ⟨w5.heap.size, 2, none⟩) z9).trans x9_2, (hb.cell (p := ⟨w6.heap.size, 0, none⟩) z10).trans x10_0, (hb.cell (p := ⟨w6.heap.size, 1, none⟩) z10).trans x10_1, (hb.cell (p := ⟨w6.heap.size, 2, none⟩) z10).trans x10_2⟩)
    have HYW6 := Lib.hid (show ∀ W', Below W6.heap.size W6 W' → (W'.frozen? ⟨w.heap.size, 0, none⟩ = false ∧ W'.frozen? ⟨w.heap.size, 1, none⟩ = false ∧ W'.frozen? ⟨w.heap.size, 2, none⟩ = false ∧ W'.frozen? ⟨w3.heap.size, 0, none⟩ = false ∧ W'.frozen? ⟨w3.heap.size, 1, none⟩ = false ∧ W'.frozen? ⟨w3.heap.size, 2, none⟩ = false ∧ W'.frozen? ⟨w4.heap.size, 0, none⟩ = false ∧ W'.frozen? ⟨w4.heap.size, 1, none⟩ = false ∧ W'.frozen? ⟨w4.heap.size, 2, none⟩ = false ∧ W'.frozen? ⟨w5.heap.size, 0, none⟩ = false ∧ W'.frozen? ⟨w5.heap.size, 1, none⟩ = false ∧ W'.frozen? ⟨w5.heap.size, 2, none⟩ = false ∧ W'.frozen? ⟨w6.heap.size, 0, none⟩ = false ∧ W'.frozen? ⟨w6.heap.size, 1, none⟩ = false ∧ W'.frozen? ⟨w6.heap.size, 2, none⟩ = false) from fun W' hb =>
      ⟨(hb.frozen (p := ⟨w.heap.size, 0, none⟩) z0).trans y0_0, (hb.frozen (p := ⟨w.heap.size, 1, none⟩) z0).trans y0_1, (hb.frozen (p := ⟨w.heap.size, 2, none⟩) z0).trans y0_2, (hb.frozen (p := ⟨w3.heap.size, 0, none⟩) z7).trans y7_0, (hb.frozen (p := ⟨w3.heap.size, 1, none⟩) z7).trans y7_1, (hb.frozen (p := ⟨w3.heap.size, 2, none⟩) z7).trans y7_2, (hb.frozen (p := ⟨w4.heap.size, 0, none⟩) z8).trans y8_0, (hb.frozen (p := ⟨w4.heap.size, 1, none⟩) z8).trans y8_1, (hb.frozen (p := ⟨w4.heap.size, 2, none⟩) z8).trans y8_2, (hb.frozen (p := ⟨w5.heap.size, 0, none⟩) z9).trans y9_0, (hb.frozen (p := ⟨w5.heap.size, 1, none⟩) z9).trans y9_1, (hb.frozen (p := ⟨w5.heap.size, 2, none⟩) z9).trans y9_2, (hb.frozen (p := ⟨w6.heap.size, 0, none⟩) z10).trans y10_0, (hb.frozen (p := ⟨w6.heap.size, 1, none⟩) z10).trans y10_1, (hb.frozen (p := ⟨w6.heap.size, 2, none⟩) z10).trans y10_2⟩)
    have HZW6 := Lib.hid (show ∀ W', Below W6.heap.size W6 W' → (w.heap.size < W'.heap.size ∧ w3.heap.size < W'.heap.size ∧ w4.heap.size < W'.heap.size ∧ w5.heap.size < W'.heap.size ∧ w6.heap.size < W'.heap.size) from fun W' hb =>
      ⟨Nat.lt_of_lt_of_le z0 hb.size, Nat.lt_of_lt_of_le z7 hb.size, Nat.lt_of_lt_of_le z8 hb.size, Nat.lt_of_lt_of_le z9 hb.size, Nat.lt_of_lt_of_le z10 hb.size⟩)
    replace gb := Below.refl W6.heap.size W6
    go_wp2_with fail
    refine (pow_int _ _ _ _ _ _ (I + J) _ (i0.to gb) (Int.natCast_add I J).symm (by omega) L3.out).mono ?_
    clear x0_0 y0_0 x0_1 y0_1 x0_2 y0_2 x7_0 y7_0 x7_1 y7_1 x7_2 y7_2 x8_0 y8_0 x8_1 y8_1 x8_2 y8_2 x9_0 y9_0 x9_1 y9_1 x9_2 y9_2 x10_0 y10_0 x10_1 y10_1 x10_2 y10_2
    rintro e w7 ⟨ng7, a7_, n7_, c7_, p7_, m7_, k7_, rfl, g7, hb7⟩
    replace gb := below_step gb hb7
    obtain ⟨x0_0, x0_1, x0_2, x7_0, x7_1, x7_2, x8_0, x8_1, x8_2, x9_0, x9_1, x9_2, x10_0, x10_1, x10_2⟩ := HXW6.out _ gb
    obtain ⟨y0_0, y0_1, y0_2, y7_0, y7_1, y7_2, y8_0, y8_1, y8_2, y9_0, y9_1, y9_2, y10_0, y10_1, y10_2⟩ := HYW6.out _ gb
    obtain ⟨z0, z7, z8, z9, z10⟩ := HZW6.out _ gb
    go_wp2_with fail
    obtain ⟨W7, hW7⟩ : ∃ W7, w7.alloc (.cells #[.bool ng7, .slice a7_ n7_ c7_, .slice p7_ m7_ k7_] 24) = W7 := ⟨_, rfl⟩
    have hb_W7 : Below w7.heap.size w7 W7 := by rw [← hW7]; exact below_new _ _
    have hs_W7 : Hid (W7.heap.size = w7.heap.size + 1) := by show _ = _; rw [← hW7]; simp
    clear x0_0 y0_0 x0_1 y0_1 x0_2 y0_2 x7_0 y7_0 x7_1 y7_1 x7_2 y7_2 x8_0 y8_0 x8_1 y8_1 x8_2 y8_2 x9_0 y9_0 x9_1 y9_1 x9_2 y9_2 x10_0 y10_0 x10_1 y10_1 x10_2 y10_2
    replace g7 := g7.to hb_W7
    replace gb := below_step gb hb_W7
    obtain ⟨x0_0, x0_1, x0_2, x7_0, x7_1, x7_2, x8_0, x8_1, x8_2, x9_0, x9_1, x9_2, x10_0, x10_1, x10_2⟩ := HXW6.out _ gb
    obtain ⟨y0_0, y0_1, y0_2, y7_0, y7_1, y7_2, y8_0, y8_1, y8_2, y9_0, y9_1, y9_2, y10_0, y10_1, y10_2⟩ := HYW6.out _ gb
    obtain ⟨z0, z7, z8, z9, z10⟩ := HZW6.out _ gb
    have x11_0 : W7.cell? ⟨w7.heap.size, 0, none⟩ = some (.bool ng7) := by rw [← hW7]; simp [go_sem]
    have y11_0 : W7.frozen? ⟨w7.heap.size, 0, none⟩ = false := by rw [← hW7]; simp [go_sem]
    have x11_1 : W7.cell? ⟨w7.heap.size, 1, none⟩ = some (.slice a7_ n7_ c7_) := by rw [← hW7]; simp [go_sem]
    have y11_1 : W7.frozen? ⟨w7.heap.size, 1, none⟩ = false := by rw [← hW7]; simp [go_sem]
    have x11_2 : W7.cell? ⟨w7.heap.size, 2, none⟩ = some (.slice p7_ m7_ k7_) := by rw [← hW7]; simp [go_sem]
    have y11_2 : W7.frozen? ⟨w7.heap.size, 2, none⟩ = false := by rw [← hW7]; simp [go_sem]
    have z11 : w7.heap.size < W7.heap.size := by rw [← hW7]; simp
    rw [hW7]
    clear hW7
    replace i0 := i0.to gb
    replace g3 := g3.to gb
    replace g4 := g4.to gb
    replace g5 := g5.to gb
    replace g6 := g6.to gb
    replace zb := below_step zb gb
    have HXW7 := Lib.hid (show ∀ W', Below W7.heap.size W7 W' → (W'.cell? ⟨w.heap.size, 0, none⟩ = some (.bool b0) ∧ W'.cell? ⟨w.heap.size, 1, none⟩ = some (.slice a0 n0 c0) ∧ W'.cell? ⟨w.heap.size, 2, none⟩ = some (.slice a1 n1 c1) ∧ W'.cell? ⟨w3.heap.size, 0, none⟩ = some (.bool mg) ∧ W'.cell? ⟨w3.heap.size, 1, none⟩ = some (.slice a3_ n3_ c3_) ∧ W'.cell? ⟨w3.heap.size, 2, none⟩ = some (.slice p3_ m3_ k3_) ∧ W'.cell? ⟨w4.heap.size, 0, none⟩ = some (.bool mg) ∧ W'.cell? ⟨w4.heap.size, 1, none⟩ = some (.slice a4_ n4_ c4_) ∧ W'.cell? ⟨w4.heap.size, 2, none⟩ = some (.slice p4_ m4_ k4_) ∧ W'.cell? ⟨w5.heap.size, 0, none⟩ = some (.bool ng5) ∧ W'.cell? ⟨w5.heap.size, 1, none⟩ = some (.slice a5_ n5_ c5_) ∧ W'.cell? ⟨w5.heap.size, 2, none⟩ = some (.slice p5_ m5_ k5_) ∧ W'.cell? ⟨w6.heap.size, 0, none⟩ = some (.bool ng6) ∧ W'.cell? ⟨w6.heap.size, 1, none⟩ = some (.slice a6_ n6_ c6_) ∧ W'.cell? ⟨w6.heap.size, 2, none⟩ = some (.slice p6_ m6_ k6_) ∧ W'.cell? ⟨w7.heap.size, 0, none⟩ = some (.bool ng7) ∧ W'.cell? ⟨w7.heap.size, 1, none⟩ = some (.slice a7_ n7_ c7_) ∧ W'.cell? ⟨w7.heap.size, 2, none⟩ = some (.slice p7_ m7_ k7_)) from fun W' hb =>
      ⟨(hb.cell (p := ⟨w.heap.size, 0, none⟩) z0).trans x0_0, (hb.cell (p := ⟨w.heap.size, 1, none⟩) z0).trans x0_1, (hb.cell (p := ⟨w.heap.size, 2, none⟩) z0).trans x0_2, (hb.cell (p := ⟨w3.heap.size, 0, none⟩) z7).trans x7_0, (hb.cell (p := ⟨w3.heap.size, 1, none⟩) z7).trans x7_1, (hb.cell (p := ⟨w3.heap.size, 2, none⟩) z7).trans x7_2, (hb.cell (p := ⟨w4.heap.size, 0, none⟩) z8).trans x8_0, (hb.cell (p := ⟨w4.heap.size, 1, none⟩) z8).trans x8_1, (hb.cell (p := ⟨w4.heap.size, 2, none⟩) z8).trans x8_2, (hb.cell (p := ⟨w5.heap.size, 0, none⟩) z9).trans x9_0, (hb.cell (p := ⟨w5.heap.size, 1, none⟩) z9).trans x9_1, (hb.cell (p := ⟨w5.heap.size, 2, none⟩) z9).trans x9_2, (hb.cell (p := ⟨w6.heap.size, 0, none⟩) z10).trans x10_0, (hb.cell (p := ⟨w6.heap.size, 1, none⟩) z10).trans x10_1, (hb.cell (p := ⟨w6.heap.size, 2, none⟩) z10).trans x10_2, (hb.cell (p := ⟨w7.heap.size, 0, none⟩) z11).trans x11_0, (hb.cell (p := ⟨w7.heap.size, 1, none⟩) z11).trans x11_1, (hb.cell (p := ⟨w7.heap.size, 2, none⟩) z11).trans x11_2⟩)
    have HYW7 := Lib.hid (show ∀ W', Below W7.heap.size W7 W' → (W'.frozen? ⟨w.heap.size, 0, none⟩ = false ∧ W'.frozen? ⟨w.heap.size, 1, none⟩ = false ∧ W'.frozen? ⟨w.heap.size, 2, none⟩ = false ∧ W'.frozen? ⟨w3.heap.size, 0, none⟩ = false ∧ W'.frozen? ⟨w3.heap.size, 1, none⟩ = false ∧ W'.frozen? ⟨w3.heap.size, 2, none⟩ = false ∧ W'.frozen? ⟨w4.heap.size, 0, none⟩ = false ∧ W'.frozen? ⟨w4.heap.size, 1, none⟩ = false ∧ W'.frozen? ⟨w4.heap.size, 2, none⟩ = false ∧ W'.frozen? ⟨w5.heap.size, 0, none⟩ = false ∧ W'.frozen? ⟨w5.heap.size, 1, none⟩ = false ∧ W'.frozen? ⟨w5.heap.size, 2, none⟩ = false ∧ W'.frozen? ⟨w6.heap.size, 0, none⟩ = false ∧ W'.frozen? ⟨w6.heap.size, 1, none⟩ = false ∧ W'.frozen? ⟨w6.heap.size, 2, none⟩ = false ∧ W'.frozen? ⟨w7.heap.size, 0, none⟩ = false ∧ W'.frozen? ⟨w7.heap.size, 1, none⟩ = false ∧ W'.frozen? ⟨w7.heap.size, 2, none⟩ = false) from fun W' hb =>
      ⟨(hb.frozen (p := ⟨w.heap.size, 0, none⟩) z0).trans y0_0, (hb.frozen (p := ⟨w.heap.size, 1, none⟩) z0).trans y0_1, (hb.frozen (p := ⟨w.heap.size, 2, none⟩) z0).trans y0_2, (hb.frozen (p := ⟨w3.heap.size, 0, none⟩) z7).trans y7_0, (hb.frozen (p := ⟨w3.heap.size, 1, none⟩) z7).trans y7_1, (hb.frozen (p := ⟨w3.heap.size, 2, none⟩) z7).trans y7_2, (hb.frozen (p := ⟨w4.heap.size, 0, none⟩) z8).trans y8_0, (hb.frozen (p := ⟨w4.heap.size, 1, none⟩) z8).trans y8_1, (hb.frozen (p := ⟨w4.heap.size, 2, none⟩) z8).trans y8_2, (hb.frozen (p := ⟨w5.heap.size, 0, none⟩) z9).trans y9_0, (hb.frozen (p := ⟨w5.heap.size, 1, none⟩) z9).trans y9_1, (hb.frozen (p := ⟨w5.heap.size, 2, none⟩) z9).trans y9_2, (hb.frozen (p := ⟨w6.heap.size, 0, none⟩) z10).trans y10_0, (hb.frozen (p := ⟨w6.heap.size, 1, none⟩) z10).trans y10_1, (hb.frozen (p := ⟨w6.heap.size, 2, none⟩) z10).trans y10_2, (hb.frozen (p := ⟨w7.heap.size, 0, none⟩) z11).trans y11_0, (hb.frozen (p := ⟨w7.heap.size, 1, none⟩) z11).trans y11_1, (hb.frozen (p := ⟨w7.heap.size, 2, none⟩) z11).trans y11_2⟩)
    have HZW7 := Lib.hid (show ∀ W', Below W7.heap.size W7 W' → (w.heap.size < W'.heap.size ∧ w3.heap.size < W'.heap.size ∧ w4.heap.size < W'.heap.size ∧ w5.heap.size < W'.heap.size ∧ w6.heap.size < W'.heap.size ∧ w7.heap.size < W'.heap.size) from fun W' hb =>
      ⟨Nat.lt_of_lt_of_le z0 hb.size, Nat.lt_of_lt_of_le z7 hb.size, Nat.lt_of_lt_of_le z8 hb.size, Nat.lt_of_lt_of_le z9 hb.size, Nat.lt_of_lt_of_le z10 hb.size, Nat.lt_of_lt_of_le z11 hb.size⟩)
    replace gb := Below.refl W7.heap.size W7
    go_wp2_with fail
    go_region_held3 (fun W' => W'.cell? ⟨w.heap.size, 0, none⟩ = some (.bool b0) ∧ W'.cell? ⟨w.heap.size, 1, none⟩ = some (.slice a0 n0 c0) ∧ W'.cell? ⟨w.heap.size, 2, none⟩ = some (.slice a1 n1 c1) ∧ W'.cell? ⟨w3.heap.size, 0, none⟩ = some (.bool mg) ∧ W'.cell? ⟨w3.heap.size, 1, none⟩ = some (.slice a3_ n3_ c3_) ∧ W'.cell? ⟨w3.heap.size, 2, none⟩ = some (.slice p3_ m3_ k3_) ∧ W'.cell? ⟨w4.heap.size, 0, none⟩ = some (.bool mg) ∧ W'.cell? ⟨w4.heap.size, 1, none⟩ = some (.slice a4_ n4_ c4_) ∧ W'.cell? ⟨w4.heap.size, 2, none⟩ = some (.slice p4_ m4_ k4_) ∧ W'.cell? ⟨w5.heap.size, 0, none⟩ = some (.bool ng5) ∧ W'.cell? ⟨w5.heap.size, 1, none⟩ = some (.slice a5_ n5_ c5_) ∧ W'.cell? ⟨w5.heap.size, 2, none⟩ = some (.slice p5_ m5_ k5_) ∧ W'.cell? ⟨w6.heap.size, 0, none⟩ = some (.bool ng6) ∧ W'.cell? ⟨w6.heap.size, 1, none⟩ = some (.slice a6_ n6_ c6_) ∧ W'.cell? ⟨w6.heap.size, 2, none⟩ = some (.slice p6_ m6_ k6_) ∧ W'.cell? ⟨w7.heap.size, 0, none⟩ = some (.bool ng7) ∧ W'.cell? ⟨w7.heap.size, 1, none⟩ = some (.slice a7_ n7_ c7_) ∧ W'.cell? ⟨w7.heap.size, 2, none⟩ = some (.slice p7_ m7_ k7_)) (first | (with_reducible exact ⟨x0_0, x0_1, x0_2, x7_0, x7_1, x7_2, x8_0, x8_1, x8_2, x9_0, x9_1, x9_2, x10_0, x10_1, x10_2, x11_0, x11_1, x11_2⟩) | exact ⟨x0_0, x0_1, x0_2, x7_0, x7_1, x7_2, x8_0, x8_1, x8_2, x9_0, x9_1, x9_2, x10_0, x10_1, x10_2, x11_0, x11_1, x11_2⟩) (first
      | (go_at_call 15; (with_reducible refine (equal_q _ g11 (g7.to gb)).mono ?_); rintro e w12 ⟨rfl, hb12⟩; have g11 := g11.to hb12; have gb := below_step gb hb12; obtain ⟨x0_0, x0_1, x0_2, x7_0, x7_1, x7_2, x8_0, x8_1, x8_2, x9_0, x9_1, x9_2, x10_0, x10_1, x10_2, x11_0, x11_1, x11_2⟩ := HXW7.out _ gb; obtain ⟨y0_0, y0_1, y0_2, y7_0, y7_1, y7_2, y8_0, y8_1, y8_2, y9_0, y9_1, y9_2, y10_0, y10_1, y10_2, y11_0, y11_1, y11_2⟩ := HYW7.out _ gb; obtain ⟨z0, z7, z8, z9, z10, z11⟩ := HZW7.out _ gb)
      | (go_at_call 20; (with_reducible refine (ratio_mul _ _ _ _ _ _ _ _ _ _ _ (g5.to gb).isQ (g6.to gb).isQ (A ^ (I + J)) HE.out L4).mono ?_); rintro e w11 ⟨ng11, a11_, n11_, c11_, p11_, m11_, k11_, rfl, g11, hb11⟩; have gb := below_step gb hb11; obtain ⟨x0_0, x0_1, x0_2, x7_0, x7_1, x7_2, x8_0, x8_1, x8_2, x9_0, x9_1, x9_2, x10_0, x10_1, x10_2, x11_0, x11_1, x11_2⟩ := HXW7.out _ gb; obtain ⟨y0_0, y0_1, y0_2, y7_0, y7_1, y7_2, y8_0, y8_1, y8_2, y9_0, y9_1, y9_2, y10_0, y10_1, y10_2, y11_0, y11_1, y11_2⟩ := HYW7.out _ gb; obtain ⟨z0, z7, z8, z9, z10, z11⟩ := HZW7.out _ gb)
      | (go_at_call 15; have gb := gb.drew; (with_reducible refine (equal_f _ (g3.to gb) (g4.to gb)).mono ?_); rintro e w10 ⟨rfl, hb10⟩; have gb := below_step gb hb10; obtain ⟨x0_0, x0_1, x0_2, x7_0, x7_1, x7_2, x8_0, x8_1, x8_2, x9_0, x9_1, x9_2, x10_0, x10_1, x10_2, x11_0, x11_1, x11_2⟩ := HXW7.out _ gb; obtain ⟨y0_0, y0_1, y0_2, y7_0, y7_1, y7_2, y8_0, y8_1, y8_2, y9_0, y9_1, y9_2, y10_0, y10_1, y10_2, y11_0, y11_1, y11_2⟩ := HYW7.out _ gb; obtain ⟨z0, z7, z8, z9, z10, z11⟩ := HZW7.out _ gb))
    go_wp2_with fail
    go_ret
    exact ⟨by first | rfl | exact ret_bool (by simp), below_step zb gb⟩
  · skip
    go_enter Try.func4, Try.ntmps4
    go_wp2_with fail
    obtain ⟨W0, hW0⟩ : ∃ W0, w.alloc (.cells #[.bool b0, .slice a0 n0 c0, .slice a1 n1 c1] 24) = W0 := ⟨_, rfl⟩
    have HXW0 := Lib.hid (show ∀ W', Below W0.heap.size W0 W' → (W'.cell? ⟨w.heap.size, 0, none⟩ = some (.bool b0) ∧ W'.cell? ⟨w.heap.size, 1, none⟩ = some (.slice a0 n0 c0) ∧ W'.cell? ⟨w.heap.size, 2, none⟩ = some (.slice a1 n1 c1)) from fun W' hb =>
      ⟨(hb.cell (p := ⟨w.heap.size, 0, none⟩) (by rw [← hW0]; simp <;> omega)).trans (by rw [← hW0]; simp [go_sem]), (hb.cell (p := ⟨w.heap.size, 1, none⟩) (by rw [← hW0]; simp <;> omega)).trans (by rw [← hW0]; simp [go_sem]), (hb.cell (p := ⟨w.heap.size, 2, none⟩) (by rw [← hW0]; simp <;> omega)).trans (by rw [← hW0]; simp [go_sem])⟩)
    have HYW0 := Lib.hid (show ∀ W', Below W0.heap.size W0 W' → (W'.frozen? ⟨w.heap.size, 0, none⟩ = false ∧ W'.frozen? ⟨w.heap.size, 1, none⟩ = false ∧ W'.frozen? ⟨w.heap.size, 2, none⟩ = false) from fun W' hb =>
      ⟨(hb.frozen (p := ⟨w.heap.size, 0, none⟩) (by rw [← hW0]; simp <;> omega)).trans (by rw [← hW0]; simp [go_sem]), (hb.frozen (p := ⟨w.heap.size, 1, none⟩) (by rw [← hW0]; simp <;> omega)).trans (by rw [← hW0]; simp [go_sem]), (hb.frozen (p := ⟨w.heap.size, 2, none⟩) (by rw [← hW0]; simp <;> omega)).trans (by rw [← hW0]; simp [go_sem])⟩)
    have HZW0 := Lib.hid (show ∀ W', Below W0.heap.size W0 W' → (w.heap.size < W'.heap.size) from fun W' hb =>
      Nat.lt_of_lt_of_le (by rw [← hW0]; simp <;> omega) hb.size)
    have zb : Below w.heap.size w W0 := by rw [← hW0]; exact below_new _ _
    rw [hW0]
    clear hW0
    have i0 := j0.to zb
    have gb : Below W0.heap.size W0 W0 := Below.refl _ _
    obtain ⟨x0_0, x0_1, x0_2⟩ := HXW0.out _ gb
    obtain ⟨y0_0, y0_1, y0_2⟩ := HYW0.out _ gb
    obtain z0 := HZW0.out _ gb
    refine (awake8 _).mono ?_
    clear x0_0 y0_0 x0_1 y0_1 x0_2 y0_2
    rintro e w1 ⟨rfl, hb1⟩
    replace gb := below_step gb hb1
    obtain ⟨x0_0, x0_1, x0_2⟩ := HXW0.out _ gb
    obtain ⟨y0_0, y0_1, y0_2⟩ := HYW0.out _ gb
    obtain z0 := HZW0.out _ gb
    go_wp2_with fail
    refine (M1.out _ (i0.to gb)).mono ?_
    clear x0_0 y0_0 x0_1 y0_1 x0_2 y0_2
    rintro e w3 ⟨a3_, n3_, c3_, p3_, m3_, k3_, rfl, g3, hb3⟩
    replace gb := below_step gb hb3
    obtain ⟨x0_0, x0_1, x0_2⟩ := HXW0.out _ gb
    obtain ⟨y0_0, y0_1, y0_2⟩ := HYW0.out _ gb
    obtain z0 := HZW0.out _ gb
    go_wp2_with fail
    obtain ⟨W3, hW3⟩ : ∃ W3, w3.alloc (.cells #[.bool mg, .slice a3_ n3_ c3_, .slice p3_ m3_ k3_] 24) = W3 := ⟨_, rfl⟩
    have hb_W3 : Below w3.heap.size w3 W3 := by rw [← hW3]; exact below_new _ _
    have hs_W3 : Hid (W3.heap.size = w3.heap.size + 1) := by show _ = _; rw [← hW3]; simp
    clear x0_0 y0_0 x0_1 y0_1 x0_2 y0_2
    replace g3 := g3.to hb_W3
    replace gb := below_step gb hb_W3
    obtain ⟨x0_0, x0_1, x0_2⟩ := HXW0.out _ gb
    obtain ⟨y0_0, y0_1, y0_2⟩ := HYW0.out _ gb
    obtain z0 := HZW0.out _ gb
    have x7_0 : W3.cell? ⟨w3.heap.size, 0, none⟩ = some (.bool mg) := by rw [← hW3]; simp [go_sem]
    have y7_0 : W3.frozen? ⟨w3.heap.size, 0, none⟩ = false := by rw [← hW3]; simp [go_sem]
    have x7_1 : W3.cell? ⟨w3.heap.size, 1, none⟩ = some (.slice a3_ n3_ c3_) := by rw [← hW3]; simp [go_sem]
    have y7_1 : W3.frozen? ⟨w3.heap.size, 1, none⟩ = false := by rw [← hW3]; simp [go_sem]
    have x7_2 : W3.cell? ⟨w3.heap.size, 2, none⟩ = some (.slice p3_ m3_ k3_) := by rw [← hW3]; simp [go_sem]
    have y7_2 : W3.frozen? ⟨w3.heap.size, 2, none⟩ = false := by rw [← hW3]; simp [go_sem]
    have z7 : w3.heap.size < W3.heap.size := by rw [← hW3]; simp
    rw [hW3]
    clear hW3
    replace i0 := i0.to gb
    replace zb := below_step zb gb
    have HXW3 := Lib.hid (show ∀ W', Below W3.heap.size W3 W' → (W'.cell? ⟨w.heap.size, 0, none⟩ = some (.bool b0) ∧ W'.cell? ⟨w.heap.size, 1, none⟩ = some (.slice a0 n0 c0) ∧ W'.cell? ⟨w.heap.size, 2, none⟩ = some (.slice a1 n1 c1) ∧ W'.cell? ⟨w3.heap.size, 0, none⟩ = some (.bool mg) ∧ W'.cell? ⟨w3.heap.size, 1, none⟩ = some (.slice a3_ n3_ c3_) ∧ W'.cell? ⟨w3.heap.size, 2, none⟩ = some (.slice p3_ m3_ k3_)) from fun W' hb =>
      ⟨(hb.cell (p := ⟨w.heap.size, 0, none⟩) z0).trans x0_0, (hb.cell (p := ⟨w.heap.size, 1, none⟩) z0).trans x0_1, (hb.cell (p := ⟨w.heap.size, 2, none⟩) z0).trans x0_2, (hb.cell (p := ⟨w3.heap.size, 0, none⟩) z7).trans x7_0, (hb.cell (p := ⟨w3.heap.size, 1, none⟩) z7).trans x7_1, (hb.cell (p := ⟨w3.heap.size, 2, none⟩) z7).trans x7_2⟩)
    have HYW3 := Lib.hid (show ∀ W', Below W3.heap.size W3 W' → (W'.frozen? ⟨w.heap.size, 0, none⟩ = false ∧ W'.frozen? ⟨w.heap.size, 1, none⟩ = false ∧ W'.frozen? ⟨w.heap.size, 2, none⟩ = false ∧ W'.frozen? ⟨w3.heap.size, 0, none⟩ = false ∧ W'.frozen? ⟨w3.heap.size, 1, none⟩ = false ∧ W'.frozen? ⟨w3.heap.size, 2, none⟩ = false) from fun W' hb =>
      ⟨(hb.frozen (p := ⟨w.heap.size, 0, none⟩) z0).trans y0_0, (hb.frozen (p := ⟨w.heap.size, 1, none⟩) z0).trans y0_1, (hb.frozen (p := ⟨w.heap.size, 2, none⟩) z0).trans y0_2, (hb.frozen (p := ⟨w3.heap.size, 0, none⟩) z7).trans y7_0, (hb.frozen (p := ⟨w3.heap.size, 1, none⟩) z7).trans y7_1, (hb.frozen (p := ⟨w3.heap.size, 2, none⟩) z7).trans y7_2⟩)
    have HZW3 := Lib.hid (show ∀ W', Below W3.heap.size W3 W' → (w.heap.size < W'.heap.size ∧ w3.heap.size < W'.heap.size) from fun W' hb =>
      ⟨Nat.lt_of_lt_of_le z0 hb.size, Nat.lt_of_lt_of_le z7 hb.size⟩)
    replace gb := Below.refl W3.heap.size W3
    go_wp2_with fail
    refine (M2.out _ (i0.to gb)).mono ?_
    clear x0_0 y0_0 x0_1 y0_1 x0_2 y0_2 x7_0 y7_0 x7_1 y7_1 x7_2 y7_2
    rintro e w4 ⟨a4_, n4_, c4_, p4_, m4_, k4_, rfl, g4, hb4⟩
    replace gb := below_step gb hb4
    obtain ⟨x0_0, x0_1, x0_2, x7_0, x7_1, x7_2⟩ := HXW3.out _ gb
    obtain ⟨y0_0, y0_1, y0_2, y7_0, y7_1, y7_2⟩ := HYW3.out _ gb
    obtain ⟨z0, z7⟩ := HZW3.out _ gb
    go_wp2_with fail
    obtain ⟨W4, hW4⟩ : ∃ W4, w4.alloc (.cells #[.bool mg, .slice a4_ n4_ c4_, .slice p4_ m4_ k4_] 24) = W4 := ⟨_, rfl⟩
    have hb_W4 : Below w4.heap.size w4 W4 := by rw [← hW4]; exact below_new _ _
    have hs_W4 : Hid (W4.heap.size = w4.heap.size + 1) := by show _ = _; rw [← hW4]; simp
    clear x0_0 y0_0 x0_1 y0_1 x0_2 y0_2 x7_0 y7_0 x7_1 y7_1 x7_2 y7_2
    replace g4 := g4.to hb_W4
    replace gb := below_step gb hb_W4
    obtain ⟨x0_0, x0_1, x0_2, x7_0, x7_1, x7_2⟩ := HXW3.out _ gb
    obtain ⟨y0_0, y0_1, y0_2, y7_0, y7_1, y7_2⟩ := HYW3.out _ gb
    obtain ⟨z0, z7⟩ := HZW3.out _ gb
    have x8_0 : W4.cell? ⟨w4.heap.size, 0, none⟩ = some (.bool mg) := by rw [← hW4]; simp [go_sem]
    have y8_0 : W4.frozen? ⟨w4.heap.size, 0, none⟩ = false := by rw [← hW4]; simp [go_sem]
    have x8_1 : W4.cell? ⟨w4.heap.size, 1, none⟩ = some (.slice a4_ n4_ c4_) := by rw [← hW4]; simp [go_sem]
    have y8_1 : W4.frozen? ⟨w4.heap.size, 1, none⟩ = false := by rw [← hW4]; simp [go_sem]
    have x8_2 : W4.cell? ⟨w4.heap.size, 2, none⟩ = some (.slice p4_ m4_ k4_) := by rw [← hW4]; simp [go_sem]
    have y8_2 : W4.frozen? ⟨w4.heap.size, 2, none⟩ = false := by rw [← hW4]; simp [go_sem]
    have z8 : w4.heap.size < W4.heap.size := by rw [← hW4]; simp
    rw [hW4]
    clear hW4
    replace i0 := i0.to gb
    replace g3 := g3.to gb
    replace zb := below_step zb gb
    have HXW4 := Lib.hid (show ∀ W', Below W4.heap.size W4 W' → (W'.cell? ⟨w.heap.size, 0, none⟩ = some (.bool b0) ∧ W'.cell? ⟨w.heap.size, 1, none⟩ = some (.slice a0 n0 c0) ∧ W'.cell? ⟨w.heap.size, 2, none⟩ = some (.slice a1 n1 c1) ∧ W'.cell? ⟨w3.heap.size, 0, none⟩ = some (.bool mg) ∧ W'.cell? ⟨w3.heap.size, 1, none⟩ = some (.slice a3_ n3_ c3_) ∧ W'.cell? ⟨w3.heap.size, 2, none⟩ = some (.slice p3_ m3_ k3_) ∧ W'.cell? ⟨w4.heap.size, 0, none⟩ = some (.bool mg) ∧ W'.cell? ⟨w4.heap.size, 1, none⟩ = some (.slice a4_ n4_ c4_) ∧ W'.cell? ⟨w4.heap.size, 2, none⟩ = some (.slice p4_ m4_ k4_)) from fun W' hb =>
      ⟨(hb.cell (p := ⟨w.heap.size, 0, none⟩) z0).trans x0_0, (hb.cell (p := ⟨w.heap.size, 1, none⟩) z0).trans x0_1, (hb.cell (p := ⟨w.heap.size, 2, none⟩) z0).trans x0_2, (hb.cell (p := ⟨w3.heap.size, 0, none⟩) z7).trans x7_0, (hb.cell (p := ⟨w3.heap.size, 1, none⟩) z7).trans x7_1, (hb.cell (p := ⟨w3.heap.size, 2, none⟩) z7).trans x7_2, (hb.cell (p := ⟨w4.heap.size, 0, none⟩) z8).trans x8_0, (hb.cell (p := ⟨w4.heap.size, 1, none⟩) z8).trans x8_1, (hb.cell (p := ⟨w4.heap.size, 2, none⟩) z8).trans x8_2⟩)
    have HYW4 := Lib.hid (show ∀ W', Below W4.heap.size W4 W' → (W'.frozen? ⟨w.heap.size, 0, none⟩ = false ∧ W'.frozen? ⟨w.heap.size, 1, none⟩ = false ∧ W'.frozen? ⟨w.heap.size, 2, none⟩ = false ∧ W'.frozen? ⟨w3.heap.size, 0, none⟩ = false ∧ W'.frozen? ⟨w3.heap.size, 1, none⟩ = false ∧ W'.frozen? ⟨w3.heap.size, 2, none⟩ = false ∧ W'.frozen? ⟨w4.heap.size, 0, none⟩ = false ∧ W'.frozen? ⟨w4.heap.size, 1, none⟩ = false ∧ W'.frozen? ⟨w4.heap.size, 2, none⟩ = false) from fun W' hb =>
      ⟨(hb.frozen (p := ⟨w.heap.size, 0, none⟩) z0).trans y0_0, (hb.frozen (p := ⟨w.heap.size, 1, none⟩) z0).trans y0_1, (hb.frozen (p := ⟨w.heap.size, 2, none⟩) z0).trans y0_2, (hb.frozen (p := ⟨w3.heap.size, 0, none⟩) z7).trans y7_0, (hb.frozen (p := ⟨w3.heap.size, 1, none⟩) z7).trans y7_1, (hb.frozen (p := ⟨w3.heap.size, 2, none⟩) z7).trans y7_2, (hb.frozen (p := ⟨w4.heap.size, 0, none⟩) z8).trans y8_0, (hb.frozen (p := ⟨w4.heap.size, 1, none⟩) z8).trans y8_1, (hb.frozen (p := ⟨w4.heap.size, 2, none⟩) z8).trans y8_2⟩)
    have HZW4 := Lib.hid (show ∀ W', Below W4.heap.size W4 W' → (w.heap.size < W'.heap.size ∧ w3.heap.size < W'.heap.size ∧ w4.heap.size < W'.heap.size) from fun W' hb =>
      ⟨Nat.lt_of_lt_of_le z0 hb.size, Nat.lt_of_lt_of_le z7 hb.size, Nat.lt_of_lt_of_le z8 hb.size⟩)
    replace gb := Below.refl W4.heap.size W4
    go_wp2_with fail
    refine (pow_int _ _ _ _ _ _ I _ (i0.to gb) rfl (by omega) L1.out).mono ?_
    clear x0_0 y0_0 x0_1 y0_1 x0_2 y0_2 x7_0 y7_0 x7_1 y7_1 x7_2 y7_2 x8_0 y8_0 x8_1 y8_1 x8_2 y8_2
    rintro e w5 ⟨ng5, a5_, n5_, c5_, p5_, m5_, k5_, rfl, g5, hb5⟩
    replace gb := below_step gb hb5
    obtain ⟨x0_0, x0_1, x0_2, x7_0, x7_1, x7_2, x8_0, x8_1, x8_2⟩ := HXW4.out _ gb
    obtain ⟨y0_0, y0_1, y0_2, y7_0, y7_1, y7_2, y8_0, y8_1, y8_2⟩ := HYW4.out _ gb
    obtain ⟨z0, z7, z8⟩ := HZW4.out _ gb
    go_wp2_with fail
    obtain ⟨W5, hW5⟩ : ∃ W5, w5.alloc (.cells #[.bool ng5, .slice a5_ n5_ c5_, .slice p5_ m5_ k5_] 24) = W5 := ⟨_, rfl⟩
    have hb_W5 : Below w5.heap.size w5 W5 := by rw [← hW5]; exact below_new _ _
    have hs_W5 : Hid (W5.heap.size = w5.heap.size + 1) := by show _ = _; rw [← hW5]; simp
    clear x0_0 y0_0 x0_1 y0_1 x0_2 y0_2 x7_0 y7_0 x7_1 y7_1 x7_2 y7_2 x8_0 y8_0 x8_1 y8_1 x8_2 y8_2
    replace g5 := g5.to hb_W5
    replace gb := below_step gb hb_W5
    obtain ⟨x0_0, x0_1, x0_2, x7_0, x7_1, x7_2, x8_0, x8_1, x8_2⟩ := HXW4.out _ gb
    obtain ⟨y0_0, y0_1, y0_2, y7_0, y7_1, y7_2, y8_0, y8_1, y8_2⟩ := HYW4.out _ gb
    obtain ⟨z0, z7, z8⟩ := HZW4.out _ gb
    have x9_0 : W5.cell? ⟨w5.heap.size, 0, none⟩ = some (.bool ng5) := by rw [← hW5]; simp [go_sem]
    have y9_0 : W5.frozen? ⟨w5.heap.size, 0, none⟩ = false := by rw [← hW5]; simp [go_sem]
    have x9_1 : W5.cell? ⟨w5.heap.size, 1, none⟩ = some (.slice a5_ n5_ c5_) := by rw [← hW5]; simp [go_sem]
    have y9_1 : W5.frozen? ⟨w5.heap.size, 1, none⟩ = false := by rw [← hW5]; simp [go_sem]
    have x9_2 : W5.cell? ⟨w5.heap.size, 2, none⟩ = some (.slice p5_ m5_ k5_) := by rw [← hW5]; simp [go_sem]
    have y9_2 : W5.frozen? ⟨w5.heap.size, 2, none⟩ = false := by rw [← hW5]; simp [go_sem]
    have z9 : w5.heap.size < W5.heap.size := by rw [← hW5]; simp
    rw [hW5]
    clear hW5
    replace i0 := i0.to gb
    replace g3 := g3.to gb
    replace g4 := g4.to gb
    replace zb := below_step zb gb
    have HXW5 := Lib.hid (show ∀ W', Below W5.heap.size W5 W' → (W'.cell? ⟨w.heap.size, 0, none⟩ = some (.bool b0) ∧ W'.cell? ⟨w.heap.size, 1, none⟩ = some (.slice a0 n0 c0) ∧ W'.cell? ⟨w.heap.size, 2, none⟩ = some (.slice a1 n1 c1) ∧ W'.cell? ⟨w3.heap.size, 0, none⟩ = some (.bool mg) ∧ W'.cell? ⟨w3.heap.size, 1, none⟩ = some (.slice a3_ n3_ c3_) ∧ W'.cell? ⟨w3.heap.size, 2, none⟩ = some (.slice p3_ m3_ k3_) ∧ W'.cell? ⟨w4.heap.size, 0, none⟩ = some (.bool mg) ∧ W'.cell? ⟨w4.heap.size, 1, none⟩ = some (.slice a4_ n4_ c4_) ∧ W'.cell? ⟨w4.heap.size, 2, none⟩ = some (.slice p4_ m4_ k4_) ∧ W'.cell? ⟨w5.heap.size, 0, none⟩ = some (.bool ng5) ∧ W'.cell? ⟨w5.heap.size, 1, none⟩ = some (.slice a5_ n5_ c5_) ∧ W'.cell? ⟨w5.heap.size, 2, none⟩ = some (.slice p5_ m5_ k5_)) from fun W' hb =>
      ⟨(hb.cell (p := ⟨w.heap.size, 0, none⟩) z0).trans x0_0, (hb.cell (p := ⟨w.heap.size, 1, none⟩) z0).trans x0_1, (hb.cell (p := ⟨w.heap.size, 2, none⟩) z0).trans x0_2, (hb.cell (p := ⟨w3.heap.size, 0, none⟩) z7).trans x7_0, (hb.cell (p := ⟨w3.heap.size, 1, none⟩) z7).trans x7_1, (hb.cell (p := ⟨w3.heap.size, 2, none⟩) z7).trans x7_2, (hb.cell (p := ⟨w4.heap.size, 0, none⟩) z8).trans x8_0, (hb.cell (p := ⟨w4.heap.size, 1, none⟩) z8).trans x8_1, (hb.cell (p := ⟨w4.heap.size, 2, none⟩) z8).trans x8_2, (hb.cell (p := ⟨w5.heap.size, 0, none⟩) z9).trans x9_0, (hb.cell (p := ⟨w5.heap.size, 1, none⟩) z9).trans x9_1, (hb.cell (p := ⟨w5.heap.size, 2, none⟩) z9).trans x9_2⟩)
    have HYW5 := Lib.hid (show ∀ W', Below W5.heap.size W5 W' → (W'.frozen? ⟨w.heap.size, 0, none⟩ = false ∧ W'.frozen? ⟨w.heap.size, 1, none⟩ = false ∧ W'.frozen? ⟨w.heap.size, 2, none⟩ = false ∧ W'.frozen? ⟨w3.heap.size, 0, none⟩ = false ∧ W'.frozen? ⟨w3.heap.size, 1, none⟩ = false ∧ W'.frozen? ⟨w3.heap.size, 2, none⟩ = false ∧ W'.frozen? ⟨w4.heap.size, 0, none⟩ = false ∧ W'.frozen? ⟨w4.heap.size, 1, none⟩ = false ∧ W'.frozen? ⟨w4.heap.size, 2, none⟩ = false ∧ W'.frozen? ⟨w5.heap.size, 0, none⟩ = false ∧ W'.frozen? ⟨w5.heap.size, 1, none⟩ = false ∧ W'.frozen? ⟨w5.heap.size, 2, none⟩ = false) from fun W' hb =>
      ⟨(hb.frozen (p := ⟨w.heap.size, 0, none⟩) z0).trans y0_0, (hb.frozen (p := ⟨w.heap.size, 1, none⟩) z0).trans y0_1, (hb.frozen (p := ⟨w.heap.size, 2, none⟩) z0).trans y0_2, (hb.frozen (p := ⟨w3.heap.size, 0, none⟩) z7).trans y7_0, (hb.frozen (p := ⟨w3.heap.size, 1, none⟩) z7).trans y7_1, (hb.frozen (p := ⟨w3.heap.size, 2, none⟩) z7).trans y7_2, (hb.frozen (p := ⟨w4.heap.size, 0, none⟩) z8).trans y8_0, (hb.frozen (p := ⟨w4.heap.size, 1, none⟩) z8).trans y8_1, (hb.frozen (p := ⟨w4.heap.size, 2, none⟩) z8).trans y8_2, (hb.frozen (p := ⟨w5.heap.size, 0, none⟩) z9).trans y9_0, (hb.frozen (p := ⟨w5.heap.size, 1, none⟩) z9).trans y9_1, (hb.frozen (p := ⟨w5.heap.size, 2, none⟩) z9).trans y9_2⟩)
    have HZW5 := Lib.hid (show ∀ W', Below W5.heap.size W5 W' → (w.heap.size < W'.heap.size ∧ w3.heap.size < W'.heap.size ∧ w4.heap.size < W'.heap.size ∧ w5.heap.size < W'.heap.size) from fun W' hb =>
      ⟨Nat.lt_of_lt_of_le z0 hb.size, Nat.lt_of_lt_of_le z7 hb.size, Nat.lt_of_lt_of_le z8 hb.size, Nat.lt_of_lt_of_le z9 hb.size⟩)
    replace gb := Below.refl W5.heap.size W5
    go_wp2_with fail
    refine (pow_int _ _ _ _ _ _ J _ (i0.to gb) rfl (by omega) L2.out).mono ?_
    clear x0_0 y0_0 x0_1 y0_1 x0_2 y0_2 x7_0 y7_0 x7_1 y7_1 x7_2 y7_2 x8_0 y8_0 x8_1 y8_1 x8_2 y8_2 x9_0 y9_0 x9_1 y9_1 x9_2 y9_2
    rintro e w6 ⟨ng6, a6_, n6_, c6_, p6_, m6_, k6_, rfl, g6, hb6⟩
    replace gb := below_step gb hb6
    obtain ⟨x0_0, x0_1, x0_2, x7_0, x7_1, x7_2, x8_0, x8_1, x8_2, x9_0, x9_1, x9_2⟩ := HXW5.out _ gb
    obtain ⟨y0_0, y0_1, y0_2, y7_0, y7_1, y7_2, y8_0, y8_1, y8_2, y9_0, y9_1, y9_2⟩ := HYW5.out _ gb
    obtain ⟨z0, z7, z8, z9⟩ := HZW5.out _ gb
    go_wp2_with fail
    obtain ⟨W6, hW6⟩ : ∃ W6, w6.alloc (.cells #[.bool ng6, .slice a6_ n6_ c6_, .slice p6_ m6_ k6_] 24) = W6 := ⟨_, rfl⟩
    have hb_W6 : Below w6.heap.size w6 W6 := by rw [← hW6]; exact below_new _ _
    have hs_W6 : Hid (W6.heap.size = w6.heap.size + 1) := by show _ = _; rw [← hW6]; simp
    clear x0_0 y0_0 x0_1 y0_1 x0_2 y0_2 x7_0 y7_0 x7_1 y7_1 x7_2 y7_2 x8_0 y8_0 x8_1 y8_1 x8_2 y8_2 x9_0 y9_0 x9_1 y9_1 x9_2 y9_2
    replace g6 := g6.to hb_W6
    replace gb := below_step gb hb_W6
    obtain ⟨x0_0, x0_1, x0_2, x7_0, x7_1, x7_2, x8_0, x8_1, x8_2, x9_0, x9_1, x9_2⟩ := HXW5.out _ gb
    obtain ⟨y0_0, y0_1, y0_2, y7_0, y7_1, y7_2, y8_0, y8_1, y8_2, y9_0, y9_1, y9_2⟩ := HYW5.out _ gb
    obtain ⟨z0, z7, z8, z9⟩ := HZW5.out _ gb
    have x10_0 : W6.cell? ⟨w6.heap.size, 0, none⟩ = some (.bool ng6) := by rw [← hW6]; simp [go_sem]
    have y10_0 : W6.frozen? ⟨w6.heap.size, 0, none⟩ = false := by rw [← hW6]; simp [go_sem]
    have x10_1 : W6.cell? ⟨w6.heap.size, 1, none⟩ = some (.slice a6_ n6_ c6_) := by rw [← hW6]; simp [go_sem]
    have y10_1 : W6.frozen? ⟨w6.heap.size, 1, none⟩ = false := by rw [← hW6]; simp [go_sem]
    have x10_2 : W6.cell? ⟨w6.heap.size, 2, none⟩ = some (.slice p6_ m6_ k6_) := by rw [← hW6]; simp [go_sem]
    have y10_2 : W6.frozen? ⟨w6.heap.size, 2, none⟩ = false := by rw [← hW6]; simp [go_sem]
    have z10 : w6.heap.size < W6.heap.size := by rw [← hW6]; simp
    rw [hW6]
    clear hW6
    replace i0 := i0.to gb
    replace g3 := g3.to gb
    replace g4 := g4.to gb
    replace g5 := g5.to gb
    replace zb := below_step zb gb
    have HXW6 := Lib.hid (show ∀ W', Below W6.heap.size W6 W' → (W'.cell? ⟨w.heap.size, 0, none⟩ = some (.bool b0) ∧ W'.cell? ⟨w.heap.size, 1, none⟩ = some (.slice a0 n0 c0) ∧ W'.cell? ⟨w.heap.size, 2, none⟩ = some (.slice a1 n1 c1) ∧ W'.cell? ⟨w3.heap.size, 0, none⟩ = some (.bool mg) ∧ W'.cell? ⟨w3.heap.size, 1, none⟩ = some (.slice a3_ n3_ c3_) ∧ W'.cell? ⟨w3.heap.size, 2, none⟩ = some (.slice p3_ m3_ k3_) ∧ W'.cell? ⟨w4.heap.size, 0, none⟩ = some (.bool mg) ∧ W'.cell? ⟨w4.heap.size, 1, none⟩ = some (.slice a4_ n4_ c4_) ∧ W'.cell? ⟨w4.heap.size, 2, none⟩ = some (.slice p4_ m4_ k4_) ∧ W'.cell? ⟨w5.heap.size, 0, none⟩ = some (.bool ng5) ∧ W'.cell? ⟨w5.heap.size, 1, none⟩ = some (.slice a5_ n5_ c5_) ∧ W'.cell? ⟨w5.heap.size, 2, none⟩ = some (.slice p5_ m5_ k5_) ∧ W'.cell? ⟨w6.heap.size, 0, none⟩ = some (.bool ng6) ∧ W'.cell? ⟨w6.heap.size, 1, none⟩ = some (.slice a6_ n6_ c6_) ∧ W'.cell? ⟨w6.heap.size, 2, none⟩ = some (.slice p6_ m6_ k6_)) from fun W' hb =>
      ⟨(hb.cell (p := ⟨w.heap.size, 0, none⟩) z0).trans x0_0, (hb.cell (p := ⟨w.heap.size, 1, none⟩) z0).trans x0_1, (hb.cell (p := ⟨w.heap.size, 2, none⟩) z0).trans x0_2, (hb.cell (p := ⟨w3.heap.size, 0, none⟩) z7).trans x7_0, (hb.cell (p := ⟨w3.heap.size, 1, none⟩) z7).trans x7_1, (hb.cell (p := ⟨w3.heap.size, 2, none⟩) z7).trans x7_2, (hb.cell (p := ⟨w4.heap.size, 0, none⟩) z8).trans x8_0, (hb.cell (p := ⟨w4.heap.size, 1, none⟩) z8).trans x8_1, (hb.cell (p := ⟨w4.heap.size, 2, none⟩) z8).trans x8_2, (hb.cell (p := ⟨w5.heap.size, 0, none⟩) z9).trans x9_0, (hb.cell (p := ⟨w5.heap.size, 1, none⟩) z9).trans x9_1, (hb.cell (p := ⟨w5.heap.size, 2, none⟩) z9).trans x9_2, (hb.cell (p := ⟨w6.heap.size, 0, none⟩) z10).trans x10_0, (hb.cell (p := ⟨w6.heap.size, 1, none⟩) z10).trans x10_1, (hb.cell (p := ⟨w6.heap.size, 2, none⟩) z10).trans x10_2⟩)
    have HYW6 := Lib.hid (show ∀ W', Below W6.heap.size W6 W' → (W'.frozen? ⟨w.heap.size, 0, none⟩ = false ∧ W'.frozen? ⟨w.heap.size, 1, none⟩ = false ∧ W'.frozen? ⟨w.heap.size, 2, none⟩ = false ∧ W'.frozen? ⟨w3.heap.size, 0, none⟩ = false ∧ W'.frozen? ⟨w3.heap.size, 1, none⟩ = false ∧ W'.frozen? ⟨w3.heap.size, 2, none⟩ = false ∧ W'.frozen? ⟨w4.heap.size, 0, none⟩ = false ∧ W'.frozen? ⟨w4.heap.size, 1, none⟩ = false ∧ W'.frozen? ⟨w4.heap.size, 2, none⟩ = false ∧ W'.frozen? ⟨w5.heap.size, 0, none⟩ = false ∧ W'.frozen? ⟨w5.heap.size, 1, none⟩ = false ∧ W'.frozen? ⟨w5.heap.size, 2, none⟩ = false ∧ W'.frozen? ⟨w6.heap.size, 0, none⟩ = false ∧ W'.frozen? ⟨w6.heap.size, 1, none⟩ = false ∧ W'.frozen? ⟨w6.heap.size, 2, none⟩ = false) from fun W' hb =>
      ⟨(hb.frozen (p := ⟨w.heap.size, 0, none⟩) z0).trans y0_0, (hb.frozen (p := ⟨w.heap.size, 1, none⟩) z0).trans y0_1, (hb.frozen (p := ⟨w.heap.size, 2, none⟩) z0).trans y0_2, (hb.frozen (p := ⟨w3.heap.size, 0, none⟩) z7).trans y7_0, (hb.frozen (p := ⟨w3.heap.size, 1, none⟩) z7).trans y7_1, (hb.frozen (p := ⟨w3.heap.size, 2, none⟩) z7).trans y7_2, (hb.frozen (p := ⟨w4.heap.size, 0, none⟩) z8).trans y8_0, (hb.frozen (p := ⟨w4.heap.size, 1, none⟩) z8).trans y8_1, (hb.frozen (p := ⟨w4.heap.size, 2, none⟩) z8).trans y8_2, (hb.frozen (p := ⟨w5.heap.size, 0, none⟩) z9).trans y9_0, (hb.frozen (p := ⟨w5.heap.size, 1, none⟩) z9).trans y9_1, (hb.frozen (p := ⟨w5.heap.size, 2, none⟩) z9).trans y9_2, (hb.frozen (p := ⟨w6.heap.size, 0, none⟩) z10).trans y10_0, (hb.frozen (p := ⟨w6.heap.size, 1, none⟩) z10).trans y10_1, (hb.frozen (p := ⟨w6.heap.size, 2, none⟩) z10).trans y10_2⟩)
    have HZW6 := Lib.hid (show ∀ W', Below W6.heap.size W6 W' → (w.heap.size < W'.heap.size ∧ w3.heap.size < W'.heap.size ∧ w4.heap.size < W'.heap.size ∧ w5.heap.size < W'.heap.size ∧ w6.heap.size < W'.heap.size) from fun W' hb =>
      ⟨Nat.lt_of_lt_of_le z0 hb.size, Nat.lt_of_lt_of_le z7 hb.size, Nat.lt_of_lt_of_le z8 hb.size, Nat.lt_of_lt_of_le z9 hb.size, Nat.lt_of_lt_of_le z10 hb.size⟩)
    replace gb := Below.refl W6.heap.size W6
    go_wp2_with fail
    refine (pow_int _ _ _ _ _ _ (I + J) _ (i0.to gb) (Int.natCast_add I J).symm (by omega) L3.out).mono ?_
    clear x0_0 y0_0 x0_1 y0_1 x0_2 y0_2 x7_0 y7_0 x7_1 y7_1 x7_2 y7_2 x8_0 y8_0 x8_1 y8_1 x8_2 y8_2 x9_0 y9_0 x9_1 y9_1 x9_2 y9_2 x10_0 y10_0 x10_1 y10_1 x10_2 y10_2
    rintro e w7 ⟨ng7, a7_, n7_, c7_, p7_, m7_, k7_, rfl, g7, hb7⟩
    replace gb := below_step gb hb7
    obtain ⟨x0_0, x0_1, x0_2, x7_0, x7_1, x7_2, x8_0, x8_1, x8_2, x9_0, x9_1, x9_2, x10_0, x10_1, x10_2⟩ := HXW6.out _ gb
    obtain ⟨y0_0, y0_1, y0_2, y7_0, y7_1, y7_2, y8_0, y8_1, y8_2, y9_0, y9_1, y9_2, y10_0, y10_1, y10_2⟩ := HYW6.out _ gb
    obtain ⟨z0, z7, z8, z9, z10⟩ := HZW6.out _ gb
    go_wp2_with fail
    obtain ⟨W7, hW7⟩ : ∃ W7, w7.alloc (.cells #[.bool ng7, .slice a7_ n7_ c7_, .slice p7_ m7_ k7_] 24) = W7 := ⟨_, rfl⟩
    have hb_W7 : Below w7.heap.size w7 W7 := by rw [← hW7]; exact below_new _ _
    have hs_W7 : Hid (W7.heap.size = w7.heap.size + 1) := by show _ = _; rw [← hW7]; simp
    clear x0_0 y0_0 x0_1 y0_1 x0_2 y0_2 x7_0 y7_0 x7_1 y7_1 x7_2 y7_2 x8_0 y8_0 x8_1 y8_1 x8_2 y8_2 x9_0 y9_0 x9_1 y9_1 x9_2 y9_2 x10_0 y10_0 x10_1 y10_1 x10_2 y10_2
    replace g7 := g7.to hb_W7
    replace gb := below_step gb hb_W7
    obtain ⟨x0_0, x0_1, x0_2, x7_0, x7_1, x7_2, x8_0, x8_1, x8_2, x9_0, x9_1, x9_2, x10_0, x10_1, x10_2⟩ := HXW6.out _ gb
    obtain ⟨y0_0, y0_1, y0_2, y7_0, y7_1, y7_2, y8_0, y8_1, y8_2, y9_0, y9_1, y9_2, y10_0, y10_1, y10_2⟩ := HYW6.out _ gb
    obtain ⟨z0, z7, z8, z9, z10⟩ := HZW6.out _ gb
    have x11_0 : W7.cell? ⟨w7.heap.size, 0, none⟩ = some (.bool ng7) := by rw [← hW7]; simp [go_sem]
    have y11_0 : W7.frozen? ⟨w7.heap.size, 0, none⟩ = false := by rw [← hW7]; simp [go_sem]
    have x11_1 : W7.cell? ⟨w7.heap.size, 1, none⟩ = some (.slice a7_ n7_ c7_) := by rw [← hW7]; simp [go_sem]
    have y11_1 : W7.frozen? ⟨w7.heap.size, 1, none⟩ = false := by rw [← hW7]; simp [go_sem]
    have x11_2 : W7.cell? ⟨w7.heap.size, 2, none⟩ = some (.slice p7_ m7_ k7_) := by rw [← hW7]; simp [go_sem]
    have y11_2 : W7.frozen? ⟨w7.heap.size, 2, none⟩ = false := by rw [← hW7]; simp [go_sem]
    have z11 : w7.heap.size < W7.heap.size := by rw [← hW7]; simp
    rw [hW7]
    clear hW7
    replace i0 := i0.to gb
    replace g3 := g3.to gb
    replace g4 := g4.to gb
    replace g5 := g5.to gb
    replace g6 := g6.to gb
    replace zb := below_step zb gb
    have HXW7 := Lib.hid (show ∀ W', Below W7.heap.size W7 W' → (W'.cell? ⟨w.heap.size, 0, none⟩ = some (.bool b0) ∧ W'.cell? ⟨w.heap.size, 1, none⟩ = some (.slice a0 n0 c0) ∧ W'.cell? ⟨w.heap.size, 2, none⟩ = some (.slice a1 n1 c1) ∧ W'.cell? ⟨w3.heap.size, 0, none⟩ = some (.bool mg) ∧ W'.cell? ⟨w3.heap.size, 1, none⟩ = some (.slice a3_ n3_ c3_) ∧ W'.cell? ⟨w3.heap.size, 2, none⟩ = some (.slice p3_ m3_ k3_) ∧ W'.cell? ⟨w4.heap.size, 0, none⟩ = some (.bool mg) ∧ W'.cell? ⟨w4.heap.size, 1, none⟩ = some (.slice a4_ n4_ c4_) ∧ W'.cell? ⟨w4.heap.size, 2, none⟩ = some (.slice p4_ m4_ k4_) ∧ W'.cell? ⟨w5.heap.size, 0, none⟩ = some (.bool ng5) ∧ W'.cell? ⟨w5.heap.size, 1, none⟩ = some (.slice a5_ n5_ c5_) ∧ W'.cell? ⟨w5.heap.size, 2, none⟩ = some (.slice p5_ m5_ k5_) ∧ W'.cell? ⟨w6.heap.size, 0, none⟩ = some (.bool ng6) ∧ W'.cell? ⟨w6.heap.size, 1, none⟩ = some (.slice a6_ n6_ c6_) ∧ W'.cell? ⟨w6.heap.size, 2, none⟩ = some (.slice p6_ m6_ k6_) ∧ W'.cell? ⟨w7.heap.size, 0, none⟩ = some (.bool ng7) ∧ W'.cell? ⟨w7.heap.size, 1, none⟩ = some (.slice a7_ n7_ c7_) ∧ W'.cell? ⟨w7.heap.size, 2, none⟩ = some (.slice p7_ m7_ k7_)) from fun W' hb =>
      ⟨(hb.cell (p := ⟨w.heap.size, 0, none⟩) z0).trans x0_0, (hb.cell (p := ⟨w.heap.size, 1, none⟩) z0).trans x0_1, (hb.cell (p := ⟨w.heap.size, 2, none⟩) z0).trans x0_2, (hb.cell (p := ⟨w3.heap.size, 0, none⟩) z7).trans x7_0, (hb.cell (p := ⟨w3.heap.size, 1, none⟩) z7).trans x7_1, (hb.cell (p := ⟨w3.heap.size, 2, none⟩) z7).trans x7_2, (hb.cell (p := ⟨w4.heap.size, 0, none⟩) z8).trans x8_0, (hb.cell (p := ⟨w4.heap.size, 1, none⟩) z8).trans x8_1, (hb.cell (p := ⟨w4.heap.size, 2, none⟩) z8).trans x8_2, (hb.cell (p := ⟨w5.heap.size, 0, none⟩) z9).trans x9_0, (hb.cell (p := ⟨w5.heap.size, 1, none⟩) z9).trans x9_1, (hb.cell (p := ⟨w5.heap.size, 2, none⟩) z9).trans x9_2, (hb.cell (p := ⟨w6.heap.size, 0, none⟩) z10).trans x10_0, (hb.cell (p := ⟨w6.heap.size, 1, none⟩) z10).trans x10_1, (hb.cell (p := ⟨w6.heap.size, 2, none⟩) z10).trans x10_2, (hb.cell (p := ⟨w7.heap.size, 0, none⟩) z11).trans x11_0, (hb.cell (p := ⟨w7.heap.size, 1, none⟩) z11).trans x11_1, (hb.cell (p := ⟨w7.heap.size, 2, none⟩) z11).trans x11_2⟩)
    have HYW7 := Lib.hid (show ∀ W', Below W7.heap.size W7 W' → (W'.frozen? ⟨w.heap.size, 0, none⟩ = false ∧ W'.frozen? ⟨w.heap.size, 1, none⟩ = false ∧ W'.frozen? ⟨w.heap.size, 2, none⟩ = false ∧ W'.frozen? ⟨w3.heap.size, 0, none⟩ = false ∧ W'.frozen? ⟨w3.heap.size, 1, none⟩ = false ∧ W'.frozen? ⟨w3.heap.size, 2, none⟩ = false ∧ W'.frozen? ⟨w4.heap.size, 0, none⟩ = false ∧ W'.frozen? ⟨w4.heap.size, 1, none⟩ = false ∧ W'.frozen? ⟨w4.heap.size, 2, none⟩ = false ∧ W'.frozen? ⟨w5.heap.size, 0, none⟩ = false ∧ W'.frozen? ⟨w5.heap.size, 1, none⟩ = false ∧ W'.frozen? ⟨w5.heap.size, 2, none⟩ = false ∧ W'.frozen? ⟨w6.heap.size, 0, none⟩ = false ∧ W'.frozen? ⟨w6.heap.size, 1, none⟩ = false ∧ W'.frozen? ⟨w6.heap.size, 2, none⟩ = false ∧ W'.frozen? ⟨w7.heap.size, 0, none⟩ = false ∧ W'.frozen? ⟨w7.heap.size, 1, none⟩ = false ∧ W'.frozen? ⟨w7.heap.size, 2, none⟩ = false) from fun W' hb =>
      ⟨(hb.frozen (p := ⟨w.heap.size, 0, none⟩) z0).trans y0_0, (hb.frozen (p := ⟨w.heap.size, 1, none⟩) z0).trans y0_1, (hb.frozen (p := ⟨w.heap.size, 2, none⟩) z0).trans y0_2, (hb.frozen (p := ⟨w3.heap.size, 0, none⟩) z7).trans y7_0, (hb.frozen (p := ⟨w3.heap.size, 1, none⟩) z7).trans y7_1, (hb.frozen (p := ⟨w3.heap.size, 2, none⟩) z7).trans y7_2, (hb.frozen (p := ⟨w4.heap.size, 0, none⟩) z8).trans y8_0, (hb.frozen (p := ⟨w4.heap.size, 1, none⟩) z8).trans y8_1, (hb.frozen (p := ⟨w4.heap.size, 2, none⟩) z8).trans y8_2, (hb.frozen (p := ⟨w5.heap.size, 0, none⟩) z9).trans y9_0, (hb.frozen (p := ⟨w5.heap.size, 1, none⟩) z9).trans y9_1, (hb.frozen (p := ⟨w5.heap.size, 2, none⟩) z9).trans y9_2, (hb.frozen (p := ⟨w6.heap.size, 0, none⟩) z10).trans y10_0, (hb.frozen (p := ⟨w6.heap.size, 1, none⟩) z10).trans y10_1, (hb.frozen (p := ⟨w6.heap.size, 2, none⟩) z10).trans y10_2, (hb.frozen (p := ⟨w7.heap.size, 0, none⟩) z11).trans y11_0, (hb.frozen (p := ⟨w7.heap.size, 1, none⟩) z11).trans y11_1, (hb.frozen (p := ⟨w7.heap.size, 2, none⟩) z11).trans y11_2⟩)
    have HZW7 := Lib.hid (show ∀ W', Below W7.heap.size W7 W' → (w.heap.size < W'.heap.size ∧ w3.heap.size < W'.heap.size ∧ w4.heap.size < W'.heap.size ∧ w5.heap.size < W'.heap.size ∧ w6.heap.size < W'.heap.size ∧ w7.heap.size < W'.heap.size) from fun W' hb =>
      ⟨Nat.lt_of_lt_of_le z0 hb.size, Nat.lt_of_lt_of_le z7 hb.size, Nat.lt_of_lt_of_le z8 hb.size, Nat.lt_of_lt_of_le z9 hb.size, Nat.lt_of_lt_of_le z10 hb.size, Nat.lt_of_lt_of_le z11 hb.size⟩)
    replace gb := Below.refl W7.heap.size W7
    go_wp2_with fail
    go_region_held3 (fun W' => W'.cell? ⟨w.heap.size, 0, none⟩ = some (.bool b0) ∧ W'.cell? ⟨w.heap.size, 1, none⟩ = some (.slice a0 n0 c0) ∧ W'.cell? ⟨w.heap.size, 2, none⟩ = some (.slice a1 n1 c1) ∧ W'.cell? ⟨w3.heap.size, 0, none⟩ = some (.bool mg) ∧ W'.cell? ⟨w3.heap.size, 1, none⟩ = some (.slice a3_ n3_ c3_) ∧ W'.cell? ⟨w3.heap.size, 2, none⟩ = some (.slice p3_ m3_ k3_) ∧ W'.cell? ⟨w4.heap.size, 0, none⟩ = some (.bool mg) ∧ W'.cell? ⟨w4.heap.size, 1, none⟩ = some (.slice a4_ n4_ c4_) ∧ W'.cell? ⟨w4.heap.size, 2, none⟩ = some (.slice p4_ m4_ k4_) ∧ W'.cell? ⟨w5.heap.size, 0, none⟩ = some (.bool ng5) ∧ W'.cell? ⟨w5.heap.size, 1, none⟩ = some (.slice a5_ n5_ c5_) ∧ W'.cell? ⟨w5.heap.size, 2, none⟩ = some (.slice p5_ m5_ k5_) ∧ W'.cell? ⟨w6.heap.size, 0, none⟩ = some (.bool ng6) ∧ W'.cell? ⟨w6.heap.size, 1, none⟩ = some (.slice a6_ n6_ c6_) ∧ W'.cell? ⟨w6.heap.size, 2, none⟩ = some (.slice p6_ m6_ k6_) ∧ W'.cell? ⟨w7.heap.size, 0, none⟩ = some (.bool ng7) ∧ W'.cell? ⟨w7.heap.size, 1, none⟩ = some (.slice a7_ n7_ c7_) ∧ W'.cell? ⟨w7.heap.size, 2, none⟩ = some (.slice p7_ m7_ k7_)) (first | (with_reducible exact ⟨x0_0, x0_1, x0_2, x7_0, x7_1, x7_2, x8_0, x8_1, x8_2, x9_0, x9_1, x9_2, x10_0, x10_1, x10_2, x11_0, x11_1, x11_2⟩) | exact ⟨x0_0, x0_1, x0_2, x7_0, x7_1, x7_2, x8_0, x8_1, x8_2, x9_0, x9_1, x9_2, x10_0, x10_1, x10_2, x11_0, x11_1, x11_2⟩) (first
      | (go_at_call 15; (with_reducible refine (equal_q _ g11 (g7.to gb)).mono ?_); rintro e w12 ⟨rfl, hb12⟩; have g11 := g11.to hb12; have gb := below_step gb hb12; obtain ⟨x0_0, x0_1, x0_2, x7_0, x7_1, x7_2, x8_0, x8_1, x8_2, x9_0, x9_1, x9_2, x10_0, x10_1, x10_2, x11_0, x11_1, x11_2⟩ := HXW7.out _ gb; obtain ⟨y0_0, y0_1, y0_2, y7_0, y7_1, y7_2, y8_0, y8_1, y8_2, y9_0, y9_1, y9_2, y10_0, y10_1, y10_2, y11_0, y11_1, y11_2⟩ := HYW7.out _ gb; obtain ⟨z0, z7, z8, z9, z10, z11⟩ := HZW7.out _ gb)
      | (go_at_call 20; (with_reducible refine (ratio_mul _ _ _ _ _ _ _ _ _ _ _ (g5.to gb).isQ (g6.to gb).isQ (A ^ (I + J)) HE.out L4).mono ?_); rintro e w11 ⟨ng11, a11_, n11_, c11_, p11_, m11_, k11_, rfl, g11, hb11⟩; have gb := below_step gb hb11; obtain ⟨x0_0, x0_1, x0_2, x7_0, x7_1, x7_2, x8_0, x8_1, x8_2, x9_0, x9_1, x9_2, x10_0, x10_1, x10_2, x11_0, x11_1, x11_2⟩ := HXW7.out _ gb; obtain ⟨y0_0, y0_1, y0_2, y7_0, y7_1, y7_2, y8_0, y8_1, y8_2, y9_0, y9_1, y9_2, y10_0, y10_1, y10_2, y11_0, y11_1, y11_2⟩ := HYW7.out _ gb; obtain ⟨z0, z7, z8, z9, z10, z11⟩ := HZW7.out _ gb)
      | (go_at_call 15; have gb := gb.drew; (with_reducible refine (equal_f _ (g3.to gb) (g4.to gb)).mono ?_); rintro e w10 ⟨rfl, hb10⟩; have gb := below_step gb hb10; obtain ⟨x0_0, x0_1, x0_2, x7_0, x7_1, x7_2, x8_0, x8_1, x8_2, x9_0, x9_1, x9_2, x10_0, x10_1, x10_2, x11_0, x11_1, x11_2⟩ := HXW7.out _ gb; obtain ⟨y0_0, y0_1, y0_2, y7_0, y7_1, y7_2, y8_0, y8_1, y8_2, y9_0, y9_1, y9_2, y10_0, y10_1, y10_2, y11_0, y11_1, y11_2⟩ := HYW7.out _ gb; obtain ⟨z0, z7, z8, z9, z10, z11⟩ := HZW7.out _ gb))
    go_wp2_with fail
    go_ret
    exact ⟨by first | rfl | exact ret_bool (by simp), below_step zb gb⟩
  · skip
    go_enter Try.func4, Try.ntmps4
    go_wp2_with fail
    obtain ⟨W0, hW0⟩ : ∃ W0, w.alloc (.cells #[.bool b0, .slice a0 n0 c0, .slice a1 n1 c1] 24) = W0 := ⟨_, rfl⟩
    have HXW0 := Lib.hid (show ∀ W', Below W0.heap.size W0 W' → (W'.cell? ⟨w.heap.size, 0, none⟩ = some (.bool b0) ∧ W'.cell? ⟨w.heap.size, 1, none⟩ = some (.slice a0 n0 c0) ∧ W'.cell? ⟨w.heap.size, 2, none⟩ = some (.slice a1 n1 c1)) from fun W' hb =>
      ⟨(hb.cell (p := ⟨w.heap.size, 0, none⟩) (by rw [← hW0]; simp <;> omega)).trans (by rw [← hW0]; simp [go_sem]), (hb.cell (p := ⟨w.heap.size, 1, none⟩) (by rw [← hW0]; simp <;> omega)).trans (by rw [← hW0]; simp [go_sem]), (hb.cell (p := ⟨w.heap.size, 2, none⟩) (by rw [← hW0]; simp <;> omega)).trans (by rw [← hW0]; simp [go_sem])⟩)
    have HYW0 := Lib.hid (show ∀ W', Below W0.heap.size W0 W' → (W'.frozen? ⟨w.heap.size, 0, none⟩ = false ∧ W'.frozen? ⟨w.heap.size, 1, none⟩ = false ∧ W'.frozen? ⟨w.heap.size, 2, none⟩ = false) from fun W' hb =>
      ⟨(hb.frozen (p := ⟨w.heap.size, 0, none⟩) (by rw [← hW0]; simp <;> omega)).trans (by rw [← hW0]; simp [go_sem]), (hb.frozen (p := ⟨w.heap.size, 1, none⟩) (by rw [← hW0]; simp <;> omega)).trans (by rw [← hW0]; simp [go_sem]), (hb.frozen (p := ⟨w.heap.size, 2, none⟩) (by rw [← hW0]; simp <;> omega)).trans (by rw [← hW0]; simp [go_sem])⟩)
    have HZW0 := Lib.hid (show ∀ W', Below W0.heap.size W0 W' → (w.heap.size < W'.heap.size) from fun W' hb =>
      Nat.lt_of_lt_of_le (by rw [← hW0]; simp <;> omega) hb.size)
    have zb : Below w.heap.size w W0 := by rw [← hW0]; exact below_new _ _
    rw [hW0]
    clear hW0
    have i0 := j0.to zb
    have gb : Below W0.heap.size W0 W0 := Below.refl _ _
    obtain ⟨x0_0, x0_1, x0_2⟩ := HXW0.out _ gb
    obtain ⟨y0_0, y0_1, y0_2⟩ := HYW0.out _ gb
    obtain z0 := HZW0.out _ gb
    refine (awake8 _).mono ?_
    clear x0_0 y0_0 x0_1 y0_1 x0_2 y0_2
    rintro e w1 ⟨rfl, hb1⟩
    replace gb := below_step gb hb1
    obtain ⟨x0_0, x0_1, x0_2⟩ := HXW0.out _ gb
    obtain ⟨y0_0, y0_1, y0_2⟩ := HYW0.out _ gb
    obtain z0 := HZW0.out _ gb
    go_wp2_with fail
    refine (M1.out _ (i0.to gb)).mono ?_
    clear x0_0 y0_0 x0_1 y0_1 x0_2 y0_2
    rintro e w3 ⟨a3_, n3_, c3_, p3_, m3_, k3_, rfl, g3, hb3⟩
    replace gb := below_step gb hb3
    obtain ⟨x0_0, x0_1, x0_2⟩ := HXW0.out _ gb
    obtain ⟨y0_0, y0_1, y0_2⟩ := HYW0.out _ gb
    obtain z0 := HZW0.out _ gb
    go_wp2_with fail
    obtain ⟨W3, hW3⟩ : ∃ W3, w3.alloc (.cells #[.bool mg, .slice a3_ n3_ c3_, .slice p3_ m3_ k3_] 24) = W3 := ⟨_, rfl⟩
    have hb_W3 : Below w3.heap.size w3 W3 := by rw [← hW3]; exact below_new _ _
    have hs_W3 : Hid (W3.heap.size = w3.heap.size + 1) := by show _ = _; rw [← hW3]; simp
    clear x0_0 y0_0 x0_1 y0_1 x0_2 y0_2
    replace g3 := g3.to hb_W3
    replace gb := below_step gb hb_W3
    obtain ⟨x0_0, x0_1, x0_2⟩ := HXW0.out _ gb
    obtain ⟨y0_0, y0_1, y0_2⟩ := HYW0.out _ gb
    obtain z0 := HZW0.out _ gb
    have x7_0 : W3.cell? ⟨w3.heap.size, 0, none⟩ = some (.bool mg) := by rw [← hW3]; simp [go_sem]
    have y7_0 : W3.frozen? ⟨w3.heap.size, 0, none⟩ = false := by rw [← hW3]; simp [go_sem]
    have x7_1 : W3.cell? ⟨w3.heap.size, 1, none⟩ = some (.slice a3_ n3_ c3_) := by rw [← hW3]; simp [go_sem]
    have y7_1 : W3.frozen? ⟨w3.heap.size, 1, none⟩ = false := by rw [← hW3]; simp [go_sem]
    have x7_2 : W3.cell? ⟨w3.heap.size, 2, none⟩ = some (.slice p3_ m3_ k3_) := by rw [← hW3]; simp [go_sem]
    have y7_2 : W3.frozen? ⟨w3.heap.size, 2, none⟩ = false := by rw [← hW3]; simp [go_sem]
    have z7 : w3.heap.size < W3.heap.size := by rw [← hW3]; simp
    rw [hW3]
    clear hW3
    replace i0 := i0.to gb
    replace zb := below_step zb gb
    have HXW3 := Lib.hid (show ∀ W', Below W3.heap.size W3 W' → (W'.cell? ⟨w.heap.size, 0, none⟩ = some (.bool b0) ∧ W'.cell? ⟨w.heap.size, 1, none⟩ = some (.slice a0 n0 c0) ∧ W'.cell? ⟨w.heap.size, 2, none⟩ = some (.slice a1 n1 c1) ∧ W'.cell? ⟨w3.heap.size, 0, none⟩ = some (.bool mg) ∧ W'.cell? ⟨w3.heap.size, 1, none⟩ = some (.slice a3_ n3_ c3_) ∧ W'.cell? ⟨w3.heap.size, 2, none⟩ = some (.slice p3_ m3_ k3_)) from fun W' hb =>
      ⟨(hb.cell (p := ⟨w.heap.size, 0, none⟩) z0).trans x0_0, (hb.cell (p := ⟨w.heap.size, 1, none⟩) z0).trans x0_1, (hb.cell (p := ⟨w.heap.size, 2, none⟩) z0).trans x0_2, (hb.cell (p := ⟨w3.heap.size, 0, none⟩) z7).trans x7_0, (hb.cell (p := ⟨w3.heap.size, 1, none⟩) z7).trans x7_1, (hb.cell (p := ⟨w3.heap.size, 2, none⟩) z7).trans x7_2⟩)
    have HYW3 := Lib.hid (show ∀ W', Below W3.heap.size W3 W' → (W'.frozen? ⟨w.heap.size, 0, none⟩ = false ∧ W'.frozen? ⟨w.heap.size, 1, none⟩ = false ∧ W'.frozen? ⟨w.heap.size, 2, none⟩ = false ∧ W'.frozen? ⟨w3.heap.size, 0, none⟩ = false ∧ W'.frozen? ⟨w3.heap.size, 1, none⟩ = false ∧ W'.frozen? ⟨w3.heap.size, 2, none⟩ = false) from fun W' hb =>
      ⟨(hb.frozen (p := ⟨w.heap.size, 0, none⟩) z0).trans y0_0, (hb.frozen (p := ⟨w.heap.size, 1, none⟩) z0).trans y0_1, (hb.frozen (p := ⟨w.heap.size, 2, none⟩) z0).trans y0_2, (hb.frozen (p := ⟨w3.heap.size, 0, none⟩) z7).trans y7_0, (hb.frozen (p := ⟨w3.heap.size, 1, none⟩) z7).trans y7_1, (hb.frozen (p := ⟨w3.heap.size, 2, none⟩) z7).trans y7_2⟩)
    have HZW3 := Lib.hid (show ∀ W', Below W3.heap.size W3 W' → (w.heap.size < W'.heap.size ∧ w3.heap.size < W'.heap.size) from fun W' hb =>
      ⟨Nat.lt_of_lt_of_le z0 hb.size, Nat.lt_of_lt_of_le z7 hb.size⟩)
    replace gb := Below.refl W3.heap.size W3
    go_wp2_with fail
    refine (M2.out _ (i0.to gb)).mono ?_
    clear x0_0 y0_0 x0_1 y0_1 x0_2 y0_2 x7_0 y7_0 x7_1 y7_1 x7_2 y7_2
    rintro e w4 ⟨a4_, n4_, c4_, p4_, m4_, k4_, rfl, g4, hb4⟩
    replace gb := below_step gb hb4
    obtain ⟨x0_0, x0_1, x0_2, x7_0, x7_1, x7_2⟩ := HXW3.out _ gb
    obtain ⟨y0_0, y0_1, y0_2, y7_0, y7_1, y7_2⟩ := HYW3.out _ gb
    obtain ⟨z0, z7⟩ := HZW3.out _ gb
    go_wp2_with fail
    obtain ⟨W4, hW4⟩ : ∃ W4, w4.alloc (.cells #[.bool mg, .slice a4_ n4_ c4_, .slice p4_ m4_ k4_] 24) = W4 := ⟨_, rfl⟩
    have hb_W4 : Below w4.heap.size w4 W4 := by rw [← hW4]; exact below_new _ _
    have hs_W4 : Hid (W4.heap.size = w4.heap.size + 1) := by show _ = _; rw [← hW4]; simp
    clear x0_0 y0_0 x0_1 y0_1 x0_2 y0_2 x7_0 y7_0 x7_1 y7_1 x7_2 y7_2
    replace g4 := g4.to hb_W4
    replace gb := below_step gb hb_W4
    obtain ⟨x0_0, x0_1, x0_2, x7_0, x7_1, x7_2⟩ := HXW3.out _ gb
    obtain ⟨y0_0, y0_1, y0_2, y7_0, y7_1, y7_2⟩ := HYW3.out _ gb
    obtain ⟨z0, z7⟩ := HZW3.out _ gb
    have x8_0 : W4.cell? ⟨w4.heap.size, 0, none⟩ = some (.bool mg) := by rw [← hW4]; simp [go_sem]
    have y8_0 : W4.frozen? ⟨w4.heap.size, 0, none⟩ = false := by rw [← hW4]; simp [go_sem]
    have x8_1 : W4.cell? ⟨w4.heap.size, 1, none⟩ = some (.slice a4_ n4_ c4_) := by rw [← hW4]; simp [go_sem]
    have y8_1 : W4.frozen? ⟨w4.heap.size, 1, none⟩ = false := by rw [← hW4]; simp [go_sem]
    have x8_2 : W4.cell? ⟨w4.heap.size, 2, none⟩ = some (.slice p4_ m4_ k4_) := by rw [← hW4]; simp [go_sem]
    have y8_2 : W4.frozen? ⟨w4.heap.size, 2, none⟩ = false := by rw [← hW4]; simp [go_sem]
    have z8 : w4.heap.size < W4.heap.size := by rw [← hW4]; simp
    rw [hW4]
    clear hW4
    replace i0 := i0.to gb
    replace g3 := g3.to gb
    replace zb := below_step zb gb
    have HXW4 := Lib.hid (show ∀ W', Below W4.heap.size W4 W' → (W'.cell? ⟨w.heap.size, 0, none⟩ = some (.bool b0) ∧ W'.cell? ⟨w.heap.size, 1, none⟩ = some (.slice a0 n0 c0) ∧ W'.cell? ⟨w.heap.size, 2, none⟩ = some (.slice a1 n1 c1) ∧ W'.cell? ⟨w3.heap.size, 0, none⟩ = some (.bool mg) ∧ W'.cell? ⟨w3.heap.size, 1, none⟩ = some (.slice a3_ n3_ c3_) ∧ W'.cell? ⟨w3.heap.size, 2, none⟩ = some (.slice p3_ m3_ k3_) ∧ W'.cell? ⟨w4.heap.size, 0, none⟩ = some (.bool mg) ∧ W'.cell? ⟨w4.heap.size, 1, none⟩ = some (.slice a4_ n4_ c4_) ∧ W'.cell? ⟨w4.heap.size, 2, none⟩ = some (.slice p4_ m4_ k4_)) from fun W' hb =>
      ⟨(hb.cell (p := ⟨w.heap.size, 0, none⟩) z0).trans x0_0, (hb.cell (p := ⟨w.heap.size, 1, none⟩) z0).trans x0_1, (hb.cell (p := ⟨w.heap.size, 2, none⟩) z0).trans x0_2, (hb.cell (p := ⟨w3.heap.size, 0, none⟩) z7).trans x7_0, (hb.cell (p := ⟨w3.heap.size, 1, none⟩) z7).trans x7_1, (hb.cell (p := ⟨w3.heap.size, 2, none⟩) z7).trans x7_2, (hb.cell (p := ⟨w4.heap.size, 0, none⟩) z8).trans x8_0, (hb.cell (p := ⟨w4.heap.size, 1, none⟩) z8).trans x8_1, (hb.cell (p := ⟨w4.heap.size, 2, none⟩) z8).trans x8_2⟩)
    have HYW4 := Lib.hid (show ∀ W', Below W4.heap.size W4 W' → (W'.frozen? ⟨w.heap.size, 0, none⟩ = false ∧ W'.frozen? ⟨w.heap.size, 1, none⟩ = false ∧ W'.frozen? ⟨w.heap.size, 2, none⟩ = false ∧ W'.frozen? ⟨w3.heap.size, 0, none⟩ = false ∧ W'.frozen? ⟨w3.heap.size, 1, none⟩ = false ∧ W'.frozen? ⟨w3.heap.size, 2, none⟩ = false ∧ W'.frozen? ⟨w4.heap.size, 0, none⟩ = false ∧ W'.frozen? ⟨w4.heap.size, 1, none⟩ = false ∧ W'.frozen? ⟨w4.heap.size, 2, none⟩ = false) from fun W' hb =>
      ⟨(hb.frozen (p := ⟨w.heap.size, 0, none⟩) z0).trans y0_0, (hb.frozen (p := ⟨w.heap.size, 1, none⟩) z0).trans y0_1, (hb.frozen (p := ⟨w.heap.size, 2, none⟩) z0).trans y0_2, (hb.frozen (p := ⟨w3.heap.size, 0, none⟩) z7).trans y7_0, (hb.frozen (p := ⟨w3.heap.size, 1, none⟩) z7).trans y7_1, (hb.frozen (p := ⟨w3.heap.size, 2, none⟩) z7).trans y7_2, (hb.frozen (p := ⟨w4.heap.size, 0, none⟩) z8).trans y8_0, (hb.frozen (p := ⟨w4.heap.size, 1, none⟩) z8).trans y8_1, (hb.frozen (p := ⟨w4.heap.size, 2, none⟩) z8).trans y8_2⟩)
    have HZW4 := Lib.hid (show ∀ W', Below W4.heap.size W4 W' → (w.heap.size < W'.heap.size ∧ w3.heap.size < W'.heap.size ∧ w4.heap.size < W'.heap.size) from fun W' hb =>
      ⟨Nat.lt_of_lt_of_le z0 hb.size, Nat.lt_of_lt_of_le z7 hb.size, Nat.lt_of_lt_of_le z8 hb.size⟩)
    replace gb := Below.refl W4.heap.size W4
    go_wp2_with fail
    refine (pow_int _ _ _ _ _ _ I _ (i0.to gb) rfl (by omega) L1.out).mono ?_
    clear x0_0 y0_0 x0_1 y0_1 x0_2 y0_2 x7_0 y7_0 x7_1 y7_1 x7_2 y7_2 x8_0 y8_0 x8_1 y8_1 x8_2 y8_2
    rintro e w5 ⟨ng5, a5_, n5_, c5_, p5_, m5_, k5_, rfl, g5, hb5⟩
    replace gb := below_step gb hb5
    obtain ⟨x0_0, x0_1, x0_2, x7_0, x7_1, x7_2, x8_0, x8_1, x8_2⟩ := HXW4.out _ gb
    obtain ⟨y0_0, y0_1, y0_2, y7_0, y7_1, y7_2, y8_0, y8_1, y8_2⟩ := HYW4.out _ gb
    obtain ⟨z0, z7, z8⟩ := HZW4.out _ gb
    go_wp2_with fail
    obtain ⟨W5, hW5⟩ : ∃ W5, w5.alloc (.cells #[.bool ng5, .slice a5_ n5_ c5_, .slice p5_ m5_ k5_] 24) = W5 := ⟨_, rfl⟩
    have hb_W5 : Below w5.heap.size w5 W5 := by rw [← hW5]; exact below_new _ _
    have hs_W5 : Hid (W5.heap.size = w5.heap.size + 1) := by show _ = _; rw [← hW5]; simp
    clear x0_0 y0_0 x0_1 y0_1 x0_2 y0_2 x7_0 y7_0 x7_1 y7_1 x7_2 y7_2 x8_0 y8_0 x8_1 y8_1 x8_2 y8_2
    replace g5 := g5.to hb_W5
    replace gb := below_step gb hb_W5
    obtain ⟨x0_0, x0_1, x0_2, x7_0, x7_1, x7_2, x8_0, x8_1, x8_2⟩ := HXW4.out _ gb
    obtain ⟨y0_0, y0_1, y0_2, y7_0, y7_1, y7_2, y8_0, y8_1, y8_2⟩ := HYW4.out _ gb
    obtain ⟨z0, z7, z8⟩ := HZW4.out _ gb
    have x9_0 : W5.cell? ⟨w5.heap.size, 0, none⟩ = some (.bool ng5) := by rw [← hW5]; simp [go_sem]
    have y9_0 : W5.frozen? ⟨w5.heap.size, 0, none⟩ = false := by rw [← hW5]; simp [go_sem]
    have x9_1 : W5.cell? ⟨w5.heap.size, 1, none⟩ = some (.slice a5_ n5_ c5_) := by rw [← hW5]; simp [go_sem]
    have y9_1 : W5.frozen? ⟨w5.heap.size, 1, none⟩ = false := by rw [← hW5]; simp [go_sem]
    have x9_2 : W5.cell? ⟨w5.heap.size, 2, none⟩ = some (.slice p5_ m5_ k5_) := by rw [← hW5]; simp [go_sem]
    have y9_2 : W5.frozen? ⟨w5.heap.size, 2, none⟩ = false := by rw [← hW5]; simp [go_sem]
    have z9 : w5.heap.size < W5.heap.size := by rw [← hW5]; simp
    rw [hW5]
    clear hW5
    replace i0 := i0.to gb
    replace g3 := g3.to gb
    replace g4 := g4.to gb
    replace zb := below_step zb gb
    have HXW5 := Lib.hid (show ∀ W', Below W5.heap.size W5 W' → (W'.cell? ⟨w.heap.size, 0, none⟩ = some (.bool b0) ∧ W'.cell? ⟨w.heap.size, 1, none⟩ = some (.slice a0 n0 c0) ∧ W'.cell? ⟨w.heap.size, 2, none⟩ = some (.slice a1 n1 c1) ∧ W'.cell? ⟨w3.heap.size, 0, none⟩ = some (.bool mg) ∧ W'.cell? ⟨w3.heap.size, 1, none⟩ = some (.slice a3_ n3_ c3_) ∧ W'.cell? ⟨w3.heap.size, 2, none⟩ = some (.slice p3_ m3_ k3_) ∧ W'.cell? ⟨w4.heap.size, 0, none⟩ = some (.bool mg) ∧ W'.cell? ⟨w4.heap.size, 1, none⟩ = some (.slice a4_ n4_ c4_) ∧ W'.cell? ⟨w4.heap.size, 2, none⟩ = some (.slice p4_ m4_ k4_) ∧ W'.cell? ⟨w5.heap.size, 0, none⟩ = some (.bool ng5) ∧ W'.cell? ⟨w5.heap.size, 1, none⟩ = some (.slice a5_ n5_ c5_) ∧ W'.cell? ⟨w5.heap.size, 2, none⟩ = some (.slice p5_ m5_ k5_)) from fun W' hb =>
      ⟨(hb.cell (p := ⟨w.heap.size, 0, none⟩) z0).trans x0_0, (hb.cell (p := ⟨w.heap.size, 1, none⟩) z0).trans x0_1, (hb.cell (p := ⟨w.heap.size, 2, none⟩) z0).trans x0_2, (hb.cell (p := ⟨w3.heap.size, 0, none⟩) z7).trans x7_0, (hb.cell (p := ⟨w3.heap.size, 1, none⟩) z7).trans x7_1, (hb.cell (p := ⟨w3.heap.size, 2, none⟩) z7).trans x7_2, (hb.cell (p := ⟨w4.heap.size, 0, none⟩) z8).trans x8_0, (hb.cell (p := ⟨w4.heap.size, 1, none⟩) z8).trans x8_1, (hb.cell (p := ⟨w4.heap.size, 2, none⟩) z8).trans x8_2, (hb.cell (p := ⟨w5.heap.size, 0, none⟩) z9).trans x9_0, (hb.cell (p := ⟨w5.heap.size, 1, none⟩) z9).trans x9_1, (hb.cell (p := ⟨w5.heap.size, 2, none⟩) z9).trans x9_2⟩)
    have HYW5 := Lib.hid (show ∀ W', Below W5.heap.size W5 W' → (W'.frozen? ⟨w.heap.size, 0, none⟩ = false ∧ W'.frozen? ⟨w.heap.size, 1, none⟩ = false ∧ W'.frozen? ⟨w.heap.size, 2, none⟩ = false ∧ W'.frozen? ⟨w3.heap.size, 0, none⟩ = false ∧ W'.frozen? ⟨w3.heap.size, 1, none⟩ = false ∧ W'.frozen? ⟨w3.heap.size, 2, none⟩ = false ∧ W'.frozen? ⟨w4.heap.size, 0, none⟩ = false ∧ W'.frozen? ⟨w4.heap.size, 1, none⟩ = false ∧ W'.frozen? ⟨w4.heap.size, 2, none⟩ = false ∧ W'.frozen? ⟨w5.heap.size, 0, none⟩ = false ∧ W'.frozen? ⟨w5.heap.size, 1, none⟩ = false ∧ W'.frozen? ⟨w5.heap.size, 2, none⟩ = false) from fun W' hb =>
      ⟨(hb.frozen (p := ⟨w.heap.size, 0, none⟩) z0).trans y0_0, (hb.frozen (p := ⟨w.heap.size, 1, none⟩) z0).trans y0_1, (hb.frozen (p := ⟨w.heap.size, 2, none⟩) z0).trans y0_2, (hb.frozen (p := ⟨w3.heap.size, 0, none⟩) z7).trans y7_0, (hb.frozen (p := ⟨w3.heap.size, 1, none⟩) z7).trans y7_1, (hb.frozen (p := ⟨w3.heap.size, 2, none⟩) z7).trans y7_2, (hb.frozen (p := ⟨w4.heap.size, 0, none⟩) z8).trans y8_0, (hb.frozen (p := ⟨w4.heap.size, 1, none⟩) z8).trans y8_1, (hb.frozen (p := ⟨w4.heap.size, 2, none⟩) z8).trans y8_2, (hb.frozen (p := ⟨w5.heap.size, 0, none⟩) z9).trans y9_0, (hb.frozen (p := ⟨w5.heap.size, 1, none⟩) z9).trans y9_1, (hb.frozen (p := ⟨w5.heap.size, 2, none⟩) z9).trans y9_2⟩)
    have HZW5 := Lib.hid (show ∀ W', Below W5.heap.size W5 W' → (w.heap.size < W'.heap.size ∧ w3.heap.size < W'.heap.size ∧ w4.heap.size < W'.heap.size ∧ w5.heap.size < W'.heap.size) from fun W' hb =>
      ⟨Nat.lt_of_lt_of_le z0 hb.size, Nat.lt_of_lt_of_le z7 hb.size, Nat.lt_of_lt_of_le z8 hb.size, Nat.lt_of_lt_of_le z9 hb.size⟩)
    replace gb := Below.refl W5.heap.size W5
    go_wp2_with fail
    refine (pow_int _ _ _ _ _ _ J _ (i0.to gb) rfl (by omega) L2.out).mono ?_
    clear x0_0 y0_0 x0_1 y0_1 x0_2 y0_2 x7_0 y7_0 x7_1 y7_1 x7_2 y7_2 x8_0 y8_0 x8_1 y8_1 x8_2 y8_2 x9_0 y9_0 x9_1 y9_1 x9_2 y9_2
    rintro e w6 ⟨ng6, a6_, n6_, c6_, p6_, m6_, k6_, rfl, g6, hb6⟩
    replace gb := below_step gb hb6
    obtain ⟨x0_0, x0_1, x0_2, x7_0, x7_1, x7_2, x8_0, x8_1, x8_2, x9_0, x9_1, x9_2⟩ := HXW5.out _ gb
    obtain ⟨y0_0, y0_1, y0_2, y7_0, y7_1, y7_2, y8_0, y8_1, y8_2, y9_0, y9_1, y9_2⟩ := HYW5.out _ gb
    obtain ⟨z0, z7, z8, z9⟩ := HZW5.out _ gb
    go_wp2_with fail
    obtain ⟨W6, hW6⟩ : ∃ W6, w6.alloc (.cells #[.bool ng6, .slice a6_ n6_ c6_, .slice p6_ m6_ k6_] 24) = W6 := ⟨_, rfl⟩
    have hb_W6 : Below w6.heap.size w6 W6 := by rw [← hW6]; exact below_new _ _
    have hs_W6 : Hid (W6.heap.size = w6.heap.size + 1) := by show _ = _; rw [← hW6]; simp
    clear x0_0 y0_0 x0_1 y0_1 x0_2 y0_2 x7_0 y7_0 x7_1 y7_1 x7_2 y7_2 x8_0 y8_0 x8_1 y8_1 x8_2 y8_2 x9_0 y9_0 x9_1 y9_1 x9_2 y9_2
    replace g6 := g6.to hb_W6
    replace gb := below_step gb hb_W6
    obtain ⟨x0_0, x0_1, x0_2, x7_0, x7_1, x7_2, x8_0, x8_1, x8_2, x9_0, x9_1, x9_2⟩ := HXW5.out _ gb
    obtain ⟨y0_0, y0_1, y0_2, y7_0, y7_1, y7_2, y8_0, y8_1, y8_2, y9_0, y9_1, y9_2⟩ := HYW5.out _ gb
    obtain ⟨z0, z7, z8, z9⟩ := HZW5.out _ gb
    have x10_0 : W6.cell? ⟨w6.heap.size, 0, none⟩ = some (.bool ng6) := by rw [← hW6]; simp [go_sem]
    have y10_0 : W6.frozen? ⟨w6.heap.size, 0, none⟩ = false := by rw [← hW6]; simp [go_sem]
    have x10_1 : W6.cell? ⟨w6.heap.size, 1, none⟩ = some (.slice a6_ n6_ c6_) := by rw [← hW6]; simp [go_sem]
    have y10_1 : W6.frozen? ⟨w6.heap.size, 1, none⟩ = false := by rw [← hW6]; simp [go_sem]
    have x10_2 : W6.cell? ⟨w6.heap.size, 2, none⟩ = some (.slice p6_ m6_ k6_) := by rw [← hW6]; simp [go_sem]
    have y10_2 : W6.frozen? ⟨w6.heap.size, 2, none⟩ = false := by rw [← hW6]; simp [go_sem]
    have z10 : w6.heap.size < W6.heap.size := by rw [← hW6]; simp
    rw [hW6]
    clear hW6
    replace i0 := i0.to gb
    replace g3 := g3.to gb
    replace g4 := g4.to gb
    replace g5 := g5.to gb
    replace zb := below_step zb gb
    have HXW6 := Lib.hid (show ∀ W', Below W6.heap.size W6 W' → (W'.cell? ⟨w.heap.size, 0, none⟩ = some (.bool b0) ∧ W'.cell? ⟨w.heap.size, 1, none⟩ = some (.slice a0 n0 c0) ∧ W'.cell? ⟨w.heap.size, 2, none⟩ = some (.slice a1 n1 c1) ∧ W'.cell? ⟨w3.heap.size, 0, none⟩ = some (.bool mg) ∧ W'.cell? ⟨w3.heap.size, 1, none⟩ = some (.slice a3_ n3_ c3_) ∧ W'.cell? ⟨w3.heap.size, 2, none⟩ = some (.slice p3_ m3_ k3_) ∧ W'.cell? ⟨w4.heap.size, 0, none⟩ = some (.bool mg) ∧ W'.cell? ⟨w4.heap.size, 1, none⟩ = some (.slice a4_ n4_ c4_) ∧ W'.cell? ⟨w4.heap.size, 2, none⟩ = some (.slice p4_ m4_ k4_) ∧ W'.cell? ⟨w5.heap.size, 0, none⟩ = some (.bool ng5) ∧ W'.cell? ⟨w5.heap.size, 1, none⟩ = some (.slice a5_ n5_ c5_) ∧ W'.cell? ⟨w5.heap.size, 2, none⟩ = some (.slice p5_ m5_ k5_) ∧ W'.cell? ⟨w6.heap.size, 0, none⟩ = some (.bool ng6) ∧ W'.cell? ⟨w6.heap.size, 1, none⟩ = some (.slice a6_ n6_ c6_) ∧ W'.cell? ⟨w6.heap.size, 2, none⟩ = some (.slice p6_ m6_ k6_)) from fun W' hb =>
      ⟨(hb.cell (p := ⟨w.heap.size, 0, none⟩) z0).trans x0_0, (hb.cell (p := ⟨w.heap.size, 1, none⟩) z0).trans x0_1, (hb.cell (p := ⟨w.heap.size, 2, none⟩) z0).trans x0_2, (hb.cell (p := ⟨w3.heap.size, 0, none⟩) z7).trans x7_0, (hb.cell (p := ⟨w3.heap.size, 1, none⟩) z7).trans x7_1, (hb.cell (p := ⟨w3.heap.size, 2, none⟩) z7).trans x7_2, (hb.cell (p := ⟨w4.heap.size, 0, none⟩) z8).trans x8_0, (hb.cell (p := ⟨w4.heap.size, 1, none⟩) z8).trans x8_1, (hb.cell (p := ⟨w4.heap.size, 2, none⟩) z8).trans x8_2, (hb.cell (p := ⟨w5.heap.size, 0, none⟩) z9).trans x9_0, (hb.cell (p := ⟨w5.heap.size, 1, none⟩) z9).trans x9_1, (hb.cell (p := ⟨w5.heap.size, 2, none⟩) z9).trans x9_2, (hb.cell (p := ⟨w6.heap.size, 0, none⟩) z10).trans x10_0, (hb.cell (p := ⟨w6.heap.size, 1, none⟩) z10).trans x10_1, (hb.cell (p := ⟨w6.heap.size, 2, none⟩) z10).trans x10_2⟩)
    have HYW6 := Lib.hid (show ∀ W', Below W6.heap.size W6 W' → (W'.frozen? ⟨w.heap.size, 0, none⟩ = false ∧ W'.frozen? ⟨w.heap.size, 1, none⟩ = false ∧ W'.frozen? ⟨w.heap.size, 2, none⟩ = false ∧ W'.frozen? ⟨w3.heap.size, 0, none⟩ = false ∧ W'.frozen? ⟨w3.heap.size, 1, none⟩ = false ∧ W'.frozen? ⟨w3.heap.size, 2, none⟩ = false ∧ W'.frozen? ⟨w4.heap.size, 0, none⟩ = false ∧ W'.frozen? ⟨w4.heap.size, 1, none⟩ = false ∧ W'.frozen? ⟨w4.heap.size, 2, none⟩ = false ∧ W'.frozen? ⟨w5.heap.size, 0, none⟩ = false ∧ W'.frozen? ⟨w5.heap.size, 1, none⟩ = false ∧ W'.frozen? ⟨w5.heap.size, 2, none⟩ = false ∧ W'.frozen? ⟨w6.heap.size, 0, none⟩ = false ∧ W'.frozen? ⟨w6.heap.size, 1, none⟩ = false ∧ W'.frozen? ⟨w6.heap.size, 2, none⟩ = false) from fun W' hb =>
      ⟨(hb.frozen (p := ⟨w.heap.size, 0, none⟩) z0).trans y0_0, (hb.frozen (p := ⟨w.heap.size, 1, none⟩) z0).trans y0_1, (hb.frozen (p := ⟨w.heap.size, 2, none⟩) z0).trans y0_2, (hb.frozen (p := ⟨w3.heap.size, 0, none⟩) z7).trans y7_0, (hb.frozen (p := ⟨w3.heap.size, 1, none⟩) z7).trans y7_1, (hb.frozen (p := ⟨w3.heap.size, 2, none⟩) z7).trans y7_2, (hb.frozen (p := ⟨w4.heap.size, 0, none⟩) z8).trans y8_0, (hb.frozen (p := ⟨w4.heap.size, 1, none⟩) z8).trans y8_1, (hb.frozen (p := ⟨w4.heap.size, 2, none⟩) z8).trans y8_2, (hb.frozen (p := ⟨w5.heap.size, 0, none⟩) z9).trans y9_0, (hb.frozen (p := ⟨w5.heap.size, 1, none⟩) z9).trans y9_1, (hb.frozen (p := ⟨w5.heap.size, 2, none⟩) z9).trans y9_2, (hb.frozen (p := ⟨w6.heap.size, 0, none⟩) z10).trans y10_0, (hb.frozen (p := ⟨w6.heap.size, 1, none⟩) z10).trans y10_1, (hb.frozen (p := ⟨w6.heap.size, 2, none⟩) z10).trans y10_2⟩)
    have HZW6 := Lib.hid (show ∀ W', Below W6.heap.size W6 W' → (w.heap.size < W'.heap.size ∧ w3.heap.size < W'.heap.size ∧ w4.heap.size < W'.heap.size ∧ w5.heap.size < W'.heap.size ∧ w6.heap.size < W'.heap.size) from fun W' hb =>
      ⟨Nat.lt_of_lt_of_le z0 hb.size, Nat.lt_of_lt_of_le z7 hb.size, Nat.lt_of_lt_of_le z8 hb.size, Nat.lt_of_lt_of_le z9 hb.size, Nat.lt_of_lt_of_le z10 hb.size⟩)
    replace gb := Below.refl W6.heap.size W6
    go_wp2_with fail
    refine (pow_int _ _ _ _ _ _ (I + J) _ (i0.to gb) (Int.natCast_add I J).symm (by omega) L3.out).mono ?_
    clear x0_0 y0_0 x0_1 y0_1 x0_2 y0_2 x7_0 y7_0 x7_1 y7_1 x7_2 y7_2 x8_0 y8_0 x8_1 y8_1 x8_2 y8_2 x9_0 y9_0 x9_1 y9_1 x9_2 y9_2 x10_0 y10_0 x10_1 y10_1 x10_2 y10_2
    rintro e w7 ⟨ng7, a7_, n7_, c7_, p7_, m7_, k7_, rfl, g7, hb7⟩
    replace gb := below_step gb hb7
    obtain ⟨x0_0, x0_1, x0_2, x7_0, x7_1, x7_2, x8_0, x8_1, x8_2, x9_0, x9_1, x9_2, x10_0, x10_1, x10_2⟩ := HXW6.out _ gb
    obtain ⟨y0_0, y0_1, y0_2, y7_0, y7_1, y7_2, y8_0, y8_1, y8_2, y9_0, y9_1, y9_2, y10_0, y10_1, y10_2⟩ := HYW6.out _ gb
    obtain ⟨z0, z7, z8, z9, z10⟩ := HZW6.out _ gb
    go_wp2_with fail
    obtain ⟨W7, hW7⟩ : ∃ W7, w7.alloc (.cells #[.bool ng7, .slice a7_ n7_ c7_, .slice p7_ m7_ k7_] 24) = W7 := ⟨_, rfl⟩
    have hb_W7 : Below w7.heap.size w7 W7 := by rw [← hW7]; exact below_new _ _
    have hs_W7 : Hid (W7.heap.size = w7.heap.size + 1) := by show _ = _; rw [← hW7]; simp
    clear x0_0 y0_0 x0_1 y0_1 x0_2 y0_2 x7_0 y7_0 x7_1 y7_1 x7_2 y7_2 x8_0 y8_0 x8_1 y8_1 x8_2 y8_2 x9_0 y9_0 x9_1 y9_1 x9_2 y9_2 x10_0 y10_0 x10_1 y10_1 x10_2 y10_2
    replace g7 := g7.to hb_W7
    replace gb := below_step gb hb_W7
    obtain ⟨x0_0, x0_1, x0_2, x7_0, x7_1, x7_2, x8_0, x8_1, x8_2, x9_0, x9_1, x9_2, x10_0, x10_1, x10_2⟩ := HXW6.out _ gb
    obtain ⟨y0_0, y0_1, y0_2, y7_0, y7_1, y7_2, y8_0, y8_1, y8_2, y9_0, y9_1, y9_2, y10_0, y10_1, y10_2⟩ := HYW6.out _ gb
    obtain ⟨z0, z7, z8, z9, z10⟩ := HZW6.out _ gb
    have x11_0 : W7.cell? ⟨w7.heap.size, 0, none⟩ = some (.bool ng7) := by rw [← hW7]; simp [go_sem]
    have y11_0 : W7.frozen? ⟨w7.heap.size, 0, none⟩ = false := by rw [← hW7]; simp [go_sem]
    have x11_1 : W7.cell? ⟨w7.heap.size, 1, none⟩ = some (.slice a7_ n7_ c7_) := by rw [← hW7]; simp [go_sem]
    have y11_1 : W7.frozen? ⟨w7.heap.size, 1, none⟩ = false := by rw [← hW7]; simp [go_sem]
    have x11_2 : W7.cell? ⟨w7.heap.size, 2, none⟩ = some (.slice p7_ m7_ k7_) := by rw [← hW7]; simp [go_sem]
    have y11_2 : W7.frozen? ⟨w7.heap.size, 2, none⟩ = false := by rw [← hW7]; simp [go_sem]
    have z11 : w7.heap.size < W7.heap.size := by rw [← hW7]; simp
    rw [hW7]
    clear hW7
    replace i0 := i0.to gb
    replace g3 := g3.to gb
    replace g4 := g4.to gb
    replace g5 := g5.to gb
    replace g6 := g6.to gb
    replace zb := below_step zb gb
    have HXW7 := Lib.hid (show ∀ W', Below W7.heap.size W7 W' → (W'.cell? ⟨w.heap.size, 0, none⟩ = some (.bool b0) ∧ W'.cell? ⟨w.heap.size, 1, none⟩ = some (.slice a0 n0 c0) ∧ W'.cell? ⟨w.heap.size, 2, none⟩ = some (.slice a1 n1 c1) ∧ W'.cell? ⟨w3.heap.size, 0, none⟩ = some (.bool mg) ∧ W'.cell? ⟨w3.heap.size, 1, none⟩ = some (.slice a3_ n3_ c3_) ∧ W'.cell? ⟨w3.heap.size, 2, none⟩ = some (.slice p3_ m3_ k3_) ∧ W'.cell? ⟨w4.heap.size, 0, none⟩ = some (.bool mg) ∧ W'.cell? ⟨w4.heap.size, 1, none⟩ = some (.slice a4_ n4_ c4_) ∧ W'.cell? ⟨w4.heap.size, 2, none⟩ = some (.slice p4_ m4_ k4_) ∧ W'.cell? ⟨w5.heap.size, 0, none⟩ = some (.bool ng5) ∧ W'.cell? ⟨w5.heap.size, 1, none⟩ = some (.slice a5_ n5_ c5_) ∧ W'.cell? ⟨w5.heap.size, 2, none⟩ = some (.slice p5_ m5_ k5_) ∧ W'.cell? ⟨w6.heap.size, 0, none⟩ = some (.bool ng6) ∧ W'.cell? ⟨w6.heap.size, 1, none⟩ = some (.slice a6_ n6_ c6_) ∧ W'.cell? ⟨w6.heap.size, 2, none⟩ = some (.slice p6_ m6_ k6_) ∧ W'.cell? ⟨w7.heap.size, 0, none⟩ = some (.bool ng7) ∧ W'.cell? ⟨w7.heap.size, 1, none⟩ = some (.slice a7_ n7_ c7_) ∧ W'.cell? ⟨w7.heap.size, 2, none⟩ = some (.slice p7_ m7_ k7_)) from fun W' hb =>
      ⟨(hb.cell (p := ⟨w.heap.size, 0, none⟩) z0).trans x0_0, (hb.cell (p := ⟨w.heap.size, 1, none⟩) z0).trans x0_1, (hb.cell (p := ⟨w.heap.size, 2, none⟩) z0).trans x0_2, (hb.cell (p := ⟨w3.heap.size, 0, none⟩) z7).trans x7_0, (hb.cell (p := ⟨w3.heap.size, 1, none⟩) z7).trans x7_1, (hb.cell (p := ⟨w3.heap.size, 2, none⟩) z7).trans x7_2, (hb.cell (p := ⟨w4.heap.size, 0, none⟩) z8).trans x8_0, (hb.cell (p := ⟨w4.heap.size, 1, none⟩) z8).trans x8_1, (hb.cell (p := ⟨w4.heap.size, 2, none⟩) z8).trans x8_2, (hb.cell (p := ⟨w5.heap.size, 0, none⟩) z9).trans x9_0, (hb.cell (p := ⟨w5.heap.size, 1, none⟩) z9).trans x9_1, (hb.cell (p := ⟨w5.heap.size, 2, none⟩) z9).trans x9_2, (hb.cell (p := ⟨w6.heap.size, 0, none⟩) z10).trans x10_0, (hb.cell (p := ⟨w6.heap.size, 1, none⟩) z10).trans x10_1, (hb.cell (p := ⟨w6.heap.size, 2, none⟩) z10).trans x10_2, (hb.cell (p := ⟨w7.heap.size, 0, none⟩) z11).trans x11_0, (hb.cell (p := ⟨w7.heap.size, 1, none⟩) z11).trans x11_1, (hb.cell (p := ⟨w7.heap.size, 2, none⟩) z11).trans x11_2⟩)
    have HYW7 := Lib.hid (show ∀ W', Below W7.heap.size W7 W' → (W'.frozen? ⟨w.heap.size, 0, none⟩ = false ∧ W'.frozen? ⟨w.heap.size, 1, none⟩ = false ∧ W'.frozen? ⟨w.heap.size, 2, none⟩ = false ∧ W'.frozen? ⟨w3.heap.size, 0, none⟩ = false ∧ W'.frozen? ⟨w3.heap.size, 1, none⟩ = false ∧ W'.frozen? ⟨w3.heap.size, 2, none⟩ = false ∧ W'.frozen? ⟨w4.heap.size, 0, none⟩ = false ∧ W'.frozen? ⟨w4.heap.size, 1, none⟩ = false ∧ W'.frozen? ⟨w4.heap.size, 2, none⟩ = false ∧ W'.frozen? ⟨w5.heap.size, 0, none⟩ = false ∧ W'.frozen? ⟨w5.heap.size, 1, none⟩ = false ∧ W'.frozen? ⟨w5.heap.size, 2, none⟩ = false ∧ W'.frozen? ⟨w6.heap.size, 0, none⟩ = false ∧ W'.frozen? ⟨w6.heap.size, 1, none⟩ = false ∧ W'.frozen? ⟨w6.heap.size, 2, none⟩ = false ∧ W'.frozen? ⟨w7.heap.size, 0, none⟩ = false ∧ W'.frozen? ⟨w7.heap.size, 1, none⟩ = false ∧ W'.frozen? ⟨w7.heap.size, 2, none⟩ = false) from fun W' hb =>
      ⟨(hb.frozen (p := ⟨w.heap.size, 0, none⟩) z0).trans y0_0, (hb.frozen (p := ⟨w.heap.size, 1, none⟩) z0).trans y0_1, (hb.frozen (p := ⟨w.heap.size, 2, none⟩) z0).trans y0_2, (hb.frozen (p := ⟨w3.heap.size, 0, none⟩) z7).trans y7_0, (hb.frozen (p := ⟨w3.heap.size, 1, none⟩) z7).trans y7_1, (hb.frozen (p := ⟨w3.heap.size, 2, none⟩) z7).trans y7_2, (hb.frozen (p := ⟨w4.heap.size, 0, none⟩) z8).trans y8_0, (hb.frozen (p := ⟨w4.heap.size, 1, none⟩) z8).trans y8_1, (hb.frozen (p := ⟨w4.heap.size, 2, none⟩) z8).trans y8_2, (hb.frozen (p := ⟨w5.heap.size, 0, none⟩) z9).trans y9_0, (hb.frozen (p := ⟨w5.heap.size, 1, none⟩) z9).trans y9_1, (hb.frozen (p := ⟨w5.heap.size, 2, none⟩) z9).trans y9_2, (hb.frozen (p := ⟨w6.heap.size, 0, none⟩) z10).trans y10_0, (hb.frozen (p := ⟨w6.heap.size, 1, none⟩) z10).trans y10_1, (hb.frozen (p := ⟨w6.heap.size, 2, none⟩) z10).trans y10_2, (hb.frozen (p := ⟨w7.heap.size, 0, none⟩) z11).trans y11_0, (hb.frozen (p := ⟨w7.heap.size, 1, none⟩) z11).trans y11_1, (hb.frozen (p := ⟨w7.heap.size, 2, none⟩) z11).trans y11_2⟩)
    have HZW7 := Lib.hid (show ∀ W', Below W7.heap.size W7 W' → (w.heap.size < W'.heap.size ∧ w3.heap.size < W'.heap.size ∧ w4.heap.size < W'.heap.size ∧ w5.heap.size < W'.heap.size ∧ w6.heap.size < W'.heap.size ∧ w7.heap.size < W'.heap.size) from fun W' hb =>
      ⟨Nat.lt_of_lt_of_le z0 hb.size, Nat.lt_of_lt_of_le z7 hb.size, Nat.lt_of_lt_of_le z8 hb.size, Nat.lt_of_lt_of_le z9 hb.size, Nat.lt_of_lt_of_le z10 hb.size, Nat.lt_of_lt_of_le z11 hb.size⟩)
    replace gb := Below.refl W7.heap.size W7
    go_wp2_with fail
    go_region_held3 (fun W' => W'.cell? ⟨w.heap.size, 0, none⟩ = some (.bool b0) ∧ W'.cell? ⟨w.heap.size, 1, none⟩ = some (.slice a0 n0 c0) ∧ W'.cell? ⟨w.heap.size, 2, none⟩ = some (.slice a1 n1 c1) ∧ W'.cell? ⟨w3.heap.size, 0, none⟩ = some (.bool mg) ∧ W'.cell? ⟨w3.heap.size, 1, none⟩ = some (.slice a3_ n3_ c3_) ∧ W'.cell? ⟨w3.heap.size, 2, none⟩ = some (.slice p3_ m3_ k3_) ∧ W'.cell? ⟨w4.heap.size, 0, none⟩ = some (.bool mg) ∧ W'.cell? ⟨w4.heap.size, 1, none⟩ = some (.slice a4_ n4_ c4_) ∧ W'.cell? ⟨w4.heap.size, 2, none⟩ = some (.slice p4_ m4_ k4_) ∧ W'.cell? ⟨w5.heap.size, 0, none⟩ = some (.bool ng5) ∧ W'.cell? ⟨w5.heap.size, 1, none⟩ = some (.slice a5_ n5_ c5_) ∧ W'.cell? ⟨w5.heap.size, 2, none⟩ = some (.slice p5_ m5_ k5_) ∧ W'.cell? ⟨w6.heap.size, 0, none⟩ = some (.bool ng6) ∧ W'.cell? ⟨w6.heap.size, 1, none⟩ = some (.slice a6_ n6_ c6_) ∧ W'.cell? ⟨w6.heap.size, 2, none⟩ = some (.slice p6_ m6_ k6_) ∧ W'.cell? ⟨w7.heap.size, 0, none⟩ = some (.bool ng7) ∧ W'.cell? ⟨w7.heap.size, 1, none⟩ = some (.slice a7_ n7_ c7_) ∧ W'.cell? ⟨w7.heap.size, 2, none⟩ = some (.slice p7_ m7_ k7_)) (first | (with_reducible exact ⟨x0_0, x0_1, x0_2, x7_0, x7_1, x7_2, x8_0, x8_1, x8_2, x9_0, x9_1, x9_2, x10_0, x10_1, x10_2, x11_0, x11_1, x11_2⟩) | exact ⟨x0_0, x0_1, x0_2, x7_0, x7_1, x7_2, x8_0, x8_1, x8_2, x9_0, x9_1, x9_2, x10_0, x10_1, x10_2, x11_0, x11_1, x11_2⟩) (first
      | (go_at_call 15; (with_reducible refine (equal_q _ g11 (g7.to gb)).mono ?_); rintro e w12 ⟨rfl, hb12⟩; have g11 := g11.to hb12; have gb := below_step gb hb12; obtain ⟨x0_0, x0_1, x0_2, x7_0, x7_1, x7_2, x8_0, x8_1, x8_2, x9_0, x9_1, x9_2, x10_0, x10_1, x10_2, x11_0, x11_1, x11_2⟩ := HXW7.out _ gb; obtain ⟨y0_0, y0_1, y0_2, y7_0, y7_1, y7_2, y8_0, y8_1, y8_2, y9_0, y9_1, y9_2, y10_0, y10_1, y10_2, y11_0, y11_1, y11_2⟩ := HYW7.out _ gb; obtain ⟨z0, z7, z8, z9, z10, z11⟩ := HZW7.out _ gb)
      | (go_at_call 20; (with_reducible refine (ratio_mul _ _ _ _ _ _ _ _ _ _ _ (g5.to gb).isQ (g6.to gb).isQ (A ^ (I + J)) HE.out L4).mono ?_); rintro e w11 ⟨ng11, a11_, n11_, c11_, p11_, m11_, k11_, rfl, g11, hb11⟩; have gb := below_step gb hb11; obtain ⟨x0_0, x0_1, x0_2, x7_0, x7_1, x7_2, x8_0, x8_1, x8_2, x9_0, x9_1, x9_2, x10_0, x10_1, x10_2, x11_0, x11_1, x11_2⟩ := HXW7.out _ gb; obtain ⟨y0_0, y0_1, y0_2, y7_0, y7_1, y7_2, y8_0, y8_1, y8_2, y9_0, y9_1, y9_2, y10_0, y10_1, y10_2, y11_0, y11_1, y11_2⟩ := HYW7.out _ gb; obtain ⟨z0, z7, z8, z9, z10, z11⟩ := HZW7.out _ gb)
      | (go_at_call 15; have gb := gb.drew; (with_reducible refine (equal_f _ (g3.to gb) (g4.to gb)).mono ?_); rintro e w10 ⟨rfl, hb10⟩; have gb := below_step gb hb10; obtain ⟨x0_0, x0_1, x0_2, x7_0, x7_1, x7_2, x8_0, x8_1, x8_2, x9_0, x9_1, x9_2, x10_0, x10_1, x10_2, x11_0, x11_1, x11_2⟩ := HXW7.out _ gb; obtain ⟨y0_0, y0_1, y0_2, y7_0, y7_1, y7_2, y8_0, y8_1, y8_2, y9_0, y9_1, y9_2, y10_0, y10_1, y10_2, y11_0, y11_1, y11_2⟩ := HYW7.out _ gb; obtain ⟨z0, z7, z8, z9, z10, z11⟩ := HZW7.out _ gb))
    go_wp2_with fail
    go_ret
    exact ⟨by first | rfl | exact ret_bool (by simp), below_step zb gb⟩

end Go.Proofs.Ytmjnlpanlgmdmaa

