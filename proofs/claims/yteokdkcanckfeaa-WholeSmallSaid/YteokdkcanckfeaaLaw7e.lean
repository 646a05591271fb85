/-
  The walks of the laws of layer 7.
-/
import Derived.Test.YteokdkcanckfeaaLaw7
import Derived.Test.YteokdkcanckfeaaWholeR
import Derived.Test.YteokdkcanckfeaaLits
import Derived.Deep.RegionHeld3
import Derived.Deep.DrawnRows
import Derived.Laws.EntriesVeiled
namespace Go.Proofs.Yteokdkcanckfeaa
open Go.RowKit Tw
set_option linter.unusedVariables false
set_option linter.unusedSimpArgs false
attribute [local go_sem ↓] Go.wp_at_zero Go.wp_at_succ

theorem mul_small {a b : Int} (m0 : -2147483648 ≤ a) (m1 : a ≤ 2147483648) (n0 : -2147483648 ≤ b) (n1 : b ≤ 2147483648) : -4611686018427387904 ≤ a * b ∧ a * b ≤ 4611686018427387904 := by
  have h : (a * b).natAbs ≤ 2147483648 * 2147483648 := by rw [Int.natAbs_mul]; exact Nat.mul_le_mul (by omega) (by omega)
  omega

set_option maxRecDepth 100000 in
set_option maxHeartbeats 40000000 in
theorem walk_WholeSmall (a b : Int) (w : World) (m0 : -2147483648 ≤ a) (m1 : a < 2147483648) (n0 : -2147483648 ≤ b) (n1 : b < 2147483648) :
    Calls Try.prog 13 #[.int .i32 a, .int .i32 b] w (Holds w) := by
  have wa : IntKind.i64.wrap a = a := IntWalk.i64_in _ (by omega)
  have wb : IntKind.i64.wrap b = b := IntWalk.i64_in _ (by omega)
  have ws : IntKind.i64.wrap (a + b) = a + b := IntWalk.i64_in _ (by omega)
  have wd : IntKind.i64.wrap (a - b) = a - b := IntWalk.i64_in _ (by omega)
  have q1 : -4611686018427387904 ≤ a * b ∧ a * b ≤ 4611686018427387904 := mul_small (by omega) (by omega) (by omega) (by omega)
  have wm : IntKind.i64.wrap (a * b) = a * b := IntWalk.i64_in _ (by omega)
  have q2 := Lib.hid q1
  clear q1
  obtain ⟨A, hA⟩ : ∃ z : Int, z = a := ⟨_, rfl⟩
  obtain ⟨B, hB⟩ : ∃ z : Int, z = b := ⟨_, rfl⟩
  have HA := Lib.hid hA
  have HB := Lib.hid hB
  clear hA hB
  have HS := Lib.hid (show szi (A + B) ≤ 90000 from szi_word (by rw [HA.out, HB.out]; omega) (by rw [HA.out, HB.out]; omega))
  have HD := Lib.hid (show szi (A - B) ≤ 90000 from szi_word (by rw [HA.out, HB.out]; omega) (by rw [HA.out, HB.out]; omega))
  have HM := Lib.hid (show szi (A * B) ≤ 90000 from szi_word (by rw [HA.out, HB.out]; have := q2.out; omega) (by rw [HA.out, HB.out]; have := q2.out; omega))
  rcases (show a < b ∨ a = b ∨ b < a by omega) with h | h | h
  · have d1 : decide (a < b) = true := by simp; omega
    have d2 : decide (b < a) = false := by simp; omega
    have Hk := Lib.hid (show cmpZ A B = -1 by rw [HA.out, HB.out]; unfold cmpZ; split <;> first | rfl | (split <;> omega) | omega)
    clear h
    go_enter Try.func13, Try.ntmps13
    go_wp2_with fail
    have zb : Below w.heap.size w w := Below.refl _ _
    refine (awake7 _).mono ?_
    rintro e w1 ⟨rfl, hb1⟩
    have hw_w1 : w.heap.size ≤ w.heap.size := (by exact zb.size)
    replace zb := below_step zb hb1
    go_wp2_with fail
    refine (of_z a A _ HA.out (by omega) (by omega)).mono ?_
    rintro e w2 ⟨ng2, a2_, n2_, c2_, rfl, Hng2, g2, hb2⟩
    have hw_w2 : w.heap.size ≤ w1.heap.size := (by exact zb.size)
    replace zb := below_step zb hb2
    go_wp2_with fail
    obtain ⟨W2, hW2⟩ : ∃ W2, w2.alloc (.cells #[.bool ng2, .slice a2_ n2_ c2_] 41) = W2 := ⟨_, rfl⟩
    have hb_W2 : Below w2.heap.size w2 W2 := by rw [← hW2]; exact below_new _ _
    have zs_W2 : w2.heap.size < W2.heap.size := by rw [← hW2]; simp
    have hw_W2 : w.heap.size ≤ w2.heap.size := (by exact zb.size)
    replace g2 := g2.to hb_W2
    replace zb := below_step zb hb_W2
    have x5_0 : W2.cell? ⟨w2.heap.size, 0, none⟩ = some (.bool ng2) := by rw [← hW2]; simp [go_sem]
    have y5_0 : W2.frozen? ⟨w2.heap.size, 0, none⟩ = false := by rw [← hW2]; simp [go_sem]
    have x5_1 : W2.cell? ⟨w2.heap.size, 1, none⟩ = some (.slice a2_ n2_ c2_) := by rw [← hW2]; simp [go_sem]
    have y5_1 : W2.frozen? ⟨w2.heap.size, 1, none⟩ = false := by rw [← hW2]; simp [go_sem]
    rw [hW2]
    clear hW2
    go_wp2_with fail
    refine (of_z b B _ HB.out (by omega) (by omega)).mono ?_
    rintro e w3 ⟨ng3, a3_, n3_, c3_, rfl, Hng3, g3, hb3⟩
    have hw_w3 : w.heap.size ≤ W2.heap.size := (by omega)
    replace x5_0 := (hb3.cell (p := ⟨w2.heap.size, 0, none⟩) (by show w2.heap.size < W2.heap.size; omega)).trans x5_0
    replace y5_0 := (hb3.frozen (p := ⟨w2.heap.size, 0, none⟩) (by show w2.heap.size < W2.heap.size; omega)).trans y5_0
    replace x5_1 := (hb3.cell (p := ⟨w2.heap.size, 1, none⟩) (by show w2.heap.size < W2.heap.size; omega)).trans x5_1
    replace y5_1 := (hb3.frozen (p := ⟨w2.heap.size, 1, none⟩) (by show w2.heap.size < W2.heap.size; omega)).trans y5_1
    replace zs_W2 := Nat.lt_of_lt_of_le zs_W2 hb3.size
    replace g2 := g2.to hb3
    replace zb := below_step zb hb3
    go_wp2_with fail
    obtain ⟨W3, hW3⟩ : ∃ W3, w3.alloc (.cells #[.bool ng3, .slice a3_ n3_ c3_] 41) = W3 := ⟨_, rfl⟩
    have hb_W3 : Below w3.heap.size w3 W3 := by rw [← hW3]; exact below_new _ _
    have zs_W3 : w3.heap.size < W3.heap.size := by rw [← hW3]; simp
    have hw_W3 : w.heap.size ≤ w3.heap.size := (by omega)
    replace x5_0 := (hb_W3.cell (p := ⟨w2.heap.size, 0, none⟩) (by show w2.heap.size < w3.heap.size; omega)).trans x5_0
    replace y5_0 := (hb_W3.frozen (p := ⟨w2.heap.size, 0, none⟩) (by show w2.heap.size < w3.heap.size; omega)).trans y5_0
    replace x5_1 := (hb_W3.cell (p := ⟨w2.heap.size, 1, none⟩) (by show w2.heap.size < w3.heap.size; omega)).trans x5_1
    replace y5_1 := (hb_W3.frozen (p := ⟨w2.heap.size, 1, none⟩) (by show w2.heap.size < w3.heap.size; omega)).trans y5_1
    replace zs_W2 := Nat.lt_of_lt_of_le zs_W2 hb_W3.size
    replace g2 := g2.to hb_W3
    replace g3 := g3.to hb_W3
    replace zb := below_step zb hb_W3
    have x6_0 : W3.cell? ⟨w3.heap.size, 0, none⟩ = some (.bool ng3) := by rw [← hW3]; simp [go_sem]
    have y6_0 : W3.frozen? ⟨w3.heap.size, 0, none⟩ = false := by rw [← hW3]; simp [go_sem]
    have x6_1 : W3.cell? ⟨w3.heap.size, 1, none⟩ = some (.slice a3_ n3_ c3_) := by rw [← hW3]; simp [go_sem]
    have y6_1 : W3.frozen? ⟨w3.heap.size, 1, none⟩ = false := by rw [← hW3]; simp [go_sem]
    rw [hW3]
    clear hW3
    go_wp2_with fail
    refine (add_z _ g2 g3 (A + B) rfl HS).mono ?_
    rintro e w4 ⟨ng4, a4_, n4_, c4_, rfl, Hng4, g4, hb4⟩
    have hw_w4 : w.heap.size ≤ W3.heap.size := (by omega)
    replace x5_0 := (hb4.cell (p := ⟨w2.heap.size, 0, none⟩) (by show w2.heap.size < W3.heap.size; omega)).trans x5_0
    replace y5_0 := (hb4.frozen (p := ⟨w2.heap.size, 0, none⟩) (by show w2.heap.size < W3.heap.size; omega)).trans y5_0
    replace x5_1 := (hb4.cell (p := ⟨w2.heap.size, 1, none⟩) (by show w2.heap.size < W3.heap.size; omega)).trans x5_1
    replace y5_1 := (hb4.frozen (p := ⟨w2.heap.size, 1, none⟩) (by show w2.heap.size < W3.heap.size; omega)).trans y5_1
    replace x6_0 := (hb4.cell (p := ⟨w3.heap.size, 0, none⟩) (by show w3.heap.size < W3.heap.size; omega)).trans x6_0
    replace y6_0 := (hb4.frozen (p := ⟨w3.heap.size, 0, none⟩) (by show w3.heap.size < W3.heap.size; omega)).trans y6_0
    replace x6_1 := (hb4.cell (p := ⟨w3.heap.size, 1, none⟩) (by show w3.heap.size < W3.heap.size; omega)).trans x6_1
    replace y6_1 := (hb4.frozen (p := ⟨w3.heap.size, 1, none⟩) (by show w3.heap.size < W3.heap.size; omega)).trans y6_1
    replace zs_W2 := Nat.lt_of_lt_of_le zs_W2 hb4.size
    replace zs_W3 := Nat.lt_of_lt_of_le zs_W3 hb4.size
    replace g2 := g2.to hb4
    replace g3 := g3.to hb4
    replace zb := below_step zb hb4
    go_wp2_with fail
    refine (of_z (a + b) (A + B) _ (by rw [HA.out, HB.out]) (by omega) (by omega)).mono ?_
    rintro e w7 ⟨ng7, a7_, n7_, c7_, rfl, Hng7, g7, hb7⟩
    have hw_w7 : w.heap.size ≤ w4.heap.size := (by omega)
    replace x5_0 := (hb7.cell (p := ⟨w2.heap.size, 0, none⟩) (by show w2.heap.size < w4.heap.size; omega)).trans x5_0
    replace y5_0 := (hb7.frozen (p := ⟨w2.heap.size, 0, none⟩) (by show w2.heap.size < w4.heap.size; omega)).trans y5_0
    replace x5_1 := (hb7.cell (p := ⟨w2.heap.size, 1, none⟩) (by show w2.heap.size < w4.heap.size; omega)).trans x5_1
    replace y5_1 := (hb7.frozen (p := ⟨w2.heap.size, 1, none⟩) (by show w2.heap.size < w4.heap.size; omega)).trans y5_1
    replace x6_0 := (hb7.cell (p := ⟨w3.heap.size, 0, none⟩) (by show w3.heap.size < w4.heap.size; omega)).trans x6_0
    replace y6_0 := (hb7.frozen (p := ⟨w3.heap.size, 0, none⟩) (by show w3.heap.size < w4.heap.size; omega)).trans y6_0
    replace x6_1 := (hb7.cell (p := ⟨w3.heap.size, 1, none⟩) (by show w3.heap.size < w4.heap.size; omega)).trans x6_1
    replace y6_1 := (hb7.frozen (p := ⟨w3.heap.size, 1, none⟩) (by show w3.heap.size < w4.heap.size; omega)).trans y6_1
    replace zs_W2 := Nat.lt_of_lt_of_le zs_W2 hb7.size
    replace zs_W3 := Nat.lt_of_lt_of_le zs_W3 hb7.size
    replace g2 := g2.to hb7
    replace g3 := g3.to hb7
    replace g4 := g4.to hb7
    replace zb := below_step zb hb7
    go_wp2_with fail
    refine (same_z _ g4 g7 Hng4 Hng7).mono ?_
    rintro e w8 ⟨rfl, hb8⟩
    have hw_w8 : w.heap.size ≤ w7.heap.size := (by omega)
    replace x5_0 := (hb8.cell (p := ⟨w2.heap.size, 0, none⟩) (by show w2.heap.size < w7.heap.size; omega)).trans x5_0
    replace y5_0 := (hb8.frozen (p := ⟨w2.heap.size, 0, none⟩) (by show w2.heap.size < w7.heap.size; omega)).trans y5_0
    replace x5_1 := (hb8.cell (p := ⟨w2.heap.size, 1, none⟩) (by show w2.heap.size < w7.heap.size; omega)).trans x5_1
    replace y5_1 := (hb8.frozen (p := ⟨w2.heap.size, 1, none⟩) (by show w2.heap.size < w7.heap.size; omega)).trans y5_1
    replace x6_0 := (hb8.cell (p := ⟨w3.heap.size, 0, none⟩) (by show w3.heap.size < w7.heap.size; omega)).trans x6_0
    replace y6_0 := (hb8.frozen (p := ⟨w3.heap.size, 0, none⟩) (by show w3.heap.size < w7.heap.size; omega)).trans y6_0
    replace x6_1 := (hb8.cell (p := ⟨w3.heap.size, 1, none⟩) (by show w3.heap.size < w7.heap.size; omega)).trans x6_1
    replace y6_1 := (hb8.frozen (p := ⟨w3.heap.size, 1, none⟩) (by show w3.heap.size < w7.heap.size; omega)).trans y6_1
    replace zs_W2 := Nat.lt_of_lt_of_le zs_W2 hb8.size
    replace zs_W3 := Nat.lt_of_lt_of_le zs_W3 hb8.size
    replace g2 := g2.to hb8
    replace g3 := g3.to hb8
    replace g4 := g4.to hb8
    replace g7 := g7.to hb8
    replace zb := below_step zb hb8
    go_wp2_with fail
    refine (sub_z _ g2 g3 (A - B) rfl HD).mono ?_
    rintro e w9 ⟨ng9, a9_, n9_, c9_, rfl, Hng9, g9, hb9⟩
    have hw_w9 : w.heap.size ≤ w8.heap.size := (by omega)
    replace x5_0 := (hb9.cell (p := ⟨w2.heap.size, 0, none⟩) (by show w2.heap.size < w8.heap.size; omega)).trans x5_0
    replace y5_0 := (hb9.frozen (p := ⟨w2.heap.size, 0, none⟩) (by show w2.heap.size < w8.heap.size; omega)).trans y5_0
    replace x5_1 := (hb9.cell (p := ⟨w2.heap.size, 1, none⟩) (by show w2.heap.size < w8.heap.size; omega)).trans x5_1
    replace y5_1 := (hb9.frozen (p := ⟨w2.heap.size, 1, none⟩) (by show w2.heap.size < w8.heap.size; omega)).trans y5_1
    replace x6_0 := (hb9.cell (p := ⟨w3.heap.size, 0, none⟩) (by show w3.heap.size < w8.heap.size; omega)).trans x6_0
    replace y6_0 := (hb9.frozen (p := ⟨w3.heap.size, 0, none⟩) (by show w3.heap.size < w8.heap.size; omega)).trans y6_0
    replace x6_1 := (hb9.cell (p := ⟨w3.heap.size, 1, none⟩) (by show w3.heap.size < w8.heap.size; omega)).trans x6_1
    replace y6_1 := (hb9.frozen (p := ⟨w3.heap.size, 1, none⟩) (by show w3.heap.size < w8.heap.size; omega)).trans y6_1
    replace zs_W2 := Nat.lt_of_lt_of_le zs_W2 hb9.size
    replace zs_W3 := Nat.lt_of_lt_of_le zs_W3 hb9.size
    replace g2 := g2.to hb9
    replace g3 := g3.to hb9
    replace g4 := g4.to hb9
    replace g7 := g7.to hb9
    replace zb := below_step zb hb9
    go_wp2_with fail
    refine (of_z (a - b) (A - B) _ (by rw [HA.out, HB.out]) (by omega) (by omega)).mono ?_
    rintro e w10 ⟨ng10, a10_, n10_, c10_, rfl, Hng10, g10, hb10⟩
    have hw_w10 : w.heap.size ≤ w9.heap.size := (by omega)
    replace x5_0 := (hb10.cell (p := ⟨w2.heap.size, 0, none⟩) (by show w2.heap.size < w9.heap.size; omega)).trans x5_0
    replace y5_0 := (hb10.frozen (p := ⟨w2.heap.size, 0, none⟩) (by show w2.heap.size < w9.heap.size; omega)).trans y5_0
    replace x5_1 := (hb10.cell (p := ⟨w2.heap.size, 1, none⟩) (by show w2.heap.size < w9.heap.size; omega)).trans x5_1
    replace y5_1 := (hb10.frozen (p := ⟨w2.heap.size, 1, none⟩) (by show w2.heap.size < w9.heap.size; omega)).trans y5_1
    replace x6_0 := (hb10.cell (p := ⟨w3.heap.size, 0, none⟩) (by show w3.heap.size < w9.heap.size; omega)).trans x6_0
    replace y6_0 := (hb10.frozen (p := ⟨w3.heap.size, 0, none⟩) (by show w3.heap.size < w9.heap.size; omega)).trans y6_0
    replace x6_1 := (hb10.cell (p := ⟨w3.heap.size, 1, none⟩) (by show w3.heap.size < w9.heap.size; omega)).trans x6_1
    replace y6_1 := (hb10.frozen (p := ⟨w3.heap.size, 1, none⟩) (by show w3.heap.size < w9.heap.size; omega)).trans y6_1
    replace zs_W2 := Nat.lt_of_lt_of_le zs_W2 hb10.size
    replace zs_W3 := Nat.lt_of_lt_of_le zs_W3 hb10.size
    replace g2 := g2.to hb10
    replace g3 := g3.to hb10
    replace g4 := g4.to hb10
    replace g7 := g7.to hb10
    replace g9 := g9.to hb10
    replace zb := below_step zb hb10
    go_wp2_with fail
    refine (same_z _ g9 g10 Hng9 Hng10).mono ?_
    rintro e w11 ⟨rfl, hb11⟩
    have hw_w11 : w.heap.size ≤ w10.heap.size := (by omega)
    replace x5_0 := (hb11.cell (p := ⟨w2.heap.size, 0, none⟩) (by show w2.heap.size < w10.heap.size; omega)).trans x5_0
    replace y5_0 := (hb11.frozen (p := ⟨w2.heap.size, 0, none⟩) (by show w2.heap.size < w10.heap.size; omega)).trans y5_0
    replace x5_1 := (hb11.cell (p := ⟨w2.heap.size, 1, none⟩) (by show w2.heap.size < w10.heap.size; omega)).trans x5_1
    replace y5_1 := (hb11.frozen (p := ⟨w2.heap.size, 1, none⟩) (by show w2.heap.size < w10.heap.size; omega)).trans y5_1
    replace x6_0 := (hb11.cell (p := ⟨w3.heap.size, 0, none⟩) (by show w3.heap.size < w10.heap.size; omega)).trans x6_0
    replace y6_0 := (hb11.frozen (p := ⟨w3.heap.size, 0, none⟩) (by show w3.heap.size < w10.heap.size; omega)).trans y6_0
    replace x6_1 := (hb11.cell (p := ⟨w3.heap.size, 1, none⟩) (by show w3.heap.size < w10.heap.size; omega)).trans x6_1
    replace y6_1 := (hb11.frozen (p := ⟨w3.heap.size, 1, none⟩) (by show w3.heap.size < w10.heap.size; omega)).trans y6_1
    replace zs_W2 := Nat.lt_of_lt_of_le zs_W2 hb11.size
    replace zs_W3 := Nat.lt_of_lt_of_le zs_W3 hb11.size
    replace g2 := g2.to hb11
    replace g3 := g3.to hb11
    replace g4 := g4.to hb11
    replace g7 := g7.to hb11
    replace g9 := g9.to hb11
    replace g10 := g10.to hb11
    replace zb := below_step zb hb11
    go_wp2_with fail
    refine (mul_z _ g2 g3 (A * B) rfl HM).mono ?_
    rintro e w12 ⟨ng12, a12_, n12_, c12_, rfl, Hng12, g12, hb12⟩
    have hw_w12 : w.heap.size ≤ w11.heap.size := (by omega)
    replace x5_0 := (hb12.cell (p := ⟨w2.heap.size, 0, none⟩) (by show w2.heap.size < w11.heap.size; omega)).trans x5_0
    replace y5_0 := (hb12.frozen (p := ⟨w2.heap.size, 0, none⟩) (by show w2.heap.size < w11.heap.size; omega)).trans y5_0
    replace x5_1 := (hb12.cell (p := ⟨w2.heap.size, 1, none⟩) (by show w2.heap.size < w11.heap.size; omega)).trans x5_1
    replace y5_1 := (hb12.frozen (p := ⟨w2.heap.size, 1, none⟩) (by show w2.heap.size < w11.heap.size; omega)).trans y5_1
    replace x6_0 := (hb12.cell (p := ⟨w3.heap.size, 0, none⟩) (by show w3.heap.size < w11.heap.size; omega)).trans x6_0
    replace y6_0 := (hb12.frozen (p := ⟨w3.heap.size, 0, none⟩) (by show w3.heap.size < w11.heap.size; omega)).trans y6_0
    replace x6_1 := (hb12.cell (p := ⟨w3.heap.size, 1, none⟩) (by show w3.heap.size < w11.heap.size; omega)).trans x6_1
    replace y6_1 := (hb12.frozen (p := ⟨w3.heap.size, 1, none⟩) (by show w3.heap.size < w11.heap.size; omega)).trans y6_1
    replace zs_W2 := Nat.lt_of_lt_of_le zs_W2 hb12.size
    replace zs_W3 := Nat.lt_of_lt_of_le zs_W3 hb12.size
    replace g2 := g2.to hb12
    replace g3 := g3.to hb12
    replace g4 := g4.to hb12
    replace g7 := g7.to hb12
    replace g9 := g9.to hb12
    replace g10 := g10.to hb12
    replace zb := below_step zb hb12
    go_wp2_with fail
    refine (of_z (a * b) (A * B) _ (by rw [HA.out, HB.out]) (by have := q2.out; omega) (by have := q2.out; omega)).mono ?_
    rintro e w13 ⟨ng13, a13_, n13_, c13_, rfl, Hng13, g13, hb13⟩
    have hw_w13 : w.heap.size ≤ w12.heap.size := (by omega)
    replace x5_0 := (hb13.cell (p := ⟨w2.heap.size, 0, none⟩) (by show w2.heap.size < w12.heap.size; omega)).trans x5_0
    replace y5_0 := (hb13.frozen (p := ⟨w2.heap.size, 0, none⟩) (by show w2.heap.size < w12.heap.size; omega)).trans y5_0
    replace x5_1 := (hb13.cell (p := ⟨w2.heap.size, 1, none⟩) (by show w2.heap.size < w12.heap.size; omega)).trans x5_1
    replace y5_1 := (hb13.frozen (p := ⟨w2.heap.size, 1, none⟩) (by show w2.heap.size < w12.heap.size; omega)).trans y5_1
    replace x6_0 := (hb13.cell (p := ⟨w3.heap.size, 0, none⟩) (by show w3.heap.size < w12.heap.size; omega)).trans x6_0
    replace y6_0 := (hb13.frozen (p := ⟨w3.heap.size, 0, none⟩) (by show w3.heap.size < w12.heap.size; omega)).trans y6_0
    replace x6_1 := (hb13.cell (p := ⟨w3.heap.size, 1, none⟩) (by show w3.heap.size < w12.heap.size; omega)).trans x6_1
    replace y6_1 := (hb13.frozen (p := ⟨w3.heap.size, 1, none⟩) (by show w3.heap.size < w12.heap.size; omega)).trans y6_1
    replace zs_W2 := Nat.lt_of_lt_of_le zs_W2 hb13.size
    replace zs_W3 := Nat.lt_of_lt_of_le zs_W3 hb13.size
    replace g2 := g2.to hb13
    replace g3 := g3.to hb13
    replace g4 := g4.to hb13
    replace g7 := g7.to hb13
    replace g9 := g9.to hb13
    replace g10 := g10.to hb13
    replace g12 := g12.to hb13
    replace zb := below_step zb hb13
    go_wp2_with fail
    refine (same_z _ g12 g13 Hng12 Hng13).mono ?_
    rintro e w14 ⟨rfl, hb14⟩
    have hw_w14 : w.heap.size ≤ w13.heap.size := (by omega)
    replace x5_0 := (hb14.cell (p := ⟨w2.heap.size, 0, none⟩) (by show w2.heap.size < w13.heap.size; omega)).trans x5_0
    replace y5_0 := (hb14.frozen (p := ⟨w2.heap.size, 0, none⟩) (by show w2.heap.size < w13.heap.size; omega)).trans y5_0
    replace x5_1 := (hb14.cell (p := ⟨w2.heap.size, 1, none⟩) (by show w2.heap.size < w13.heap.size; omega)).trans x5_1
    replace y5_1 := (hb14.frozen (p := ⟨w2.heap.size, 1, none⟩) (by show w2.heap.size < w13.heap.size; omega)).trans y5_1
    replace x6_0 := (hb14.cell (p := ⟨w3.heap.size, 0, none⟩) (by show w3.heap.size < w13.heap.size; omega)).trans x6_0
    replace y6_0 := (hb14.frozen (p := ⟨w3.heap.size, 0, none⟩) (by show w3.heap.size < w13.heap.size; omega)).trans y6_0
    replace x6_1 := (hb14.cell (p := ⟨w3.heap.size, 1, none⟩) (by show w3.heap.size < w13.heap.size; omega)).trans x6_1
    replace y6_1 := (hb14.frozen (p := ⟨w3.heap.size, 1, none⟩) (by show w3.heap.size < w13.heap.size; omega)).trans y6_1
    replace zs_W2 := Nat.lt_of_lt_of_le zs_W2 hb14.size
    replace zs_W3 := Nat.lt_of_lt_of_le zs_W3 hb14.size
    replace g2 := g2.to hb14
    replace g3 := g3.to hb14
    replace g4 := g4.to hb14
    replace g7 := g7.to hb14
    replace g9 := g9.to hb14
    replace g10 := g10.to hb14
    replace g12 := g12.to hb14
    replace g13 := g13.to hb14
    replace zb := below_step zb hb14
    go_wp2_with fail
    refine (cmp_z _ g2 g3 (-1) Hk.out).mono ?_
    rintro e w15 ⟨rfl, hb15⟩
    have hw_w15 : w.heap.size ≤ w14.heap.size := (by omega)
    replace x5_0 := (hb15.cell (p := ⟨w2.heap.size, 0, none⟩) (by show w2.heap.size < w14.heap.size; omega)).trans x5_0
    replace y5_0 := (hb15.frozen (p := ⟨w2.heap.size, 0, none⟩) (by show w2.heap.size < w14.heap.size; omega)).trans y5_0
    replace x5_1 := (hb15.cell (p := ⟨w2.heap.size, 1, none⟩) (by show w2.heap.size < w14.heap.size; omega)).trans x5_1
    replace y5_1 := (hb15.frozen (p := ⟨w2.heap.size, 1, none⟩) (by show w2.heap.size < w14.heap.size; omega)).trans y5_1
    replace x6_0 := (hb15.cell (p := ⟨w3.heap.size, 0, none⟩) (by show w3.heap.size < w14.heap.size; omega)).trans x6_0
    replace y6_0 := (hb15.frozen (p := ⟨w3.heap.size, 0, none⟩) (by show w3.heap.size < w14.heap.size; omega)).trans y6_0
    replace x6_1 := (hb15.cell (p := ⟨w3.heap.size, 1, none⟩) (by show w3.heap.size < w14.heap.size; omega)).trans x6_1
    replace y6_1 := (hb15.frozen (p := ⟨w3.heap.size, 1, none⟩) (by show w3.heap.size < w14.heap.size; omega)).trans y6_1
    replace zs_W2 := Nat.lt_of_lt_of_le zs_W2 hb15.size
    replace zs_W3 := Nat.lt_of_lt_of_le zs_W3 hb15.size
    replace g2 := g2.to hb15
    replace g3 := g3.to hb15
    replace g4 := g4.to hb15
    replace g7 := g7.to hb15
    replace g9 := g9.to hb15
    replace g10 := g10.to hb15
    replace g12 := g12.to hb15
    replace g13 := g13.to hb15
    replace zb := below_step zb hb15
    go_wp2_with fail
    go_ret
    exact ⟨by first | rfl | exact ret_bool (by simp), zb⟩
  · have d1 : decide (a < b) = false := by simp; omega
    have d2 : decide (b < a) = false := by simp; omega
    have Hk := Lib.hid (show cmpZ A B = 0 by rw [HA.out, HB.out]; unfold cmpZ; split <;> first | rfl | (split <;> omega) | omega)
    clear h
    go_enter Try.func13, Try.ntmps13
    go_wp2_with fail
    have zb : Below w.heap.size w w := Below.refl _ _
    refine (awake7 _).mono ?_
    rintro e w1 ⟨rfl, hb1⟩
    have hw_w1 : w.heap.size ≤ w.heap.size := (by exact zb.size)
    replace zb := below_step zb hb1
    go_wp2_with fail
    refine (of_z a A _ HA.out (by omega) (by omega)).mono ?_
    rintro e w2 ⟨ng2, a2_, n2_, c2_, rfl, Hng2, g2, hb2⟩
    have hw_w2 : w.heap.size ≤ w1.heap.size := (by exact zb.size)
    replace zb := below_step zb hb2
    go_wp2_with fail
    obtain ⟨W2, hW2⟩ : ∃ W2, w2.alloc (.cells #[.bool ng2, .slice a2_ n2_ c2_] 41) = W2 := ⟨_, rfl⟩
    have hb_W2 : Below w2.heap.size w2 W2 := by rw [← hW2]; exact below_new _ _
    have zs_W2 : w2.heap.size < W2.heap.size := by rw [← hW2]; simp
    have hw_W2 : w.heap.size ≤ w2.heap.size := (by exact zb.size)
    replace g2 := g2.to hb_W2
    replace zb := below_step zb hb_W2
    have x5_0 : W2.cell? ⟨w2.heap.size, 0, none⟩ = some (.bool ng2) := by rw [← hW2]; simp [go_sem]
    have y5_0 : W2.frozen? ⟨w2.heap.size, 0, none⟩ = false := by rw [← hW2]; simp [go_sem]
    have x5_1 : W2.cell? ⟨w2.heap.size, 1, none⟩ = some (.slice a2_ n2_ c2_) := by rw [← hW2]; simp [go_sem]
    have y5_1 : W2.frozen? ⟨w2.heap.size, 1, none⟩ = false := by rw [← hW2]; simp [go_sem]
    rw [hW2]
    clear hW2
    go_wp2_with fail
    refine (of_z b B _ HB.out (by omega) (by omega)).mono ?_
    rintro e w3 ⟨ng3, a3_, n3_, c3_, rfl, Hng3, g3, hb3⟩
    have hw_w3 : w.heap.size ≤ W2.heap.size := (by omega)
    replace x5_0 := (hb3.cell (p := ⟨w2.heap.size, 0, none⟩) (by show w2.heap.size < W2.heap.size; omega)).trans x5_0
    replace y5_0 := (hb3.frozen (p := ⟨w2.heap.size, 0, none⟩) (by show w2.heap.size < W2.heap.size; omega)).trans y5_0
    replace x5_1 := (hb3.cell (p := ⟨w2.heap.size, 1, none⟩) (by show w2.heap.size < W2.heap.size; omega)).trans x5_1
    replace y5_1 := (hb3.frozen (p := ⟨w2.heap.size, 1, none⟩) (by show w2.heap.size < W2.heap.size; omega)).trans y5_1
    replace zs_W2 := Nat.lt_of_lt_of_le zs_W2 hb3.size
    replace g2 := g2.to hb3
    replace zb := below_step zb hb3
    go_wp2_with fail
    obtain ⟨W3, hW3⟩ : ∃ W3, w3.alloc (.cells #[.bool ng3, .slice a3_ n3_ c3_] 41) = W3 := ⟨_, rfl⟩
    have hb_W3 : Below w3.heap.size w3 W3 := by rw [← hW3]; exact below_new _ _
    have zs_W3 : w3.heap.size < W3.heap.size := by rw [← hW3]; simp
    have hw_W3 : w.heap.size ≤ w3.heap.size := (by omega)
    replace x5_0 := (hb_W3.cell (p := ⟨w2.heap.size, 0, none⟩) (by show w2.heap.size < w3.heap.size; omega)).trans x5_0
    replace y5_0 := (hb_W3.frozen (p := ⟨w2.heap.size, 0, none⟩) (by show w2.heap.size < w3.heap.size; omega)).trans y5_0
    replace x5_1 := (hb_W3.cell (p := ⟨w2.heap.size, 1, none⟩) (by show w2.heap.size < w3.heap.size; omega)).trans x5_1
    replace y5_1 := (hb_W3.frozen (p := ⟨w2.heap.size, 1, none⟩) (by show w2.heap.size < w3.heap.size; omega)).trans y5_1
    replace zs_W2 := Nat.lt_of_lt_of_le zs_W2 hb_W3.size
    replace g2 := g2.to hb_W3
    replace g3 := g3.to hb_W3
    replace zb := below_step zb hb_W3
    have x6_0 : W3.cell? ⟨w3.heap.size, 0, none⟩ = some (.bool ng3) := by rw [← hW3]; simp [go_sem]
    have y6_0 : W3.frozen? ⟨w3.heap.size, 0, none⟩ = false := by rw [← hW3]; simp [go_sem]
    have x6_1 : W3.cell? ⟨w3.heap.size, 1, none⟩ = some (.slice a3_ n3_ c3_) := by rw [← hW3]; simp [go_sem]
    have y6_1 : W3.frozen? ⟨w3.heap.size, 1, none⟩ = false := by rw [← hW3]; simp [go_sem]
    rw [hW3]
    clear hW3
    go_wp2_with fail
    refine (add_z _ g2 g3 (A + B) rfl HS).mono ?_
    rintro e w4 ⟨ng4, a4_, n4_, c4_, rfl, Hng4, g4, hb4⟩
    have hw_w4 : w.heap.size ≤ W3.heap.size := (by omega)
    replace x5_0 := (hb4.cell (p := ⟨w2.heap.size, 0, none⟩) (by show w2.heap.size < W3.heap.size; omega)).trans x5_0
    replace y5_0 := (hb4.frozen (p := ⟨w2.heap.size, 0, none⟩) (by show w2.heap.size < W3.heap.size; omega)).trans y5_0
    replace x5_1 := (hb4.cell (p := ⟨w2.heap.size, 1, none⟩) (by show w2.heap.size < W3.heap.size; omega)).trans x5_1
    replace y5_1 := (hb4.frozen (p := ⟨w2.heap.size, 1, none⟩) (by show w2.heap.size < W3.heap.size; omega)).trans y5_1
    replace x6_0 := (hb4.cell (p := ⟨w3.heap.size, 0, none⟩) (by show w3.heap.size < W3.heap.size; omega)).trans x6_0
    replace y6_0 := (hb4.frozen (p := ⟨w3.heap.size, 0, none⟩) (by show w3.heap.size < W3.heap.size; omega)).trans y6_0
    replace x6_1 := (hb4.cell (p := ⟨w3.heap.size, 1, none⟩) (by show w3.heap.size < W3.heap.size; omega)).trans x6_1
    replace y6_1 := (hb4.frozen (p := ⟨w3.heap.size, 1, none⟩) (by show w3.heap.size < W3.heap.size; omega)).trans y6_1
    replace zs_W2 := Nat.lt_of_lt_of_le zs_W2 hb4.size
    replace zs_W3 := Nat.lt_of_lt_of_le zs_W3 hb4.size
    replace g2 := g2.to hb4
    replace g3 := g3.to hb4
    replace zb := below_step zb hb4
    go_wp2_with fail
    refine (of_z (a + b) (A + B) _ (by rw [HA.out, HB.out]) (by omega) (by omega)).mono ?_
    rintro e w7 ⟨ng7, a7_, n7_, c7_, rfl, Hng7, g7, hb7⟩
    have hw_w7 : w.heap.size ≤ w4.heap.size := (by omega)
    replace x5_0 := (hb7.cell (p := ⟨w2.heap.size, 0, none⟩) (by show w2.heap.size < w4.heap.size; omega)).trans x5_0
    replace y5_0 := (hb7.frozen (p := ⟨w2.heap.size, 0, none⟩) (by show w2.heap.size < w4.heap.size; omega)).trans y5_0
    replace x5_1 := (hb7.cell (p := ⟨w2.heap.size, 1, none⟩) (by show w2.heap.size < w4.heap.size; omega)).trans x5_1
    replace y5_1 := (hb7.frozen (p := ⟨w2.heap.size, 1, none⟩) (by show w2.heap.size < w4.heap.size; omega)).trans y5_1
    replace x6_0 := (hb7.cell (p := ⟨w3.heap.size, 0, none⟩) (by show w3.heap.size < w4.heap.size; omega)).trans x6_0
    replace y6_0 := (hb7.frozen (p := ⟨w3.heap.size, 0, none⟩) (by show w3.heap.size < w4.heap.size; omega)).trans y6_0
    replace x6_1 := (hb7.cell (p := ⟨w3.heap.size, 1, none⟩) (by show w3.heap.size < w4.heap.size; omega)).trans x6_1
    replace y6_1 := (hb7.frozen (p := ⟨w3.heap.size, 1, none⟩) (by show w3.heap.size < w4.heap.size; omega)).trans y6_1
    replace zs_W2 := Nat.lt_of_lt_of_le zs_W2 hb7.size
    replace zs_W3 := Nat.lt_of_lt_of_le zs_W3 hb7.size
    replace g2 := g2.to hb7
    replace g3 := g3.to hb7
    replace g4 := g4.to hb7
    replace zb := below_step zb hb7
    go_wp2_with fail
    refine (same_z _ g4 g7 Hng4 Hng7).mono ?_
    rintro e w8 ⟨rfl, hb8⟩
    have hw_w8 : w.heap.size ≤ w7.heap.size := (by omega)
    replace x5_0 := (hb8.cell (p := ⟨w2.heap.size, 0, none⟩) (by show w2.heap.size < w7.heap.size; omega)).trans x5_0
    replace y5_0 := (hb8.frozen (p := ⟨w2.heap.size, 0, none⟩) (by show w2.heap.size < w7.heap.size; omega)).trans y5_0
    replace x5_1 := (hb8.cell (p := ⟨w2.heap.size, 1, none⟩) (by show w2.heap.size < w7.heap.size; omega)).trans x5_1
    replace y5_1 := (hb8.frozen (p := ⟨w2.heap.size, 1, none⟩) (by show w2.heap.size < w7.heap.size; omega)).trans y5_1
    replace x6_0 := (hb8.cell (p := ⟨w3.heap.size, 0, none⟩) (by show w3.heap.size < w7.heap.size; omega)).trans x6_0
    replace y6_0 := (hb8.frozen (p := ⟨w3.heap.size, 0, none⟩) (by show w3.heap.size < w7.heap.size; omega)).trans y6_0
    replace x6_1 := (hb8.cell (p := ⟨w3.heap.size, 1, none⟩) (by show w3.heap.size < w7.heap.size; omega)).trans x6_1
    replace y6_1 := (hb8.frozen (p := ⟨w3.heap.size, 1, none⟩) (by show w3.heap.size < w7.heap.size; omega)).trans y6_1
    replace zs_W2 := Nat.lt_of_lt_of_le zs_W2 hb8.size
    replace zs_W3 := Nat.lt_of_lt_of_le zs_W3 hb8.size
    replace g2 := g2.to hb8
    replace g3 := g3.to hb8
    replace g4 := g4.to hb8
    replace g7 := g7.to hb8
    replace zb := below_step zb hb8
    go_wp2_with fail
    refine (sub_z _ g2 g3 (A - B) rfl HD).mono ?_
    rintro e w9 ⟨ng9, a9_, n9_, c9_, rfl, Hng9, g9, hb9⟩
    have hw_w9 : w.heap.size ≤ w8.heap.size := (by omega)
    replace x5_0 := (hb9.cell (p := ⟨w2.heap.size, 0, none⟩) (by show w2.heap.size < w8.heap.size; omega)).trans x5_0
    replace y5_0 := (hb9.frozen (p := ⟨w2.heap.size, 0, none⟩) (by show w2.heap.size < w8.heap.size; omega)).trans y5_0
    replace x5_1 := (hb9.cell (p := ⟨w2.heap.size, 1, none⟩) (by show w2.heap.size < w8.heap.size; omega)).trans x5_1
    replace y5_1 := (hb9.frozen (p := ⟨w2.heap.size, 1, none⟩) (by show w2.heap.size < w8.heap.size; omega)).trans y5_1
    replace x6_0 := (hb9.cell (p := ⟨w3.heap.size, 0, none⟩) (by show w3.heap.size < w8.heap.size; omega)).trans x6_0
    replace y6_0 := (hb9.frozen (p := ⟨w3.heap.size, 0, none⟩) (by show w3.heap.size < w8.heap.size; omega)).trans y6_0
    replace x6_1 := (hb9.cell (p := ⟨w3.heap.size, 1, none⟩) (by show w3.heap.size < w8.heap.size; omega)).trans x6_1
    replace y6_1 := (hb9.frozen (p := ⟨w3.heap.size, 1, none⟩) (by show w3.heap.size < w8.heap.size; omega)).trans y6_1
    replace zs_W2 := Nat.lt_of_lt_of_le zs_W2 hb9.size
    replace zs_W3 := Nat.lt_of_lt_of_le zs_W3 hb9.size
    replace g2 := g2.to hb9
    replace g3 := g3.to hb9
    replace g4 := g4.to hb9
    replace g7 := g7.to hb9
    replace zb := below_step zb hb9
    go_wp2_with fail
    refine (of_z (a - b) (A - B) _ (by rw [HA.out, HB.out]) (by omega) (by omega)).mono ?_
    rintro e w10 ⟨ng10, a10_, n10_, c10_, rfl, Hng10, g10, hb10⟩
    have hw_w10 : w.heap.size ≤ w9.heap.size := (by omega)
    replace x5_0 := (hb10.cell (p := ⟨w2.heap.size, 0, none⟩) (by show w2.heap.size < w9.heap.size; omega)).trans x5_0
    replace y5_0 := (hb10.frozen (p := ⟨w2.heap.size, 0, none⟩) (by show w2.heap.size < w9.heap.size; omega)).trans y5_0
    replace x5_1 := (hb10.cell (p := ⟨w2.heap.size, 1, none⟩) (by show w2.heap.size < w9.heap.size; omega)).trans x5_1
    replace y5_1 := (hb10.frozen (p := ⟨w2.heap.size, 1, none⟩) (by show w2.heap.size < w9.heap.size; omega)).trans y5_1
    replace x6_0 := (hb10.cell (p := ⟨w3.heap.size, 0, none⟩) (by show w3.heap.size < w9.heap.size; omega)).trans x6_0
    replace y6_0 := (hb10.frozen (p := ⟨w3.heap.size, 0, none⟩) (by show w3.heap.size < w9.heap.size; omega)).trans y6_0
    replace x6_1 := (hb10.cell (p := ⟨w3.heap.size, 1, none⟩) (by show w3.heap.size < w9.heap.size; omega)).trans x6_1
    replace y6_1 := (hb10.frozen (p := ⟨w3.heap.size, 1, none⟩) (by show w3.heap.size < w9.heap.size; omega)).trans y6_1
    replace zs_W2 := Nat.lt_of_lt_of_le zs_W2 hb10.size
    replace zs_W3 := Nat.lt_of_lt_of_le zs_W3 hb10.size
    replace g2 := g2.to hb10
    replace g3 := g3.to hb10
    replace g4 := g4.to hb10
    replace g7 := g7.to hb10
    replace g9 := g9.to hb10
    replace zb := below_step zb hb10
    go_wp2_with fail
    refine (same_z _ g9 g10 Hng9 Hng10).mono ?_
    rintro e w11 ⟨rfl, hb11⟩
    have hw_w11 : w.heap.size ≤ w10.heap.size := (by omega)
    replace x5_0 := (hb11.cell (p := ⟨w2.heap.size, 0, none⟩) (by show w2.heap.size < w10.heap.size; omega)).trans x5_0
    replace y5_0 := (hb11.frozen (p := ⟨w2.heap.size, 0, none⟩) (by show w2.heap.size < w10.heap.size; omega)).trans y5_0
    replace x5_1 := (hb11.cell (p := ⟨w2.heap.size, 1, none⟩) (by show w2.heap.size < w10.heap.size; omega)).trans x5_1
    replace y5_1 := (hb11.frozen (p := ⟨w2.heap.size, 1, none⟩) (by show w2.heap.size < w10.heap.size; omega)).trans y5_1
    replace x6_0 := (hb11.cell (p := ⟨w3.heap.size, 0, none⟩) (by show w3.heap.size < w10.heap.size; omega)).trans x6_0
    replace y6_0 := (hb11.frozen (p := ⟨w3.heap.size, 0, none⟩) (by show w3.heap.size < w10.heap.size; omega)).trans y6_0
    replace x6_1 := (hb11.cell (p := ⟨w3.heap.size, 1, none⟩) (by show w3.heap.size < w10.heap.size; omega)).trans x6_1
    replace y6_1 := (hb11.frozen (p := ⟨w3.heap.size, 1, none⟩) (by show w3.heap.size < w10.heap.size; omega)).trans y6_1
    replace zs_W2 := Nat.lt_of_lt_of_le zs_W2 hb11.size
    replace zs_W3 := Nat.lt_of_lt_of_le zs_W3 hb11.size
    replace g2 := g2.to hb11
    replace g3 := g3.to hb11
    replace g4 := g4.to hb11
    replace g7 := g7.to hb11
    replace g9 := g9.to hb11
    replace g10 := g10.to hb11
    replace zb := below_step zb hb11
    go_wp2_with fail
    refine (mul_z _ g2 g3 (A * B) rfl HM).mono ?_
    rintro e w12 ⟨ng12, a12_, n12_, c12_, rfl, Hng12, g12, hb12⟩
    have hw_w12 : w.heap.size ≤ w11.heap.size := (by omega)
    replace x5_0 := (hb12.cell (p := ⟨w2.heap.size, 0, none⟩) (by show w2.heap.size < w11.heap.size; omega)).trans x5_0
    replace y5_0 := (hb12.frozen (p := ⟨w2.heap.size, 0, none⟩) (by show w2.heap.size < w11.heap.size; omega)).trans y5_0
    replace x5_1 := (hb12.cell (p := ⟨w2.heap.size, 1, none⟩) (by show w2.heap.size < w11.heap.size; omega)).trans x5_1
    replace y5_1 := (hb12.frozen (p := ⟨w2.heap.size, 1, none⟩) (by show w2.heap.size < w11.heap.size; omega)).trans y5_1
    replace x6_0 := (hb12.cell (p := ⟨w3.heap.size, 0, none⟩) (by show w3.heap.size < w11.heap.size; omega)).trans x6_0
    replace y6_0 := (hb12.frozen (p := ⟨w3.heap.size, 0, none⟩) (by show w3.heap.size < w11.heap.size; omega)).trans y6_0
    replace x6_1 := (hb12.cell (p := ⟨w3.heap.size, 1, none⟩) (by show w3.heap.size < w11.heap.size; omega)).trans x6_1
    replace y6_1 := (hb12.frozen (p := ⟨w3.heap.size, 1, none⟩) (by show w3.heap.size < w11.heap.size; omega)).trans y6_1
    replace zs_W2 := Nat.lt_of_lt_of_le zs_W2 hb12.size
    replace zs_W3 := Nat.lt_of_lt_of_le zs_W3 hb12.size
    replace g2 := g2.to hb12
    replace g3 := g3.to hb12
    replace g4 := g4.to hb12
    replace g7 := g7.to hb12
    replace g9 := g9.to hb12
    replace g10 := g10.to hb12
    replace zb := below_step zb hb12
    go_wp2_with fail
    refine (of_z (a * b) (A * B) _ (by rw [HA.out, HB.out]) (by have := q2.out; omega) (by have := q2.out; omega)).mono ?_
    rintro e w13 ⟨ng13, a13_, n13_, c13_, rfl, Hng13, g13, hb13⟩
    have hw_w13 : w.heap.size ≤ w12.heap.size := (by omega)
    replace x5_0 := (hb13.cell (p := ⟨w2.heap.size, 0, none⟩) (by show w2.heap.size < w12.heap.size; omega)).trans x5_0
    replace y5_0 := (hb13.frozen (p := ⟨w2.heap.size, 0, none⟩) (by show w2.heap.size < w12.heap.size; omega)).trans y5_0
    replace x5_1 := (hb13.cell (p := ⟨w2.heap.size, 1, none⟩) (by show w2.heap.size < w12.heap.size; omega)).trans x5_1
    replace y5_1 := (hb13.frozen (p := ⟨w2.heap.size, 1, none⟩) (by show w2.heap.size < w12.heap.size; omega)).trans y5_1
    replace x6_0 := (hb13.cell (p := ⟨w3.heap.size, 0, none⟩) (by show w3.heap.size < w12.heap.size; omega)).trans x6_0
    replace y6_0 := (hb13.frozen (p := ⟨w3.heap.size, 0, none⟩) (by show w3.heap.size < w12.heap.size; omega)).trans y6_0
    replace x6_1 := (hb13.cell (p := ⟨w3.heap.size, 1, none⟩) (by show w3.heap.size < w12.heap.size; omega)).trans x6_1
    replace y6_1 := (hb13.frozen (p := ⟨w3.heap.size, 1, none⟩) (by show w3.heap.size < w12.heap.size; omega)).trans y6_1
    replace zs_W2 := Nat.lt_of_lt_of_le zs_W2 hb13.size
    replace zs_W3 := Nat.lt_of_lt_of_le zs_W3 hb13.size
    replace g2 := g2.to hb13
    replace g3 := g3.to hb13
    replace g4 := g4.to hb13
    replace g7 := g7.to hb13
    replace g9 := g9.to hb13
    replace g10 := g10.to hb13
    replace g12 := g12.to hb13
    replace zb := below_step zb hb13
    go_wp2_with fail
    refine (same_z _ g12 g13 Hng12 Hng13).mono ?_
    rintro e w14 ⟨rfl, hb14⟩
    have hw_w14 : w.heap.size ≤ w13.heap.size := (by omega)
    replace x5_0 := (hb14.cell (p := ⟨w2.heap.size, 0, none⟩) (by show w2.heap.size < w13.heap.size; omega)).trans x5_0
    replace y5_0 := (hb14.frozen (p := ⟨w2.heap.size, 0, none⟩) (by show w2.heap.size < w13.heap.size; omega)).trans y5_0
    replace x5_1 := (hb14.cell (p := ⟨w2.heap.size, 1, none⟩) (by show w2.heap.size < w13.heap.size; omega)).trans x5_1
    replace y5_1 := (hb14.frozen (p := ⟨w2.heap.size, 1, none⟩) (by show w2.heap.size < w13.heap.size; omega)).trans y5_1
    replace x6_0 := (hb14.cell (p := ⟨w3.heap.size, 0, none⟩) (by show w3.heap.size < w13.heap.size; omega)).trans x6_0
    replace y6_0 := (hb14.frozen (p := ⟨w3.heap.size, 0, none⟩) (by show w3.heap.size < w13.heap.size; omega)).trans y6_0
    replace x6_1 := (hb14.cell (p := ⟨w3.heap.size, 1, none⟩) (by show w3.heap.size < w13.heap.size; omega)).trans x6_1
    replace y6_1 := (hb14.frozen (p := ⟨w3.heap.size, 1, none⟩) (by show w3.heap.size < w13.heap.size; omega)).trans y6_1
    replace zs_W2 := Nat.lt_of_lt_of_le zs_W2 hb14.size
    replace zs_W3 := Nat.lt_of_lt_of_le zs_W3 hb14.size
    replace g2 := g2.to hb14
    replace g3 := g3.to hb14
    replace g4 := g4.to hb14
    replace g7 := g7.to hb14
    replace g9 := g9.to hb14
    replace g10 := g10.to hb14
    replace g12 := g12.to hb14
    replace g13 := g13.to hb14
    replace zb := below_step zb hb14
    go_wp2_with fail
    refine (cmp_z _ g2 g3 (0) Hk.out).mono ?_
    rintro e w15 ⟨rfl, hb15⟩
    have hw_w15 : w.heap.size ≤ w14.heap.size := (by omega)
    replace x5_0 := (hb15.cell (p := ⟨w2.heap.size, 0, none⟩) (by show w2.heap.size < w14.heap.size; omega)).trans x5_0
    replace y5_0 := (hb15.frozen (p := ⟨w2.heap.size, 0, none⟩) (by show w2.heap.size < w14.heap.size; omega)).trans y5_0
    replace x5_1 := (hb15.cell (p := ⟨w2.heap.size, 1, none⟩) (by show w2.heap.size < w14.heap.size; omega)).trans x5_1
    replace y5_1 := (hb15.frozen (p := ⟨w2.heap.size, 1, none⟩) (by show w2.heap.size < w14.heap.size; omega)).trans y5_1
    replace x6_0 := (hb15.cell (p := ⟨w3.heap.size, 0, none⟩) (by show w3.heap.size < w14.heap.size; omega)).trans x6_0
    replace y6_0 := (hb15.frozen (p := ⟨w3.heap.size, 0, none⟩) (by show w3.heap.size < w14.heap.size; omega)).trans y6_0
    replace x6_1 := (hb15.cell (p := ⟨w3.heap.size, 1, none⟩) (by show w3.heap.size < w14.heap.size; omega)).trans x6_1
    replace y6_1 := (hb15.frozen (p := ⟨w3.heap.size, 1, none⟩) (by show w3.heap.size < w14.heap.size; omega)).trans y6_1
    replace zs_W2 := Nat.lt_of_lt_of_le zs_W2 hb15.size
    replace zs_W3 := Nat.lt_of_lt_of_le zs_W3 hb15.size
    replace g2 := g2.to hb15
    replace g3 := g3.to hb15
    replace g4 := g4.to hb15
    replace g7 := g7.to hb15
    replace g9 := g9.to hb15
    replace g10 := g10.to hb15
    replace g12 := g12.to hb15
    replace g13 := g13.to hb15
    replace zb := below_step zb hb15
    go_wp2_with fail
    go_ret
    exact ⟨by first | rfl | exact ret_bool (by simp), zb⟩
  · have d1 : decide (a < b) = false := by simp; omega
    have d2 : decide (b < a) = true := by simp; omega
    have Hk := Lib.hid (show cmpZ A B = 1 by rw [HA.out, HB.out]; unfold cmpZ; split <;> first | rfl | (split <;> omega) | omega)
    clear h
    go_enter Try.func13, Try.ntmps13
    go_wp2_with fail
    have zb : Below w.heap.size w w := Below.refl _ _
    refine (awake7 _).mono ?_
    rintro e w1 ⟨rfl, hb1⟩
    have hw_w1 : w.heap.size ≤ w.heap.size := (by exact zb.size)
    replace zb := below_step zb hb1
    go_wp2_with fail
    refine (of_z a A _ HA.out (by omega) (by omega)).mono ?_
    rintro e w2 ⟨ng2, a2_, n2_, c2_, rfl, Hng2, g2, hb2⟩
    have hw_w2 : w.heap.size ≤ w1.heap.size := (by exact zb.size)
    replace zb := below_step zb hb2
    go_wp2_with fail
    obtain ⟨W2, hW2⟩ : ∃ W2, w2.alloc (.cells #[.bool ng2, .slice a2_ n2_ c2_] 41) = W2 := ⟨_, rfl⟩
    have hb_W2 : Below w2.heap.size w2 W2 := by rw [← hW2]; exact below_new _ _
    have zs_W2 : w2.heap.size < W2.heap.size := by rw [← hW2]; simp
    have hw_W2 : w.heap.size ≤ w2.heap.size := (by exact zb.size)
    replace g2 := g2.to hb_W2
    replace zb := below_step zb hb_W2
    have x5_0 : W2.cell? ⟨w2.heap.size, 0, none⟩ = some (.bool ng2) := by rw [← hW2]; simp [go_sem]
    have y5_0 : W2.frozen? ⟨w2.heap.size, 0, none⟩ = false := by rw [← hW2]; simp [go_sem]
    have x5_1 : W2.cell? ⟨w2.heap.size, 1, none⟩ = some (.slice a2_ n2_ c2_) := by rw [← hW2]; simp [go_sem]
    have y5_1 : W2.frozen? ⟨w2.heap.size, 1, none⟩ = false := by rw [← hW2]; simp [go_sem]
    rw [hW2]
    clear hW2
    go_wp2_with fail
    refine (of_z b B _ HB.out (by omega) (by omega)).mono ?_
    rintro e w3 ⟨ng3, a3_, n3_, c3_, rfl, Hng3, g3, hb3⟩
    have hw_w3 : w.heap.size ≤ W2.heap.size := (by omega)
    replace x5_0 := (hb3.cell (p := ⟨w2.heap.size, 0, none⟩) (by show w2.heap.size < W2.heap.size; omega)).trans x5_0
    replace y5_0 := (hb3.frozen (p := ⟨w2.heap.size, 0, none⟩) (by show w2.heap.size < W2.heap.size; omega)).trans y5_0
    replace x5_1 := (hb3.cell (p := ⟨w2.heap.size, 1, none⟩) (by show w2.heap.size < W2.heap.size; omega)).trans x5_1
    replace y5_1 := (hb3.frozen (p := ⟨w2.heap.size, 1, none⟩) (by show w2.heap.size < W2.heap.size; omega)).trans y5_1
    replace zs_W2 := Nat.lt_of_lt_of_le zs_W2 hb3.size
    replace g2 := g2.to hb3
    replace zb := below_step zb hb3
    go_wp2_with fail
    obtain ⟨W3, hW3⟩ : ∃ W3, w3.alloc (.cells #[.bool ng3, .slice a3_ n3_ c3_] 41) = W3 := ⟨_, rfl⟩
    have hb_W3 : Below w3.heap.size w3 W3 := by rw [← hW3]; exact below_new _ _
    have zs_W3 : w3.heap.size < W3.heap.size := by rw [← hW3]; simp
    have hw_W3 : w.heap.size ≤ w3.heap.size := (by omega)
    replace x5_0 := (hb_W3.cell (p := ⟨w2.heap.size, 0, none⟩) (by show w2.heap.size < w3.heap.size; omega)).trans x5_0
    replace y5_0 := (hb_W3.frozen (p := ⟨w2.heap.size, 0, none⟩) (by show w2.heap.size < w3.heap.size; omega)).trans y5_0
    replace x5_1 := (hb_W3.cell (p := ⟨w2.heap.size, 1, none⟩) (by show w2.heap.size < w3.heap.size; omega)).trans x5_1
    replace y5_1 := (hb_W3.frozen (p := ⟨w2.heap.size, 1, none⟩) (by show w2.heap.size < w3.heap.size; omega)).trans y5_1
    replace zs_W2 := Nat.lt_of_lt_of_le zs_W2 hb_W3.size
    replace g2 := g2.to hb_W3
    replace g3 := g3.to hb_W3
    replace zb := below_step zb hb_W3
    have x6_0 : W3.cell? ⟨w3.heap.size, 0, none⟩ = some (.bool ng3) := by rw [← hW3]; simp [go_sem]
    have y6_0 : W3.frozen? ⟨w3.heap.size, 0, none⟩ = false := by rw [← hW3]; simp [go_sem]
    have x6_1 : W3.cell? ⟨w3.heap.size, 1, none⟩ = some (.slice a3_ n3_ c3_) := by rw [← hW3]; simp [go_sem]
    have y6_1 : W3.frozen? ⟨w3.heap.size, 1, none⟩ = false := by rw [← hW3]; simp [go_sem]
    rw [hW3]
    clear hW3
    go_wp2_with fail
    refine (add_z _ g2 g3 (A + B) rfl HS).mono ?_
    rintro e w4 ⟨ng4, a4_, n4_, c4_, rfl, Hng4, g4, hb4⟩
    have hw_w4 : w.heap.size ≤ W3.heap.size := (by omega)
    replace x5_0 := (hb4.cell (p := ⟨w2.heap.size, 0, none⟩) (by show w2.heap.size < W3.heap.size; omega)).trans x5_0
    replace y5_0 := (hb4.frozen (p := ⟨w2.heap.size, 0, none⟩) (by show w2.heap.size < W3.heap.size; omega)).trans y5_0
    replace x5_1 := (hb4.cell (p := ⟨w2.heap.size, 1, none⟩) (by show w2.heap.size < W3.heap.size; omega)).trans x5_1
    replace y5_1 := (hb4.frozen (p := ⟨w2.heap.size, 1, none⟩) (by show w2.heap.size < W3.heap.size; omega)).trans y5_1
    replace x6_0 := (hb4.cell (p := ⟨w3.heap.size, 0, none⟩) (by show w3.heap.size < W3.heap.size; omega)).trans x6_0
    replace y6_0 := (hb4.frozen (p := ⟨w3.heap.size, 0, none⟩) (by show w3.heap.size < W3.heap.size; omega)).trans y6_0
    replace x6_1 := (hb4.cell (p := ⟨w3.heap.size, 1, none⟩) (by show w3.heap.size < W3.heap.size; omega)).trans x6_1
    replace y6_1 := (hb4.frozen (p := ⟨w3.heap.size, 1, none⟩) (by show w3.heap.size < W3.heap.size; omega)).trans y6_1
    replace zs_W2 := Nat.lt_of_lt_of_le zs_W2 hb4.size
    replace zs_W3 := Nat.lt_of_lt_of_le zs_W3 hb4.size
    replace g2 := g2.to hb4
    replace g3 := g3.to hb4
    replace zb := below_step zb hb4
    go_wp2_with fail
    refine (of_z (a + b) (A + B) _ (by rw [HA.out, HB.out]) (by omega) (by omega)).mono ?_
    rintro e w7 ⟨ng7, a7_, n7_, c7_, rfl, Hng7, g7, hb7⟩
    have hw_w7 : w.heap.size ≤ w4.heap.size := (by omega)
    replace x5_0 := (hb7.cell (p := ⟨w2.heap.size, 0, none⟩) (by show w2.heap.size < w4.heap.size; omega)).trans x5_0
    replace y5_0 := (hb7.frozen (p := ⟨w2.heap.size, 0, none⟩) (by show w2.heap.size < w4.heap.size; omega)).trans y5_0
    replace x5_1 := (hb7.cell (p := ⟨w2.heap.size, 1, none⟩) (by show w2.heap.size < w4.heap.size; omega)).trans x5_1
    replace y5_1 := (hb7.frozen (p := ⟨w2.heap.size, 1, none⟩) (by show w2.heap.size < w4.heap.size; omega)).trans y5_1
    replace x6_0 := (hb7.cell (p := ⟨w3.heap.size, 0, none⟩) (by show w3.heap.size < w4.heap.size; omega)).trans x6_0
    replace y6_0 := (hb7.frozen (p := ⟨w3.heap.size, 0, none⟩) (by show w3.heap.size < w4.heap.size; omega)).trans y6_0
    replace x6_1 := (hb7.cell (p := ⟨w3.heap.size, 1, none⟩) (by show w3.heap.size < w4.heap.size; omega)).trans x6_1
    replace y6_1 := (hb7.frozen (p := ⟨w3.heap.size, 1, none⟩) (by show w3.heap.size < w4.heap.size; omega)).trans y6_1
    replace zs_W2 := Nat.lt_of_lt_of_le zs_W2 hb7.size
    replace zs_W3 := Nat.lt_of_lt_of_le zs_W3 hb7.size
    replace g2 := g2.to hb7
    replace g3 := g3.to hb7
    replace g4 := g4.to hb7
    replace zb := below_step zb hb7
    go_wp2_with fail
    refine (same_z _ g4 g7 Hng4 Hng7).mono ?_
    rintro e w8 ⟨rfl, hb8⟩
    have hw_w8 : w.heap.size ≤ w7.heap.size := (by omega)
    replace x5_0 := (hb8.cell (p := ⟨w2.heap.size, 0, none⟩) (by show w2.heap.size < w7.heap.size; omega)).trans x5_0
    replace y5_0 := (hb8.frozen (p := ⟨w2.heap.size, 0, none⟩) (by show w2.heap.size < w7.heap.size; omega)).trans y5_0
    replace x5_1 := (hb8.cell (p := ⟨w2.heap.size, 1, none⟩) (by show w2.heap.size < w7.heap.size; omega)).trans x5_1
    replace y5_1 := (hb8.frozen (p := ⟨w2.heap.size, 1, none⟩) (by show w2.heap.size < w7.heap.size; omega)).trans y5_1
    replace x6_0 := (hb8.cell (p := ⟨w3.heap.size, 0, none⟩) (by show w3.heap.size < w7.heap.size; omega)).trans x6_0
    replace y6_0 := (hb8.frozen (p := ⟨w3.heap.size, 0, none⟩) (by show w3.heap.size < w7.heap.size; omega)).trans y6_0
    replace x6_1 := (hb8.cell (p := ⟨w3.heap.size, 1, none⟩) (by show w3.heap.size < w7.heap.size; omega)).trans x6_1
    replace y6_1 := (hb8.frozen (p := ⟨w3.heap.size, 1, none⟩) (by show w3.heap.size < w7.heap.size; omega)).trans y6_1
    replace zs_W2 := Nat.lt_of_lt_of_le zs_W2 hb8.size
    replace zs_W3 := Nat.lt_of_lt_of_le zs_W3 hb8.size
    replace g2 := g2.to hb8
    replace g3 := g3.to hb8
    replace g4 := g4.to hb8
    replace g7 := g7.to hb8
    replace zb := below_step zb hb8
    go_wp2_with fail
    refine (sub_z _ g2 g3 (A - B) rfl HD).mono ?_
    rintro e w9 ⟨ng9, a9_, n9_, c9_, rfl, Hng9, g9, hb9⟩
    have hw_w9 : w.heap.size ≤ w8.heap.size := (by omega)
    replace x5_0 := (hb9.cell (p := ⟨w2.heap.size, 0, none⟩) (by show w2.heap.size < w8.heap.size; omega)).trans x5_0
    replace y5_0 := (hb9.frozen (p := ⟨w2.heap.size, 0, none⟩) (by show w2.heap.size < w8.heap.size; omega)).trans y5_0
    replace x5_1 := (hb9.cell (p := ⟨w2.heap.size, 1, none⟩) (by show w2.heap.size < w8.heap.size; omega)).trans x5_1
    replace y5_1 := (hb9.frozen (p := ⟨w2.heap.size, 1, none⟩) (by show w2.heap.size < w8.heap.size; omega)).trans y5_1
    replace x6_0 := (hb9.cell (p := ⟨w3.heap.size, 0, none⟩) (by show w3.heap.size < w8.heap.size; omega)).trans x6_0
    replace y6_0 := (hb9.frozen (p := ⟨w3.heap.size, 0, none⟩) (by show w3.heap.size < w8.heap.size; omega)).trans y6_0
    replace x6_1 := (hb9.cell (p := ⟨w3.heap.size, 1, none⟩) (by show w3.heap.size < w8.heap.size; omega)).trans x6_1
    replace y6_1 := (hb9.frozen (p := ⟨w3.heap.size, 1, none⟩) (by show w3.heap.size < w8.heap.size; omega)).trans y6_1
    replace zs_W2 := Nat.lt_of_lt_of_le zs_W2 hb9.size
    replace zs_W3 := Nat.lt_of_lt_of_le zs_W3 hb9.size
    replace g2 := g2.to hb9
    replace g3 := g3.to hb9
    replace g4 := g4.to hb9
    replace g7 := g7.to hb9
    replace zb := below_step zb hb9
    go_wp2_with fail
    refine (of_z (a - b) (A - B) _ (by rw [HA.out, HB.out]) (by omega) (by omega)).mono ?_
    rintro e w10 ⟨ng10, a10_, n10_, c10_, rfl, Hng10, g10, hb10⟩
    have hw_w10 : w.heap.size ≤ w9.heap.size := (by omega)
    replace x5_0 := (hb10.cell (p := ⟨w2.heap.size, 0, none⟩) (by show w2.heap.size < w9.heap.size; omega)).trans x5_0
    replace y5_0 := (hb10.frozen (p := ⟨w2.heap.size, 0, none⟩) (by show w2.heap.size < w9.heap.size; omega)).trans y5_0
    replace x5_1 := (hb10.cell (p := ⟨w2.heap.size, 1, none⟩) (by show w2.heap.size < w9.heap.size; omega)).trans x5_1
    replace y5_1 := (hb10.frozen (p := ⟨w2.heap.size, 1, none⟩) (by show w2.heap.size < w9.heap.size; omega)).trans y5_1
    replace x6_0 := (hb10.cell (p := ⟨w3.heap.size, 0, none⟩) (by show w3.heap.size < w9.heap.size; omega)).trans x6_0
    replace y6_0 := (hb10.frozen (p := ⟨w3.heap.size, 0, none⟩) (by show w3.heap.size < w9.heap.size; omega)).trans y6_0
    replace x6_1 := (hb10.cell (p := ⟨w3.heap.size, 1, none⟩) (by show w3.heap.size < w9.heap.size; omega)).trans x6_1
    replace y6_1 := (hb10.frozen (p := ⟨w3.heap.size, 1, none⟩) (by show w3.heap.size < w9.heap.size; omega)).trans y6_1
    replace zs_W2 := Nat.lt_of_lt_of_le zs_W2 hb10.size
    replace zs_W3 := Nat.lt_of_lt_of_le zs_W3 hb10.size
    replace g2 := g2.to hb10
    replace g3 := g3.to hb10
    replace g4 := g4.to hb10
    replace g7 := g7.to hb10
    replace g9 := g9.to hb10
    replace zb := below_step zb hb10
    go_wp2_with fail
    refine (same_z _ g9 g10 Hng9 Hng10).mono ?_
    rintro e w11 ⟨rfl, hb11⟩
    have hw_w11 : w.heap.size ≤ w10.heap.size := (by omega)
    replace x5_0 := (hb11.cell (p := ⟨w2.heap.size, 0, none⟩) (by show w2.heap.size < w10.heap.size; omega)).trans x5_0
    replace y5_0 := (hb11.frozen (p := ⟨w2.heap.size, 0, none⟩) (by show w2.heap.size < w10.heap.size; omega)).trans y5_0
    replace x5_1 := (hb11.cell (p := ⟨w2.heap.size, 1, none⟩) (by show w2.heap.size < w10.heap.size; omega)).trans x5_1
    replace y5_1 := (hb11.frozen (p := ⟨w2.heap.size, 1, none⟩) (by show w2.heap.size < w10.heap.size; omega)).trans y5_1
    replace x6_0 := (hb11.cell (p := ⟨w3.heap.size, 0, none⟩) (by show w3.heap.size < w10.heap.size; omega)).trans x6_0
    replace y6_0 := (hb11.frozen (p := ⟨w3.heap.size, 0, none⟩) (by show w3.heap.size < w10.heap.size; omega)).trans y6_0
    replace x6_1 := (hb11.cell (p := ⟨w3.heap.size, 1, none⟩) (by show w3.heap.size < w10.heap.size; omega)).trans x6_1
    replace y6_1 := (hb11.frozen (p := ⟨w3.heap.size, 1, none⟩) (by show w3.heap.size < w10.heap.size; omega)).trans y6_1
    replace zs_W2 := Nat.lt_of_lt_of_le zs_W2 hb11.size
    replace zs_W3 := Nat.lt_of_lt_of_le zs_W3 hb11.size
    replace g2 := g2.to hb11
    replace g3 := g3.to hb11
    replace g4 := g4.to hb11
    replace g7 := g7.to hb11
    replace g9 := g9.to hb11
    replace g10 := g10.to hb11
    replace zb := below_step zb hb11
    go_wp2_with fail
    refine (mul_z _ g2 g3 (A * B) rfl HM).mono ?_
    rintro e w12 ⟨ng12, a12_, n12_, c12_, rfl, Hng12, g12, hb12⟩
    have hw_w12 : w.heap.size ≤ w11.heap.size := (by omega)
    replace x5_0 := (hb12.cell (p := ⟨w2.heap.size, 0, none⟩) (by show w2.heap.size < w11.heap.size; omega)).trans x5_0
    replace y5_0 := (hb12.frozen (p := ⟨w2.heap.size, 0, none⟩) (by show w2.heap.size < w11.heap.size; omega)).trans y5_0
    replace x5_1 := (hb12.cell (p := ⟨w2.heap.size, 1, none⟩) (by show w2.heap.size < w11.heap.size; omega)).trans x5_1
    replace y5_1 := (hb12.frozen (p := ⟨w2.heap.size, 1, none⟩) (by show w2.heap.size < w11.heap.size; omega)).trans y5_1
    replace x6_0 := (hb12.cell (p := ⟨w3.heap.size, 0, none⟩) (by show w3.heap.size < w11.heap.size; omega)).trans x6_0
    replace y6_0 := (hb12.frozen (p := ⟨w3.heap.size, 0, none⟩) (by show w3.heap.size < w11.heap.size; omega)).trans y6_0
    replace x6_1 := (hb12.cell (p := ⟨w3.heap.size, 1, none⟩) (by show w3.heap.size < w11.heap.size; omega)).trans x6_1
    replace y6_1 := (hb12.frozen (p := ⟨w3.heap.size, 1, none⟩) (by show w3.heap.size < w11.heap.size; omega)).trans y6_1
    replace zs_W2 := Nat.lt_of_lt_of_le zs_W2 hb12.size
    replace zs_W3 := Nat.lt_of_lt_of_le zs_W3 hb12.size
    replace g2 := g2.to hb12
    replace g3 := g3.to hb12
    replace g4 := g4.to hb12
    replace g7 := g7.to hb12
    replace g9 := g9.to hb12
    replace g10 := g10.to hb12
    replace zb := below_step zb hb12
    go_wp2_with fail
    refine (of_z (a * b) (A * B) _ (by rw [HA.out, HB.out]) (by have := q2.out; omega) (by have := q2.out; omega)).mono ?_
    rintro e w13 ⟨ng13, a13_, n13_, c13_, rfl, Hng13, g13, hb13⟩
    have hw_w13 : w.heap.size ≤ w12.heap.size := (by omega)
    replace x5_0 := (hb13.cell (p := ⟨w2.heap.size, 0, none⟩) (by show w2.heap.size < w12.heap.size; omega)).trans x5_0
    replace y5_0 := (hb13.frozen (p := ⟨w2.heap.size, 0, none⟩) (by show w2.heap.size < w12.heap.size; omega)).trans y5_0
    replace x5_1 := (hb13.cell (p := ⟨w2.heap.size, 1, none⟩) (by show w2.heap.size < w12.heap.size; omega)).trans x5_1
    replace y5_1 := (hb13.frozen (p := ⟨w2.heap.size, 1, none⟩) (by show w2.heap.size < w12.heap.size; omega)).trans y5_1
    replace x6_0 := (hb13.cell (p := ⟨w3.heap.size, 0, none⟩) (by show w3.heap.size < w12.heap.size; omega)).trans x6_0
    replace y6_0 := (hb13.frozen (p := ⟨w3.heap.size, 0, none⟩) (by show w3.heap.size < w12.heap.size; omega)).trans y6_0
    replace x6_1 := (hb13.cell (p := ⟨w3.heap.size, 1, none⟩) (by show w3.heap.size < w12.heap.size; omega)).trans x6_1
    replace y6_1 := (hb13.frozen (p := ⟨w3.heap.size, 1, none⟩) (by show w3.heap.size < w12.heap.size; omega)).trans y6_1
    replace zs_W2 := Nat.lt_of_lt_of_le zs_W2 hb13.size
    replace zs_W3 := Nat.lt_of_lt_of_le zs_W3 hb13.size
    replace g2 := g2.to hb13
    replace g3 := g3.to hb13
    replace g4 := g4.to hb13
    replace g7 := g7.to hb13
    replace g9 := g9.to hb13
    replace g10 := g10.to hb13
    replace g12 := g12.to hb13
    replace zb := below_step zb hb13
    go_wp2_with fail
    refine (same_z _ g12 g13 Hng12 Hng13).mono ?_
    rintro e w14 ⟨rfl, hb14⟩
    have hw_w14 : w.heap.size ≤ w13.heap.size := (by omega)
    replace x5_0 := (hb14.cell (p := ⟨w2.heap.size, 0, none⟩) (by show w2.heap.size < w13.heap.size; omega)).trans x5_0
    replace y5_0 := (hb14.frozen (p := ⟨w2.heap.size, 0, none⟩) (by show w2.heap.size < w13.heap.size; omega)).trans y5_0
    replace x5_1 := (hb14.cell (p := ⟨w2.heap.size, 1, none⟩) (by show w2.heap.size < w13.heap.size; omega)).trans x5_1
    replace y5_1 := (hb14.frozen (p := ⟨w2.heap.size, 1, none⟩) (by show w2.heap.size < w13.heap.size; omega)).trans y5_1
    replace x6_0 := (hb14.cell (p := ⟨w3.heap.size, 0, none⟩) (by show w3.heap.size < w13.heap.size; omega)).trans x6_0
    replace y6_0 := (hb14.frozen (p := ⟨w3.heap.size, 0, none⟩) (by show w3.heap.size < w13.heap.size; omega)).trans y6_0
    replace x6_1 := (hb14.cell (p := ⟨w3.heap.size, 1, none⟩) (by show w3.heap.size < w13.heap.size; omega)).trans x6_1
    replace y6_1 := (hb14.frozen (p := ⟨w3.heap.size, 1, none⟩) (by show w3.heap.size < w13.heap.size; omega)).trans y6_1
    replace zs_W2 := Nat.lt_of_lt_of_le zs_W2 hb14.size
    replace zs_W3 := Nat.lt_of_lt_of_le zs_W3 hb14.size
    replace g2 := g2.to hb14
    replace g3 := g3.to hb14
    replace g4 := g4.to hb14
    replace g7 := g7.to hb14
    replace g9 := g9.to hb14
    replace g10 := g10.to hb14
    replace g12 := g12.to hb14
    replace g13 := g13.to hb14
    replace zb := below_step zb hb14
    go_wp2_with fail
    refine (cmp_z _ g2 g3 (1) Hk.out).mono ?_
    rintro e w15 ⟨rfl, hb15⟩
    have hw_w15 : w.heap.size ≤ w14.heap.size := (by omega)
    replace x5_0 := (hb15.cell (p := ⟨w2.heap.size, 0, none⟩) (by show w2.heap.size < w14.heap.size; omega)).trans x5_0
    replace y5_0 := (hb15.frozen (p := ⟨w2.heap.size, 0, none⟩) (by show w2.heap.size < w14.heap.size; omega)).trans y5_0
    replace x5_1 := (hb15.cell (p := ⟨w2.heap.size, 1, none⟩) (by show w2.heap.size < w14.heap.size; omega)).trans x5_1
    replace y5_1 := (hb15.frozen (p := ⟨w2.heap.size, 1, none⟩) (by show w2.heap.size < w14.heap.size; omega)).trans y5_1
    replace x6_0 := (hb15.cell (p := ⟨w3.heap.size, 0, none⟩) (by show w3.heap.size < w14.heap.size; omega)).trans x6_0
    replace y6_0 := (hb15.frozen (p := ⟨w3.heap.size, 0, none⟩) (by show w3.heap.size < w14.heap.size; omega)).trans y6_0
    replace x6_1 := (hb15.cell (p := ⟨w3.heap.size, 1, none⟩) (by show w3.heap.size < w14.heap.size; omega)).trans x6_1
    replace y6_1 := (hb15.frozen (p := ⟨w3.heap.size, 1, none⟩) (by show w3.heap.size < w14.heap.size; omega)).trans y6_1
    replace zs_W2 := Nat.lt_of_lt_of_le zs_W2 hb15.size
    replace zs_W3 := Nat.lt_of_lt_of_le zs_W3 hb15.size
    replace g2 := g2.to hb15
    replace g3 := g3.to hb15
    replace g4 := g4.to hb15
    replace g7 := g7.to hb15
    replace g9 := g9.to hb15
    replace g10 := g10.to hb15
    replace g12 := g12.to hb15
    replace g13 := g13.to hb15
    replace zb := below_step zb hb15
    go_wp2_with fail
    go_ret
    exact ⟨by first | rfl | exact ret_bool (by simp), zb⟩

end Go.Proofs.Yteokdkcanckfeaa
