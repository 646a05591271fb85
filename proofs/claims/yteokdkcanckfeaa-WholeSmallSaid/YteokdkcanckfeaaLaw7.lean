/-
  The walks of the laws of layer 7.
-/
import Derived.Test.YteokdkcanckfeaaWholeZ
import Derived.Test.YteokdkcanckfeaaLits
import Derived.Deep.RegionHeld3
import Derived.Deep.DrawnRows
import Derived.Laws.EntriesVeiled
namespace Go.Proofs.Yteokdkcanckfeaa
open Go.RowKit Tw
set_option linter.unusedVariables false
set_option linter.unusedSimpArgs false
attribute [local go_sem ↓] Go.wp_at_zero Go.wp_at_succ

set_option maxRecDepth 100000 in
set_option maxHeartbeats 4000000 in
theorem awake7  (w : World)  :
    Calls Try.prog 27 #[] w (Holds w) := by
  have HT := Lib.hid (show sgn (neg1 (bs ⟨#[45, 48]⟩)) (dval (body (bs ⟨#[45, 48]⟩))) = 0 by decide +kernel)
  have HO := Lib.hid (show OkText (body (bs ⟨#[45, 48]⟩)) by rw [show body (bs ⟨#[45, 48]⟩) = digs 0 by decide +kernel]; exact okText_digs _)
  have HP := Lib.hid (show ba (itext (-2)) = ⟨#[45, 50]⟩ by decide +kernel)
  go_enter Try.func27, Try.ntmps27
  go_wp2_with fail
  have zb : Below w.heap.size w w := Below.refl _ _
  refine (whole_parse ⟨#[45, 48]⟩ _ (by decide) HO.out).mono ?_
  rintro e w1 ⟨v1, rfl, hv1, hb1⟩
  obtain ⟨a1_, n1_, c1_, rfl, H1, hm1⟩ := hv1.rd.open
  have hw_w1 : w.heap.size ≤ w.heap.size := (by exact zb.size)
  replace zb := below_step zb hb1
  have g1 := hv1.rd
  generalize hng1 : decide (sgn (neg1 (bs ⟨#[45, 48]⟩)) (dval (body (bs ⟨#[45, 48]⟩))) < 0) = ng1
  have Hng1 := Lib.hid hng1
  clear hng1
  obtain rfl : ng1 = false := by rw [← Hng1.out, HT.out]; rfl
  have h1 := H1.out
  rw [HT.out] at h1 hv1 g1
  obtain rfl : n1_ = 0 := by rw [← h1]; rfl
  clear h1
  go_wp2_with fail
  obtain ⟨W1, hW1⟩ : ∃ W1, w1.alloc (.cells #[.bool false, .slice a1_ 0 c1_] 41) = W1 := ⟨_, rfl⟩
  have hb_W1 : Below w1.heap.size w1 W1 := by rw [← hW1]; exact below_new _ _
  have zs_W1 : w1.heap.size < W1.heap.size := by rw [← hW1]; simp
  have hw_W1 : w.heap.size ≤ w1.heap.size := (by exact zb.size)
  replace g1 := g1.to hb_W1
  replace zb := below_step zb hb_W1
  have x5_0 : W1.cell? ⟨w1.heap.size, 0, none⟩ = some (.bool false) := by rw [← hW1]; simp [go_sem]
  have y5_0 : W1.frozen? ⟨w1.heap.size, 0, none⟩ = false := by rw [← hW1]; simp [go_sem]
  have x5_1 : W1.cell? ⟨w1.heap.size, 1, none⟩ = some (.slice a1_ 0 c1_) := by rw [← hW1]; simp [go_sem]
  have y5_1 : W1.frozen? ⟨w1.heap.size, 1, none⟩ = false := by rw [← hW1]; simp [go_sem]
  rw [hW1]
  clear hW1
  refine (whole_of (-5) (-5) _ rfl (by omega) (by omega)).mono ?_
  rintro e w2 ⟨v2, rfl, hv2, hb2⟩
  obtain ⟨a2_, n2_, c2_, rfl, H2, hm2⟩ := hv2.rd.open
  have hw_w2 : w.heap.size ≤ W1.heap.size := (by omega)
  replace x5_0 := (hb2.cell (p := ⟨w1.heap.size, 0, none⟩) (by show w1.heap.size < W1.heap.size; omega)).trans x5_0
  replace y5_0 := (hb2.frozen (p := ⟨w1.heap.size, 0, none⟩) (by show w1.heap.size < W1.heap.size; omega)).trans y5_0
  replace x5_1 := (hb2.cell (p := ⟨w1.heap.size, 1, none⟩) (by show w1.heap.size < W1.heap.size; omega)).trans x5_1
  replace y5_1 := (hb2.frozen (p := ⟨w1.heap.size, 1, none⟩) (by show w1.heap.size < W1.heap.size; omega)).trans y5_1
  replace zs_W1 := Nat.lt_of_lt_of_le zs_W1 hb2.size
  replace g1 := g1.to hb2
  replace zb := below_step zb hb2
  have g2 := hv2.rd
  generalize hng2 : decide ((-5 : Int) < 0) = ng2
  have Hng2 := Lib.hid hng2
  clear hng2
  go_wp2_with fail
  refine (whole_of 3 3 _ rfl (by omega) (by omega)).mono ?_
  rintro e w3 ⟨v3, rfl, hv3, hb3⟩
  obtain ⟨a3_, n3_, c3_, rfl, H3, hm3⟩ := hv3.rd.open
  have hw_w3 : w.heap.size ≤ w2.heap.size := (by omega)
  replace x5_0 := (hb3.cell (p := ⟨w1.heap.size, 0, none⟩) (by show w1.heap.size < w2.heap.size; omega)).trans x5_0
  replace y5_0 := (hb3.frozen (p := ⟨w1.heap.size, 0, none⟩) (by show w1.heap.size < w2.heap.size; omega)).trans y5_0
  replace x5_1 := (hb3.cell (p := ⟨w1.heap.size, 1, none⟩) (by show w1.heap.size < w2.heap.size; omega)).trans x5_1
  replace y5_1 := (hb3.frozen (p := ⟨w1.heap.size, 1, none⟩) (by show w1.heap.size < w2.heap.size; omega)).trans y5_1
  replace zs_W1 := Nat.lt_of_lt_of_le zs_W1 hb3.size
  replace g1 := g1.to hb3
  replace g2 := g2.to hb3
  replace zb := below_step zb hb3
  have g3 := hv3.rd
  generalize hng3 : decide ((3 : Int) < 0) = ng3
  have Hng3 := Lib.hid hng3
  clear hng3
  obtain rfl : ng2 = true := Hng2.out.symm
  obtain rfl : ng3 = false := Hng3.out.symm
  go_wp2_with fail
  refine (whole_add true false _ _ _ _ _ g2 g3 (by decide +kernel) (by decide +kernel)).mono ?_
  rintro e w4 ⟨v4, rfl, hv4, hb4⟩
  obtain ⟨a4_, n4_, c4_, rfl, H4, hm4⟩ := hv4.rd.open
  have hw_w4 : w.heap.size ≤ w3.heap.size := (by omega)
  replace x5_0 := (hb4.cell (p := ⟨w1.heap.size, 0, none⟩) (by show w1.heap.size < w3.heap.size; omega)).trans x5_0
  replace y5_0 := (hb4.frozen (p := ⟨w1.heap.size, 0, none⟩) (by show w1.heap.size < w3.heap.size; omega)).trans y5_0
  replace x5_1 := (hb4.cell (p := ⟨w1.heap.size, 1, none⟩) (by show w1.heap.size < w3.heap.size; omega)).trans x5_1
  replace y5_1 := (hb4.frozen (p := ⟨w1.heap.size, 1, none⟩) (by show w1.heap.size < w3.heap.size; omega)).trans y5_1
  replace zs_W1 := Nat.lt_of_lt_of_le zs_W1 hb4.size
  replace g1 := g1.to hb4
  replace g2 := g2.to hb4
  replace g3 := g3.to hb4
  replace zb := below_step zb hb4
  have g4 := hv4.rd
  generalize hng4 : decide (sgn true (val (limbs (-5 : Int).natAbs)) + sgn false (val (limbs (3 : Int).natAbs)) < 0) = ng4
  have Hng4 := Lib.hid hng4
  clear hng4
  go_wp2_with fail
  have Hz := Lib.hid (show sgn ng4 (val (limbs (sgn true (val (limbs (-5 : Int).natAbs)) + sgn false (val (limbs (3 : Int).natAbs))).natAbs)) = -2 by rw [← Hng4.out, sgn_back]; decide +kernel)
  refine (whole_print ng4 _ _ _ g4 (by decide +kernel)).mono ?_
  rintro e w5 ⟨rfl, hb5⟩
  rw [Hz.out, HP.out]
  have hw_w5 : w.heap.size ≤ w4.heap.size := (by omega)
  replace x5_0 := (hb5.cell (p := ⟨w1.heap.size, 0, none⟩) (by show w1.heap.size < w4.heap.size; omega)).trans x5_0
  replace y5_0 := (hb5.frozen (p := ⟨w1.heap.size, 0, none⟩) (by show w1.heap.size < w4.heap.size; omega)).trans y5_0
  replace x5_1 := (hb5.cell (p := ⟨w1.heap.size, 1, none⟩) (by show w1.heap.size < w4.heap.size; omega)).trans x5_1
  replace y5_1 := (hb5.frozen (p := ⟨w1.heap.size, 1, none⟩) (by show w1.heap.size < w4.heap.size; omega)).trans y5_1
  replace zs_W1 := Nat.lt_of_lt_of_le zs_W1 hb5.size
  replace g1 := g1.to hb5
  replace g2 := g2.to hb5
  replace g3 := g3.to hb5
  replace g4 := g4.to hb5
  replace zb := below_step zb hb5
  go_wp2_with fail
  refine (whole_right false _ [] _ g1 (by simp)).mono ?_
  rintro e w6 ⟨rfl, hb6⟩
  have hw_w6 : w.heap.size ≤ w5.heap.size := (by omega)
  replace x5_0 := (hb6.cell (p := ⟨w1.heap.size, 0, none⟩) (by show w1.heap.size < w5.heap.size; omega)).trans x5_0
  replace y5_0 := (hb6.frozen (p := ⟨w1.heap.size, 0, none⟩) (by show w1.heap.size < w5.heap.size; omega)).trans y5_0
  replace x5_1 := (hb6.cell (p := ⟨w1.heap.size, 1, none⟩) (by show w1.heap.size < w5.heap.size; omega)).trans x5_1
  replace y5_1 := (hb6.frozen (p := ⟨w1.heap.size, 1, none⟩) (by show w1.heap.size < w5.heap.size; omega)).trans y5_1
  replace zs_W1 := Nat.lt_of_lt_of_le zs_W1 hb6.size
  replace g1 := g1.to hb6
  replace g2 := g2.to hb6
  replace g3 := g3.to hb6
  replace g4 := g4.to hb6
  replace zb := below_step zb hb6
  go_wp2_with fail
  go_ret
  exact ⟨by first | rfl | exact ret_bool (by decide +kernel), zb⟩

end Go.Proofs.Yteokdkcanckfeaa
