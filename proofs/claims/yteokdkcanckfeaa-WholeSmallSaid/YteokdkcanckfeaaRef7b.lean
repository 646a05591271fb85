/-
  The walks of its reference's integers.
-/
import Derived.Test.YteokdkcanckfeaaRef7
import Derived.Test.YteokdkcanckfeaaRef3b
import Derived.Test.YteokdkcanckfeaaWords
import Derived.Deep.DrawnRows
import Derived.Laws.EntriesVeiled
namespace Go.Proofs.Yteokdkcanckfeaa
open Go.RowKit Tw
set_option linter.unusedVariables false
set_option linter.unusedSimpArgs false
attribute [local go_sem ↓] Go.wp_at_zero Go.wp_at_succ

set_option maxRecDepth 100000 in
set_option maxHeartbeats 8000000 in
theorem ref7_cmp (b c : Bool) (va vb : Value) (la lb : List Nat) (w : World) (ha : Rd w va la) (hb : Rd w vb lb) (hla : la.length ≤ 90000) (hlb : lb.length ≤ 90000) :
    Calls Try.prog 46 #[aggI b va, aggI c vb] w (fun e w' => e = .returned (.int .i64 (cmpZ (sgn b (val la)) (sgn c (val lb)))) ∧ Below w.heap.size w w') := by
  obtain ⟨q, hq⟩ : ∃ q, cmpZ (sgn b (val la)) (sgn c (val lb)) = q := ⟨_, rfl⟩
  rw [hq]
  have Hq := Lib.hid hq
  clear hq
  obtain ⟨a0, n0, c0, rfl, H0, hm0⟩ := ha.open
  obtain ⟨a1, n1, c1, rfl, H1, hm1⟩ := hb.open
  go_enter Try.func46, Try.ntmps46
  go_wp2_with fail
  obtain ⟨W0, hW0⟩ : ∃ W0, (w.alloc (.cells #[.bool b, .slice a0 n0 c0] 41)).alloc (.cells #[.bool c, .slice a1 n1 c1] 41) = W0 := ⟨_, rfl⟩
  have x0_0 : W0.cell? ⟨w.heap.size, 0, none⟩ = some (.bool b) := by rw [← hW0]; simp [go_sem]
  have y0_0 : W0.frozen? ⟨w.heap.size, 0, none⟩ = false := by rw [← hW0]; simp [go_sem]
  have x0_1 : W0.cell? ⟨w.heap.size, 1, none⟩ = some (.slice a0 n0 c0) := by rw [← hW0]; simp [go_sem]
  have y0_1 : W0.frozen? ⟨w.heap.size, 1, none⟩ = false := by rw [← hW0]; simp [go_sem]
  have x1_0 : W0.cell? ⟨w.heap.size + 1, 0, none⟩ = some (.bool c) := by rw [← hW0]; simp [go_sem]
  have y1_0 : W0.frozen? ⟨w.heap.size + 1, 0, none⟩ = false := by rw [← hW0]; simp [go_sem]
  have x1_1 : W0.cell? ⟨w.heap.size + 1, 1, none⟩ = some (.slice a1 n1 c1) := by rw [← hW0]; simp [go_sem]
  have y1_1 : W0.frozen? ⟨w.heap.size + 1, 1, none⟩ = false := by rw [← hW0]; simp [go_sem]
  have zs : w.heap.size + 1 < W0.heap.size := by rw [← hW0]; simp
  have zb : Below w.heap.size w W0 := by rw [← hW0]; exact below_step (below_new _ _) (below_new _ _)
  rw [hW0]
  clear hW0
  have g0 := ha.to zb
  have g1 := hb.to zb
  refine (ref7_fix b _ la _ g0 (by omega)).mono ?_
  rintro e w2 ⟨v2, rfl, hv2, hb2⟩
  obtain ⟨a2_, n2_, c2_, rfl, H2, hm2⟩ := hv2.rd.open
  have hw_w2 : w.heap.size ≤ W0.heap.size := (by omega)
  replace x0_0 := (hb2.cell (p := ⟨w.heap.size, 0, none⟩) (by show w.heap.size < W0.heap.size; omega)).trans x0_0
  replace y0_0 := (hb2.frozen (p := ⟨w.heap.size, 0, none⟩) (by show w.heap.size < W0.heap.size; omega)).trans y0_0
  replace x0_1 := (hb2.cell (p := ⟨w.heap.size, 1, none⟩) (by show w.heap.size < W0.heap.size; omega)).trans x0_1
  replace y0_1 := (hb2.frozen (p := ⟨w.heap.size, 1, none⟩) (by show w.heap.size < W0.heap.size; omega)).trans y0_1
  replace x1_0 := (hb2.cell (p := ⟨w.heap.size + 1, 0, none⟩) (by show w.heap.size + 1 < W0.heap.size; omega)).trans x1_0
  replace y1_0 := (hb2.frozen (p := ⟨w.heap.size + 1, 0, none⟩) (by show w.heap.size + 1 < W0.heap.size; omega)).trans y1_0
  replace x1_1 := (hb2.cell (p := ⟨w.heap.size + 1, 1, none⟩) (by show w.heap.size + 1 < W0.heap.size; omega)).trans x1_1
  replace y1_1 := (hb2.frozen (p := ⟨w.heap.size + 1, 1, none⟩) (by show w.heap.size + 1 < W0.heap.size; omega)).trans y1_1
  replace zs := Nat.lt_of_lt_of_le zs hb2.size
  replace g0 := g0.to hb2
  replace g1 := g1.to hb2
  replace zb := below_step zb hb2
  have g2 := hv2.rd
  generalize hng2 : decide (sgn b (val la) < 0) = ng2
  have Hng2 := Lib.hid hng2
  clear hng2
  go_wp2_with fail
  obtain ⟨W2, hW2⟩ : ∃ W2, w2.alloc (.cells #[.bool ng2, .slice a2_ n2_ c2_] 41) = W2 := ⟨_, rfl⟩
  have hb_W2 : Below w2.heap.size w2 W2 := by rw [← hW2]; exact below_new _ _
  have zs_W2 : w2.heap.size < W2.heap.size := by rw [← hW2]; simp
  have hw_W2 : w.heap.size ≤ w2.heap.size := (by omega)
  replace x0_0 := (hb_W2.cell (p := ⟨w.heap.size, 0, none⟩) (by show w.heap.size < w2.heap.size; omega)).trans x0_0
  replace y0_0 := (hb_W2.frozen (p := ⟨w.heap.size, 0, none⟩) (by show w.heap.size < w2.heap.size; omega)).trans y0_0
  replace x0_1 := (hb_W2.cell (p := ⟨w.heap.size, 1, none⟩) (by show w.heap.size < w2.heap.size; omega)).trans x0_1
  replace y0_1 := (hb_W2.frozen (p := ⟨w.heap.size, 1, none⟩) (by show w.heap.size < w2.heap.size; omega)).trans y0_1
  replace x1_0 := (hb_W2.cell (p := ⟨w.heap.size + 1, 0, none⟩) (by show w.heap.size + 1 < w2.heap.size; omega)).trans x1_0
  replace y1_0 := (hb_W2.frozen (p := ⟨w.heap.size + 1, 0, none⟩) (by show w.heap.size + 1 < w2.heap.size; omega)).trans y1_0
  replace x1_1 := (hb_W2.cell (p := ⟨w.heap.size + 1, 1, none⟩) (by show w.heap.size + 1 < w2.heap.size; omega)).trans x1_1
  replace y1_1 := (hb_W2.frozen (p := ⟨w.heap.size + 1, 1, none⟩) (by show w.heap.size + 1 < w2.heap.size; omega)).trans y1_1
  replace zs := Nat.lt_of_lt_of_le zs hb_W2.size
  replace g0 := g0.to hb_W2
  replace g1 := g1.to hb_W2
  replace g2 := g2.to hb_W2
  replace zb := below_step zb hb_W2
  have x5_0 : W2.cell? ⟨w2.heap.size, 0, none⟩ = some (.bool ng2) := by rw [← hW2]; simp [go_sem]
  have y5_0 : W2.frozen? ⟨w2.heap.size, 0, none⟩ = false := by rw [← hW2]; simp [go_sem]
  have x5_1 : W2.cell? ⟨w2.heap.size, 1, none⟩ = some (.slice a2_ n2_ c2_) := by rw [← hW2]; simp [go_sem]
  have y5_1 : W2.frozen? ⟨w2.heap.size, 1, none⟩ = false := by rw [← hW2]; simp [go_sem]
  rw [hW2]
  clear hW2
  refine (ref7_fix c _ lb _ g1 (by omega)).mono ?_
  rintro e w3 ⟨v3, rfl, hv3, hb3⟩
  obtain ⟨a3_, n3_, c3_, rfl, H3, hm3⟩ := hv3.rd.open
  have hw_w3 : w.heap.size ≤ W2.heap.size := (by omega)
  replace x0_0 := (hb3.cell (p := ⟨w.heap.size, 0, none⟩) (by show w.heap.size < W2.heap.size; omega)).trans x0_0
  replace y0_0 := (hb3.frozen (p := ⟨w.heap.size, 0, none⟩) (by show w.heap.size < W2.heap.size; omega)).trans y0_0
  replace x0_1 := (hb3.cell (p := ⟨w.heap.size, 1, none⟩) (by show w.heap.size < W2.heap.size; omega)).trans x0_1
  replace y0_1 := (hb3.frozen (p := ⟨w.heap.size, 1, none⟩) (by show w.heap.size < W2.heap.size; omega)).trans y0_1
  replace x1_0 := (hb3.cell (p := ⟨w.heap.size + 1, 0, none⟩) (by show w.heap.size + 1 < W2.heap.size; omega)).trans x1_0
  replace y1_0 := (hb3.frozen (p := ⟨w.heap.size + 1, 0, none⟩) (by show w.heap.size + 1 < W2.heap.size; omega)).trans y1_0
  replace x1_1 := (hb3.cell (p := ⟨w.heap.size + 1, 1, none⟩) (by show w.heap.size + 1 < W2.heap.size; omega)).trans x1_1
  replace y1_1 := (hb3.frozen (p := ⟨w.heap.size + 1, 1, none⟩) (by show w.heap.size + 1 < W2.heap.size; omega)).trans y1_1
  replace x5_0 := (hb3.cell (p := ⟨w2.heap.size, 0, none⟩) (by show w2.heap.size < W2.heap.size; omega)).trans x5_0
  replace y5_0 := (hb3.frozen (p := ⟨w2.heap.size, 0, none⟩) (by show w2.heap.size < W2.heap.size; omega)).trans y5_0
  replace x5_1 := (hb3.cell (p := ⟨w2.heap.size, 1, none⟩) (by show w2.heap.size < W2.heap.size; omega)).trans x5_1
  replace y5_1 := (hb3.frozen (p := ⟨w2.heap.size, 1, none⟩) (by show w2.heap.size < W2.heap.size; omega)).trans y5_1
  replace zs := Nat.lt_of_lt_of_le zs hb3.size
  replace zs_W2 := Nat.lt_of_lt_of_le zs_W2 hb3.size
  replace g0 := g0.to hb3
  replace g1 := g1.to hb3
  replace g2 := g2.to hb3
  replace zb := below_step zb hb3
  have g3 := hv3.rd
  generalize hng3 : decide (sgn c (val lb) < 0) = ng3
  have Hng3 := Lib.hid hng3
  clear hng3
  go_wp2_with fail
  obtain ⟨W3, hW3⟩ : ∃ W3, w3.alloc (.cells #[.bool ng3, .slice a3_ n3_ c3_] 41) = W3 := ⟨_, rfl⟩
  have hb_W3 : Below w3.heap.size w3 W3 := by rw [← hW3]; exact below_new _ _
  have zs_W3 : w3.heap.size < W3.heap.size := by rw [← hW3]; simp
  have hw_W3 : w.heap.size ≤ w3.heap.size := (by omega)
  replace x0_0 := (hb_W3.cell (p := ⟨w.heap.size, 0, none⟩) (by show w.heap.size < w3.heap.size; omega)).trans x0_0
  replace y0_0 := (hb_W3.frozen (p := ⟨w.heap.size, 0, none⟩) (by show w.heap.size < w3.heap.size; omega)).trans y0_0
  replace x0_1 := (hb_W3.cell (p := ⟨w.heap.size, 1, none⟩) (by show w.heap.size < w3.heap.size; omega)).trans x0_1
  replace y0_1 := (hb_W3.frozen (p := ⟨w.heap.size, 1, none⟩) (by show w.heap.size < w3.heap.size; omega)).trans y0_1
  replace x1_0 := (hb_W3.cell (p := ⟨w.heap.size + 1, 0, none⟩) (by show w.heap.size + 1 < w3.heap.size; omega)).trans x1_0
  replace y1_0 := (hb_W3.frozen (p := ⟨w.heap.size + 1, 0, none⟩) (by show w.heap.size + 1 < w3.heap.size; omega)).trans y1_0
  replace x1_1 := (hb_W3.cell (p := ⟨w.heap.size + 1, 1, none⟩) (by show w.heap.size + 1 < w3.heap.size; omega)).trans x1_1
  replace y1_1 := (hb_W3.frozen (p := ⟨w.heap.size + 1, 1, none⟩) (by show w.heap.size + 1 < w3.heap.size; omega)).trans y1_1
  replace x5_0 := (hb_W3.cell (p := ⟨w2.heap.size, 0, none⟩) (by show w2.heap.size < w3.heap.size; omega)).trans x5_0
  replace y5_0 := (hb_W3.frozen (p := ⟨w2.heap.size, 0, none⟩) (by show w2.heap.size < w3.heap.size; omega)).trans y5_0
  replace x5_1 := (hb_W3.cell (p := ⟨w2.heap.size, 1, none⟩) (by show w2.heap.size < w3.heap.size; omega)).trans x5_1
  replace y5_1 := (hb_W3.frozen (p := ⟨w2.heap.size, 1, none⟩) (by show w2.heap.size < w3.heap.size; omega)).trans y5_1
  replace zs := Nat.lt_of_lt_of_le zs hb_W3.size
  replace zs_W2 := Nat.lt_of_lt_of_le zs_W2 hb_W3.size
  replace g0 := g0.to hb_W3
  replace g1 := g1.to hb_W3
  replace g2 := g2.to hb_W3
  replace g3 := g3.to hb_W3
  replace zb := below_step zb hb_W3
  have x6_0 : W3.cell? ⟨w3.heap.size, 0, none⟩ = some (.bool ng3) := by rw [← hW3]; simp [go_sem]
  have y6_0 : W3.frozen? ⟨w3.heap.size, 0, none⟩ = false := by rw [← hW3]; simp [go_sem]
  have x6_1 : W3.cell? ⟨w3.heap.size, 1, none⟩ = some (.slice a3_ n3_ c3_) := by rw [← hW3]; simp [go_sem]
  have y6_1 : W3.frozen? ⟨w3.heap.size, 1, none⟩ = false := by rw [← hW3]; simp [go_sem]
  rw [hW3]
  clear hW3
  refine (ref2_cmp _ _ _ _ _ g2 g3 (by rw [sz_def, sgn_abs]; have := sz_val ha.1; omega) (by rw [sz_def, sgn_abs]; have := sz_val hb.1; omega)).mono ?_
  rintro e w4 ⟨rfl, rfl⟩
  rw [val_limbs, val_limbs]
  generalize hr : cmpN (sgn b (val la)).natAbs (sgn c (val lb)).natAbs = r
  have hr0 : -1 ≤ r ∧ r ≤ 1 := by rw [← hr]; exact cmpN_range _ _
  obtain ⟨hr1, hr2⟩ := hr0
  have Hr := Lib.hid hr
  clear hr
  cases ng2 <;> cases ng3
  all_goals
    go_wp2_with fail
    go_ret
    refine ⟨?_, zb⟩
    have e1 := Hng2.out
    have e2 := Hng3.out
    simp only [decide_eq_true_eq, decide_eq_false_iff_not] at e1 e2
    rw [← Hq.out]
    have e3 := Hr.out
    subst e3
    first | exact congrArg (fun t => Ending.returned (.int .i64 t)) (cmpZ_pp e1 e2).symm | exact congrArg (fun t => Ending.returned (.int .i64 t)) (cmpZ_nn e1 e2).symm | exact congrArg (fun t => Ending.returned (.int .i64 t)) (cmpZ_np e1 e2).symm | exact congrArg (fun t => Ending.returned (.int .i64 t)) (cmpZ_pn e1 e2).symm

set_option maxRecDepth 100000 in
set_option maxHeartbeats 8000000 in
theorem ref7_add (b c : Bool) (va vb : Value) (la lb : List Nat) (w : World) (ha : Rd w va la) (hb : Rd w vb lb) (hla : la.length ≤ 90000) (hlb : lb.length ≤ 90000) :
    Calls Try.prog 47 #[aggI b va, aggI c vb] w (GivesI w (sgn b (val la) + sgn c (val lb))) := by
  have hsa := sz_val ha.1
  have hsb := sz_val hb.1
  have hs := sz_add (val la) (val lb)
  have hm := sz_mul (val la) (val lb)
  have hd1 := sz_sub (val la) (val lb)
  have hd2 := sz_sub (val lb) (val la)
  obtain ⟨a0, n0, c0, rfl, H0, hm0⟩ := ha.open
  obtain ⟨a1, n1, c1, rfl, H1, hm1⟩ := hb.open
  by_cases hbc : b = c
  · subst hbc
    rw [← sgn_same, show sgn b (val la + val lb) = sgn b (val (limbs (val la + val lb))) by rw [val_limbs]]
    go_enter Try.func47, Try.ntmps47
    go_wp2_with fail
    obtain ⟨W0, hW0⟩ : ∃ W0, ((w.alloc (.cells #[.bool b, .slice a0 n0 c0] 41)).alloc (.cells #[.bool b, .slice a1 n1 c1] 41)).alloc (.cells #[.bool false, .slice none 0 0] 41) = W0 := ⟨_, rfl⟩
    have x0_0 : W0.cell? ⟨w.heap.size, 0, none⟩ = some (.bool b) := by rw [← hW0]; simp [go_sem]
    have y0_0 : W0.frozen? ⟨w.heap.size, 0, none⟩ = false := by rw [← hW0]; simp [go_sem]
    have x0_1 : W0.cell? ⟨w.heap.size, 1, none⟩ = some (.slice a0 n0 c0) := by rw [← hW0]; simp [go_sem]
    have y0_1 : W0.frozen? ⟨w.heap.size, 1, none⟩ = false := by rw [← hW0]; simp [go_sem]
    have x1_0 : W0.cell? ⟨w.heap.size + 1, 0, none⟩ = some (.bool b) := by rw [← hW0]; simp [go_sem]
    have y1_0 : W0.frozen? ⟨w.heap.size + 1, 0, none⟩ = false := by rw [← hW0]; simp [go_sem]
    have x1_1 : W0.cell? ⟨w.heap.size + 1, 1, none⟩ = some (.slice a1 n1 c1) := by rw [← hW0]; simp [go_sem]
    have y1_1 : W0.frozen? ⟨w.heap.size + 1, 1, none⟩ = false := by rw [← hW0]; simp [go_sem]
    have x2_0 : W0.cell? ⟨w.heap.size + 1 + 1, 0, none⟩ = some (.bool false) := by rw [← hW0]; simp [go_sem]
    have y2_0 : W0.frozen? ⟨w.heap.size + 1 + 1, 0, none⟩ = false := by rw [← hW0]; simp [go_sem]
    have x2_1 : W0.cell? ⟨w.heap.size + 1 + 1, 1, none⟩ = some (.slice none 0 0) := by rw [← hW0]; simp [go_sem]
    have y2_1 : W0.frozen? ⟨w.heap.size + 1 + 1, 1, none⟩ = false := by rw [← hW0]; simp [go_sem]
    have zs : w.heap.size + 1 + 1 < W0.heap.size := by rw [← hW0]; simp
    have zb : Below w.heap.size w W0 := by rw [← hW0]; exact below_step (below_step (below_new _ _) (below_new _ _)) (below_new _ _)
    rw [hW0]
    clear hW0
    have g0 := ha.to zb
    have g1 := hb.to zb
    go_region_with (first
      | (go_at_call 51; have g0 := g0.drew; have g1 := g1.drew; have zb := zb.drew; refine (ref2_add _ _ la lb _ g0 g1 (by omega) (by omega)).mono ?_; rintro e w2 ⟨v2, rfl, hv2, hb2⟩; obtain ⟨a2_, n2_, c2_, rfl, H2, hm2⟩ := hv2.rd.open; have hr_w2 : w.heap.size + 1 + 1 < W0.heap.size := (by omega); have hw_w2 : w.heap.size ≤ W0.heap.size := (by omega); have x0_0 := (hb2.cell (p := ⟨w.heap.size, 0, none⟩) (by show w.heap.size < W0.heap.size; omega)).trans x0_0; have y0_0 := (hb2.frozen (p := ⟨w.heap.size, 0, none⟩) (by show w.heap.size < W0.heap.size; omega)).trans y0_0; have x0_1 := (hb2.cell (p := ⟨w.heap.size, 1, none⟩) (by show w.heap.size < W0.heap.size; omega)).trans x0_1; have y0_1 := (hb2.frozen (p := ⟨w.heap.size, 1, none⟩) (by show w.heap.size < W0.heap.size; omega)).trans y0_1; have x1_0 := (hb2.cell (p := ⟨w.heap.size + 1, 0, none⟩) (by show w.heap.size + 1 < W0.heap.size; omega)).trans x1_0; have y1_0 := (hb2.frozen (p := ⟨w.heap.size + 1, 0, none⟩) (by show w.heap.size + 1 < W0.heap.size; omega)).trans y1_0; have x1_1 := (hb2.cell (p := ⟨w.heap.size + 1, 1, none⟩) (by show w.heap.size + 1 < W0.heap.size; omega)).trans x1_1; have y1_1 := (hb2.frozen (p := ⟨w.heap.size + 1, 1, none⟩) (by show w.heap.size + 1 < W0.heap.size; omega)).trans y1_1; have x2_0 := (hb2.cell (p := ⟨w.heap.size + 1 + 1, 0, none⟩) (by show w.heap.size + 1 + 1 < W0.heap.size; omega)).trans x2_0; have y2_0 := (hb2.frozen (p := ⟨w.heap.size + 1 + 1, 0, none⟩) (by show w.heap.size + 1 + 1 < W0.heap.size; omega)).trans y2_0; have x2_1 := (hb2.cell (p := ⟨w.heap.size + 1 + 1, 1, none⟩) (by show w.heap.size + 1 + 1 < W0.heap.size; omega)).trans x2_1; have y2_1 := (hb2.frozen (p := ⟨w.heap.size + 1 + 1, 1, none⟩) (by show w.heap.size + 1 + 1 < W0.heap.size; omega)).trans y2_1; have zs := Nat.lt_of_lt_of_le zs hb2.size; have g0 := g0.to hb2; have g1 := g1.to hb2; have zb := below_step zb hb2; have g2 := hv2.rd)
      | (go_at_call 33; refine (ref7_fix b _ _ _ g2 (by rw [sz_def]; omega)).mono ?_; rintro e w3 ⟨v3, rfl, hv3, hb3⟩; obtain ⟨a3_, n3_, c3_, rfl, H3, hm3⟩ := hv3.rd.open; have hr_w3 : w.heap.size + 1 + 1 < w2.heap.size := (by omega); have hw_w3 : w.heap.size ≤ w2.heap.size := (by omega); have x0_0 := (hb3.cell (p := ⟨w.heap.size, 0, none⟩) (by show w.heap.size < w2.heap.size; omega)).trans x0_0; have y0_0 := (hb3.frozen (p := ⟨w.heap.size, 0, none⟩) (by show w.heap.size < w2.heap.size; omega)).trans y0_0; have x0_1 := (hb3.cell (p := ⟨w.heap.size, 1, none⟩) (by show w.heap.size < w2.heap.size; omega)).trans x0_1; have y0_1 := (hb3.frozen (p := ⟨w.heap.size, 1, none⟩) (by show w.heap.size < w2.heap.size; omega)).trans y0_1; have x1_0 := (hb3.cell (p := ⟨w.heap.size + 1, 0, none⟩) (by show w.heap.size + 1 < w2.heap.size; omega)).trans x1_0; have y1_0 := (hb3.frozen (p := ⟨w.heap.size + 1, 0, none⟩) (by show w.heap.size + 1 < w2.heap.size; omega)).trans y1_0; have x1_1 := (hb3.cell (p := ⟨w.heap.size + 1, 1, none⟩) (by show w.heap.size + 1 < w2.heap.size; omega)).trans x1_1; have y1_1 := (hb3.frozen (p := ⟨w.heap.size + 1, 1, none⟩) (by show w.heap.size + 1 < w2.heap.size; omega)).trans y1_1; have x2_0 := (hb3.cell (p := ⟨w.heap.size + 1 + 1, 0, none⟩) (by show w.heap.size + 1 + 1 < w2.heap.size; omega)).trans x2_0; have y2_0 := (hb3.frozen (p := ⟨w.heap.size + 1 + 1, 0, none⟩) (by show w.heap.size + 1 + 1 < w2.heap.size; omega)).trans y2_0; have x2_1 := (hb3.cell (p := ⟨w.heap.size + 1 + 1, 1, none⟩) (by show w.heap.size + 1 + 1 < w2.heap.size; omega)).trans x2_1; have y2_1 := (hb3.frozen (p := ⟨w.heap.size + 1 + 1, 1, none⟩) (by show w.heap.size + 1 + 1 < w2.heap.size; omega)).trans y2_1; have zs := Nat.lt_of_lt_of_le zs hb3.size; have g0 := g0.to hb3; have g1 := g1.to hb3; have g2 := g2.to hb3; have zb := below_step zb hb3; have g3 := hv3.rd; generalize hng3 : decide (sgn b (val (limbs (val la + val lb))) < 0) = ng3; have Hng3 := Lib.hid hng3; clear hng3))
    all_goals
      go_wp2_with fail
      have e3 := Hng3.out
      subst e3
      obtain ⟨k0, k1⟩ := two_cells (x := .bool (decide (sgn b (val (limbs (val la + val lb))) < 0))) (y := .slice a3_ n3_ c3_) x2_0 x2_1
      exact bodyPost_ret (results_I Try.results47 _ _ _ _ _ rfl k0 k1) rfl (finI2 zb (by omega) hr_w3 hw_w3 hv3)
  · have hbe : (b == c) = false := beq_eq_false_iff_ne.2 hbc
    by_cases hle : val lb ≤ val la
    · rw [← sgn_less hbc hle, show sgn b ((val la - val lb)) = sgn b (val (limbs (val la - val lb))) by rw [val_limbs]]
      have hcm : 0 ≤ cmpN (val la) (val lb) := by have := cmpN_ge.2 hle; omega
      go_enter Try.func47, Try.ntmps47
      go_wp2_with fail
      obtain ⟨W0, hW0⟩ : ∃ W0, ((w.alloc (.cells #[.bool b, .slice a0 n0 c0] 41)).alloc (.cells #[.bool c, .slice a1 n1 c1] 41)).alloc (.cells #[.bool false, .slice none 0 0] 41) = W0 := ⟨_, rfl⟩
      have x0_0 : W0.cell? ⟨w.heap.size, 0, none⟩ = some (.bool b) := by rw [← hW0]; simp [go_sem]
      have y0_0 : W0.frozen? ⟨w.heap.size, 0, none⟩ = false := by rw [← hW0]; simp [go_sem]
      have x0_1 : W0.cell? ⟨w.heap.size, 1, none⟩ = some (.slice a0 n0 c0) := by rw [← hW0]; simp [go_sem]
      have y0_1 : W0.frozen? ⟨w.heap.size, 1, none⟩ = false := by rw [← hW0]; simp [go_sem]
      have x1_0 : W0.cell? ⟨w.heap.size + 1, 0, none⟩ = some (.bool c) := by rw [← hW0]; simp [go_sem]
      have y1_0 : W0.frozen? ⟨w.heap.size + 1, 0, none⟩ = false := by rw [← hW0]; simp [go_sem]
      have x1_1 : W0.cell? ⟨w.heap.size + 1, 1, none⟩ = some (.slice a1 n1 c1) := by rw [← hW0]; simp [go_sem]
      have y1_1 : W0.frozen? ⟨w.heap.size + 1, 1, none⟩ = false := by rw [← hW0]; simp [go_sem]
      have x2_0 : W0.cell? ⟨w.heap.size + 1 + 1, 0, none⟩ = some (.bool false) := by rw [← hW0]; simp [go_sem]
      have y2_0 : W0.frozen? ⟨w.heap.size + 1 + 1, 0, none⟩ = false := by rw [← hW0]; simp [go_sem]
      have x2_1 : W0.cell? ⟨w.heap.size + 1 + 1, 1, none⟩ = some (.slice none 0 0) := by rw [← hW0]; simp [go_sem]
      have y2_1 : W0.frozen? ⟨w.heap.size + 1 + 1, 1, none⟩ = false := by rw [← hW0]; simp [go_sem]
      have zs : w.heap.size + 1 + 1 < W0.heap.size := by rw [← hW0]; simp
      have zb : Below w.heap.size w W0 := by rw [← hW0]; exact below_step (below_step (below_new _ _) (below_new _ _)) (below_new _ _)
      rw [hW0]
      clear hW0
      have g0 := ha.to zb
      have g1 := hb.to zb
      refine (ref2_cmp _ _ _ _ _ g0 g1 (by omega) (by omega)).mono ?_
      rintro e w1 ⟨rfl, rfl⟩
      go_wp2_with fail
      refine (ref2_sub _ _ la lb _ g0 g1 (by omega) (by omega) hle).mono ?_
      rintro e w2 ⟨v2, rfl, hv2, hb2⟩
      obtain ⟨a2_, n2_, c2_, rfl, H2, hm2⟩ := hv2.rd.open
      have hr_w2 : w.heap.size + 1 + 1 < W0.heap.size := (by omega)
      have hw_w2 : w.heap.size ≤ W0.heap.size := (by omega)
      replace x0_0 := (hb2.cell (p := ⟨w.heap.size, 0, none⟩) (by show w.heap.size < W0.heap.size; omega)).trans x0_0
      replace y0_0 := (hb2.frozen (p := ⟨w.heap.size, 0, none⟩) (by show w.heap.size < W0.heap.size; omega)).trans y0_0
      replace x0_1 := (hb2.cell (p := ⟨w.heap.size, 1, none⟩) (by show w.heap.size < W0.heap.size; omega)).trans x0_1
      replace y0_1 := (hb2.frozen (p := ⟨w.heap.size, 1, none⟩) (by show w.heap.size < W0.heap.size; omega)).trans y0_1
      replace x1_0 := (hb2.cell (p := ⟨w.heap.size + 1, 0, none⟩) (by show w.heap.size + 1 < W0.heap.size; omega)).trans x1_0
      replace y1_0 := (hb2.frozen (p := ⟨w.heap.size + 1, 0, none⟩) (by show w.heap.size + 1 < W0.heap.size; omega)).trans y1_0
      replace x1_1 := (hb2.cell (p := ⟨w.heap.size + 1, 1, none⟩) (by show w.heap.size + 1 < W0.heap.size; omega)).trans x1_1
      replace y1_1 := (hb2.frozen (p := ⟨w.heap.size + 1, 1, none⟩) (by show w.heap.size + 1 < W0.heap.size; omega)).trans y1_1
      replace x2_0 := (hb2.cell (p := ⟨w.heap.size + 1 + 1, 0, none⟩) (by show w.heap.size + 1 + 1 < W0.heap.size; omega)).trans x2_0
      replace y2_0 := (hb2.frozen (p := ⟨w.heap.size + 1 + 1, 0, none⟩) (by show w.heap.size + 1 + 1 < W0.heap.size; omega)).trans y2_0
      replace x2_1 := (hb2.cell (p := ⟨w.heap.size + 1 + 1, 1, none⟩) (by show w.heap.size + 1 + 1 < W0.heap.size; omega)).trans x2_1
      replace y2_1 := (hb2.frozen (p := ⟨w.heap.size + 1 + 1, 1, none⟩) (by show w.heap.size + 1 + 1 < W0.heap.size; omega)).trans y2_1
      replace zs := Nat.lt_of_lt_of_le zs hb2.size
      replace g0 := g0.to hb2
      replace g1 := g1.to hb2
      replace zb := below_step zb hb2
      have g2 := hv2.rd
      go_wp2_with fail
      refine (ref7_fix b _ _ _ g2 (by rw [sz_def]; omega)).mono ?_
      rintro e w3 ⟨v3, rfl, hv3, hb3⟩
      obtain ⟨a3_, n3_, c3_, rfl, H3, hm3⟩ := hv3.rd.open
      have hr_w3 : w.heap.size + 1 + 1 < w2.heap.size := (by omega)
      have hw_w3 : w.heap.size ≤ w2.heap.size := (by omega)
      replace x0_0 := (hb3.cell (p := ⟨w.heap.size, 0, none⟩) (by show w.heap.size < w2.heap.size; omega)).trans x0_0
      replace y0_0 := (hb3.frozen (p := ⟨w.heap.size, 0, none⟩) (by show w.heap.size < w2.heap.size; omega)).trans y0_0
      replace x0_1 := (hb3.cell (p := ⟨w.heap.size, 1, none⟩) (by show w.heap.size < w2.heap.size; omega)).trans x0_1
      replace y0_1 := (hb3.frozen (p := ⟨w.heap.size, 1, none⟩) (by show w.heap.size < w2.heap.size; omega)).trans y0_1
      replace x1_0 := (hb3.cell (p := ⟨w.heap.size + 1, 0, none⟩) (by show w.heap.size + 1 < w2.heap.size; omega)).trans x1_0
      replace y1_0 := (hb3.frozen (p := ⟨w.heap.size + 1, 0, none⟩) (by show w.heap.size + 1 < w2.heap.size; omega)).trans y1_0
      replace x1_1 := (hb3.cell (p := ⟨w.heap.size + 1, 1, none⟩) (by show w.heap.size + 1 < w2.heap.size; omega)).trans x1_1
      replace y1_1 := (hb3.frozen (p := ⟨w.heap.size + 1, 1, none⟩) (by show w.heap.size + 1 < w2.heap.size; omega)).trans y1_1
      replace x2_0 := (hb3.cell (p := ⟨w.heap.size + 1 + 1, 0, none⟩) (by show w.heap.size + 1 + 1 < w2.heap.size; omega)).trans x2_0
      replace y2_0 := (hb3.frozen (p := ⟨w.heap.size + 1 + 1, 0, none⟩) (by show w.heap.size + 1 + 1 < w2.heap.size; omega)).trans y2_0
      replace x2_1 := (hb3.cell (p := ⟨w.heap.size + 1 + 1, 1, none⟩) (by show w.heap.size + 1 + 1 < w2.heap.size; omega)).trans x2_1
      replace y2_1 := (hb3.frozen (p := ⟨w.heap.size + 1 + 1, 1, none⟩) (by show w.heap.size + 1 + 1 < w2.heap.size; omega)).trans y2_1
      replace zs := Nat.lt_of_lt_of_le zs hb3.size
      replace g0 := g0.to hb3
      replace g1 := g1.to hb3
      replace g2 := g2.to hb3
      replace zb := below_step zb hb3
      have g3 := hv3.rd
      generalize hng3 : decide (sgn b (val (limbs (val la - val lb))) < 0) = ng3
      have Hng3 := Lib.hid hng3
      clear hng3
      go_wp2_with fail
      have e3 := Hng3.out
      subst e3
      obtain ⟨k0, k1⟩ := two_cells (x := .bool (decide (sgn b (val (limbs (val la - val lb))) < 0))) (y := .slice a3_ n3_ c3_) x2_0 x2_1
      exact bodyPost_ret (results_I Try.results47 _ _ _ _ _ rfl k0 k1) rfl (finI2 zb (by omega) hr_w3 hw_w3 hv3)
    · rw [← sgn_more hbc (by omega), show sgn c ((val lb - val la)) = sgn c (val (limbs (val lb - val la))) by rw [val_limbs]]
      have hcm : cmpN (val la) (val lb) < 0 := by rw [cmpN_lt (by omega)]; omega
      go_enter Try.func47, Try.ntmps47
      go_wp2_with fail
      obtain ⟨W0, hW0⟩ : ∃ W0, ((w.alloc (.cells #[.bool b, .slice a0 n0 c0] 41)).alloc (.cells #[.bool c, .slice a1 n1 c1] 41)).alloc (.cells #[.bool false, .slice none 0 0] 41) = W0 := ⟨_, rfl⟩
      have x0_0 : W0.cell? ⟨w.heap.size, 0, none⟩ = some (.bool b) := by rw [← hW0]; simp [go_sem]
      have y0_0 : W0.frozen? ⟨w.heap.size, 0, none⟩ = false := by rw [← hW0]; simp [go_sem]
      have x0_1 : W0.cell? ⟨w.heap.size, 1, none⟩ = some (.slice a0 n0 c0) := by rw [← hW0]; simp [go_sem]
      have y0_1 : W0.frozen? ⟨w.heap.size, 1, none⟩ = false := by rw [← hW0]; simp [go_sem]
      have x1_0 : W0.cell? ⟨w.heap.size + 1, 0, none⟩ = some (.bool c) := by rw [← hW0]; simp [go_sem]
      have y1_0 : W0.frozen? ⟨w.heap.size + 1, 0, none⟩ = false := by rw [← hW0]; simp [go_sem]
      have x1_1 : W0.cell? ⟨w.heap.size + 1, 1, none⟩ = some (.slice a1 n1 c1) := by rw [← hW0]; simp [go_sem]
      have y1_1 : W0.frozen? ⟨w.heap.size + 1, 1, none⟩ = false := by rw [← hW0]; simp [go_sem]
      have x2_0 : W0.cell? ⟨w.heap.size + 1 + 1, 0, none⟩ = some (.bool false) := by rw [← hW0]; simp [go_sem]
      have y2_0 : W0.frozen? ⟨w.heap.size + 1 + 1, 0, none⟩ = false := by rw [← hW0]; simp [go_sem]
      have x2_1 : W0.cell? ⟨w.heap.size + 1 + 1, 1, none⟩ = some (.slice none 0 0) := by rw [← hW0]; simp [go_sem]
      have y2_1 : W0.frozen? ⟨w.heap.size + 1 + 1, 1, none⟩ = false := by rw [← hW0]; simp [go_sem]
      have zs : w.heap.size + 1 + 1 < W0.heap.size := by rw [← hW0]; simp
      have zb : Below w.heap.size w W0 := by rw [← hW0]; exact below_step (below_step (below_new _ _) (below_new _ _)) (below_new _ _)
      rw [hW0]
      clear hW0
      have g0 := ha.to zb
      have g1 := hb.to zb
      refine (ref2_cmp _ _ _ _ _ g0 g1 (by omega) (by omega)).mono ?_
      rintro e w1 ⟨rfl, rfl⟩
      go_wp2_with fail
      refine (ref2_sub _ _ lb la _ g1 g0 (by omega) (by omega) (by omega)).mono ?_
      rintro e w2 ⟨v2, rfl, hv2, hb2⟩
      obtain ⟨a2_, n2_, c2_, rfl, H2, hm2⟩ := hv2.rd.open
      have hr_w2 : w.heap.size + 1 + 1 < W0.heap.size := (by omega)
      have hw_w2 : w.heap.size ≤ W0.heap.size := (by omega)
      replace x0_0 := (hb2.cell (p := ⟨w.heap.size, 0, none⟩) (by show w.heap.size < W0.heap.size; omega)).trans x0_0
      replace y0_0 := (hb2.frozen (p := ⟨w.heap.size, 0, none⟩) (by show w.heap.size < W0.heap.size; omega)).trans y0_0
      replace x0_1 := (hb2.cell (p := ⟨w.heap.size, 1, none⟩) (by show w.heap.size < W0.heap.size; omega)).trans x0_1
      replace y0_1 := (hb2.frozen (p := ⟨w.heap.size, 1, none⟩) (by show w.heap.size < W0.heap.size; omega)).trans y0_1
      replace x1_0 := (hb2.cell (p := ⟨w.heap.size + 1, 0, none⟩) (by show w.heap.size + 1 < W0.heap.size; omega)).trans x1_0
      replace y1_0 := (hb2.frozen (p := ⟨w.heap.size + 1, 0, none⟩) (by show w.heap.size + 1 < W0.heap.size; omega)).trans y1_0
      replace x1_1 := (hb2.cell (p := ⟨w.heap.size + 1, 1, none⟩) (by show w.heap.size + 1 < W0.heap.size; omega)).trans x1_1
      replace y1_1 := (hb2.frozen (p := ⟨w.heap.size + 1, 1, none⟩) (by show w.heap.size + 1 < W0.heap.size; omega)).trans y1_1
      replace x2_0 := (hb2.cell (p := ⟨w.heap.size + 1 + 1, 0, none⟩) (by show w.heap.size + 1 + 1 < W0.heap.size; omega)).trans x2_0
      replace y2_0 := (hb2.frozen (p := ⟨w.heap.size + 1 + 1, 0, none⟩) (by show w.heap.size + 1 + 1 < W0.heap.size; omega)).trans y2_0
      replace x2_1 := (hb2.cell (p := ⟨w.heap.size + 1 + 1, 1, none⟩) (by show w.heap.size + 1 + 1 < W0.heap.size; omega)).trans x2_1
      replace y2_1 := (hb2.frozen (p := ⟨w.heap.size + 1 + 1, 1, none⟩) (by show w.heap.size + 1 + 1 < W0.heap.size; omega)).trans y2_1
      replace zs := Nat.lt_of_lt_of_le zs hb2.size
      replace g0 := g0.to hb2
      replace g1 := g1.to hb2
      replace zb := below_step zb hb2
      have g2 := hv2.rd
      go_wp2_with fail
      refine (ref7_fix c _ _ _ g2 (by rw [sz_def]; omega)).mono ?_
      rintro e w3 ⟨v3, rfl, hv3, hb3⟩
      obtain ⟨a3_, n3_, c3_, rfl, H3, hm3⟩ := hv3.rd.open
      have hr_w3 : w.heap.size + 1 + 1 < w2.heap.size := (by omega)
      have hw_w3 : w.heap.size ≤ w2.heap.size := (by omega)
      replace x0_0 := (hb3.cell (p := ⟨w.heap.size, 0, none⟩) (by show w.heap.size < w2.heap.size; omega)).trans x0_0
      replace y0_0 := (hb3.frozen (p := ⟨w.heap.size, 0, none⟩) (by show w.heap.size < w2.heap.size; omega)).trans y0_0
      replace x0_1 := (hb3.cell (p := ⟨w.heap.size, 1, none⟩) (by show w.heap.size < w2.heap.size; omega)).trans x0_1
      replace y0_1 := (hb3.frozen (p := ⟨w.heap.size, 1, none⟩) (by show w.heap.size < w2.heap.size; omega)).trans y0_1
      replace x1_0 := (hb3.cell (p := ⟨w.heap.size + 1, 0, none⟩) (by show w.heap.size + 1 < w2.heap.size; omega)).trans x1_0
      replace y1_0 := (hb3.frozen (p := ⟨w.heap.size + 1, 0, none⟩) (by show w.heap.size + 1 < w2.heap.size; omega)).trans y1_0
      replace x1_1 := (hb3.cell (p := ⟨w.heap.size + 1, 1, none⟩) (by show w.heap.size + 1 < w2.heap.size; omega)).trans x1_1
      replace y1_1 := (hb3.frozen (p := ⟨w.heap.size + 1, 1, none⟩) (by show w.heap.size + 1 < w2.heap.size; omega)).trans y1_1
      replace x2_0 := (hb3.cell (p := ⟨w.heap.size + 1 + 1, 0, none⟩) (by show w.heap.size + 1 + 1 < w2.heap.size; omega)).trans x2_0
      replace y2_0 := (hb3.frozen (p := ⟨w.heap.size + 1 + 1, 0, none⟩) (by show w.heap.size + 1 + 1 < w2.heap.size; omega)).trans y2_0
      replace x2_1 := (hb3.cell (p := ⟨w.heap.size + 1 + 1, 1, none⟩) (by show w.heap.size + 1 + 1 < w2.heap.size; omega)).trans x2_1
      replace y2_1 := (hb3.frozen (p := ⟨w.heap.size + 1 + 1, 1, none⟩) (by show w.heap.size + 1 + 1 < w2.heap.size; omega)).trans y2_1
      replace zs := Nat.lt_of_lt_of_le zs hb3.size
      replace g0 := g0.to hb3
      replace g1 := g1.to hb3
      replace g2 := g2.to hb3
      replace zb := below_step zb hb3
      have g3 := hv3.rd
      generalize hng3 : decide (sgn c (val (limbs (val lb - val la))) < 0) = ng3
      have Hng3 := Lib.hid hng3
      clear hng3
      go_wp2_with fail
      have e3 := Hng3.out
      subst e3
      obtain ⟨k0, k1⟩ := two_cells (x := .bool (decide (sgn c (val (limbs (val lb - val la))) < 0))) (y := .slice a3_ n3_ c3_) x2_0 x2_1
      exact bodyPost_ret (results_I Try.results47 _ _ _ _ _ rfl k0 k1) rfl (finI2 zb (by omega) hr_w3 hw_w3 hv3)

set_option maxRecDepth 100000 in
set_option maxHeartbeats 8000000 in
theorem ref7_mul (b c : Bool) (va vb : Value) (la lb : List Nat) (w : World) (ha : Rd w va la) (hb : Rd w vb lb) (hla : la.length ≤ 90000) (hlb : lb.length ≤ 90000) :
    Calls Try.prog 48 #[aggI b va, aggI c vb] w (GivesI w (sgn b (val la) * sgn c (val lb))) := by
  have hsa := sz_val ha.1
  have hsb := sz_val hb.1
  have hs := sz_add (val la) (val lb)
  have hm := sz_mul (val la) (val lb)
  have hd1 := sz_sub (val la) (val lb)
  have hd2 := sz_sub (val lb) (val la)
  rw [← sgn_mul, show sgn (b != c) (val la * val lb) = sgn (b != c) (val (limbs (val la * val lb))) by rw [val_limbs]]
  obtain ⟨a0, n0, c0, rfl, H0, hm0⟩ := ha.open
  obtain ⟨a1, n1, c1, rfl, H1, hm1⟩ := hb.open
  go_enter Try.func48, Try.ntmps48
  go_wp2_with fail
  obtain ⟨W0, hW0⟩ : ∃ W0, ((w.alloc (.cells #[.bool b, .slice a0 n0 c0] 41)).alloc (.cells #[.bool c, .slice a1 n1 c1] 41)).alloc (.cells #[.bool false, .slice none 0 0] 41) = W0 := ⟨_, rfl⟩
  have x0_0 : W0.cell? ⟨w.heap.size, 0, none⟩ = some (.bool b) := by rw [← hW0]; simp [go_sem]
  have y0_0 : W0.frozen? ⟨w.heap.size, 0, none⟩ = false := by rw [← hW0]; simp [go_sem]
  have x0_1 : W0.cell? ⟨w.heap.size, 1, none⟩ = some (.slice a0 n0 c0) := by rw [← hW0]; simp [go_sem]
  have y0_1 : W0.frozen? ⟨w.heap.size, 1, none⟩ = false := by rw [← hW0]; simp [go_sem]
  have x1_0 : W0.cell? ⟨w.heap.size + 1, 0, none⟩ = some (.bool c) := by rw [← hW0]; simp [go_sem]
  have y1_0 : W0.frozen? ⟨w.heap.size + 1, 0, none⟩ = false := by rw [← hW0]; simp [go_sem]
  have x1_1 : W0.cell? ⟨w.heap.size + 1, 1, none⟩ = some (.slice a1 n1 c1) := by rw [← hW0]; simp [go_sem]
  have y1_1 : W0.frozen? ⟨w.heap.size + 1, 1, none⟩ = false := by rw [← hW0]; simp [go_sem]
  have x2_0 : W0.cell? ⟨w.heap.size + 1 + 1, 0, none⟩ = some (.bool false) := by rw [← hW0]; simp [go_sem]
  have y2_0 : W0.frozen? ⟨w.heap.size + 1 + 1, 0, none⟩ = false := by rw [← hW0]; simp [go_sem]
  have x2_1 : W0.cell? ⟨w.heap.size + 1 + 1, 1, none⟩ = some (.slice none 0 0) := by rw [← hW0]; simp [go_sem]
  have y2_1 : W0.frozen? ⟨w.heap.size + 1 + 1, 1, none⟩ = false := by rw [← hW0]; simp [go_sem]
  have zs : w.heap.size + 1 + 1 < W0.heap.size := by rw [← hW0]; simp
  have zb : Below w.heap.size w W0 := by rw [← hW0]; exact below_step (below_step (below_new _ _) (below_new _ _)) (below_new _ _)
  rw [hW0]
  clear hW0
  have g0 := ha.to zb
  have g1 := hb.to zb
  go_region_with (first
    | (go_at_call 73; have g0 := g0.drew; have g1 := g1.drew; have zb := zb.drew; refine (ref3_mul _ _ la lb _ g0 g1 (by omega) (by omega)).mono ?_; rintro e w2 ⟨v2, rfl, hv2, hb2⟩; obtain ⟨a2_, n2_, c2_, rfl, H2, hm2⟩ := hv2.rd.open; have hr_w2 : w.heap.size + 1 + 1 < W0.heap.size := (by omega); have hw_w2 : w.heap.size ≤ W0.heap.size := (by omega); have x0_0 := (hb2.cell (p := ⟨w.heap.size, 0, none⟩) (by show w.heap.size < W0.heap.size; omega)).trans x0_0; have y0_0 := (hb2.frozen (p := ⟨w.heap.size, 0, none⟩) (by show w.heap.size < W0.heap.size; omega)).trans y0_0; have x0_1 := (hb2.cell (p := ⟨w.heap.size, 1, none⟩) (by show w.heap.size < W0.heap.size; omega)).trans x0_1; have y0_1 := (hb2.frozen (p := ⟨w.heap.size, 1, none⟩) (by show w.heap.size < W0.heap.size; omega)).trans y0_1; have x1_0 := (hb2.cell (p := ⟨w.heap.size + 1, 0, none⟩) (by show w.heap.size + 1 < W0.heap.size; omega)).trans x1_0; have y1_0 := (hb2.frozen (p := ⟨w.heap.size + 1, 0, none⟩) (by show w.heap.size + 1 < W0.heap.size; omega)).trans y1_0; have x1_1 := (hb2.cell (p := ⟨w.heap.size + 1, 1, none⟩) (by show w.heap.size + 1 < W0.heap.size; omega)).trans x1_1; have y1_1 := (hb2.frozen (p := ⟨w.heap.size + 1, 1, none⟩) (by show w.heap.size + 1 < W0.heap.size; omega)).trans y1_1; have x2_0 := (hb2.cell (p := ⟨w.heap.size + 1 + 1, 0, none⟩) (by show w.heap.size + 1 + 1 < W0.heap.size; omega)).trans x2_0; have y2_0 := (hb2.frozen (p := ⟨w.heap.size + 1 + 1, 0, none⟩) (by show w.heap.size + 1 + 1 < W0.heap.size; omega)).trans y2_0; have x2_1 := (hb2.cell (p := ⟨w.heap.size + 1 + 1, 1, none⟩) (by show w.heap.size + 1 + 1 < W0.heap.size; omega)).trans x2_1; have y2_1 := (hb2.frozen (p := ⟨w.heap.size + 1 + 1, 1, none⟩) (by show w.heap.size + 1 + 1 < W0.heap.size; omega)).trans y2_1; have zs := Nat.lt_of_lt_of_le zs hb2.size; have g0 := g0.to hb2; have g1 := g1.to hb2; have zb := below_step zb hb2; have g2 := hv2.rd)
    | (go_at_call 33; refine (ref7_fix (b != c) _ _ _ g2 (by rw [sz_def]; omega)).mono ?_; rintro e w3 ⟨v3, rfl, hv3, hb3⟩; obtain ⟨a3_, n3_, c3_, rfl, H3, hm3⟩ := hv3.rd.open; have hr_w3 : w.heap.size + 1 + 1 < w2.heap.size := (by omega); have hw_w3 : w.heap.size ≤ w2.heap.size := (by omega); have x0_0 := (hb3.cell (p := ⟨w.heap.size, 0, none⟩) (by show w.heap.size < w2.heap.size; omega)).trans x0_0; have y0_0 := (hb3.frozen (p := ⟨w.heap.size, 0, none⟩) (by show w.heap.size < w2.heap.size; omega)).trans y0_0; have x0_1 := (hb3.cell (p := ⟨w.heap.size, 1, none⟩) (by show w.heap.size < w2.heap.size; omega)).trans x0_1; have y0_1 := (hb3.frozen (p := ⟨w.heap.size, 1, none⟩) (by show w.heap.size < w2.heap.size; omega)).trans y0_1; have x1_0 := (hb3.cell (p := ⟨w.heap.size + 1, 0, none⟩) (by show w.heap.size + 1 < w2.heap.size; omega)).trans x1_0; have y1_0 := (hb3.frozen (p := ⟨w.heap.size + 1, 0, none⟩) (by show w.heap.size + 1 < w2.heap.size; omega)).trans y1_0; have x1_1 := (hb3.cell (p := ⟨w.heap.size + 1, 1, none⟩) (by show w.heap.size + 1 < w2.heap.size; omega)).trans x1_1; have y1_1 := (hb3.frozen (p := ⟨w.heap.size + 1, 1, none⟩) (by show w.heap.size + 1 < w2.heap.size; omega)).trans y1_1; have x2_0 := (hb3.cell (p := ⟨w.heap.size + 1 + 1, 0, none⟩) (by show w.heap.size + 1 + 1 < w2.heap.size; omega)).trans x2_0; have y2_0 := (hb3.frozen (p := ⟨w.heap.size + 1 + 1, 0, none⟩) (by show w.heap.size + 1 + 1 < w2.heap.size; omega)).trans y2_0; have x2_1 := (hb3.cell (p := ⟨w.heap.size + 1 + 1, 1, none⟩) (by show w.heap.size + 1 + 1 < w2.heap.size; omega)).trans x2_1; have y2_1 := (hb3.frozen (p := ⟨w.heap.size + 1 + 1, 1, none⟩) (by show w.heap.size + 1 + 1 < w2.heap.size; omega)).trans y2_1; have zs := Nat.lt_of_lt_of_le zs hb3.size; have g0 := g0.to hb3; have g1 := g1.to hb3; have g2 := g2.to hb3; have zb := below_step zb hb3; have g3 := hv3.rd; generalize hng3 : decide (sgn (b != c) (val (limbs (val la * val lb))) < 0) = ng3; have Hng3 := Lib.hid hng3; clear hng3))
  all_goals
    go_wp2_with fail
    have e3 := Hng3.out
    subst e3
    obtain ⟨k0, k1⟩ := two_cells (x := .bool (decide (sgn (b != c) (val (limbs (val la * val lb))) < 0))) (y := .slice a3_ n3_ c3_) x2_0 x2_1
    exact bodyPost_ret (results_I Try.results48 _ _ _ _ _ rfl k0 k1) rfl (finI2 zb (by omega) hr_w3 hw_w3 hv3)

end Go.Proofs.Yteokdkcanckfeaa
