/-
  The walks of package whole: sums and products.
-/
import Derived.Test.YteokdkcanckfeaaWhole
import Derived.Test.YteokdkcanckfeaaWhole2
import Derived.Deep.DrawnRows
import Derived.Laws.EntriesVeiled
namespace Go.Proofs.Yteokdkcanckfeaa
open Go.RowKit Tw
set_option linter.unusedVariables false
set_option linter.unusedSimpArgs false
attribute [local go_sem ↓] Go.wp_at_zero Go.wp_at_succ

set_option maxRecDepth 100000 in
set_option maxHeartbeats 2000000 in
theorem whole_unlike (b c : Bool) (va vb : Value) (la lb : List Nat) (w : World) (ha : Rd w va la) (hb : Rd w vb lb) (hla : la.length ≤ 400000) (hlb : lb.length ≤ 400000) (hbc : b ≠ c) :
    Calls Try.prog 68 #[aggI b va, aggI c vb] w (GivesI w (sgn b (val la) + sgn c (val lb))) := by
  have hsa := sz_val ha.1
  have hsb := sz_val hb.1
  have hs := sz_add (val la) (val lb)
  have hm := sz_mul (val la) (val lb)
  have hd1 := sz_sub (val la) (val lb)
  have hd2 := sz_sub (val lb) (val la)
  obtain ⟨a0, n0, c0, rfl, _, _⟩ := ha.open
  obtain ⟨a1, n1, c1, rfl, _, _⟩ := hb.open
  by_cases hle : val lb ≤ val la
  · rw [← sgn_less hbc hle, show sgn b (val la - val lb) = sgn b (val (limbs (val la - val lb))) by rw [val_limbs]]
    go_enter Try.func68, Try.ntmps68
    go_wp2_with fail
    obtain ⟨W0, hW0⟩ : ∃ W0, ((w.alloc (.cells #[.bool b, .slice a0 n0 c0] 41)).alloc (.cells #[.bool c, .slice a1 n1 c1] 41)).alloc (.cells #[.bool false, .slice none 0 0] 41) = W0 := ⟨_, rfl⟩
    have z0_0 : W0.cell? ⟨w.heap.size, 0, none⟩ = some (.bool b) := by rw [← hW0]; simp [go_sem]
    have q0_0 : W0.frozen? ⟨w.heap.size, 0, none⟩ = false := by rw [← hW0]; simp [go_sem]
    have z0_1 : W0.cell? ⟨w.heap.size, 1, none⟩ = some (.slice a0 n0 c0) := by rw [← hW0]; simp [go_sem]
    have q0_1 : W0.frozen? ⟨w.heap.size, 1, none⟩ = false := by rw [← hW0]; simp [go_sem]
    have z1_0 : W0.cell? ⟨w.heap.size + 1, 0, none⟩ = some (.bool c) := by rw [← hW0]; simp [go_sem]
    have q1_0 : W0.frozen? ⟨w.heap.size + 1, 0, none⟩ = false := by rw [← hW0]; simp [go_sem]
    have z1_1 : W0.cell? ⟨w.heap.size + 1, 1, none⟩ = some (.slice a1 n1 c1) := by rw [← hW0]; simp [go_sem]
    have q1_1 : W0.frozen? ⟨w.heap.size + 1, 1, none⟩ = false := by rw [← hW0]; simp [go_sem]
    have z2_0 : W0.cell? ⟨w.heap.size + 1 + 1, 0, none⟩ = some (.bool false) := by rw [← hW0]; simp [go_sem]
    have q2_0 : W0.frozen? ⟨w.heap.size + 1 + 1, 0, none⟩ = false := by rw [← hW0]; simp [go_sem]
    have z2_1 : W0.cell? ⟨w.heap.size + 1 + 1, 1, none⟩ = some (.slice none 0 0) := by rw [← hW0]; simp [go_sem]
    have q2_1 : W0.frozen? ⟨w.heap.size + 1 + 1, 1, none⟩ = false := by rw [← hW0]; simp [go_sem]
    have zs : w.heap.size + 1 + 1 < W0.heap.size := by rw [← hW0]; simp
    have zb : Below w.heap.size w W0 := by rw [← hW0]; exact below_step (below_step (below_new _ _) (below_new _ _)) (below_new _ _)
    rw [hW0]
    clear hW0
    have g0 := ha.to zb
    have g1 := hb.to zb
    refine (nat_sub _ _ la lb _ g0 g1 (by omega) hle).mono ?_
    rintro e w2 ⟨v2, rfl, hv2, hb2⟩
    obtain ⟨a2_, n2_, c2_, rfl, _, _⟩ := hv2.rd.open
    have x0_0 := (hb2.cell (p := ⟨w.heap.size, 0, none⟩) (by show w.heap.size < W0.heap.size; omega)).trans z0_0
    have y0_0 := (hb2.frozen (p := ⟨w.heap.size, 0, none⟩) (by show w.heap.size < W0.heap.size; omega)).trans q0_0
    have x0_1 := (hb2.cell (p := ⟨w.heap.size, 1, none⟩) (by show w.heap.size < W0.heap.size; omega)).trans z0_1
    have y0_1 := (hb2.frozen (p := ⟨w.heap.size, 1, none⟩) (by show w.heap.size < W0.heap.size; omega)).trans q0_1
    have x1_0 := (hb2.cell (p := ⟨w.heap.size + 1, 0, none⟩) (by show w.heap.size + 1 < W0.heap.size; omega)).trans z1_0
    have y1_0 := (hb2.frozen (p := ⟨w.heap.size + 1, 0, none⟩) (by show w.heap.size + 1 < W0.heap.size; omega)).trans q1_0
    have x1_1 := (hb2.cell (p := ⟨w.heap.size + 1, 1, none⟩) (by show w.heap.size + 1 < W0.heap.size; omega)).trans z1_1
    have y1_1 := (hb2.frozen (p := ⟨w.heap.size + 1, 1, none⟩) (by show w.heap.size + 1 < W0.heap.size; omega)).trans q1_1
    have x2_0 := (hb2.cell (p := ⟨w.heap.size + 1 + 1, 0, none⟩) (by show w.heap.size + 1 + 1 < W0.heap.size; omega)).trans z2_0
    have y2_0 := (hb2.frozen (p := ⟨w.heap.size + 1 + 1, 0, none⟩) (by show w.heap.size + 1 + 1 < W0.heap.size; omega)).trans q2_0
    have x2_1 := (hb2.cell (p := ⟨w.heap.size + 1 + 1, 1, none⟩) (by show w.heap.size + 1 + 1 < W0.heap.size; omega)).trans z2_1
    have y2_1 := (hb2.frozen (p := ⟨w.heap.size + 1 + 1, 1, none⟩) (by show w.heap.size + 1 + 1 < W0.heap.size; omega)).trans q2_1
    go_wp2_with fail
    refine (whole_signed b _ _ _ hv2.rd (by rw [sz_def]; omega)).mono ?_
    rintro e w3 ⟨v3, rfl, hv3, hb3⟩
    obtain ⟨a3_, n3_, c3_, rfl, _, _⟩ := hv3.rd.open
    have hb03 := below_step hb2 hb3
    have x0_0r := (hb03.cell (p := ⟨w.heap.size, 0, none⟩) (by show w.heap.size < W0.heap.size; omega)).trans z0_0
    have y0_0r := (hb03.frozen (p := ⟨w.heap.size, 0, none⟩) (by show w.heap.size < W0.heap.size; omega)).trans q0_0
    have x0_1r := (hb03.cell (p := ⟨w.heap.size, 1, none⟩) (by show w.heap.size < W0.heap.size; omega)).trans z0_1
    have y0_1r := (hb03.frozen (p := ⟨w.heap.size, 1, none⟩) (by show w.heap.size < W0.heap.size; omega)).trans q0_1
    have x1_0r := (hb03.cell (p := ⟨w.heap.size + 1, 0, none⟩) (by show w.heap.size + 1 < W0.heap.size; omega)).trans z1_0
    have y1_0r := (hb03.frozen (p := ⟨w.heap.size + 1, 0, none⟩) (by show w.heap.size + 1 < W0.heap.size; omega)).trans q1_0
    have x1_1r := (hb03.cell (p := ⟨w.heap.size + 1, 1, none⟩) (by show w.heap.size + 1 < W0.heap.size; omega)).trans z1_1
    have y1_1r := (hb03.frozen (p := ⟨w.heap.size + 1, 1, none⟩) (by show w.heap.size + 1 < W0.heap.size; omega)).trans q1_1
    have x2_0r := (hb03.cell (p := ⟨w.heap.size + 1 + 1, 0, none⟩) (by show w.heap.size + 1 + 1 < W0.heap.size; omega)).trans z2_0
    have y2_0r := (hb03.frozen (p := ⟨w.heap.size + 1 + 1, 0, none⟩) (by show w.heap.size + 1 + 1 < W0.heap.size; omega)).trans q2_0
    have x2_1r := (hb03.cell (p := ⟨w.heap.size + 1 + 1, 1, none⟩) (by show w.heap.size + 1 + 1 < W0.heap.size; omega)).trans z2_1
    have y2_1r := (hb03.frozen (p := ⟨w.heap.size + 1 + 1, 1, none⟩) (by show w.heap.size + 1 + 1 < W0.heap.size; omega)).trans q2_1
    generalize hng : decide (sgn b (val (limbs (val la - val lb))) < 0) = ng
    have Hng := Lib.hid hng
    clear hng
    have zs' := zs
    replace hv3 := hv3.mono hb2.size
    go_wp2_with fail
    have e := Hng.out
    subst e
    obtain ⟨k0, k1⟩ := two_cells (x := .bool (decide (sgn b (val (limbs (val la - val lb))) < 0))) (y := .slice a3_ n3_ c3_) x2_0r x2_1r
    exact bodyPost_ret (results_I Try.results68 _ _ _ _ _ rfl k0 k1) rfl (finI zb (by omega) zs' hv3 hb03)
  · have hlt : val la < val lb := by omega
    rw [← sgn_more hbc hlt, show sgn c (val lb - val la) = sgn c (val (limbs (val lb - val la))) by rw [val_limbs]]
    go_enter Try.func68, Try.ntmps68
    go_wp2_with fail
    obtain ⟨W0, hW0⟩ : ∃ W0, ((w.alloc (.cells #[.bool b, .slice a0 n0 c0] 41)).alloc (.cells #[.bool c, .slice a1 n1 c1] 41)).alloc (.cells #[.bool false, .slice none 0 0] 41) = W0 := ⟨_, rfl⟩
    have z0_0 : W0.cell? ⟨w.heap.size, 0, none⟩ = some (.bool b) := by rw [← hW0]; simp [go_sem]
    have q0_0 : W0.frozen? ⟨w.heap.size, 0, none⟩ = false := by rw [← hW0]; simp [go_sem]
    have z0_1 : W0.cell? ⟨w.heap.size, 1, none⟩ = some (.slice a0 n0 c0) := by rw [← hW0]; simp [go_sem]
    have q0_1 : W0.frozen? ⟨w.heap.size, 1, none⟩ = false := by rw [← hW0]; simp [go_sem]
    have z1_0 : W0.cell? ⟨w.heap.size + 1, 0, none⟩ = some (.bool c) := by rw [← hW0]; simp [go_sem]
    have q1_0 : W0.frozen? ⟨w.heap.size + 1, 0, none⟩ = false := by rw [← hW0]; simp [go_sem]
    have z1_1 : W0.cell? ⟨w.heap.size + 1, 1, none⟩ = some (.slice a1 n1 c1) := by rw [← hW0]; simp [go_sem]
    have q1_1 : W0.frozen? ⟨w.heap.size + 1, 1, none⟩ = false := by rw [← hW0]; simp [go_sem]
    have z2_0 : W0.cell? ⟨w.heap.size + 1 + 1, 0, none⟩ = some (.bool false) := by rw [← hW0]; simp [go_sem]
    have q2_0 : W0.frozen? ⟨w.heap.size + 1 + 1, 0, none⟩ = false := by rw [← hW0]; simp [go_sem]
    have z2_1 : W0.cell? ⟨w.heap.size + 1 + 1, 1, none⟩ = some (.slice none 0 0) := by rw [← hW0]; simp [go_sem]
    have q2_1 : W0.frozen? ⟨w.heap.size + 1 + 1, 1, none⟩ = false := by rw [← hW0]; simp [go_sem]
    have zs : w.heap.size + 1 + 1 < W0.heap.size := by rw [← hW0]; simp
    have zb : Below w.heap.size w W0 := by rw [← hW0]; exact below_step (below_step (below_new _ _) (below_new _ _)) (below_new _ _)
    rw [hW0]
    clear hW0
    have g0 := ha.to zb
    have g1 := hb.to zb
    refine (nat_sub_no _ _ la lb _ g0 g1 hlt).mono ?_
    rintro e w1 ⟨rfl, hb1⟩
    have x0_0p := (hb1.cell (p := ⟨w.heap.size, 0, none⟩) (by show w.heap.size < W0.heap.size; omega)).trans z0_0
    have y0_0p := (hb1.frozen (p := ⟨w.heap.size, 0, none⟩) (by show w.heap.size < W0.heap.size; omega)).trans q0_0
    have x0_1p := (hb1.cell (p := ⟨w.heap.size, 1, none⟩) (by show w.heap.size < W0.heap.size; omega)).trans z0_1
    have y0_1p := (hb1.frozen (p := ⟨w.heap.size, 1, none⟩) (by show w.heap.size < W0.heap.size; omega)).trans q0_1
    have x1_0p := (hb1.cell (p := ⟨w.heap.size + 1, 0, none⟩) (by show w.heap.size + 1 < W0.heap.size; omega)).trans z1_0
    have y1_0p := (hb1.frozen (p := ⟨w.heap.size + 1, 0, none⟩) (by show w.heap.size + 1 < W0.heap.size; omega)).trans q1_0
    have x1_1p := (hb1.cell (p := ⟨w.heap.size + 1, 1, none⟩) (by show w.heap.size + 1 < W0.heap.size; omega)).trans z1_1
    have y1_1p := (hb1.frozen (p := ⟨w.heap.size + 1, 1, none⟩) (by show w.heap.size + 1 < W0.heap.size; omega)).trans q1_1
    have x2_0p := (hb1.cell (p := ⟨w.heap.size + 1 + 1, 0, none⟩) (by show w.heap.size + 1 + 1 < W0.heap.size; omega)).trans z2_0
    have y2_0p := (hb1.frozen (p := ⟨w.heap.size + 1 + 1, 0, none⟩) (by show w.heap.size + 1 + 1 < W0.heap.size; omega)).trans q2_0
    have x2_1p := (hb1.cell (p := ⟨w.heap.size + 1 + 1, 1, none⟩) (by show w.heap.size + 1 + 1 < W0.heap.size; omega)).trans z2_1
    have y2_1p := (hb1.frozen (p := ⟨w.heap.size + 1 + 1, 1, none⟩) (by show w.heap.size + 1 + 1 < W0.heap.size; omega)).trans q2_1
    go_wp2_with fail
    refine (nat_sub _ _ lb la _ (g1.to hb1) (g0.to hb1) (by omega) (by omega)).mono ?_
    rintro e w2 ⟨v2, rfl, hv2, hb2⟩
    obtain ⟨a2_, n2_, c2_, rfl, _, _⟩ := hv2.rd.open
    have hb02 := below_step hb1 hb2
    clear x0_0p y0_0p x0_1p y0_1p x1_0p y1_0p x1_1p y1_1p x2_0p y2_0p x2_1p y2_1p
    have x0_0 := (hb02.cell (p := ⟨w.heap.size, 0, none⟩) (by show w.heap.size < W0.heap.size; omega)).trans z0_0
    have y0_0 := (hb02.frozen (p := ⟨w.heap.size, 0, none⟩) (by show w.heap.size < W0.heap.size; omega)).trans q0_0
    have x0_1 := (hb02.cell (p := ⟨w.heap.size, 1, none⟩) (by show w.heap.size < W0.heap.size; omega)).trans z0_1
    have y0_1 := (hb02.frozen (p := ⟨w.heap.size, 1, none⟩) (by show w.heap.size < W0.heap.size; omega)).trans q0_1
    have x1_0 := (hb02.cell (p := ⟨w.heap.size + 1, 0, none⟩) (by show w.heap.size + 1 < W0.heap.size; omega)).trans z1_0
    have y1_0 := (hb02.frozen (p := ⟨w.heap.size + 1, 0, none⟩) (by show w.heap.size + 1 < W0.heap.size; omega)).trans q1_0
    have x1_1 := (hb02.cell (p := ⟨w.heap.size + 1, 1, none⟩) (by show w.heap.size + 1 < W0.heap.size; omega)).trans z1_1
    have y1_1 := (hb02.frozen (p := ⟨w.heap.size + 1, 1, none⟩) (by show w.heap.size + 1 < W0.heap.size; omega)).trans q1_1
    have x2_0 := (hb02.cell (p := ⟨w.heap.size + 1 + 1, 0, none⟩) (by show w.heap.size + 1 + 1 < W0.heap.size; omega)).trans z2_0
    have y2_0 := (hb02.frozen (p := ⟨w.heap.size + 1 + 1, 0, none⟩) (by show w.heap.size + 1 + 1 < W0.heap.size; omega)).trans q2_0
    have x2_1 := (hb02.cell (p := ⟨w.heap.size + 1 + 1, 1, none⟩) (by show w.heap.size + 1 + 1 < W0.heap.size; omega)).trans z2_1
    have y2_1 := (hb02.frozen (p := ⟨w.heap.size + 1 + 1, 1, none⟩) (by show w.heap.size + 1 + 1 < W0.heap.size; omega)).trans q2_1
    go_wp2_with fail
    refine (whole_signed c _ _ _ hv2.rd (by rw [sz_def]; omega)).mono ?_
    rintro e w3 ⟨v3, rfl, hv3, hb3⟩
    obtain ⟨a3_, n3_, c3_, rfl, _, _⟩ := hv3.rd.open
    have hb03 := below_step hb02 hb3
    have x0_0r := (hb03.cell (p := ⟨w.heap.size, 0, none⟩) (by show w.heap.size < W0.heap.size; omega)).trans z0_0
    have y0_0r := (hb03.frozen (p := ⟨w.heap.size, 0, none⟩) (by show w.heap.size < W0.heap.size; omega)).trans q0_0
    have x0_1r := (hb03.cell (p := ⟨w.heap.size, 1, none⟩) (by show w.heap.size < W0.heap.size; omega)).trans z0_1
    have y0_1r := (hb03.frozen (p := ⟨w.heap.size, 1, none⟩) (by show w.heap.size < W0.heap.size; omega)).trans q0_1
    have x1_0r := (hb03.cell (p := ⟨w.heap.size + 1, 0, none⟩) (by show w.heap.size + 1 < W0.heap.size; omega)).trans z1_0
    have y1_0r := (hb03.frozen (p := ⟨w.heap.size + 1, 0, none⟩) (by show w.heap.size + 1 < W0.heap.size; omega)).trans q1_0
    have x1_1r := (hb03.cell (p := ⟨w.heap.size + 1, 1, none⟩) (by show w.heap.size + 1 < W0.heap.size; omega)).trans z1_1
    have y1_1r := (hb03.frozen (p := ⟨w.heap.size + 1, 1, none⟩) (by show w.heap.size + 1 < W0.heap.size; omega)).trans q1_1
    have x2_0r := (hb03.cell (p := ⟨w.heap.size + 1 + 1, 0, none⟩) (by show w.heap.size + 1 + 1 < W0.heap.size; omega)).trans z2_0
    have y2_0r := (hb03.frozen (p := ⟨w.heap.size + 1 + 1, 0, none⟩) (by show w.heap.size + 1 + 1 < W0.heap.size; omega)).trans q2_0
    have x2_1r := (hb03.cell (p := ⟨w.heap.size + 1 + 1, 1, none⟩) (by show w.heap.size + 1 + 1 < W0.heap.size; omega)).trans z2_1
    have y2_1r := (hb03.frozen (p := ⟨w.heap.size + 1 + 1, 1, none⟩) (by show w.heap.size + 1 + 1 < W0.heap.size; omega)).trans q2_1
    generalize hng : decide (sgn c (val (limbs (val lb - val la))) < 0) = ng
    have Hng := Lib.hid hng
    clear hng
    have zs' := zs
    replace hv3 := hv3.mono hb02.size
    go_wp2_with fail
    have e := Hng.out
    subst e
    obtain ⟨k0, k1⟩ := two_cells (x := .bool (decide (sgn c (val (limbs (val lb - val la))) < 0))) (y := .slice a3_ n3_ c3_) x2_0r x2_1r
    exact bodyPost_ret (results_I Try.results68 _ _ _ _ _ rfl k0 k1) rfl (finI zb (by omega) zs' hv3 hb03)

set_option maxRecDepth 100000 in
set_option maxHeartbeats 2000000 in
theorem whole_add (b c : Bool) (va vb : Value) (la lb : List Nat) (w : World) (ha : Rd w va la) (hb : Rd w vb lb) (hla : la.length ≤ 400000) (hlb : lb.length ≤ 400000) :
    Calls Try.prog 35 #[aggI b va, aggI c vb] w (GivesI w (sgn b (val la) + sgn c (val lb))) := by
  have hsa := sz_val ha.1
  have hsb := sz_val hb.1
  have hs := sz_add (val la) (val lb)
  have hm := sz_mul (val la) (val lb)
  have hd1 := sz_sub (val la) (val lb)
  have hd2 := sz_sub (val lb) (val la)
  obtain ⟨a0, n0, c0, rfl, _, _⟩ := ha.open
  obtain ⟨a1, n1, c1, rfl, _, _⟩ := hb.open
  by_cases hbc : b = c
  · subst hbc
    rw [← sgn_same]
    go_enter Try.func35, Try.ntmps35
    go_wp2_with fail
    obtain ⟨W0, hW0⟩ : ∃ W0, (((w.alloc (.cells #[.bool b, .slice a0 n0 c0] 41)).alloc (.cells #[.bool b, .slice a1 n1 c1] 41)).alloc (.cells #[.bool false, .slice none 0 0] 41)).alloc (.cells #[.func (.func 69) #[] #[]] 76) = W0 := ⟨_, rfl⟩
    have z0_0 : W0.cell? ⟨w.heap.size, 0, none⟩ = some (.bool b) := by rw [← hW0]; simp [go_sem]
    have q0_0 : W0.frozen? ⟨w.heap.size, 0, none⟩ = false := by rw [← hW0]; simp [go_sem]
    have z0_1 : W0.cell? ⟨w.heap.size, 1, none⟩ = some (.slice a0 n0 c0) := by rw [← hW0]; simp [go_sem]
    have q0_1 : W0.frozen? ⟨w.heap.size, 1, none⟩ = false := by rw [← hW0]; simp [go_sem]
    have z1_0 : W0.cell? ⟨w.heap.size + 1, 0, none⟩ = some (.bool b) := by rw [← hW0]; simp [go_sem]
    have q1_0 : W0.frozen? ⟨w.heap.size + 1, 0, none⟩ = false := by rw [← hW0]; simp [go_sem]
    have z1_1 : W0.cell? ⟨w.heap.size + 1, 1, none⟩ = some (.slice a1 n1 c1) := by rw [← hW0]; simp [go_sem]
    have q1_1 : W0.frozen? ⟨w.heap.size + 1, 1, none⟩ = false := by rw [← hW0]; simp [go_sem]
    have z2_0 : W0.cell? ⟨w.heap.size + 1 + 1, 0, none⟩ = some (.bool false) := by rw [← hW0]; simp [go_sem]
    have q2_0 : W0.frozen? ⟨w.heap.size + 1 + 1, 0, none⟩ = false := by rw [← hW0]; simp [go_sem]
    have z2_1 : W0.cell? ⟨w.heap.size + 1 + 1, 1, none⟩ = some (.slice none 0 0) := by rw [← hW0]; simp [go_sem]
    have q2_1 : W0.frozen? ⟨w.heap.size + 1 + 1, 1, none⟩ = false := by rw [← hW0]; simp [go_sem]
    have z3_0 : W0.cell? ⟨w.heap.size + 1 + 1 + 1, 0, none⟩ = some (.func (.func 69) #[] #[]) := by rw [← hW0]; simp [go_sem]
    have q3_0 : W0.frozen? ⟨w.heap.size + 1 + 1 + 1, 0, none⟩ = false := by rw [← hW0]; simp [go_sem]
    have zs : w.heap.size + 1 + 1 + 1 < W0.heap.size := by rw [← hW0]; simp
    have zb : Below w.heap.size w W0 := by rw [← hW0]; exact below_step (below_step (below_step (below_new _ _) (below_new _ _)) (below_new _ _)) (below_new _ _)
    rw [hW0]
    clear hW0
    have g0 := ha.to zb
    have g1 := hb.to zb
    have zs' : w.heap.size + 1 + 1 < W0.heap.size := by omega
    refine (whole_alike b b _ _ la lb _ g0 g1 hla hlb).mono ?_
    rintro e w3 ⟨v3, rfl, hv3, hb3⟩
    obtain ⟨a3_, n3_, c3_, rfl, _, _⟩ := hv3.rd.open
    have hb03 := hb3
    have x0_0r := (hb03.cell (p := ⟨w.heap.size, 0, none⟩) (by show w.heap.size < W0.heap.size; omega)).trans z0_0
    have y0_0r := (hb03.frozen (p := ⟨w.heap.size, 0, none⟩) (by show w.heap.size < W0.heap.size; omega)).trans q0_0
    have x0_1r := (hb03.cell (p := ⟨w.heap.size, 1, none⟩) (by show w.heap.size < W0.heap.size; omega)).trans z0_1
    have y0_1r := (hb03.frozen (p := ⟨w.heap.size, 1, none⟩) (by show w.heap.size < W0.heap.size; omega)).trans q0_1
    have x1_0r := (hb03.cell (p := ⟨w.heap.size + 1, 0, none⟩) (by show w.heap.size + 1 < W0.heap.size; omega)).trans z1_0
    have y1_0r := (hb03.frozen (p := ⟨w.heap.size + 1, 0, none⟩) (by show w.heap.size + 1 < W0.heap.size; omega)).trans q1_0
    have x1_1r := (hb03.cell (p := ⟨w.heap.size + 1, 1, none⟩) (by show w.heap.size + 1 < W0.heap.size; omega)).trans z1_1
    have y1_1r := (hb03.frozen (p := ⟨w.heap.size + 1, 1, none⟩) (by show w.heap.size + 1 < W0.heap.size; omega)).trans q1_1
    have x2_0r := (hb03.cell (p := ⟨w.heap.size + 1 + 1, 0, none⟩) (by show w.heap.size + 1 + 1 < W0.heap.size; omega)).trans z2_0
    have y2_0r := (hb03.frozen (p := ⟨w.heap.size + 1 + 1, 0, none⟩) (by show w.heap.size + 1 + 1 < W0.heap.size; omega)).trans q2_0
    have x2_1r := (hb03.cell (p := ⟨w.heap.size + 1 + 1, 1, none⟩) (by show w.heap.size + 1 + 1 < W0.heap.size; omega)).trans z2_1
    have y2_1r := (hb03.frozen (p := ⟨w.heap.size + 1 + 1, 1, none⟩) (by show w.heap.size + 1 + 1 < W0.heap.size; omega)).trans q2_1
    have x3_0r := (hb03.cell (p := ⟨w.heap.size + 1 + 1 + 1, 0, none⟩) (by show w.heap.size + 1 + 1 + 1 < W0.heap.size; omega)).trans z3_0
    have y3_0r := (hb03.frozen (p := ⟨w.heap.size + 1 + 1 + 1, 0, none⟩) (by show w.heap.size + 1 + 1 + 1 < W0.heap.size; omega)).trans q3_0
    generalize hng : decide (sgn b (val la + val lb) < 0) = ng
    have Hng := Lib.hid hng
    clear hng
    go_wp2_with fail
    have e := Hng.out
    subst e
    obtain ⟨k0, k1⟩ := two_cells (x := .bool (decide (sgn b (val la + val lb) < 0))) (y := .slice a3_ n3_ c3_) x2_0r x2_1r
    exact bodyPost_ret (results_I Try.results35 _ _ _ _ _ rfl k0 k1) rfl (finI zb (by omega) zs' hv3 hb03)
  · have hbe : (b == c) = false := beq_eq_false_iff_ne.2 hbc
    go_enter Try.func35, Try.ntmps35
    go_wp2_with fail
    obtain ⟨W0, hW0⟩ : ∃ W0, (((w.alloc (.cells #[.bool b, .slice a0 n0 c0] 41)).alloc (.cells #[.bool c, .slice a1 n1 c1] 41)).alloc (.cells #[.bool false, .slice none 0 0] 41)).alloc (.cells #[.func (.func 68) #[] #[]] 76) = W0 := ⟨_, rfl⟩
    have z0_0 : W0.cell? ⟨w.heap.size, 0, none⟩ = some (.bool b) := by rw [← hW0]; simp [go_sem]
    have q0_0 : W0.frozen? ⟨w.heap.size, 0, none⟩ = false := by rw [← hW0]; simp [go_sem]
    have z0_1 : W0.cell? ⟨w.heap.size, 1, none⟩ = some (.slice a0 n0 c0) := by rw [← hW0]; simp [go_sem]
    have q0_1 : W0.frozen? ⟨w.heap.size, 1, none⟩ = false := by rw [← hW0]; simp [go_sem]
    have z1_0 : W0.cell? ⟨w.heap.size + 1, 0, none⟩ = some (.bool c) := by rw [← hW0]; simp [go_sem]
    have q1_0 : W0.frozen? ⟨w.heap.size + 1, 0, none⟩ = false := by rw [← hW0]; simp [go_sem]
    have z1_1 : W0.cell? ⟨w.heap.size + 1, 1, none⟩ = some (.slice a1 n1 c1) := by rw [← hW0]; simp [go_sem]
    have q1_1 : W0.frozen? ⟨w.heap.size + 1, 1, none⟩ = false := by rw [← hW0]; simp [go_sem]
    have z2_0 : W0.cell? ⟨w.heap.size + 1 + 1, 0, none⟩ = some (.bool false) := by rw [← hW0]; simp [go_sem]
    have q2_0 : W0.frozen? ⟨w.heap.size + 1 + 1, 0, none⟩ = false := by rw [← hW0]; simp [go_sem]
    have z2_1 : W0.cell? ⟨w.heap.size + 1 + 1, 1, none⟩ = some (.slice none 0 0) := by rw [← hW0]; simp [go_sem]
    have q2_1 : W0.frozen? ⟨w.heap.size + 1 + 1, 1, none⟩ = false := by rw [← hW0]; simp [go_sem]
    have z3_0 : W0.cell? ⟨w.heap.size + 1 + 1 + 1, 0, none⟩ = some (.func (.func 68) #[] #[]) := by rw [← hW0]; simp [go_sem]
    have q3_0 : W0.frozen? ⟨w.heap.size + 1 + 1 + 1, 0, none⟩ = false := by rw [← hW0]; simp [go_sem]
    have zs : w.heap.size + 1 + 1 + 1 < W0.heap.size := by rw [← hW0]; simp
    have zb : Below w.heap.size w W0 := by rw [← hW0]; exact below_step (below_step (below_step (below_new _ _) (below_new _ _)) (below_new _ _)) (below_new _ _)
    rw [hW0]
    clear hW0
    have g0 := ha.to zb
    have g1 := hb.to zb
    have zs' : w.heap.size + 1 + 1 < W0.heap.size := by omega
    refine (whole_unlike b c _ _ la lb _ g0 g1 hla hlb hbc).mono ?_
    rintro e w3 ⟨v3, rfl, hv3, hb3⟩
    obtain ⟨a3_, n3_, c3_, rfl, _, _⟩ := hv3.rd.open
    have hb03 := hb3
    have x0_0r := (hb03.cell (p := ⟨w.heap.size, 0, none⟩) (by show w.heap.size < W0.heap.size; omega)).trans z0_0
    have y0_0r := (hb03.frozen (p := ⟨w.heap.size, 0, none⟩) (by show w.heap.size < W0.heap.size; omega)).trans q0_0
    have x0_1r := (hb03.cell (p := ⟨w.heap.size, 1, none⟩) (by show w.heap.size < W0.heap.size; omega)).trans z0_1
    have y0_1r := (hb03.frozen (p := ⟨w.heap.size, 1, none⟩) (by show w.heap.size < W0.heap.size; omega)).trans q0_1
    have x1_0r := (hb03.cell (p := ⟨w.heap.size + 1, 0, none⟩) (by show w.heap.size + 1 < W0.heap.size; omega)).trans z1_0
    have y1_0r := (hb03.frozen (p := ⟨w.heap.size + 1, 0, none⟩) (by show w.heap.size + 1 < W0.heap.size; omega)).trans q1_0
    have x1_1r := (hb03.cell (p := ⟨w.heap.size + 1, 1, none⟩) (by show w.heap.size + 1 < W0.heap.size; omega)).trans z1_1
    have y1_1r := (hb03.frozen (p := ⟨w.heap.size + 1, 1, none⟩) (by show w.heap.size + 1 < W0.heap.size; omega)).trans q1_1
    have x2_0r := (hb03.cell (p := ⟨w.heap.size + 1 + 1, 0, none⟩) (by show w.heap.size + 1 + 1 < W0.heap.size; omega)).trans z2_0
    have y2_0r := (hb03.frozen (p := ⟨w.heap.size + 1 + 1, 0, none⟩) (by show w.heap.size + 1 + 1 < W0.heap.size; omega)).trans q2_0
    have x2_1r := (hb03.cell (p := ⟨w.heap.size + 1 + 1, 1, none⟩) (by show w.heap.size + 1 + 1 < W0.heap.size; omega)).trans z2_1
    have y2_1r := (hb03.frozen (p := ⟨w.heap.size + 1 + 1, 1, none⟩) (by show w.heap.size + 1 + 1 < W0.heap.size; omega)).trans q2_1
    have x3_0r := (hb03.cell (p := ⟨w.heap.size + 1 + 1 + 1, 0, none⟩) (by show w.heap.size + 1 + 1 + 1 < W0.heap.size; omega)).trans z3_0
    have y3_0r := (hb03.frozen (p := ⟨w.heap.size + 1 + 1 + 1, 0, none⟩) (by show w.heap.size + 1 + 1 + 1 < W0.heap.size; omega)).trans q3_0
    generalize hng : decide (sgn b (val la) + sgn c (val lb) < 0) = ng
    have Hng := Lib.hid hng
    clear hng
    go_wp2_with fail
    have e := Hng.out
    subst e
    obtain ⟨k0, k1⟩ := two_cells (x := .bool (decide (sgn b (val la) + sgn c (val lb) < 0))) (y := .slice a3_ n3_ c3_) x2_0r x2_1r
    exact bodyPost_ret (results_I Try.results35 _ _ _ _ _ rfl k0 k1) rfl (finI zb (by omega) zs' hv3 hb03)

end Go.Proofs.Yteokdkcanckfeaa
