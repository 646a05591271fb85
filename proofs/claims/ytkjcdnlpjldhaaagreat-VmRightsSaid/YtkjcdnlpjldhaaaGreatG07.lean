/-
  The texts Whole2, Whole3, Whole4, Ref7, Ref7b, merged.
-/
import Derived.Test.YtkjcdnlpjldhaaaGreatG06
import Derived.Deep.DrawnRows
import Derived.Laws.EntriesVeiled
import Derived.Test.YtkjcdnlpjldhaaaGreatG05
namespace Go.Proofs.YtkjcdnlpjldhaaaGreat
open Go.RowKit Tw
set_option linter.unusedVariables false
set_option linter.unusedSimpArgs false
attribute [local go_sem ↓] Go.wp_at_zero Go.wp_at_succ

set_option maxRecDepth 100000 in
set_option maxHeartbeats 8000000 in
theorem whole_alike (b c : Bool) (va vb : Value) (la lb : List Nat) (w : World) (ha : Rd w va la) (hb : Rd w vb lb) (hla : la.length ≤ 400000) (hlb : lb.length ≤ 400000) :
    Calls Tryz.prog 159 #[aggI b va, aggI c vb] w (GivesI w (sgn b (val la + val lb))) := by
  have hsa := sz_val ha.1
  have hsb := sz_val hb.1
  have hs := sz_add (val la) (val lb)
  have hm := sz_mul (val la) (val lb)
  have hd1 := sz_sub (val la) (val lb)
  have hd2 := sz_sub (val lb) (val la)
  rw [show sgn b (val la + val lb) = sgn b (val (limbs (val la + val lb))) by rw [val_limbs]]
  obtain ⟨a0, n0, c0, rfl, _, _⟩ := ha.open
  obtain ⟨a1, n1, c1, rfl, _, _⟩ := hb.open
  go_enter Tryz.func159, Tryz.ntmps159
  go_wp2_with fail
  obtain ⟨W0, hW0⟩ : ∃ W0, ((w.alloc (.cells #[.bool b, .slice a0 n0 c0] 95)).alloc (.cells #[.bool c, .slice a1 n1 c1] 95)).alloc (.cells #[.bool false, .slice none 0 0] 95) = W0 := ⟨_, rfl⟩
  have z0_0 : W0.cell? ⟨w.heap.size, 0, none⟩ = some (.bool b) := by rw [← hW0]; simp [go_sem]
  have q0_0 : W0.frozen? ⟨w.heap.size, 0, none⟩ = false := by rw [← hW0]; simp [go_sem]
  have z0_1 : W0.cell? ⟨w.heap.size, 1, none⟩ = some (.slice a0 n0 c0) := by rw [← hW0]; simp [go_sem]
  have q0_1 : W0.frozen? ⟨w.heap.size, 1, none⟩ = false := by rw [← hW0]; simp [go_sem]
  have z1_0 : W0.cell? ⟨w.heap.size + 1, 0, none⟩ = some (.bool c) := by rw [← hW0]; simp [go_sem]
  have q1_0 : W0.frozen? ⟨w.heap.size + 1, 0, none⟩ = false := by rw [← hW0]; simp [go_sem]
  have z1_1 : W0.cell? ⟨w.heap.size + 1, 1, none⟩ = some (.slice a1 n1 c1) := by rw [← hW0]; simp [go_sem]
  have q1_1 : W0.frozen? ⟨w.heap.size + 1, 1, none⟩ = false := by rw [← hW0]; simp [go_sem]
  have z2_0 : W0.cell? ⟨w.heap.size + 1 + 1, 0, none⟩ = some (.bool false) := by rw [← hW0]; simp [go_sem]
  have q2_0 : W0.frozen? ⟨w.heap.size + 1 + 1, 0, none⟩ = false := by rw [← hW0]; simp [go_sem]
  have z2_1 : W0.cell? ⟨w.heap.size + 1 + 1, 1, none⟩ = some (.slice none 0 0) := by rw [← hW0]; simp [go_sem]
  have q2_1 : W0.frozen? ⟨w.heap.size + 1 + 1, 1, none⟩ = false := by rw [← hW0]; simp [go_sem]
  have zs : w.heap.size + 1 + 1 < W0.heap.size := by rw [← hW0]; simp
  have zb : Below w.heap.size w W0 := by rw [← hW0]; exact below_step (below_step (below_new _ _) (below_new _ _)) (below_new _ _)
  rw [hW0]
  clear hW0
  have g0 := ha.to zb
  have g1 := hb.to zb
  go_region_with (first
    | (go_at_call 88; refine (nat_add _ _ la lb _ g0.drew g1.drew (by omega) (by omega)).mono ?_; rintro e w2 ⟨v2, rfl, hv2, hb2⟩; obtain ⟨a2_, n2_, c2_, rfl, _, _⟩ := hv2.rd.open; have x0_0 := (hb2.cell (p := ⟨w.heap.size, 0, none⟩) (by show w.heap.size < W0.heap.size; omega)).trans z0_0; have y0_0 := (hb2.frozen (p := ⟨w.heap.size, 0, none⟩) (by show w.heap.size < W0.heap.size; omega)).trans q0_0; have x0_1 := (hb2.cell (p := ⟨w.heap.size, 1, none⟩) (by show w.heap.size < W0.heap.size; omega)).trans z0_1; have y0_1 := (hb2.frozen (p := ⟨w.heap.size, 1, none⟩) (by show w.heap.size < W0.heap.size; omega)).trans q0_1; have x1_0 := (hb2.cell (p := ⟨w.heap.size + 1, 0, none⟩) (by show w.heap.size + 1 < W0.heap.size; omega)).trans z1_0; have y1_0 := (hb2.frozen (p := ⟨w.heap.size + 1, 0, none⟩) (by show w.heap.size + 1 < W0.heap.size; omega)).trans q1_0; have x1_1 := (hb2.cell (p := ⟨w.heap.size + 1, 1, none⟩) (by show w.heap.size + 1 < W0.heap.size; omega)).trans z1_1; have y1_1 := (hb2.frozen (p := ⟨w.heap.size + 1, 1, none⟩) (by show w.heap.size + 1 < W0.heap.size; omega)).trans q1_1; have x2_0 := (hb2.cell (p := ⟨w.heap.size + 1 + 1, 0, none⟩) (by show w.heap.size + 1 + 1 < W0.heap.size; omega)).trans z2_0; have y2_0 := (hb2.frozen (p := ⟨w.heap.size + 1 + 1, 0, none⟩) (by show w.heap.size + 1 + 1 < W0.heap.size; omega)).trans q2_0; have x2_1 := (hb2.cell (p := ⟨w.heap.size + 1 + 1, 1, none⟩) (by show w.heap.size + 1 + 1 < W0.heap.size; omega)).trans z2_1; have y2_1 := (hb2.frozen (p := ⟨w.heap.size + 1 + 1, 1, none⟩) (by show w.heap.size + 1 + 1 < W0.heap.size; omega)).trans q2_1)
    | (go_at_call 87; refine (whole_signed b _ _ _ hv2.rd (by rw [sz_def]; omega)).mono ?_; rintro e w3 ⟨v3, rfl, hv3, hb3⟩; obtain ⟨a3_, n3_, c3_, rfl, _, _⟩ := hv3.rd.open; have hb03 := below_step hb2 hb3; have x0_0r := (hb03.cell (p := ⟨w.heap.size, 0, none⟩) (by show w.heap.size < W0.heap.size; omega)).trans z0_0; have y0_0r := (hb03.frozen (p := ⟨w.heap.size, 0, none⟩) (by show w.heap.size < W0.heap.size; omega)).trans q0_0; have x0_1r := (hb03.cell (p := ⟨w.heap.size, 1, none⟩) (by show w.heap.size < W0.heap.size; omega)).trans z0_1; have y0_1r := (hb03.frozen (p := ⟨w.heap.size, 1, none⟩) (by show w.heap.size < W0.heap.size; omega)).trans q0_1; have x1_0r := (hb03.cell (p := ⟨w.heap.size + 1, 0, none⟩) (by show w.heap.size + 1 < W0.heap.size; omega)).trans z1_0; have y1_0r := (hb03.frozen (p := ⟨w.heap.size + 1, 0, none⟩) (by show w.heap.size + 1 < W0.heap.size; omega)).trans q1_0; have x1_1r := (hb03.cell (p := ⟨w.heap.size + 1, 1, none⟩) (by show w.heap.size + 1 < W0.heap.size; omega)).trans z1_1; have y1_1r := (hb03.frozen (p := ⟨w.heap.size + 1, 1, none⟩) (by show w.heap.size + 1 < W0.heap.size; omega)).trans q1_1; have x2_0r := (hb03.cell (p := ⟨w.heap.size + 1 + 1, 0, none⟩) (by show w.heap.size + 1 + 1 < W0.heap.size; omega)).trans z2_0; have y2_0r := (hb03.frozen (p := ⟨w.heap.size + 1 + 1, 0, none⟩) (by show w.heap.size + 1 + 1 < W0.heap.size; omega)).trans q2_0; have x2_1r := (hb03.cell (p := ⟨w.heap.size + 1 + 1, 1, none⟩) (by show w.heap.size + 1 + 1 < W0.heap.size; omega)).trans z2_1; have y2_1r := (hb03.frozen (p := ⟨w.heap.size + 1 + 1, 1, none⟩) (by show w.heap.size + 1 + 1 < W0.heap.size; omega)).trans q2_1; generalize hng : decide (sgn b (val (limbs (val la + val lb))) < 0) = ng; have Hng := Lib.hid hng; clear hng))
  all_goals
    go_wp2_with fail
    have zs' : w.heap.size + 1 + 1 < W0.drew.heap.size := zs
    replace zb : Below w.heap.size w W0.drew := zb.drew
    have e := Hng.out
    subst e
    obtain ⟨k0, k1⟩ := two_cells (x := .bool (decide (sgn b (val (limbs (val la + val lb))) < 0))) (y := .slice a3_ n3_ c3_) x2_0r x2_1r
    exact bodyPost_ret (results_I Tryz.results159 _ _ _ _ _ rfl k0 k1) rfl (finI zb (by omega) zs' (hv3.mono hb2.size) hb03)

set_option maxRecDepth 100000 in
set_option maxHeartbeats 16000000 in
theorem whole_mul (b c : Bool) (va vb : Value) (la lb : List Nat) (w : World) (ha : Rd w va la) (hb : Rd w vb lb) (hla : la.length ≤ 400000) (hlb : lb.length ≤ 400000) :
    Calls Tryz.prog 144 #[aggI b va, aggI c vb] w (GivesI w (sgn b (val la) * sgn c (val lb))) := by
  have hsa := sz_val ha.1
  have hsb := sz_val hb.1
  have hs := sz_add (val la) (val lb)
  have hm := sz_mul (val la) (val lb)
  have hd1 := sz_sub (val la) (val lb)
  have hd2 := sz_sub (val lb) (val la)
  rw [← sgn_mul, show sgn (b != c) (val la * val lb) = sgn (b != c) (val (limbs (val la * val lb))) by rw [val_limbs]]
  obtain ⟨a0, n0, c0, rfl, _, _⟩ := ha.open
  obtain ⟨a1, n1, c1, rfl, _, _⟩ := hb.open
  go_enter Tryz.func144, Tryz.ntmps144
  go_wp2_with fail
  obtain ⟨W0, hW0⟩ : ∃ W0, ((w.alloc (.cells #[.bool b, .slice a0 n0 c0] 95)).alloc (.cells #[.bool c, .slice a1 n1 c1] 95)).alloc (.cells #[.bool false, .slice none 0 0] 95) = W0 := ⟨_, rfl⟩
  have z0_0 : W0.cell? ⟨w.heap.size, 0, none⟩ = some (.bool b) := by rw [← hW0]; simp [go_sem]
  have q0_0 : W0.frozen? ⟨w.heap.size, 0, none⟩ = false := by rw [← hW0]; simp [go_sem]
  have z0_1 : W0.cell? ⟨w.heap.size, 1, none⟩ = some (.slice a0 n0 c0) := by rw [← hW0]; simp [go_sem]
  have q0_1 : W0.frozen? ⟨w.heap.size, 1, none⟩ = false := by rw [← hW0]; simp [go_sem]
  have z1_0 : W0.cell? ⟨w.heap.size + 1, 0, none⟩ = some (.bool c) := by rw [← hW0]; simp [go_sem]
  have q1_0 : W0.frozen? ⟨w.heap.size + 1, 0, none⟩ = false := by rw [← hW0]; simp [go_sem]
  have z1_1 : W0.cell? ⟨w.heap.size + 1, 1, none⟩ = some (.slice a1 n1 c1) := by rw [← hW0]; simp [go_sem]
  have q1_1 : W0.frozen? ⟨w.heap.size + 1, 1, none⟩ = false := by rw [← hW0]; simp [go_sem]
  have z2_0 : W0.cell? ⟨w.heap.size + 1 + 1, 0, none⟩ = some (.bool false) := by rw [← hW0]; simp [go_sem]
  have q2_0 : W0.frozen? ⟨w.heap.size + 1 + 1, 0, none⟩ = false := by rw [← hW0]; simp [go_sem]
  have z2_1 : W0.cell? ⟨w.heap.size + 1 + 1, 1, none⟩ = some (.slice none 0 0) := by rw [← hW0]; simp [go_sem]
  have q2_1 : W0.frozen? ⟨w.heap.size + 1 + 1, 1, none⟩ = false := by rw [← hW0]; simp [go_sem]
  have zs : w.heap.size + 1 + 1 < W0.heap.size := by rw [← hW0]; simp
  have zb : Below w.heap.size w W0 := by rw [← hW0]; exact below_step (below_step (below_new _ _) (below_new _ _)) (below_new _ _)
  rw [hW0]
  clear hW0
  have g0 := ha.to zb
  have g1 := hb.to zb
  go_region_with (first
    | (go_at_call 147; refine (times_mul _ _ la lb _ g0.drew g1.drew (by omega) (by omega)).mono ?_; rintro e w2 ⟨v2, rfl, hv2, hb2⟩; obtain ⟨a2_, n2_, c2_, rfl, _, _⟩ := hv2.rd.open; have x0_0 := (hb2.cell (p := ⟨w.heap.size, 0, none⟩) (by show w.heap.size < W0.heap.size; omega)).trans z0_0; have y0_0 := (hb2.frozen (p := ⟨w.heap.size, 0, none⟩) (by show w.heap.size < W0.heap.size; omega)).trans q0_0; have x0_1 := (hb2.cell (p := ⟨w.heap.size, 1, none⟩) (by show w.heap.size < W0.heap.size; omega)).trans z0_1; have y0_1 := (hb2.frozen (p := ⟨w.heap.size, 1, none⟩) (by show w.heap.size < W0.heap.size; omega)).trans q0_1; have x1_0 := (hb2.cell (p := ⟨w.heap.size + 1, 0, none⟩) (by show w.heap.size + 1 < W0.heap.size; omega)).trans z1_0; have y1_0 := (hb2.frozen (p := ⟨w.heap.size + 1, 0, none⟩) (by show w.heap.size + 1 < W0.heap.size; omega)).trans q1_0; have x1_1 := (hb2.cell (p := ⟨w.heap.size + 1, 1, none⟩) (by show w.heap.size + 1 < W0.heap.size; omega)).trans z1_1; have y1_1 := (hb2.frozen (p := ⟨w.heap.size + 1, 1, none⟩) (by show w.heap.size + 1 < W0.heap.size; omega)).trans q1_1; have x2_0 := (hb2.cell (p := ⟨w.heap.size + 1 + 1, 0, none⟩) (by show w.heap.size + 1 + 1 < W0.heap.size; omega)).trans z2_0; have y2_0 := (hb2.frozen (p := ⟨w.heap.size + 1 + 1, 0, none⟩) (by show w.heap.size + 1 + 1 < W0.heap.size; omega)).trans q2_0; have x2_1 := (hb2.cell (p := ⟨w.heap.size + 1 + 1, 1, none⟩) (by show w.heap.size + 1 + 1 < W0.heap.size; omega)).trans z2_1; have y2_1 := (hb2.frozen (p := ⟨w.heap.size + 1 + 1, 1, none⟩) (by show w.heap.size + 1 + 1 < W0.heap.size; omega)).trans q2_1)
    | (go_at_call 87; refine (whole_signed (b != c) _ _ _ hv2.rd (by rw [sz_def]; omega)).mono ?_; rintro e w3 ⟨v3, rfl, hv3, hb3⟩; obtain ⟨a3_, n3_, c3_, rfl, _, _⟩ := hv3.rd.open; have hb03 := below_step hb2 hb3; have x0_0r := (hb03.cell (p := ⟨w.heap.size, 0, none⟩) (by show w.heap.size < W0.heap.size; omega)).trans z0_0; have y0_0r := (hb03.frozen (p := ⟨w.heap.size, 0, none⟩) (by show w.heap.size < W0.heap.size; omega)).trans q0_0; have x0_1r := (hb03.cell (p := ⟨w.heap.size, 1, none⟩) (by show w.heap.size < W0.heap.size; omega)).trans z0_1; have y0_1r := (hb03.frozen (p := ⟨w.heap.size, 1, none⟩) (by show w.heap.size < W0.heap.size; omega)).trans q0_1; have x1_0r := (hb03.cell (p := ⟨w.heap.size + 1, 0, none⟩) (by show w.heap.size + 1 < W0.heap.size; omega)).trans z1_0; have y1_0r := (hb03.frozen (p := ⟨w.heap.size + 1, 0, none⟩) (by show w.heap.size + 1 < W0.heap.size; omega)).trans q1_0; have x1_1r := (hb03.cell (p := ⟨w.heap.size + 1, 1, none⟩) (by show w.heap.size + 1 < W0.heap.size; omega)).trans z1_1; have y1_1r := (hb03.frozen (p := ⟨w.heap.size + 1, 1, none⟩) (by show w.heap.size + 1 < W0.heap.size; omega)).trans q1_1; have x2_0r := (hb03.cell (p := ⟨w.heap.size + 1 + 1, 0, none⟩) (by show w.heap.size + 1 + 1 < W0.heap.size; omega)).trans z2_0; have y2_0r := (hb03.frozen (p := ⟨w.heap.size + 1 + 1, 0, none⟩) (by show w.heap.size + 1 + 1 < W0.heap.size; omega)).trans q2_0; have x2_1r := (hb03.cell (p := ⟨w.heap.size + 1 + 1, 1, none⟩) (by show w.heap.size + 1 + 1 < W0.heap.size; omega)).trans z2_1; have y2_1r := (hb03.frozen (p := ⟨w.heap.size + 1 + 1, 1, none⟩) (by show w.heap.size + 1 + 1 < W0.heap.size; omega)).trans q2_1; generalize hng : decide (sgn (b != c) (val (limbs (val la * val lb))) < 0) = ng; have Hng := Lib.hid hng; clear hng))
  all_goals
    go_wp2_with fail
    have zs' : w.heap.size + 1 + 1 < W0.drew.heap.size := zs
    replace zb : Below w.heap.size w W0.drew := zb.drew
    have e := Hng.out
    subst e
    obtain ⟨k0, k1⟩ := two_cells (x := .bool (decide (sgn (b != c) (val (limbs (val la * val lb))) < 0))) (y := .slice a3_ n3_ c3_) x2_0r x2_1r
    exact bodyPost_ret (results_I Tryz.results144 _ _ _ _ _ rfl k0 k1) rfl (finI zb (by omega) zs' (hv3.mono hb2.size) hb03)

end Go.Proofs.YtkjcdnlpjldhaaaGreat


namespace Go.Proofs.YtkjcdnlpjldhaaaGreat
open Go.RowKit Tw
set_option linter.unusedVariables false
set_option linter.unusedSimpArgs false
attribute [local go_sem ↓] Go.wp_at_zero Go.wp_at_succ

set_option maxRecDepth 100000 in
set_option maxHeartbeats 2000000 in
theorem whole_unlike (b c : Bool) (va vb : Value) (la lb : List Nat) (w : World) (ha : Rd w va la) (hb : Rd w vb lb) (hla : la.length ≤ 400000) (hlb : lb.length ≤ 400000) (hbc : b ≠ c) :
    Calls Tryz.prog 158 #[aggI b va, aggI c vb] w (GivesI w (sgn b (val la) + sgn c (val lb))) := by
  have hsa := sz_val ha.1
  have hsb := sz_val hb.1
  have hs := sz_add (val la) (val lb)
  have hm := sz_mul (val la) (val lb)
  have hd1 := sz_sub (val la) (val lb)
  have hd2 := sz_sub (val lb) (val la)
  obtain ⟨a0, n0, c0, rfl, _, _⟩ := ha.open
  obtain ⟨a1, n1, c1, rfl, _, _⟩ := hb.open
  by_cases hle : val lb ≤ val la
  · rw [← sgn_less hbc hle, show sgn b (val la - val lb) = sgn b (val (limbs (val la - val lb))) by rw [val_limbs]]
    go_enter Tryz.func158, Tryz.ntmps158
    go_wp2_with fail
    obtain ⟨W0, hW0⟩ : ∃ W0, ((w.alloc (.cells #[.bool b, .slice a0 n0 c0] 95)).alloc (.cells #[.bool c, .slice a1 n1 c1] 95)).alloc (.cells #[.bool false, .slice none 0 0] 95) = W0 := ⟨_, rfl⟩
    have z0_0 : W0.cell? ⟨w.heap.size, 0, none⟩ = some (.bool b) := by rw [← hW0]; simp [go_sem]
    have q0_0 : W0.frozen? ⟨w.heap.size, 0, none⟩ = false := by rw [← hW0]; simp [go_sem]
    have z0_1 : W0.cell? ⟨w.heap.size, 1, none⟩ = some (.slice a0 n0 c0) := by rw [← hW0]; simp [go_sem]
    have q0_1 : W0.frozen? ⟨w.heap.size, 1, none⟩ = false := by rw [← hW0]; simp [go_sem]
    have z1_0 : W0.cell? ⟨w.heap.size + 1, 0, none⟩ = some (.bool c) := by rw [← hW0]; simp [go_sem]
    have q1_0 : W0.frozen? ⟨w.heap.size + 1, 0, none⟩ = false := by rw [← hW0]; simp [go_sem]
    have z1_1 : W0.cell? ⟨w.heap.size + 1, 1, none⟩ = some (.slice a1 n1 c1) := by rw [← hW0]; simp [go_sem]
    have q1_1 : W0.frozen? ⟨w.heap.size + 1, 1, none⟩ = false := by rw [← hW0]; simp [go_sem]
    have z2_0 : W0.cell? ⟨w.heap.size + 1 + 1, 0, none⟩ = some (.bool false) := by rw [← hW0]; simp [go_sem]
    have q2_0 : W0.frozen? ⟨w.heap.size + 1 + 1, 0, none⟩ = false := by rw [← hW0]; simp [go_sem]
    have z2_1 : W0.cell? ⟨w.heap.size + 1 + 1, 1, none⟩ = some (.slice none 0 0) := by rw [← hW0]; simp [go_sem]
    have q2_1 : W0.frozen? ⟨w.heap.size + 1 + 1, 1, none⟩ = false := by rw [← hW0]; simp [go_sem]
    have zs : w.heap.size + 1 + 1 < W0.heap.size := by rw [← hW0]; simp
    have zb : Below w.heap.size w W0 := by rw [← hW0]; exact below_step (below_step (below_new _ _) (below_new _ _)) (below_new _ _)
    rw [hW0]
    clear hW0
    have g0 := ha.to zb
    have g1 := hb.to zb
    refine (nat_sub _ _ la lb _ g0 g1 (by omega) hle).mono ?_
    rintro e w2 ⟨v2, rfl, hv2, hb2⟩
    obtain ⟨a2_, n2_, c2_, rfl, _, _⟩ := hv2.rd.open
    have x0_0 := (hb2.cell (p := ⟨w.heap.size, 0, none⟩) (by show w.heap.size < W0.heap.size; omega)).trans z0_0
    have y0_0 := (hb2.frozen (p := ⟨w.heap.size, 0, none⟩) (by show w.heap.size < W0.heap.size; omega)).trans q0_0
    have x0_1 := (hb2.cell (p := ⟨w.heap.size, 1, none⟩) (by show w.heap.size < W0.heap.size; omega)).trans z0_1
    have y0_1 := (hb2.frozen (p := ⟨w.heap.size, 1, none⟩) (by show w.heap.size < W0.heap.size; omega)).trans q0_1
    have x1_0 := (hb2.cell (p := ⟨w.heap.size + 1, 0, none⟩) (by show w.heap.size + 1 < W0.heap.size; omega)).trans z1_0
    have y1_0 := (hb2.frozen (p := ⟨w.heap.size + 1, 0, none⟩) (by show w.heap.size + 1 < W0.heap.size; omega)).trans q1_0
    have x1_1 := (hb2.cell (p := ⟨w.heap.size + 1, 1, none⟩) (by show w.heap.size + 1 < W0.heap.size; omega)).trans z1_1
    have y1_1 := (hb2.frozen (p := ⟨w.heap.size + 1, 1, none⟩) (by show w.heap.size + 1 < W0.heap.size; omega)).trans q1_1
    have x2_0 := (hb2.cell (p := ⟨w.heap.size + 1 + 1, 0, none⟩) (by show w.heap.size + 1 + 1 < W0.heap.size; omega)).trans z2_0
    have y2_0 := (hb2.frozen (p := ⟨w.heap.size + 1 + 1, 0, none⟩) (by show w.heap.size + 1 + 1 < W0.heap.size; omega)).trans q2_0
    have x2_1 := (hb2.cell (p := ⟨w.heap.size + 1 + 1, 1, none⟩) (by show w.heap.size + 1 + 1 < W0.heap.size; omega)).trans z2_1
    have y2_1 := (hb2.frozen (p := ⟨w.heap.size + 1 + 1, 1, none⟩) (by show w.heap.size + 1 + 1 < W0.heap.size; omega)).trans q2_1
    go_wp2_with fail
    refine (whole_signed b _ _ _ hv2.rd (by rw [sz_def]; omega)).mono ?_
    rintro e w3 ⟨v3, rfl, hv3, hb3⟩
    obtain ⟨a3_, n3_, c3_, rfl, _, _⟩ := hv3.rd.open
    have hb03 := below_step hb2 hb3
    have x0_0r := (hb03.cell (p := ⟨w.heap.size, 0, none⟩) (by show w.heap.size < W0.heap.size; omega)).trans z0_0
    have y0_0r := (hb03.frozen (p := ⟨w.heap.size, 0, none⟩) (by show w.heap.size < W0.heap.size; omega)).trans q0_0
    have x0_1r := (hb03.cell (p := ⟨w.heap.size, 1, none⟩) (by show w.heap.size < W0.heap.size; omega)).trans z0_1
    have y0_1r := (hb03.frozen (p := ⟨w.heap.size, 1, none⟩) (by show w.heap.size < W0.heap.size; omega)).trans q0_1
    have x1_0r := (hb03.cell (p := ⟨w.heap.size + 1, 0, none⟩) (by show w.heap.size + 1 < W0.heap.size; omega)).trans z1_0
    have y1_0r := (hb03.frozen (p := ⟨w.heap.size + 1, 0, none⟩) (by show w.heap.size + 1 < W0.heap.size; omega)).trans q1_0
    have x1_1r := (hb03.cell (p := ⟨w.heap.size + 1, 1, none⟩) (by show w.heap.size + 1 < W0.heap.size; omega)).trans z1_1
    have y1_1r := (hb03.frozen (p := ⟨w.heap.size + 1, 1, none⟩) (by show w.heap.size + 1 < W0.heap.size; omega)).trans q1_1
    have x2_0r := (hb03.cell (p := ⟨w.heap.size + 1 + 1, 0, none⟩) (by show w.heap.size + 1 + 1 < W0.heap.size; omega)).trans z2_0
    have y2_0r := (hb03.frozen (p := ⟨w.heap.size + 1 + 1, 0, none⟩) (by show w.heap.size + 1 + 1 < W0.heap.size; omega)).trans q2_0
    have x2_1r := (hb03.cell (p := ⟨w.heap.size + 1 + 1, 1, none⟩) (by show w.heap.size + 1 + 1 < W0.heap.size; omega)).trans z2_1
    have y2_1r := (hb03.frozen (p := ⟨w.heap.size + 1 + 1, 1, none⟩) (by show w.heap.size + 1 + 1 < W0.heap.size; omega)).trans q2_1
    generalize hng : decide (sgn b (val (limbs (val la - val lb))) < 0) = ng
    have Hng := Lib.hid hng
    clear hng
    have zs' := zs
    replace hv3 := hv3.mono hb2.size
    go_wp2_with fail
    have e := Hng.out
    subst e
    obtain ⟨k0, k1⟩ := two_cells (x := .bool (decide (sgn b (val (limbs (val la - val lb))) < 0))) (y := .slice a3_ n3_ c3_) x2_0r x2_1r
    exact bodyPost_ret (results_I Tryz.results158 _ _ _ _ _ rfl k0 k1) rfl (finI zb (by omega) zs' hv3 hb03)
  · have hlt : val la < val lb := by omega
    rw [← sgn_more hbc hlt, show sgn c (val lb - val la) = sgn c (val (limbs (val lb - val la))) by rw [val_limbs]]
    go_enter Tryz.func158, Tryz.ntmps158
    go_wp2_with fail
    obtain ⟨W0, hW0⟩ : ∃ W0, ((w.alloc (.cells #[.bool b, .slice a0 n0 c0] 95)).alloc (.cells #[.bool c, .slice a1 n1 c1] 95)).alloc (.cells #[.bool false, .slice none 0 0] 95) = W0 := ⟨_, rfl⟩
    have z0_0 : W0.cell? ⟨w.heap.size, 0, none⟩ = some (.bool b) := by rw [← hW0]; simp [go_sem]
    have q0_0 : W0.frozen? ⟨w.heap.size, 0, none⟩ = false := by rw [← hW0]; simp [go_sem]
    have z0_1 : W0.cell? ⟨w.heap.size, 1, none⟩ = some (.slice a0 n0 c0) := by rw [← hW0]; simp [go_sem]
    have q0_1 : W0.frozen? ⟨w.heap.size, 1, none⟩ = false := by rw [← hW0]; simp [go_sem]
    have z1_0 : W0.cell? ⟨w.heap.size + 1, 0, none⟩ = some (.bool c) := by rw [← hW0]; simp [go_sem]
    have q1_0 : W0.frozen? ⟨w.heap.size + 1, 0, none⟩ = false := by rw [← hW0]; simp [go_sem]
    have z1_1 : W0.cell? ⟨w.heap.size + 1, 1, none⟩ = some (.slice a1 n1 c1) := by rw [← hW0]; simp [go_sem]
    have q1_1 : W0.frozen? ⟨w.heap.size + 1, 1, none⟩ = false := by rw [← hW0]; simp [go_sem]
    have z2_0 : W0.cell? ⟨w.heap.size + 1 + 1, 0, none⟩ = some (.bool false) := by rw [← hW0]; simp [go_sem]
    have q2_0 : W0.frozen? ⟨w.heap.size + 1 + 1, 0, none⟩ = false := by rw [← hW0]; simp [go_sem]
    have z2_1 : W0.cell? ⟨w.heap.size + 1 + 1, 1, none⟩ = some (.slice none 0 0) := by rw [← hW0]; simp [go_sem]
    have q2_1 : W0.frozen? ⟨w.heap.size + 1 + 1, 1, none⟩ = false := by rw [← hW0]; simp [go_sem]
    have zs : w.heap.size + 1 + 1 < W0.heap.size := by rw [← hW0]; simp
    have zb : Below w.heap.size w W0 := by rw [← hW0]; exact below_step (below_step (below_new _ _) (below_new _ _)) (below_new _ _)
    rw [hW0]
    clear hW0
    have g0 := ha.to zb
    have g1 := hb.to zb
    refine (nat_sub_no _ _ la lb _ g0 g1 hlt).mono ?_
    rintro e w1 ⟨rfl, hb1⟩
    have x0_0p := (hb1.cell (p := ⟨w.heap.size, 0, none⟩) (by show w.heap.size < W0.heap.size; omega)).trans z0_0
    have y0_0p := (hb1.frozen (p := ⟨w.heap.size, 0, none⟩) (by show w.heap.size < W0.heap.size; omega)).trans q0_0
    have x0_1p := (hb1.cell (p := ⟨w.heap.size, 1, none⟩) (by show w.heap.size < W0.heap.size; omega)).trans z0_1
    have y0_1p := (hb1.frozen (p := ⟨w.heap.size, 1, none⟩) (by show w.heap.size < W0.heap.size; omega)).trans q0_1
    have x1_0p := (hb1.cell (p := ⟨w.heap.size + 1, 0, none⟩) (by show w.heap.size + 1 < W0.heap.size; omega)).trans z1_0
    have y1_0p := (hb1.frozen (p := ⟨w.heap.size + 1, 0, none⟩) (by show w.heap.size + 1 < W0.heap.size; omega)).trans q1_0
    have x1_1p := (hb1.cell (p := ⟨w.heap.size + 1, 1, none⟩) (by show w.heap.size + 1 < W0.heap.size; omega)).trans z1_1
    have y1_1p := (hb1.frozen (p := ⟨w.heap.size + 1, 1, none⟩) (by show w.heap.size + 1 < W0.heap.size; omega)).trans q1_1
    have x2_0p := (hb1.cell (p := ⟨w.heap.size + 1 + 1, 0, none⟩) (by show w.heap.size + 1 + 1 < W0.heap.size; omega)).trans z2_0
    have y2_0p := (hb1.frozen (p := ⟨w.heap.size + 1 + 1, 0, none⟩) (by show w.heap.size + 1 + 1 < W0.heap.size; omega)).trans q2_0
    have x2_1p := (hb1.cell (p := ⟨w.heap.size + 1 + 1, 1, none⟩) (by show w.heap.size + 1 + 1 < W0.heap.size; omega)).trans z2_1
    have y2_1p := (hb1.frozen (p := ⟨w.heap.size + 1 + 1, 1, none⟩) (by show w.heap.size + 1 + 1 < W0.heap.size; omega)).trans q2_1
    go_wp2_with fail
    refine (nat_sub _ _ lb la _ (g1.to hb1) (g0.to hb1) (by omega) (by omega)).mono ?_
    rintro e w2 ⟨v2, rfl, hv2, hb2⟩
    obtain ⟨a2_, n2_, c2_, rfl, _, _⟩ := hv2.rd.open
    have hb02 := below_step hb1 hb2
    clear x0_0p y0_0p x0_1p y0_1p x1_0p y1_0p x1_1p y1_1p x2_0p y2_0p x2_1p y2_1p
    have x0_0 := (hb02.cell (p := ⟨w.heap.size, 0, none⟩) (by show w.heap.size < W0.heap.size; omega)).trans z0_0
    have y0_0 := (hb02.frozen (p := ⟨w.heap.size, 0, none⟩) (by show w.heap.size < W0.heap.size; omega)).trans q0_0
    have x0_1 := (hb02.cell (p := ⟨w.heap.size, 1, none⟩) (by show w.heap.size < W0.heap.size; omega)).trans z0_1
    have y0_1 := (hb02.frozen (p := ⟨w.heap.size, 1, none⟩) (by show w.heap.size < W0.heap.size; omega)).trans q0_1
    have x1_0 := (hb02.cell (p := ⟨w.heap.size + 1, 0, none⟩) (by show w.heap.size + 1 < W0.heap.size; omega)).trans z1_0
    have y1_0 := (hb02.frozen (p := ⟨w.heap.size + 1, 0, none⟩) (by show w.heap.size + 1 < W0.heap.size; omega)).trans q1_0
    have x1_1 := (hb02.cell (p := ⟨w.heap.size + 1, 1, none⟩) (by show w.heap.size + 1 < W0.heap.size; omega)).trans z1_1
    have y1_1 := (hb02.frozen (p := ⟨w.heap.size + 1, 1, none⟩) (by show w.heap.size + 1 < W0.heap.size; omega)).trans q1_1
    have x2_0 := (hb02.cell (p := ⟨w.heap.size + 1 + 1, 0, none⟩) (by show w.heap.size + 1 + 1 < W0.heap.size; omega)).trans z2_0
    have y2_0 := (hb02.frozen (p := ⟨w.heap.size + 1 + 1, 0, none⟩) (by show w.heap.size + 1 + 1 < W0.heap.size; omega)).trans q2_0
    have x2_1 := (hb02.cell (p := ⟨w.heap.size + 1 + 1, 1, none⟩) (by show w.heap.size + 1 + 1 < W0.heap.size; omega)).trans z2_1
    have y2_1 := (hb02.frozen (p := ⟨w.heap.size + 1 + 1, 1, none⟩) (by show w.heap.size + 1 + 1 < W0.heap.size; omega)).trans q2_1
    go_wp2_with fail
    refine (whole_signed c _ _ _ hv2.rd (by rw [sz_def]; omega)).mono ?_
    rintro e w3 ⟨v3, rfl, hv3, hb3⟩
    obtain ⟨a3_, n3_, c3_, rfl, _, _⟩ := hv3.rd.open
    have hb03 := below_step hb02 hb3
    have x0_0r := (hb03.cell (p := ⟨w.heap.size, 0, none⟩) (by show w.heap.size < W0.heap.size; omega)).trans z0_0
    have y0_0r := (hb03.frozen (p := ⟨w.heap.size, 0, none⟩) (by show w.heap.size < W0.heap.size; omega)).trans q0_0
    have x0_1r := (hb03.cell (p := ⟨w.heap.size, 1, none⟩) (by show w.heap.size < W0.heap.size; omega)).trans z0_1
    have y0_1r := (hb03.frozen (p := ⟨w.heap.size, 1, none⟩) (by show w.heap.size < W0.heap.size; omega)).trans q0_1
    have x1_0r := (hb03.cell (p := ⟨w.heap.size + 1, 0, none⟩) (by show w.heap.size + 1 < W0.heap.size; omega)).trans z1_0
    have y1_0r := (hb03.frozen (p := ⟨w.heap.size + 1, 0, none⟩) (by show w.heap.size + 1 < W0.heap.size; omega)).trans q1_0
    have x1_1r := (hb03.cell (p := ⟨w.heap.size + 1, 1, none⟩) (by show w.heap.size + 1 < W0.heap.size; omega)).trans z1_1
    have y1_1r := (hb03.frozen (p := ⟨w.heap.size + 1, 1, none⟩) (by show w.heap.size + 1 < W0.heap.size; omega)).trans q1_1
    have x2_0r := (hb03.cell (p := ⟨w.heap.size + 1 + 1, 0, none⟩) (by show w.heap.size + 1 + 1 < W0.heap.size; omega)).trans z2_0
    have y2_0r := (hb03.frozen (p := ⟨w.heap.size + 1 + 1, 0, none⟩) (by show w.heap.size + 1 + 1 < W0.heap.size; omega)).trans q2_0
    have x2_1r := (hb03.cell (p := ⟨w.heap.size + 1 + 1, 1, none⟩) (by show w.heap.size + 1 + 1 < W0.heap.size; omega)).trans z2_1
    have y2_1r := (hb03.frozen (p := ⟨w.heap.size + 1 + 1, 1, none⟩) (by show w.heap.size + 1 + 1 < W0.heap.size; omega)).trans q2_1
    generalize hng : decide (sgn c (val (limbs (val lb - val la))) < 0) = ng
    have Hng := Lib.hid hng
    clear hng
    have zs' := zs
    replace hv3 := hv3.mono hb02.size
    go_wp2_with fail
    have e := Hng.out
    subst e
    obtain ⟨k0, k1⟩ := two_cells (x := .bool (decide (sgn c (val (limbs (val lb - val la))) < 0))) (y := .slice a3_ n3_ c3_) x2_0r x2_1r
    exact bodyPost_ret (results_I Tryz.results158 _ _ _ _ _ rfl k0 k1) rfl (finI zb (by omega) zs' hv3 hb03)

set_option maxRecDepth 100000 in
set_option maxHeartbeats 2000000 in
theorem whole_add (b c : Bool) (va vb : Value) (la lb : List Nat) (w : World) (ha : Rd w va la) (hb : Rd w vb lb) (hla : la.length ≤ 400000) (hlb : lb.length ≤ 400000) :
    Calls Tryz.prog 143 #[aggI b va, aggI c vb] w (GivesI w (sgn b (val la) + sgn c (val lb))) := by
  have hsa := sz_val ha.1
  have hsb := sz_val hb.1
  have hs := sz_add (val la) (val lb)
  have hm := sz_mul (val la) (val lb)
  have hd1 := sz_sub (val la) (val lb)
  have hd2 := sz_sub (val lb) (val la)
  obtain ⟨a0, n0, c0, rfl, _, _⟩ := ha.open
  obtain ⟨a1, n1, c1, rfl, _, _⟩ := hb.open
  by_cases hbc : b = c
  · subst hbc
    rw [← sgn_same]
    go_enter Tryz.func143, Tryz.ntmps143
    go_wp2_with fail
    obtain ⟨W0, hW0⟩ : ∃ W0, (((w.alloc (.cells #[.bool b, .slice a0 n0 c0] 95)).alloc (.cells #[.bool b, .slice a1 n1 c1] 95)).alloc (.cells #[.bool false, .slice none 0 0] 95)).alloc (.cells #[.func (.func 159) #[] #[]] 177) = W0 := ⟨_, rfl⟩
    have z0_0 : W0.cell? ⟨w.heap.size, 0, none⟩ = some (.bool b) := by rw [← hW0]; simp [go_sem]
    have q0_0 : W0.frozen? ⟨w.heap.size, 0, none⟩ = false := by rw [← hW0]; simp [go_sem]
    have z0_1 : W0.cell? ⟨w.heap.size, 1, none⟩ = some (.slice a0 n0 c0) := by rw [← hW0]; simp [go_sem]
    have q0_1 : W0.frozen? ⟨w.heap.size, 1, none⟩ = false := by rw [← hW0]; simp [go_sem]
    have z1_0 : W0.cell? ⟨w.heap.size + 1, 0, none⟩ = some (.bool b) := by rw [← hW0]; simp [go_sem]
    have q1_0 : W0.frozen? ⟨w.heap.size + 1, 0, none⟩ = false := by rw [← hW0]; simp [go_sem]
    have z1_1 : W0.cell? ⟨w.heap.size + 1, 1, none⟩ = some (.slice a1 n1 c1) := by rw [← hW0]; simp [go_sem]
    have q1_1 : W0.frozen? ⟨w.heap.size + 1, 1, none⟩ = false := by rw [← hW0]; simp [go_sem]
    have z2_0 : W0.cell? ⟨w.heap.size + 1 + 1, 0, none⟩ = some (.bool false) := by rw [← hW0]; simp [go_sem]
    have q2_0 : W0.frozen? ⟨w.heap.size + 1 + 1, 0, none⟩ = false := by rw [← hW0]; simp [go_sem]
    have z2_1 : W0.cell? ⟨w.heap.size + 1 + 1, 1, none⟩ = some (.slice none 0 0) := by rw [← hW0]; simp [go_sem]
    have q2_1 : W0.frozen? ⟨w.heap.size + 1 + 1, 1, none⟩ = false := by rw [← hW0]; simp [go_sem]
    have z3_0 : W0.cell? ⟨w.heap.size + 1 + 1 + 1, 0, none⟩ = some (.func (.func 159) #[] #[]) := by rw [← hW0]; simp [go_sem]
    have q3_0 : W0.frozen? ⟨w.heap.size + 1 + 1 + 1, 0, none⟩ = false := by rw [← hW0]; simp [go_sem]
    have zs : w.heap.size + 1 + 1 + 1 < W0.heap.size := by rw [← hW0]; simp
    have zb : Below w.heap.size w W0 := by rw [← hW0]; exact below_step (below_step (below_step (below_new _ _) (below_new _ _)) (below_new _ _)) (below_new _ _)
    rw [hW0]
    clear hW0
    have g0 := ha.to zb
    have g1 := hb.to zb
    have zs' : w.heap.size + 1 + 1 < W0.heap.size := by omega
    refine (whole_alike b b _ _ la lb _ g0 g1 hla hlb).mono ?_
    rintro e w3 ⟨v3, rfl, hv3, hb3⟩
    obtain ⟨a3_, n3_, c3_, rfl, _, _⟩ := hv3.rd.open
    have hb03 := hb3
    have x0_0r := (hb03.cell (p := ⟨w.heap.size, 0, none⟩) (by show w.heap.size < W0.heap.size; omega)).trans z0_0
    have y0_0r := (hb03.frozen (p := ⟨w.heap.size, 0, none⟩) (by show w.heap.size < W0.heap.size; omega)).trans q0_0
    have x0_1r := (hb03.cell (p := ⟨w.heap.size, 1, none⟩) (by show w.heap.size < W0.heap.size; omega)).trans z0_1
    have y0_1r := (hb03.frozen (p := ⟨w.heap.size, 1, none⟩) (by show w.heap.size < W0.heap.size; omega)).trans q0_1
    have x1_0r := (hb03.cell (p := ⟨w.heap.size + 1, 0, none⟩) (by show w.heap.size + 1 < W0.heap.size; omega)).trans z1_0
    have y1_0r := (hb03.frozen (p := ⟨w.heap.size + 1, 0, none⟩) (by show w.heap.size + 1 < W0.heap.size; omega)).trans q1_0
    have x1_1r := (hb03.cell (p := ⟨w.heap.size + 1, 1, none⟩) (by show w.heap.size + 1 < W0.heap.size; omega)).trans z1_1
    have y1_1r := (hb03.frozen (p := ⟨w.heap.size + 1, 1, none⟩) (by show w.heap.size + 1 < W0.heap.size; omega)).trans q1_1
    have x2_0r := (hb03.cell (p := ⟨w.heap.size + 1 + 1, 0, none⟩) (by show w.heap.size + 1 + 1 < W0.heap.size; omega)).trans z2_0
    have y2_0r := (hb03.frozen (p := ⟨w.heap.size + 1 + 1, 0, none⟩) (by show w.heap.size + 1 + 1 < W0.heap.size; omega)).trans q2_0
    have x2_1r := (hb03.cell (p := ⟨w.heap.size + 1 + 1, 1, none⟩) (by show w.heap.size + 1 + 1 < W0.heap.size; omega)).trans z2_1
    have y2_1r := (hb03.frozen (p := ⟨w.heap.size + 1 + 1, 1, none⟩) (by show w.heap.size + 1 + 1 < W0.heap.size; omega)).trans q2_1
    have x3_0r := (hb03.cell (p := ⟨w.heap.size + 1 + 1 + 1, 0, none⟩) (by show w.heap.size + 1 + 1 + 1 < W0.heap.size; omega)).trans z3_0
    have y3_0r := (hb03.frozen (p := ⟨w.heap.size + 1 + 1 + 1, 0, none⟩) (by show w.heap.size + 1 + 1 + 1 < W0.heap.size; omega)).trans q3_0
    generalize hng : decide (sgn b (val la + val lb) < 0) = ng
    have Hng := Lib.hid hng
    clear hng
    go_wp2_with fail
    have e := Hng.out
    subst e
    obtain ⟨k0, k1⟩ := two_cells (x := .bool (decide (sgn b (val la + val lb) < 0))) (y := .slice a3_ n3_ c3_) x2_0r x2_1r
    exact bodyPost_ret (results_I Tryz.results143 _ _ _ _ _ rfl k0 k1) rfl (finI zb (by omega) zs' hv3 hb03)
  · have hbe : (b == c) = false := beq_eq_false_iff_ne.2 hbc
    go_enter Tryz.func143, Tryz.ntmps143
    go_wp2_with fail
    obtain ⟨W0, hW0⟩ : ∃ W0, (((w.alloc (.cells #[.bool b, .slice a0 n0 c0] 95)).alloc (.cells #[.bool c, .slice a1 n1 c1] 95)).alloc (.cells #[.bool false, .slice none 0 0] 95)).alloc (.cells #[.func (.func 158) #[] #[]] 177) = W0 := ⟨_, rfl⟩
    have z0_0 : W0.cell? ⟨w.heap.size, 0, none⟩ = some (.bool b) := by rw [← hW0]; simp [go_sem]
    have q0_0 : W0.frozen? ⟨w.heap.size, 0, none⟩ = false := by rw [← hW0]; simp [go_sem]
    have z0_1 : W0.cell? ⟨w.heap.size, 1, none⟩ = some (.slice a0 n0 c0) := by rw [← hW0]; simp [go_sem]
    have q0_1 : W0.frozen? ⟨w.heap.size, 1, none⟩ = false := by rw [← hW0]; simp [go_sem]
    have z1_0 : W0.cell? ⟨w.heap.size + 1, 0, none⟩ = some (.bool c) := by rw [← hW0]; simp [go_sem]
    have q1_0 : W0.frozen? ⟨w.heap.size + 1, 0, none⟩ = false := by rw [← hW0]; simp [go_sem]
    have z1_1 : W0.cell? ⟨w.heap.size + 1, 1, none⟩ = some (.slice a1 n1 c1) := by rw [← hW0]; simp [go_sem]
    have q1_1 : W0.frozen? ⟨w.heap.size + 1, 1, none⟩ = false := by rw [← hW0]; simp [go_sem]
    have z2_0 : W0.cell? ⟨w.heap.size + 1 + 1, 0, none⟩ = some (.bool false) := by rw [← hW0]; simp [go_sem]
    have q2_0 : W0.frozen? ⟨w.heap.size + 1 + 1, 0, none⟩ = false := by rw [← hW0]; simp [go_sem]
    have z2_1 : W0.cell? ⟨w.heap.size + 1 + 1, 1, none⟩ = some (.slice none 0 0) := by rw [← hW0]; simp [go_sem]
    have q2_1 : W0.frozen? ⟨w.heap.size + 1 + 1, 1, none⟩ = false := by rw [← hW0]; simp [go_sem]
    have z3_0 : W0.cell? ⟨w.heap.size + 1 + 1 + 1, 0, none⟩ = some (.func (.func 158) #[] #[]) := by rw [← hW0]; simp [go_sem]
    have q3_0 : W0.frozen? ⟨w.heap.size + 1 + 1 + 1, 0, none⟩ = false := by rw [← hW0]; simp [go_sem]
    have zs : w.heap.size + 1 + 1 + 1 < W0.heap.size := by rw [← hW0]; simp
    have zb : Below w.heap.size w W0 := by rw [← hW0]; exact below_step (below_step (below_step (below_new _ _) (below_new _ _)) (below_new _ _)) (below_new _ _)
    rw [hW0]
    clear hW0
    have g0 := ha.to zb
    have g1 := hb.to zb
    have zs' : w.heap.size + 1 + 1 < W0.heap.size := by omega
    refine (whole_unlike b c _ _ la lb _ g0 g1 hla hlb hbc).mono ?_
    rintro e w3 ⟨v3, rfl, hv3, hb3⟩
    obtain ⟨a3_, n3_, c3_, rfl, _, _⟩ := hv3.rd.open
    have hb03 := hb3
    have x0_0r := (hb03.cell (p := ⟨w.heap.size, 0, none⟩) (by show w.heap.size < W0.heap.size; omega)).trans z0_0
    have y0_0r := (hb03.frozen (p := ⟨w.heap.size, 0, none⟩) (by show w.heap.size < W0.heap.size; omega)).trans q0_0
    have x0_1r := (hb03.cell (p := ⟨w.heap.size, 1, none⟩) (by show w.heap.size < W0.heap.size; omega)).trans z0_1
    have y0_1r := (hb03.frozen (p := ⟨w.heap.size, 1, none⟩) (by show w.heap.size < W0.heap.size; omega)).trans q0_1
    have x1_0r := (hb03.cell (p := ⟨w.heap.size + 1, 0, none⟩) (by show w.heap.size + 1 < W0.heap.size; omega)).trans z1_0
    have y1_0r := (hb03.frozen (p := ⟨w.heap.size + 1, 0, none⟩) (by show w.heap.size + 1 < W0.heap.size; omega)).trans q1_0
    have x1_1r := (hb03.cell (p := ⟨w.heap.size + 1, 1, none⟩) (by show w.heap.size + 1 < W0.heap.size; omega)).trans z1_1
    have y1_1r := (hb03.frozen (p := ⟨w.heap.size + 1, 1, none⟩) (by show w.heap.size + 1 < W0.heap.size; omega)).trans q1_1
    have x2_0r := (hb03.cell (p := ⟨w.heap.size + 1 + 1, 0, none⟩) (by show w.heap.size + 1 + 1 < W0.heap.size; omega)).trans z2_0
    have y2_0r := (hb03.frozen (p := ⟨w.heap.size + 1 + 1, 0, none⟩) (by show w.heap.size + 1 + 1 < W0.heap.size; omega)).trans q2_0
    have x2_1r := (hb03.cell (p := ⟨w.heap.size + 1 + 1, 1, none⟩) (by show w.heap.size + 1 + 1 < W0.heap.size; omega)).trans z2_1
    have y2_1r := (hb03.frozen (p := ⟨w.heap.size + 1 + 1, 1, none⟩) (by show w.heap.size + 1 + 1 < W0.heap.size; omega)).trans q2_1
    have x3_0r := (hb03.cell (p := ⟨w.heap.size + 1 + 1 + 1, 0, none⟩) (by show w.heap.size + 1 + 1 + 1 < W0.heap.size; omega)).trans z3_0
    have y3_0r := (hb03.frozen (p := ⟨w.heap.size + 1 + 1 + 1, 0, none⟩) (by show w.heap.size + 1 + 1 + 1 < W0.heap.size; omega)).trans q3_0
    generalize hng : decide (sgn b (val la) + sgn c (val lb) < 0) = ng
    have Hng := Lib.hid hng
    clear hng
    go_wp2_with fail
    have e := Hng.out
    subst e
    obtain ⟨k0, k1⟩ := two_cells (x := .bool (decide (sgn b (val la) + sgn c (val lb) < 0))) (y := .slice a3_ n3_ c3_) x2_0r x2_1r
    exact bodyPost_ret (results_I Tryz.results143 _ _ _ _ _ rfl k0 k1) rfl (finI zb (by omega) zs' hv3 hb03)

end Go.Proofs.YtkjcdnlpjldhaaaGreat


namespace Go.Proofs.YtkjcdnlpjldhaaaGreat
open Go.RowKit Tw
set_option linter.unusedVariables false
set_option linter.unusedSimpArgs false
attribute [local go_sem ↓] Go.wp_at_zero Go.wp_at_succ

theorem finI2 {w w2 : World} {B rb : Nat} {z : Int} {v : Value} (hb0 : Below w.heap.size w w2) (hrb : w.heap.size ≤ rb) (hrb1 : rb < B) (hB : w.heap.size ≤ B) (hv : Own B w2 v (limbs z.natAbs)) :
    GivesI w z (.returned (aggI (decide (z < 0)) v)) ((w2.setCell ⟨rb, 0, none⟩ (.bool (decide (z < 0)))).setCell ⟨rb, 1, none⟩ v) :=
  ⟨v, rfl, ((hv.setOther (p := ⟨rb, 0, none⟩) hrb1 _).setOther (p := ⟨rb, 1, none⟩) hrb1 _).mono hB, (hb0.setCell (p := ⟨rb, 0, none⟩) hrb _).setCell (p := ⟨rb, 1, none⟩) hrb _⟩

set_option maxRecDepth 100000 in
set_option maxHeartbeats 4000000 in
theorem whole_of (n z : Int) (w : World) (hz : z = n) (n0 : -9223372036854775808 ≤ n) (n1 : n < 9223372036854775808) :
    Calls Tryz.prog 61 #[.int .i64 n] w (GivesI w z) := by
  by_cases hn : n < 0
  · obtain rfl : z = sgn true (val (limbs (val (limbs (-(n + 1)).toNat) + val (limbs (1 : Int).toNat)))) := by rw [val_limbs, val_limbs, val_limbs, sgn_true]; omega
    have hlen : ∀ m : Nat, m ≤ 18446744073709551616 → sz m ≤ 3 := fun m hm => by
      have := sz_mono hm
      rw [show sz 18446744073709551616 = 3 by decide +kernel] at this
      exact this
    have hl1 := hlen (-(n + 1)).toNat (by omega)
    have hl2 := hlen (1 : Int).toNat (by omega)
    have hl3 := hlen ((-(n + 1)).toNat + (1 : Int).toNat) (by omega)
    clear hlen
    go_enter Tryz.func61, Tryz.ntmps61
    go_wp2_with fail
    obtain ⟨W0, hW0⟩ : ∃ W0, w.alloc (.cells #[.bool false, .slice none 0 0] 95) = W0 := ⟨_, rfl⟩
    have x0_0 : W0.cell? ⟨w.heap.size, 0, none⟩ = some (.bool false) := by rw [← hW0]; simp [go_sem]
    have y0_0 : W0.frozen? ⟨w.heap.size, 0, none⟩ = false := by rw [← hW0]; simp [go_sem]
    have x0_1 : W0.cell? ⟨w.heap.size, 1, none⟩ = some (.slice none 0 0) := by rw [← hW0]; simp [go_sem]
    have y0_1 : W0.frozen? ⟨w.heap.size, 1, none⟩ = false := by rw [← hW0]; simp [go_sem]
    have zs : w.heap.size < W0.heap.size := by rw [← hW0]; simp
    have zb : Below w.heap.size w W0 := by rw [← hW0]; exact below_new _ _
    rw [hW0]
    clear hW0
    refine (nat_of _ _ (by omega) (by omega)).mono ?_
    rintro e w1 ⟨v1, rfl, hv1, hb1⟩
    obtain ⟨a1_, n1_, c1_, rfl, H1, hm1⟩ := hv1.rd.open
    have hr_w1 : w.heap.size < W0.heap.size := (by omega)
    have hw_w1 : w.heap.size ≤ W0.heap.size := (by omega)
    replace x0_0 := (hb1.cell (p := ⟨w.heap.size, 0, none⟩) (by show w.heap.size < W0.heap.size; omega)).trans x0_0
    replace y0_0 := (hb1.frozen (p := ⟨w.heap.size, 0, none⟩) (by show w.heap.size < W0.heap.size; omega)).trans y0_0
    replace x0_1 := (hb1.cell (p := ⟨w.heap.size, 1, none⟩) (by show w.heap.size < W0.heap.size; omega)).trans x0_1
    replace y0_1 := (hb1.frozen (p := ⟨w.heap.size, 1, none⟩) (by show w.heap.size < W0.heap.size; omega)).trans y0_1
    replace zs := Nat.lt_of_lt_of_le zs hb1.size
    replace zb := below_step zb hb1
    have g1 := hv1.rd
    go_wp2_with fail
    refine (nat_of _ _ (by omega) (by omega)).mono ?_
    rintro e w2 ⟨v2, rfl, hv2, hb2⟩
    obtain ⟨a2_, n2_, c2_, rfl, H2, hm2⟩ := hv2.rd.open
    have hr_w2 : w.heap.size < w1.heap.size := (by omega)
    have hw_w2 : w.heap.size ≤ w1.heap.size := (by omega)
    replace x0_0 := (hb2.cell (p := ⟨w.heap.size, 0, none⟩) (by show w.heap.size < w1.heap.size; omega)).trans x0_0
    replace y0_0 := (hb2.frozen (p := ⟨w.heap.size, 0, none⟩) (by show w.heap.size < w1.heap.size; omega)).trans y0_0
    replace x0_1 := (hb2.cell (p := ⟨w.heap.size, 1, none⟩) (by show w.heap.size < w1.heap.size; omega)).trans x0_1
    replace y0_1 := (hb2.frozen (p := ⟨w.heap.size, 1, none⟩) (by show w.heap.size < w1.heap.size; omega)).trans y0_1
    replace zs := Nat.lt_of_lt_of_le zs hb2.size
    replace g1 := g1.to hb2
    replace zb := below_step zb hb2
    have g2 := hv2.rd
    go_wp2_with fail
    refine (nat_add _ _ _ _ _ g1 g2 (by rw [sz_def]; omega) (by rw [sz_def]; omega)).mono ?_
    rintro e w3 ⟨v3, rfl, hv3, hb3⟩
    obtain ⟨a3_, n3_, c3_, rfl, H3, hm3⟩ := hv3.rd.open
    have hr_w3 : w.heap.size < w2.heap.size := (by omega)
    have hw_w3 : w.heap.size ≤ w2.heap.size := (by omega)
    replace x0_0 := (hb3.cell (p := ⟨w.heap.size, 0, none⟩) (by show w.heap.size < w2.heap.size; omega)).trans x0_0
    replace y0_0 := (hb3.frozen (p := ⟨w.heap.size, 0, none⟩) (by show w.heap.size < w2.heap.size; omega)).trans y0_0
    replace x0_1 := (hb3.cell (p := ⟨w.heap.size, 1, none⟩) (by show w.heap.size < w2.heap.size; omega)).trans x0_1
    replace y0_1 := (hb3.frozen (p := ⟨w.heap.size, 1, none⟩) (by show w.heap.size < w2.heap.size; omega)).trans y0_1
    replace zs := Nat.lt_of_lt_of_le zs hb3.size
    replace g1 := g1.to hb3
    replace g2 := g2.to hb3
    replace zb := below_step zb hb3
    have g3 := hv3.rd
    go_wp2_with fail
    refine (whole_signed true _ _ _ g3 (by rw [sz_def, val_limbs, val_limbs]; omega)).mono ?_
    rintro e w4 ⟨v4, rfl, hv4, hb4⟩
    obtain ⟨a4_, n4_, c4_, rfl, H4, hm4⟩ := hv4.rd.open
    have hr_w4 : w.heap.size < w3.heap.size := (by omega)
    have hw_w4 : w.heap.size ≤ w3.heap.size := (by omega)
    replace x0_0 := (hb4.cell (p := ⟨w.heap.size, 0, none⟩) (by show w.heap.size < w3.heap.size; omega)).trans x0_0
    replace y0_0 := (hb4.frozen (p := ⟨w.heap.size, 0, none⟩) (by show w.heap.size < w3.heap.size; omega)).trans y0_0
    replace x0_1 := (hb4.cell (p := ⟨w.heap.size, 1, none⟩) (by show w.heap.size < w3.heap.size; omega)).trans x0_1
    replace y0_1 := (hb4.frozen (p := ⟨w.heap.size, 1, none⟩) (by show w.heap.size < w3.heap.size; omega)).trans y0_1
    replace zs := Nat.lt_of_lt_of_le zs hb4.size
    replace g1 := g1.to hb4
    replace g2 := g2.to hb4
    replace g3 := g3.to hb4
    replace zb := below_step zb hb4
    have g4 := hv4.rd
    generalize hng4 : decide (sgn true (val (limbs (val (limbs (-(n + 1)).toNat) + val (limbs (1 : Int).toNat)))) < 0) = ng4
    have Hng4 := Lib.hid hng4
    clear hng4
    go_wp2_with fail
    have e4 := Hng4.out
    subst e4
    obtain ⟨k0, k1⟩ := two_cells (x := .bool (decide (sgn true (val (limbs (val (limbs (-(n + 1)).toNat) + val (limbs (1 : Int).toNat)))) < 0))) (y := .slice a4_ n4_ c4_) x0_0 x0_1
    exact bodyPost_ret (results_I Tryz.results61 _ _ _ _ _ rfl k0 k1) rfl (finI2 zb (by omega) hr_w4 hw_w4 hv4)
  · obtain rfl : z = sgn false (val (limbs n.toNat)) := by rw [val_limbs, sgn_false]; omega
    have hl1 : sz n.toNat ≤ 3 := by
      have := sz_mono (show n.toNat ≤ 18446744073709551616 by omega)
      rw [show sz 18446744073709551616 = 3 by decide +kernel] at this
      exact this
    go_enter Tryz.func61, Tryz.ntmps61
    go_wp2_with fail
    obtain ⟨W0, hW0⟩ : ∃ W0, w.alloc (.cells #[.bool false, .slice none 0 0] 95) = W0 := ⟨_, rfl⟩
    have x0_0 : W0.cell? ⟨w.heap.size, 0, none⟩ = some (.bool false) := by rw [← hW0]; simp [go_sem]
    have y0_0 : W0.frozen? ⟨w.heap.size, 0, none⟩ = false := by rw [← hW0]; simp [go_sem]
    have x0_1 : W0.cell? ⟨w.heap.size, 1, none⟩ = some (.slice none 0 0) := by rw [← hW0]; simp [go_sem]
    have y0_1 : W0.frozen? ⟨w.heap.size, 1, none⟩ = false := by rw [← hW0]; simp [go_sem]
    have zs : w.heap.size < W0.heap.size := by rw [← hW0]; simp
    have zb : Below w.heap.size w W0 := by rw [← hW0]; exact below_new _ _
    rw [hW0]
    clear hW0
    refine (nat_of _ _ (by omega) (by omega)).mono ?_
    rintro e w1 ⟨v1, rfl, hv1, hb1⟩
    obtain ⟨a1_, n1_, c1_, rfl, H1, hm1⟩ := hv1.rd.open
    have hr_w1 : w.heap.size < W0.heap.size := (by omega)
    have hw_w1 : w.heap.size ≤ W0.heap.size := (by omega)
    replace x0_0 := (hb1.cell (p := ⟨w.heap.size, 0, none⟩) (by show w.heap.size < W0.heap.size; omega)).trans x0_0
    replace y0_0 := (hb1.frozen (p := ⟨w.heap.size, 0, none⟩) (by show w.heap.size < W0.heap.size; omega)).trans y0_0
    replace x0_1 := (hb1.cell (p := ⟨w.heap.size, 1, none⟩) (by show w.heap.size < W0.heap.size; omega)).trans x0_1
    replace y0_1 := (hb1.frozen (p := ⟨w.heap.size, 1, none⟩) (by show w.heap.size < W0.heap.size; omega)).trans y0_1
    replace zs := Nat.lt_of_lt_of_le zs hb1.size
    replace zb := below_step zb hb1
    have g1 := hv1.rd
    go_wp2_with fail
    refine (whole_signed false _ _ _ g1 (by rw [sz_def]; omega)).mono ?_
    rintro e w4 ⟨v4, rfl, hv4, hb4⟩
    obtain ⟨a4_, n4_, c4_, rfl, H4, hm4⟩ := hv4.rd.open
    have hr_w4 : w.heap.size < w1.heap.size := (by omega)
    have hw_w4 : w.heap.size ≤ w1.heap.size := (by omega)
    replace x0_0 := (hb4.cell (p := ⟨w.heap.size, 0, none⟩) (by show w.heap.size < w1.heap.size; omega)).trans x0_0
    replace y0_0 := (hb4.frozen (p := ⟨w.heap.size, 0, none⟩) (by show w.heap.size < w1.heap.size; omega)).trans y0_0
    replace x0_1 := (hb4.cell (p := ⟨w.heap.size, 1, none⟩) (by show w.heap.size < w1.heap.size; omega)).trans x0_1
    replace y0_1 := (hb4.frozen (p := ⟨w.heap.size, 1, none⟩) (by show w.heap.size < w1.heap.size; omega)).trans y0_1
    replace zs := Nat.lt_of_lt_of_le zs hb4.size
    replace g1 := g1.to hb4
    replace zb := below_step zb hb4
    have g4 := hv4.rd
    generalize hng4 : decide (sgn false (val (limbs n.toNat)) < 0) = ng4
    have Hng4 := Lib.hid hng4
    clear hng4
    go_wp2_with fail
    have e4 := Hng4.out
    subst e4
    obtain ⟨k0, k1⟩ := two_cells (x := .bool (decide (sgn false (val (limbs n.toNat)) < 0))) (y := .slice a4_ n4_ c4_) x0_0 x0_1
    exact bodyPost_ret (results_I Tryz.results61 _ _ _ _ _ rfl k0 k1) rfl (finI2 zb (by omega) hr_w4 hw_w4 hv4)

end Go.Proofs.YtkjcdnlpjldhaaaGreat


namespace Go.Proofs.YtkjcdnlpjldhaaaGreat
open Go.RowKit Tw
set_option linter.unusedVariables false
set_option linter.unusedSimpArgs false
attribute [local go_sem ↓] Go.wp_at_zero Go.wp_at_succ

set_option maxRecDepth 100000 in
set_option maxHeartbeats 4000000 in
theorem ref7_of (n z : Int) (w : World) (hz : z = n) (n0 : -9223372036854775808 ≤ n) (n1 : n < 9223372036854775808) :
    Calls Tryz.prog 48 #[.int .i64 n] w (GivesI w z) := by
  by_cases hn : 0 ≤ n
  · have hd : decide (z < 0) = false := by simp; omega
    have ha : z.natAbs = (n).toNat := by omega
    
    go_enter Tryz.func48, Tryz.ntmps48
    go_wp2_with fail
    obtain ⟨W0, hW0⟩ : ∃ W0, w.alloc (.cells #[.bool false, .slice none 0 0] 95) = W0 := ⟨_, rfl⟩
    have x0_0 : W0.cell? ⟨w.heap.size, 0, none⟩ = some (.bool false) := by rw [← hW0]; simp [go_sem]
    have y0_0 : W0.frozen? ⟨w.heap.size, 0, none⟩ = false := by rw [← hW0]; simp [go_sem]
    have x0_1 : W0.cell? ⟨w.heap.size, 1, none⟩ = some (.slice none 0 0) := by rw [← hW0]; simp [go_sem]
    have y0_1 : W0.frozen? ⟨w.heap.size, 1, none⟩ = false := by rw [← hW0]; simp [go_sem]
    have zs : w.heap.size < W0.heap.size := by rw [← hW0]; simp
    have zb : Below w.heap.size w W0 := by rw [← hW0]; exact below_new _ _
    rw [hW0]
    clear hW0
    refine (ref2_of (n) _ (by omega) (by omega)).mono ?_
    rintro e w2 ⟨v2, rfl, hv2, hb2⟩
    obtain ⟨a2_, n2_, c2_, rfl, H2, hm2⟩ := hv2.rd.open
    have hr_w2 : w.heap.size < W0.heap.size := (by omega)
    have hw_w2 : w.heap.size ≤ W0.heap.size := (by omega)
    replace x0_0 := (hb2.cell (p := ⟨w.heap.size, 0, none⟩) (by show w.heap.size < W0.heap.size; omega)).trans x0_0
    replace y0_0 := (hb2.frozen (p := ⟨w.heap.size, 0, none⟩) (by show w.heap.size < W0.heap.size; omega)).trans y0_0
    replace x0_1 := (hb2.cell (p := ⟨w.heap.size, 1, none⟩) (by show w.heap.size < W0.heap.size; omega)).trans x0_1
    replace y0_1 := (hb2.frozen (p := ⟨w.heap.size, 1, none⟩) (by show w.heap.size < W0.heap.size; omega)).trans y0_1
    replace zs := Nat.lt_of_lt_of_le zs hb2.size
    replace zb := below_step zb hb2
    have g2 := hv2.rd
    go_wp2_with fail
    obtain ⟨k0, k1⟩ := two_cells (x := .bool false) (y := .slice a2_ n2_ c2_) x0_0 x0_1
    rw [← ha] at hv2
    have hfin := finI2 zb (by omega) hr_w2 hw_w2 hv2
    rw [hd] at hfin
    exact bodyPost_ret (results_I Tryz.results48 _ _ _ _ _ rfl k0 k1) rfl hfin
  · have hd : decide (z < 0) = true := by simp; omega
    have ha : z.natAbs = (-n).toNat := by omega
    
    have Hw : IntKind.u64.wrap (-IntKind.u64.wrap n) = -n := by
      show (-(n % 18446744073709551616)) % 18446744073709551616 = -n
      omega
    go_enter Tryz.func48, Tryz.ntmps48
    go_wp2_with fail
    obtain ⟨W0, hW0⟩ : ∃ W0, w.alloc (.cells #[.bool false, .slice none 0 0] 95) = W0 := ⟨_, rfl⟩
    have x0_0 : W0.cell? ⟨w.heap.size, 0, none⟩ = some (.bool false) := by rw [← hW0]; simp [go_sem]
    have y0_0 : W0.frozen? ⟨w.heap.size, 0, none⟩ = false := by rw [← hW0]; simp [go_sem]
    have x0_1 : W0.cell? ⟨w.heap.size, 1, none⟩ = some (.slice none 0 0) := by rw [← hW0]; simp [go_sem]
    have y0_1 : W0.frozen? ⟨w.heap.size, 1, none⟩ = false := by rw [← hW0]; simp [go_sem]
    have zs : w.heap.size < W0.heap.size := by rw [← hW0]; simp
    have zb : Below w.heap.size w W0 := by rw [← hW0]; exact below_new _ _
    rw [hW0]
    clear hW0
    refine (ref2_of (-n) _ (by omega) (by omega)).mono ?_
    rintro e w2 ⟨v2, rfl, hv2, hb2⟩
    obtain ⟨a2_, n2_, c2_, rfl, H2, hm2⟩ := hv2.rd.open
    have hr_w2 : w.heap.size < W0.heap.size := (by omega)
    have hw_w2 : w.heap.size ≤ W0.heap.size := (by omega)
    replace x0_0 := (hb2.cell (p := ⟨w.heap.size, 0, none⟩) (by show w.heap.size < W0.heap.size; omega)).trans x0_0
    replace y0_0 := (hb2.frozen (p := ⟨w.heap.size, 0, none⟩) (by show w.heap.size < W0.heap.size; omega)).trans y0_0
    replace x0_1 := (hb2.cell (p := ⟨w.heap.size, 1, none⟩) (by show w.heap.size < W0.heap.size; omega)).trans x0_1
    replace y0_1 := (hb2.frozen (p := ⟨w.heap.size, 1, none⟩) (by show w.heap.size < W0.heap.size; omega)).trans y0_1
    replace zs := Nat.lt_of_lt_of_le zs hb2.size
    replace zb := below_step zb hb2
    have g2 := hv2.rd
    go_wp2_with fail
    obtain ⟨k0, k1⟩ := two_cells (x := .bool true) (y := .slice a2_ n2_ c2_) x0_0 x0_1
    rw [← ha] at hv2
    have hfin := finI2 zb (by omega) hr_w2 hw_w2 hv2
    rw [hd] at hfin
    exact bodyPost_ret (results_I Tryz.results48 _ _ _ _ _ rfl k0 k1) rfl hfin

end Go.Proofs.YtkjcdnlpjldhaaaGreat


namespace Go.Proofs.YtkjcdnlpjldhaaaGreat
open Go.RowKit Tw
set_option linter.unusedVariables false
set_option linter.unusedSimpArgs false
attribute [local go_sem ↓] Go.wp_at_zero Go.wp_at_succ

end Go.Proofs.YtkjcdnlpjldhaaaGreat

