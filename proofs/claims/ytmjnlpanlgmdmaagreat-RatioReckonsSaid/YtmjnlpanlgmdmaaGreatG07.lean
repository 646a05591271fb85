/-
  The texts Whole2, Whole3, Whole4, Ref7, Ref7b, merged.
-/
import Derived.Test.YtmjnlpanlgmdmaaGreatG06
import Derived.Deep.DrawnRows
import Derived.Laws.EntriesVeiled
import Derived.Test.YtmjnlpanlgmdmaaGreatG05
namespace Go.Proofs.YtmjnlpanlgmdmaaGreat
open Go.RowKit Tw
set_option linter.unusedVariables false
set_option linter.unusedSimpArgs false
attribute [local go_sem ↓] Go.wp_at_zero Go.wp_at_succ

set_option maxRecDepth 100000 in
set_option maxHeartbeats 8000000 in
theorem whole_alike (b c : Bool) (va vb : Value) (la lb : List Nat) (w : World) (ha : Rd w va la) (hb : Rd w vb lb) (hla : la.length ≤ 400000) (hlb : lb.length ≤ 400000) :
    Calls Tryz.prog 57 #[aggI b va, aggI c vb] w (GivesI w (sgn b (val la + val lb))) := by
  have hsa := sz_val ha.1
  have hsb := sz_val hb.1
  have hs := sz_add (val la) (val lb)
  have hm := sz_mul (val la) (val lb)
  have hd1 := sz_sub (val la) (val lb)
  have hd2 := sz_sub (val lb) (val la)
  rw [show sgn b (val la + val lb) = sgn b (val (limbs (val la + val lb))) by rw [val_limbs]]
  obtain ⟨a0, n0, c0, rfl, _, _⟩ := ha.open
  obtain ⟨a1, n1, c1, rfl, _, _⟩ := hb.open
  go_enter Tryz.func57, Tryz.ntmps57
  go_wp2_with fail
  obtain ⟨W0, hW0⟩ : ∃ W0, ((w.alloc (.cells #[.bool b, .slice a0 n0 c0] 46)).alloc (.cells #[.bool c, .slice a1 n1 c1] 46)).alloc (.cells #[.bool false, .slice none 0 0] 46) = W0 := ⟨_, rfl⟩
  have z0_0 : W0.cell? ⟨w.heap.size, 0, none⟩ = some (.bool b) := by rw [← hW0]; simp [go_sem]
  have q0_0 : W0.frozen? ⟨w.heap.size, 0, none⟩ = false := by rw [← hW0]; simp [go_sem]
  have z0_1 : W0.cell? ⟨w.heap.size, 1, none⟩ = some (.slice a0 n0 c0) := by rw [← hW0]; simp [go_sem]
  have q0_1 : W0.frozen? ⟨w.heap.size, 1, none⟩ = false := by rw [← hW0]; simp [go_sem]
  have z1_0 : W0.cell? ⟨w.heap.size + 1, 0, none⟩ = some (.bool c) := by rw [← hW0]; simp [go_sem]
  have q1_0 : W0.frozen? ⟨w.heap.size + 1, 0, none⟩ = false := by rw [← hW0]; simp [go_sem]
  have z1_1 : W0.cell? ⟨w.heap.size + 1, 1, none⟩ = some (.slice a1 n1 c1) := by rw [← hW0]; simp [go_sem]
  have q1_1 : W0.frozen? ⟨w.heap.size + 1, 1, none⟩ = false := by rw [← hW0]; simp [go_sem]
  have z2_0 : W0.cell? ⟨w.heap.size + 1 + 1, 0, none⟩ = some (.bool false) := by rw [← hW0]; simp [go_sem]
  have q2_0 : W0.frozen? ⟨w.heap.size + 1 + 1, 0, none⟩ = false := by rw [← hW0]; simp [go_sem]
  have z2_1 : W0.cell? ⟨w.heap.size + 1 + 1, 1, none⟩ = some (.slice none 0 0) := by rw [← hW0]; simp [go_sem]
  have q2_1 : W0.frozen? ⟨w.heap.size + 1 + 1, 1, none⟩ = false := by rw [← hW0]; simp [go_sem]
  have zs : w.heap.size + 1 + 1 < W0.heap.size := by rw [← hW0]; simp
  have zb : Below w.heap.size w W0 := by rw [← hW0]; exact below_step (below_step (below_new _ _) (below_new _ _)) (below_new _ _)
  rw [hW0]
  clear hW0
  have g0 := ha.to zb
  have g1 := hb.to zb
  go_region_with (first
    | (go_at_call 80; refine (nat_add _ _ la lb _ g0.drew g1.drew (by omega) (by omega)).mono ?_; rintro e w2 ⟨v2, rfl, hv2, hb2⟩; obtain ⟨a2_, n2_, c2_, rfl, _, _⟩ := hv2.rd.open; have x0_0 := (hb2.cell (p := ⟨w.heap.size, 0, none⟩) (by show w.heap.size < W0.heap.size; omega)).trans z0_0; have y0_0 := (hb2.frozen (p := ⟨w.heap.size, 0, none⟩) (by show w.heap.size < W0.heap.size; omega)).trans q0_0; have x0_1 := (hb2.cell (p := ⟨w.heap.size, 1, none⟩) (by show w.heap.size < W0.heap.size; omega)).trans z0_1; have y0_1 := (hb2.frozen (p := ⟨w.heap.size, 1, none⟩) (by show w.heap.size < W0.heap.size; omega)).trans q0_1; have x1_0 := (hb2.cell (p := ⟨w.heap.size + 1, 0, none⟩) (by show w.heap.size + 1 < W0.heap.size; omega)).trans z1_0; have y1_0 := (hb2.frozen (p := ⟨w.heap.size + 1, 0, none⟩) (by show w.heap.size + 1 < W0.heap.size; omega)).trans q1_0; have x1_1 := (hb2.cell (p := ⟨w.heap.size + 1, 1, none⟩) (by show w.heap.size + 1 < W0.heap.size; omega)).trans z1_1; have y1_1 := (hb2.frozen (p := ⟨w.heap.size + 1, 1, none⟩) (by show w.heap.size + 1 < W0.heap.size; omega)).trans q1_1; have x2_0 := (hb2.cell (p := ⟨w.heap.size + 1 + 1, 0, none⟩) (by show w.heap.size + 1 + 1 < W0.heap.size; omega)).trans z2_0; have y2_0 := (hb2.frozen (p := ⟨w.heap.size + 1 + 1, 0, none⟩) (by show w.heap.size + 1 + 1 < W0.heap.size; omega)).trans q2_0; have x2_1 := (hb2.cell (p := ⟨w.heap.size + 1 + 1, 1, none⟩) (by show w.heap.size + 1 + 1 < W0.heap.size; omega)).trans z2_1; have y2_1 := (hb2.frozen (p := ⟨w.heap.size + 1 + 1, 1, none⟩) (by show w.heap.size + 1 + 1 < W0.heap.size; omega)).trans q2_1)
    | (go_at_call 52; refine (whole_signed b _ _ _ hv2.rd (by rw [sz_def]; omega)).mono ?_; rintro e w3 ⟨v3, rfl, hv3, hb3⟩; obtain ⟨a3_, n3_, c3_, rfl, _, _⟩ := hv3.rd.open; have hb03 := below_step hb2 hb3; have x0_0r := (hb03.cell (p := ⟨w.heap.size, 0, none⟩) (by show w.heap.size < W0.heap.size; omega)).trans z0_0; have y0_0r := (hb03.frozen (p := ⟨w.heap.size, 0, none⟩) (by show w.heap.size < W0.heap.size; omega)).trans q0_0; have x0_1r := (hb03.cell (p := ⟨w.heap.size, 1, none⟩) (by show w.heap.size < W0.heap.size; omega)).trans z0_1; have y0_1r := (hb03.frozen (p := ⟨w.heap.size, 1, none⟩) (by show w.heap.size < W0.heap.size; omega)).trans q0_1; have x1_0r := (hb03.cell (p := ⟨w.heap.size + 1, 0, none⟩) (by show w.heap.size + 1 < W0.heap.size; omega)).trans z1_0; have y1_0r := (hb03.frozen (p := ⟨w.heap.size + 1, 0, none⟩) (by show w.heap.size + 1 < W0.heap.size; omega)).trans q1_0; have x1_1r := (hb03.cell (p := ⟨w.heap.size + 1, 1, none⟩) (by show w.heap.size + 1 < W0.heap.size; omega)).trans z1_1; have y1_1r := (hb03.frozen (p := ⟨w.heap.size + 1, 1, none⟩) (by show w.heap.size + 1 < W0.heap.size; omega)).trans q1_1; have x2_0r := (hb03.cell (p := ⟨w.heap.size + 1 + 1, 0, none⟩) (by show w.heap.size + 1 + 1 < W0.heap.size; omega)).trans z2_0; have y2_0r := (hb03.frozen (p := ⟨w.heap.size + 1 + 1, 0, none⟩) (by show w.heap.size + 1 + 1 < W0.heap.size; omega)).trans q2_0; have x2_1r := (hb03.cell (p := ⟨w.heap.size + 1 + 1, 1, none⟩) (by show w.heap.size + 1 + 1 < W0.heap.size; omega)).trans z2_1; have y2_1r := (hb03.frozen (p := ⟨w.heap.size + 1 + 1, 1, none⟩) (by show w.heap.size + 1 + 1 < W0.heap.size; omega)).trans q2_1; generalize hng : decide (sgn b (val (limbs (val la + val lb))) < 0) = ng; have Hng := Lib.hid hng; clear hng))
  all_goals
    go_wp2_with fail
    have zs' : w.heap.size + 1 + 1 < W0.drew.heap.size := zs
    replace zb : Below w.heap.size w W0.drew := zb.drew
    have e := Hng.out
    subst e
    obtain ⟨k0, k1⟩ := two_cells (x := .bool (decide (sgn b (val (limbs (val la + val lb))) < 0))) (y := .slice a3_ n3_ c3_) x2_0r x2_1r
    exact bodyPost_ret (results_I Tryz.results57 _ _ _ _ _ rfl k0 k1) rfl (finI zb (by omega) zs' (hv3.mono hb2.size) hb03)

set_option maxRecDepth 100000 in
set_option maxHeartbeats 16000000 in
theorem whole_mul (b c : Bool) (va vb : Value) (la lb : List Nat) (w : World) (ha : Rd w va la) (hb : Rd w vb lb) (hla : la.length ≤ 400000) (hlb : lb.length ≤ 400000) :
    Calls Tryz.prog 25 #[aggI b va, aggI c vb] w (GivesI w (sgn b (val la) * sgn c (val lb))) := by
  have hsa := sz_val ha.1
  have hsb := sz_val hb.1
  have hs := sz_add (val la) (val lb)
  have hm := sz_mul (val la) (val lb)
  have hd1 := sz_sub (val la) (val lb)
  have hd2 := sz_sub (val lb) (val la)
  rw [← sgn_mul, show sgn (b != c) (val la * val lb) = sgn (b != c) (val (limbs (val la * val lb))) by rw [val_limbs]]
  obtain ⟨a0, n0, c0, rfl, _, _⟩ := ha.open
  obtain ⟨a1, n1, c1, rfl, _, _⟩ := hb.open
  go_enter Tryz.func25, Tryz.ntmps25
  go_wp2_with fail
  obtain ⟨W0, hW0⟩ : ∃ W0, ((w.alloc (.cells #[.bool b, .slice a0 n0 c0] 46)).alloc (.cells #[.bool c, .slice a1 n1 c1] 46)).alloc (.cells #[.bool false, .slice none 0 0] 46) = W0 := ⟨_, rfl⟩
  have z0_0 : W0.cell? ⟨w.heap.size, 0, none⟩ = some (.bool b) := by rw [← hW0]; simp [go_sem]
  have q0_0 : W0.frozen? ⟨w.heap.size, 0, none⟩ = false := by rw [← hW0]; simp [go_sem]
  have z0_1 : W0.cell? ⟨w.heap.size, 1, none⟩ = some (.slice a0 n0 c0) := by rw [← hW0]; simp [go_sem]
  have q0_1 : W0.frozen? ⟨w.heap.size, 1, none⟩ = false := by rw [← hW0]; simp [go_sem]
  have z1_0 : W0.cell? ⟨w.heap.size + 1, 0, none⟩ = some (.bool c) := by rw [← hW0]; simp [go_sem]
  have q1_0 : W0.frozen? ⟨w.heap.size + 1, 0, none⟩ = false := by rw [← hW0]; simp [go_sem]
  have z1_1 : W0.cell? ⟨w.heap.size + 1, 1, none⟩ = some (.slice a1 n1 c1) := by rw [← hW0]; simp [go_sem]
  have q1_1 : W0.frozen? ⟨w.heap.size + 1, 1, none⟩ = false := by rw [← hW0]; simp [go_sem]
  have z2_0 : W0.cell? ⟨w.heap.size + 1 + 1, 0, none⟩ = some (.bool false) := by rw [← hW0]; simp [go_sem]
  have q2_0 : W0.frozen? ⟨w.heap.size + 1 + 1, 0, none⟩ = false := by rw [← hW0]; simp [go_sem]
  have z2_1 : W0.cell? ⟨w.heap.size + 1 + 1, 1, none⟩ = some (.slice none 0 0) := by rw [← hW0]; simp [go_sem]
  have q2_1 : W0.frozen? ⟨w.heap.size + 1 + 1, 1, none⟩ = false := by rw [← hW0]; simp [go_sem]
  have zs : w.heap.size + 1 + 1 < W0.heap.size := by rw [← hW0]; simp
  have zb : Below w.heap.size w W0 := by rw [← hW0]; exact below_step (below_step (below_new _ _) (below_new _ _)) (below_new _ _)
  rw [hW0]
  clear hW0
  have g0 := ha.to zb
  have g1 := hb.to zb
  go_region_with (first
    | (go_at_call 36; refine (times_mul _ _ la lb _ g0.drew g1.drew (by omega) (by omega)).mono ?_; rintro e w2 ⟨v2, rfl, hv2, hb2⟩; obtain ⟨a2_, n2_, c2_, rfl, _, _⟩ := hv2.rd.open; have x0_0 := (hb2.cell (p := ⟨w.heap.size, 0, none⟩) (by show w.heap.size < W0.heap.size; omega)).trans z0_0; have y0_0 := (hb2.frozen (p := ⟨w.heap.size, 0, none⟩) (by show w.heap.size < W0.heap.size; omega)).trans q0_0; have x0_1 := (hb2.cell (p := ⟨w.heap.size, 1, none⟩) (by show w.heap.size < W0.heap.size; omega)).trans z0_1; have y0_1 := (hb2.frozen (p := ⟨w.heap.size, 1, none⟩) (by show w.heap.size < W0.heap.size; omega)).trans q0_1; have x1_0 := (hb2.cell (p := ⟨w.heap.size + 1, 0, none⟩) (by show w.heap.size + 1 < W0.heap.size; omega)).trans z1_0; have y1_0 := (hb2.frozen (p := ⟨w.heap.size + 1, 0, none⟩) (by show w.heap.size + 1 < W0.heap.size; omega)).trans q1_0; have x1_1 := (hb2.cell (p := ⟨w.heap.size + 1, 1, none⟩) (by show w.heap.size + 1 < W0.heap.size; omega)).trans z1_1; have y1_1 := (hb2.frozen (p := ⟨w.heap.size + 1, 1, none⟩) (by show w.heap.size + 1 < W0.heap.size; omega)).trans q1_1; have x2_0 := (hb2.cell (p := ⟨w.heap.size + 1 + 1, 0, none⟩) (by show w.heap.size + 1 + 1 < W0.heap.size; omega)).trans z2_0; have y2_0 := (hb2.frozen (p := ⟨w.heap.size + 1 + 1, 0, none⟩) (by show w.heap.size + 1 + 1 < W0.heap.size; omega)).trans q2_0; have x2_1 := (hb2.cell (p := ⟨w.heap.size + 1 + 1, 1, none⟩) (by show w.heap.size + 1 + 1 < W0.heap.size; omega)).trans z2_1; have y2_1 := (hb2.frozen (p := ⟨w.heap.size + 1 + 1, 1, none⟩) (by show w.heap.size + 1 + 1 < W0.heap.size; omega)).trans q2_1)
    | (go_at_call 52; refine (whole_signed (b != c) _ _ _ hv2.rd (by rw [sz_def]; omega)).mono ?_; rintro e w3 ⟨v3, rfl, hv3, hb3⟩; obtain ⟨a3_, n3_, c3_, rfl, _, _⟩ := hv3.rd.open; have hb03 := below_step hb2 hb3; have x0_0r := (hb03.cell (p := ⟨w.heap.size, 0, none⟩) (by show w.heap.size < W0.heap.size; omega)).trans z0_0; have y0_0r := (hb03.frozen (p := ⟨w.heap.size, 0, none⟩) (by show w.heap.size < W0.heap.size; omega)).trans q0_0; have x0_1r := (hb03.cell (p := ⟨w.heap.size, 1, none⟩) (by show w.heap.size < W0.heap.size; omega)).trans z0_1; have y0_1r := (hb03.frozen (p := ⟨w.heap.size, 1, none⟩) (by show w.heap.size < W0.heap.size; omega)).trans q0_1; have x1_0r := (hb03.cell (p := ⟨w.heap.size + 1, 0, none⟩) (by show w.heap.size + 1 < W0.heap.size; omega)).trans z1_0; have y1_0r := (hb03.frozen (p := ⟨w.heap.size + 1, 0, none⟩) (by show w.heap.size + 1 < W0.heap.size; omega)).trans q1_0; have x1_1r := (hb03.cell (p := ⟨w.heap.size + 1, 1, none⟩) (by show w.heap.size + 1 < W0.heap.size; omega)).trans z1_1; have y1_1r := (hb03.frozen (p := ⟨w.heap.size + 1, 1, none⟩) (by show w.heap.size + 1 < W0.heap.size; omega)).trans q1_1; have x2_0r := (hb03.cell (p := ⟨w.heap.size + 1 + 1, 0, none⟩) (by show w.heap.size + 1 + 1 < W0.heap.size; omega)).trans z2_0; have y2_0r := (hb03.frozen (p := ⟨w.heap.size + 1 + 1, 0, none⟩) (by show w.heap.size + 1 + 1 < W0.heap.size; omega)).trans q2_0; have x2_1r := (hb03.cell (p := ⟨w.heap.size + 1 + 1, 1, none⟩) (by show w.heap.size + 1 + 1 < W0.heap.size; omega)).trans z2_1; have y2_1r := (hb03.frozen (p := ⟨w.heap.size + 1 + 1, 1, none⟩) (by show w.heap.size + 1 + 1 < W0.heap.size; omega)).trans q2_1; generalize hng : decide (sgn (b != c) (val (limbs (val la * val lb))) < 0) = ng; have Hng := Lib.hid hng; clear hng))
  all_goals
    go_wp2_with fail
    have zs' : w.heap.size + 1 + 1 < W0.drew.heap.size := zs
    replace zb : Below w.heap.size w W0.drew := zb.drew
    have e := Hng.out
    subst e
    obtain ⟨k0, k1⟩ := two_cells (x := .bool (decide (sgn (b != c) (val (limbs (val la * val lb))) < 0))) (y := .slice a3_ n3_ c3_) x2_0r x2_1r
    exact bodyPost_ret (results_I Tryz.results25 _ _ _ _ _ rfl k0 k1) rfl (finI zb (by omega) zs' (hv3.mono hb2.size) hb03)

end Go.Proofs.YtmjnlpanlgmdmaaGreat


namespace Go.Proofs.YtmjnlpanlgmdmaaGreat
open Go.RowKit Tw
set_option linter.unusedVariables false
set_option linter.unusedSimpArgs false
attribute [local go_sem ↓] Go.wp_at_zero Go.wp_at_succ

set_option maxRecDepth 100000 in
set_option maxHeartbeats 2000000 in
theorem whole_unlike (b c : Bool) (va vb : Value) (la lb : List Nat) (w : World) (ha : Rd w va la) (hb : Rd w vb lb) (hla : la.length ≤ 400000) (hlb : lb.length ≤ 400000) (hbc : b ≠ c) :
    Calls Tryz.prog 56 #[aggI b va, aggI c vb] w (GivesI w (sgn b (val la) + sgn c (val lb))) := by
  have hsa := sz_val ha.1
  have hsb := sz_val hb.1
  have hs := sz_add (val la) (val lb)
  have hm := sz_mul (val la) (val lb)
  have hd1 := sz_sub (val la) (val lb)
  have hd2 := sz_sub (val lb) (val la)
  obtain ⟨a0, n0, c0, rfl, _, _⟩ := ha.open
  obtain ⟨a1, n1, c1, rfl, _, _⟩ := hb.open
  by_cases hle : val lb ≤ val la
  · rw [← sgn_less hbc hle, show sgn b (val la - val lb) = sgn b (val (limbs (val la - val lb))) by rw [val_limbs]]
    go_enter Tryz.func56, Tryz.ntmps56
    go_wp2_with fail
    obtain ⟨W0, hW0⟩ : ∃ W0, ((w.alloc (.cells #[.bool b, .slice a0 n0 c0] 46)).alloc (.cells #[.bool c, .slice a1 n1 c1] 46)).alloc (.cells #[.bool false, .slice none 0 0] 46) = W0 := ⟨_, rfl⟩
    have z0_0 : W0.cell? ⟨w.heap.size, 0, none⟩ = some (.bool b) := by rw [← hW0]; simp [go_sem]
    have q0_0 : W0.frozen? ⟨w.heap.size, 0, none⟩ = false := by rw [← hW0]; simp [go_sem]
    have z0_1 : W0.cell? ⟨w.heap.size, 1, none⟩ = some (.slice a0 n0 c0) := by rw [← hW0]; simp [go_sem]
    have q0_1 : W0.frozen? ⟨w.heap.size, 1, none⟩ = false := by rw [← hW0]; simp [go_sem]
    have z1_0 : W0.cell? ⟨w.heap.size + 1, 0, none⟩ = some (.bool c) := by rw [← hW0]; simp [go_sem]
    have q1_0 : W0.frozen? ⟨w.heap.size + 1, 0, none⟩ = false := by rw [← hW0]; simp [go_sem]
    have z1_1 : W0.cell? ⟨w.heap.size + 1, 1, none⟩ = some (.slice a1 n1 c1) := by rw [← hW0]; simp [go_sem]
    have q1_1 : W0.frozen? ⟨w.heap.size + 1, 1, none⟩ = false := by rw [← hW0]; simp [go_sem]
    have z2_0 : W0.cell? ⟨w.heap.size + 1 + 1, 0, none⟩ = some (.bool false) := by rw [← hW0]; simp [go_sem]
    have q2_0 : W0.frozen? ⟨w.heap.size + 1 + 1, 0, none⟩ = false := by rw [← hW0]; simp [go_sem]
    have z2_1 : W0.cell? ⟨w.heap.size + 1 + 1, 1, none⟩ = some (.slice none 0 0) := by rw [← hW0]; simp [go_sem]
    have q2_1 : W0.frozen? ⟨w.heap.size + 1 + 1, 1, none⟩ = false := by rw [← hW0]; simp [go_sem]
    have zs : w.heap.size + 1 + 1 < W0.heap.size := by rw [← hW0]; simp
    have zb : Below w.heap.size w W0 := by rw [← hW0]; exact below_step (below_step (below_new _ _) (below_new _ _)) (below_new _ _)
    rw [hW0]
    clear hW0
    have g0 := ha.to zb
    have g1 := hb.to zb
    refine (nat_sub _ _ la lb _ g0 g1 (by omega) hle).mono ?_
    rintro e w2 ⟨v2, rfl, hv2, hb2⟩
    obtain ⟨a2_, n2_, c2_, rfl, _, _⟩ := hv2.rd.open
    have x0_0 := (hb2.cell (p := ⟨w.heap.size, 0, none⟩) (by show w.heap.size < W0.heap.size; omega)).trans z0_0
    have y0_0 := (hb2.frozen (p := ⟨w.heap.size, 0, none⟩) (by show w.heap.size < W0.heap.size; omega)).trans q0_0
    have x0_1 := (hb2.cell (p := ⟨w.heap.size, 1, none⟩) (by show w.heap.size < W0.heap.size; omega)).trans z0_1
    have y0_1 := (hb2.frozen (p := ⟨w.heap.size, 1, none⟩) (by show w.heap.size < W0.heap.size; omega)).trans q0_1
    have x1_0 := (hb2.cell (p := ⟨w.heap.size + 1, 0, none⟩) (by show w.heap.size + 1 < W0.heap.size; omega)).trans z1_0
    have y1_0 := (hb2.frozen (p := ⟨w.heap.size + 1, 0, none⟩) (by show w.heap.size + 1 < W0.heap.size; omega)).trans q1_0
    have x1_1 := (hb2.cell (p := ⟨w.heap.size + 1, 1, none⟩) (by show w.heap.size + 1 < W0.heap.size; omega)).trans z1_1
    have y1_1 := (hb2.frozen (p := ⟨w.heap.size + 1, 1, none⟩) (by show w.heap.size + 1 < W0.heap.size; omega)).trans q1_1
    have x2_0 := (hb2.cell (p := ⟨w.heap.size + 1 + 1, 0, none⟩) (by show w.heap.size + 1 + 1 < W0.heap.size; omega)).trans z2_0
    have y2_0 := (hb2.frozen (p := ⟨w.heap.size + 1 + 1, 0, none⟩) (by show w.heap.size + 1 + 1 < W0.heap.size; omega)).trans q2_0
    have x2_1 := (hb2.cell (p := ⟨w.heap.size + 1 + 1, 1, none⟩) (by show w.heap.size + 1 + 1 < W0.heap.size; omega)).trans z2_1
    have y2_1 := (hb2.frozen (p := ⟨w.heap.size + 1 + 1, 1, none⟩) (by show w.heap.size + 1 + 1 < W0.heap.size; omega)).trans q2_1
    go_wp2_with fail
    refine (whole_signed b _ _ _ hv2.rd (by rw [sz_def]; omega)).mono ?_
    rintro e w3 ⟨v3, rfl, hv3, hb3⟩
    obtain ⟨a3_, n3_, c3_, rfl, _, _⟩ := hv3.rd.open
    have hb03 := below_step hb2 hb3
    have x0_0r := (hb03.cell (p := ⟨w.heap.size, 0, none⟩) (by show w.heap.size < W0.heap.size; omega)).trans z0_0
    have y0_0r := (hb03.frozen (p := ⟨w.heap.size, 0, none⟩) (by show w.heap.size < W0.heap.size; omega)).trans q0_0
    have x0_1r := (hb03.cell (p := ⟨w.heap.size, 1, none⟩) (by show w.heap.size < W0.heap.size; omega)).trans z0_1
    have y0_1r := (hb03.frozen (p := ⟨w.heap.size, 1, none⟩) (by show w.heap.size < W0.heap.size; omega)).trans q0_1
    have x1_0r := (hb03.cell (p := ⟨w.heap.size + 1, 0, none⟩) (by show w.heap.size + 1 < W0.heap.size; omega)).trans z1_0
    have y1_0r := (hb03.frozen (p := ⟨w.heap.size + 1, 0, none⟩) (by show w.heap.size + 1 < W0.heap.size; omega)).trans q1_0
    have x1_1r := (hb03.cell (p := ⟨w.heap.size + 1, 1, none⟩) (by show w.heap.size + 1 < W0.heap.size; omega)).trans z1_1
    have y1_1r := (hb03.frozen (p := ⟨w.heap.size + 1, 1, none⟩) (by show w.heap.size + 1 < W0.heap.size; omega)).trans q1_1
    have x2_0r := (hb03.cell (p := ⟨w.heap.size + 1 + 1, 0, none⟩) (by show w.heap.size + 1 + 1 < W0.heap.size; omega)).trans z2_0
    have y2_0r := (hb03.frozen (p := ⟨w.heap.size + 1 + 1, 0, none⟩) (by show w.heap.size + 1 + 1 < W0.heap.size; omega)).trans q2_0
    have x2_1r := (hb03.cell (p := ⟨w.heap.size + 1 + 1, 1, none⟩) (by show w.heap.size + 1 + 1 < W0.heap.size; omega)).trans z2_1
    have y2_1r := (hb03.frozen (p := ⟨w.heap.size + 1 + 1, 1, none⟩) (by show w.heap.size + 1 + 1 < W0.heap.size; omega)).trans q2_1
    generalize hng : decide (sgn b (val (limbs (val la - val lb))) < 0) = ng
    have Hng := Lib.hid hng
    clear hng
    have zs' := zs
    replace hv3 := hv3.mono hb2.size
    go_wp2_with fail
    have e := Hng.out
    subst e
    obtain ⟨k0, k1⟩ := two_cells (x := .bool (decide (sgn b (val (limbs (val la - val lb))) < 0))) (y := .slice a3_ n3_ c3_) x2_0r x2_1r
    exact bodyPost_ret (results_I Tryz.results56 _ _ _ _ _ rfl k0 k1) rfl (finI zb (by omega) zs' hv3 hb03)
  · have hlt : val la < val lb := by omega
    rw [← sgn_more hbc hlt, show sgn c (val lb - val la) = sgn c (val (limbs (val lb - val la))) by rw [val_limbs]]
    go_enter Tryz.func56, Tryz.ntmps56
    go_wp2_with fail
    obtain ⟨W0, hW0⟩ : ∃ W0, ((w.alloc (.cells #[.bool b, .slice a0 n0 c0] 46)).alloc (.cells #[.bool c, .slice a1 n1 c1] 46)).alloc (.cells #[.bool false, .slice none 0 0] 46) = W0 := ⟨_, rfl⟩
    have z0_0 : W0.cell? ⟨w.heap.size, 0, none⟩ = some (.bool b) := by rw [← hW0]; simp [go_sem]
    have q0_0 : W0.frozen? ⟨w.heap.size, 0, none⟩ = false := by rw [← hW0]; simp [go_sem]
    have z0_1 : W0.cell? ⟨w.heap.size, 1, none⟩ = some (.slice a0 n0 c0) := by rw [← hW0]; simp [go_sem]
    have q0_1 : W0.frozen? ⟨w.heap.size, 1, none⟩ = false := by rw [← hW0]; simp [go_sem]
    have z1_0 : W0.cell? ⟨w.heap.size + 1, 0, none⟩ = some (.bool c) := by rw [← hW0]; simp [go_sem]
    have q1_0 : W0.frozen? ⟨w.heap.size + 1, 0, none⟩ = false := by rw [← hW0]; simp [go_sem]
    have z1_1 : W0.cell? ⟨w.heap.size + 1, 1, none⟩ = some (.slice a1 n1 c1) := by rw [← hW0]; simp [go_sem]
    have q1_1 : W0.frozen? ⟨w.heap.size + 1, 1, none⟩ = false := by rw [← hW0]; simp [go_sem]
    have z2_0 : W0.cell? ⟨w.heap.size + 1 + 1, 0, none⟩ = some (.bool false) := by rw [← hW0]; simp [go_sem]
    have q2_0 : W0.frozen? ⟨w.heap.size + 1 + 1, 0, none⟩ = false := by rw [← hW0]; simp [go_sem]
    have z2_1 : W0.cell? ⟨w.heap.size + 1 + 1, 1, none⟩ = some (.slice none 0 0) := by rw [← hW0]; simp [go_sem]
    have q2_1 : W0.frozen? ⟨w.heap.size + 1 + 1, 1, none⟩ = false := by rw [← hW0]; simp [go_sem]
    have zs : w.heap.size + 1 + 1 < W0.heap.size := by rw [← hW0]; simp
    have zb : Below w.heap.size w W0 := by rw [← hW0]; exact below_step (below_step (below_new _ _) (below_new _ _)) (below_new _ _)
    rw [hW0]
    clear hW0
    have g0 := ha.to zb
    have g1 := hb.to zb
    refine (nat_sub_no _ _ la lb _ g0 g1 hlt).mono ?_
    rintro e w1 ⟨rfl, hb1⟩
    have x0_0p := (hb1.cell (p := ⟨w.heap.size, 0, none⟩) (by show w.heap.size < W0.heap.size; omega)).trans z0_0
    have y0_0p := (hb1.frozen (p := ⟨w.heap.size, 0, none⟩) (by show w.heap.size < W0.heap.size; omega)).trans q0_0
    have x0_1p := (hb1.cell (p := ⟨w.heap.size, 1, none⟩) (by show w.heap.size < W0.heap.size; omega)).trans z0_1
    have y0_1p := (hb1.frozen (p := ⟨w.heap.size, 1, none⟩) (by show w.heap.size < W0.heap.size; omega)).trans q0_1
    have x1_0p := (hb1.cell (p := ⟨w.heap.size + 1, 0, none⟩) (by show w.heap.size + 1 < W0.heap.size; omega)).trans z1_0
    have y1_0p := (hb1.frozen (p := ⟨w.heap.size + 1, 0, none⟩) (by show w.heap.size + 1 < W0.heap.size; omega)).trans q1_0
    have x1_1p := (hb1.cell (p := ⟨w.heap.size + 1, 1, none⟩) (by show w.heap.size + 1 < W0.heap.size; omega)).trans z1_1
    have y1_1p := (hb1.frozen (p := ⟨w.heap.size + 1, 1, none⟩) (by show w.heap.size + 1 < W0.heap.size; omega)).trans q1_1
    have x2_0p := (hb1.cell (p := ⟨w.heap.size + 1 + 1, 0, none⟩) (by show w.heap.size + 1 + 1 < W0.heap.size; omega)).trans z2_0
    have y2_0p := (hb1.frozen (p := ⟨w.heap.size + 1 + 1, 0, none⟩) (by show w.heap.size + 1 + 1 < W0.heap.size; omega)).trans q2_0
    have x2_1p := (hb1.cell (p := ⟨w.heap.size + 1 + 1, 1, none⟩) (by show w.heap.size + 1 + 1 < W0.heap.size; omega)).trans z2_1
    have y2_1p := (hb1.frozen (p := ⟨w.heap.size + 1 + 1, 1, none⟩) (by show w.heap.size + 1 + 1 < W0.heap.size; omega)).trans q2_1
    go_wp2_with fail
    refine (nat_sub _ _ lb la _ (g1.to hb1) (g0.to hb1) (by omega) (by omega)).mono ?_
    rintro e w2 ⟨v2, rfl, hv2, hb2⟩
    obtain ⟨a2_, n2_, c2_, rfl, _, _⟩ := hv2.rd.open
    have hb02 := below_step hb1 hb2
    clear x0_0p y0_0p x0_1p y0_1p x1_0p y1_0p x1_1p y1_1p x2_0p y2_0p x2_1p y2_1p
    have x0_0 := (hb02.cell (p := ⟨w.heap.size, 0, none⟩) (by show w.heap.size < W0.heap.size; omega)).trans z0_0
    have y0_0 := (hb02.frozen (p := ⟨w.heap.size, 0, none⟩) (by show w.heap.size < W0.heap.size; omega)).trans q0_0
    have x0_1 := (hb02.cell (p := ⟨w.heap.size, 1, none⟩) (by show w.heap.size < W0.heap.size; omega)).trans z0_1
    have y0_1 := (hb02.frozen (p := ⟨w.heap.size, 1, none⟩) (by show w.heap.size < W0.heap.size; omega)).trans q0_1
    have x1_0 := (hb02.cell (p := ⟨w.heap.size + 1, 0, none⟩) (by show w.heap.size + 1 < W0.heap.size; omega)).trans z1_0
    have y1_0 := (hb02.frozen (p := ⟨w.heap.size + 1, 0, none⟩) (by show w.heap.size + 1 < W0.heap.size; omega)).trans q1_0
    have x1_1 := (hb02.cell (p := ⟨w.heap.size + 1, 1, none⟩) (by show w.heap.size + 1 < W0.heap.size; omega)).trans z1_1
    have y1_1 := (hb02.frozen (p := ⟨w.heap.size + 1, 1, none⟩) (by show w.heap.size + 1 < W0.heap.size; omega)).trans q1_1
    have x2_0 := (hb02.cell (p := ⟨w.heap.size + 1 + 1, 0, none⟩) (by show w.heap.size + 1 + 1 < W0.heap.size; omega)).trans z2_0
    have y2_0 := (hb02.frozen (p := ⟨w.heap.size + 1 + 1, 0, none⟩) (by show w.heap.size + 1 + 1 < W0.heap.size; omega)).trans q2_0
    have x2_1 := (hb02.cell (p := ⟨w.heap.size + 1 + 1, 1, none⟩) (by show w.heap.size + 1 + 1 < W0.heap.size; omega)).trans z2_1
    have y2_1 := (hb02.frozen (p := ⟨w.heap.size + 1 + 1, 1, none⟩) (by show w.heap.size + 1 + 1 < W0.heap.size; omega)).trans q2_1
    go_wp2_with fail
    refine (whole_signed c _ _ _ hv2.rd (by rw [sz_def]; omega)).mono ?_
    rintro e w3 ⟨v3, rfl, hv3, hb3⟩
    obtain ⟨a3_, n3_, c3_, rfl, _, _⟩ := hv3.rd.open
    have hb03 := below_step hb02 hb3
    have x0_0r := (hb03.cell (p := ⟨w.heap.size, 0, none⟩) (by show w.heap.size < W0.heap.size; omega)).trans z0_0
    have y0_0r := (hb03.frozen (p := ⟨w.heap.size, 0, none⟩) (by show w.heap.size < W0.heap.size; omega)).trans q0_0
    have x0_1r := (hb03.cell (p := ⟨w.heap.size, 1, none⟩) (by show w.heap.size < W0.heap.size; omega)).trans z0_1
    have y0_1r := (hb03.frozen (p := ⟨w.heap.size, 1, none⟩) (by show w.heap.size < W0.heap.size; omega)).trans q0_1
    have x1_0r := (hb03.cell (p := ⟨w.heap.size + 1, 0, none⟩) (by show w.heap.size + 1 < W0.heap.size; omega)).trans z1_0
    have y1_0r := (hb03.frozen (p := ⟨w.heap.size + 1, 0, none⟩) (by show w.heap.size + 1 < W0.heap.size; omega)).trans q1_0
    have x1_1r := (hb03.cell (p := ⟨w.heap.size + 1, 1, none⟩) (by show w.heap.size + 1 < W0.heap.size; omega)).trans z1_1
    have y1_1r := (hb03.frozen (p := ⟨w.heap.size + 1, 1, none⟩) (by show w.heap.size + 1 < W0.heap.size; omega)).trans q1_1
    have x2_0r := (hb03.cell (p := ⟨w.heap.size + 1 + 1, 0, none⟩) (by show w.heap.size + 1 + 1 < W0.heap.size; omega)).trans z2_0
    have y2_0r := (hb03.frozen (p := ⟨w.heap.size + 1 + 1, 0, none⟩) (by show w.heap.size + 1 + 1 < W0.heap.size; omega)).trans q2_0
    have x2_1r := (hb03.cell (p := ⟨w.heap.size + 1 + 1, 1, none⟩) (by show w.heap.size + 1 + 1 < W0.heap.size; omega)).trans z2_1
    have y2_1r := (hb03.frozen (p := ⟨w.heap.size + 1 + 1, 1, none⟩) (by show w.heap.size + 1 + 1 < W0.heap.size; omega)).trans q2_1
    generalize hng : decide (sgn c (val (limbs (val lb - val la))) < 0) = ng
    have Hng := Lib.hid hng
    clear hng
    have zs' := zs
    replace hv3 := hv3.mono hb02.size
    go_wp2_with fail
    have e := Hng.out
    subst e
    obtain ⟨k0, k1⟩ := two_cells (x := .bool (decide (sgn c (val (limbs (val lb - val la))) < 0))) (y := .slice a3_ n3_ c3_) x2_0r x2_1r
    exact bodyPost_ret (results_I Tryz.results56 _ _ _ _ _ rfl k0 k1) rfl (finI zb (by omega) zs' hv3 hb03)

set_option maxRecDepth 100000 in
set_option maxHeartbeats 2000000 in
theorem whole_add (b c : Bool) (va vb : Value) (la lb : List Nat) (w : World) (ha : Rd w va la) (hb : Rd w vb lb) (hla : la.length ≤ 400000) (hlb : lb.length ≤ 400000) :
    Calls Tryz.prog 34 #[aggI b va, aggI c vb] w (GivesI w (sgn b (val la) + sgn c (val lb))) := by
  have hsa := sz_val ha.1
  have hsb := sz_val hb.1
  have hs := sz_add (val la) (val lb)
  have hm := sz_mul (val la) (val lb)
  have hd1 := sz_sub (val la) (val lb)
  have hd2 := sz_sub (val lb) (val la)
  obtain ⟨a0, n0, c0, rfl, _, _⟩ := ha.open
  obtain ⟨a1, n1, c1, rfl, _, _⟩ := hb.open
  by_cases hbc : b = c
  · subst hbc
    rw [← sgn_same]
    go_enter Tryz.func34, Tryz.ntmps34
    go_wp2_with fail
    obtain ⟨W0, hW0⟩ : ∃ W0, (((w.alloc (.cells #[.bool b, .slice a0 n0 c0] 46)).alloc (.cells #[.bool b, .slice a1 n1 c1] 46)).alloc (.cells #[.bool false, .slice none 0 0] 46)).alloc (.cells #[.func (.func 57) #[] #[]] 74) = W0 := ⟨_, rfl⟩
    have z0_0 : W0.cell? ⟨w.heap.size, 0, none⟩ = some (.bool b) := by rw [← hW0]; simp [go_sem]
    have q0_0 : W0.frozen? ⟨w.heap.size, 0, none⟩ = false := by rw [← hW0]; simp [go_sem]
    have z0_1 : W0.cell? ⟨w.heap.size, 1, none⟩ = some (.slice a0 n0 c0) := by rw [← hW0]; simp [go_sem]
    have q0_1 : W0.frozen? ⟨w.heap.size, 1, none⟩ = false := by rw [← hW0]; simp [go_sem]
    have z1_0 : W0.cell? ⟨w.heap.size + 1, 0, none⟩ = some (.bool b) := by rw [← hW0]; simp [go_sem]
    have q1_0 : W0.frozen? ⟨w.heap.size + 1, 0, none⟩ = false := by rw [← hW0]; simp [go_sem]
    have z1_1 : W0.cell? ⟨w.heap.size + 1, 1, none⟩ = some (.slice a1 n1 c1) := by rw [← hW0]; simp [go_sem]
    have q1_1 : W0.frozen? ⟨w.heap.size + 1, 1, none⟩ = false := by rw [← hW0]; simp [go_sem]
    have z2_0 : W0.cell? ⟨w.heap.size + 1 + 1, 0, none⟩ = some (.bool false) := by rw [← hW0]; simp [go_sem]
    have q2_0 : W0.frozen? ⟨w.heap.size + 1 + 1, 0, none⟩ = false := by rw [← hW0]; simp [go_sem]
    have z2_1 : W0.cell? ⟨w.heap.size + 1 + 1, 1, none⟩ = some (.slice none 0 0) := by rw [← hW0]; simp [go_sem]
    have q2_1 : W0.frozen? ⟨w.heap.size + 1 + 1, 1, none⟩ = false := by rw [← hW0]; simp [go_sem]
    have z3_0 : W0.cell? ⟨w.heap.size + 1 + 1 + 1, 0, none⟩ = some (.func (.func 57) #[] #[]) := by rw [← hW0]; simp [go_sem]
    have q3_0 : W0.frozen? ⟨w.heap.size + 1 + 1 + 1, 0, none⟩ = false := by rw [← hW0]; simp [go_sem]
    have zs : w.heap.size + 1 + 1 + 1 < W0.heap.size := by rw [← hW0]; simp
    have zb : Below w.heap.size w W0 := by rw [← hW0]; exact below_step (below_step (below_step (below_new _ _) (below_new _ _)) (below_new _ _)) (below_new _ _)
    rw [hW0]
    clear hW0
    have g0 := ha.to zb
    have g1 := hb.to zb
    have zs' : w.heap.size + 1 + 1 < W0.heap.size := by omega
    refine (whole_alike b b _ _ la lb _ g0 g1 hla hlb).mono ?_
    rintro e w3 ⟨v3, rfl, hv3, hb3⟩
    obtain ⟨a3_, n3_, c3_, rfl, _, _⟩ := hv3.rd.open
    have hb03 := hb3
    have x0_0r := (hb03.cell (p := ⟨w.heap.size, 0, none⟩) (by show w.heap.size < W0.heap.size; omega)).trans z0_0
    have y0_0r := (hb03.frozen (p := ⟨w.heap.size, 0, none⟩) (by show w.heap.size < W0.heap.size; omega)).trans q0_0
    have x0_1r := (hb03.cell (p := ⟨w.heap.size, 1, none⟩) (by show w.heap.size < W0.heap.size; omega)).trans z0_1
    have y0_1r := (hb03.frozen (p := ⟨w.heap.size, 1, none⟩) (by show w.heap.size < W0.heap.size; omega)).trans q0_1
    have x1_0r := (hb03.cell (p := ⟨w.heap.size + 1, 0, none⟩) (by show w.heap.size + 1 < W0.heap.size; omega)).trans z1_0
    have y1_0r := (hb03.frozen (p := ⟨w.heap.size + 1, 0, none⟩) (by show w.heap.size + 1 < W0.heap.size; omega)).trans q1_0
    have x1_1r := (hb03.cell (p := ⟨w.heap.size + 1, 1, none⟩) (by show w.heap.size + 1 < W0.heap.size; omega)).trans z1_1
    have y1_1r := (hb03.frozen (p := ⟨w.heap.size + 1, 1, none⟩) (by show w.heap.size + 1 < W0.heap.size; omega)).trans q1_1
    have x2_0r := (hb03.cell (p := ⟨w.heap.size + 1 + 1, 0, none⟩) (by show w.heap.size + 1 + 1 < W0.heap.size; omega)).trans z2_0
    have y2_0r := (hb03.frozen (p := ⟨w.heap.size + 1 + 1, 0, none⟩) (by show w.heap.size + 1 + 1 < W0.heap.size; omega)).trans q2_0
    have x2_1r := (hb03.cell (p := ⟨w.heap.size + 1 + 1, 1, none⟩) (by show w.heap.size + 1 + 1 < W0.heap.size; omega)).trans z2_1
    have y2_1r := (hb03.frozen (p := ⟨w.heap.size + 1 + 1, 1, none⟩) (by show w.heap.size + 1 + 1 < W0.heap.size; omega)).trans q2_1
    have x3_0r := (hb03.cell (p := ⟨w.heap.size + 1 + 1 + 1, 0, none⟩) (by show w.heap.size + 1 + 1 + 1 < W0.heap.size; omega)).trans z3_0
    have y3_0r := (hb03.frozen (p := ⟨w.heap.size + 1 + 1 + 1, 0, none⟩) (by show w.heap.size + 1 + 1 + 1 < W0.heap.size; omega)).trans q3_0
    generalize hng : decide (sgn b (val la + val lb) < 0) = ng
    have Hng := Lib.hid hng
    clear hng
    go_wp2_with fail
    have e := Hng.out
    subst e
    obtain ⟨k0, k1⟩ := two_cells (x := .bool (decide (sgn b (val la + val lb) < 0))) (y := .slice a3_ n3_ c3_) x2_0r x2_1r
    exact bodyPost_ret (results_I Tryz.results34 _ _ _ _ _ rfl k0 k1) rfl (finI zb (by omega) zs' hv3 hb03)
  · have hbe : (b == c) = false := beq_eq_false_iff_ne.2 hbc
    go_enter Tryz.func34, Tryz.ntmps34
    go_wp2_with fail
    obtain ⟨W0, hW0⟩ : ∃ W0, (((w.alloc (.cells #[.bool b, .slice a0 n0 c0] 46)).alloc (.cells #[.bool c, .slice a1 n1 c1] 46)).alloc (.cells #[.bool false, .slice none 0 0] 46)).alloc (.cells #[.func (.func 56) #[] #[]] 74) = W0 := ⟨_, rfl⟩
    have z0_0 : W0.cell? ⟨w.heap.size, 0, none⟩ = some (.bool b) := by rw [← hW0]; simp [go_sem]
    have q0_0 : W0.frozen? ⟨w.heap.size, 0, none⟩ = false := by rw [← hW0]; simp [go_sem]
    have z0_1 : W0.cell? ⟨w.heap.size, 1, none⟩ = some (.slice a0 n0 c0) := by rw [← hW0]; simp [go_sem]
    have q0_1 : W0.frozen? ⟨w.heap.size, 1, none⟩ = false := by rw [← hW0]; simp [go_sem]
    have z1_0 : W0.cell? ⟨w.heap.size + 1, 0, none⟩ = some (.bool c) := by rw [← hW0]; simp [go_sem]
    have q1_0 : W0.frozen? ⟨w.heap.size + 1, 0, none⟩ = false := by rw [← hW0]; simp [go_sem]
    have z1_1 : W0.cell? ⟨w.heap.size + 1, 1, none⟩ = some (.slice a1 n1 c1) := by rw [← hW0]; simp [go_sem]
    have q1_1 : W0.frozen? ⟨w.heap.size + 1, 1, none⟩ = false := by rw [← hW0]; simp [go_sem]
    have z2_0 : W0.cell? ⟨w.heap.size + 1 + 1, 0, none⟩ = some (.bool false) := by rw [← hW0]; simp [go_sem]
    have q2_0 : W0.frozen? ⟨w.heap.size + 1 + 1, 0, none⟩ = false := by rw [← hW0]; simp [go_sem]
    have z2_1 : W0.cell? ⟨w.heap.size + 1 + 1, 1, none⟩ = some (.slice none 0 0) := by rw [← hW0]; simp [go_sem]
    have q2_1 : W0.frozen? ⟨w.heap.size + 1 + 1, 1, none⟩ = false := by rw [← hW0]; simp [go_sem]
    have z3_0 : W0.cell? ⟨w.heap.size + 1 + 1 + 1, 0, none⟩ = some (.func (.func 56) #[] #[]) := by rw [← hW0]; simp [go_sem]
    have q3_0 : W0.frozen? ⟨w.heap.size + 1 + 1 + 1, 0, none⟩ = false := by rw [← hW0]; simp [go_sem]
    have zs : w.heap.size + 1 + 1 + 1 < W0.heap.size := by rw [← hW0]; simp
    have zb : Below w.heap.size w W0 := by rw [← hW0]; exact below_step (below_step (below_step (below_new _ _) (below_new _ _)) (below_new _ _)) (below_new _ _)
    rw [hW0]
    clear hW0
    have g0 := ha.to zb
    have g1 := hb.to zb
    have zs' : w.heap.size + 1 + 1 < W0.heap.size := by omega
    refine (whole_unlike b c _ _ la lb _ g0 g1 hla hlb hbc).mono ?_
    rintro e w3 ⟨v3, rfl, hv3, hb3⟩
    obtain ⟨a3_, n3_, c3_, rfl, _, _⟩ := hv3.rd.open
    have hb03 := hb3
    have x0_0r := (hb03.cell (p := ⟨w.heap.size, 0, none⟩) (by show w.heap.size < W0.heap.size; omega)).trans z0_0
    have y0_0r := (hb03.frozen (p := ⟨w.heap.size, 0, none⟩) (by show w.heap.size < W0.heap.size; omega)).trans q0_0
    have x0_1r := (hb03.cell (p := ⟨w.heap.size, 1, none⟩) (by show w.heap.size < W0.heap.size; omega)).trans z0_1
    have y0_1r := (hb03.frozen (p := ⟨w.heap.size, 1, none⟩) (by show w.heap.size < W0.heap.size; omega)).trans q0_1
    have x1_0r := (hb03.cell (p := ⟨w.heap.size + 1, 0, none⟩) (by show w.heap.size + 1 < W0.heap.size; omega)).trans z1_0
    have y1_0r := (hb03.frozen (p := ⟨w.heap.size + 1, 0, none⟩) (by show w.heap.size + 1 < W0.heap.size; omega)).trans q1_0
    have x1_1r := (hb03.cell (p := ⟨w.heap.size + 1, 1, none⟩) (by show w.heap.size + 1 < W0.heap.size; omega)).trans z1_1
    have y1_1r := (hb03.frozen (p := ⟨w.heap.size + 1, 1, none⟩) (by show w.heap.size + 1 < W0.heap.size; omega)).trans q1_1
    have x2_0r := (hb03.cell (p := ⟨w.heap.size + 1 + 1, 0, none⟩) (by show w.heap.size + 1 + 1 < W0.heap.size; omega)).trans z2_0
    have y2_0r := (hb03.frozen (p := ⟨w.heap.size + 1 + 1, 0, none⟩) (by show w.heap.size + 1 + 1 < W0.heap.size; omega)).trans q2_0
    have x2_1r := (hb03.cell (p := ⟨w.heap.size + 1 + 1, 1, none⟩) (by show w.heap.size + 1 + 1 < W0.heap.size; omega)).trans z2_1
    have y2_1r := (hb03.frozen (p := ⟨w.heap.size + 1 + 1, 1, none⟩) (by show w.heap.size + 1 + 1 < W0.heap.size; omega)).trans q2_1
    have x3_0r := (hb03.cell (p := ⟨w.heap.size + 1 + 1 + 1, 0, none⟩) (by show w.heap.size + 1 + 1 + 1 < W0.heap.size; omega)).trans z3_0
    have y3_0r := (hb03.frozen (p := ⟨w.heap.size + 1 + 1 + 1, 0, none⟩) (by show w.heap.size + 1 + 1 + 1 < W0.heap.size; omega)).trans q3_0
    generalize hng : decide (sgn b (val la) + sgn c (val lb) < 0) = ng
    have Hng := Lib.hid hng
    clear hng
    go_wp2_with fail
    have e := Hng.out
    subst e
    obtain ⟨k0, k1⟩ := two_cells (x := .bool (decide (sgn b (val la) + sgn c (val lb) < 0))) (y := .slice a3_ n3_ c3_) x2_0r x2_1r
    exact bodyPost_ret (results_I Tryz.results34 _ _ _ _ _ rfl k0 k1) rfl (finI zb (by omega) zs' hv3 hb03)

end Go.Proofs.YtmjnlpanlgmdmaaGreat


namespace Go.Proofs.YtmjnlpanlgmdmaaGreat
open Go.RowKit Tw
set_option linter.unusedVariables false
set_option linter.unusedSimpArgs false
attribute [local go_sem ↓] Go.wp_at_zero Go.wp_at_succ

theorem finI2 {w w2 : World} {B rb : Nat} {z : Int} {v : Value} (hb0 : Below w.heap.size w w2) (hrb : w.heap.size ≤ rb) (hrb1 : rb < B) (hB : w.heap.size ≤ B) (hv : Own B w2 v (limbs z.natAbs)) :
    GivesI w z (.returned (aggI (decide (z < 0)) v)) ((w2.setCell ⟨rb, 0, none⟩ (.bool (decide (z < 0)))).setCell ⟨rb, 1, none⟩ v) :=
  ⟨v, rfl, ((hv.setOther (p := ⟨rb, 0, none⟩) hrb1 _).setOther (p := ⟨rb, 1, none⟩) hrb1 _).mono hB, (hb0.setCell (p := ⟨rb, 0, none⟩) hrb _).setCell (p := ⟨rb, 1, none⟩) hrb _⟩

set_option maxRecDepth 100000 in
set_option maxHeartbeats 8000000 in
theorem whole_sub (b c : Bool) (va vb : Value) (la lb : List Nat) (w : World) (ha : Rd w va la) (hb : Rd w vb lb) (hla : la.length ≤ 100000) (hlb : lb.length ≤ 100000) :
    Calls Tryz.prog 65 #[aggI b va, aggI c vb] w (GivesI w (sgn b (val la) - sgn c (val lb))) := by
  have hsa := sz_val ha.1
  have hsb := sz_val hb.1
  have hs := sz_add (val la) (val lb)
  have hm := sz_mul (val la) (val lb)
  have hd1 := sz_sub (val la) (val lb)
  have hd2 := sz_sub (val lb) (val la)
  have hlen : (limbs (-sgn c (val lb)).natAbs).length ≤ 400000 := by rw [sz_def, Int.natAbs_neg, sgn_abs]; omega
  rw [show sgn b (val la) - sgn c (val lb) = sgn b (val la) + sgn (decide (-sgn c (val lb) < 0)) (val (limbs (-sgn c (val lb)).natAbs)) by rw [val_limbs, sgn_canon]; omega]
  obtain ⟨a0, n0, c0, rfl, H0, hm0⟩ := ha.open
  obtain ⟨a1, n1, c1, rfl, H1, hm1⟩ := hb.open
  go_enter Tryz.func65, Tryz.ntmps65
  go_wp2_with fail
  obtain ⟨W0, hW0⟩ : ∃ W0, ((w.alloc (.cells #[.bool b, .slice a0 n0 c0] 46)).alloc (.cells #[.bool c, .slice a1 n1 c1] 46)).alloc (.cells #[.bool false, .slice none 0 0] 46) = W0 := ⟨_, rfl⟩
  have x0_0 : W0.cell? ⟨w.heap.size, 0, none⟩ = some (.bool b) := by rw [← hW0]; simp [go_sem]
  have y0_0 : W0.frozen? ⟨w.heap.size, 0, none⟩ = false := by rw [← hW0]; simp [go_sem]
  have x0_1 : W0.cell? ⟨w.heap.size, 1, none⟩ = some (.slice a0 n0 c0) := by rw [← hW0]; simp [go_sem]
  have y0_1 : W0.frozen? ⟨w.heap.size, 1, none⟩ = false := by rw [← hW0]; simp [go_sem]
  have x1_0 : W0.cell? ⟨w.heap.size + 1, 0, none⟩ = some (.bool c) := by rw [← hW0]; simp [go_sem]
  have y1_0 : W0.frozen? ⟨w.heap.size + 1, 0, none⟩ = false := by rw [← hW0]; simp [go_sem]
  have x1_1 : W0.cell? ⟨w.heap.size + 1, 1, none⟩ = some (.slice a1 n1 c1) := by rw [← hW0]; simp [go_sem]
  have y1_1 : W0.frozen? ⟨w.heap.size + 1, 1, none⟩ = false := by rw [← hW0]; simp [go_sem]
  have x2_0 : W0.cell? ⟨w.heap.size + 1 + 1, 0, none⟩ = some (.bool false) := by rw [← hW0]; simp [go_sem]
  have y2_0 : W0.frozen? ⟨w.heap.size + 1 + 1, 0, none⟩ = false := by rw [← hW0]; simp [go_sem]
  have x2_1 : W0.cell? ⟨w.heap.size + 1 + 1, 1, none⟩ = some (.slice none 0 0) := by rw [← hW0]; simp [go_sem]
  have y2_1 : W0.frozen? ⟨w.heap.size + 1 + 1, 1, none⟩ = false := by rw [← hW0]; simp [go_sem]
  have zs : w.heap.size + 1 + 1 < W0.heap.size := by rw [← hW0]; simp
  have zb : Below w.heap.size w W0 := by rw [← hW0]; exact below_step (below_step (below_new _ _) (below_new _ _)) (below_new _ _)
  rw [hW0]
  clear hW0
  have g0 := ha.to zb
  have g1 := hb.to zb
  go_region_with (first
    | (go_at_call 86; have g0 := g0.drew; have g1 := g1.drew; have zb := zb.drew; refine (whole_neg c _ lb _ g1 (by omega)).mono ?_; rintro e w2 ⟨v2, rfl, hv2, hb2⟩; obtain ⟨a2_, n2_, c2_, rfl, H2, hm2⟩ := hv2.rd.open; have hr_w2 : w.heap.size + 1 + 1 < W0.heap.size := (by omega); have hw_w2 : w.heap.size ≤ W0.heap.size := (by omega); have x0_0 := (hb2.cell (p := ⟨w.heap.size, 0, none⟩) (by show w.heap.size < W0.heap.size; omega)).trans x0_0; have y0_0 := (hb2.frozen (p := ⟨w.heap.size, 0, none⟩) (by show w.heap.size < W0.heap.size; omega)).trans y0_0; have x0_1 := (hb2.cell (p := ⟨w.heap.size, 1, none⟩) (by show w.heap.size < W0.heap.size; omega)).trans x0_1; have y0_1 := (hb2.frozen (p := ⟨w.heap.size, 1, none⟩) (by show w.heap.size < W0.heap.size; omega)).trans y0_1; have x1_0 := (hb2.cell (p := ⟨w.heap.size + 1, 0, none⟩) (by show w.heap.size + 1 < W0.heap.size; omega)).trans x1_0; have y1_0 := (hb2.frozen (p := ⟨w.heap.size + 1, 0, none⟩) (by show w.heap.size + 1 < W0.heap.size; omega)).trans y1_0; have x1_1 := (hb2.cell (p := ⟨w.heap.size + 1, 1, none⟩) (by show w.heap.size + 1 < W0.heap.size; omega)).trans x1_1; have y1_1 := (hb2.frozen (p := ⟨w.heap.size + 1, 1, none⟩) (by show w.heap.size + 1 < W0.heap.size; omega)).trans y1_1; have x2_0 := (hb2.cell (p := ⟨w.heap.size + 1 + 1, 0, none⟩) (by show w.heap.size + 1 + 1 < W0.heap.size; omega)).trans x2_0; have y2_0 := (hb2.frozen (p := ⟨w.heap.size + 1 + 1, 0, none⟩) (by show w.heap.size + 1 + 1 < W0.heap.size; omega)).trans y2_0; have x2_1 := (hb2.cell (p := ⟨w.heap.size + 1 + 1, 1, none⟩) (by show w.heap.size + 1 + 1 < W0.heap.size; omega)).trans x2_1; have y2_1 := (hb2.frozen (p := ⟨w.heap.size + 1 + 1, 1, none⟩) (by show w.heap.size + 1 + 1 < W0.heap.size; omega)).trans y2_1; have zs := Nat.lt_of_lt_of_le zs hb2.size; have g0 := g0.to hb2; have g1 := g1.to hb2; have zb := below_step zb hb2; have g2 := hv2.rd; generalize hng2 : decide (-sgn c (val lb) < 0) = ng2; have Hng2 := Lib.hid hng2; clear hng2)
    | (go_at_call 34; refine (whole_add b ng2 _ _ la _ _ g0 g2 (by omega) hlen).mono ?_; rintro e w3 ⟨v3, rfl, hv3, hb3⟩; obtain ⟨a3_, n3_, c3_, rfl, H3, hm3⟩ := hv3.rd.open; have hr_w3 : w.heap.size + 1 + 1 < w2.heap.size := (by omega); have hw_w3 : w.heap.size ≤ w2.heap.size := (by omega); have x0_0 := (hb3.cell (p := ⟨w.heap.size, 0, none⟩) (by show w.heap.size < w2.heap.size; omega)).trans x0_0; have y0_0 := (hb3.frozen (p := ⟨w.heap.size, 0, none⟩) (by show w.heap.size < w2.heap.size; omega)).trans y0_0; have x0_1 := (hb3.cell (p := ⟨w.heap.size, 1, none⟩) (by show w.heap.size < w2.heap.size; omega)).trans x0_1; have y0_1 := (hb3.frozen (p := ⟨w.heap.size, 1, none⟩) (by show w.heap.size < w2.heap.size; omega)).trans y0_1; have x1_0 := (hb3.cell (p := ⟨w.heap.size + 1, 0, none⟩) (by show w.heap.size + 1 < w2.heap.size; omega)).trans x1_0; have y1_0 := (hb3.frozen (p := ⟨w.heap.size + 1, 0, none⟩) (by show w.heap.size + 1 < w2.heap.size; omega)).trans y1_0; have x1_1 := (hb3.cell (p := ⟨w.heap.size + 1, 1, none⟩) (by show w.heap.size + 1 < w2.heap.size; omega)).trans x1_1; have y1_1 := (hb3.frozen (p := ⟨w.heap.size + 1, 1, none⟩) (by show w.heap.size + 1 < w2.heap.size; omega)).trans y1_1; have x2_0 := (hb3.cell (p := ⟨w.heap.size + 1 + 1, 0, none⟩) (by show w.heap.size + 1 + 1 < w2.heap.size; omega)).trans x2_0; have y2_0 := (hb3.frozen (p := ⟨w.heap.size + 1 + 1, 0, none⟩) (by show w.heap.size + 1 + 1 < w2.heap.size; omega)).trans y2_0; have x2_1 := (hb3.cell (p := ⟨w.heap.size + 1 + 1, 1, none⟩) (by show w.heap.size + 1 + 1 < w2.heap.size; omega)).trans x2_1; have y2_1 := (hb3.frozen (p := ⟨w.heap.size + 1 + 1, 1, none⟩) (by show w.heap.size + 1 + 1 < w2.heap.size; omega)).trans y2_1; have zs := Nat.lt_of_lt_of_le zs hb3.size; have g0 := g0.to hb3; have g1 := g1.to hb3; have g2 := g2.to hb3; have zb := below_step zb hb3; have g3 := hv3.rd; generalize hng3 : decide (sgn b (val la) + sgn ng2 (val (limbs (-sgn c (val lb)).natAbs)) < 0) = ng3; have Hng3 := Lib.hid hng3; clear hng3))
  all_goals
    go_wp2_with fail
    have e3 := Hng3.out
    subst e3
    have e2 := Hng2.out
    subst e2
    obtain ⟨k0, k1⟩ := two_cells (x := .bool (decide (sgn b (val la) + sgn (decide (-sgn c (val lb) < 0)) (val (limbs (-sgn c (val lb)).natAbs)) < 0))) (y := .slice a3_ n3_ c3_) x2_0 x2_1
    exact bodyPost_ret (results_I Tryz.results65 _ _ _ _ _ rfl k0 k1) rfl (finI2 zb (by omega) hr_w3 hw_w3 hv3)

set_option maxRecDepth 100000 in
set_option maxHeartbeats 8000000 in
theorem whole_cmp (b c : Bool) (va vb : Value) (la lb : List Nat) (w : World) (ha : Rd w va la) (hb : Rd w vb lb) (hla : la.length ≤ 100000) (hlb : lb.length ≤ 100000) :
    Calls Tryz.prog 41 #[aggI b va, aggI c vb] w (fun e w' => e = .returned (.int .i64 (cmpZ (sgn b (val la)) (sgn c (val lb)))) ∧ Below w.heap.size w w') := by
  obtain ⟨r, hr⟩ : ∃ r, cmpZ (sgn b (val la)) (sgn c (val lb)) = r := ⟨_, rfl⟩
  rw [hr]
  obtain ⟨a0, n0, c0, rfl, H0, hm0⟩ := ha.open
  obtain ⟨a1, n1, c1, rfl, H1, hm1⟩ := hb.open
  go_enter Tryz.func41, Tryz.ntmps41
  go_wp2_with fail
  obtain ⟨W0, hW0⟩ : ∃ W0, (w.alloc (.cells #[.bool b, .slice a0 n0 c0] 46)).alloc (.cells #[.bool c, .slice a1 n1 c1] 46) = W0 := ⟨_, rfl⟩
  have x0_0 : W0.cell? ⟨w.heap.size, 0, none⟩ = some (.bool b) := by rw [← hW0]; simp [go_sem]
  have y0_0 : W0.frozen? ⟨w.heap.size, 0, none⟩ = false := by rw [← hW0]; simp [go_sem]
  have x0_1 : W0.cell? ⟨w.heap.size, 1, none⟩ = some (.slice a0 n0 c0) := by rw [← hW0]; simp [go_sem]
  have y0_1 : W0.frozen? ⟨w.heap.size, 1, none⟩ = false := by rw [← hW0]; simp [go_sem]
  have x1_0 : W0.cell? ⟨w.heap.size + 1, 0, none⟩ = some (.bool c) := by rw [← hW0]; simp [go_sem]
  have y1_0 : W0.frozen? ⟨w.heap.size + 1, 0, none⟩ = false := by rw [← hW0]; simp [go_sem]
  have x1_1 : W0.cell? ⟨w.heap.size + 1, 1, none⟩ = some (.slice a1 n1 c1) := by rw [← hW0]; simp [go_sem]
  have y1_1 : W0.frozen? ⟨w.heap.size + 1, 1, none⟩ = false := by rw [← hW0]; simp [go_sem]
  have zs : w.heap.size + 1 < W0.heap.size := by rw [← hW0]; simp
  have zb : Below w.heap.size w W0 := by rw [← hW0]; exact below_step (below_new _ _) (below_new _ _)
  rw [hW0]
  clear hW0
  have g0 := ha.to zb
  have g1 := hb.to zb
  refine (whole_sub b c _ _ la lb _ g0 g1 hla hlb).mono ?_
  rintro e w2 ⟨v2, rfl, hv2, hb2⟩
  obtain ⟨a2_, n2_, c2_, rfl, H2, hm2⟩ := hv2.rd.open
  have hw_w2 : w.heap.size ≤ W0.heap.size := (by omega)
  replace x0_0 := (hb2.cell (p := ⟨w.heap.size, 0, none⟩) (by show w.heap.size < W0.heap.size; omega)).trans x0_0
  replace y0_0 := (hb2.frozen (p := ⟨w.heap.size, 0, none⟩) (by show w.heap.size < W0.heap.size; omega)).trans y0_0
  replace x0_1 := (hb2.cell (p := ⟨w.heap.size, 1, none⟩) (by show w.heap.size < W0.heap.size; omega)).trans x0_1
  replace y0_1 := (hb2.frozen (p := ⟨w.heap.size, 1, none⟩) (by show w.heap.size < W0.heap.size; omega)).trans y0_1
  replace x1_0 := (hb2.cell (p := ⟨w.heap.size + 1, 0, none⟩) (by show w.heap.size + 1 < W0.heap.size; omega)).trans x1_0
  replace y1_0 := (hb2.frozen (p := ⟨w.heap.size + 1, 0, none⟩) (by show w.heap.size + 1 < W0.heap.size; omega)).trans y1_0
  replace x1_1 := (hb2.cell (p := ⟨w.heap.size + 1, 1, none⟩) (by show w.heap.size + 1 < W0.heap.size; omega)).trans x1_1
  replace y1_1 := (hb2.frozen (p := ⟨w.heap.size + 1, 1, none⟩) (by show w.heap.size + 1 < W0.heap.size; omega)).trans y1_1
  replace zs := Nat.lt_of_lt_of_le zs hb2.size
  replace g0 := g0.to hb2
  replace g1 := g1.to hb2
  replace zb := below_step zb hb2
  have g2 := hv2.rd
  generalize hng2 : decide (sgn b (val la) - sgn c (val lb) < 0) = ng2
  have Hng2 := Lib.hid hng2
  clear hng2
  have hz := @sz_eq_zero (sgn b (val la) - sgn c (val lb)).natAbs
  have h2 := H2.out
  rw [sz_def] at h2
  by_cases hd0 : sgn b (val la) - sgn c (val lb) = 0
  · obtain rfl : n2_ = 0 := by omega
    obtain rfl : r = 0 := by rw [← hr, cmpZ_eq, if_pos hd0]
    clear hr
    go_wp2_with fail
    go_ret
    exact ⟨rfl, below_step zb (below_new _ _)⟩
  · have hn2 : 0 < n2_ := by omega
    have hn3 : ¬ n2_ = 0 := by omega
    have hn4 : ((n2_ : Int) == 0) = false := by rw [beq_eq_false_iff_ne]; omega
    by_cases hdn : sgn b (val la) - sgn c (val lb) < 0
    · obtain rfl : ng2 = true := by rw [← Hng2.out]; simpa using hdn
      obtain rfl : r = -1 := by rw [← hr, cmpZ_eq, if_neg hd0, if_pos hdn]
      clear hr h2 hz Hng2
      go_wp2_with fail
      go_ret
      exact ⟨rfl, below_step zb (below_new _ _)⟩
    · obtain rfl : ng2 = false := by rw [← Hng2.out]; simpa using hdn
      obtain rfl : r = 1 := by rw [← hr, cmpZ_eq, if_neg hd0, if_neg hdn]
      clear hr h2 hz Hng2
      go_wp2_with fail
      go_ret
      exact ⟨rfl, below_step zb (below_new _ _)⟩

end Go.Proofs.YtmjnlpanlgmdmaaGreat


namespace Go.Proofs.YtmjnlpanlgmdmaaGreat
open Go.RowKit Tw
set_option linter.unusedVariables false
set_option linter.unusedSimpArgs false
attribute [local go_sem ↓] Go.wp_at_zero Go.wp_at_succ

set_option maxRecDepth 100000 in
set_option maxHeartbeats 4000000 in
theorem ref7_fix (b : Bool) (va : Value) (la : List Nat) (w : World) (ha : Rd w va la) (hla : la.length ≤ 1000000) :
    Calls Tryz.prog 53 #[aggI b va] w (GivesI w (sgn b (val la))) := by
  have H8 := Lib.hid (sgn_abs b (val la))
  obtain ⟨a0, n0, c0, rfl, H0, hm0⟩ := ha.open
  go_enter Tryz.func53, Tryz.ntmps53
  go_wp2_with fail
  obtain ⟨W0, hW0⟩ : ∃ W0, (w.alloc (.cells #[.bool b, .slice a0 n0 c0] 46)).alloc (.cells #[.bool false, .slice none 0 0] 46) = W0 := ⟨_, rfl⟩
  have x0_0 : W0.cell? ⟨w.heap.size, 0, none⟩ = some (.bool b) := by rw [← hW0]; simp [go_sem]
  have y0_0 : W0.frozen? ⟨w.heap.size, 0, none⟩ = false := by rw [← hW0]; simp [go_sem]
  have x0_1 : W0.cell? ⟨w.heap.size, 1, none⟩ = some (.slice a0 n0 c0) := by rw [← hW0]; simp [go_sem]
  have y0_1 : W0.frozen? ⟨w.heap.size, 1, none⟩ = false := by rw [← hW0]; simp [go_sem]
  have x1_0 : W0.cell? ⟨w.heap.size + 1, 0, none⟩ = some (.bool false) := by rw [← hW0]; simp [go_sem]
  have y1_0 : W0.frozen? ⟨w.heap.size + 1, 0, none⟩ = false := by rw [← hW0]; simp [go_sem]
  have x1_1 : W0.cell? ⟨w.heap.size + 1, 1, none⟩ = some (.slice none 0 0) := by rw [← hW0]; simp [go_sem]
  have y1_1 : W0.frozen? ⟨w.heap.size + 1, 1, none⟩ = false := by rw [← hW0]; simp [go_sem]
  have zs : w.heap.size + 1 < W0.heap.size := by rw [← hW0]; simp
  have zb : Below w.heap.size w W0 := by rw [← hW0]; exact below_step (below_new _ _) (below_new _ _)
  rw [hW0]
  clear hW0
  have g0 := ha.to zb
  refine (ref2_trim _ la _ g0 (by omega)).mono ?_
  rintro e w2 ⟨v2, rfl, hv2, hb2⟩
  obtain ⟨a2_, n2_, c2_, rfl, H2, hm2⟩ := hv2.rd.open
  have hr_w2 : w.heap.size + 1 < W0.heap.size := (by omega)
  have hw_w2 : w.heap.size ≤ W0.heap.size := (by omega)
  replace x0_0 := (hb2.cell (p := ⟨w.heap.size, 0, none⟩) (by show w.heap.size < W0.heap.size; omega)).trans x0_0
  replace y0_0 := (hb2.frozen (p := ⟨w.heap.size, 0, none⟩) (by show w.heap.size < W0.heap.size; omega)).trans y0_0
  replace x0_1 := (hb2.cell (p := ⟨w.heap.size, 1, none⟩) (by show w.heap.size < W0.heap.size; omega)).trans x0_1
  replace y0_1 := (hb2.frozen (p := ⟨w.heap.size, 1, none⟩) (by show w.heap.size < W0.heap.size; omega)).trans y0_1
  replace x1_0 := (hb2.cell (p := ⟨w.heap.size + 1, 0, none⟩) (by show w.heap.size + 1 < W0.heap.size; omega)).trans x1_0
  replace y1_0 := (hb2.frozen (p := ⟨w.heap.size + 1, 0, none⟩) (by show w.heap.size + 1 < W0.heap.size; omega)).trans y1_0
  replace x1_1 := (hb2.cell (p := ⟨w.heap.size + 1, 1, none⟩) (by show w.heap.size + 1 < W0.heap.size; omega)).trans x1_1
  replace y1_1 := (hb2.frozen (p := ⟨w.heap.size + 1, 1, none⟩) (by show w.heap.size + 1 < W0.heap.size; omega)).trans y1_1
  replace zs := Nat.lt_of_lt_of_le zs hb2.size
  replace g0 := g0.to hb2
  replace zb := below_step zb hb2
  have g2 := hv2.rd
  have H9 := Lib.hid (sgn_test (b := b) H2.out)
  rw [← H8.out] at hv2
  cases b
  · go_wp2_with fail
    obtain ⟨k0, k1⟩ := two_cells (x := .bool false) (y := .slice a2_ n2_ c2_) x1_0 x1_1
    have h9 := H9.out
    rw [Bool.false_and] at h9
    have hfin := finI2 zb (by omega) hr_w2 hw_w2 hv2
    rw [h9] at hfin
    exact bodyPost_ret (results_I Tryz.results53 _ _ _ _ _ rfl k0 k1) rfl hfin
  · go_wp2_with fail
    obtain ⟨k0, k1⟩ := two_cells (x := .bool (decide (0 < n2_))) (y := .slice a2_ n2_ c2_) x1_0 x1_1
    have h9 := H9.out
    rw [Bool.true_and] at h9
    have hfin := finI2 zb (by omega) hr_w2 hw_w2 hv2
    rw [h9] at hfin
    exact bodyPost_ret (results_I Tryz.results53 _ _ _ _ _ rfl k0 k1) rfl hfin

end Go.Proofs.YtmjnlpanlgmdmaaGreat


namespace Go.Proofs.YtmjnlpanlgmdmaaGreat
open Go.RowKit Tw
set_option linter.unusedVariables false
set_option linter.unusedSimpArgs false
attribute [local go_sem ↓] Go.wp_at_zero Go.wp_at_succ

set_option maxRecDepth 100000 in
set_option maxHeartbeats 8000000 in
theorem ref7_cmp (b c : Bool) (va vb : Value) (la lb : List Nat) (w : World) (ha : Rd w va la) (hb : Rd w vb lb) (hla : la.length ≤ 90000) (hlb : lb.length ≤ 90000) :
    Calls Tryz.prog 31 #[aggI b va, aggI c vb] w (fun e w' => e = .returned (.int .i64 (cmpZ (sgn b (val la)) (sgn c (val lb)))) ∧ Below w.heap.size w w') := by
  obtain ⟨q, hq⟩ : ∃ q, cmpZ (sgn b (val la)) (sgn c (val lb)) = q := ⟨_, rfl⟩
  rw [hq]
  have Hq := Lib.hid hq
  clear hq
  obtain ⟨a0, n0, c0, rfl, H0, hm0⟩ := ha.open
  obtain ⟨a1, n1, c1, rfl, H1, hm1⟩ := hb.open
  go_enter Tryz.func31, Tryz.ntmps31
  go_wp2_with fail
  obtain ⟨W0, hW0⟩ : ∃ W0, (w.alloc (.cells #[.bool b, .slice a0 n0 c0] 46)).alloc (.cells #[.bool c, .slice a1 n1 c1] 46) = W0 := ⟨_, rfl⟩
  have x0_0 : W0.cell? ⟨w.heap.size, 0, none⟩ = some (.bool b) := by rw [← hW0]; simp [go_sem]
  have y0_0 : W0.frozen? ⟨w.heap.size, 0, none⟩ = false := by rw [← hW0]; simp [go_sem]
  have x0_1 : W0.cell? ⟨w.heap.size, 1, none⟩ = some (.slice a0 n0 c0) := by rw [← hW0]; simp [go_sem]
  have y0_1 : W0.frozen? ⟨w.heap.size, 1, none⟩ = false := by rw [← hW0]; simp [go_sem]
  have x1_0 : W0.cell? ⟨w.heap.size + 1, 0, none⟩ = some (.bool c) := by rw [← hW0]; simp [go_sem]
  have y1_0 : W0.frozen? ⟨w.heap.size + 1, 0, none⟩ = false := by rw [← hW0]; simp [go_sem]
  have x1_1 : W0.cell? ⟨w.heap.size + 1, 1, none⟩ = some (.slice a1 n1 c1) := by rw [← hW0]; simp [go_sem]
  have y1_1 : W0.frozen? ⟨w.heap.size + 1, 1, none⟩ = false := by rw [← hW0]; simp [go_sem]
  have zs : w.heap.size + 1 < W0.heap.size := by rw [← hW0]; simp
  have zb : Below w.heap.size w W0 := by rw [← hW0]; exact below_step (below_new _ _) (below_new _ _)
  rw [hW0]
  clear hW0
  have g0 := ha.to zb
  have g1 := hb.to zb
  refine (ref7_fix b _ la _ g0 (by omega)).mono ?_
  rintro e w2 ⟨v2, rfl, hv2, hb2⟩
  obtain ⟨a2_, n2_, c2_, rfl, H2, hm2⟩ := hv2.rd.open
  have hw_w2 : w.heap.size ≤ W0.heap.size := (by omega)
  replace x0_0 := (hb2.cell (p := ⟨w.heap.size, 0, none⟩) (by show w.heap.size < W0.heap.size; omega)).trans x0_0
  replace y0_0 := (hb2.frozen (p := ⟨w.heap.size, 0, none⟩) (by show w.heap.size < W0.heap.size; omega)).trans y0_0
  replace x0_1 := (hb2.cell (p := ⟨w.heap.size, 1, none⟩) (by show w.heap.size < W0.heap.size; omega)).trans x0_1
  replace y0_1 := (hb2.frozen (p := ⟨w.heap.size, 1, none⟩) (by show w.heap.size < W0.heap.size; omega)).trans y0_1
  replace x1_0 := (hb2.cell (p := ⟨w.heap.size + 1, 0, none⟩) (by show w.heap.size + 1 < W0.heap.size; omega)).trans x1_0
  replace y1_0 := (hb2.frozen (p := ⟨w.heap.size + 1, 0, none⟩) (by show w.heap.size + 1 < W0.heap.size; omega)).trans y1_0
  replace x1_1 := (hb2.cell (p := ⟨w.heap.size + 1, 1, none⟩) (by show w.heap.size + 1 < W0.heap.size; omega)).trans x1_1
  replace y1_1 := (hb2.frozen (p := ⟨w.heap.size + 1, 1, none⟩) (by show w.heap.size + 1 < W0.heap.size; omega)).trans y1_1
  replace zs := Nat.lt_of_lt_of_le zs hb2.size
  replace g0 := g0.to hb2
  replace g1 := g1.to hb2
  replace zb := below_step zb hb2
  have g2 := hv2.rd
  generalize hng2 : decide (sgn b (val la) < 0) = ng2
  have Hng2 := Lib.hid hng2
  clear hng2
  go_wp2_with fail
  obtain ⟨W2, hW2⟩ : ∃ W2, w2.alloc (.cells #[.bool ng2, .slice a2_ n2_ c2_] 46) = W2 := ⟨_, rfl⟩
  have hb_W2 : Below w2.heap.size w2 W2 := by rw [← hW2]; exact below_new _ _
  have zs_W2 : w2.heap.size < W2.heap.size := by rw [← hW2]; simp
  have hw_W2 : w.heap.size ≤ w2.heap.size := (by omega)
  replace x0_0 := (hb_W2.cell (p := ⟨w.heap.size, 0, none⟩) (by show w.heap.size < w2.heap.size; omega)).trans x0_0
  replace y0_0 := (hb_W2.frozen (p := ⟨w.heap.size, 0, none⟩) (by show w.heap.size < w2.heap.size; omega)).trans y0_0
  replace x0_1 := (hb_W2.cell (p := ⟨w.heap.size, 1, none⟩) (by show w.heap.size < w2.heap.size; omega)).trans x0_1
  replace y0_1 := (hb_W2.frozen (p := ⟨w.heap.size, 1, none⟩) (by show w.heap.size < w2.heap.size; omega)).trans y0_1
  replace x1_0 := (hb_W2.cell (p := ⟨w.heap.size + 1, 0, none⟩) (by show w.heap.size + 1 < w2.heap.size; omega)).trans x1_0
  replace y1_0 := (hb_W2.frozen (p := ⟨w.heap.size + 1, 0, none⟩) (by show w.heap.size + 1 < w2.heap.size; omega)).trans y1_0
  replace x1_1 := (hb_W2.cell (p := ⟨w.heap.size + 1, 1, none⟩) (by show w.heap.size + 1 < w2.heap.size; omega)).trans x1_1
  replace y1_1 := (hb_W2.frozen (p := ⟨w.heap.size + 1, 1, none⟩) (by show w.heap.size + 1 < w2.heap.size; omega)).trans y1_1
  replace zs := Nat.lt_of_lt_of_le zs hb_W2.size
  replace g0 := g0.to hb_W2
  replace g1 := g1.to hb_W2
  replace g2 := g2.to hb_W2
  replace zb := below_step zb hb_W2
  have x5_0 : W2.cell? ⟨w2.heap.size, 0, none⟩ = some (.bool ng2) := by rw [← hW2]; simp [go_sem]
  have y5_0 : W2.frozen? ⟨w2.heap.size, 0, none⟩ = false := by rw [← hW2]; simp [go_sem]
  have x5_1 : W2.cell? ⟨w2.heap.size, 1, none⟩ = some (.slice a2_ n2_ c2_) := by rw [← hW2]; simp [go_sem]
  have y5_1 : W2.frozen? ⟨w2.heap.size, 1, none⟩ = false := by rw [← hW2]; simp [go_sem]
  rw [hW2]
  clear hW2
  refine (ref7_fix c _ lb _ g1 (by omega)).mono ?_
  rintro e w3 ⟨v3, rfl, hv3, hb3⟩
  obtain ⟨a3_, n3_, c3_, rfl, H3, hm3⟩ := hv3.rd.open
  have hw_w3 : w.heap.size ≤ W2.heap.size := (by omega)
  replace x0_0 := (hb3.cell (p := ⟨w.heap.size, 0, none⟩) (by show w.heap.size < W2.heap.size; omega)).trans x0_0
  replace y0_0 := (hb3.frozen (p := ⟨w.heap.size, 0, none⟩) (by show w.heap.size < W2.heap.size; omega)).trans y0_0
  replace x0_1 := (hb3.cell (p := ⟨w.heap.size, 1, none⟩) (by show w.heap.size < W2.heap.size; omega)).trans x0_1
  replace y0_1 := (hb3.frozen (p := ⟨w.heap.size, 1, none⟩) (by show w.heap.size < W2.heap.size; omega)).trans y0_1
  replace x1_0 := (hb3.cell (p := ⟨w.heap.size + 1, 0, none⟩) (by show w.heap.size + 1 < W2.heap.size; omega)).trans x1_0
  replace y1_0 := (hb3.frozen (p := ⟨w.heap.size + 1, 0, none⟩) (by show w.heap.size + 1 < W2.heap.size; omega)).trans y1_0
  replace x1_1 := (hb3.cell (p := ⟨w.heap.size + 1, 1, none⟩) (by show w.heap.size + 1 < W2.heap.size; omega)).trans x1_1
  replace y1_1 := (hb3.frozen (p := ⟨w.heap.size + 1, 1, none⟩) (by show w.heap.size + 1 < W2.heap.size; omega)).trans y1_1
  replace x5_0 := (hb3.cell (p := ⟨w2.heap.size, 0, none⟩) (by show w2.heap.size < W2.heap.size; omega)).trans x5_0
  replace y5_0 := (hb3.frozen (p := ⟨w2.heap.size, 0, none⟩) (by show w2.heap.size < W2.heap.size; omega)).trans y5_0
  replace x5_1 := (hb3.cell (p := ⟨w2.heap.size, 1, none⟩) (by show w2.heap.size < W2.heap.size; omega)).trans x5_1
  replace y5_1 := (hb3.frozen (p := ⟨w2.heap.size, 1, none⟩) (by show w2.heap.size < W2.heap.size; omega)).trans y5_1
  replace zs := Nat.lt_of_lt_of_le zs hb3.size
  replace zs_W2 := Nat.lt_of_lt_of_le zs_W2 hb3.size
  replace g0 := g0.to hb3
  replace g1 := g1.to hb3
  replace g2 := g2.to hb3
  replace zb := below_step zb hb3
  have g3 := hv3.rd
  generalize hng3 : decide (sgn c (val lb) < 0) = ng3
  have Hng3 := Lib.hid hng3
  clear hng3
  go_wp2_with fail
  obtain ⟨W3, hW3⟩ : ∃ W3, w3.alloc (.cells #[.bool ng3, .slice a3_ n3_ c3_] 46) = W3 := ⟨_, rfl⟩
  have hb_W3 : Below w3.heap.size w3 W3 := by rw [← hW3]; exact below_new _ _
  have zs_W3 : w3.heap.size < W3.heap.size := by rw [← hW3]; simp
  have hw_W3 : w.heap.size ≤ w3.heap.size := (by omega)
  replace x0_0 := (hb_W3.cell (p := ⟨w.heap.size, 0, none⟩) (by show w.heap.size < w3.heap.size; omega)).trans x0_0
  replace y0_0 := (hb_W3.frozen (p := ⟨w.heap.size, 0, none⟩) (by show w.heap.size < w3.heap.size; omega)).trans y0_0
  replace x0_1 := (hb_W3.cell (p := ⟨w.heap.size, 1, none⟩) (by show w.heap.size < w3.heap.size; omega)).trans x0_1
  replace y0_1 := (hb_W3.frozen (p := ⟨w.heap.size, 1, none⟩) (by show w.heap.size < w3.heap.size; omega)).trans y0_1
  replace x1_0 := (hb_W3.cell (p := ⟨w.heap.size + 1, 0, none⟩) (by show w.heap.size + 1 < w3.heap.size; omega)).trans x1_0
  replace y1_0 := (hb_W3.frozen (p := ⟨w.heap.size + 1, 0, none⟩) (by show w.heap.size + 1 < w3.heap.size; omega)).trans y1_0
  replace x1_1 := (hb_W3.cell (p := ⟨w.heap.size + 1, 1, none⟩) (by show w.heap.size + 1 < w3.heap.size; omega)).trans x1_1
  replace y1_1 := (hb_W3.frozen (p := ⟨w.heap.size + 1, 1, none⟩) (by show w.heap.size + 1 < w3.heap.size; omega)).trans y1_1
  replace x5_0 := (hb_W3.cell (p := ⟨w2.heap.size, 0, none⟩) (by show w2.heap.size < w3.heap.size; omega)).trans x5_0
  replace y5_0 := (hb_W3.frozen (p := ⟨w2.heap.size, 0, none⟩) (by show w2.heap.size < w3.heap.size; omega)).trans y5_0
  replace x5_1 := (hb_W3.cell (p := ⟨w2.heap.size, 1, none⟩) (by show w2.heap.size < w3.heap.size; omega)).trans x5_1
  replace y5_1 := (hb_W3.frozen (p := ⟨w2.heap.size, 1, none⟩) (by show w2.heap.size < w3.heap.size; omega)).trans y5_1
  replace zs := Nat.lt_of_lt_of_le zs hb_W3.size
  replace zs_W2 := Nat.lt_of_lt_of_le zs_W2 hb_W3.size
  replace g0 := g0.to hb_W3
  replace g1 := g1.to hb_W3
  replace g2 := g2.to hb_W3
  replace g3 := g3.to hb_W3
  replace zb := below_step zb hb_W3
  have x6_0 : W3.cell? ⟨w3.heap.size, 0, none⟩ = some (.bool ng3) := by rw [← hW3]; simp [go_sem]
  have y6_0 : W3.frozen? ⟨w3.heap.size, 0, none⟩ = false := by rw [← hW3]; simp [go_sem]
  have x6_1 : W3.cell? ⟨w3.heap.size, 1, none⟩ = some (.slice a3_ n3_ c3_) := by rw [← hW3]; simp [go_sem]
  have y6_1 : W3.frozen? ⟨w3.heap.size, 1, none⟩ = false := by rw [← hW3]; simp [go_sem]
  rw [hW3]
  clear hW3
  refine (ref2_cmp _ _ _ _ _ g2 g3 (by rw [sz_def, sgn_abs]; have := sz_val ha.1; omega) (by rw [sz_def, sgn_abs]; have := sz_val hb.1; omega)).mono ?_
  rintro e w4 ⟨rfl, rfl⟩
  rw [val_limbs, val_limbs]
  generalize hr : cmpN (sgn b (val la)).natAbs (sgn c (val lb)).natAbs = r
  have hr0 : -1 ≤ r ∧ r ≤ 1 := by rw [← hr]; exact cmpN_range _ _
  obtain ⟨hr1, hr2⟩ := hr0
  have Hr := Lib.hid hr
  clear hr
  cases ng2 <;> cases ng3
  all_goals
    go_wp2_with fail
    go_ret
    refine ⟨?_, zb⟩
    have e1 := Hng2.out
    have e2 := Hng3.out
    simp only [decide_eq_true_eq, decide_eq_false_iff_not] at e1 e2
    rw [← Hq.out]
    have e3 := Hr.out
    subst e3
    first | exact congrArg (fun t => Ending.returned (.int .i64 t)) (cmpZ_pp e1 e2).symm | exact congrArg (fun t => Ending.returned (.int .i64 t)) (cmpZ_nn e1 e2).symm | exact congrArg (fun t => Ending.returned (.int .i64 t)) (cmpZ_np e1 e2).symm | exact congrArg (fun t => Ending.returned (.int .i64 t)) (cmpZ_pn e1 e2).symm

set_option maxRecDepth 100000 in
set_option maxHeartbeats 8000000 in
theorem ref7_add (b c : Bool) (va vb : Value) (la lb : List Nat) (w : World) (ha : Rd w va la) (hb : Rd w vb lb) (hla : la.length ≤ 90000) (hlb : lb.length ≤ 90000) :
    Calls Tryz.prog 38 #[aggI b va, aggI c vb] w (GivesI w (sgn b (val la) + sgn c (val lb))) := by
  have hsa := sz_val ha.1
  have hsb := sz_val hb.1
  have hs := sz_add (val la) (val lb)
  have hm := sz_mul (val la) (val lb)
  have hd1 := sz_sub (val la) (val lb)
  have hd2 := sz_sub (val lb) (val la)
  obtain ⟨a0, n0, c0, rfl, H0, hm0⟩ := ha.open
  obtain ⟨a1, n1, c1, rfl, H1, hm1⟩ := hb.open
  by_cases hbc : b = c
  · subst hbc
    rw [← sgn_same, show sgn b (val la + val lb) = sgn b (val (limbs (val la + val lb))) by rw [val_limbs]]
    go_enter Tryz.func38, Tryz.ntmps38
    go_wp2_with fail
    obtain ⟨W0, hW0⟩ : ∃ W0, ((w.alloc (.cells #[.bool b, .slice a0 n0 c0] 46)).alloc (.cells #[.bool b, .slice a1 n1 c1] 46)).alloc (.cells #[.bool false, .slice none 0 0] 46) = W0 := ⟨_, rfl⟩
    have x0_0 : W0.cell? ⟨w.heap.size, 0, none⟩ = some (.bool b) := by rw [← hW0]; simp [go_sem]
    have y0_0 : W0.frozen? ⟨w.heap.size, 0, none⟩ = false := by rw [← hW0]; simp [go_sem]
    have x0_1 : W0.cell? ⟨w.heap.size, 1, none⟩ = some (.slice a0 n0 c0) := by rw [← hW0]; simp [go_sem]
    have y0_1 : W0.frozen? ⟨w.heap.size, 1, none⟩ = false := by rw [← hW0]; simp [go_sem]
    have x1_0 : W0.cell? ⟨w.heap.size + 1, 0, none⟩ = some (.bool b) := by rw [← hW0]; simp [go_sem]
    have y1_0 : W0.frozen? ⟨w.heap.size + 1, 0, none⟩ = false := by rw [← hW0]; simp [go_sem]
    have x1_1 : W0.cell? ⟨w.heap.size + 1, 1, none⟩ = some (.slice a1 n1 c1) := by rw [← hW0]; simp [go_sem]
    have y1_1 : W0.frozen? ⟨w.heap.size + 1, 1, none⟩ = false := by rw [← hW0]; simp [go_sem]
    have x2_0 : W0.cell? ⟨w.heap.size + 1 + 1, 0, none⟩ = some (.bool false) := by rw [← hW0]; simp [go_sem]
    have y2_0 : W0.frozen? ⟨w.heap.size + 1 + 1, 0, none⟩ = false := by rw [← hW0]; simp [go_sem]
    have x2_1 : W0.cell? ⟨w.heap.size + 1 + 1, 1, none⟩ = some (.slice none 0 0) := by rw [← hW0]; simp [go_sem]
    have y2_1 : W0.frozen? ⟨w.heap.size + 1 + 1, 1, none⟩ = false := by rw [← hW0]; simp [go_sem]
    have zs : w.heap.size + 1 + 1 < W0.heap.size := by rw [← hW0]; simp
    have zb : Below w.heap.size w W0 := by rw [← hW0]; exact below_step (below_step (below_new _ _) (below_new _ _)) (below_new _ _)
    rw [hW0]
    clear hW0
    have g0 := ha.to zb
    have g1 := hb.to zb
    go_region_with (first
      | (go_at_call 62; have g0 := g0.drew; have g1 := g1.drew; have zb := zb.drew; refine (ref2_add _ _ la lb _ g0 g1 (by omega) (by omega)).mono ?_; rintro e w2 ⟨v2, rfl, hv2, hb2⟩; obtain ⟨a2_, n2_, c2_, rfl, H2, hm2⟩ := hv2.rd.open; have hr_w2 : w.heap.size + 1 + 1 < W0.heap.size := (by omega); have hw_w2 : w.heap.size ≤ W0.heap.size := (by omega); have x0_0 := (hb2.cell (p := ⟨w.heap.size, 0, none⟩) (by show w.heap.size < W0.heap.size; omega)).trans x0_0; have y0_0 := (hb2.frozen (p := ⟨w.heap.size, 0, none⟩) (by show w.heap.size < W0.heap.size; omega)).trans y0_0; have x0_1 := (hb2.cell (p := ⟨w.heap.size, 1, none⟩) (by show w.heap.size < W0.heap.size; omega)).trans x0_1; have y0_1 := (hb2.frozen (p := ⟨w.heap.size, 1, none⟩) (by show w.heap.size < W0.heap.size; omega)).trans y0_1; have x1_0 := (hb2.cell (p := ⟨w.heap.size + 1, 0, none⟩) (by show w.heap.size + 1 < W0.heap.size; omega)).trans x1_0; have y1_0 := (hb2.frozen (p := ⟨w.heap.size + 1, 0, none⟩) (by show w.heap.size + 1 < W0.heap.size; omega)).trans y1_0; have x1_1 := (hb2.cell (p := ⟨w.heap.size + 1, 1, none⟩) (by show w.heap.size + 1 < W0.heap.size; omega)).trans x1_1; have y1_1 := (hb2.frozen (p := ⟨w.heap.size + 1, 1, none⟩) (by show w.heap.size + 1 < W0.heap.size; omega)).trans y1_1; have x2_0 := (hb2.cell (p := ⟨w.heap.size + 1 + 1, 0, none⟩) (by show w.heap.size + 1 + 1 < W0.heap.size; omega)).trans x2_0; have y2_0 := (hb2.frozen (p := ⟨w.heap.size + 1 + 1, 0, none⟩) (by show w.heap.size + 1 + 1 < W0.heap.size; omega)).trans y2_0; have x2_1 := (hb2.cell (p := ⟨w.heap.size + 1 + 1, 1, none⟩) (by show w.heap.size + 1 + 1 < W0.heap.size; omega)).trans x2_1; have y2_1 := (hb2.frozen (p := ⟨w.heap.size + 1 + 1, 1, none⟩) (by show w.heap.size + 1 + 1 < W0.heap.size; omega)).trans y2_1; have zs := Nat.lt_of_lt_of_le zs hb2.size; have g0 := g0.to hb2; have g1 := g1.to hb2; have zb := below_step zb hb2; have g2 := hv2.rd)
      | (go_at_call 53; refine (ref7_fix b _ _ _ g2 (by rw [sz_def]; omega)).mono ?_; rintro e w3 ⟨v3, rfl, hv3, hb3⟩; obtain ⟨a3_, n3_, c3_, rfl, H3, hm3⟩ := hv3.rd.open; have hr_w3 : w.heap.size + 1 + 1 < w2.heap.size := (by omega); have hw_w3 : w.heap.size ≤ w2.heap.size := (by omega); have x0_0 := (hb3.cell (p := ⟨w.heap.size, 0, none⟩) (by show w.heap.size < w2.heap.size; omega)).trans x0_0; have y0_0 := (hb3.frozen (p := ⟨w.heap.size, 0, none⟩) (by show w.heap.size < w2.heap.size; omega)).trans y0_0; have x0_1 := (hb3.cell (p := ⟨w.heap.size, 1, none⟩) (by show w.heap.size < w2.heap.size; omega)).trans x0_1; have y0_1 := (hb3.frozen (p := ⟨w.heap.size, 1, none⟩) (by show w.heap.size < w2.heap.size; omega)).trans y0_1; have x1_0 := (hb3.cell (p := ⟨w.heap.size + 1, 0, none⟩) (by show w.heap.size + 1 < w2.heap.size; omega)).trans x1_0; have y1_0 := (hb3.frozen (p := ⟨w.heap.size + 1, 0, none⟩) (by show w.heap.size + 1 < w2.heap.size; omega)).trans y1_0; have x1_1 := (hb3.cell (p := ⟨w.heap.size + 1, 1, none⟩) (by show w.heap.size + 1 < w2.heap.size; omega)).trans x1_1; have y1_1 := (hb3.frozen (p := ⟨w.heap.size + 1, 1, none⟩) (by show w.heap.size + 1 < w2.heap.size; omega)).trans y1_1; have x2_0 := (hb3.cell (p := ⟨w.heap.size + 1 + 1, 0, none⟩) (by show w.heap.size + 1 + 1 < w2.heap.size; omega)).trans x2_0; have y2_0 := (hb3.frozen (p := ⟨w.heap.size + 1 + 1, 0, none⟩) (by show w.heap.size + 1 + 1 < w2.heap.size; omega)).trans y2_0; have x2_1 := (hb3.cell (p := ⟨w.heap.size + 1 + 1, 1, none⟩) (by show w.heap.size + 1 + 1 < w2.heap.size; omega)).trans x2_1; have y2_1 := (hb3.frozen (p := ⟨w.heap.size + 1 + 1, 1, none⟩) (by show w.heap.size + 1 + 1 < w2.heap.size; omega)).trans y2_1; have zs := Nat.lt_of_lt_of_le zs hb3.size; have g0 := g0.to hb3; have g1 := g1.to hb3; have g2 := g2.to hb3; have zb := below_step zb hb3; have g3 := hv3.rd; generalize hng3 : decide (sgn b (val (limbs (val la + val lb))) < 0) = ng3; have Hng3 := Lib.hid hng3; clear hng3))
    all_goals
      go_wp2_with fail
      have e3 := Hng3.out
      subst e3
      obtain ⟨k0, k1⟩ := two_cells (x := .bool (decide (sgn b (val (limbs (val la + val lb))) < 0))) (y := .slice a3_ n3_ c3_) x2_0 x2_1
      exact bodyPost_ret (results_I Tryz.results38 _ _ _ _ _ rfl k0 k1) rfl (finI2 zb (by omega) hr_w3 hw_w3 hv3)
  · have hbe : (b == c) = false := beq_eq_false_iff_ne.2 hbc
    by_cases hle : val lb ≤ val la
    · rw [← sgn_less hbc hle, show sgn b ((val la - val lb)) = sgn b (val (limbs (val la - val lb))) by rw [val_limbs]]
      have hcm : 0 ≤ cmpN (val la) (val lb) := by have := cmpN_ge.2 hle; omega
      go_enter Tryz.func38, Tryz.ntmps38
      go_wp2_with fail
      obtain ⟨W0, hW0⟩ : ∃ W0, ((w.alloc (.cells #[.bool b, .slice a0 n0 c0] 46)).alloc (.cells #[.bool c, .slice a1 n1 c1] 46)).alloc (.cells #[.bool false, .slice none 0 0] 46) = W0 := ⟨_, rfl⟩
      have x0_0 : W0.cell? ⟨w.heap.size, 0, none⟩ = some (.bool b) := by rw [← hW0]; simp [go_sem]
      have y0_0 : W0.frozen? ⟨w.heap.size, 0, none⟩ = false := by rw [← hW0]; simp [go_sem]
      have x0_1 : W0.cell? ⟨w.heap.size, 1, none⟩ = some (.slice a0 n0 c0) := by rw [← hW0]; simp [go_sem]
      have y0_1 : W0.frozen? ⟨w.heap.size, 1, none⟩ = false := by rw [← hW0]; simp [go_sem]
      have x1_0 : W0.cell? ⟨w.heap.size + 1, 0, none⟩ = some (.bool c) := by rw [← hW0]; simp [go_sem]
      have y1_0 : W0.frozen? ⟨w.heap.size + 1, 0, none⟩ = false := by rw [← hW0]; simp [go_sem]
      have x1_1 : W0.cell? ⟨w.heap.size + 1, 1, none⟩ = some (.slice a1 n1 c1) := by rw [← hW0]; simp [go_sem]
      have y1_1 : W0.frozen? ⟨w.heap.size + 1, 1, none⟩ = false := by rw [← hW0]; simp [go_sem]
      have x2_0 : W0.cell? ⟨w.heap.size + 1 + 1, 0, none⟩ = some (.bool false) := by rw [← hW0]; simp [go_sem]
      have y2_0 : W0.frozen? ⟨w.heap.size + 1 + 1, 0, none⟩ = false := by rw [← hW0]; simp [go_sem]
      have x2_1 : W0.cell? ⟨w.heap.size + 1 + 1, 1, none⟩ = some (.slice none 0 0) := by rw [← hW0]; simp [go_sem]
      have y2_1 : W0.frozen? ⟨w.heap.size + 1 + 1, 1, none⟩ = false := by rw [← hW0]; simp [go_sem]
      have zs : w.heap.size + 1 + 1 < W0.heap.size := by rw [← hW0]; simp
      have zb : Below w.heap.size w W0 := by rw [← hW0]; exact below_step (below_step (below_new _ _) (below_new _ _)) (below_new _ _)
      rw [hW0]
      clear hW0
      have g0 := ha.to zb
      have g1 := hb.to zb
      refine (ref2_cmp _ _ _ _ _ g0 g1 (by omega) (by omega)).mono ?_
      rintro e w1 ⟨rfl, rfl⟩
      go_wp2_with fail
      refine (ref2_sub _ _ la lb _ g0 g1 (by omega) (by omega) hle).mono ?_
      rintro e w2 ⟨v2, rfl, hv2, hb2⟩
      obtain ⟨a2_, n2_, c2_, rfl, H2, hm2⟩ := hv2.rd.open
      have hr_w2 : w.heap.size + 1 + 1 < W0.heap.size := (by omega)
      have hw_w2 : w.heap.size ≤ W0.heap.size := (by omega)
      replace x0_0 := (hb2.cell (p := ⟨w.heap.size, 0, none⟩) (by show w.heap.size < W0.heap.size; omega)).trans x0_0
      replace y0_0 := (hb2.frozen (p := ⟨w.heap.size, 0, none⟩) (by show w.heap.size < W0.heap.size; omega)).trans y0_0
      replace x0_1 := (hb2.cell (p := ⟨w.heap.size, 1, none⟩) (by show w.heap.size < W0.heap.size; omega)).trans x0_1
      replace y0_1 := (hb2.frozen (p := ⟨w.heap.size, 1, none⟩) (by show w.heap.size < W0.heap.size; omega)).trans y0_1
      replace x1_0 := (hb2.cell (p := ⟨w.heap.size + 1, 0, none⟩) (by show w.heap.size + 1 < W0.heap.size; omega)).trans x1_0
      replace y1_0 := (hb2.frozen (p := ⟨w.heap.size + 1, 0, none⟩) (by show w.heap.size + 1 < W0.heap.size; omega)).trans y1_0
      replace x1_1 := (hb2.cell (p := ⟨w.heap.size + 1, 1, none⟩) (by show w.heap.size + 1 < W0.heap.size; omega)).trans x1_1
      replace y1_1 := (hb2.frozen (p := ⟨w.heap.size + 1, 1, none⟩) (by show w.heap.size + 1 < W0.heap.size; omega)).trans y1_1
      replace x2_0 := (hb2.cell (p := ⟨w.heap.size + 1 + 1, 0, none⟩) (by show w.heap.size + 1 + 1 < W0.heap.size; omega)).trans x2_0
      replace y2_0 := (hb2.frozen (p := ⟨w.heap.size + 1 + 1, 0, none⟩) (by show w.heap.size + 1 + 1 < W0.heap.size; omega)).trans y2_0
      replace x2_1 := (hb2.cell (p := ⟨w.heap.size + 1 + 1, 1, none⟩) (by show w.heap.size + 1 + 1 < W0.heap.size; omega)).trans x2_1
      replace y2_1 := (hb2.frozen (p := ⟨w.heap.size + 1 + 1, 1, none⟩) (by show w.heap.size + 1 + 1 < W0.heap.size; omega)).trans y2_1
      replace zs := Nat.lt_of_lt_of_le zs hb2.size
      replace g0 := g0.to hb2
      replace g1 := g1.to hb2
      replace zb := below_step zb hb2
      have g2 := hv2.rd
      go_wp2_with fail
      refine (ref7_fix b _ _ _ g2 (by rw [sz_def]; omega)).mono ?_
      rintro e w3 ⟨v3, rfl, hv3, hb3⟩
      obtain ⟨a3_, n3_, c3_, rfl, H3, hm3⟩ := hv3.rd.open
      have hr_w3 : w.heap.size + 1 + 1 < w2.heap.size := (by omega)
      have hw_w3 : w.heap.size ≤ w2.heap.size := (by omega)
      replace x0_0 := (hb3.cell (p := ⟨w.heap.size, 0, none⟩) (by show w.heap.size < w2.heap.size; omega)).trans x0_0
      replace y0_0 := (hb3.frozen (p := ⟨w.heap.size, 0, none⟩) (by show w.heap.size < w2.heap.size; omega)).trans y0_0
      replace x0_1 := (hb3.cell (p := ⟨w.heap.size, 1, none⟩) (by show w.heap.size < w2.heap.size; omega)).trans x0_1
      replace y0_1 := (hb3.frozen (p := ⟨w.heap.size, 1, none⟩) (by show w.heap.size < w2.heap.size; omega)).trans y0_1
      replace x1_0 := (hb3.cell (p := ⟨w.heap.size + 1, 0, none⟩) (by show w.heap.size + 1 < w2.heap.size; omega)).trans x1_0
      replace y1_0 := (hb3.frozen (p := ⟨w.heap.size + 1, 0, none⟩) (by show w.heap.size + 1 < w2.heap.size; omega)).trans y1_0
      replace x1_1 := (hb3.cell (p := ⟨w.heap.size + 1, 1, none⟩) (by show w.heap.size + 1 < w2.heap.size; omega)).trans x1_1
      replace y1_1 := (hb3.frozen (p := ⟨w.heap.size + 1, 1, none⟩) (by show w.heap.size + 1 < w2.heap.size; omega)).trans y1_1
      replace x2_0 := (hb3.cell (p := ⟨w.heap.size + 1 + 1, 0, none⟩) (by show w.heap.size + 1 + 1 < w2.heap.size; omega)).trans x2_0
      replace y2_0 := (hb3.frozen (p := ⟨w.heap.size + 1 + 1, 0, none⟩) (by show w.heap.size + 1 + 1 < w2.heap.size; omega)).trans y2_0
      replace x2_1 := (hb3.cell (p := ⟨w.heap.size + 1 + 1, 1, none⟩) (by show w.heap.size + 1 + 1 < w2.heap.size; omega)).trans x2_1
      replace y2_1 := (hb3.frozen (p := ⟨w.heap.size + 1 + 1, 1, none⟩) (by show w.heap.size + 1 + 1 < w2.heap.size; omega)).trans y2_1
      replace zs := Nat.lt_of_lt_of_le zs hb3.size
      replace g0 := g0.to hb3
      replace g1 := g1.to hb3
      replace g2 := g2.to hb3
      replace zb := below_step zb hb3
      have g3 := hv3.rd
      generalize hng3 : decide (sgn b (val (limbs (val la - val lb))) < 0) = ng3
      have Hng3 := Lib.hid hng3
      clear hng3
      go_wp2_with fail
      have e3 := Hng3.out
      subst e3
      obtain ⟨k0, k1⟩ := two_cells (x := .bool (decide (sgn b (val (limbs (val la - val lb))) < 0))) (y := .slice a3_ n3_ c3_) x2_0 x2_1
      exact bodyPost_ret (results_I Tryz.results38 _ _ _ _ _ rfl k0 k1) rfl (finI2 zb (by omega) hr_w3 hw_w3 hv3)
    · rw [← sgn_more hbc (by omega), show sgn c ((val lb - val la)) = sgn c (val (limbs (val lb - val la))) by rw [val_limbs]]
      have hcm : cmpN (val la) (val lb) < 0 := by rw [cmpN_lt (by omega)]; omega
      go_enter Tryz.func38, Tryz.ntmps38
      go_wp2_with fail
      obtain ⟨W0, hW0⟩ : ∃ W0, ((w.alloc (.cells #[.bool b, .slice a0 n0 c0] 46)).alloc (.cells #[.bool c, .slice a1 n1 c1] 46)).alloc (.cells #[.bool false, .slice none 0 0] 46) = W0 := ⟨_, rfl⟩
      have x0_0 : W0.cell? ⟨w.heap.size, 0, none⟩ = some (.bool b) := by rw [← hW0]; simp [go_sem]
      have y0_0 : W0.frozen? ⟨w.heap.size, 0, none⟩ = false := by rw [← hW0]; simp [go_sem]
      have x0_1 : W0.cell? ⟨w.heap.size, 1, none⟩ = some (.slice a0 n0 c0) := by rw [← hW0]; simp [go_sem]
      have y0_1 : W0.frozen? ⟨w.heap.size, 1, none⟩ = false := by rw [← hW0]; simp [go_sem]
      have x1_0 : W0.cell? ⟨w.heap.size + 1, 0, none⟩ = some (.bool c) := by rw [← hW0]; simp [go_sem]
      have y1_0 : W0.frozen? ⟨w.heap.size + 1, 0, none⟩ = false := by rw [← hW0]; simp [go_sem]
      have x1_1 : W0.cell? ⟨w.heap.size + 1, 1, none⟩ = some (.slice a1 n1 c1) := by rw [← hW0]; simp [go_sem]
      have y1_1 : W0.frozen? ⟨w.heap.size + 1, 1, none⟩ = false := by rw [← hW0]; simp [go_sem]
      have x2_0 : W0.cell? ⟨w.heap.size + 1 + 1, 0, none⟩ = some (.bool false) := by rw [← hW0]; simp [go_sem]
      have y2_0 : W0.frozen? ⟨w.heap.size + 1 + 1, 0, none⟩ = false := by rw [← hW0]; simp [go_sem]
      have x2_1 : W0.cell? ⟨w.heap.size + 1 + 1, 1, none⟩ = some (.slice none 0 0) := by rw [← hW0]; simp [go_sem]
      have y2_1 : W0.frozen? ⟨w.heap.size + 1 + 1, 1, none⟩ = false := by rw [← hW0]; simp [go_sem]
      have zs : w.heap.size + 1 + 1 < W0.heap.size := by rw [← hW0]; simp
      have zb : Below w.heap.size w W0 := by rw [← hW0]; exact below_step (below_step (below_new _ _) (below_new _ _)) (below_new _ _)
      rw [hW0]
      clear hW0
      have g0 := ha.to zb
      have g1 := hb.to zb
      refine (ref2_cmp _ _ _ _ _ g0 g1 (by omega) (by omega)).mono ?_
      rintro e w1 ⟨rfl, rfl⟩
      go_wp2_with fail
      refine (ref2_sub _ _ lb la _ g1 g0 (by omega) (by omega) (by omega)).mono ?_
      rintro e w2 ⟨v2, rfl, hv2, hb2⟩
      obtain ⟨a2_, n2_, c2_, rfl, H2, hm2⟩ := hv2.rd.open
      have hr_w2 : w.heap.size + 1 + 1 < W0.heap.size := (by omega)
      have hw_w2 : w.heap.size ≤ W0.heap.size := (by omega)
      replace x0_0 := (hb2.cell (p := ⟨w.heap.size, 0, none⟩) (by show w.heap.size < W0.heap.size; omega)).trans x0_0
      replace y0_0 := (hb2.frozen (p := ⟨w.heap.size, 0, none⟩) (by show w.heap.size < W0.heap.size; omega)).trans y0_0
      replace x0_1 := (hb2.cell (p := ⟨w.heap.size, 1, none⟩) (by show w.heap.size < W0.heap.size; omega)).trans x0_1
      replace y0_1 := (hb2.frozen (p := ⟨w.heap.size, 1, none⟩) (by show w.heap.size < W0.heap.size; omega)).trans y0_1
      replace x1_0 := (hb2.cell (p := ⟨w.heap.size + 1, 0, none⟩) (by show w.heap.size + 1 < W0.heap.size; omega)).trans x1_0
      replace y1_0 := (hb2.frozen (p := ⟨w.heap.size + 1, 0, none⟩) (by show w.heap.size + 1 < W0.heap.size; omega)).trans y1_0
      replace x1_1 := (hb2.cell (p := ⟨w.heap.size + 1, 1, none⟩) (by show w.heap.size + 1 < W0.heap.size; omega)).trans x1_1
      replace y1_1 := (hb2.frozen (p := ⟨w.heap.size + 1, 1, none⟩) (by show w.heap.size + 1 < W0.heap.size; omega)).trans y1_1
      replace x2_0 := (hb2.cell (p := ⟨w.heap.size + 1 + 1, 0, none⟩) (by show w.heap.size + 1 + 1 < W0.heap.size; omega)).trans x2_0
      replace y2_0 := (hb2.frozen (p := ⟨w.heap.size + 1 + 1, 0, none⟩) (by show w.heap.size + 1 + 1 < W0.heap.size; omega)).trans y2_0
      replace x2_1 := (hb2.cell (p := ⟨w.heap.size + 1 + 1, 1, none⟩) (by show w.heap.size + 1 + 1 < W0.heap.size; omega)).trans x2_1
      replace y2_1 := (hb2.frozen (p := ⟨w.heap.size + 1 + 1, 1, none⟩) (by show w.heap.size + 1 + 1 < W0.heap.size; omega)).trans y2_1
      replace zs := Nat.lt_of_lt_of_le zs hb2.size
      replace g0 := g0.to hb2
      replace g1 := g1.to hb2
      replace zb := below_step zb hb2
      have g2 := hv2.rd
      go_wp2_with fail
      refine (ref7_fix c _ _ _ g2 (by rw [sz_def]; omega)).mono ?_
      rintro e w3 ⟨v3, rfl, hv3, hb3⟩
      obtain ⟨a3_, n3_, c3_, rfl, H3, hm3⟩ := hv3.rd.open
      have hr_w3 : w.heap.size + 1 + 1 < w2.heap.size := (by omega)
      have hw_w3 : w.heap.size ≤ w2.heap.size := (by omega)
      replace x0_0 := (hb3.cell (p := ⟨w.heap.size, 0, none⟩) (by show w.heap.size < w2.heap.size; omega)).trans x0_0
      replace y0_0 := (hb3.frozen (p := ⟨w.heap.size, 0, none⟩) (by show w.heap.size < w2.heap.size; omega)).trans y0_0
      replace x0_1 := (hb3.cell (p := ⟨w.heap.size, 1, none⟩) (by show w.heap.size < w2.heap.size; omega)).trans x0_1
      replace y0_1 := (hb3.frozen (p := ⟨w.heap.size, 1, none⟩) (by show w.heap.size < w2.heap.size; omega)).trans y0_1
      replace x1_0 := (hb3.cell (p := ⟨w.heap.size + 1, 0, none⟩) (by show w.heap.size + 1 < w2.heap.size; omega)).trans x1_0
      replace y1_0 := (hb3.frozen (p := ⟨w.heap.size + 1, 0, none⟩) (by show w.heap.size + 1 < w2.heap.size; omega)).trans y1_0
      replace x1_1 := (hb3.cell (p := ⟨w.heap.size + 1, 1, none⟩) (by show w.heap.size + 1 < w2.heap.size; omega)).trans x1_1
      replace y1_1 := (hb3.frozen (p := ⟨w.heap.size + 1, 1, none⟩) (by show w.heap.size + 1 < w2.heap.size; omega)).trans y1_1
      replace x2_0 := (hb3.cell (p := ⟨w.heap.size + 1 + 1, 0, none⟩) (by show w.heap.size + 1 + 1 < w2.heap.size; omega)).trans x2_0
      replace y2_0 := (hb3.frozen (p := ⟨w.heap.size + 1 + 1, 0, none⟩) (by show w.heap.size + 1 + 1 < w2.heap.size; omega)).trans y2_0
      replace x2_1 := (hb3.cell (p := ⟨w.heap.size + 1 + 1, 1, none⟩) (by show w.heap.size + 1 + 1 < w2.heap.size; omega)).trans x2_1
      replace y2_1 := (hb3.frozen (p := ⟨w.heap.size + 1 + 1, 1, none⟩) (by show w.heap.size + 1 + 1 < w2.heap.size; omega)).trans y2_1
      replace zs := Nat.lt_of_lt_of_le zs hb3.size
      replace g0 := g0.to hb3
      replace g1 := g1.to hb3
      replace g2 := g2.to hb3
      replace zb := below_step zb hb3
      have g3 := hv3.rd
      generalize hng3 : decide (sgn c (val (limbs (val lb - val la))) < 0) = ng3
      have Hng3 := Lib.hid hng3
      clear hng3
      go_wp2_with fail
      have e3 := Hng3.out
      subst e3
      obtain ⟨k0, k1⟩ := two_cells (x := .bool (decide (sgn c (val (limbs (val lb - val la))) < 0))) (y := .slice a3_ n3_ c3_) x2_0 x2_1
      exact bodyPost_ret (results_I Tryz.results38 _ _ _ _ _ rfl k0 k1) rfl (finI2 zb (by omega) hr_w3 hw_w3 hv3)

set_option maxRecDepth 100000 in
set_option maxHeartbeats 8000000 in
theorem ref7_mul (b c : Bool) (va vb : Value) (la lb : List Nat) (w : World) (ha : Rd w va la) (hb : Rd w vb lb) (hla : la.length ≤ 90000) (hlb : lb.length ≤ 90000) :
    Calls Tryz.prog 55 #[aggI b va, aggI c vb] w (GivesI w (sgn b (val la) * sgn c (val lb))) := by
  have hsa := sz_val ha.1
  have hsb := sz_val hb.1
  have hs := sz_add (val la) (val lb)
  have hm := sz_mul (val la) (val lb)
  have hd1 := sz_sub (val la) (val lb)
  have hd2 := sz_sub (val lb) (val la)
  rw [← sgn_mul, show sgn (b != c) (val la * val lb) = sgn (b != c) (val (limbs (val la * val lb))) by rw [val_limbs]]
  obtain ⟨a0, n0, c0, rfl, H0, hm0⟩ := ha.open
  obtain ⟨a1, n1, c1, rfl, H1, hm1⟩ := hb.open
  go_enter Tryz.func55, Tryz.ntmps55
  go_wp2_with fail
  obtain ⟨W0, hW0⟩ : ∃ W0, ((w.alloc (.cells #[.bool b, .slice a0 n0 c0] 46)).alloc (.cells #[.bool c, .slice a1 n1 c1] 46)).alloc (.cells #[.bool false, .slice none 0 0] 46) = W0 := ⟨_, rfl⟩
  have x0_0 : W0.cell? ⟨w.heap.size, 0, none⟩ = some (.bool b) := by rw [← hW0]; simp [go_sem]
  have y0_0 : W0.frozen? ⟨w.heap.size, 0, none⟩ = false := by rw [← hW0]; simp [go_sem]
  have x0_1 : W0.cell? ⟨w.heap.size, 1, none⟩ = some (.slice a0 n0 c0) := by rw [← hW0]; simp [go_sem]
  have y0_1 : W0.frozen? ⟨w.heap.size, 1, none⟩ = false := by rw [← hW0]; simp [go_sem]
  have x1_0 : W0.cell? ⟨w.heap.size + 1, 0, none⟩ = some (.bool c) := by rw [← hW0]; simp [go_sem]
  have y1_0 : W0.frozen? ⟨w.heap.size + 1, 0, none⟩ = false := by rw [← hW0]; simp [go_sem]
  have x1_1 : W0.cell? ⟨w.heap.size + 1, 1, none⟩ = some (.slice a1 n1 c1) := by rw [← hW0]; simp [go_sem]
  have y1_1 : W0.frozen? ⟨w.heap.size + 1, 1, none⟩ = false := by rw [← hW0]; simp [go_sem]
  have x2_0 : W0.cell? ⟨w.heap.size + 1 + 1, 0, none⟩ = some (.bool false) := by rw [← hW0]; simp [go_sem]
  have y2_0 : W0.frozen? ⟨w.heap.size + 1 + 1, 0, none⟩ = false := by rw [← hW0]; simp [go_sem]
  have x2_1 : W0.cell? ⟨w.heap.size + 1 + 1, 1, none⟩ = some (.slice none 0 0) := by rw [← hW0]; simp [go_sem]
  have y2_1 : W0.frozen? ⟨w.heap.size + 1 + 1, 1, none⟩ = false := by rw [← hW0]; simp [go_sem]
  have zs : w.heap.size + 1 + 1 < W0.heap.size := by rw [← hW0]; simp
  have zb : Below w.heap.size w W0 := by rw [← hW0]; exact below_step (below_step (below_new _ _) (below_new _ _)) (below_new _ _)
  rw [hW0]
  clear hW0
  have g0 := ha.to zb
  have g1 := hb.to zb
  go_region_with (first
    | (go_at_call 39; have g0 := g0.drew; have g1 := g1.drew; have zb := zb.drew; refine (ref3_mul _ _ la lb _ g0 g1 (by omega) (by omega)).mono ?_; rintro e w2 ⟨v2, rfl, hv2, hb2⟩; obtain ⟨a2_, n2_, c2_, rfl, H2, hm2⟩ := hv2.rd.open; have hr_w2 : w.heap.size + 1 + 1 < W0.heap.size := (by omega); have hw_w2 : w.heap.size ≤ W0.heap.size := (by omega); have x0_0 := (hb2.cell (p := ⟨w.heap.size, 0, none⟩) (by show w.heap.size < W0.heap.size; omega)).trans x0_0; have y0_0 := (hb2.frozen (p := ⟨w.heap.size, 0, none⟩) (by show w.heap.size < W0.heap.size; omega)).trans y0_0; have x0_1 := (hb2.cell (p := ⟨w.heap.size, 1, none⟩) (by show w.heap.size < W0.heap.size; omega)).trans x0_1; have y0_1 := (hb2.frozen (p := ⟨w.heap.size, 1, none⟩) (by show w.heap.size < W0.heap.size; omega)).trans y0_1; have x1_0 := (hb2.cell (p := ⟨w.heap.size + 1, 0, none⟩) (by show w.heap.size + 1 < W0.heap.size; omega)).trans x1_0; have y1_0 := (hb2.frozen (p := ⟨w.heap.size + 1, 0, none⟩) (by show w.heap.size + 1 < W0.heap.size; omega)).trans y1_0; have x1_1 := (hb2.cell (p := ⟨w.heap.size + 1, 1, none⟩) (by show w.heap.size + 1 < W0.heap.size; omega)).trans x1_1; have y1_1 := (hb2.frozen (p := ⟨w.heap.size + 1, 1, none⟩) (by show w.heap.size + 1 < W0.heap.size; omega)).trans y1_1; have x2_0 := (hb2.cell (p := ⟨w.heap.size + 1 + 1, 0, none⟩) (by show w.heap.size + 1 + 1 < W0.heap.size; omega)).trans x2_0; have y2_0 := (hb2.frozen (p := ⟨w.heap.size + 1 + 1, 0, none⟩) (by show w.heap.size + 1 + 1 < W0.heap.size; omega)).trans y2_0; have x2_1 := (hb2.cell (p := ⟨w.heap.size + 1 + 1, 1, none⟩) (by show w.heap.size + 1 + 1 < W0.heap.size; omega)).trans x2_1; have y2_1 := (hb2.frozen (p := ⟨w.heap.size + 1 + 1, 1, none⟩) (by show w.heap.size + 1 + 1 < W0.heap.size; omega)).trans y2_1; have zs := Nat.lt_of_lt_of_le zs hb2.size; have g0 := g0.to hb2; have g1 := g1.to hb2; have zb := below_step zb hb2; have g2 := hv2.rd)
    | (go_at_call 53; refine (ref7_fix (b != c) _ _ _ g2 (by rw [sz_def]; omega)).mono ?_; rintro e w3 ⟨v3, rfl, hv3, hb3⟩; obtain ⟨a3_, n3_, c3_, rfl, H3, hm3⟩ := hv3.rd.open; have hr_w3 : w.heap.size + 1 + 1 < w2.heap.size := (by omega); have hw_w3 : w.heap.size ≤ w2.heap.size := (by omega); have x0_0 := (hb3.cell (p := ⟨w.heap.size, 0, none⟩) (by show w.heap.size < w2.heap.size; omega)).trans x0_0; have y0_0 := (hb3.frozen (p := ⟨w.heap.size, 0, none⟩) (by show w.heap.size < w2.heap.size; omega)).trans y0_0; have x0_1 := (hb3.cell (p := ⟨w.heap.size, 1, none⟩) (by show w.heap.size < w2.heap.size; omega)).trans x0_1; have y0_1 := (hb3.frozen (p := ⟨w.heap.size, 1, none⟩) (by show w.heap.size < w2.heap.size; omega)).trans y0_1; have x1_0 := (hb3.cell (p := ⟨w.heap.size + 1, 0, none⟩) (by show w.heap.size + 1 < w2.heap.size; omega)).trans x1_0; have y1_0 := (hb3.frozen (p := ⟨w.heap.size + 1, 0, none⟩) (by show w.heap.size + 1 < w2.heap.size; omega)).trans y1_0; have x1_1 := (hb3.cell (p := ⟨w.heap.size + 1, 1, none⟩) (by show w.heap.size + 1 < w2.heap.size; omega)).trans x1_1; have y1_1 := (hb3.frozen (p := ⟨w.heap.size + 1, 1, none⟩) (by show w.heap.size + 1 < w2.heap.size; omega)).trans y1_1; have x2_0 := (hb3.cell (p := ⟨w.heap.size + 1 + 1, 0, none⟩) (by show w.heap.size + 1 + 1 < w2.heap.size; omega)).trans x2_0; have y2_0 := (hb3.frozen (p := ⟨w.heap.size + 1 + 1, 0, none⟩) (by show w.heap.size + 1 + 1 < w2.heap.size; omega)).trans y2_0; have x2_1 := (hb3.cell (p := ⟨w.heap.size + 1 + 1, 1, none⟩) (by show w.heap.size + 1 + 1 < w2.heap.size; omega)).trans x2_1; have y2_1 := (hb3.frozen (p := ⟨w.heap.size + 1 + 1, 1, none⟩) (by show w.heap.size + 1 + 1 < w2.heap.size; omega)).trans y2_1; have zs := Nat.lt_of_lt_of_le zs hb3.size; have g0 := g0.to hb3; have g1 := g1.to hb3; have g2 := g2.to hb3; have zb := below_step zb hb3; have g3 := hv3.rd; generalize hng3 : decide (sgn (b != c) (val (limbs (val la * val lb))) < 0) = ng3; have Hng3 := Lib.hid hng3; clear hng3))
  all_goals
    go_wp2_with fail
    have e3 := Hng3.out
    subst e3
    obtain ⟨k0, k1⟩ := two_cells (x := .bool (decide (sgn (b != c) (val (limbs (val la * val lb))) < 0))) (y := .slice a3_ n3_ c3_) x2_0 x2_1
    exact bodyPost_ret (results_I Tryz.results55 _ _ _ _ _ rfl k0 k1) rfl (finI2 zb (by omega) hr_w3 hw_w3 hv3)

end Go.Proofs.YtmjnlpanlgmdmaaGreat

