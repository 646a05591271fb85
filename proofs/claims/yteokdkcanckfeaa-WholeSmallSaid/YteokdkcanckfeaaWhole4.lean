/-
  The walks of package whole: differences, order, numbers.
-/
import Derived.Test.YteokdkcanckfeaaWhole3
import Derived.Deep.DrawnRows
import Derived.Laws.EntriesVeiled
namespace Go.Proofs.Yteokdkcanckfeaa
open Go.RowKit Tw
set_option linter.unusedVariables false
set_option linter.unusedSimpArgs false
attribute [local go_sem ↓] Go.wp_at_zero Go.wp_at_succ

/-- An integer that a callee has answered, laid into the call's own result. -/
theorem finI2 {w w2 : World} {B rb : Nat} {z : Int} {v : Value} (hb0 : Below w.heap.size w w2) (hrb : w.heap.size ≤ rb) (hrb1 : rb < B) (hB : w.heap.size ≤ B) (hv : Own B w2 v (limbs z.natAbs)) :
    GivesI w z (.returned (aggI (decide (z < 0)) v)) ((w2.setCell ⟨rb, 0, none⟩ (.bool (decide (z < 0)))).setCell ⟨rb, 1, none⟩ v) :=
  ⟨v, rfl, ((hv.setOther (p := ⟨rb, 0, none⟩) hrb1 _).setOther (p := ⟨rb, 1, none⟩) hrb1 _).mono hB, (hb0.setCell (p := ⟨rb, 0, none⟩) hrb _).setCell (p := ⟨rb, 1, none⟩) hrb _⟩

/-- Whether an integer, as it lies there, is right. -/
def rightI (b : Bool) (l : List Nat) : Bool := decide (sz (val l) = l.length) && !(b && decide (l.length = 0))

set_option maxRecDepth 100000 in
set_option maxHeartbeats 8000000 in
theorem whole_sub (b c : Bool) (va vb : Value) (la lb : List Nat) (w : World) (ha : Rd w va la) (hb : Rd w vb lb) (hla : la.length ≤ 100000) (hlb : lb.length ≤ 100000) :
    Calls Try.prog 38 #[aggI b va, aggI c vb] w (GivesI w (sgn b (val la) - sgn c (val lb))) := by
  have hsa := sz_val ha.1
  have hsb := sz_val hb.1
  have hs := sz_add (val la) (val lb)
  have hm := sz_mul (val la) (val lb)
  have hd1 := sz_sub (val la) (val lb)
  have hd2 := sz_sub (val lb) (val la)
  have hlen : (limbs (-sgn c (val lb)).natAbs).length ≤ 400000 := by rw [sz_def, Int.natAbs_neg, sgn_abs]; omega
  rw [show sgn b (val la) - sgn c (val lb) = sgn b (val la) + sgn (decide (-sgn c (val lb) < 0)) (val (limbs (-sgn c (val lb)).natAbs)) by rw [val_limbs, sgn_canon]; omega]
  obtain ⟨a0, n0, c0, rfl, H0, hm0⟩ := ha.open
  obtain ⟨a1, n1, c1, rfl, H1, hm1⟩ := hb.open
  go_enter Try.func38, Try.ntmps38
  go_wp2_with fail
  obtain ⟨W0, hW0⟩ : ∃ W0, ((w.alloc (.cells #[.bool b, .slice a0 n0 c0] 41)).alloc (.cells #[.bool c, .slice a1 n1 c1] 41)).alloc (.cells #[.bool false, .slice none 0 0] 41) = W0 := ⟨_, rfl⟩
  have x0_0 : W0.cell? ⟨w.heap.size, 0, none⟩ = some (.bool b) := by rw [← hW0]; simp [go_sem]
  have y0_0 : W0.frozen? ⟨w.heap.size, 0, none⟩ = false := by rw [← hW0]; simp [go_sem]
  have x0_1 : W0.cell? ⟨w.heap.size, 1, none⟩ = some (.slice a0 n0 c0) := by rw [← hW0]; simp [go_sem]
  have y0_1 : W0.frozen? ⟨w.heap.size, 1, none⟩ = false := by rw [← hW0]; simp [go_sem]
  have x1_0 : W0.cell? ⟨w.heap.size + 1, 0, none⟩ = some (.bool c) := by rw [← hW0]; simp [go_sem]
  have y1_0 : W0.frozen? ⟨w.heap.size + 1, 0, none⟩ = false := by rw [← hW0]; simp [go_sem]
  have x1_1 : W0.cell? ⟨w.heap.size + 1, 1, none⟩ = some (.slice a1 n1 c1) := by rw [← hW0]; simp [go_sem]
  have y1_1 : W0.frozen? ⟨w.heap.size + 1, 1, none⟩ = false := by rw [← hW0]; simp [go_sem]
  have x2_0 : W0.cell? ⟨w.heap.size + 1 + 1, 0, none⟩ = some (.bool false) := by rw [← hW0]; simp [go_sem]
  have y2_0 : W0.frozen? ⟨w.heap.size + 1 + 1, 0, none⟩ = false := by rw [← hW0]; simp [go_sem]
  have x2_1 : W0.cell? ⟨w.heap.size + 1 + 1, 1, none⟩ = some (.slice none 0 0) := by rw [← hW0]; simp [go_sem]
  have y2_1 : W0.frozen? ⟨w.heap.size + 1 + 1, 1, none⟩ = false := by rw [← hW0]; simp [go_sem]
  have zs : w.heap.size + 1 + 1 < W0.heap.size := by rw [← hW0]; simp
  have zb : Below w.heap.size w W0 := by rw [← hW0]; exact below_step (below_step (below_new _ _) (below_new _ _)) (below_new _ _)
  rw [hW0]
  clear hW0
  have g0 := ha.to zb
  have g1 := hb.to zb
  go_region_with (first
    | (go_at_call 41; have g0 := g0.drew; have g1 := g1.drew; have zb := zb.drew; refine (whole_neg c _ lb _ g1 (by omega)).mono ?_; rintro e w2 ⟨v2, rfl, hv2, hb2⟩; obtain ⟨a2_, n2_, c2_, rfl, H2, hm2⟩ := hv2.rd.open; have hr_w2 : w.heap.size + 1 + 1 < W0.heap.size := (by omega); have hw_w2 : w.heap.size ≤ W0.heap.size := (by omega); have x0_0 := (hb2.cell (p := ⟨w.heap.size, 0, none⟩) (by show w.heap.size < W0.heap.size; omega)).trans x0_0; have y0_0 := (hb2.frozen (p := ⟨w.heap.size, 0, none⟩) (by show w.heap.size < W0.heap.size; omega)).trans y0_0; have x0_1 := (hb2.cell (p := ⟨w.heap.size, 1, none⟩) (by show w.heap.size < W0.heap.size; omega)).trans x0_1; have y0_1 := (hb2.frozen (p := ⟨w.heap.size, 1, none⟩) (by show w.heap.size < W0.heap.size; omega)).trans y0_1; have x1_0 := (hb2.cell (p := ⟨w.heap.size + 1, 0, none⟩) (by show w.heap.size + 1 < W0.heap.size; omega)).trans x1_0; have y1_0 := (hb2.frozen (p := ⟨w.heap.size + 1, 0, none⟩) (by show w.heap.size + 1 < W0.heap.size; omega)).trans y1_0; have x1_1 := (hb2.cell (p := ⟨w.heap.size + 1, 1, none⟩) (by show w.heap.size + 1 < W0.heap.size; omega)).trans x1_1; have y1_1 := (hb2.frozen (p := ⟨w.heap.size + 1, 1, none⟩) (by show w.heap.size + 1 < W0.heap.size; omega)).trans y1_1; have x2_0 := (hb2.cell (p := ⟨w.heap.size + 1 + 1, 0, none⟩) (by show w.heap.size + 1 + 1 < W0.heap.size; omega)).trans x2_0; have y2_0 := (hb2.frozen (p := ⟨w.heap.size + 1 + 1, 0, none⟩) (by show w.heap.size + 1 + 1 < W0.heap.size; omega)).trans y2_0; have x2_1 := (hb2.cell (p := ⟨w.heap.size + 1 + 1, 1, none⟩) (by show w.heap.size + 1 + 1 < W0.heap.size; omega)).trans x2_1; have y2_1 := (hb2.frozen (p := ⟨w.heap.size + 1 + 1, 1, none⟩) (by show w.heap.size + 1 + 1 < W0.heap.size; omega)).trans y2_1; have zs := Nat.lt_of_lt_of_le zs hb2.size; have g0 := g0.to hb2; have g1 := g1.to hb2; have zb := below_step zb hb2; have g2 := hv2.rd; generalize hng2 : decide (-sgn c (val lb) < 0) = ng2; have Hng2 := Lib.hid hng2; clear hng2)
    | (go_at_call 35; refine (whole_add b ng2 _ _ la _ _ g0 g2 (by omega) hlen).mono ?_; rintro e w3 ⟨v3, rfl, hv3, hb3⟩; obtain ⟨a3_, n3_, c3_, rfl, H3, hm3⟩ := hv3.rd.open; have hr_w3 : w.heap.size + 1 + 1 < w2.heap.size := (by omega); have hw_w3 : w.heap.size ≤ w2.heap.size := (by omega); have x0_0 := (hb3.cell (p := ⟨w.heap.size, 0, none⟩) (by show w.heap.size < w2.heap.size; omega)).trans x0_0; have y0_0 := (hb3.frozen (p := ⟨w.heap.size, 0, none⟩) (by show w.heap.size < w2.heap.size; omega)).trans y0_0; have x0_1 := (hb3.cell (p := ⟨w.heap.size, 1, none⟩) (by show w.heap.size < w2.heap.size; omega)).trans x0_1; have y0_1 := (hb3.frozen (p := ⟨w.heap.size, 1, none⟩) (by show w.heap.size < w2.heap.size; omega)).trans y0_1; have x1_0 := (hb3.cell (p := ⟨w.heap.size + 1, 0, none⟩) (by show w.heap.size + 1 < w2.heap.size; omega)).trans x1_0; have y1_0 := (hb3.frozen (p := ⟨w.heap.size + 1, 0, none⟩) (by show w.heap.size + 1 < w2.heap.size; omega)).trans y1_0; have x1_1 := (hb3.cell (p := ⟨w.heap.size + 1, 1, none⟩) (by show w.heap.size + 1 < w2.heap.size; omega)).trans x1_1; have y1_1 := (hb3.frozen (p := ⟨w.heap.size + 1, 1, none⟩) (by show w.heap.size + 1 < w2.heap.size; omega)).trans y1_1; have x2_0 := (hb3.cell (p := ⟨w.heap.size + 1 + 1, 0, none⟩) (by show w.heap.size + 1 + 1 < w2.heap.size; omega)).trans x2_0; have y2_0 := (hb3.frozen (p := ⟨w.heap.size + 1 + 1, 0, none⟩) (by show w.heap.size + 1 + 1 < w2.heap.size; omega)).trans y2_0; have x2_1 := (hb3.cell (p := ⟨w.heap.size + 1 + 1, 1, none⟩) (by show w.heap.size + 1 + 1 < w2.heap.size; omega)).trans x2_1; have y2_1 := (hb3.frozen (p := ⟨w.heap.size + 1 + 1, 1, none⟩) (by show w.heap.size + 1 + 1 < w2.heap.size; omega)).trans y2_1; have zs := Nat.lt_of_lt_of_le zs hb3.size; have g0 := g0.to hb3; have g1 := g1.to hb3; have g2 := g2.to hb3; have zb := below_step zb hb3; have g3 := hv3.rd; generalize hng3 : decide (sgn b (val la) + sgn ng2 (val (limbs (-sgn c (val lb)).natAbs)) < 0) = ng3; have Hng3 := Lib.hid hng3; clear hng3))
  all_goals
    go_wp2_with fail
    have e3 := Hng3.out
    subst e3
    have e2 := Hng2.out
    subst e2
    obtain ⟨k0, k1⟩ := two_cells (x := .bool (decide (sgn b (val la) + sgn (decide (-sgn c (val lb) < 0)) (val (limbs (-sgn c (val lb)).natAbs)) < 0))) (y := .slice a3_ n3_ c3_) x2_0 x2_1
    exact bodyPost_ret (results_I Try.results38 _ _ _ _ _ rfl k0 k1) rfl (finI2 zb (by omega) hr_w3 hw_w3 hv3)

set_option maxRecDepth 100000 in
set_option maxHeartbeats 8000000 in
theorem whole_cmp (b c : Bool) (va vb : Value) (la lb : List Nat) (w : World) (ha : Rd w va la) (hb : Rd w vb lb) (hla : la.length ≤ 100000) (hlb : lb.length ≤ 100000) :
    Calls Try.prog 39 #[aggI b va, aggI c vb] w (fun e w' => e = .returned (.int .i64 (cmpZ (sgn b (val la)) (sgn c (val lb)))) ∧ Below w.heap.size w w') := by
  obtain ⟨r, hr⟩ : ∃ r, cmpZ (sgn b (val la)) (sgn c (val lb)) = r := ⟨_, rfl⟩
  rw [hr]
  obtain ⟨a0, n0, c0, rfl, H0, hm0⟩ := ha.open
  obtain ⟨a1, n1, c1, rfl, H1, hm1⟩ := hb.open
  go_enter Try.func39, Try.ntmps39
  go_wp2_with fail
  obtain ⟨W0, hW0⟩ : ∃ W0, (w.alloc (.cells #[.bool b, .slice a0 n0 c0] 41)).alloc (.cells #[.bool c, .slice a1 n1 c1] 41) = W0 := ⟨_, rfl⟩
  have x0_0 : W0.cell? ⟨w.heap.size, 0, none⟩ = some (.bool b) := by rw [← hW0]; simp [go_sem]
  have y0_0 : W0.frozen? ⟨w.heap.size, 0, none⟩ = false := by rw [← hW0]; simp [go_sem]
  have x0_1 : W0.cell? ⟨w.heap.size, 1, none⟩ = some (.slice a0 n0 c0) := by rw [← hW0]; simp [go_sem]
  have y0_1 : W0.frozen? ⟨w.heap.size, 1, none⟩ = false := by rw [← hW0]; simp [go_sem]
  have x1_0 : W0.cell? ⟨w.heap.size + 1, 0, none⟩ = some (.bool c) := by rw [← hW0]; simp [go_sem]
  have y1_0 : W0.frozen? ⟨w.heap.size + 1, 0, none⟩ = false := by rw [← hW0]; simp [go_sem]
  have x1_1 : W0.cell? ⟨w.heap.size + 1, 1, none⟩ = some (.slice a1 n1 c1) := by rw [← hW0]; simp [go_sem]
  have y1_1 : W0.frozen? ⟨w.heap.size + 1, 1, none⟩ = false := by rw [← hW0]; simp [go_sem]
  have zs : w.heap.size + 1 < W0.heap.size := by rw [← hW0]; simp
  have zb : Below w.heap.size w W0 := by rw [← hW0]; exact below_step (below_new _ _) (below_new _ _)
  rw [hW0]
  clear hW0
  have g0 := ha.to zb
  have g1 := hb.to zb
  refine (whole_sub b c _ _ la lb _ g0 g1 hla hlb).mono ?_
  rintro e w2 ⟨v2, rfl, hv2, hb2⟩
  obtain ⟨a2_, n2_, c2_, rfl, H2, hm2⟩ := hv2.rd.open
  have hw_w2 : w.heap.size ≤ W0.heap.size := (by omega)
  replace x0_0 := (hb2.cell (p := ⟨w.heap.size, 0, none⟩) (by show w.heap.size < W0.heap.size; omega)).trans x0_0
  replace y0_0 := (hb2.frozen (p := ⟨w.heap.size, 0, none⟩) (by show w.heap.size < W0.heap.size; omega)).trans y0_0
  replace x0_1 := (hb2.cell (p := ⟨w.heap.size, 1, none⟩) (by show w.heap.size < W0.heap.size; omega)).trans x0_1
  replace y0_1 := (hb2.frozen (p := ⟨w.heap.size, 1, none⟩) (by show w.heap.size < W0.heap.size; omega)).trans y0_1
  replace x1_0 := (hb2.cell (p := ⟨w.heap.size + 1, 0, none⟩) (by show w.heap.size + 1 < W0.heap.size; omega)).trans x1_0
  replace y1_0 := (hb2.frozen (p := ⟨w.heap.size + 1, 0, none⟩) (by show w.heap.size + 1 < W0.heap.size; omega)).trans y1_0
  replace x1_1 := (hb2.cell (p := ⟨w.heap.size + 1, 1, none⟩) (by show w.heap.size + 1 < W0.heap.size; omega)).trans x1_1
  replace y1_1 := (hb2.frozen (p := ⟨w.heap.size + 1, 1, none⟩) (by show w.heap.size + 1 < W0.heap.size; omega)).trans y1_1
  replace zs := Nat.lt_of_lt_of_le zs hb2.size
  replace g0 := g0.to hb2
  replace g1 := g1.to hb2
  replace zb := below_step zb hb2
  have g2 := hv2.rd
  generalize hng2 : decide (sgn b (val la) - sgn c (val lb) < 0) = ng2
  have Hng2 := Lib.hid hng2
  clear hng2
  have hz := @sz_eq_zero (sgn b (val la) - sgn c (val lb)).natAbs
  have h2 := H2.out
  rw [sz_def] at h2
  by_cases hd0 : sgn b (val la) - sgn c (val lb) = 0
  · obtain rfl : n2_ = 0 := by omega
    obtain rfl : r = 0 := by rw [← hr, cmpZ_eq, if_pos hd0]
    clear hr
    go_wp2_with fail
    go_ret
    exact ⟨rfl, below_step zb (below_new _ _)⟩
  · have hn2 : 0 < n2_ := by omega
    have hn3 : ¬ n2_ = 0 := by omega
    have hn4 : ((n2_ : Int) == 0) = false := by rw [beq_eq_false_iff_ne]; omega
    by_cases hdn : sgn b (val la) - sgn c (val lb) < 0
    · obtain rfl : ng2 = true := by rw [← Hng2.out]; simpa using hdn
      obtain rfl : r = -1 := by rw [← hr, cmpZ_eq, if_neg hd0, if_pos hdn]
      clear hr h2 hz Hng2
      go_wp2_with fail
      go_ret
      exact ⟨rfl, below_step zb (below_new _ _)⟩
    · obtain rfl : ng2 = false := by rw [← Hng2.out]; simpa using hdn
      obtain rfl : r = 1 := by rw [← hr, cmpZ_eq, if_neg hd0, if_neg hdn]
      clear hr h2 hz Hng2
      go_wp2_with fail
      go_ret
      exact ⟨rfl, below_step zb (below_new _ _)⟩

set_option maxRecDepth 100000 in
set_option maxHeartbeats 4000000 in
theorem whole_of (n z : Int) (w : World) (hz : z = n) (n0 : -9223372036854775808 ≤ n) (n1 : n < 9223372036854775808) :
    Calls Try.prog 44 #[.int .i64 n] w (GivesI w z) := by
  by_cases hn : n < 0
  · obtain rfl : z = sgn true (val (limbs (val (limbs (-(n + 1)).toNat) + val (limbs (1 : Int).toNat)))) := by rw [val_limbs, val_limbs, val_limbs, sgn_true]; omega
    have hlen : ∀ m : Nat, m ≤ 18446744073709551616 → sz m ≤ 3 := fun m hm => by
      have := sz_mono hm
      rw [show sz 18446744073709551616 = 3 by decide +kernel] at this
      exact this
    have hl1 := hlen (-(n + 1)).toNat (by omega)
    have hl2 := hlen (1 : Int).toNat (by omega)
    have hl3 := hlen ((-(n + 1)).toNat + (1 : Int).toNat) (by omega)
    clear hlen
    go_enter Try.func44, Try.ntmps44
    go_wp2_with fail
    obtain ⟨W0, hW0⟩ : ∃ W0, w.alloc (.cells #[.bool false, .slice none 0 0] 41) = W0 := ⟨_, rfl⟩
    have x0_0 : W0.cell? ⟨w.heap.size, 0, none⟩ = some (.bool false) := by rw [← hW0]; simp [go_sem]
    have y0_0 : W0.frozen? ⟨w.heap.size, 0, none⟩ = false := by rw [← hW0]; simp [go_sem]
    have x0_1 : W0.cell? ⟨w.heap.size, 1, none⟩ = some (.slice none 0 0) := by rw [← hW0]; simp [go_sem]
    have y0_1 : W0.frozen? ⟨w.heap.size, 1, none⟩ = false := by rw [← hW0]; simp [go_sem]
    have zs : w.heap.size < W0.heap.size := by rw [← hW0]; simp
    have zb : Below w.heap.size w W0 := by rw [← hW0]; exact below_new _ _
    rw [hW0]
    clear hW0
    refine (nat_of _ _ (by omega) (by omega)).mono ?_
    rintro e w1 ⟨v1, rfl, hv1, hb1⟩
    obtain ⟨a1_, n1_, c1_, rfl, H1, hm1⟩ := hv1.rd.open
    have hr_w1 : w.heap.size < W0.heap.size := (by omega)
    have hw_w1 : w.heap.size ≤ W0.heap.size := (by omega)
    replace x0_0 := (hb1.cell (p := ⟨w.heap.size, 0, none⟩) (by show w.heap.size < W0.heap.size; omega)).trans x0_0
    replace y0_0 := (hb1.frozen (p := ⟨w.heap.size, 0, none⟩) (by show w.heap.size < W0.heap.size; omega)).trans y0_0
    replace x0_1 := (hb1.cell (p := ⟨w.heap.size, 1, none⟩) (by show w.heap.size < W0.heap.size; omega)).trans x0_1
    replace y0_1 := (hb1.frozen (p := ⟨w.heap.size, 1, none⟩) (by show w.heap.size < W0.heap.size; omega)).trans y0_1
    replace zs := Nat.lt_of_lt_of_le zs hb1.size
    replace zb := below_step zb hb1
    have g1 := hv1.rd
    go_wp2_with fail
    refine (nat_of _ _ (by omega) (by omega)).mono ?_
    rintro e w2 ⟨v2, rfl, hv2, hb2⟩
    obtain ⟨a2_, n2_, c2_, rfl, H2, hm2⟩ := hv2.rd.open
    have hr_w2 : w.heap.size < w1.heap.size := (by omega)
    have hw_w2 : w.heap.size ≤ w1.heap.size := (by omega)
    replace x0_0 := (hb2.cell (p := ⟨w.heap.size, 0, none⟩) (by show w.heap.size < w1.heap.size; omega)).trans x0_0
    replace y0_0 := (hb2.frozen (p := ⟨w.heap.size, 0, none⟩) (by show w.heap.size < w1.heap.size; omega)).trans y0_0
    replace x0_1 := (hb2.cell (p := ⟨w.heap.size, 1, none⟩) (by show w.heap.size < w1.heap.size; omega)).trans x0_1
    replace y0_1 := (hb2.frozen (p := ⟨w.heap.size, 1, none⟩) (by show w.heap.size < w1.heap.size; omega)).trans y0_1
    replace zs := Nat.lt_of_lt_of_le zs hb2.size
    replace g1 := g1.to hb2
    replace zb := below_step zb hb2
    have g2 := hv2.rd
    go_wp2_with fail
    refine (nat_add _ _ _ _ _ g1 g2 (by rw [sz_def]; omega) (by rw [sz_def]; omega)).mono ?_
    rintro e w3 ⟨v3, rfl, hv3, hb3⟩
    obtain ⟨a3_, n3_, c3_, rfl, H3, hm3⟩ := hv3.rd.open
    have hr_w3 : w.heap.size < w2.heap.size := (by omega)
    have hw_w3 : w.heap.size ≤ w2.heap.size := (by omega)
    replace x0_0 := (hb3.cell (p := ⟨w.heap.size, 0, none⟩) (by show w.heap.size < w2.heap.size; omega)).trans x0_0
    replace y0_0 := (hb3.frozen (p := ⟨w.heap.size, 0, none⟩) (by show w.heap.size < w2.heap.size; omega)).trans y0_0
    replace x0_1 := (hb3.cell (p := ⟨w.heap.size, 1, none⟩) (by show w.heap.size < w2.heap.size; omega)).trans x0_1
    replace y0_1 := (hb3.frozen (p := ⟨w.heap.size, 1, none⟩) (by show w.heap.size < w2.heap.size; omega)).trans y0_1
    replace zs := Nat.lt_of_lt_of_le zs hb3.size
    replace g1 := g1.to hb3
    replace g2 := g2.to hb3
    replace zb := below_step zb hb3
    have g3 := hv3.rd
    go_wp2_with fail
    refine (whole_signed true _ _ _ g3 (by rw [sz_def, val_limbs, val_limbs]; omega)).mono ?_
    rintro e w4 ⟨v4, rfl, hv4, hb4⟩
    obtain ⟨a4_, n4_, c4_, rfl, H4, hm4⟩ := hv4.rd.open
    have hr_w4 : w.heap.size < w3.heap.size := (by omega)
    have hw_w4 : w.heap.size ≤ w3.heap.size := (by omega)
    replace x0_0 := (hb4.cell (p := ⟨w.heap.size, 0, none⟩) (by show w.heap.size < w3.heap.size; omega)).trans x0_0
    replace y0_0 := (hb4.frozen (p := ⟨w.heap.size, 0, none⟩) (by show w.heap.size < w3.heap.size; omega)).trans y0_0
    replace x0_1 := (hb4.cell (p := ⟨w.heap.size, 1, none⟩) (by show w.heap.size < w3.heap.size; omega)).trans x0_1
    replace y0_1 := (hb4.frozen (p := ⟨w.heap.size, 1, none⟩) (by show w.heap.size < w3.heap.size; omega)).trans y0_1
    replace zs := Nat.lt_of_lt_of_le zs hb4.size
    replace g1 := g1.to hb4
    replace g2 := g2.to hb4
    replace g3 := g3.to hb4
    replace zb := below_step zb hb4
    have g4 := hv4.rd
    generalize hng4 : decide (sgn true (val (limbs (val (limbs (-(n + 1)).toNat) + val (limbs (1 : Int).toNat)))) < 0) = ng4
    have Hng4 := Lib.hid hng4
    clear hng4
    go_wp2_with fail
    have e4 := Hng4.out
    subst e4
    obtain ⟨k0, k1⟩ := two_cells (x := .bool (decide (sgn true (val (limbs (val (limbs (-(n + 1)).toNat) + val (limbs (1 : Int).toNat)))) < 0))) (y := .slice a4_ n4_ c4_) x0_0 x0_1
    exact bodyPost_ret (results_I Try.results44 _ _ _ _ _ rfl k0 k1) rfl (finI2 zb (by omega) hr_w4 hw_w4 hv4)
  · obtain rfl : z = sgn false (val (limbs n.toNat)) := by rw [val_limbs, sgn_false]; omega
    have hl1 : sz n.toNat ≤ 3 := by
      have := sz_mono (show n.toNat ≤ 18446744073709551616 by omega)
      rw [show sz 18446744073709551616 = 3 by decide +kernel] at this
      exact this
    go_enter Try.func44, Try.ntmps44
    go_wp2_with fail
    obtain ⟨W0, hW0⟩ : ∃ W0, w.alloc (.cells #[.bool false, .slice none 0 0] 41) = W0 := ⟨_, rfl⟩
    have x0_0 : W0.cell? ⟨w.heap.size, 0, none⟩ = some (.bool false) := by rw [← hW0]; simp [go_sem]
    have y0_0 : W0.frozen? ⟨w.heap.size, 0, none⟩ = false := by rw [← hW0]; simp [go_sem]
    have x0_1 : W0.cell? ⟨w.heap.size, 1, none⟩ = some (.slice none 0 0) := by rw [← hW0]; simp [go_sem]
    have y0_1 : W0.frozen? ⟨w.heap.size, 1, none⟩ = false := by rw [← hW0]; simp [go_sem]
    have zs : w.heap.size < W0.heap.size := by rw [← hW0]; simp
    have zb : Below w.heap.size w W0 := by rw [← hW0]; exact below_new _ _
    rw [hW0]
    clear hW0
    refine (nat_of _ _ (by omega) (by omega)).mono ?_
    rintro e w1 ⟨v1, rfl, hv1, hb1⟩
    obtain ⟨a1_, n1_, c1_, rfl, H1, hm1⟩ := hv1.rd.open
    have hr_w1 : w.heap.size < W0.heap.size := (by omega)
    have hw_w1 : w.heap.size ≤ W0.heap.size := (by omega)
    replace x0_0 := (hb1.cell (p := ⟨w.heap.size, 0, none⟩) (by show w.heap.size < W0.heap.size; omega)).trans x0_0
    replace y0_0 := (hb1.frozen (p := ⟨w.heap.size, 0, none⟩) (by show w.heap.size < W0.heap.size; omega)).trans y0_0
    replace x0_1 := (hb1.cell (p := ⟨w.heap.size, 1, none⟩) (by show w.heap.size < W0.heap.size; omega)).trans x0_1
    replace y0_1 := (hb1.frozen (p := ⟨w.heap.size, 1, none⟩) (by show w.heap.size < W0.heap.size; omega)).trans y0_1
    replace zs := Nat.lt_of_lt_of_le zs hb1.size
    replace zb := below_step zb hb1
    have g1 := hv1.rd
    go_wp2_with fail
    refine (whole_signed false _ _ _ g1 (by rw [sz_def]; omega)).mono ?_
    rintro e w4 ⟨v4, rfl, hv4, hb4⟩
    obtain ⟨a4_, n4_, c4_, rfl, H4, hm4⟩ := hv4.rd.open
    have hr_w4 : w.heap.size < w1.heap.size := (by omega)
    have hw_w4 : w.heap.size ≤ w1.heap.size := (by omega)
    replace x0_0 := (hb4.cell (p := ⟨w.heap.size, 0, none⟩) (by show w.heap.size < w1.heap.size; omega)).trans x0_0
    replace y0_0 := (hb4.frozen (p := ⟨w.heap.size, 0, none⟩) (by show w.heap.size < w1.heap.size; omega)).trans y0_0
    replace x0_1 := (hb4.cell (p := ⟨w.heap.size, 1, none⟩) (by show w.heap.size < w1.heap.size; omega)).trans x0_1
    replace y0_1 := (hb4.frozen (p := ⟨w.heap.size, 1, none⟩) (by show w.heap.size < w1.heap.size; omega)).trans y0_1
    replace zs := Nat.lt_of_lt_of_le zs hb4.size
    replace g1 := g1.to hb4
    replace zb := below_step zb hb4
    have g4 := hv4.rd
    generalize hng4 : decide (sgn false (val (limbs n.toNat)) < 0) = ng4
    have Hng4 := Lib.hid hng4
    clear hng4
    go_wp2_with fail
    have e4 := Hng4.out
    subst e4
    obtain ⟨k0, k1⟩ := two_cells (x := .bool (decide (sgn false (val (limbs n.toNat)) < 0))) (y := .slice a4_ n4_ c4_) x0_0 x0_1
    exact bodyPost_ret (results_I Try.results44 _ _ _ _ _ rfl k0 k1) rfl (finI2 zb (by omega) hr_w4 hw_w4 hv4)

set_option maxRecDepth 100000 in
set_option maxHeartbeats 4000000 in
theorem whole_right (b : Bool) (va : Value) (la : List Nat) (w : World) (ha : Rd w va la) (hla : la.length ≤ 100000) :
    Calls Try.prog 37 #[aggI b va] w (fun e w' => e = .returned (.bool (rightI b la)) ∧ Below w.heap.size w w') := by
  obtain ⟨q, hq⟩ : ∃ q, rightI b la = q := ⟨_, rfl⟩
  rw [hq]
  obtain ⟨a0, n0, c0, rfl, H0, hm0⟩ := ha.open
  go_enter Try.func37, Try.ntmps37
  go_wp2_with fail
  obtain ⟨W0, hW0⟩ : ∃ W0, w.alloc (.cells #[.bool b, .slice a0 n0 c0] 41) = W0 := ⟨_, rfl⟩
  have x0_0 : W0.cell? ⟨w.heap.size, 0, none⟩ = some (.bool b) := by rw [← hW0]; simp [go_sem]
  have y0_0 : W0.frozen? ⟨w.heap.size, 0, none⟩ = false := by rw [← hW0]; simp [go_sem]
  have x0_1 : W0.cell? ⟨w.heap.size, 1, none⟩ = some (.slice a0 n0 c0) := by rw [← hW0]; simp [go_sem]
  have y0_1 : W0.frozen? ⟨w.heap.size, 1, none⟩ = false := by rw [← hW0]; simp [go_sem]
  have zs : w.heap.size < W0.heap.size := by rw [← hW0]; simp
  have zb : Below w.heap.size w W0 := by rw [← hW0]; exact below_new _ _
  rw [hW0]
  clear hW0
  have g0 := ha.to zb
  refine (nat_right _ la _ g0).mono ?_
  rintro e w2 ⟨rfl, rfl⟩
  generalize hr : decide (sz (val la) = la.length) = r
  have Hr := Lib.hid hr
  clear hr
  have Hq := Lib.hid hq
  clear hq
  have hl := H0.out
  cases b <;> cases r
  all_goals
    go_wp2_with fail
    go_ret
    refine ⟨?_, zb⟩
    have e1 := Hq.out
    have e2 := Hr.out
    rw [← e1]
    unfold rightI
    rw [e2, hl]
    first | (simp; done) | (simp; by_cases hz : n0 = 0 <;> simp [hz])

end Go.Proofs.Yteokdkcanckfeaa
