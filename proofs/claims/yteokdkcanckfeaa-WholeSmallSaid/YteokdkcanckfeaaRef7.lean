/-
  The walks of its reference's integers.
-/
import Derived.Test.YteokdkcanckfeaaWhole4
import Derived.Test.YteokdkcanckfeaaRef3b
import Derived.Test.YteokdkcanckfeaaWords
import Derived.Deep.DrawnRows
import Derived.Laws.EntriesVeiled
namespace Go.Proofs.Yteokdkcanckfeaa
open Go.RowKit Tw
set_option linter.unusedVariables false
set_option linter.unusedSimpArgs false
attribute [local go_sem ↓] Go.wp_at_zero Go.wp_at_succ

set_option maxRecDepth 100000 in
set_option maxHeartbeats 4000000 in
theorem ref7_fix (b : Bool) (va : Value) (la : List Nat) (w : World) (ha : Rd w va la) (hla : la.length ≤ 1000000) :
    Calls Try.prog 33 #[aggI b va] w (GivesI w (sgn b (val la))) := by
  have H8 := Lib.hid (sgn_abs b (val la))
  obtain ⟨a0, n0, c0, rfl, H0, hm0⟩ := ha.open
  go_enter Try.func33, Try.ntmps33
  go_wp2_with fail
  obtain ⟨W0, hW0⟩ : ∃ W0, (w.alloc (.cells #[.bool b, .slice a0 n0 c0] 41)).alloc (.cells #[.bool false, .slice none 0 0] 41) = W0 := ⟨_, rfl⟩
  have x0_0 : W0.cell? ⟨w.heap.size, 0, none⟩ = some (.bool b) := by rw [← hW0]; simp [go_sem]
  have y0_0 : W0.frozen? ⟨w.heap.size, 0, none⟩ = false := by rw [← hW0]; simp [go_sem]
  have x0_1 : W0.cell? ⟨w.heap.size, 1, none⟩ = some (.slice a0 n0 c0) := by rw [← hW0]; simp [go_sem]
  have y0_1 : W0.frozen? ⟨w.heap.size, 1, none⟩ = false := by rw [← hW0]; simp [go_sem]
  have x1_0 : W0.cell? ⟨w.heap.size + 1, 0, none⟩ = some (.bool false) := by rw [← hW0]; simp [go_sem]
  have y1_0 : W0.frozen? ⟨w.heap.size + 1, 0, none⟩ = false := by rw [← hW0]; simp [go_sem]
  have x1_1 : W0.cell? ⟨w.heap.size + 1, 1, none⟩ = some (.slice none 0 0) := by rw [← hW0]; simp [go_sem]
  have y1_1 : W0.frozen? ⟨w.heap.size + 1, 1, none⟩ = false := by rw [← hW0]; simp [go_sem]
  have zs : w.heap.size + 1 < W0.heap.size := by rw [← hW0]; simp
  have zb : Below w.heap.size w W0 := by rw [← hW0]; exact below_step (below_new _ _) (below_new _ _)
  rw [hW0]
  clear hW0
  have g0 := ha.to zb
  refine (ref2_trim _ la _ g0 (by omega)).mono ?_
  rintro e w2 ⟨v2, rfl, hv2, hb2⟩
  obtain ⟨a2_, n2_, c2_, rfl, H2, hm2⟩ := hv2.rd.open
  have hr_w2 : w.heap.size + 1 < W0.heap.size := (by omega)
  have hw_w2 : w.heap.size ≤ W0.heap.size := (by omega)
  replace x0_0 := (hb2.cell (p := ⟨w.heap.size, 0, none⟩) (by show w.heap.size < W0.heap.size; omega)).trans x0_0
  replace y0_0 := (hb2.frozen (p := ⟨w.heap.size, 0, none⟩) (by show w.heap.size < W0.heap.size; omega)).trans y0_0
  replace x0_1 := (hb2.cell (p := ⟨w.heap.size, 1, none⟩) (by show w.heap.size < W0.heap.size; omega)).trans x0_1
  replace y0_1 := (hb2.frozen (p := ⟨w.heap.size, 1, none⟩) (by show w.heap.size < W0.heap.size; omega)).trans y0_1
  replace x1_0 := (hb2.cell (p := ⟨w.heap.size + 1, 0, none⟩) (by show w.heap.size + 1 < W0.heap.size; omega)).trans x1_0
  replace y1_0 := (hb2.frozen (p := ⟨w.heap.size + 1, 0, none⟩) (by show w.heap.size + 1 < W0.heap.size; omega)).trans y1_0
  replace x1_1 := (hb2.cell (p := ⟨w.heap.size + 1, 1, none⟩) (by show w.heap.size + 1 < W0.heap.size; omega)).trans x1_1
  replace y1_1 := (hb2.frozen (p := ⟨w.heap.size + 1, 1, none⟩) (by show w.heap.size + 1 < W0.heap.size; omega)).trans y1_1
  replace zs := Nat.lt_of_lt_of_le zs hb2.size
  replace g0 := g0.to hb2
  replace zb := below_step zb hb2
  have g2 := hv2.rd
  have H9 := Lib.hid (sgn_test (b := b) H2.out)
  rw [← H8.out] at hv2
  cases b
  · go_wp2_with fail
    obtain ⟨k0, k1⟩ := two_cells (x := .bool false) (y := .slice a2_ n2_ c2_) x1_0 x1_1
    have h9 := H9.out
    rw [Bool.false_and] at h9
    have hfin := finI2 zb (by omega) hr_w2 hw_w2 hv2
    rw [h9] at hfin
    exact bodyPost_ret (results_I Try.results33 _ _ _ _ _ rfl k0 k1) rfl hfin
  · go_wp2_with fail
    obtain ⟨k0, k1⟩ := two_cells (x := .bool (decide (0 < n2_))) (y := .slice a2_ n2_ c2_) x1_0 x1_1
    have h9 := H9.out
    rw [Bool.true_and] at h9
    have hfin := finI2 zb (by omega) hr_w2 hw_w2 hv2
    rw [h9] at hfin
    exact bodyPost_ret (results_I Try.results33 _ _ _ _ _ rfl k0 k1) rfl hfin

set_option maxRecDepth 100000 in
set_option maxHeartbeats 4000000 in
theorem ref7_right (b : Bool) (va : Value) (la : List Nat) (w : World) (ha : Rd w va la) (hla : la.length ≤ 1000000) :
    Calls Try.prog 42 #[aggI b va] w (fun e w' => e = .returned (.bool (rightI b la)) ∧ Below w.heap.size w w') := by
  obtain ⟨q, hq⟩ : ∃ q, rightI b la = q := ⟨_, rfl⟩
  rw [hq]
  obtain ⟨a0, n0, c0, rfl, H0, hm0⟩ := ha.open
  go_enter Try.func42, Try.ntmps42
  go_wp2_with fail
  obtain ⟨W0, hW0⟩ : ∃ W0, w.alloc (.cells #[.bool b, .slice a0 n0 c0] 41) = W0 := ⟨_, rfl⟩
  have x0_0 : W0.cell? ⟨w.heap.size, 0, none⟩ = some (.bool b) := by rw [← hW0]; simp [go_sem]
  have y0_0 : W0.frozen? ⟨w.heap.size, 0, none⟩ = false := by rw [← hW0]; simp [go_sem]
  have x0_1 : W0.cell? ⟨w.heap.size, 1, none⟩ = some (.slice a0 n0 c0) := by rw [← hW0]; simp [go_sem]
  have y0_1 : W0.frozen? ⟨w.heap.size, 1, none⟩ = false := by rw [← hW0]; simp [go_sem]
  have zs : w.heap.size < W0.heap.size := by rw [← hW0]; simp
  have zb : Below w.heap.size w W0 := by rw [← hW0]; exact below_new _ _
  rw [hW0]
  clear hW0
  have g0 := ha.to zb
  refine (ref7_fix b _ la _ g0 hla).mono ?_
  rintro e w2 ⟨v2, rfl, hv2, hb2⟩
  obtain ⟨a2_, n2_, c2_, rfl, H2, hm2⟩ := hv2.rd.open
  have hw_w2 : w.heap.size ≤ W0.heap.size := (by omega)
  replace x0_0 := (hb2.cell (p := ⟨w.heap.size, 0, none⟩) (by show w.heap.size < W0.heap.size; omega)).trans x0_0
  replace y0_0 := (hb2.frozen (p := ⟨w.heap.size, 0, none⟩) (by show w.heap.size < W0.heap.size; omega)).trans y0_0
  replace x0_1 := (hb2.cell (p := ⟨w.heap.size, 1, none⟩) (by show w.heap.size < W0.heap.size; omega)).trans x0_1
  replace y0_1 := (hb2.frozen (p := ⟨w.heap.size, 1, none⟩) (by show w.heap.size < W0.heap.size; omega)).trans y0_1
  replace zs := Nat.lt_of_lt_of_le zs hb2.size
  replace g0 := g0.to hb2
  replace zb := below_step zb hb2
  have g2 := hv2.rd
  generalize hng2 : decide (sgn b (val la) < 0) = ng2
  have Hng2 := Lib.hid hng2
  clear hng2
  have Hq := Lib.hid hq
  clear hq
  have h2 := H2.out
  rw [sgn_abs, sz_def] at h2
  have h0 := H0.out
  have hz := @sz_eq_zero (val la)
  have Hfin : Hid ((decide (n2_ = n0) && (ng2 == b)) = q) := by
    show _ = _
    rw [← Hq.out, ← Hng2.out, sgn_neg]
    unfold rightI
    rw [h2, h0]
    by_cases e1 : n2_ = n0
    · subst e1
      by_cases e2 : n2_ = 0 <;> cases b <;> simp [e2] <;> omega
    · simp [e1]
  clear h2 h0 hz
  by_cases e1 : n2_ = n0
  · subst e1
    have e3 := Hfin.out
    rw [decide_eq_true rfl, Bool.true_and] at e3
    clear Hfin
    have Hfin := Lib.hid e3
    clear e3
    cases ng2 <;> cases b
    all_goals
      go_wp2_with fail
      go_ret
      refine ⟨?_, below_step zb (below_new _ _)⟩
      rw [← Hfin.out]
      rfl
  · have e2 : ((n2_ : Int) == (n0 : Int)) = false := by rw [beq_eq_false_iff_ne]; omega
    have e3 := Hfin.out
    rw [decide_eq_false e1, Bool.false_and] at e3
    have E3 := Lib.hid e3
    clear e3 Hfin
    go_wp2_with fail
    go_ret
    exact ⟨by rw [← E3.out]; rfl, below_step zb (below_new _ _)⟩

set_option maxRecDepth 100000 in
set_option maxHeartbeats 4000000 in
theorem ref7_of (n z : Int) (w : World) (hz : z = n) (n0 : -9223372036854775808 ≤ n) (n1 : n < 9223372036854775808) :
    Calls Try.prog 45 #[.int .i64 n] w (GivesI w z) := by
  by_cases hn : 0 ≤ n
  · have hd : decide (z < 0) = false := by simp; omega
    have ha : z.natAbs = (n).toNat := by omega
    
    go_enter Try.func45, Try.ntmps45
    go_wp2_with fail
    obtain ⟨W0, hW0⟩ : ∃ W0, w.alloc (.cells #[.bool false, .slice none 0 0] 41) = W0 := ⟨_, rfl⟩
    have x0_0 : W0.cell? ⟨w.heap.size, 0, none⟩ = some (.bool false) := by rw [← hW0]; simp [go_sem]
    have y0_0 : W0.frozen? ⟨w.heap.size, 0, none⟩ = false := by rw [← hW0]; simp [go_sem]
    have x0_1 : W0.cell? ⟨w.heap.size, 1, none⟩ = some (.slice none 0 0) := by rw [← hW0]; simp [go_sem]
    have y0_1 : W0.frozen? ⟨w.heap.size, 1, none⟩ = false := by rw [← hW0]; simp [go_sem]
    have zs : w.heap.size < W0.heap.size := by rw [← hW0]; simp
    have zb : Below w.heap.size w W0 := by rw [← hW0]; exact below_new _ _
    rw [hW0]
    clear hW0
    refine (ref2_of (n) _ (by omega) (by omega)).mono ?_
    rintro e w2 ⟨v2, rfl, hv2, hb2⟩
    obtain ⟨a2_, n2_, c2_, rfl, H2, hm2⟩ := hv2.rd.open
    have hr_w2 : w.heap.size < W0.heap.size := (by omega)
    have hw_w2 : w.heap.size ≤ W0.heap.size := (by omega)
    replace x0_0 := (hb2.cell (p := ⟨w.heap.size, 0, none⟩) (by show w.heap.size < W0.heap.size; omega)).trans x0_0
    replace y0_0 := (hb2.frozen (p := ⟨w.heap.size, 0, none⟩) (by show w.heap.size < W0.heap.size; omega)).trans y0_0
    replace x0_1 := (hb2.cell (p := ⟨w.heap.size, 1, none⟩) (by show w.heap.size < W0.heap.size; omega)).trans x0_1
    replace y0_1 := (hb2.frozen (p := ⟨w.heap.size, 1, none⟩) (by show w.heap.size < W0.heap.size; omega)).trans y0_1
    replace zs := Nat.lt_of_lt_of_le zs hb2.size
    replace zb := below_step zb hb2
    have g2 := hv2.rd
    go_wp2_with fail
    obtain ⟨k0, k1⟩ := two_cells (x := .bool false) (y := .slice a2_ n2_ c2_) x0_0 x0_1
    rw [← ha] at hv2
    have hfin := finI2 zb (by omega) hr_w2 hw_w2 hv2
    rw [hd] at hfin
    exact bodyPost_ret (results_I Try.results45 _ _ _ _ _ rfl k0 k1) rfl hfin
  · have hd : decide (z < 0) = true := by simp; omega
    have ha : z.natAbs = (-n).toNat := by omega
    
    have Hw : IntKind.u64.wrap (-IntKind.u64.wrap n) = -n := by
      show (-(n % 18446744073709551616)) % 18446744073709551616 = -n
      omega
    go_enter Try.func45, Try.ntmps45
    go_wp2_with fail
    obtain ⟨W0, hW0⟩ : ∃ W0, w.alloc (.cells #[.bool false, .slice none 0 0] 41) = W0 := ⟨_, rfl⟩
    have x0_0 : W0.cell? ⟨w.heap.size, 0, none⟩ = some (.bool false) := by rw [← hW0]; simp [go_sem]
    have y0_0 : W0.frozen? ⟨w.heap.size, 0, none⟩ = false := by rw [← hW0]; simp [go_sem]
    have x0_1 : W0.cell? ⟨w.heap.size, 1, none⟩ = some (.slice none 0 0) := by rw [← hW0]; simp [go_sem]
    have y0_1 : W0.frozen? ⟨w.heap.size, 1, none⟩ = false := by rw [← hW0]; simp [go_sem]
    have zs : w.heap.size < W0.heap.size := by rw [← hW0]; simp
    have zb : Below w.heap.size w W0 := by rw [← hW0]; exact below_new _ _
    rw [hW0]
    clear hW0
    refine (ref2_of (-n) _ (by omega) (by omega)).mono ?_
    rintro e w2 ⟨v2, rfl, hv2, hb2⟩
    obtain ⟨a2_, n2_, c2_, rfl, H2, hm2⟩ := hv2.rd.open
    have hr_w2 : w.heap.size < W0.heap.size := (by omega)
    have hw_w2 : w.heap.size ≤ W0.heap.size := (by omega)
    replace x0_0 := (hb2.cell (p := ⟨w.heap.size, 0, none⟩) (by show w.heap.size < W0.heap.size; omega)).trans x0_0
    replace y0_0 := (hb2.frozen (p := ⟨w.heap.size, 0, none⟩) (by show w.heap.size < W0.heap.size; omega)).trans y0_0
    replace x0_1 := (hb2.cell (p := ⟨w.heap.size, 1, none⟩) (by show w.heap.size < W0.heap.size; omega)).trans x0_1
    replace y0_1 := (hb2.frozen (p := ⟨w.heap.size, 1, none⟩) (by show w.heap.size < W0.heap.size; omega)).trans y0_1
    replace zs := Nat.lt_of_lt_of_le zs hb2.size
    replace zb := below_step zb hb2
    have g2 := hv2.rd
    go_wp2_with fail
    obtain ⟨k0, k1⟩ := two_cells (x := .bool true) (y := .slice a2_ n2_ c2_) x0_0 x0_1
    rw [← ha] at hv2
    have hfin := finI2 zb (by omega) hr_w2 hw_w2 hv2
    rw [hd] at hfin
    exact bodyPost_ret (results_I Try.results45 _ _ _ _ _ rfl k0 k1) rfl hfin

set_option maxRecDepth 100000 in
set_option maxHeartbeats 4000000 in
theorem ref7_neg (b : Bool) (va : Value) (la : List Nat) (w : World) (ha : Rd w va la) (hla : la.length ≤ 1000000) :
    Calls Try.prog 43 #[aggI b va] w (GivesI w (-sgn b (val la))) := by
  rw [← sgn_not]
  obtain ⟨a0, n0, c0, rfl, H0, hm0⟩ := ha.open
  go_enter Try.func43, Try.ntmps43
  go_wp2_with fail
  obtain ⟨W0, hW0⟩ : ∃ W0, (w.alloc (.cells #[.bool b, .slice a0 n0 c0] 41)).alloc (.cells #[.bool false, .slice none 0 0] 41) = W0 := ⟨_, rfl⟩
  have x0_0 : W0.cell? ⟨w.heap.size, 0, none⟩ = some (.bool b) := by rw [← hW0]; simp [go_sem]
  have y0_0 : W0.frozen? ⟨w.heap.size, 0, none⟩ = false := by rw [← hW0]; simp [go_sem]
  have x0_1 : W0.cell? ⟨w.heap.size, 1, none⟩ = some (.slice a0 n0 c0) := by rw [← hW0]; simp [go_sem]
  have y0_1 : W0.frozen? ⟨w.heap.size, 1, none⟩ = false := by rw [← hW0]; simp [go_sem]
  have x1_0 : W0.cell? ⟨w.heap.size + 1, 0, none⟩ = some (.bool false) := by rw [← hW0]; simp [go_sem]
  have y1_0 : W0.frozen? ⟨w.heap.size + 1, 0, none⟩ = false := by rw [← hW0]; simp [go_sem]
  have x1_1 : W0.cell? ⟨w.heap.size + 1, 1, none⟩ = some (.slice none 0 0) := by rw [← hW0]; simp [go_sem]
  have y1_1 : W0.frozen? ⟨w.heap.size + 1, 1, none⟩ = false := by rw [← hW0]; simp [go_sem]
  have zs : w.heap.size + 1 < W0.heap.size := by rw [← hW0]; simp
  have zb : Below w.heap.size w W0 := by rw [← hW0]; exact below_step (below_new _ _) (below_new _ _)
  rw [hW0]
  clear hW0
  have g0 := ha.to zb
  refine (ref7_fix (!b) _ la _ g0 hla).mono ?_
  rintro e w2 ⟨v2, rfl, hv2, hb2⟩
  obtain ⟨a2_, n2_, c2_, rfl, H2, hm2⟩ := hv2.rd.open
  have hr_w2 : w.heap.size + 1 < W0.heap.size := (by omega)
  have hw_w2 : w.heap.size ≤ W0.heap.size := (by omega)
  replace x0_0 := (hb2.cell (p := ⟨w.heap.size, 0, none⟩) (by show w.heap.size < W0.heap.size; omega)).trans x0_0
  replace y0_0 := (hb2.frozen (p := ⟨w.heap.size, 0, none⟩) (by show w.heap.size < W0.heap.size; omega)).trans y0_0
  replace x0_1 := (hb2.cell (p := ⟨w.heap.size, 1, none⟩) (by show w.heap.size < W0.heap.size; omega)).trans x0_1
  replace y0_1 := (hb2.frozen (p := ⟨w.heap.size, 1, none⟩) (by show w.heap.size < W0.heap.size; omega)).trans y0_1
  replace x1_0 := (hb2.cell (p := ⟨w.heap.size + 1, 0, none⟩) (by show w.heap.size + 1 < W0.heap.size; omega)).trans x1_0
  replace y1_0 := (hb2.frozen (p := ⟨w.heap.size + 1, 0, none⟩) (by show w.heap.size + 1 < W0.heap.size; omega)).trans y1_0
  replace x1_1 := (hb2.cell (p := ⟨w.heap.size + 1, 1, none⟩) (by show w.heap.size + 1 < W0.heap.size; omega)).trans x1_1
  replace y1_1 := (hb2.frozen (p := ⟨w.heap.size + 1, 1, none⟩) (by show w.heap.size + 1 < W0.heap.size; omega)).trans y1_1
  replace zs := Nat.lt_of_lt_of_le zs hb2.size
  replace g0 := g0.to hb2
  replace zb := below_step zb hb2
  have g2 := hv2.rd
  generalize hng2 : decide (sgn (!b) (val la) < 0) = ng2
  have Hng2 := Lib.hid hng2
  clear hng2
  go_wp2_with fail
  have e2 := Hng2.out
  subst e2
  obtain ⟨k0, k1⟩ := two_cells (x := .bool (decide (sgn (!b) (val la) < 0))) (y := .slice a2_ n2_ c2_) x1_0 x1_1
  exact bodyPost_ret (results_I Try.results43 _ _ _ _ _ rfl k0 k1) rfl (finI2 zb (by omega) hr_w2 hw_w2 hv2)

set_option maxRecDepth 100000 in
set_option maxHeartbeats 4000000 in
theorem ref7_same (b : Bool) (va vb : Value) (la : List Nat) (w : World) (ha : Rd w va la) (hb : Rd w vb la) :
    Calls Try.prog 31 #[aggI b va, aggI b vb] w (fun e w' => e = .returned (.bool true) ∧ Below w.heap.size w w') := by
  obtain ⟨a0, n0, c0, rfl, H0, hm0⟩ := ha.open
  obtain ⟨a1, n1, c1, rfl, H1, hm1⟩ := hb.open
  go_enter Try.func31, Try.ntmps31
  go_wp2_with fail
  obtain ⟨W0, hW0⟩ : ∃ W0, (w.alloc (.cells #[.bool b, .slice a0 n0 c0] 41)).alloc (.cells #[.bool b, .slice a1 n1 c1] 41) = W0 := ⟨_, rfl⟩
  have x0_0 : W0.cell? ⟨w.heap.size, 0, none⟩ = some (.bool b) := by rw [← hW0]; simp [go_sem]
  have y0_0 : W0.frozen? ⟨w.heap.size, 0, none⟩ = false := by rw [← hW0]; simp [go_sem]
  have x0_1 : W0.cell? ⟨w.heap.size, 1, none⟩ = some (.slice a0 n0 c0) := by rw [← hW0]; simp [go_sem]
  have y0_1 : W0.frozen? ⟨w.heap.size, 1, none⟩ = false := by rw [← hW0]; simp [go_sem]
  have x1_0 : W0.cell? ⟨w.heap.size + 1, 0, none⟩ = some (.bool b) := by rw [← hW0]; simp [go_sem]
  have y1_0 : W0.frozen? ⟨w.heap.size + 1, 0, none⟩ = false := by rw [← hW0]; simp [go_sem]
  have x1_1 : W0.cell? ⟨w.heap.size + 1, 1, none⟩ = some (.slice a1 n1 c1) := by rw [← hW0]; simp [go_sem]
  have y1_1 : W0.frozen? ⟨w.heap.size + 1, 1, none⟩ = false := by rw [← hW0]; simp [go_sem]
  have zs : w.heap.size + 1 < W0.heap.size := by rw [← hW0]; simp
  have zb : Below w.heap.size w W0 := by rw [← hW0]; exact below_step (below_new _ _) (below_new _ _)
  rw [hW0]
  clear hW0
  have g0 := ha.to zb
  have g1 := hb.to zb
  refine (words_same _ _ la _ g0 g1).mono ?_
  rintro e w2 ⟨rfl, hb2⟩
  have hw_w2 : w.heap.size ≤ W0.heap.size := (by omega)
  replace x0_0 := (hb2.cell (p := ⟨w.heap.size, 0, none⟩) (by show w.heap.size < W0.heap.size; omega)).trans x0_0
  replace y0_0 := (hb2.frozen (p := ⟨w.heap.size, 0, none⟩) (by show w.heap.size < W0.heap.size; omega)).trans y0_0
  replace x0_1 := (hb2.cell (p := ⟨w.heap.size, 1, none⟩) (by show w.heap.size < W0.heap.size; omega)).trans x0_1
  replace y0_1 := (hb2.frozen (p := ⟨w.heap.size, 1, none⟩) (by show w.heap.size < W0.heap.size; omega)).trans y0_1
  replace x1_0 := (hb2.cell (p := ⟨w.heap.size + 1, 0, none⟩) (by show w.heap.size + 1 < W0.heap.size; omega)).trans x1_0
  replace y1_0 := (hb2.frozen (p := ⟨w.heap.size + 1, 0, none⟩) (by show w.heap.size + 1 < W0.heap.size; omega)).trans y1_0
  replace x1_1 := (hb2.cell (p := ⟨w.heap.size + 1, 1, none⟩) (by show w.heap.size + 1 < W0.heap.size; omega)).trans x1_1
  replace y1_1 := (hb2.frozen (p := ⟨w.heap.size + 1, 1, none⟩) (by show w.heap.size + 1 < W0.heap.size; omega)).trans y1_1
  replace zs := Nat.lt_of_lt_of_le zs hb2.size
  replace g0 := g0.to hb2
  replace g1 := g1.to hb2
  replace zb := below_step zb hb2
  go_wp2_with fail
  go_ret
  exact ⟨rfl, zb⟩

set_option maxRecDepth 100000 in
set_option maxHeartbeats 4000000 in
theorem ref7_same_no (b c : Bool) (va vb : Value) (la lb : List Nat) (w : World) (ha : Rd w va la) (hb : Rd w vb lb) (hne : ¬ (b = c ∧ la = lb)) :
    Calls Try.prog 31 #[aggI b va, aggI c vb] w (fun e w' => e = .returned (.bool false) ∧ Below w.heap.size w w') := by
  obtain ⟨a0, n0, c0, rfl, H0, hm0⟩ := ha.open
  obtain ⟨a1, n1, c1, rfl, H1, hm1⟩ := hb.open
  by_cases hbc : b = c
  · subst hbc
    go_enter Try.func31, Try.ntmps31
    go_wp2_with fail
    obtain ⟨W0, hW0⟩ : ∃ W0, (w.alloc (.cells #[.bool b, .slice a0 n0 c0] 41)).alloc (.cells #[.bool b, .slice a1 n1 c1] 41) = W0 := ⟨_, rfl⟩
    have x0_0 : W0.cell? ⟨w.heap.size, 0, none⟩ = some (.bool b) := by rw [← hW0]; simp [go_sem]
    have y0_0 : W0.frozen? ⟨w.heap.size, 0, none⟩ = false := by rw [← hW0]; simp [go_sem]
    have x0_1 : W0.cell? ⟨w.heap.size, 1, none⟩ = some (.slice a0 n0 c0) := by rw [← hW0]; simp [go_sem]
    have y0_1 : W0.frozen? ⟨w.heap.size, 1, none⟩ = false := by rw [← hW0]; simp [go_sem]
    have x1_0 : W0.cell? ⟨w.heap.size + 1, 0, none⟩ = some (.bool b) := by rw [← hW0]; simp [go_sem]
    have y1_0 : W0.frozen? ⟨w.heap.size + 1, 0, none⟩ = false := by rw [← hW0]; simp [go_sem]
    have x1_1 : W0.cell? ⟨w.heap.size + 1, 1, none⟩ = some (.slice a1 n1 c1) := by rw [← hW0]; simp [go_sem]
    have y1_1 : W0.frozen? ⟨w.heap.size + 1, 1, none⟩ = false := by rw [← hW0]; simp [go_sem]
    have zs : w.heap.size + 1 < W0.heap.size := by rw [← hW0]; simp
    have zb : Below w.heap.size w W0 := by rw [← hW0]; exact below_step (below_new _ _) (below_new _ _)
    rw [hW0]
    clear hW0
    have g0 := ha.to zb
    have g1 := hb.to zb
    refine (words_diff _ _ la lb _ g0 g1 (fun e => hne (by first | exact ⟨rfl, e⟩ | exact ⟨trivial, e⟩ | exact e))).mono ?_
    rintro e w2 ⟨rfl, hb2⟩
    have hw_w2 : w.heap.size ≤ W0.heap.size := (by omega)
    replace x0_0 := (hb2.cell (p := ⟨w.heap.size, 0, none⟩) (by show w.heap.size < W0.heap.size; omega)).trans x0_0
    replace y0_0 := (hb2.frozen (p := ⟨w.heap.size, 0, none⟩) (by show w.heap.size < W0.heap.size; omega)).trans y0_0
    replace x0_1 := (hb2.cell (p := ⟨w.heap.size, 1, none⟩) (by show w.heap.size < W0.heap.size; omega)).trans x0_1
    replace y0_1 := (hb2.frozen (p := ⟨w.heap.size, 1, none⟩) (by show w.heap.size < W0.heap.size; omega)).trans y0_1
    replace x1_0 := (hb2.cell (p := ⟨w.heap.size + 1, 0, none⟩) (by show w.heap.size + 1 < W0.heap.size; omega)).trans x1_0
    replace y1_0 := (hb2.frozen (p := ⟨w.heap.size + 1, 0, none⟩) (by show w.heap.size + 1 < W0.heap.size; omega)).trans y1_0
    replace x1_1 := (hb2.cell (p := ⟨w.heap.size + 1, 1, none⟩) (by show w.heap.size + 1 < W0.heap.size; omega)).trans x1_1
    replace y1_1 := (hb2.frozen (p := ⟨w.heap.size + 1, 1, none⟩) (by show w.heap.size + 1 < W0.heap.size; omega)).trans y1_1
    replace zs := Nat.lt_of_lt_of_le zs hb2.size
    replace g0 := g0.to hb2
    replace g1 := g1.to hb2
    replace zb := below_step zb hb2
    go_wp2_with fail
    go_ret
    exact ⟨rfl, zb⟩
  · have hbe : (b == c) = false := beq_eq_false_iff_ne.2 hbc
    go_enter Try.func31, Try.ntmps31
    go_wp2_with fail
    obtain ⟨W0, hW0⟩ : ∃ W0, (w.alloc (.cells #[.bool b, .slice a0 n0 c0] 41)).alloc (.cells #[.bool c, .slice a1 n1 c1] 41) = W0 := ⟨_, rfl⟩
    have x0_0 : W0.cell? ⟨w.heap.size, 0, none⟩ = some (.bool b) := by rw [← hW0]; simp [go_sem]
    have y0_0 : W0.frozen? ⟨w.heap.size, 0, none⟩ = false := by rw [← hW0]; simp [go_sem]
    have x0_1 : W0.cell? ⟨w.heap.size, 1, none⟩ = some (.slice a0 n0 c0) := by rw [← hW0]; simp [go_sem]
    have y0_1 : W0.frozen? ⟨w.heap.size, 1, none⟩ = false := by rw [← hW0]; simp [go_sem]
    have x1_0 : W0.cell? ⟨w.heap.size + 1, 0, none⟩ = some (.bool c) := by rw [← hW0]; simp [go_sem]
    have y1_0 : W0.frozen? ⟨w.heap.size + 1, 0, none⟩ = false := by rw [← hW0]; simp [go_sem]
    have x1_1 : W0.cell? ⟨w.heap.size + 1, 1, none⟩ = some (.slice a1 n1 c1) := by rw [← hW0]; simp [go_sem]
    have y1_1 : W0.frozen? ⟨w.heap.size + 1, 1, none⟩ = false := by rw [← hW0]; simp [go_sem]
    have zs : w.heap.size + 1 < W0.heap.size := by rw [← hW0]; simp
    have zb : Below w.heap.size w W0 := by rw [← hW0]; exact below_step (below_new _ _) (below_new _ _)
    rw [hW0]
    clear hW0
    have g0 := ha.to zb
    have g1 := hb.to zb
    go_ret
    exact ⟨by first | exact trivial | rfl, zb⟩

end Go.Proofs.Yteokdkcanckfeaa
