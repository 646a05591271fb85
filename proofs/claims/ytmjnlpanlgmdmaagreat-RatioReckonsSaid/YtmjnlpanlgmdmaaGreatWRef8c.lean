/-
  The walks of package ratio.
-/
import Derived.Test.YtmjnlpanlgmdmaaGreatG12
import Derived.Test.YtmjnlpanlgmdmaaGreatG16
import Derived.Test.YtmjnlpanlgmdmaaGreatG11
import Derived.Test.YtmjnlpanlgmdmaaGreatG17
import Derived.Deep.RegionHeld3
import Derived.Deep.Cut
import Derived.Deep.DrawnRows
import Derived.Laws.EntriesVeiled
namespace Go.Proofs.YtmjnlpanlgmdmaaGreat
open Go.RowKit Tw
set_option linter.unusedVariables false
set_option linter.unusedSimpArgs false
attribute [local go_sem ↓] Go.wp_at_zero Go.wp_at_succ

theorem finC {w w2 : World} {lo hi rb : Nat} {ng : Bool} {a : Option Addr} {n c : Nat} {z : Int} (hb : Below w.heap.size w w2) (hrb : w.heap.size ≤ rb) (hlo : rb < lo) (hv : CanI lo hi w2 ng (.slice a n c) z) :
    GivesC w z (.returned (aggI ng (.slice a n c))) (set2 w2 rb (.bool ng) (.slice a n c)) := by
  have h := hv.set (.inl hlo) (.bool ng) (.slice a n c)
  have h1 := h.1.mono (show w.heap.size ≤ lo by omega)
  exact ⟨ng, a, n, c, rfl, ⟨h1, h.2.1, h.2.2.1, fun k e => (h1.lt k e).2⟩, below_set2 hb hrb _ _⟩

theorem CanI.mono' {lo lo' hi : Nat} {w : World} {ng : Bool} {v : Value} {z : Int} (h : CanI lo hi w ng v z) (h1 : lo' ≤ lo) : CanI lo' hi w ng v z := ⟨h.1.mono h1, h.2⟩
section
variable {b c : Bool} {va vb : Value} {la lb : List Nat} {x y : Int}

theorem radd_c (w : World) (g0 : IsI w b va la x) (g1 : IsI w c vb lb y) (z : Int) (hz : x + y = z) (hs : Hid (szi z ≤ 90000)) :
    Calls Tryz.prog 38 #[aggI b va, aggI c vb] w (GivesC w z) :=
  (ref7_add b c va vb la lb w g0.1 g1.1 (Nat.le_trans g0.2.2 (by omega)) (Nat.le_trans g1.2.2 (by omega))).mono fun e w' h => givesC (by rw [g0.2.1, g1.2.1, hz]) hs h

theorem rmul_c (w : World) (g0 : IsI w b va la x) (g1 : IsI w c vb lb y) (z : Int) (hz : x * y = z) (hs : Hid (szi z ≤ 90000)) :
    Calls Tryz.prog 55 #[aggI b va, aggI c vb] w (GivesC w z) :=
  (ref7_mul b c va vb la lb w g0.1 g1.1 (Nat.le_trans g0.2.2 (by omega)) (Nat.le_trans g1.2.2 (by omega))).mono fun e w' h => givesC (by rw [g0.2.1, g1.2.1, hz]) hs h

end

set_option maxRecDepth 100000 in
set_option maxHeartbeats 4000000 in
theorem ref8_over {x y : Rat} {lo hi lo' hi' : Nat} (b : Bool) (v u : Value) (c : Bool) (v' u' : Value) (w : World) (h : CanQ lo hi w b v u x) (h' : CanQ lo' hi' w c v' u' y) (z : Int) (hz : x.num * (y.den : Int) = z) (hs : Hid (szi z ≤ 90000)) :
    Calls Tryz.prog 32 #[aggR b v u, aggR c v' u'] w (GivesC w z) := by
  have HZ := Lib.hid hz
  clear hz
  obtain ⟨a0, n0, c0, rfl, H0, hm0⟩ := h.1.rd.open
  obtain ⟨a1, n1, c1, rfl, H1, hm1⟩ := h.2.1.rd.open
  obtain ⟨a2, n2, c2, rfl, H2, hm2⟩ := h'.1.rd.open
  obtain ⟨a3, n3, c3, rfl, H3, hm3⟩ := h'.2.1.rd.open
  go_enter Tryz.func32, Tryz.ntmps32
  go_wp2_with fail
  obtain ⟨W0, hW0⟩ : ∃ W0, ((w.alloc (.cells #[.bool b, .slice a0 n0 c0, .slice a1 n1 c1] 24)).alloc (.cells #[.bool c, .slice a2 n2 c2, .slice a3 n3 c3] 24)).alloc (.cells #[.bool false, .slice none 0 0] 46) = W0 := ⟨_, rfl⟩
  have HXW0 := Lib.hid (show ∀ W', Below W0.heap.size W0 W' → (W'.cell? ⟨w.heap.size, 0, none⟩ = some (.bool b) ∧ W'.cell? ⟨w.heap.size, 1, none⟩ = some (.slice a0 n0 c0) ∧ W'.cell? ⟨w.heap.size, 2, none⟩ = some (.slice a1 n1 c1) ∧ W'.cell? ⟨w.heap.size + 1, 0, none⟩ = some (.bool c) ∧ W'.cell? ⟨w.heap.size + 1, 1, none⟩ = some (.slice a2 n2 c2) ∧ W'.cell? ⟨w.heap.size + 1, 2, none⟩ = some (.slice a3 n3 c3) ∧ W'.cell? ⟨w.heap.size + 1 + 1, 0, none⟩ = some (.bool false) ∧ W'.cell? ⟨w.heap.size + 1 + 1, 1, none⟩ = some (.slice none 0 0)) from fun W' hb =>
    ⟨(hb.cell (p := ⟨w.heap.size, 0, none⟩) (by rw [← hW0]; simp <;> omega)).trans (by rw [← hW0]; simp [go_sem]), (hb.cell (p := ⟨w.heap.size, 1, none⟩) (by rw [← hW0]; simp <;> omega)).trans (by rw [← hW0]; simp [go_sem]), (hb.cell (p := ⟨w.heap.size, 2, none⟩) (by rw [← hW0]; simp <;> omega)).trans (by rw [← hW0]; simp [go_sem]), (hb.cell (p := ⟨w.heap.size + 1, 0, none⟩) (by rw [← hW0]; simp <;> omega)).trans (by rw [← hW0]; simp [go_sem]), (hb.cell (p := ⟨w.heap.size + 1, 1, none⟩) (by rw [← hW0]; simp <;> omega)).trans (by rw [← hW0]; simp [go_sem]), (hb.cell (p := ⟨w.heap.size + 1, 2, none⟩) (by rw [← hW0]; simp <;> omega)).trans (by rw [← hW0]; simp [go_sem]), (hb.cell (p := ⟨w.heap.size + 1 + 1, 0, none⟩) (by rw [← hW0]; simp <;> omega)).trans (by rw [← hW0]; simp [go_sem]), (hb.cell (p := ⟨w.heap.size + 1 + 1, 1, none⟩) (by rw [← hW0]; simp <;> omega)).trans (by rw [← hW0]; simp [go_sem])⟩)
  have HYW0 := Lib.hid (show ∀ W', Below W0.heap.size W0 W' → (W'.frozen? ⟨w.heap.size, 0, none⟩ = false ∧ W'.frozen? ⟨w.heap.size, 1, none⟩ = false ∧ W'.frozen? ⟨w.heap.size, 2, none⟩ = false ∧ W'.frozen? ⟨w.heap.size + 1, 0, none⟩ = false ∧ W'.frozen? ⟨w.heap.size + 1, 1, none⟩ = false ∧ W'.frozen? ⟨w.heap.size + 1, 2, none⟩ = false ∧ W'.frozen? ⟨w.heap.size + 1 + 1, 0, none⟩ = false ∧ W'.frozen? ⟨w.heap.size + 1 + 1, 1, none⟩ = false) from fun W' hb =>
    ⟨(hb.frozen (p := ⟨w.heap.size, 0, none⟩) (by rw [← hW0]; simp <;> omega)).trans (by rw [← hW0]; simp [go_sem]), (hb.frozen (p := ⟨w.heap.size, 1, none⟩) (by rw [← hW0]; simp <;> omega)).trans (by rw [← hW0]; simp [go_sem]), (hb.frozen (p := ⟨w.heap.size, 2, none⟩) (by rw [← hW0]; simp <;> omega)).trans (by rw [← hW0]; simp [go_sem]), (hb.frozen (p := ⟨w.heap.size + 1, 0, none⟩) (by rw [← hW0]; simp <;> omega)).trans (by rw [← hW0]; simp [go_sem]), (hb.frozen (p := ⟨w.heap.size + 1, 1, none⟩) (by rw [← hW0]; simp <;> omega)).trans (by rw [← hW0]; simp [go_sem]), (hb.frozen (p := ⟨w.heap.size + 1, 2, none⟩) (by rw [← hW0]; simp <;> omega)).trans (by rw [← hW0]; simp [go_sem]), (hb.frozen (p := ⟨w.heap.size + 1 + 1, 0, none⟩) (by rw [← hW0]; simp <;> omega)).trans (by rw [← hW0]; simp [go_sem]), (hb.frozen (p := ⟨w.heap.size + 1 + 1, 1, none⟩) (by rw [← hW0]; simp <;> omega)).trans (by rw [← hW0]; simp [go_sem])⟩)
  have HZW0 := Lib.hid (show ∀ W', Below W0.heap.size W0 W' → (w.heap.size < W'.heap.size ∧ w.heap.size + 1 < W'.heap.size ∧ w.heap.size + 1 + 1 < W'.heap.size) from fun W' hb =>
    ⟨Nat.lt_of_lt_of_le (by rw [← hW0]; simp <;> omega) hb.size, Nat.lt_of_lt_of_le (by rw [← hW0]; simp <;> omega) hb.size, Nat.lt_of_lt_of_le (by rw [← hW0]; simp <;> omega) hb.size⟩)
  have zb : Below w.heap.size w W0 := by rw [← hW0]; exact below_step (below_step (below_new _ _) (below_new _ _)) (below_new _ _)
  rw [hW0]
  clear hW0
  have i0 := h.to zb
  have i1 := h'.to zb
  have gb : Below W0.heap.size W0 W0 := Below.refl _ _
  obtain ⟨x0_0, x0_1, x0_2, x1_0, x1_1, x1_2, x2_0, x2_1⟩ := HXW0.out _ gb
  obtain ⟨y0_0, y0_1, y0_2, y1_0, y1_1, y1_2, y2_0, y2_1⟩ := HYW0.out _ gb
  obtain ⟨z0, z1, z2⟩ := HZW0.out _ gb
  refine (rmul_c _ (i0.to gb).above (i1.to gb).below z HZ.out hs).mono ?_
  clear x0_0 y0_0 x0_1 y0_1 x0_2 y0_2 x1_0 y1_0 x1_1 y1_1 x1_2 y1_2 x2_0 y2_0 x2_1 y2_1
  rintro e w1 ⟨ng1, a1_, n1_, c1_, rfl, g1, hb1⟩
  replace gb := below_step gb hb1
  obtain ⟨x0_0, x0_1, x0_2, x1_0, x1_1, x1_2, x2_0, x2_1⟩ := HXW0.out _ gb
  obtain ⟨y0_0, y0_1, y0_2, y1_0, y1_1, y1_2, y2_0, y2_1⟩ := HYW0.out _ gb
  obtain ⟨z0, z1, z2⟩ := HZW0.out _ gb
  go_wp2_with fail
  refine bodyPost_ret (results_I Tryz.results32 _ _ _ _ _ rfl (Duo.set (x0 := .bool false) (y0 := .slice none 0 0) ⟨x2_0, x2_1, y2_0, y2_1⟩ _ _).1 (Duo.set (x0 := .bool false) (y0 := .slice none 0 0) ⟨x2_0, x2_1, y2_0, y2_1⟩ _ _).2.1) rfl (finC (below_step zb gb) (by omega) ?_ g1)
  omega

set_option maxRecDepth 100000 in
set_option maxHeartbeats 40000000 in
theorem ref8_add {x y : Rat} (b : Bool) (v u : Value) (ln ld : List Nat) (c : Bool) (v' u' : Value) (ln' ld' : List Nat) (w : World) (h : IsQ w b v u ln ld x) (h' : IsQ w c v' u' ln' ld' y) (q : Rat) (hq : x + y = q) (hs : Hid (szq q ≤ 1000)) :
    Calls Tryz.prog 11 #[aggR b v u, aggR c v' u'] w (GivesQ w q) := by
  have Hx : Hid (szq x ≤ 1000) := isQ_sz h
  have Hy : Hid (szq y ≤ 1000) := isQ_sz h'
  have S1 := Lib.hid (show szi (x.num * (y.den : Int)) ≤ 90000 from over_sz Hx.out Hy.out)
  have S2 := Lib.hid (show szi (y.num * (x.den : Int)) ≤ 90000 from over_sz Hy.out Hx.out)
  have S3 := Lib.hid (show szi (x.num * (y.den : Int) + y.num * (x.den : Int)) ≤ 2001 from sum_sz Hx.out Hy.out)
  have S4 := Lib.hid (show szi (x.num * (y.den : Int) + y.num * (x.den : Int)) ≤ 90000 from Nat.le_trans S3.out (by omega))
  have K2 := Lib.hid (show (limbs (val (limbs x.den) * val (limbs y.den))).length ≤ 3000 from den_sz Hx.out Hy.out)
  have H9 := Lib.hid (show ∀ ng, decide (x.num * (y.den : Int) + y.num * (x.den : Int) < 0) = ng → rat ng (val (limbs (x.num * (y.den : Int) + y.num * (x.den : Int)).natAbs)) (val (limbs (val (limbs x.den) * val (limbs y.den)))) = q from fun ng e => by
    rw [← e, val_limbs, val_limbs, val_limbs, val_limbs, ← mkRat_sgn, ← Rat.add_def', hq])
  obtain ⟨a0, n0, c0, rfl, H0, hm0⟩ := h.1.open
  obtain ⟨a1, n1, c1, rfl, H1, hm1⟩ := h.2.1.open
  obtain ⟨a2, n2, c2, rfl, H2, hm2⟩ := h'.1.open
  obtain ⟨a3, n3, c3, rfl, H3, hm3⟩ := h'.2.1.open
  clear hq
  go_enter Tryz.func11, Tryz.ntmps11
  go_wp2_with fail
  obtain ⟨W0, hW0⟩ : ∃ W0, ((w.alloc (.cells #[.bool b, .slice a0 n0 c0, .slice a1 n1 c1] 24)).alloc (.cells #[.bool c, .slice a2 n2 c2, .slice a3 n3 c3] 24)).alloc (.cells #[.bool false, .slice none 0 0, .slice none 0 0] 24) = W0 := ⟨_, rfl⟩
  have HXW0 := Lib.hid (show ∀ W', Below W0.heap.size W0 W' → (W'.cell? ⟨w.heap.size, 0, none⟩ = some (.bool b) ∧ W'.cell? ⟨w.heap.size, 1, none⟩ = some (.slice a0 n0 c0) ∧ W'.cell? ⟨w.heap.size, 2, none⟩ = some (.slice a1 n1 c1) ∧ W'.cell? ⟨w.heap.size + 1, 0, none⟩ = some (.bool c) ∧ W'.cell? ⟨w.heap.size + 1, 1, none⟩ = some (.slice a2 n2 c2) ∧ W'.cell? ⟨w.heap.size + 1, 2, none⟩ = some (.slice a3 n3 c3) ∧ W'.cell? ⟨w.heap.size + 1 + 1, 0, none⟩ = some (.bool false) ∧ W'.cell? ⟨w.heap.size + 1 + 1, 1, none⟩ = some (.slice none 0 0) ∧ W'.cell? ⟨w.heap.size + 1 + 1, 2, none⟩ = some (.slice none 0 0)) from fun W' hb =>
    ⟨(hb.cell (p := ⟨w.heap.size, 0, none⟩) (by rw [← hW0]; simp <;> omega)).trans (by rw [← hW0]; simp [go_sem]), (hb.cell (p := ⟨w.heap.size, 1, none⟩) (by rw [← hW0]; simp <;> omega)).trans (by rw [← hW0]; simp [go_sem]), (hb.cell (p := ⟨w.heap.size, 2, none⟩) (by rw [← hW0]; simp <;> omega)).trans (by rw [← hW0]; simp [go_sem]), (hb.cell (p := ⟨w.heap.size + 1, 0, none⟩) (by rw [← hW0]; simp <;> omega)).trans (by rw [← hW0]; simp [go_sem]), (hb.cell (p := ⟨w.heap.size + 1, 1, none⟩) (by rw [← hW0]; simp <;> omega)).trans (by rw [← hW0]; simp [go_sem]), (hb.cell (p := ⟨w.heap.size + 1, 2, none⟩) (by rw [← hW0]; simp <;> omega)).trans (by rw [← hW0]; simp [go_sem]), (hb.cell (p := ⟨w.heap.size + 1 + 1, 0, none⟩) (by rw [← hW0]; simp <;> omega)).trans (by rw [← hW0]; simp [go_sem]), (hb.cell (p := ⟨w.heap.size + 1 + 1, 1, none⟩) (by rw [← hW0]; simp <;> omega)).trans (by rw [← hW0]; simp [go_sem]), (hb.cell (p := ⟨w.heap.size + 1 + 1, 2, none⟩) (by rw [← hW0]; simp <;> omega)).trans (by rw [← hW0]; simp [go_sem])⟩)
  have HYW0 := Lib.hid (show ∀ W', Below W0.heap.size W0 W' → (W'.frozen? ⟨w.heap.size, 0, none⟩ = false ∧ W'.frozen? ⟨w.heap.size, 1, none⟩ = false ∧ W'.frozen? ⟨w.heap.size, 2, none⟩ = false ∧ W'.frozen? ⟨w.heap.size + 1, 0, none⟩ = false ∧ W'.frozen? ⟨w.heap.size + 1, 1, none⟩ = false ∧ W'.frozen? ⟨w.heap.size + 1, 2, none⟩ = false ∧ W'.frozen? ⟨w.heap.size + 1 + 1, 0, none⟩ = false ∧ W'.frozen? ⟨w.heap.size + 1 + 1, 1, none⟩ = false ∧ W'.frozen? ⟨w.heap.size + 1 + 1, 2, none⟩ = false) from fun W' hb =>
    ⟨(hb.frozen (p := ⟨w.heap.size, 0, none⟩) (by rw [← hW0]; simp <;> omega)).trans (by rw [← hW0]; simp [go_sem]), (hb.frozen (p := ⟨w.heap.size, 1, none⟩) (by rw [← hW0]; simp <;> omega)).trans (by rw [← hW0]; simp [go_sem]), (hb.frozen (p := ⟨w.heap.size, 2, none⟩) (by rw [← hW0]; simp <;> omega)).trans (by rw [← hW0]; simp [go_sem]), (hb.frozen (p := ⟨w.heap.size + 1, 0, none⟩) (by rw [← hW0]; simp <;> omega)).trans (by rw [← hW0]; simp [go_sem]), (hb.frozen (p := ⟨w.heap.size + 1, 1, none⟩) (by rw [← hW0]; simp <;> omega)).trans (by rw [← hW0]; simp [go_sem]), (hb.frozen (p := ⟨w.heap.size + 1, 2, none⟩) (by rw [← hW0]; simp <;> omega)).trans (by rw [← hW0]; simp [go_sem]), (hb.frozen (p := ⟨w.heap.size + 1 + 1, 0, none⟩) (by rw [← hW0]; simp <;> omega)).trans (by rw [← hW0]; simp [go_sem]), (hb.frozen (p := ⟨w.heap.size + 1 + 1, 1, none⟩) (by rw [← hW0]; simp <;> omega)).trans (by rw [← hW0]; simp [go_sem]), (hb.frozen (p := ⟨w.heap.size + 1 + 1, 2, none⟩) (by rw [← hW0]; simp <;> omega)).trans (by rw [← hW0]; simp [go_sem])⟩)
  have HZW0 := Lib.hid (show ∀ W', Below W0.heap.size W0 W' → (w.heap.size < W'.heap.size ∧ w.heap.size + 1 < W'.heap.size ∧ w.heap.size + 1 + 1 < W'.heap.size) from fun W' hb =>
    ⟨Nat.lt_of_lt_of_le (by rw [← hW0]; simp <;> omega) hb.size, Nat.lt_of_lt_of_le (by rw [← hW0]; simp <;> omega) hb.size, Nat.lt_of_lt_of_le (by rw [← hW0]; simp <;> omega) hb.size⟩)
  have zb : Below w.heap.size w W0 := by rw [← hW0]; exact below_step (below_step (below_new _ _) (below_new _ _)) (below_new _ _)
  rw [hW0]
  clear hW0
  have i0 := h.to zb
  have i1 := h'.to zb
  have gb : Below W0.heap.size W0 W0 := Below.refl _ _
  obtain ⟨x0_0, x0_1, x0_2, x1_0, x1_1, x1_2, x2_0, x2_1, x2_2⟩ := HXW0.out _ gb
  obtain ⟨y0_0, y0_1, y0_2, y1_0, y1_1, y1_2, y2_0, y2_1, y2_2⟩ := HYW0.out _ gb
  obtain ⟨z0, z1, z2⟩ := HZW0.out _ gb
  refine (ref8_fix b _ _ ln ld _ (i0.to gb) x rfl Hx).mono ?_
  clear x0_0 y0_0 x0_1 y0_1 x0_2 y0_2 x1_0 y1_0 x1_1 y1_1 x1_2 y1_2 x2_0 y2_0 x2_1 y2_1 x2_2 y2_2
  rintro e w1 ⟨ng1, a1_, n1_, c1_, p1_, m1_, k1_, rfl, g1, hb1⟩
  replace gb := below_step gb hb1
  obtain ⟨x0_0, x0_1, x0_2, x1_0, x1_1, x1_2, x2_0, x2_1, x2_2⟩ := HXW0.out _ gb
  obtain ⟨y0_0, y0_1, y0_2, y1_0, y1_1, y1_2, y2_0, y2_1, y2_2⟩ := HYW0.out _ gb
  obtain ⟨z0, z1, z2⟩ := HZW0.out _ gb
  go_wp2_with fail
  obtain ⟨W1, hW1⟩ : ∃ W1, w1.alloc (.cells #[.bool ng1, .slice a1_ n1_ c1_, .slice p1_ m1_ k1_] 24) = W1 := ⟨_, rfl⟩
  have hb_W1 : Below w1.heap.size w1 W1 := by rw [← hW1]; exact below_new _ _
  have hs_W1 : Hid (W1.heap.size = w1.heap.size + 1) := by show _ = _; rw [← hW1]; simp
  clear x0_0 y0_0 x0_1 y0_1 x0_2 y0_2 x1_0 y1_0 x1_1 y1_1 x1_2 y1_2 x2_0 y2_0 x2_1 y2_1 x2_2 y2_2
  replace g1 := g1.to hb_W1
  replace gb := below_step gb hb_W1
  obtain ⟨x0_0, x0_1, x0_2, x1_0, x1_1, x1_2, x2_0, x2_1, x2_2⟩ := HXW0.out _ gb
  obtain ⟨y0_0, y0_1, y0_2, y1_0, y1_1, y1_2, y2_0, y2_1, y2_2⟩ := HYW0.out _ gb
  obtain ⟨z0, z1, z2⟩ := HZW0.out _ gb
  have x5_0 : W1.cell? ⟨w1.heap.size, 0, none⟩ = some (.bool ng1) := by rw [← hW1]; simp [go_sem]
  have y5_0 : W1.frozen? ⟨w1.heap.size, 0, none⟩ = false := by rw [← hW1]; simp [go_sem]
  have x5_1 : W1.cell? ⟨w1.heap.size, 1, none⟩ = some (.slice a1_ n1_ c1_) := by rw [← hW1]; simp [go_sem]
  have y5_1 : W1.frozen? ⟨w1.heap.size, 1, none⟩ = false := by rw [← hW1]; simp [go_sem]
  have x5_2 : W1.cell? ⟨w1.heap.size, 2, none⟩ = some (.slice p1_ m1_ k1_) := by rw [← hW1]; simp [go_sem]
  have y5_2 : W1.frozen? ⟨w1.heap.size, 2, none⟩ = false := by rw [← hW1]; simp [go_sem]
  have z5 : w1.heap.size < W1.heap.size := by rw [← hW1]; simp
  rw [hW1]
  clear hW1
  replace i0 := i0.to gb
  replace i1 := i1.to gb
  replace zb := below_step zb gb
  have HXW1 := Lib.hid (show ∀ W', Below W1.heap.size W1 W' → (W'.cell? ⟨w.heap.size, 0, none⟩ = some (.bool b) ∧ W'.cell? ⟨w.heap.size, 1, none⟩ = some (.slice a0 n0 c0) ∧ W'.cell? ⟨w.heap.size, 2, none⟩ = some (.slice a1 n1 c1) ∧ W'.cell? ⟨w.heap.size + 1, 0, none⟩ = some (.bool c) ∧ W'.cell? ⟨w.heap.size + 1, 1, none⟩ = some (.slice a2 n2 c2) ∧ W'.cell? ⟨w.heap.size + 1, 2, none⟩ = some (.slice a3 n3 c3) ∧ W'.cell? ⟨w.heap.size + 1 + 1, 0, none⟩ = some (.bool false) ∧ W'.cell? ⟨w.heap.size + 1 + 1, 1, none⟩ = some (.slice none 0 0) ∧ W'.cell? ⟨w.heap.size + 1 + 1, 2, none⟩ = some (.slice none 0 0) ∧ W'.cell? ⟨w1.heap.size, 0, none⟩ = some (.bool ng1) ∧ W'.cell? ⟨w1.heap.size, 1, none⟩ = some (.slice a1_ n1_ c1_) ∧ W'.cell? ⟨w1.heap.size, 2, none⟩ = some (.slice p1_ m1_ k1_)) from fun W' hb =>
    ⟨(hb.cell (p := ⟨w.heap.size, 0, none⟩) z0).trans x0_0, (hb.cell (p := ⟨w.heap.size, 1, none⟩) z0).trans x0_1, (hb.cell (p := ⟨w.heap.size, 2, none⟩) z0).trans x0_2, (hb.cell (p := ⟨w.heap.size + 1, 0, none⟩) z1).trans x1_0, (hb.cell (p := ⟨w.heap.size + 1, 1, none⟩) z1).trans x1_1, (hb.cell (p := ⟨w.heap.size + 1, 2, none⟩) z1).trans x1_2, (hb.cell (p := ⟨w.heap.size + 1 + 1, 0, none⟩) z2).trans x2_0, (hb.cell (p := ⟨w.heap.size + 1 + 1, 1, none⟩) z2).trans x2_1, (hb.cell (p := ⟨w.heap.size + 1 + 1, 2, none⟩) z2).trans x2_2, (hb.cell (p := ⟨w1.heap.size, 0, none⟩) z5).trans x5_0, (hb.cell (p := ⟨w1.heap.size, 1, none⟩) z5).trans x5_1, (hb.cell (p := ⟨w1.heap.size, 2, none⟩) z5).trans x5_2⟩)
  have HYW1 := Lib.hid (show ∀ W', Below W1.heap.size W1 W' → (W'.frozen? ⟨w.heap.size, 0, none⟩ = false ∧ W'.frozen? ⟨w.heap.size, 1, none⟩ = false ∧ W'.frozen? ⟨w.heap.size, 2, none⟩ = false ∧ W'.frozen? ⟨w.heap.size + 1, 0, none⟩ = false ∧ W'.frozen? ⟨w.heap.size + 1, 1, none⟩ = false ∧ W'.frozen? ⟨w.heap.size + 1, 2, none⟩ = false ∧ W'.frozen? ⟨w.heap.size + 1 + 1, 0, none⟩ = false ∧ W'.frozen? ⟨w.heap.size + 1 + 1, 1, none⟩ = false ∧ W'.frozen? ⟨w.heap.size + 1 + 1, 2, none⟩ = false ∧ W'.frozen? ⟨w1.heap.size, 0, none⟩ = false ∧ W'.frozen? ⟨w1.heap.size, 1, none⟩ = false ∧ W'.frozen? ⟨w1.heap.size, 2, none⟩ = false) from fun W' hb =>
    ⟨(hb.frozen (p := ⟨w.heap.size, 0, none⟩) z0).trans y0_0, (hb.frozen (p := ⟨w.heap.size, 1, none⟩) z0).trans y0_1, (hb.frozen (p := ⟨w.heap.size, 2, none⟩) z0).trans y0_2, (hb.frozen (p := ⟨w.heap.size + 1, 0, none⟩) z1).trans y1_0, (hb.frozen (p := ⟨w.heap.size + 1, 1, none⟩) z1).trans y1_1, (hb.frozen (p := ⟨w.heap.size + 1, 2, none⟩) z1).trans y1_2, (hb.frozen (p := ⟨w.heap.size + 1 + 1, 0, none⟩) z2).trans y2_0, (hb.frozen (p := ⟨w.heap.size + 1 + 1, 1, none⟩) z2).trans y2_1, (hb.frozen (p := ⟨w.heap.size + 1 + 1, 2, none⟩) z2).trans y2_2, (hb.frozen (p := ⟨w1.heap.size, 0, none⟩) z5).trans y5_0, (hb.frozen (p := ⟨w1.heap.size, 1, none⟩) z5).trans y5_1, (hb.frozen (p := ⟨w1.heap.size, 2, none⟩) z5).trans y5_2⟩)
  have HZW1 := Lib.hid (show ∀ W', Below W1.heap.size W1 W' → (w.heap.size < W'.heap.size ∧ w.heap.size + 1 < W'.heap.size ∧ w.heap.size + 1 + 1 < W'.heap.size ∧ w1.heap.size < W'.heap.size) from fun W' hb =>
    ⟨Nat.lt_of_lt_of_le z0 hb.size, Nat.lt_of_lt_of_le z1 hb.size, Nat.lt_of_lt_of_le z2 hb.size, Nat.lt_of_lt_of_le z5 hb.size⟩)
  replace gb := Below.refl W1.heap.size W1
  go_wp2_with fail
  refine (ref8_fix c _ _ ln' ld' _ (i1.to gb) y rfl Hy).mono ?_
  clear x0_0 y0_0 x0_1 y0_1 x0_2 y0_2 x1_0 y1_0 x1_1 y1_1 x1_2 y1_2 x2_0 y2_0 x2_1 y2_1 x2_2 y2_2 x5_0 y5_0 x5_1 y5_1 x5_2 y5_2
  rintro e w2 ⟨ng2, a2_, n2_, c2_, p2_, m2_, k2_, rfl, g2, hb2⟩
  replace gb := below_step gb hb2
  obtain ⟨x0_0, x0_1, x0_2, x1_0, x1_1, x1_2, x2_0, x2_1, x2_2, x5_0, x5_1, x5_2⟩ := HXW1.out _ gb
  obtain ⟨y0_0, y0_1, y0_2, y1_0, y1_1, y1_2, y2_0, y2_1, y2_2, y5_0, y5_1, y5_2⟩ := HYW1.out _ gb
  obtain ⟨z0, z1, z2, z5⟩ := HZW1.out _ gb
  go_wp2_with fail
  obtain ⟨W2, hW2⟩ : ∃ W2, w2.alloc (.cells #[.bool ng2, .slice a2_ n2_ c2_, .slice p2_ m2_ k2_] 24) = W2 := ⟨_, rfl⟩
  have hb_W2 : Below w2.heap.size w2 W2 := by rw [← hW2]; exact below_new _ _
  have hs_W2 : Hid (W2.heap.size = w2.heap.size + 1) := by show _ = _; rw [← hW2]; simp
  clear x0_0 y0_0 x0_1 y0_1 x0_2 y0_2 x1_0 y1_0 x1_1 y1_1 x1_2 y1_2 x2_0 y2_0 x2_1 y2_1 x2_2 y2_2 x5_0 y5_0 x5_1 y5_1 x5_2 y5_2
  replace g2 := g2.to hb_W2
  replace gb := below_step gb hb_W2
  obtain ⟨x0_0, x0_1, x0_2, x1_0, x1_1, x1_2, x2_0, x2_1, x2_2, x5_0, x5_1, x5_2⟩ := HXW1.out _ gb
  obtain ⟨y0_0, y0_1, y0_2, y1_0, y1_1, y1_2, y2_0, y2_1, y2_2, y5_0, y5_1, y5_2⟩ := HYW1.out _ gb
  obtain ⟨z0, z1, z2, z5⟩ := HZW1.out _ gb
  have x6_0 : W2.cell? ⟨w2.heap.size, 0, none⟩ = some (.bool ng2) := by rw [← hW2]; simp [go_sem]
  have y6_0 : W2.frozen? ⟨w2.heap.size, 0, none⟩ = false := by rw [← hW2]; simp [go_sem]
  have x6_1 : W2.cell? ⟨w2.heap.size, 1, none⟩ = some (.slice a2_ n2_ c2_) := by rw [← hW2]; simp [go_sem]
  have y6_1 : W2.frozen? ⟨w2.heap.size, 1, none⟩ = false := by rw [← hW2]; simp [go_sem]
  have x6_2 : W2.cell? ⟨w2.heap.size, 2, none⟩ = some (.slice p2_ m2_ k2_) := by rw [← hW2]; simp [go_sem]
  have y6_2 : W2.frozen? ⟨w2.heap.size, 2, none⟩ = false := by rw [← hW2]; simp [go_sem]
  have z6 : w2.heap.size < W2.heap.size := by rw [← hW2]; simp
  rw [hW2]
  clear hW2
  replace i0 := i0.to gb
  replace i1 := i1.to gb
  replace g1 := g1.to gb
  replace zb := below_step zb gb
  have HXW2 := Lib.hid (show ∀ W', Below W2.heap.size W2 W' → (W'.cell? ⟨w.heap.size, 0, none⟩ = some (.bool b) ∧ W'.cell? ⟨w.heap.size, 1, none⟩ = some (.slice a0 n0 c0) ∧ W'.cell? ⟨w.heap.size, 2, none⟩ = some (.slice a1 n1 c1) ∧ W'.cell? ⟨w.heap.size + 1, 0, none⟩ = some (.bool c) ∧ W'.cell? ⟨w.heap.size + 1, 1, none⟩ = some (.slice a2 n2 c2) ∧ W'.cell? ⟨w.heap.size + 1, 2, none⟩ = some (.slice a3 n3 c3) ∧ W'.cell? ⟨w.heap.size + 1 + 1, 0, none⟩ = some (.bool false) ∧ W'.cell? ⟨w.heap.size + 1 + 1, 1, none⟩ = some (.slice none 0 0) ∧ W'.cell? ⟨w.heap.size + 1 + 1, 2, none⟩ = some (.slice none 0 0) ∧ W'.cell? ⟨w1.heap.size, 0, none⟩ = some (.bool ng1) ∧ W'.cell? ⟨w1.heap.size, 1, none⟩ = some (.slice a1_ n1_ c1_) ∧ W'.cell? ⟨w1.heap.size, 2, none⟩ = some (.slice p1_ m1_ k1_) ∧ W'.cell? ⟨w2.heap.size, 0, none⟩ = some (.bool ng2) ∧ W'.cell? ⟨w2.heap.size, 1, none⟩ = some (.slice a2_ n2_ c2_) ∧ W'.cell? ⟨w2.heap.size, 2, none⟩ = some (.slice p2_ m2_ k2_)) from fun W' hb =>
    ⟨(hb.cell (p := ⟨w.heap.size, 0, none⟩) z0).trans x0_0, (hb.cell (p := ⟨w.heap.size, 1, none⟩) z0).trans x0_1, (hb.cell (p := ⟨w.heap.size, 2, none⟩) z0).trans x0_2, (hb.cell (p := ⟨w.heap.size + 1, 0, none⟩) z1).trans x1_0, (hb.cell (p := ⟨w.heap.size + 1, 1, none⟩) z1).trans x1_1, (hb.cell (p := ⟨w.heap.size + 1, 2, none⟩) z1).trans x1_2, (hb.cell (p := ⟨w.heap.size + 1 + 1, 0, none⟩) z2).trans x2_0, (hb.cell (p := ⟨w.heap.size + 1 + 1, 1, none⟩) z2).trans x2_1, (hb.cell (p := ⟨w.heap.size + 1 + 1, 2, none⟩) z2).trans x2_2, (hb.cell (p := ⟨w1.heap.size, 0, none⟩) z5).trans x5_0, (hb.cell (p := ⟨w1.heap.size, 1, none⟩) z5).trans x5_1, (hb.cell (p := ⟨w1.heap.size, 2, none⟩) z5).trans x5_2, (hb.cell (p := ⟨w2.heap.size, 0, none⟩) z6).trans x6_0, (hb.cell (p := ⟨w2.heap.size, 1, none⟩) z6).trans x6_1, (hb.cell (p := ⟨w2.heap.size, 2, none⟩) z6).trans x6_2⟩)
  have HYW2 := Lib.hid (show ∀ W', Below W2.heap.size W2 W' → (W'.frozen? ⟨w.heap.size, 0, none⟩ = false ∧ W'.frozen? ⟨w.heap.size, 1, none⟩ = false ∧ W'.frozen? ⟨w.heap.size, 2, none⟩ = false ∧ W'.frozen? ⟨w.heap.size + 1, 0, none⟩ = false ∧ W'.frozen? ⟨w.heap.size + 1, 1, none⟩ = false ∧ W'.frozen? ⟨w.heap.size + 1, 2, none⟩ = false ∧ W'.frozen? ⟨w.heap.size + 1 + 1, 0, none⟩ = false ∧ W'.frozen? ⟨w.heap.size + 1 + 1, 1, none⟩ = false ∧ W'.frozen? ⟨w.heap.size + 1 + 1, 2, none⟩ = false ∧ W'.frozen? ⟨w1.heap.size, 0, none⟩ = false ∧ W'.frozen? ⟨w1.heap.size, 1, none⟩ = false ∧ W'.frozen? ⟨w1.heap.size, 2, none⟩ = false ∧ W'.frozen? ⟨w2.heap.size, 0, none⟩ = false ∧ W'.frozen? ⟨w2.heap.size, 1, none⟩ = false ∧ W'.frozen? ⟨w2.heap.size, 2, none⟩ = false) from fun W' hb =>
    ⟨(hb.frozen (p := ⟨w.heap.size, 0, none⟩) z0).trans y0_0, (hb.frozen (p := ⟨w.heap.size, 1, none⟩) z0).trans y0_1, (hb.frozen (p := ⟨w.heap.size, 2, none⟩) z0).trans y0_2, (hb.frozen (p := ⟨w.heap.size + 1, 0, none⟩) z1).trans y1_0, (hb.frozen (p := ⟨w.heap.size + 1, 1, none⟩) z1).trans y1_1, (hb.frozen (p := ⟨w.heap.size + 1, 2, none⟩) z1).trans y1_2, (hb.frozen (p := ⟨w.heap.size + 1 + 1, 0, none⟩) z2).trans y2_0, (hb.frozen (p := ⟨w.heap.size + 1 + 1, 1, none⟩) z2).trans y2_1, (hb.frozen (p := ⟨w.heap.size + 1 + 1, 2, none⟩) z2).trans y2_2, (hb.frozen (p := ⟨w1.heap.size, 0, none⟩) z5).trans y5_0, (hb.frozen (p := ⟨w1.heap.size, 1, none⟩) z5).trans y5_1, (hb.frozen (p := ⟨w1.heap.size, 2, none⟩) z5).trans y5_2, (hb.frozen (p := ⟨w2.heap.size, 0, none⟩) z6).trans y6_0, (hb.frozen (p := ⟨w2.heap.size, 1, none⟩) z6).trans y6_1, (hb.frozen (p := ⟨w2.heap.size, 2, none⟩) z6).trans y6_2⟩)
  have HZW2 := Lib.hid (show ∀ W', Below W2.heap.size W2 W' → (w.heap.size < W'.heap.size ∧ w.heap.size + 1 < W'.heap.size ∧ w.heap.size + 1 + 1 < W'.heap.size ∧ w1.heap.size < W'.heap.size ∧ w2.heap.size < W'.heap.size) from fun W' hb =>
    ⟨Nat.lt_of_lt_of_le z0 hb.size, Nat.lt_of_lt_of_le z1 hb.size, Nat.lt_of_lt_of_le z2 hb.size, Nat.lt_of_lt_of_le z5 hb.size, Nat.lt_of_lt_of_le z6 hb.size⟩)
  replace gb := Below.refl W2.heap.size W2
  go_wp2_with fail
  have nz0 : w.heap.size ≠ w.heap.size + 1 + 1 := by omega
  have nz1 : w.heap.size + 1 ≠ w.heap.size + 1 + 1 := by omega
  have nz5 : w1.heap.size ≠ w.heap.size + 1 + 1 := by omega
  have nz6 : w2.heap.size ≠ w.heap.size + 1 + 1 := by omega
  go_region_held3 (fun W' => W'.cell? ⟨w.heap.size, 0, none⟩ = some (.bool b) ∧ W'.cell? ⟨w.heap.size, 1, none⟩ = some (.slice a0 n0 c0) ∧ W'.cell? ⟨w.heap.size, 2, none⟩ = some (.slice a1 n1 c1) ∧ W'.cell? ⟨w.heap.size + 1, 0, none⟩ = some (.bool c) ∧ W'.cell? ⟨w.heap.size + 1, 1, none⟩ = some (.slice a2 n2 c2) ∧ W'.cell? ⟨w.heap.size + 1, 2, none⟩ = some (.slice a3 n3 c3) ∧ W'.cell? ⟨w1.heap.size, 0, none⟩ = some (.bool ng1) ∧ W'.cell? ⟨w1.heap.size, 1, none⟩ = some (.slice a1_ n1_ c1_) ∧ W'.cell? ⟨w1.heap.size, 2, none⟩ = some (.slice p1_ m1_ k1_) ∧ W'.cell? ⟨w2.heap.size, 0, none⟩ = some (.bool ng2) ∧ W'.cell? ⟨w2.heap.size, 1, none⟩ = some (.slice a2_ n2_ c2_) ∧ W'.cell? ⟨w2.heap.size, 2, none⟩ = some (.slice p2_ m2_ k2_)) (first | (with_reducible exact ⟨x0_0, x0_1, x0_2, x1_0, x1_1, x1_2, x5_0, x5_1, x5_2, x6_0, x6_1, x6_2⟩) | (with_reducible exact ⟨cell_put (cell_put (cell_put (x0_0) (.inl nz0) _) (.inl nz0) _) (.inl nz0) _, cell_put (cell_put (cell_put (x0_1) (.inl nz0) _) (.inl nz0) _) (.inl nz0) _, cell_put (cell_put (cell_put (x0_2) (.inl nz0) _) (.inl nz0) _) (.inl nz0) _, cell_put (cell_put (cell_put (x1_0) (.inl nz1) _) (.inl nz1) _) (.inl nz1) _, cell_put (cell_put (cell_put (x1_1) (.inl nz1) _) (.inl nz1) _) (.inl nz1) _, cell_put (cell_put (cell_put (x1_2) (.inl nz1) _) (.inl nz1) _) (.inl nz1) _, cell_put (cell_put (cell_put (x5_0) (.inl nz5) _) (.inl nz5) _) (.inl nz5) _, cell_put (cell_put (cell_put (x5_1) (.inl nz5) _) (.inl nz5) _) (.inl nz5) _, cell_put (cell_put (cell_put (x5_2) (.inl nz5) _) (.inl nz5) _) (.inl nz5) _, cell_put (cell_put (cell_put (x6_0) (.inl nz6) _) (.inl nz6) _) (.inl nz6) _, cell_put (cell_put (cell_put (x6_1) (.inl nz6) _) (.inl nz6) _) (.inl nz6) _, cell_put (cell_put (cell_put (x6_2) (.inl nz6) _) (.inl nz6) _) (.inl nz6) _⟩) | exact ⟨x0_0, x0_1, x0_2, x1_0, x1_1, x1_2, x5_0, x5_1, x5_2, x6_0, x6_1, x6_2⟩) (first
    | (go_at_call 37; (with_reducible refine (ref8_lowest ng13 _ _ _ _ _ g13.isI.up g14.rd (Nat.le_trans S3.out (by omega)) K2.out q (H9.out ng13 g13.ng) hs).mono ?_); rintro e w15 ⟨ng15, a15_, n15_, c15_, p15_, m15_, k15_, rfl, g15, hb15⟩; have g11 := g11.to hb15; have g12 := g12.to hb15; have g13 := g13.to hb15; have g14 := g14.to hb15; have gb := below_step gb hb15; obtain ⟨x0_0, x0_1, x0_2, x1_0, x1_1, x1_2, x2_0, x2_1, x2_2, x5_0, x5_1, x5_2, x6_0, x6_1, x6_2⟩ := HXW2.out _ gb; obtain ⟨y0_0, y0_1, y0_2, y1_0, y1_1, y1_2, y2_0, y2_1, y2_2, y5_0, y5_1, y5_2, y6_0, y6_1, y6_2⟩ := HYW2.out _ gb; obtain ⟨z0, z1, z2, z5, z6⟩ := HZW2.out _ gb)
    | (go_at_call 39; (with_reducible refine (ref3_mul _ _ _ _ _ (g1.to gb).isQ.dn (g2.to gb).isQ.dn (Nat.le_trans (g1.to gb).isQ.ldn (by omega)) (Nat.le_trans (g2.to gb).isQ.ldn (by omega))).mono ?_); rintro e w14 ⟨v14, rfl, g14, hb14⟩; obtain ⟨a14_, n14_, c14_, rfl, H14, hm14⟩ := g14.rd.open; have g11 := g11.to hb14; have g12 := g12.to hb14; have g13 := g13.to hb14; have gb := below_step gb hb14; obtain ⟨x0_0, x0_1, x0_2, x1_0, x1_1, x1_2, x2_0, x2_1, x2_2, x5_0, x5_1, x5_2, x6_0, x6_1, x6_2⟩ := HXW2.out _ gb; obtain ⟨y0_0, y0_1, y0_2, y1_0, y1_1, y1_2, y2_0, y2_1, y2_2, y5_0, y5_1, y5_2, y6_0, y6_1, y6_2⟩ := HYW2.out _ gb; obtain ⟨z0, z1, z2, z5, z6⟩ := HZW2.out _ gb)
    | (go_at_call 38; (with_reducible refine (radd_c _ g11.isI g12.isI (x.num * (y.den : Int) + y.num * (x.den : Int)) rfl S4).mono ?_); rintro e w13 ⟨ng13, a13_, n13_, c13_, rfl, g13, hb13⟩; have g11 := g11.to hb13; have g12 := g12.to hb13; have gb := below_step gb hb13; obtain ⟨x0_0, x0_1, x0_2, x1_0, x1_1, x1_2, x2_0, x2_1, x2_2, x5_0, x5_1, x5_2, x6_0, x6_1, x6_2⟩ := HXW2.out _ gb; obtain ⟨y0_0, y0_1, y0_2, y1_0, y1_1, y1_2, y2_0, y2_1, y2_2, y5_0, y5_1, y5_2, y6_0, y6_1, y6_2⟩ := HYW2.out _ gb; obtain ⟨z0, z1, z2, z5, z6⟩ := HZW2.out _ gb)
    | (go_at_call 32; (with_reducible refine (ref8_over _ _ _ _ _ _ _ (g2.to gb) (g1.to gb) (y.num * (x.den : Int)) rfl S2).mono ?_); rintro e w12 ⟨ng12, a12_, n12_, c12_, rfl, g12, hb12⟩; have g11 := g11.to hb12; have gb := below_step gb hb12; obtain ⟨x0_0, x0_1, x0_2, x1_0, x1_1, x1_2, x2_0, x2_1, x2_2, x5_0, x5_1, x5_2, x6_0, x6_1, x6_2⟩ := HXW2.out _ gb; obtain ⟨y0_0, y0_1, y0_2, y1_0, y1_1, y1_2, y2_0, y2_1, y2_2, y5_0, y5_1, y5_2, y6_0, y6_1, y6_2⟩ := HYW2.out _ gb; obtain ⟨z0, z1, z2, z5, z6⟩ := HZW2.out _ gb)
    | (go_at_call 32; have gb := gb.drew; (with_reducible refine (ref8_over _ _ _ _ _ _ _ (g1.to gb) (g2.to gb) (x.num * (y.den : Int)) rfl S1).mono ?_); rintro e w11 ⟨ng11, a11_, n11_, c11_, rfl, g11, hb11⟩; have gb := below_step gb hb11; obtain ⟨x0_0, x0_1, x0_2, x1_0, x1_1, x1_2, x2_0, x2_1, x2_2, x5_0, x5_1, x5_2, x6_0, x6_1, x6_2⟩ := HXW2.out _ gb; obtain ⟨y0_0, y0_1, y0_2, y1_0, y1_1, y1_2, y2_0, y2_1, y2_2, y5_0, y5_1, y5_2, y6_0, y6_1, y6_2⟩ := HYW2.out _ gb; obtain ⟨z0, z1, z2, z5, z6⟩ := HZW2.out _ gb))
  go_wp2_with fail
  refine bodyPost_ret (results_R Tryz.results11 _ _ _ _ _ _ rfl (Tri.set (x0 := .bool false) (y0 := .slice none 0 0) (z0 := .slice none 0 0) ⟨x2_0, x2_1, x2_2, y2_0, y2_1, y2_2⟩ _ _ _)) rfl (finR (below_step zb gb) (by omega) ?_ g15)
  omega

set_option maxRecDepth 100000 in
set_option maxHeartbeats 4000000 in
theorem ref8_sub {x y : Rat} (b : Bool) (v u : Value) (ln ld : List Nat) (c : Bool) (v' u' : Value) (ln' ld' : List Nat) (w : World) (h : IsQ w b v u ln ld x) (h' : IsQ w c v' u' ln' ld' y) (q : Rat) (hq : x - y = q) (hs : Hid (szq q ≤ 1000)) :
    Calls Tryz.prog 13 #[aggR b v u, aggR c v' u'] w (GivesQ w q) := by
  have H9 := Lib.hid (show x + -y = q by rw [← Rat.sub_eq_add_neg, hq])
  obtain ⟨a0, n0, c0, rfl, H0, hm0⟩ := h.1.open
  obtain ⟨a1, n1, c1, rfl, H1, hm1⟩ := h.2.1.open
  obtain ⟨a2, n2, c2, rfl, H2, hm2⟩ := h'.1.open
  obtain ⟨a3, n3, c3, rfl, H3, hm3⟩ := h'.2.1.open
  clear hq
  go_enter Tryz.func13, Tryz.ntmps13
  go_wp2_with fail
  obtain ⟨W0, hW0⟩ : ∃ W0, ((w.alloc (.cells #[.bool b, .slice a0 n0 c0, .slice a1 n1 c1] 24)).alloc (.cells #[.bool c, .slice a2 n2 c2, .slice a3 n3 c3] 24)).alloc (.cells #[.bool false, .slice none 0 0, .slice none 0 0] 24) = W0 := ⟨_, rfl⟩
  have HXW0 := Lib.hid (show ∀ W', Below W0.heap.size W0 W' → (W'.cell? ⟨w.heap.size, 0, none⟩ = some (.bool b) ∧ W'.cell? ⟨w.heap.size, 1, none⟩ = some (.slice a0 n0 c0) ∧ W'.cell? ⟨w.heap.size, 2, none⟩ = some (.slice a1 n1 c1) ∧ W'.cell? ⟨w.heap.size + 1, 0, none⟩ = some (.bool c) ∧ W'.cell? ⟨w.heap.size + 1, 1, none⟩ = some (.slice a2 n2 c2) ∧ W'.cell? ⟨w.heap.size + 1, 2, none⟩ = some (.slice a3 n3 c3) ∧ W'.cell? ⟨w.heap.size + 1 + 1, 0, none⟩ = some (.bool false) ∧ W'.cell? ⟨w.heap.size + 1 + 1, 1, none⟩ = some (.slice none 0 0) ∧ W'.cell? ⟨w.heap.size + 1 + 1, 2, none⟩ = some (.slice none 0 0)) from fun W' hb =>
    ⟨(hb.cell (p := ⟨w.heap.size, 0, none⟩) (by rw [← hW0]; simp <;> omega)).trans (by rw [← hW0]; simp [go_sem]), (hb.cell (p := ⟨w.heap.size, 1, none⟩) (by rw [← hW0]; simp <;> omega)).trans (by rw [← hW0]; simp [go_sem]), (hb.cell (p := ⟨w.heap.size, 2, none⟩) (by rw [← hW0]; simp <;> omega)).trans (by rw [← hW0]; simp [go_sem]), (hb.cell (p := ⟨w.heap.size + 1, 0, none⟩) (by rw [← hW0]; simp <;> omega)).trans (by rw [← hW0]; simp [go_sem]), (hb.cell (p := ⟨w.heap.size + 1, 1, none⟩) (by rw [← hW0]; simp <;> omega)).trans (by rw [← hW0]; simp [go_sem]), (hb.cell (p := ⟨w.heap.size + 1, 2, none⟩) (by rw [← hW0]; simp <;> omega)).trans (by rw [← hW0]; simp [go_sem]), (hb.cell (p := ⟨w.heap.size + 1 + 1, 0, none⟩) (by rw [← hW0]; simp <;> omega)).trans (by rw [← hW0]; simp [go_sem]), (hb.cell (p := ⟨w.heap.size + 1 + 1, 1, none⟩) (by rw [← hW0]; simp <;> omega)).trans (by rw [← hW0]; simp [go_sem]), (hb.cell (p := ⟨w.heap.size + 1 + 1, 2, none⟩) (by rw [← hW0]; simp <;> omega)).trans (by rw [← hW0]; simp [go_sem])⟩)
  have HYW0 := Lib.hid (show ∀ W', Below W0.heap.size W0 W' → (W'.frozen? ⟨w.heap.size, 0, none⟩ = false ∧ W'.frozen? ⟨w.heap.size, 1, none⟩ = false ∧ W'.frozen? ⟨w.heap.size, 2, none⟩ = false ∧ W'.frozen? ⟨w.heap.size + 1, 0, none⟩ = false ∧ W'.frozen? ⟨w.heap.size + 1, 1, none⟩ = false ∧ W'.frozen? ⟨w.heap.size + 1, 2, none⟩ = false ∧ W'.frozen? ⟨w.heap.size + 1 + 1, 0, none⟩ = false ∧ W'.frozen? ⟨w.heap.size + 1 + 1, 1, none⟩ = false ∧ W'.frozen? ⟨w.heap.size + 1 + 1, 2, none⟩ = false) from fun W' hb =>
    ⟨(hb.frozen (p := ⟨w.heap.size, 0, none⟩) (by rw [← hW0]; simp <;> omega)).trans (by rw [← hW0]; simp [go_sem]), (hb.frozen (p := ⟨w.heap.size, 1, none⟩) (by rw [← hW0]; simp <;> omega)).trans (by rw [← hW0]; simp [go_sem]), (hb.frozen (p := ⟨w.heap.size, 2, none⟩) (by rw [← hW0]; simp <;> omega)).trans (by rw [← hW0]; simp [go_sem]), (hb.frozen (p := ⟨w.heap.size + 1, 0, none⟩) (by rw [← hW0]; simp <;> omega)).trans (by rw [← hW0]; simp [go_sem]), (hb.frozen (p := ⟨w.heap.size + 1, 1, none⟩) (by rw [← hW0]; simp <;> omega)).trans (by rw [← hW0]; simp [go_sem]), (hb.frozen (p := ⟨w.heap.size + 1, 2, none⟩) (by rw [← hW0]; simp <;> omega)).trans (by rw [← hW0]; simp [go_sem]), (hb.frozen (p := ⟨w.heap.size + 1 + 1, 0, none⟩) (by rw [← hW0]; simp <;> omega)).trans (by rw [← hW0]; simp [go_sem]), (hb.frozen (p := ⟨w.heap.size + 1 + 1, 1, none⟩) (by rw [← hW0]; simp <;> omega)).trans (by rw [← hW0]; simp [go_sem]), (hb.frozen (p := ⟨w.heap.size + 1 + 1, 2, none⟩) (by rw [← hW0]; simp <;> omega)).trans (by rw [← hW0]; simp [go_sem])⟩)
  have HZW0 := Lib.hid (show ∀ W', Below W0.heap.size W0 W' → (w.heap.size < W'.heap.size ∧ w.heap.size + 1 < W'.heap.size ∧ w.heap.size + 1 + 1 < W'.heap.size) from fun W' hb =>
    ⟨Nat.lt_of_lt_of_le (by rw [← hW0]; simp <;> omega) hb.size, Nat.lt_of_lt_of_le (by rw [← hW0]; simp <;> omega) hb.size, Nat.lt_of_lt_of_le (by rw [← hW0]; simp <;> omega) hb.size⟩)
  have zb : Below w.heap.size w W0 := by rw [← hW0]; exact below_step (below_step (below_new _ _) (below_new _ _)) (below_new _ _)
  rw [hW0]
  clear hW0
  have i0 := h.to zb
  have i1 := h'.to zb
  have gb : Below W0.heap.size W0 W0 := Below.refl _ _
  obtain ⟨x0_0, x0_1, x0_2, x1_0, x1_1, x1_2, x2_0, x2_1, x2_2⟩ := HXW0.out _ gb
  obtain ⟨y0_0, y0_1, y0_2, y1_0, y1_1, y1_2, y2_0, y2_1, y2_2⟩ := HYW0.out _ gb
  obtain ⟨z0, z1, z2⟩ := HZW0.out _ gb
  have nz0 : w.heap.size ≠ w.heap.size + 1 + 1 := by omega
  have nz1 : w.heap.size + 1 ≠ w.heap.size + 1 + 1 := by omega
  go_region_held3 (fun W' => W'.cell? ⟨w.heap.size, 0, none⟩ = some (.bool b) ∧ W'.cell? ⟨w.heap.size, 1, none⟩ = some (.slice a0 n0 c0) ∧ W'.cell? ⟨w.heap.size, 2, none⟩ = some (.slice a1 n1 c1) ∧ W'.cell? ⟨w.heap.size + 1, 0, none⟩ = some (.bool c) ∧ W'.cell? ⟨w.heap.size + 1, 1, none⟩ = some (.slice a2 n2 c2) ∧ W'.cell? ⟨w.heap.size + 1, 2, none⟩ = some (.slice a3 n3 c3)) (first | (with_reducible exact ⟨x0_0, x0_1, x0_2, x1_0, x1_1, x1_2⟩) | (with_reducible exact ⟨cell_put (cell_put (cell_put (x0_0) (.inl nz0) _) (.inl nz0) _) (.inl nz0) _, cell_put (cell_put (cell_put (x0_1) (.inl nz0) _) (.inl nz0) _) (.inl nz0) _, cell_put (cell_put (cell_put (x0_2) (.inl nz0) _) (.inl nz0) _) (.inl nz0) _, cell_put (cell_put (cell_put (x1_0) (.inl nz1) _) (.inl nz1) _) (.inl nz1) _, cell_put (cell_put (cell_put (x1_1) (.inl nz1) _) (.inl nz1) _) (.inl nz1) _, cell_put (cell_put (cell_put (x1_2) (.inl nz1) _) (.inl nz1) _) (.inl nz1) _⟩) | exact ⟨x0_0, x0_1, x0_2, x1_0, x1_1, x1_2⟩) (first
    | (go_at_call 11; (with_reducible refine (ref8_add b _ _ ln ld _ _ _ _ _ _ (i0.to gb) g1.isQ q H9.out hs).mono ?_); rintro e w2 ⟨ng2, a2_, n2_, c2_, p2_, m2_, k2_, rfl, g2, hb2⟩; have g1 := g1.to hb2; have gb := below_step gb hb2; obtain ⟨x0_0, x0_1, x0_2, x1_0, x1_1, x1_2, x2_0, x2_1, x2_2⟩ := HXW0.out _ gb; obtain ⟨y0_0, y0_1, y0_2, y1_0, y1_1, y1_2, y2_0, y2_1, y2_2⟩ := HYW0.out _ gb; obtain ⟨z0, z1, z2⟩ := HZW0.out _ gb)
    | (go_at_call 40; have gb := gb.drew; (with_reducible refine (ref8_neg c _ _ ln' ld' _ (i1.to gb)).mono ?_); rintro e w1 ⟨ng1, a1_, n1_, c1_, p1_, m1_, k1_, rfl, g1, hb1⟩; have gb := below_step gb hb1; obtain ⟨x0_0, x0_1, x0_2, x1_0, x1_1, x1_2, x2_0, x2_1, x2_2⟩ := HXW0.out _ gb; obtain ⟨y0_0, y0_1, y0_2, y1_0, y1_1, y1_2, y2_0, y2_1, y2_2⟩ := HYW0.out _ gb; obtain ⟨z0, z1, z2⟩ := HZW0.out _ gb))
  go_wp2_with fail
  refine bodyPost_ret (results_R Tryz.results13 _ _ _ _ _ _ rfl (Tri.set (x0 := .bool false) (y0 := .slice none 0 0) (z0 := .slice none 0 0) ⟨x2_0, x2_1, x2_2, y2_0, y2_1, y2_2⟩ _ _ _)) rfl (finR (below_step zb gb) (by omega) ?_ g2)
  omega

set_option maxRecDepth 100000 in
set_option maxHeartbeats 40000000 in
theorem ref8_cmp {x y : Rat} (b : Bool) (v u : Value) (ln ld : List Nat) (c : Bool) (v' u' : Value) (ln' ld' : List Nat) (w : World) (h : IsQ w b v u ln ld x) (h' : IsQ w c v' u' ln' ld' y) (k : Int) (hk : cmpQ x y = k) :
    Calls Tryz.prog 8 #[aggR b v u, aggR c v' u'] w (fun e w' => e = .returned (.int .i64 k) ∧ Below w.heap.size w w') := by
  have Hx : Hid (szq x ≤ 1000) := isQ_sz h
  have Hy : Hid (szq y ≤ 1000) := isQ_sz h'
  have S1 := Lib.hid (show szi (x.num * (y.den : Int)) ≤ 90000 from over_sz Hx.out Hy.out)
  have S2 := Lib.hid (show szi (y.num * (x.den : Int)) ≤ 90000 from over_sz Hy.out Hx.out)
  have H9 := Lib.hid (show cmpZ (x.num * (y.den : Int)) (y.num * (x.den : Int)) = k by rw [cmpQ_over, hk])
  obtain ⟨a0, n0, c0, rfl, H0, hm0⟩ := h.1.open
  obtain ⟨a1, n1, c1, rfl, H1, hm1⟩ := h.2.1.open
  obtain ⟨a2, n2, c2, rfl, H2, hm2⟩ := h'.1.open
  obtain ⟨a3, n3, c3, rfl, H3, hm3⟩ := h'.2.1.open
  clear hk
  go_enter Tryz.func8, Tryz.ntmps8
  go_wp2_with fail
  obtain ⟨W0, hW0⟩ : ∃ W0, (w.alloc (.cells #[.bool b, .slice a0 n0 c0, .slice a1 n1 c1] 24)).alloc (.cells #[.bool c, .slice a2 n2 c2, .slice a3 n3 c3] 24) = W0 := ⟨_, rfl⟩
  have HXW0 := Lib.hid (show ∀ W', Below W0.heap.size W0 W' → (W'.cell? ⟨w.heap.size, 0, none⟩ = some (.bool b) ∧ W'.cell? ⟨w.heap.size, 1, none⟩ = some (.slice a0 n0 c0) ∧ W'.cell? ⟨w.heap.size, 2, none⟩ = some (.slice a1 n1 c1) ∧ W'.cell? ⟨w.heap.size + 1, 0, none⟩ = some (.bool c) ∧ W'.cell? ⟨w.heap.size + 1, 1, none⟩ = some (.slice a2 n2 c2) ∧ W'.cell? ⟨w.heap.size + 1, 2, none⟩ = some (.slice a3 n3 c3)) from fun W' hb =>
    ⟨(hb.cell (p := ⟨w.heap.size, 0, none⟩) (by rw [← hW0]; simp <;> omega)).trans (by rw [← hW0]; simp [go_sem]), (hb.cell (p := ⟨w.heap.size, 1, none⟩) (by rw [← hW0]; simp <;> omega)).trans (by rw [← hW0]; simp [go_sem]), (hb.cell (p := ⟨w.heap.size, 2, none⟩) (by rw [← hW0]; simp <;> omega)).trans (by rw [← hW0]; simp [go_sem]), (hb.cell (p := ⟨w.heap.size + 1, 0, none⟩) (by rw [← hW0]; simp <;> omega)).trans (by rw [← hW0]; simp [go_sem]), (hb.cell (p := ⟨w.heap.size + 1, 1, none⟩) (by rw [← hW0]; simp <;> omega)).trans (by rw [← hW0]; simp [go_sem]), (hb.cell (p := ⟨w.heap.size + 1, 2, none⟩) (by rw [← hW0]; simp <;> omega)).trans (by rw [← hW0]; simp [go_sem])⟩)
  have HYW0 := Lib.hid (show ∀ W', Below W0.heap.size W0 W' → (W'.frozen? ⟨w.heap.size, 0, none⟩ = false ∧ W'.frozen? ⟨w.heap.size, 1, none⟩ = false ∧ W'.frozen? ⟨w.heap.size, 2, none⟩ = false ∧ W'.frozen? ⟨w.heap.size + 1, 0, none⟩ = false ∧ W'.frozen? ⟨w.heap.size + 1, 1, none⟩ = false ∧ W'.frozen? ⟨w.heap.size + 1, 2, none⟩ = false) from fun W' hb =>
    ⟨(hb.frozen (p := ⟨w.heap.size, 0, none⟩) (by rw [← hW0]; simp <;> omega)).trans (by rw [← hW0]; simp [go_sem]), (hb.frozen (p := ⟨w.heap.size, 1, none⟩) (by rw [← hW0]; simp <;> omega)).trans (by rw [← hW0]; simp [go_sem]), (hb.frozen (p := ⟨w.heap.size, 2, none⟩) (by rw [← hW0]; simp <;> omega)).trans (by rw [← hW0]; simp [go_sem]), (hb.frozen (p := ⟨w.heap.size + 1, 0, none⟩) (by rw [← hW0]; simp <;> omega)).trans (by rw [← hW0]; simp [go_sem]), (hb.frozen (p := ⟨w.heap.size + 1, 1, none⟩) (by rw [← hW0]; simp <;> omega)).trans (by rw [← hW0]; simp [go_sem]), (hb.frozen (p := ⟨w.heap.size + 1, 2, none⟩) (by rw [← hW0]; simp <;> omega)).trans (by rw [← hW0]; simp [go_sem])⟩)
  have HZW0 := Lib.hid (show ∀ W', Below W0.heap.size W0 W' → (w.heap.size < W'.heap.size ∧ w.heap.size + 1 < W'.heap.size) from fun W' hb =>
    ⟨Nat.lt_of_lt_of_le (by rw [← hW0]; simp <;> omega) hb.size, Nat.lt_of_lt_of_le (by rw [← hW0]; simp <;> omega) hb.size⟩)
  have zb : Below w.heap.size w W0 := by rw [← hW0]; exact below_step (below_new _ _) (below_new _ _)
  rw [hW0]
  clear hW0
  have i0 := h.to zb
  have i1 := h'.to zb
  have gb : Below W0.heap.size W0 W0 := Below.refl _ _
  obtain ⟨x0_0, x0_1, x0_2, x1_0, x1_1, x1_2⟩ := HXW0.out _ gb
  obtain ⟨y0_0, y0_1, y0_2, y1_0, y1_1, y1_2⟩ := HYW0.out _ gb
  obtain ⟨z0, z1⟩ := HZW0.out _ gb
  refine (ref8_fix b _ _ ln ld _ (i0.to gb) x rfl Hx).mono ?_
  clear x0_0 y0_0 x0_1 y0_1 x0_2 y0_2 x1_0 y1_0 x1_1 y1_1 x1_2 y1_2
  rintro e w1 ⟨ng1, a1_, n1_, c1_, p1_, m1_, k1_, rfl, g1, hb1⟩
  replace gb := below_step gb hb1
  obtain ⟨x0_0, x0_1, x0_2, x1_0, x1_1, x1_2⟩ := HXW0.out _ gb
  obtain ⟨y0_0, y0_1, y0_2, y1_0, y1_1, y1_2⟩ := HYW0.out _ gb
  obtain ⟨z0, z1⟩ := HZW0.out _ gb
  go_wp2_with fail
  obtain ⟨W1, hW1⟩ : ∃ W1, w1.alloc (.cells #[.bool ng1, .slice a1_ n1_ c1_, .slice p1_ m1_ k1_] 24) = W1 := ⟨_, rfl⟩
  have hb_W1 : Below w1.heap.size w1 W1 := by rw [← hW1]; exact below_new _ _
  have hs_W1 : Hid (W1.heap.size = w1.heap.size + 1) := by show _ = _; rw [← hW1]; simp
  clear x0_0 y0_0 x0_1 y0_1 x0_2 y0_2 x1_0 y1_0 x1_1 y1_1 x1_2 y1_2
  replace g1 := g1.to hb_W1
  replace gb := below_step gb hb_W1
  obtain ⟨x0_0, x0_1, x0_2, x1_0, x1_1, x1_2⟩ := HXW0.out _ gb
  obtain ⟨y0_0, y0_1, y0_2, y1_0, y1_1, y1_2⟩ := HYW0.out _ gb
  obtain ⟨z0, z1⟩ := HZW0.out _ gb
  have x4_0 : W1.cell? ⟨w1.heap.size, 0, none⟩ = some (.bool ng1) := by rw [← hW1]; simp [go_sem]
  have y4_0 : W1.frozen? ⟨w1.heap.size, 0, none⟩ = false := by rw [← hW1]; simp [go_sem]
  have x4_1 : W1.cell? ⟨w1.heap.size, 1, none⟩ = some (.slice a1_ n1_ c1_) := by rw [← hW1]; simp [go_sem]
  have y4_1 : W1.frozen? ⟨w1.heap.size, 1, none⟩ = false := by rw [← hW1]; simp [go_sem]
  have x4_2 : W1.cell? ⟨w1.heap.size, 2, none⟩ = some (.slice p1_ m1_ k1_) := by rw [← hW1]; simp [go_sem]
  have y4_2 : W1.frozen? ⟨w1.heap.size, 2, none⟩ = false := by rw [← hW1]; simp [go_sem]
  have z4 : w1.heap.size < W1.heap.size := by rw [← hW1]; simp
  rw [hW1]
  clear hW1
  replace i0 := i0.to gb
  replace i1 := i1.to gb
  replace zb := below_step zb gb
  have HXW1 := Lib.hid (show ∀ W', Below W1.heap.size W1 W' → (W'.cell? ⟨w.heap.size, 0, none⟩ = some (.bool b) ∧ W'.cell? ⟨w.heap.size, 1, none⟩ = some (.slice a0 n0 c0) ∧ W'.cell? ⟨w.heap.size, 2, none⟩ = some (.slice a1 n1 c1) ∧ W'.cell? ⟨w.heap.size + 1, 0, none⟩ = some (.bool c) ∧ W'.cell? ⟨w.heap.size + 1, 1, none⟩ = some (.slice a2 n2 c2) ∧ W'.cell? ⟨w.heap.size + 1, 2, none⟩ = some (.slice a3 n3 c3) ∧ W'.cell? ⟨w1.heap.size, 0, none⟩ = some (.bool ng1) ∧ W'.cell? ⟨w1.heap.size, 1, none⟩ = some (.slice a1_ n1_ c1_) ∧ W'.cell? ⟨w1.heap.size, 2, none⟩ = some (.slice p1_ m1_ k1_)) from fun W' hb =>
    ⟨(hb.cell (p := ⟨w.heap.size, 0, none⟩) z0).trans x0_0, (hb.cell (p := ⟨w.heap.size, 1, none⟩) z0).trans x0_1, (hb.cell (p := ⟨w.heap.size, 2, none⟩) z0).trans x0_2, (hb.cell (p := ⟨w.heap.size + 1, 0, none⟩) z1).trans x1_0, (hb.cell (p := ⟨w.heap.size + 1, 1, none⟩) z1).trans x1_1, (hb.cell (p := ⟨w.heap.size + 1, 2, none⟩) z1).trans x1_2, (hb.cell (p := ⟨w1.heap.size, 0, none⟩) z4).trans x4_0, (hb.cell (p := ⟨w1.heap.size, 1, none⟩) z4).trans x4_1, (hb.cell (p := ⟨w1.heap.size, 2, none⟩) z4).trans x4_2⟩)
  have HYW1 := Lib.hid (show ∀ W', Below W1.heap.size W1 W' → (W'.frozen? ⟨w.heap.size, 0, none⟩ = false ∧ W'.frozen? ⟨w.heap.size, 1, none⟩ = false ∧ W'.frozen? ⟨w.heap.size, 2, none⟩ = false ∧ W'.frozen? ⟨w.heap.size + 1, 0, none⟩ = false ∧ W'.frozen? ⟨w.heap.size + 1, 1, none⟩ = false ∧ W'.frozen? ⟨w.heap.size + 1, 2, none⟩ = false ∧ W'.frozen? ⟨w1.heap.size, 0, none⟩ = false ∧ W'.frozen? ⟨w1.heap.size, 1, none⟩ = false ∧ W'.frozen? ⟨w1.heap.size, 2, none⟩ = false) from fun W' hb =>
    ⟨(hb.frozen (p := ⟨w.heap.size, 0, none⟩) z0).trans y0_0, (hb.frozen (p := ⟨w.heap.size, 1, none⟩) z0).trans y0_1, (hb.frozen (p := ⟨w.heap.size, 2, none⟩) z0).trans y0_2, (hb.frozen (p := ⟨w.heap.size + 1, 0, none⟩) z1).trans y1_0, (hb.frozen (p := ⟨w.heap.size + 1, 1, none⟩) z1).trans y1_1, (hb.frozen (p := ⟨w.heap.size + 1, 2, none⟩) z1).trans y1_2, (hb.frozen (p := ⟨w1.heap.size, 0, none⟩) z4).trans y4_0, (hb.frozen (p := ⟨w1.heap.size, 1, none⟩) z4).trans y4_1, (hb.frozen (p := ⟨w1.heap.size, 2, none⟩) z4).trans y4_2⟩)
  have HZW1 := Lib.hid (show ∀ W', Below W1.heap.size W1 W' → (w.heap.size < W'.heap.size ∧ w.heap.size + 1 < W'.heap.size ∧ w1.heap.size < W'.heap.size) from fun W' hb =>
    ⟨Nat.lt_of_lt_of_le z0 hb.size, Nat.lt_of_lt_of_le z1 hb.size, Nat.lt_of_lt_of_le z4 hb.size⟩)
  replace gb := Below.refl W1.heap.size W1
  go_wp2_with fail
  refine (ref8_fix c _ _ ln' ld' _ (i1.to gb) y rfl Hy).mono ?_
  clear x0_0 y0_0 x0_1 y0_1 x0_2 y0_2 x1_0 y1_0 x1_1 y1_1 x1_2 y1_2 x4_0 y4_0 x4_1 y4_1 x4_2 y4_2
  rintro e w2 ⟨ng2, a2_, n2_, c2_, p2_, m2_, k2_, rfl, g2, hb2⟩
  replace gb := below_step gb hb2
  obtain ⟨x0_0, x0_1, x0_2, x1_0, x1_1, x1_2, x4_0, x4_1, x4_2⟩ := HXW1.out _ gb
  obtain ⟨y0_0, y0_1, y0_2, y1_0, y1_1, y1_2, y4_0, y4_1, y4_2⟩ := HYW1.out _ gb
  obtain ⟨z0, z1, z4⟩ := HZW1.out _ gb
  go_wp2_with fail
  obtain ⟨W2, hW2⟩ : ∃ W2, w2.alloc (.cells #[.bool ng2, .slice a2_ n2_ c2_, .slice p2_ m2_ k2_] 24) = W2 := ⟨_, rfl⟩
  have hb_W2 : Below w2.heap.size w2 W2 := by rw [← hW2]; exact below_new _ _
  have hs_W2 : Hid (W2.heap.size = w2.heap.size + 1) := by show _ = _; rw [← hW2]; simp
  clear x0_0 y0_0 x0_1 y0_1 x0_2 y0_2 x1_0 y1_0 x1_1 y1_1 x1_2 y1_2 x4_0 y4_0 x4_1 y4_1 x4_2 y4_2
  replace g2 := g2.to hb_W2
  replace gb := below_step gb hb_W2
  obtain ⟨x0_0, x0_1, x0_2, x1_0, x1_1, x1_2, x4_0, x4_1, x4_2⟩ := HXW1.out _ gb
  obtain ⟨y0_0, y0_1, y0_2, y1_0, y1_1, y1_2, y4_0, y4_1, y4_2⟩ := HYW1.out _ gb
  obtain ⟨z0, z1, z4⟩ := HZW1.out _ gb
  have x5_0 : W2.cell? ⟨w2.heap.size, 0, none⟩ = some (.bool ng2) := by rw [← hW2]; simp [go_sem]
  have y5_0 : W2.frozen? ⟨w2.heap.size, 0, none⟩ = false := by rw [← hW2]; simp [go_sem]
  have x5_1 : W2.cell? ⟨w2.heap.size, 1, none⟩ = some (.slice a2_ n2_ c2_) := by rw [← hW2]; simp [go_sem]
  have y5_1 : W2.frozen? ⟨w2.heap.size, 1, none⟩ = false := by rw [← hW2]; simp [go_sem]
  have x5_2 : W2.cell? ⟨w2.heap.size, 2, none⟩ = some (.slice p2_ m2_ k2_) := by rw [← hW2]; simp [go_sem]
  have y5_2 : W2.frozen? ⟨w2.heap.size, 2, none⟩ = false := by rw [← hW2]; simp [go_sem]
  have z5 : w2.heap.size < W2.heap.size := by rw [← hW2]; simp
  rw [hW2]
  clear hW2
  replace i0 := i0.to gb
  replace i1 := i1.to gb
  replace g1 := g1.to gb
  replace zb := below_step zb gb
  have HXW2 := Lib.hid (show ∀ W', Below W2.heap.size W2 W' → (W'.cell? ⟨w.heap.size, 0, none⟩ = some (.bool b) ∧ W'.cell? ⟨w.heap.size, 1, none⟩ = some (.slice a0 n0 c0) ∧ W'.cell? ⟨w.heap.size, 2, none⟩ = some (.slice a1 n1 c1) ∧ W'.cell? ⟨w.heap.size + 1, 0, none⟩ = some (.bool c) ∧ W'.cell? ⟨w.heap.size + 1, 1, none⟩ = some (.slice a2 n2 c2) ∧ W'.cell? ⟨w.heap.size + 1, 2, none⟩ = some (.slice a3 n3 c3) ∧ W'.cell? ⟨w1.heap.size, 0, none⟩ = some (.bool ng1) ∧ W'.cell? ⟨w1.heap.size, 1, none⟩ = some (.slice a1_ n1_ c1_) ∧ W'.cell? ⟨w1.heap.size, 2, none⟩ = some (.slice p1_ m1_ k1_) ∧ W'.cell? ⟨w2.heap.size, 0, none⟩ = some (.bool ng2) ∧ W'.cell? ⟨w2.heap.size, 1, none⟩ = some (.slice a2_ n2_ c2_) ∧ W'.cell? ⟨w2.heap.size, 2, none⟩ = some (.slice p2_ m2_ k2_)) from fun W' hb =>
    ⟨(hb.cell (p := ⟨w.heap.size, 0, none⟩) z0).trans x0_0, (hb.cell (p := ⟨w.heap.size, 1, none⟩) z0).trans x0_1, (hb.cell (p := ⟨w.heap.size, 2, none⟩) z0).trans x0_2, (hb.cell (p := ⟨w.heap.size + 1, 0, none⟩) z1).trans x1_0, (hb.cell (p := ⟨w.heap.size + 1, 1, none⟩) z1).trans x1_1, (hb.cell (p := ⟨w.heap.size + 1, 2, none⟩) z1).trans x1_2, (hb.cell (p := ⟨w1.heap.size, 0, none⟩) z4).trans x4_0, (hb.cell (p := ⟨w1.heap.size, 1, none⟩) z4).trans x4_1, (hb.cell (p := ⟨w1.heap.size, 2, none⟩) z4).trans x4_2, (hb.cell (p := ⟨w2.heap.size, 0, none⟩) z5).trans x5_0, (hb.cell (p := ⟨w2.heap.size, 1, none⟩) z5).trans x5_1, (hb.cell (p := ⟨w2.heap.size, 2, none⟩) z5).trans x5_2⟩)
  have HYW2 := Lib.hid (show ∀ W', Below W2.heap.size W2 W' → (W'.frozen? ⟨w.heap.size, 0, none⟩ = false ∧ W'.frozen? ⟨w.heap.size, 1, none⟩ = false ∧ W'.frozen? ⟨w.heap.size, 2, none⟩ = false ∧ W'.frozen? ⟨w.heap.size + 1, 0, none⟩ = false ∧ W'.frozen? ⟨w.heap.size + 1, 1, none⟩ = false ∧ W'.frozen? ⟨w.heap.size + 1, 2, none⟩ = false ∧ W'.frozen? ⟨w1.heap.size, 0, none⟩ = false ∧ W'.frozen? ⟨w1.heap.size, 1, none⟩ = false ∧ W'.frozen? ⟨w1.heap.size, 2, none⟩ = false ∧ W'.frozen? ⟨w2.heap.size, 0, none⟩ = false ∧ W'.frozen? ⟨w2.heap.size, 1, none⟩ = false ∧ W'.frozen? ⟨w2.heap.size, 2, none⟩ = false) from fun W' hb =>
    ⟨(hb.frozen (p := ⟨w.heap.size, 0, none⟩) z0).trans y0_0, (hb.frozen (p := ⟨w.heap.size, 1, none⟩) z0).trans y0_1, (hb.frozen (p := ⟨w.heap.size, 2, none⟩) z0).trans y0_2, (hb.frozen (p := ⟨w.heap.size + 1, 0, none⟩) z1).trans y1_0, (hb.frozen (p := ⟨w.heap.size + 1, 1, none⟩) z1).trans y1_1, (hb.frozen (p := ⟨w.heap.size + 1, 2, none⟩) z1).trans y1_2, (hb.frozen (p := ⟨w1.heap.size, 0, none⟩) z4).trans y4_0, (hb.frozen (p := ⟨w1.heap.size, 1, none⟩) z4).trans y4_1, (hb.frozen (p := ⟨w1.heap.size, 2, none⟩) z4).trans y4_2, (hb.frozen (p := ⟨w2.heap.size, 0, none⟩) z5).trans y5_0, (hb.frozen (p := ⟨w2.heap.size, 1, none⟩) z5).trans y5_1, (hb.frozen (p := ⟨w2.heap.size, 2, none⟩) z5).trans y5_2⟩)
  have HZW2 := Lib.hid (show ∀ W', Below W2.heap.size W2 W' → (w.heap.size < W'.heap.size ∧ w.heap.size + 1 < W'.heap.size ∧ w1.heap.size < W'.heap.size ∧ w2.heap.size < W'.heap.size) from fun W' hb =>
    ⟨Nat.lt_of_lt_of_le z0 hb.size, Nat.lt_of_lt_of_le z1 hb.size, Nat.lt_of_lt_of_le z4 hb.size, Nat.lt_of_lt_of_le z5 hb.size⟩)
  replace gb := Below.refl W2.heap.size W2
  go_wp2_with fail
  go_region_held3 (fun W' => W'.cell? ⟨w.heap.size, 0, none⟩ = some (.bool b) ∧ W'.cell? ⟨w.heap.size, 1, none⟩ = some (.slice a0 n0 c0) ∧ W'.cell? ⟨w.heap.size, 2, none⟩ = some (.slice a1 n1 c1) ∧ W'.cell? ⟨w.heap.size + 1, 0, none⟩ = some (.bool c) ∧ W'.cell? ⟨w.heap.size + 1, 1, none⟩ = some (.slice a2 n2 c2) ∧ W'.cell? ⟨w.heap.size + 1, 2, none⟩ = some (.slice a3 n3 c3) ∧ W'.cell? ⟨w1.heap.size, 0, none⟩ = some (.bool ng1) ∧ W'.cell? ⟨w1.heap.size, 1, none⟩ = some (.slice a1_ n1_ c1_) ∧ W'.cell? ⟨w1.heap.size, 2, none⟩ = some (.slice p1_ m1_ k1_) ∧ W'.cell? ⟨w2.heap.size, 0, none⟩ = some (.bool ng2) ∧ W'.cell? ⟨w2.heap.size, 1, none⟩ = some (.slice a2_ n2_ c2_) ∧ W'.cell? ⟨w2.heap.size, 2, none⟩ = some (.slice p2_ m2_ k2_)) (first | (with_reducible exact ⟨x0_0, x0_1, x0_2, x1_0, x1_1, x1_2, x4_0, x4_1, x4_2, x5_0, x5_1, x5_2⟩) | exact ⟨x0_0, x0_1, x0_2, x1_0, x1_1, x1_2, x4_0, x4_1, x4_2, x5_0, x5_1, x5_2⟩) (first
    | (go_at_call 31; (with_reducible refine (rcmp_z _ g11.isI g12.isI k H9.out).mono ?_); rintro e w13 ⟨rfl, hb13⟩; have g11 := g11.to hb13; have g12 := g12.to hb13; have gb := below_step gb hb13; obtain ⟨x0_0, x0_1, x0_2, x1_0, x1_1, x1_2, x4_0, x4_1, x4_2, x5_0, x5_1, x5_2⟩ := HXW2.out _ gb; obtain ⟨y0_0, y0_1, y0_2, y1_0, y1_1, y1_2, y4_0, y4_1, y4_2, y5_0, y5_1, y5_2⟩ := HYW2.out _ gb; obtain ⟨z0, z1, z4, z5⟩ := HZW2.out _ gb)
    | (go_at_call 32; (with_reducible refine (ref8_over _ _ _ _ _ _ _ (g2.to gb) (g1.to gb) (y.num * (x.den : Int)) rfl S2).mono ?_); rintro e w12 ⟨ng12, a12_, n12_, c12_, rfl, g12, hb12⟩; have g11 := g11.to hb12; have gb := below_step gb hb12; obtain ⟨x0_0, x0_1, x0_2, x1_0, x1_1, x1_2, x4_0, x4_1, x4_2, x5_0, x5_1, x5_2⟩ := HXW2.out _ gb; obtain ⟨y0_0, y0_1, y0_2, y1_0, y1_1, y1_2, y4_0, y4_1, y4_2, y5_0, y5_1, y5_2⟩ := HYW2.out _ gb; obtain ⟨z0, z1, z4, z5⟩ := HZW2.out _ gb)
    | (go_at_call 32; have gb := gb.drew; (with_reducible refine (ref8_over _ _ _ _ _ _ _ (g1.to gb) (g2.to gb) (x.num * (y.den : Int)) rfl S1).mono ?_); rintro e w11 ⟨ng11, a11_, n11_, c11_, rfl, g11, hb11⟩; have gb := below_step gb hb11; obtain ⟨x0_0, x0_1, x0_2, x1_0, x1_1, x1_2, x4_0, x4_1, x4_2, x5_0, x5_1, x5_2⟩ := HXW2.out _ gb; obtain ⟨y0_0, y0_1, y0_2, y1_0, y1_1, y1_2, y4_0, y4_1, y4_2, y5_0, y5_1, y5_2⟩ := HYW2.out _ gb; obtain ⟨z0, z1, z4, z5⟩ := HZW2.out _ gb))
  go_wp2_with fail
  go_ret
  exact ⟨rfl, below_step zb gb⟩

end Go.Proofs.YtmjnlpanlgmdmaaGreat

