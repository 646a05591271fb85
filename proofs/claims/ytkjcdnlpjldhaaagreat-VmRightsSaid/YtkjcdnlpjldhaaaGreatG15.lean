/-
  The texts Rat2, Rat3, Rat4, Ref8, Ref8b, merged.
-/
import Derived.Test.YtkjcdnlpjldhaaaGreatG12
import Derived.Test.YtkjcdnlpjldhaaaGreatG14
import Derived.Deep.RegionHeld3
import Derived.Deep.Cut
import Derived.Deep.DrawnRows
import Derived.Laws.EntriesVeiled
import Derived.Test.YtkjcdnlpjldhaaaGreatG07
import Derived.Test.YtkjcdnlpjldhaaaGreatG05
namespace Go.Proofs.YtkjcdnlpjldhaaaGreat
open Go.RowKit Tw
set_option linter.unusedVariables false
set_option linter.unusedSimpArgs false
attribute [local go_sem ↓] Go.wp_at_zero Go.wp_at_succ

theorem isQ_sz {w : World} {b : Bool} {v u : Value} {ln ld : List Nat} {x : Rat} (h : IsQ w b v u ln ld x) : Hid (szq x ≤ 1000) := by
  show _ ≤ _
  rw [← h.2.2.1]
  refine Nat.le_trans (szq_rat _ _ _) ?_
  have h1 := sz_val h.1.1
  have h2 := sz_val h.2.1.1
  have h3 := h.2.2.2.1
  have h4 := h.2.2.2.2
  omega

theorem over_sz {x y : Rat} (hx : szq x ≤ 1000) (hy : szq y ≤ 1000) : szi (x.num * (y.den : Int)) ≤ 90000 := by
  have h1 := szi_mul x.num (y.den : Int)
  have h2 := szq_num x
  have h3 := szq_den y
  unfold szi at *
  rw [Int.natAbs_natCast] at h1
  omega

theorem sum_sz {x y : Rat} (hx : szq x ≤ 1000) (hy : szq y ≤ 1000) : szi (x.num * (y.den : Int) + y.num * (x.den : Int)) ≤ 2001 := by
  have h0 := szi_add (x.num * (y.den : Int)) (y.num * (x.den : Int))
  have h1 := szi_mul x.num (y.den : Int)
  have h1' := szi_mul y.num (x.den : Int)
  have h2 := szq_num x
  have h3 := szq_den y
  have h2' := szq_num y
  have h3' := szq_den x
  unfold szi at *
  rw [Int.natAbs_natCast] at h1 h1'
  omega

theorem den_sz {x y : Rat} (hx : szq x ≤ 1000) (hy : szq y ≤ 1000) : (limbs (val (limbs x.den) * val (limbs y.den))).length ≤ 3000 := by
  rw [sz_def, val_limbs, val_limbs]
  have h1 := sz_mul x.den y.den
  have h2 := szq_den x
  have h3 := szq_den y
  omega

set_option maxRecDepth 100000 in
set_option maxHeartbeats 4000000 in
theorem ratio_of {x : Rat} (b : Bool) (v u : Value) (ln ld : List Nat) (w : World) (h : IsQ w b v u ln ld x) (hs : Hid (szq x ≤ 1000)) :
    Calls Tryz.prog 142 #[aggR b v u] w (GivesQ w x) := by
  obtain ⟨a0, n0, c0, rfl, H0, hm0⟩ := h.1.open
  obtain ⟨a1, n1, c1, rfl, H1, hm1⟩ := h.2.1.open
  go_enter Tryz.func142, Tryz.ntmps142
  go_wp2_with fail
  obtain ⟨W0, hW0⟩ : ∃ W0, (w.alloc (.cells #[.bool b, .slice a0 n0 c0, .slice a1 n1 c1] 47)).alloc (.cells #[.bool false, .slice none 0 0, .slice none 0 0] 166) = W0 := ⟨_, rfl⟩
  have HXW0 := Lib.hid (show ∀ W', Below W0.heap.size W0 W' → (Bx3 W' w.heap.size (.bool b) (.slice a0 n0 c0) (.slice a1 n1 c1) ∧ Bx3 W' (w.heap.size + 1) (.bool false) (.slice none 0 0) (.slice none 0 0)) from fun W' hb => by
      refine ⟨bx3 hb ?_ ?_ ?_ ?_ ?_ ?_, bx3 hb ?_ ?_ ?_ ?_ ?_ ?_⟩
      all_goals first | assumption | (rw [← hW0]; simp [go_sem]))
  have zb : Below w.heap.size w W0 := by rw [← hW0]; exact below_step (below_new _ _) (below_new _ _)
  rw [hW0]
  clear hW0
  have i0 := h.to zb
  have gb : Below W0.heap.size W0 W0 := Below.refl _ _
  obtain ⟨⟨z0, x0_0, x0_1, x0_2, y0_0, y0_1, y0_2⟩, ⟨z1, x1_0, x1_1, x1_2, y1_0, y1_1, y1_2⟩⟩ := HXW0.out _ gb
  refine (ratio_fix b _ _ ln ld _ (i0.to gb) x rfl hs).mono ?_
  clear x0_0 y0_0 x0_1 y0_1 x0_2 y0_2 x1_0 y1_0 x1_1 y1_1 x1_2 y1_2
  rintro e w1 ⟨ng1, a1_, n1_, c1_, p1_, m1_, k1_, rfl, g1, hb1⟩
  replace gb := below_step gb hb1
  obtain ⟨⟨z0, x0_0, x0_1, x0_2, y0_0, y0_1, y0_2⟩, ⟨z1, x1_0, x1_1, x1_2, y1_0, y1_1, y1_2⟩⟩ := HXW0.out _ gb
  go_wp2_with fail
  refine bodyPost_ret (results_N Tryz.results142 _ _ _ _ _ _ rfl (Tri.set (x0 := .bool false) (y0 := .slice none 0 0) (z0 := .slice none 0 0) ⟨x1_0, x1_1, x1_2, y1_0, y1_1, y1_2⟩ _ _ _)) rfl (finR (below_step zb gb) (by omega) ?_ g1)
  omega

set_option maxRecDepth 100000 in
set_option maxHeartbeats 4000000 in
theorem ratio_mul {x y : Rat} (b : Bool) (v u : Value) (ln ld : List Nat) (c : Bool) (v' u' : Value) (ln' ld' : List Nat) (w : World) (h : IsQ w b v u ln ld x) (h' : IsQ w c v' u' ln' ld' y) (q : Rat) (hq : x * y = q) (hs : Hid (szq q ≤ 1000)) :
    Calls Tryz.prog 119 #[aggR b v u, aggR c v' u'] w (GivesQ w q) := by
  have K1 := Lib.hid (show (limbs (val ln * val ln')).length ≤ 3000 by
    rw [sz_def]; have := sz_mul (val ln) (val ln'); have := sz_val h.1.1; have := sz_val h'.1.1; have := h.2.2.2.1; have := h'.2.2.2.1; omega)
  have K2 := Lib.hid (show (limbs (val ld * val ld')).length ≤ 3000 by
    rw [sz_def]; have := sz_mul (val ld) (val ld'); have := sz_val h.2.1.1; have := sz_val h'.2.1.1; have := h.2.2.2.2; have := h'.2.2.2.2; omega)
  have H9 := Lib.hid (show rat (!b == c) (val (limbs (val ln * val ln'))) (val (limbs (val ld * val ld'))) = q by show rat (b != c) _ _ = q; rw [val_limbs, val_limbs, ← rat_mul, h.2.2.1, h'.2.2.1, hq])
  obtain ⟨a0, n0, c0, rfl, H0, hm0⟩ := h.1.open
  obtain ⟨a1, n1, c1, rfl, H1, hm1⟩ := h.2.1.open
  obtain ⟨a2, n2, c2, rfl, H2, hm2⟩ := h'.1.open
  obtain ⟨a3, n3, c3, rfl, H3, hm3⟩ := h'.2.1.open
  clear hq
  go_enter Tryz.func119, Tryz.ntmps119
  go_wp2_with fail
  obtain ⟨W0, hW0⟩ : ∃ W0, ((w.alloc (.cells #[.bool b, .slice a0 n0 c0, .slice a1 n1 c1] 47)).alloc (.cells #[.bool c, .slice a2 n2 c2, .slice a3 n3 c3] 47)).alloc (.cells #[.bool false, .slice none 0 0, .slice none 0 0] 47) = W0 := ⟨_, rfl⟩
  have HXW0 := Lib.hid (show ∀ W', Below W0.heap.size W0 W' → (Bx3 W' w.heap.size (.bool b) (.slice a0 n0 c0) (.slice a1 n1 c1) ∧ Bx3 W' (w.heap.size + 1) (.bool c) (.slice a2 n2 c2) (.slice a3 n3 c3) ∧ Bx3 W' (w.heap.size + 1 + 1) (.bool false) (.slice none 0 0) (.slice none 0 0)) from fun W' hb => by
      refine ⟨bx3 hb ?_ ?_ ?_ ?_ ?_ ?_, bx3 hb ?_ ?_ ?_ ?_ ?_ ?_, bx3 hb ?_ ?_ ?_ ?_ ?_ ?_⟩
      all_goals first | assumption | (rw [← hW0]; simp [go_sem]))
  have zb : Below w.heap.size w W0 := by rw [← hW0]; exact below_step (below_step (below_new _ _) (below_new _ _)) (below_new _ _)
  rw [hW0]
  clear hW0
  have i0 := h.to zb
  have i1 := h'.to zb
  have gb : Below W0.heap.size W0 W0 := Below.refl _ _
  obtain ⟨⟨z0, x0_0, x0_1, x0_2, y0_0, y0_1, y0_2⟩, ⟨z1, x1_0, x1_1, x1_2, y1_0, y1_1, y1_2⟩, ⟨z2, x2_0, x2_1, x2_2, y2_0, y2_1, y2_2⟩⟩ := HXW0.out _ gb
  have nz0 : w.heap.size ≠ w.heap.size + 1 + 1 := by omega
  have nz1 : w.heap.size + 1 ≠ w.heap.size + 1 + 1 := by omega
  go_region_held3 (fun W' => W'.cell? ⟨w.heap.size, 0, none⟩ = some (.bool b) ∧ W'.cell? ⟨w.heap.size, 1, none⟩ = some (.slice a0 n0 c0) ∧ W'.cell? ⟨w.heap.size, 2, none⟩ = some (.slice a1 n1 c1) ∧ W'.cell? ⟨w.heap.size + 1, 0, none⟩ = some (.bool c) ∧ W'.cell? ⟨w.heap.size + 1, 1, none⟩ = some (.slice a2 n2 c2) ∧ W'.cell? ⟨w.heap.size + 1, 2, none⟩ = some (.slice a3 n3 c3)) (first | (with_reducible exact ⟨x0_0, x0_1, x0_2, x1_0, x1_1, x1_2⟩) | (with_reducible exact ⟨cell_put (cell_put (cell_put (x0_0) (.inl nz0) _) (.inl nz0) _) (.inl nz0) _, cell_put (cell_put (cell_put (x0_1) (.inl nz0) _) (.inl nz0) _) (.inl nz0) _, cell_put (cell_put (cell_put (x0_2) (.inl nz0) _) (.inl nz0) _) (.inl nz0) _, cell_put (cell_put (cell_put (x1_0) (.inl nz1) _) (.inl nz1) _) (.inl nz1) _, cell_put (cell_put (cell_put (x1_1) (.inl nz1) _) (.inl nz1) _) (.inl nz1) _, cell_put (cell_put (cell_put (x1_2) (.inl nz1) _) (.inl nz1) _) (.inl nz1) _⟩) | exact ⟨x0_0, x0_1, x0_2, x1_0, x1_1, x1_2⟩) (first
    | (go_at_call 62; (with_reducible refine (ratio_lowest (!b == c) _ _ _ _ _ g1.rd g2.rd K1.out K2.out q H9.out hs).mono ?_); rintro e w3 ⟨ng3, a3_, n3_, c3_, p3_, m3_, k3_, rfl, g3, hb3⟩; have g1 := g1.to hb3; have g2 := g2.to hb3; have gb := below_step gb hb3; obtain ⟨⟨z0, x0_0, x0_1, x0_2, y0_0, y0_1, y0_2⟩, ⟨z1, x1_0, x1_1, x1_2, y1_0, y1_1, y1_2⟩, ⟨z2, x2_0, x2_1, x2_2, y2_0, y2_1, y2_2⟩⟩ := HXW0.out _ gb)
    | (go_at_call 147; (with_reducible refine (times_mul _ _ ld ld' _ (i0.to gb).dn (i1.to gb).dn (Nat.le_trans h.ldn (by omega)) (Nat.le_trans h'.ldn (by omega))).mono ?_); rintro e w2 ⟨v2, rfl, g2, hb2⟩; obtain ⟨a2_, n2_, c2_, rfl, H2, hm2⟩ := g2.rd.open; have g1 := g1.to hb2; have gb := below_step gb hb2; obtain ⟨⟨z0, x0_0, x0_1, x0_2, y0_0, y0_1, y0_2⟩, ⟨z1, x1_0, x1_1, x1_2, y1_0, y1_1, y1_2⟩, ⟨z2, x2_0, x2_1, x2_2, y2_0, y2_1, y2_2⟩⟩ := HXW0.out _ gb)
    | (go_at_call 147; have gb := gb.drew; (with_reducible refine (times_mul _ _ ln ln' _ (i0.to gb).up (i1.to gb).up (Nat.le_trans h.lup (by omega)) (Nat.le_trans h'.lup (by omega))).mono ?_); rintro e w1 ⟨v1, rfl, g1, hb1⟩; obtain ⟨a1_, n1_, c1_, rfl, H1, hm1⟩ := g1.rd.open; have gb := below_step gb hb1; obtain ⟨⟨z0, x0_0, x0_1, x0_2, y0_0, y0_1, y0_2⟩, ⟨z1, x1_0, x1_1, x1_2, y1_0, y1_1, y1_2⟩, ⟨z2, x2_0, x2_1, x2_2, y2_0, y2_1, y2_2⟩⟩ := HXW0.out _ gb))
  go_wp2_with fail
  refine bodyPost_ret (results_R Tryz.results119 _ _ _ _ _ _ rfl (Tri.set (x0 := .bool false) (y0 := .slice none 0 0) (z0 := .slice none 0 0) ⟨x2_0, x2_1, x2_2, y2_0, y2_1, y2_2⟩ _ _ _)) rfl (finR (below_step zb gb) (by omega) ?_ g3)
  omega

end Go.Proofs.YtkjcdnlpjldhaaaGreat


namespace Go.Proofs.YtkjcdnlpjldhaaaGreat
open Go.RowKit Tw
set_option linter.unusedVariables false
set_option linter.unusedSimpArgs false
attribute [local go_sem ↓] Go.wp_at_zero Go.wp_at_succ

set_option maxRecDepth 100000 in
set_option maxHeartbeats 40000000 in
theorem ratio_add {x y : Rat} (b : Bool) (v u : Value) (ln ld : List Nat) (c : Bool) (v' u' : Value) (ln' ld' : List Nat) (w : World) (h : IsQ w b v u ln ld x) (h' : IsQ w c v' u' ln' ld' y) (q : Rat) (hq : x + y = q) (hs : Hid (szq q ≤ 1000)) :
    Calls Tryz.prog 117 #[aggR b v u, aggR c v' u'] w (GivesQ w q) := by
  have Hx : Hid (szq x ≤ 1000) := isQ_sz h
  have Hy : Hid (szq y ≤ 1000) := isQ_sz h'
  have S1 := Lib.hid (show szi (x.num * (y.den : Int)) ≤ 90000 from over_sz Hx.out Hy.out)
  have S2 := Lib.hid (show szi (y.num * (x.den : Int)) ≤ 90000 from over_sz Hy.out Hx.out)
  have S3 := Lib.hid (show szi (x.num * (y.den : Int) + y.num * (x.den : Int)) ≤ 2001 from sum_sz Hx.out Hy.out)
  have S4 := Lib.hid (show szi (x.num * (y.den : Int) + y.num * (x.den : Int)) ≤ 90000 from Nat.le_trans S3.out (by omega))
  have K2 := Lib.hid (show (limbs (val (limbs x.den) * val (limbs y.den))).length ≤ 3000 from den_sz Hx.out Hy.out)
  have H9 := Lib.hid (show ∀ ng, decide (x.num * (y.den : Int) + y.num * (x.den : Int) < 0) = ng → rat ng (val (limbs (x.num * (y.den : Int) + y.num * (x.den : Int)).natAbs)) (val (limbs (val (limbs x.den) * val (limbs y.den)))) = q from fun ng e => by
    rw [← e, val_limbs, val_limbs, val_limbs, val_limbs, ← mkRat_sgn, ← Rat.add_def', hq])
  obtain ⟨a0, n0, c0, rfl, H0, hm0⟩ := h.1.open
  obtain ⟨a1, n1, c1, rfl, H1, hm1⟩ := h.2.1.open
  obtain ⟨a2, n2, c2, rfl, H2, hm2⟩ := h'.1.open
  obtain ⟨a3, n3, c3, rfl, H3, hm3⟩ := h'.2.1.open
  clear hq
  go_enter Tryz.func117, Tryz.ntmps117
  go_wp2_with fail
  obtain ⟨W0, hW0⟩ : ∃ W0, ((w.alloc (.cells #[.bool b, .slice a0 n0 c0, .slice a1 n1 c1] 47)).alloc (.cells #[.bool c, .slice a2 n2 c2, .slice a3 n3 c3] 47)).alloc (.cells #[.bool false, .slice none 0 0, .slice none 0 0] 47) = W0 := ⟨_, rfl⟩
  have HXW0 := Lib.hid (show ∀ W', Below W0.heap.size W0 W' → (W'.cell? ⟨w.heap.size, 0, none⟩ = some (.bool b) ∧ W'.cell? ⟨w.heap.size, 1, none⟩ = some (.slice a0 n0 c0) ∧ W'.cell? ⟨w.heap.size, 2, none⟩ = some (.slice a1 n1 c1) ∧ W'.cell? ⟨w.heap.size + 1, 0, none⟩ = some (.bool c) ∧ W'.cell? ⟨w.heap.size + 1, 1, none⟩ = some (.slice a2 n2 c2) ∧ W'.cell? ⟨w.heap.size + 1, 2, none⟩ = some (.slice a3 n3 c3) ∧ W'.cell? ⟨w.heap.size + 1 + 1, 0, none⟩ = some (.bool false) ∧ W'.cell? ⟨w.heap.size + 1 + 1, 1, none⟩ = some (.slice none 0 0) ∧ W'.cell? ⟨w.heap.size + 1 + 1, 2, none⟩ = some (.slice none 0 0)) from fun W' hb =>
    by and_intros <;> exact kc hb (by first | assumption | (rw [← hW0]; simp [go_sem])))
  have HYW0 := Lib.hid (show ∀ W', Below W0.heap.size W0 W' → (W'.frozen? ⟨w.heap.size, 0, none⟩ = false ∧ W'.frozen? ⟨w.heap.size, 1, none⟩ = false ∧ W'.frozen? ⟨w.heap.size, 2, none⟩ = false ∧ W'.frozen? ⟨w.heap.size + 1, 0, none⟩ = false ∧ W'.frozen? ⟨w.heap.size + 1, 1, none⟩ = false ∧ W'.frozen? ⟨w.heap.size + 1, 2, none⟩ = false ∧ W'.frozen? ⟨w.heap.size + 1 + 1, 0, none⟩ = false ∧ W'.frozen? ⟨w.heap.size + 1 + 1, 1, none⟩ = false ∧ W'.frozen? ⟨w.heap.size + 1 + 1, 2, none⟩ = false) from fun W' hb =>
    ⟨(hb.frozen (p := ⟨w.heap.size, 0, none⟩) (by rw [← hW0]; simp <;> omega)).trans (by rw [← hW0]; simp [go_sem]), (hb.frozen (p := ⟨w.heap.size, 1, none⟩) (by rw [← hW0]; simp <;> omega)).trans (by rw [← hW0]; simp [go_sem]), (hb.frozen (p := ⟨w.heap.size, 2, none⟩) (by rw [← hW0]; simp <;> omega)).trans (by rw [← hW0]; simp [go_sem]), (hb.frozen (p := ⟨w.heap.size + 1, 0, none⟩) (by rw [← hW0]; simp <;> omega)).trans (by rw [← hW0]; simp [go_sem]), (hb.frozen (p := ⟨w.heap.size + 1, 1, none⟩) (by rw [← hW0]; simp <;> omega)).trans (by rw [← hW0]; simp [go_sem]), (hb.frozen (p := ⟨w.heap.size + 1, 2, none⟩) (by rw [← hW0]; simp <;> omega)).trans (by rw [← hW0]; simp [go_sem]), (hb.frozen (p := ⟨w.heap.size + 1 + 1, 0, none⟩) (by rw [← hW0]; simp <;> omega)).trans (by rw [← hW0]; simp [go_sem]), (hb.frozen (p := ⟨w.heap.size + 1 + 1, 1, none⟩) (by rw [← hW0]; simp <;> omega)).trans (by rw [← hW0]; simp [go_sem]), (hb.frozen (p := ⟨w.heap.size + 1 + 1, 2, none⟩) (by rw [← hW0]; simp <;> omega)).trans (by rw [← hW0]; simp [go_sem])⟩)
  have HZW0 := Lib.hid (show ∀ W', Below W0.heap.size W0 W' → (w.heap.size < W'.heap.size ∧ w.heap.size + 1 < W'.heap.size ∧ w.heap.size + 1 + 1 < W'.heap.size) from fun W' hb =>
    ⟨Nat.lt_of_lt_of_le (by rw [← hW0]; simp <;> omega) hb.size, Nat.lt_of_lt_of_le (by rw [← hW0]; simp <;> omega) hb.size, Nat.lt_of_lt_of_le (by rw [← hW0]; simp <;> omega) hb.size⟩)
  have zb : Below w.heap.size w W0 := by rw [← hW0]; exact below_step (below_step (below_new _ _) (below_new _ _)) (below_new _ _)
  rw [hW0]
  clear hW0
  have i0 := h.to zb
  have i1 := h'.to zb
  have gb : Below W0.heap.size W0 W0 := Below.refl _ _
  obtain ⟨x0_0, x0_1, x0_2, x1_0, x1_1, x1_2, x2_0, x2_1, x2_2⟩ := HXW0.out _ gb
  obtain ⟨y0_0, y0_1, y0_2, y1_0, y1_1, y1_2, y2_0, y2_1, y2_2⟩ := HYW0.out _ gb
  obtain ⟨z0, z1, z2⟩ := HZW0.out _ gb
  have hgb := gb
  go_upto_region 1 with fail
  go_cut [5, 6] from 8 (fun s5 s6 wx => BoxQ W0 (x) s5 wx ∧ BoxQ W0 (y) s6 wx)
  case first =>
    go_region_held3 (fun W' => W'.cell? ⟨w.heap.size, 0, none⟩ = some (.bool b) ∧ W'.cell? ⟨w.heap.size, 1, none⟩ = some (.slice a0 n0 c0) ∧ W'.cell? ⟨w.heap.size, 2, none⟩ = some (.slice a1 n1 c1) ∧ W'.cell? ⟨w.heap.size + 1, 0, none⟩ = some (.bool c) ∧ W'.cell? ⟨w.heap.size + 1, 1, none⟩ = some (.slice a2 n2 c2) ∧ W'.cell? ⟨w.heap.size + 1, 2, none⟩ = some (.slice a3 n3 c3) ∧ W'.cell? ⟨w.heap.size + 1 + 1, 0, none⟩ = some (.bool false) ∧ W'.cell? ⟨w.heap.size + 1 + 1, 1, none⟩ = some (.slice none 0 0) ∧ W'.cell? ⟨w.heap.size + 1 + 1, 2, none⟩ = some (.slice none 0 0)) (first | (with_reducible exact HXW0.out _ gb) | ((with_reducible refine HXW0.out _ ?_); first | ((with_reducible refine Below.drew ?_); first | (with_reducible exact gb) | ((with_reducible refine below_set3 ?_ ?_ _ _ _); rotate_left; (first | (with_reducible exact et1_R_0) | (with_reducible exact et1_R_1) | (with_reducible exact et2_R_0) | (with_reducible exact et2_R_1)); first | (with_reducible exact gb) | ((with_reducible refine below_set3 ?_ ?_ _ _ _); rotate_left; (first | (with_reducible exact et1_R_0) | (with_reducible exact et1_R_1) | (with_reducible exact et2_R_0) | (with_reducible exact et2_R_1)); with_reducible exact gb) | ((with_reducible refine below_step ?_ (below_new _ _)); with_reducible exact gb)) | ((with_reducible refine below_step ?_ (below_new _ _)); first | (with_reducible exact gb) | ((with_reducible refine below_set3 ?_ ?_ _ _ _); rotate_left; (first | (with_reducible exact et1_R_0) | (with_reducible exact et1_R_1) | (with_reducible exact et2_R_0) | (with_reducible exact et2_R_1)); with_reducible exact gb) | ((with_reducible refine below_step ?_ (below_new _ _)); with_reducible exact gb))) | (first | (with_reducible exact gb) | ((with_reducible refine below_set3 ?_ ?_ _ _ _); rotate_left; (first | (with_reducible exact et1_R_0) | (with_reducible exact et1_R_1) | (with_reducible exact et2_R_0) | (with_reducible exact et2_R_1)); first | (with_reducible exact gb) | ((with_reducible refine below_set3 ?_ ?_ _ _ _); rotate_left; (first | (with_reducible exact et1_R_0) | (with_reducible exact et1_R_1) | (with_reducible exact et2_R_0) | (with_reducible exact et2_R_1)); first | (with_reducible exact gb) | ((with_reducible refine below_set3 ?_ ?_ _ _ _); rotate_left; (first | (with_reducible exact et1_R_0) | (with_reducible exact et1_R_1) | (with_reducible exact et2_R_0) | (with_reducible exact et2_R_1)); first | (with_reducible exact gb) | ((with_reducible refine below_set3 ?_ ?_ _ _ _); rotate_left; (first | (with_reducible exact et1_R_0) | (with_reducible exact et1_R_1) | (with_reducible exact et2_R_0) | (with_reducible exact et2_R_1)); with_reducible exact gb) | ((with_reducible refine below_step ?_ (below_new _ _)); with_reducible exact gb)) | ((with_reducible refine below_step ?_ (below_new _ _)); first | (with_reducible exact gb) | ((with_reducible refine below_set3 ?_ ?_ _ _ _); rotate_left; (first | (with_reducible exact et1_R_0) | (with_reducible exact et1_R_1) | (with_reducible exact et2_R_0) | (with_reducible exact et2_R_1)); with_reducible exact gb) | ((with_reducible refine below_step ?_ (below_new _ _)); with_reducible exact gb))) | ((with_reducible refine below_step ?_ (below_new _ _)); first | (with_reducible exact gb) | ((with_reducible refine below_set3 ?_ ?_ _ _ _); rotate_left; (first | (with_reducible exact et1_R_0) | (with_reducible exact et1_R_1) | (with_reducible exact et2_R_0) | (with_reducible exact et2_R_1)); first | (with_reducible exact gb) | ((with_reducible refine below_set3 ?_ ?_ _ _ _); rotate_left; (first | (with_reducible exact et1_R_0) | (with_reducible exact et1_R_1) | (with_reducible exact et2_R_0) | (with_reducible exact et2_R_1)); with_reducible exact gb) | ((with_reducible refine below_step ?_ (below_new _ _)); with_reducible exact gb)) | ((with_reducible refine below_step ?_ (below_new _ _)); first | (with_reducible exact gb) | ((with_reducible refine below_set3 ?_ ?_ _ _ _); rotate_left; (first | (with_reducible exact et1_R_0) | (with_reducible exact et1_R_1) | (with_reducible exact et2_R_0) | (with_reducible exact et2_R_1)); with_reducible exact gb) | ((with_reducible refine below_step ?_ (below_new _ _)); with_reducible exact gb)))) | ((with_reducible refine below_step ?_ (below_new _ _)); first | (with_reducible exact gb) | ((with_reducible refine below_set3 ?_ ?_ _ _ _); rotate_left; (first | (with_reducible exact et1_R_0) | (with_reducible exact et1_R_1) | (with_reducible exact et2_R_0) | (with_reducible exact et2_R_1)); first | (with_reducible exact gb) | ((with_reducible refine below_set3 ?_ ?_ _ _ _); rotate_left; (first | (with_reducible exact et1_R_0) | (with_reducible exact et1_R_1) | (with_reducible exact et2_R_0) | (with_reducible exact et2_R_1)); first | (with_reducible exact gb) | ((with_reducible refine below_set3 ?_ ?_ _ _ _); rotate_left; (first | (with_reducible exact et1_R_0) | (with_reducible exact et1_R_1) | (with_reducible exact et2_R_0) | (with_reducible exact et2_R_1)); with_reducible exact gb) | ((with_reducible refine below_step ?_ (below_new _ _)); with_reducible exact gb)) | ((with_reducible refine below_step ?_ (below_new _ _)); first | (with_reducible exact gb) | ((with_reducible refine below_set3 ?_ ?_ _ _ _); rotate_left; (first | (with_reducible exact et1_R_0) | (with_reducible exact et1_R_1) | (with_reducible exact et2_R_0) | (with_reducible exact et2_R_1)); with_reducible exact gb) | ((with_reducible refine below_step ?_ (below_new _ _)); with_reducible exact gb))) | ((with_reducible refine below_step ?_ (below_new _ _)); first | (with_reducible exact gb) | ((with_reducible refine below_set3 ?_ ?_ _ _ _); rotate_left; (first | (with_reducible exact et1_R_0) | (with_reducible exact et1_R_1) | (with_reducible exact et2_R_0) | (with_reducible exact et2_R_1)); first | (with_reducible exact gb) | ((with_reducible refine below_set3 ?_ ?_ _ _ _); rotate_left; (first | (with_reducible exact et1_R_0) | (with_reducible exact et1_R_1) | (with_reducible exact et2_R_0) | (with_reducible exact et2_R_1)); with_reducible exact gb) | ((with_reducible refine below_step ?_ (below_new _ _)); with_reducible exact gb)) | ((with_reducible refine below_step ?_ (below_new _ _)); first | (with_reducible exact gb) | ((with_reducible refine below_set3 ?_ ?_ _ _ _); rotate_left; (first | (with_reducible exact et1_R_0) | (with_reducible exact et1_R_1) | (with_reducible exact et2_R_0) | (with_reducible exact et2_R_1)); with_reducible exact gb) | ((with_reducible refine below_step ?_ (below_new _ _)); with_reducible exact gb))))))) (first
      | (go_at_call 142; (refine calls_gen w1 (by first | with_reducible exact Below.refl _ _ | with_reducible exact below_new _ _ | with_reducible exact below_step (below_new _ _) (below_new _ _)) ?_); intro V2 hV2 hbV2; have hsV2 := hbV2.size; have hu2 := gb.size; have g1 := g1.to hbV2; have gb := below_step gb hbV2; (try have t1_R_0 := t1_R_0.to hbV2); (try have t1_R_1 := t1_R_1.to hbV2); (try have t2_R_0 : Tri V2 (w1.heap.size) (.bool false) (.slice none 0 0) (.slice none 0 0) := (by rw [hV2]; first | with_reducible exact tri_new _ (.bool false) (.slice none 0 0) (.slice none 0 0) _ | with_reducible exact (tri_new _ (.bool false) (.slice none 0 0) (.slice none 0 0) _).alloc _)); have et2_R_0 : W0.heap.size ≤ w1.heap.size := (hu2); have get2_R_0_1 : w1.heap.size ≤ w1.heap.size := (Nat.le_refl _); (try have t2_R_1 : Tri V2 (w1.heap.size + 1) (.bool false) (.slice none 0 0) (.slice none 0 0) := (by rw [hV2]; first | with_reducible exact tri_new1 _ _ (.bool false) (.slice none 0 0) (.slice none 0 0) _)); have et2_R_1 : W0.heap.size ≤ w1.heap.size + 1 := (Nat.le_succ_of_le hu2); have get2_R_1_1 : w1.heap.size ≤ w1.heap.size + 1 := (Nat.le_succ _); (try have vt1_R_0_2 := t1_R_0.lt); (try have vt1_R_1_2 := t1_R_1.lt); (try have vt2_R_0_2 := t2_R_0.lt); (try have vt2_R_1_2 := t2_R_1.lt); (with_reducible refine (ratio_of c _ _ ln' ld' _ (i1.to gb) Hy).mono ?_); rintro e w2 ⟨ng2, a2_, n2_, c2_, p2_, m2_, k2_, rfl, g2, hb2⟩; have g1 := g1.to hb2; have gb := below_step gb hb2; have hs2 := hb2.size; (try have t1_R_0 := t1_R_0.to hb2); (try have t1_R_1 := t1_R_1.to hb2); (try have t2_R_0 := t2_R_0.to hb2); (try have t2_R_1 := t2_R_1.to hb2); (try have lt1_R_0_2 := t1_R_0.lt); (try have lt1_R_1_2 := t1_R_1.lt); (try have lt2_R_0_2 := t2_R_0.lt); (try have lt2_R_1_2 := t2_R_1.lt); (try (have qt1_R_0 := t1_R_0; obtain ⟨rt1_R_00, rt1_R_01, rt1_R_02, st1_R_00, st1_R_01, st1_R_02⟩ := qt1_R_0)); (try (have qt1_R_1 := t1_R_1; obtain ⟨rt1_R_10, rt1_R_11, rt1_R_12, st1_R_10, st1_R_11, st1_R_12⟩ := qt1_R_1)); (try (have qt2_R_0 := t2_R_0; obtain ⟨rt2_R_00, rt2_R_01, rt2_R_02, st2_R_00, st2_R_01, st2_R_02⟩ := qt2_R_0)); (try (have qt2_R_1 := t2_R_1; obtain ⟨rt2_R_10, rt2_R_11, rt2_R_12, st2_R_10, st2_R_11, st2_R_12⟩ := qt2_R_1)))
      | (go_at_call 142; (refine calls_gen W0 (by first | with_reducible exact (Below.refl _ _).drew | with_reducible exact (below_new _ _).drew | with_reducible exact (below_step (below_new _ _) (below_new _ _)).drew) ?_); intro V1 hV1 hbV1; have hsV1 := hbV1.size; have hu1 := gb.size; have gb := below_step gb hbV1; (try have t1_R_0 : Tri V1 (W0.heap.size) (.bool false) (.slice none 0 0) (.slice none 0 0) := (by rw [hV1]; first | with_reducible exact (tri_new _ (.bool false) (.slice none 0 0) (.slice none 0 0) _).drew | with_reducible exact ((tri_new _ (.bool false) (.slice none 0 0) (.slice none 0 0) _).alloc _).drew)); have et1_R_0 : W0.heap.size ≤ W0.heap.size := (hu1); (try have t1_R_1 : Tri V1 (W0.heap.size + 1) (.bool false) (.slice none 0 0) (.slice none 0 0) := (by rw [hV1]; first | with_reducible exact (tri_new1 _ _ (.bool false) (.slice none 0 0) (.slice none 0 0) _).drew)); have et1_R_1 : W0.heap.size ≤ W0.heap.size + 1 := (Nat.le_succ_of_le hu1); (try have vt1_R_0_1 := t1_R_0.lt); (try have vt1_R_1_1 := t1_R_1.lt); (with_reducible refine (ratio_of b _ _ ln ld _ (i0.to gb) Hx).mono ?_); rintro e w1 ⟨ng1, a1_, n1_, c1_, p1_, m1_, k1_, rfl, g1, hb1⟩; have gb := below_step gb hb1; have hs1 := hb1.size; (try have t1_R_0 := t1_R_0.to hb1); (try have t1_R_1 := t1_R_1.to hb1); (try have lt1_R_0_1 := t1_R_0.lt); (try have lt1_R_1_1 := t1_R_1.lt); (try (have qt1_R_0 := t1_R_0; obtain ⟨rt1_R_00, rt1_R_01, rt1_R_02, st1_R_00, st1_R_01, st1_R_02⟩ := qt1_R_0)); (try (have qt1_R_1 := t1_R_1; obtain ⟨rt1_R_10, rt1_R_11, rt1_R_12, st1_R_10, st1_R_11, st1_R_12⟩ := qt1_R_1))))
    all_goals (go_wp2_with fail; go_meet)
    all_goals first
      | (with_reducible exact boxQ2_old t1_R_0 t1_R_1 (Nat.ne_of_lt (Nat.lt_succ_self _)) g1 g2 (.inl vt1_R_0_1) (.inl vt1_R_1_1) (.inl vt1_R_0_2) (.inl vt1_R_1_2) gb et1_R_0 et1_R_1)
      | (with_reducible exact boxQ2_old t1_R_0 t2_R_0 (Nat.ne_of_lt lt1_R_0_1) g1 g2 (.inl vt1_R_0_1) (.inr get2_R_0_1) (.inl vt1_R_0_2) (.inl vt2_R_0_2) gb et1_R_0 et2_R_0)
      | (with_reducible exact boxQ2_old t1_R_0 t2_R_1 (Nat.ne_of_lt (Nat.lt_succ_of_lt lt1_R_0_1)) g1 g2 (.inl vt1_R_0_1) (.inr get2_R_1_1) (.inl vt1_R_0_2) (.inl vt2_R_1_2) gb et1_R_0 et2_R_1)
      | (with_reducible exact boxQ2_old t1_R_1 t1_R_0 ((Nat.ne_of_lt (Nat.lt_succ_self _)).symm) g1 g2 (.inl vt1_R_1_1) (.inl vt1_R_0_1) (.inl vt1_R_1_2) (.inl vt1_R_0_2) gb et1_R_1 et1_R_0)
      | (with_reducible exact boxQ2_old t1_R_1 t2_R_0 (Nat.ne_of_lt lt1_R_1_1) g1 g2 (.inl vt1_R_1_1) (.inr get2_R_0_1) (.inl vt1_R_1_2) (.inl vt2_R_0_2) gb et1_R_1 et2_R_0)
      | (with_reducible exact boxQ2_old t1_R_1 t2_R_1 (Nat.ne_of_lt (Nat.lt_succ_of_lt lt1_R_1_1)) g1 g2 (.inl vt1_R_1_1) (.inr get2_R_1_1) (.inl vt1_R_1_2) (.inl vt2_R_1_2) gb et1_R_1 et2_R_1)
      | (with_reducible exact boxQ2_old t2_R_0 t1_R_0 ((Nat.ne_of_lt lt1_R_0_1).symm) g1 g2 (.inr get2_R_0_1) (.inl vt1_R_0_1) (.inl vt2_R_0_2) (.inl vt1_R_0_2) gb et2_R_0 et1_R_0)
      | (with_reducible exact boxQ2_old t2_R_0 t1_R_1 ((Nat.ne_of_lt lt1_R_1_1).symm) g1 g2 (.inr get2_R_0_1) (.inl vt1_R_1_1) (.inl vt2_R_0_2) (.inl vt1_R_1_2) gb et2_R_0 et1_R_1)
      | (with_reducible exact boxQ2_old t2_R_0 t2_R_1 (Nat.ne_of_lt (Nat.lt_succ_self _)) g1 g2 (.inr get2_R_0_1) (.inr get2_R_1_1) (.inl vt2_R_0_2) (.inl vt2_R_1_2) gb et2_R_0 et2_R_1)
      | (with_reducible exact boxQ2_old t2_R_1 t1_R_0 ((Nat.ne_of_lt (Nat.lt_succ_of_lt lt1_R_0_1)).symm) g1 g2 (.inr get2_R_1_1) (.inl vt1_R_0_1) (.inl vt2_R_1_2) (.inl vt1_R_0_2) gb et2_R_1 et1_R_0)
      | (with_reducible exact boxQ2_old t2_R_1 t1_R_1 ((Nat.ne_of_lt (Nat.lt_succ_of_lt lt1_R_1_1)).symm) g1 g2 (.inr get2_R_1_1) (.inl vt1_R_1_1) (.inl vt2_R_1_2) (.inl vt1_R_1_2) gb et2_R_1 et1_R_1)
      | (with_reducible exact boxQ2_old t2_R_1 t2_R_0 ((Nat.ne_of_lt (Nat.lt_succ_self _)).symm) g1 g2 (.inr get2_R_1_1) (.inr get2_R_0_1) (.inl vt2_R_1_2) (.inl vt2_R_0_2) gb et2_R_1 et2_R_0)
      | (with_reducible exact boxQ2_one t1_R_0 g1 g2 (.inl vt1_R_0_1) (.inl vt1_R_0_2) gb et1_R_0)
      | (with_reducible exact (boxQ2_one t1_R_0 g2 g1 (.inl vt1_R_0_2) (.inl vt1_R_0_1) gb et1_R_0).symm)
      | (with_reducible exact boxQ2_one t1_R_1 g1 g2 (.inl vt1_R_1_1) (.inl vt1_R_1_2) gb et1_R_1)
      | (with_reducible exact (boxQ2_one t1_R_1 g2 g1 (.inl vt1_R_1_2) (.inl vt1_R_1_1) gb et1_R_1).symm)
      | (with_reducible exact boxQ2_one t2_R_0 g1 g2 (.inr get2_R_0_1) (.inl vt2_R_0_2) gb et2_R_0)
      | (with_reducible exact (boxQ2_one t2_R_0 g2 g1 (.inl vt2_R_0_2) (.inr get2_R_0_1) gb et2_R_0).symm)
      | (with_reducible exact boxQ2_one t2_R_1 g1 g2 (.inr get2_R_1_1) (.inl vt2_R_1_2) gb et2_R_1)
      | (with_reducible exact (boxQ2_one t2_R_1 g2 g1 (.inl vt2_R_1_2) (.inr get2_R_1_1) gb et2_R_1).symm)
      | (with_reducible exact boxQ2_new g1 g2 gb)
      | (with_reducible exact (boxQ2_new g2 g1 gb).symm)
  case rest =>
  obtain ⟨⟨B5, ng1, a1_, n1_, c1_, p1_, m1_, k1_, lo5, hi5, rfl, hB5, T5, g1, hc5⟩, ⟨B6, ng2, a2_, n2_, c2_, p2_, m2_, k2_, lo6, hi6, rfl, hB6, T6, g2, hc6⟩⟩ := hcut
  clear x0_0 y0_0 x0_1 y0_1 x0_2 y0_2 x1_0 y1_0 x1_1 y1_1 x1_2 y1_2 x2_0 y2_0 x2_1 y2_1 x2_2 y2_2
  have gb := hc5
  obtain ⟨x0_0, x0_1, x0_2, x1_0, x1_1, x1_2, x2_0, x2_1, x2_2⟩ := HXW0.out _ gb
  obtain ⟨y0_0, y0_1, y0_2, y1_0, y1_1, y1_2, y2_0, y2_1, y2_2⟩ := HYW0.out _ gb
  obtain ⟨z0, z1, z2⟩ := HZW0.out _ gb
  have z5 := T5.lt
  obtain ⟨x5_0, x5_1, x5_2, y5_0, y5_1, y5_2⟩ := T5
  have z6 := T6.lt
  obtain ⟨x6_0, x6_1, x6_2, y6_0, y6_1, y6_2⟩ := T6
  clear hgb
  obtain ⟨W1, hW1⟩ : ∃ W, wc = W := ⟨_, rfl⟩
  subst hW1
  replace i0 := i0.to gb
  replace i1 := i1.to gb
  replace zb := below_step zb gb
  have HXwc := Lib.hid (show ∀ W', Below wc.heap.size wc W' → (W'.cell? ⟨w.heap.size, 0, none⟩ = some (.bool b) ∧ W'.cell? ⟨w.heap.size, 1, none⟩ = some (.slice a0 n0 c0) ∧ W'.cell? ⟨w.heap.size, 2, none⟩ = some (.slice a1 n1 c1) ∧ W'.cell? ⟨w.heap.size + 1, 0, none⟩ = some (.bool c) ∧ W'.cell? ⟨w.heap.size + 1, 1, none⟩ = some (.slice a2 n2 c2) ∧ W'.cell? ⟨w.heap.size + 1, 2, none⟩ = some (.slice a3 n3 c3) ∧ W'.cell? ⟨w.heap.size + 1 + 1, 0, none⟩ = some (.bool false) ∧ W'.cell? ⟨w.heap.size + 1 + 1, 1, none⟩ = some (.slice none 0 0) ∧ W'.cell? ⟨w.heap.size + 1 + 1, 2, none⟩ = some (.slice none 0 0) ∧ W'.cell? ⟨B5, 0, none⟩ = some (.bool ng1) ∧ W'.cell? ⟨B5, 1, none⟩ = some (.slice a1_ n1_ c1_) ∧ W'.cell? ⟨B5, 2, none⟩ = some (.slice p1_ m1_ k1_) ∧ W'.cell? ⟨B6, 0, none⟩ = some (.bool ng2) ∧ W'.cell? ⟨B6, 1, none⟩ = some (.slice a2_ n2_ c2_) ∧ W'.cell? ⟨B6, 2, none⟩ = some (.slice p2_ m2_ k2_)) from fun W' hb =>
    by and_intros <;> exact kc hb (by first | assumption | assumption))
  have HYwc := Lib.hid (show ∀ W', Below wc.heap.size wc W' → (W'.frozen? ⟨w.heap.size, 0, none⟩ = false ∧ W'.frozen? ⟨w.heap.size, 1, none⟩ = false ∧ W'.frozen? ⟨w.heap.size, 2, none⟩ = false ∧ W'.frozen? ⟨w.heap.size + 1, 0, none⟩ = false ∧ W'.frozen? ⟨w.heap.size + 1, 1, none⟩ = false ∧ W'.frozen? ⟨w.heap.size + 1, 2, none⟩ = false ∧ W'.frozen? ⟨w.heap.size + 1 + 1, 0, none⟩ = false ∧ W'.frozen? ⟨w.heap.size + 1 + 1, 1, none⟩ = false ∧ W'.frozen? ⟨w.heap.size + 1 + 1, 2, none⟩ = false ∧ W'.frozen? ⟨B5, 0, none⟩ = false ∧ W'.frozen? ⟨B5, 1, none⟩ = false ∧ W'.frozen? ⟨B5, 2, none⟩ = false ∧ W'.frozen? ⟨B6, 0, none⟩ = false ∧ W'.frozen? ⟨B6, 1, none⟩ = false ∧ W'.frozen? ⟨B6, 2, none⟩ = false) from fun W' hb =>
    ⟨(hb.frozen (p := ⟨w.heap.size, 0, none⟩) z0).trans y0_0, (hb.frozen (p := ⟨w.heap.size, 1, none⟩) z0).trans y0_1, (hb.frozen (p := ⟨w.heap.size, 2, none⟩) z0).trans y0_2, (hb.frozen (p := ⟨w.heap.size + 1, 0, none⟩) z1).trans y1_0, (hb.frozen (p := ⟨w.heap.size + 1, 1, none⟩) z1).trans y1_1, (hb.frozen (p := ⟨w.heap.size + 1, 2, none⟩) z1).trans y1_2, (hb.frozen (p := ⟨w.heap.size + 1 + 1, 0, none⟩) z2).trans y2_0, (hb.frozen (p := ⟨w.heap.size + 1 + 1, 1, none⟩) z2).trans y2_1, (hb.frozen (p := ⟨w.heap.size + 1 + 1, 2, none⟩) z2).trans y2_2, (hb.frozen (p := ⟨B5, 0, none⟩) z5).trans y5_0, (hb.frozen (p := ⟨B5, 1, none⟩) z5).trans y5_1, (hb.frozen (p := ⟨B5, 2, none⟩) z5).trans y5_2, (hb.frozen (p := ⟨B6, 0, none⟩) z6).trans y6_0, (hb.frozen (p := ⟨B6, 1, none⟩) z6).trans y6_1, (hb.frozen (p := ⟨B6, 2, none⟩) z6).trans y6_2⟩)
  have HZwc := Lib.hid (show ∀ W', Below wc.heap.size wc W' → (w.heap.size < W'.heap.size ∧ w.heap.size + 1 < W'.heap.size ∧ w.heap.size + 1 + 1 < W'.heap.size ∧ B5 < W'.heap.size ∧ B6 < W'.heap.size) from fun W' hb =>
    ⟨Nat.lt_of_lt_of_le z0 hb.size, Nat.lt_of_lt_of_le z1 hb.size, Nat.lt_of_lt_of_le z2 hb.size, Nat.lt_of_lt_of_le z5 hb.size, Nat.lt_of_lt_of_le z6 hb.size⟩)
  replace gb := Below.refl wc.heap.size wc
  go_wp2_with fail
  have hgb := gb
  go_upto_region 2 with fail
  go_cut [7] from 12 (fun s7 wx => BoxC wc (x.num * (y.den : Int) + y.num * (x.den : Int)) s7 wx)
  case first =>
    go_region_held3 (fun W' => W'.cell? ⟨w.heap.size, 0, none⟩ = some (.bool b) ∧ W'.cell? ⟨w.heap.size, 1, none⟩ = some (.slice a0 n0 c0) ∧ W'.cell? ⟨w.heap.size, 2, none⟩ = some (.slice a1 n1 c1) ∧ W'.cell? ⟨w.heap.size + 1, 0, none⟩ = some (.bool c) ∧ W'.cell? ⟨w.heap.size + 1, 1, none⟩ = some (.slice a2 n2 c2) ∧ W'.cell? ⟨w.heap.size + 1, 2, none⟩ = some (.slice a3 n3 c3) ∧ W'.cell? ⟨w.heap.size + 1 + 1, 0, none⟩ = some (.bool false) ∧ W'.cell? ⟨w.heap.size + 1 + 1, 1, none⟩ = some (.slice none 0 0) ∧ W'.cell? ⟨w.heap.size + 1 + 1, 2, none⟩ = some (.slice none 0 0) ∧ W'.cell? ⟨B5, 0, none⟩ = some (.bool ng1) ∧ W'.cell? ⟨B5, 1, none⟩ = some (.slice a1_ n1_ c1_) ∧ W'.cell? ⟨B5, 2, none⟩ = some (.slice p1_ m1_ k1_) ∧ W'.cell? ⟨B6, 0, none⟩ = some (.bool ng2) ∧ W'.cell? ⟨B6, 1, none⟩ = some (.slice a2_ n2_ c2_) ∧ W'.cell? ⟨B6, 2, none⟩ = some (.slice p2_ m2_ k2_)) (first | (with_reducible exact HXwc.out _ gb) | ((with_reducible refine HXwc.out _ ?_); first | ((with_reducible refine Below.drew ?_); first | (with_reducible exact gb) | ((with_reducible refine below_set2 ?_ ?_ _ _); rotate_left; (first | (with_reducible exact et11_I_0) | (with_reducible exact et12_I_0) | (with_reducible exact et13_I_0) | (with_reducible exact et14_I_0) | (with_reducible exact et15_I_0) | (with_reducible exact et16_I_0) | (with_reducible exact et17_I_0)); with_reducible exact gb) | ((with_reducible refine below_step ?_ (below_new _ _)); with_reducible exact gb)) | (first | (with_reducible exact gb) | ((with_reducible refine below_set2 ?_ ?_ _ _); rotate_left; (first | (with_reducible exact et11_I_0) | (with_reducible exact et12_I_0) | (with_reducible exact et13_I_0) | (with_reducible exact et14_I_0) | (with_reducible exact et15_I_0) | (with_reducible exact et16_I_0) | (with_reducible exact et17_I_0)); first | (with_reducible exact gb) | ((with_reducible refine below_set2 ?_ ?_ _ _); rotate_left; (first | (with_reducible exact et11_I_0) | (with_reducible exact et12_I_0) | (with_reducible exact et13_I_0) | (with_reducible exact et14_I_0) | (with_reducible exact et15_I_0) | (with_reducible exact et16_I_0) | (with_reducible exact et17_I_0)); with_reducible exact gb) | ((with_reducible refine below_step ?_ (below_new _ _)); with_reducible exact gb)) | ((with_reducible refine below_step ?_ (below_new _ _)); first | (with_reducible exact gb) | ((with_reducible refine below_set2 ?_ ?_ _ _); rotate_left; (first | (with_reducible exact et11_I_0) | (with_reducible exact et12_I_0) | (with_reducible exact et13_I_0) | (with_reducible exact et14_I_0) | (with_reducible exact et15_I_0) | (with_reducible exact et16_I_0) | (with_reducible exact et17_I_0)); with_reducible exact gb) | ((with_reducible refine below_step ?_ (below_new _ _)); with_reducible exact gb))))) (first
      | (go_at_call 143; (refine calls_gen w16 (by first | with_reducible exact Below.refl _ _ | with_reducible exact below_new _ _) ?_); intro V17 hV17 hbV17; have hsV17 := hbV17.size; have hu17 := gb.size; have g13 := g13.to hbV17; have g16 := g16.to hbV17; have gb := below_step gb hbV17; (try have t11_I_0 := t11_I_0.to hbV17); (try have t12_I_0 := t12_I_0.to hbV17); (try have t13_I_0 := t13_I_0.to hbV17); (try have t14_I_0 := t14_I_0.to hbV17); (try have t15_I_0 := t15_I_0.to hbV17); (try have t16_I_0 := t16_I_0.to hbV17); (try have t17_I_0 : Duo V17 (w16.heap.size) (.bool false) (.slice none 0 0) := (by rw [hV17]; first | with_reducible exact duo_new _ (.bool false) (.slice none 0 0) _ | with_reducible exact (duo_new _ (.bool false) (.slice none 0 0) _).alloc _)); have et17_I_0 : wc.heap.size ≤ w16.heap.size := (hu17); (try have vt11_I_0_17 := t11_I_0.lt); (try have vt12_I_0_17 := t12_I_0.lt); (try have vt13_I_0_17 := t13_I_0.lt); (try have vt14_I_0_17 := t14_I_0.lt); (try have vt15_I_0_17 := t15_I_0.lt); (try have vt16_I_0_17 := t16_I_0.lt); (try have vt17_I_0_17 := t17_I_0.lt); (with_reducible refine (add_c _ g13.isI g16.isI (x.num * (y.den : Int) + y.num * (x.den : Int)) rfl S4).mono ?_); rintro e w17 ⟨ng17, a17_, n17_, c17_, rfl, g17, hb17⟩; have g13 := g13.to hb17; have g16 := g16.to hb17; have gb := below_step gb hb17; have hs17 := hb17.size; (try have t11_I_0 := t11_I_0.to hb17); (try have t12_I_0 := t12_I_0.to hb17); (try have t13_I_0 := t13_I_0.to hb17); (try have t14_I_0 := t14_I_0.to hb17); (try have t15_I_0 := t15_I_0.to hb17); (try have t16_I_0 := t16_I_0.to hb17); (try have t17_I_0 := t17_I_0.to hb17); (try have lt11_I_0_17 := t11_I_0.lt); (try have lt12_I_0_17 := t12_I_0.lt); (try have lt13_I_0_17 := t13_I_0.lt); (try have lt14_I_0_17 := t14_I_0.lt); (try have lt15_I_0_17 := t15_I_0.lt); (try have lt16_I_0_17 := t16_I_0.lt); (try have lt17_I_0_17 := t17_I_0.lt); (try (have qt11_I_0 := t11_I_0; obtain ⟨rt11_I_00, rt11_I_01, st11_I_00, st11_I_01⟩ := qt11_I_0)); (try (have qt12_I_0 := t12_I_0; obtain ⟨rt12_I_00, rt12_I_01, st12_I_00, st12_I_01⟩ := qt12_I_0)); (try (have qt13_I_0 := t13_I_0; obtain ⟨rt13_I_00, rt13_I_01, st13_I_00, st13_I_01⟩ := qt13_I_0)); (try (have qt14_I_0 := t14_I_0; obtain ⟨rt14_I_00, rt14_I_01, st14_I_00, st14_I_01⟩ := qt14_I_0)); (try (have qt15_I_0 := t15_I_0; obtain ⟨rt15_I_00, rt15_I_01, st15_I_00, st15_I_01⟩ := qt15_I_0)); (try (have qt16_I_0 := t16_I_0; obtain ⟨rt16_I_00, rt16_I_01, st16_I_00, st16_I_01⟩ := qt16_I_0)); (try (have qt17_I_0 := t17_I_0; obtain ⟨rt17_I_00, rt17_I_01, st17_I_00, st17_I_01⟩ := qt17_I_0)))
      | (go_at_call 144; (refine calls_gen w15 (by first | with_reducible exact Below.refl _ _ | with_reducible exact below_new _ _) ?_); intro V16 hV16 hbV16; have hsV16 := hbV16.size; have hu16 := gb.size; have g13 := g13.to hbV16; have gb := below_step gb hbV16; (try have t11_I_0 := t11_I_0.to hbV16); (try have t12_I_0 := t12_I_0.to hbV16); (try have t13_I_0 := t13_I_0.to hbV16); (try have t14_I_0 := t14_I_0.to hbV16); (try have t15_I_0 := t15_I_0.to hbV16); (try have t16_I_0 : Duo V16 (w15.heap.size) (.bool false) (.slice none 0 0) := (by rw [hV16]; first | with_reducible exact duo_new _ (.bool false) (.slice none 0 0) _ | with_reducible exact (duo_new _ (.bool false) (.slice none 0 0) _).alloc _)); have et16_I_0 : wc.heap.size ≤ w15.heap.size := (hu16); (try have vt11_I_0_16 := t11_I_0.lt); (try have vt12_I_0_16 := t12_I_0.lt); (try have vt13_I_0_16 := t13_I_0.lt); (try have vt14_I_0_16 := t14_I_0.lt); (try have vt15_I_0_16 := t15_I_0.lt); (try have vt16_I_0_16 := t16_I_0.lt); (with_reducible refine (mul_c _ (g2.to gb).above (g1.to gb).below (y.num * (x.den : Int)) rfl S2).mono ?_); rintro e w16 ⟨ng16, a16_, n16_, c16_, rfl, g16, hb16⟩; have g13 := g13.to hb16; have gb := below_step gb hb16; have hs16 := hb16.size; (try have t11_I_0 := t11_I_0.to hb16); (try have t12_I_0 := t12_I_0.to hb16); (try have t13_I_0 := t13_I_0.to hb16); (try have t14_I_0 := t14_I_0.to hb16); (try have t15_I_0 := t15_I_0.to hb16); (try have t16_I_0 := t16_I_0.to hb16); (try have lt11_I_0_16 := t11_I_0.lt); (try have lt12_I_0_16 := t12_I_0.lt); (try have lt13_I_0_16 := t13_I_0.lt); (try have lt14_I_0_16 := t14_I_0.lt); (try have lt15_I_0_16 := t15_I_0.lt); (try have lt16_I_0_16 := t16_I_0.lt); (try (have qt11_I_0 := t11_I_0; obtain ⟨rt11_I_00, rt11_I_01, st11_I_00, st11_I_01⟩ := qt11_I_0)); (try (have qt12_I_0 := t12_I_0; obtain ⟨rt12_I_00, rt12_I_01, st12_I_00, st12_I_01⟩ := qt12_I_0)); (try (have qt13_I_0 := t13_I_0; obtain ⟨rt13_I_00, rt13_I_01, st13_I_00, st13_I_01⟩ := qt13_I_0)); (try (have qt14_I_0 := t14_I_0; obtain ⟨rt14_I_00, rt14_I_01, st14_I_00, st14_I_01⟩ := qt14_I_0)); (try (have qt15_I_0 := t15_I_0; obtain ⟨rt15_I_00, rt15_I_01, st15_I_00, st15_I_01⟩ := qt15_I_0)); (try (have qt16_I_0 := t16_I_0; obtain ⟨rt16_I_00, rt16_I_01, st16_I_00, st16_I_01⟩ := qt16_I_0)))
      | (go_at_call 146; (refine calls_gen w14 (by first | with_reducible exact Below.refl _ _ | with_reducible exact below_new _ _) ?_); intro V15 hV15 hbV15; have hsV15 := hbV15.size; have hu15 := gb.size; have g13 := g13.to hbV15; have gb := below_step gb hbV15; (try have t11_I_0 := t11_I_0.to hbV15); (try have t12_I_0 := t12_I_0.to hbV15); (try have t13_I_0 := t13_I_0.to hbV15); (try have t14_I_0 := t14_I_0.to hbV15); (try have t15_I_0 : Duo V15 (w14.heap.size) (.bool false) (.slice none 0 0) := (by rw [hV15]; first | with_reducible exact duo_new _ (.bool false) (.slice none 0 0) _ | with_reducible exact (duo_new _ (.bool false) (.slice none 0 0) _).alloc _)); have et15_I_0 : wc.heap.size ≤ w14.heap.size := (hu15); (try have vt11_I_0_15 := t11_I_0.lt); (try have vt12_I_0_15 := t12_I_0.lt); (try have vt13_I_0_15 := t13_I_0.lt); (try have vt14_I_0_15 := t14_I_0.lt); (try have vt15_I_0_15 := t15_I_0.lt); (with_reducible refine (ratio_below _ _ _ _ _ _ (g1.to gb).isQ).mono ?_); rintro e w15 ⟨rfl, hb15⟩; have g13 := g13.to hb15; have gb := below_step gb hb15; have hs15 := hb15.size; (try have t11_I_0 := t11_I_0.to hb15); (try have t12_I_0 := t12_I_0.to hb15); (try have t13_I_0 := t13_I_0.to hb15); (try have t14_I_0 := t14_I_0.to hb15); (try have t15_I_0 := t15_I_0.to hb15); (try have lt11_I_0_15 := t11_I_0.lt); (try have lt12_I_0_15 := t12_I_0.lt); (try have lt13_I_0_15 := t13_I_0.lt); (try have lt14_I_0_15 := t14_I_0.lt); (try have lt15_I_0_15 := t15_I_0.lt); (try (have qt11_I_0 := t11_I_0; obtain ⟨rt11_I_00, rt11_I_01, st11_I_00, st11_I_01⟩ := qt11_I_0)); (try (have qt12_I_0 := t12_I_0; obtain ⟨rt12_I_00, rt12_I_01, st12_I_00, st12_I_01⟩ := qt12_I_0)); (try (have qt13_I_0 := t13_I_0; obtain ⟨rt13_I_00, rt13_I_01, st13_I_00, st13_I_01⟩ := qt13_I_0)); (try (have qt14_I_0 := t14_I_0; obtain ⟨rt14_I_00, rt14_I_01, st14_I_00, st14_I_01⟩ := qt14_I_0)); (try (have qt15_I_0 := t15_I_0; obtain ⟨rt15_I_00, rt15_I_01, st15_I_00, st15_I_01⟩ := qt15_I_0)))
      | (go_at_call 145; (refine calls_gen w13 (by first | with_reducible exact Below.refl _ _ | with_reducible exact below_new _ _) ?_); intro V14 hV14 hbV14; have hsV14 := hbV14.size; have hu14 := gb.size; have g13 := g13.to hbV14; have gb := below_step gb hbV14; (try have t11_I_0 := t11_I_0.to hbV14); (try have t12_I_0 := t12_I_0.to hbV14); (try have t13_I_0 := t13_I_0.to hbV14); (try have t14_I_0 : Duo V14 (w13.heap.size) (.bool false) (.slice none 0 0) := (by rw [hV14]; first | with_reducible exact duo_new _ (.bool false) (.slice none 0 0) _ | with_reducible exact (duo_new _ (.bool false) (.slice none 0 0) _).alloc _)); have et14_I_0 : wc.heap.size ≤ w13.heap.size := (hu14); (try have vt11_I_0_14 := t11_I_0.lt); (try have vt12_I_0_14 := t12_I_0.lt); (try have vt13_I_0_14 := t13_I_0.lt); (try have vt14_I_0_14 := t14_I_0.lt); (with_reducible refine (ratio_above _ _ _ _ _ _ (g2.to gb).isQ).mono ?_); rintro e w14 ⟨rfl, hb14⟩; have g13 := g13.to hb14; have gb := below_step gb hb14; have hs14 := hb14.size; (try have t11_I_0 := t11_I_0.to hb14); (try have t12_I_0 := t12_I_0.to hb14); (try have t13_I_0 := t13_I_0.to hb14); (try have t14_I_0 := t14_I_0.to hb14); (try have lt11_I_0_14 := t11_I_0.lt); (try have lt12_I_0_14 := t12_I_0.lt); (try have lt13_I_0_14 := t13_I_0.lt); (try have lt14_I_0_14 := t14_I_0.lt); (try (have qt11_I_0 := t11_I_0; obtain ⟨rt11_I_00, rt11_I_01, st11_I_00, st11_I_01⟩ := qt11_I_0)); (try (have qt12_I_0 := t12_I_0; obtain ⟨rt12_I_00, rt12_I_01, st12_I_00, st12_I_01⟩ := qt12_I_0)); (try (have qt13_I_0 := t13_I_0; obtain ⟨rt13_I_00, rt13_I_01, st13_I_00, st13_I_01⟩ := qt13_I_0)); (try (have qt14_I_0 := t14_I_0; obtain ⟨rt14_I_00, rt14_I_01, st14_I_00, st14_I_01⟩ := qt14_I_0)))
      | (go_at_call 144; (refine calls_gen w12 (by first | with_reducible exact Below.refl _ _ | with_reducible exact below_new _ _) ?_); intro V13 hV13 hbV13; have hsV13 := hbV13.size; have hu13 := gb.size; have gb := below_step gb hbV13; (try have t11_I_0 := t11_I_0.to hbV13); (try have t12_I_0 := t12_I_0.to hbV13); (try have t13_I_0 : Duo V13 (w12.heap.size) (.bool false) (.slice none 0 0) := (by rw [hV13]; first | with_reducible exact duo_new _ (.bool false) (.slice none 0 0) _ | with_reducible exact (duo_new _ (.bool false) (.slice none 0 0) _).alloc _)); have et13_I_0 : wc.heap.size ≤ w12.heap.size := (hu13); (try have vt11_I_0_13 := t11_I_0.lt); (try have vt12_I_0_13 := t12_I_0.lt); (try have vt13_I_0_13 := t13_I_0.lt); (with_reducible refine (mul_c _ (g1.to gb).above (g2.to gb).below (x.num * (y.den : Int)) rfl S1).mono ?_); rintro e w13 ⟨ng13, a13_, n13_, c13_, rfl, g13, hb13⟩; have gb := below_step gb hb13; have hs13 := hb13.size; (try have t11_I_0 := t11_I_0.to hb13); (try have t12_I_0 := t12_I_0.to hb13); (try have t13_I_0 := t13_I_0.to hb13); (try have lt11_I_0_13 := t11_I_0.lt); (try have lt12_I_0_13 := t12_I_0.lt); (try have lt13_I_0_13 := t13_I_0.lt); (try (have qt11_I_0 := t11_I_0; obtain ⟨rt11_I_00, rt11_I_01, st11_I_00, st11_I_01⟩ := qt11_I_0)); (try (have qt12_I_0 := t12_I_0; obtain ⟨rt12_I_00, rt12_I_01, st12_I_00, st12_I_01⟩ := qt12_I_0)); (try (have qt13_I_0 := t13_I_0; obtain ⟨rt13_I_00, rt13_I_01, st13_I_00, st13_I_01⟩ := qt13_I_0)))
      | (go_at_call 146; (refine calls_gen w11 (by first | with_reducible exact Below.refl _ _ | with_reducible exact below_new _ _) ?_); intro V12 hV12 hbV12; have hsV12 := hbV12.size; have hu12 := gb.size; have gb := below_step gb hbV12; (try have t11_I_0 := t11_I_0.to hbV12); (try have t12_I_0 : Duo V12 (w11.heap.size) (.bool false) (.slice none 0 0) := (by rw [hV12]; first | with_reducible exact duo_new _ (.bool false) (.slice none 0 0) _ | with_reducible exact (duo_new _ (.bool false) (.slice none 0 0) _).alloc _)); have et12_I_0 : wc.heap.size ≤ w11.heap.size := (hu12); (try have vt11_I_0_12 := t11_I_0.lt); (try have vt12_I_0_12 := t12_I_0.lt); (with_reducible refine (ratio_below _ _ _ _ _ _ (g2.to gb).isQ).mono ?_); rintro e w12 ⟨rfl, hb12⟩; have gb := below_step gb hb12; have hs12 := hb12.size; (try have t11_I_0 := t11_I_0.to hb12); (try have t12_I_0 := t12_I_0.to hb12); (try have lt11_I_0_12 := t11_I_0.lt); (try have lt12_I_0_12 := t12_I_0.lt); (try (have qt11_I_0 := t11_I_0; obtain ⟨rt11_I_00, rt11_I_01, st11_I_00, st11_I_01⟩ := qt11_I_0)); (try (have qt12_I_0 := t12_I_0; obtain ⟨rt12_I_00, rt12_I_01, st12_I_00, st12_I_01⟩ := qt12_I_0)))
      | (go_at_call 145; (refine calls_gen wc (by first | with_reducible exact (Below.refl _ _).drew | with_reducible exact (below_new _ _).drew) ?_); intro V11 hV11 hbV11; have hsV11 := hbV11.size; have hu11 := gb.size; have gb := below_step gb hbV11; (try have t11_I_0 : Duo V11 (wc.heap.size) (.bool false) (.slice none 0 0) := (by rw [hV11]; first | with_reducible exact (duo_new _ (.bool false) (.slice none 0 0) _).drew | with_reducible exact ((duo_new _ (.bool false) (.slice none 0 0) _).alloc _).drew)); have et11_I_0 : wc.heap.size ≤ wc.heap.size := (hu11); (try have vt11_I_0_11 := t11_I_0.lt); (with_reducible refine (ratio_above _ _ _ _ _ _ (g1.to gb).isQ).mono ?_); rintro e w11 ⟨rfl, hb11⟩; have gb := below_step gb hb11; have hs11 := hb11.size; (try have t11_I_0 := t11_I_0.to hb11); (try have lt11_I_0_11 := t11_I_0.lt); (try (have qt11_I_0 := t11_I_0; obtain ⟨rt11_I_00, rt11_I_01, st11_I_00, st11_I_01⟩ := qt11_I_0))))
    all_goals (go_wp2_with fail; go_meet)
    all_goals first
      | (with_reducible exact boxC_old t11_I_0 g17 (.inl vt11_I_0_17) gb et11_I_0)
      | (with_reducible exact boxC_old t12_I_0 g17 (.inl vt12_I_0_17) gb et12_I_0)
      | (with_reducible exact boxC_old t13_I_0 g17 (.inl vt13_I_0_17) gb et13_I_0)
      | (with_reducible exact boxC_old t14_I_0 g17 (.inl vt14_I_0_17) gb et14_I_0)
      | (with_reducible exact boxC_old t15_I_0 g17 (.inl vt15_I_0_17) gb et15_I_0)
      | (with_reducible exact boxC_old t16_I_0 g17 (.inl vt16_I_0_17) gb et16_I_0)
      | (with_reducible exact boxC_old t17_I_0 g17 (.inl vt17_I_0_17) gb et17_I_0)
      | (with_reducible exact boxC_new g17 gb)
  case rest =>
  obtain ⟨B7, ng17, a17_, n17_, c17_, lo7, hi7, rfl, hB7, T7, g17, hc7⟩ := hcut
  clear x0_0 y0_0 x0_1 y0_1 x0_2 y0_2 x1_0 y1_0 x1_1 y1_1 x1_2 y1_2 x2_0 y2_0 x2_1 y2_1 x2_2 y2_2 x5_0 y5_0 x5_1 y5_1 x5_2 y5_2 x6_0 y6_0 x6_1 y6_1 x6_2 y6_2
  have gb := hc7
  obtain ⟨x0_0, x0_1, x0_2, x1_0, x1_1, x1_2, x2_0, x2_1, x2_2, x5_0, x5_1, x5_2, x6_0, x6_1, x6_2⟩ := HXwc.out _ gb
  obtain ⟨y0_0, y0_1, y0_2, y1_0, y1_1, y1_2, y2_0, y2_1, y2_2, y5_0, y5_1, y5_2, y6_0, y6_1, y6_2⟩ := HYwc.out _ gb
  obtain ⟨z0, z1, z2, z5, z6⟩ := HZwc.out _ gb
  have z7 := T7.lt
  obtain ⟨x7_0, x7_1, y7_0, y7_1⟩ := T7
  clear hgb
  obtain ⟨W2, hW2⟩ : ∃ W, wc = W := ⟨_, rfl⟩
  subst hW2
  replace i0 := i0.to gb
  replace i1 := i1.to gb
  replace g1 := g1.to gb
  replace g2 := g2.to gb
  replace zb := below_step zb gb
  have HXwc := Lib.hid (show ∀ W', Below wc.heap.size wc W' → (W'.cell? ⟨w.heap.size, 0, none⟩ = some (.bool b) ∧ W'.cell? ⟨w.heap.size, 1, none⟩ = some (.slice a0 n0 c0) ∧ W'.cell? ⟨w.heap.size, 2, none⟩ = some (.slice a1 n1 c1) ∧ W'.cell? ⟨w.heap.size + 1, 0, none⟩ = some (.bool c) ∧ W'.cell? ⟨w.heap.size + 1, 1, none⟩ = some (.slice a2 n2 c2) ∧ W'.cell? ⟨w.heap.size + 1, 2, none⟩ = some (.slice a3 n3 c3) ∧ W'.cell? ⟨w.heap.size + 1 + 1, 0, none⟩ = some (.bool false) ∧ W'.cell? ⟨w.heap.size + 1 + 1, 1, none⟩ = some (.slice none 0 0) ∧ W'.cell? ⟨w.heap.size + 1 + 1, 2, none⟩ = some (.slice none 0 0) ∧ W'.cell? ⟨B5, 0, none⟩ = some (.bool ng1) ∧ W'.cell? ⟨B5, 1, none⟩ = some (.slice a1_ n1_ c1_) ∧ W'.cell? ⟨B5, 2, none⟩ = some (.slice p1_ m1_ k1_) ∧ W'.cell? ⟨B6, 0, none⟩ = some (.bool ng2) ∧ W'.cell? ⟨B6, 1, none⟩ = some (.slice a2_ n2_ c2_) ∧ W'.cell? ⟨B6, 2, none⟩ = some (.slice p2_ m2_ k2_) ∧ W'.cell? ⟨B7, 0, none⟩ = some (.bool ng17) ∧ W'.cell? ⟨B7, 1, none⟩ = some (.slice a17_ n17_ c17_)) from fun W' hb =>
    by and_intros <;> exact kc hb (by first | assumption | assumption))
  have HYwc := Lib.hid (show ∀ W', Below wc.heap.size wc W' → (W'.frozen? ⟨w.heap.size, 0, none⟩ = false ∧ W'.frozen? ⟨w.heap.size, 1, none⟩ = false ∧ W'.frozen? ⟨w.heap.size, 2, none⟩ = false ∧ W'.frozen? ⟨w.heap.size + 1, 0, none⟩ = false ∧ W'.frozen? ⟨w.heap.size + 1, 1, none⟩ = false ∧ W'.frozen? ⟨w.heap.size + 1, 2, none⟩ = false ∧ W'.frozen? ⟨w.heap.size + 1 + 1, 0, none⟩ = false ∧ W'.frozen? ⟨w.heap.size + 1 + 1, 1, none⟩ = false ∧ W'.frozen? ⟨w.heap.size + 1 + 1, 2, none⟩ = false ∧ W'.frozen? ⟨B5, 0, none⟩ = false ∧ W'.frozen? ⟨B5, 1, none⟩ = false ∧ W'.frozen? ⟨B5, 2, none⟩ = false ∧ W'.frozen? ⟨B6, 0, none⟩ = false ∧ W'.frozen? ⟨B6, 1, none⟩ = false ∧ W'.frozen? ⟨B6, 2, none⟩ = false ∧ W'.frozen? ⟨B7, 0, none⟩ = false ∧ W'.frozen? ⟨B7, 1, none⟩ = false) from fun W' hb =>
    ⟨(hb.frozen (p := ⟨w.heap.size, 0, none⟩) z0).trans y0_0, (hb.frozen (p := ⟨w.heap.size, 1, none⟩) z0).trans y0_1, (hb.frozen (p := ⟨w.heap.size, 2, none⟩) z0).trans y0_2, (hb.frozen (p := ⟨w.heap.size + 1, 0, none⟩) z1).trans y1_0, (hb.frozen (p := ⟨w.heap.size + 1, 1, none⟩) z1).trans y1_1, (hb.frozen (p := ⟨w.heap.size + 1, 2, none⟩) z1).trans y1_2, (hb.frozen (p := ⟨w.heap.size + 1 + 1, 0, none⟩) z2).trans y2_0, (hb.frozen (p := ⟨w.heap.size + 1 + 1, 1, none⟩) z2).trans y2_1, (hb.frozen (p := ⟨w.heap.size + 1 + 1, 2, none⟩) z2).trans y2_2, (hb.frozen (p := ⟨B5, 0, none⟩) z5).trans y5_0, (hb.frozen (p := ⟨B5, 1, none⟩) z5).trans y5_1, (hb.frozen (p := ⟨B5, 2, none⟩) z5).trans y5_2, (hb.frozen (p := ⟨B6, 0, none⟩) z6).trans y6_0, (hb.frozen (p := ⟨B6, 1, none⟩) z6).trans y6_1, (hb.frozen (p := ⟨B6, 2, none⟩) z6).trans y6_2, (hb.frozen (p := ⟨B7, 0, none⟩) z7).trans y7_0, (hb.frozen (p := ⟨B7, 1, none⟩) z7).trans y7_1⟩)
  have HZwc := Lib.hid (show ∀ W', Below wc.heap.size wc W' → (w.heap.size < W'.heap.size ∧ w.heap.size + 1 < W'.heap.size ∧ w.heap.size + 1 + 1 < W'.heap.size ∧ B5 < W'.heap.size ∧ B6 < W'.heap.size ∧ B7 < W'.heap.size) from fun W' hb =>
    ⟨Nat.lt_of_lt_of_le z0 hb.size, Nat.lt_of_lt_of_le z1 hb.size, Nat.lt_of_lt_of_le z2 hb.size, Nat.lt_of_lt_of_le z5 hb.size, Nat.lt_of_lt_of_le z6 hb.size, Nat.lt_of_lt_of_le z7 hb.size⟩)
  replace gb := Below.refl wc.heap.size wc
  go_wp2_with fail
  have H8 := Lib.hid (H9.out ng17 (by have k := g17.2.1; exact k))
  have nz0 : w.heap.size ≠ w.heap.size + 1 + 1 := by omega
  have nz1 : w.heap.size + 1 ≠ w.heap.size + 1 + 1 := by omega
  have nz5 : B5 ≠ w.heap.size + 1 + 1 := by omega
  have nz6 : B6 ≠ w.heap.size + 1 + 1 := by omega
  have nz7 : B7 ≠ w.heap.size + 1 + 1 := by omega
  go_region_held3 (fun W' => W'.cell? ⟨w.heap.size, 0, none⟩ = some (.bool b) ∧ W'.cell? ⟨w.heap.size, 1, none⟩ = some (.slice a0 n0 c0) ∧ W'.cell? ⟨w.heap.size, 2, none⟩ = some (.slice a1 n1 c1) ∧ W'.cell? ⟨w.heap.size + 1, 0, none⟩ = some (.bool c) ∧ W'.cell? ⟨w.heap.size + 1, 1, none⟩ = some (.slice a2 n2 c2) ∧ W'.cell? ⟨w.heap.size + 1, 2, none⟩ = some (.slice a3 n3 c3) ∧ W'.cell? ⟨B5, 0, none⟩ = some (.bool ng1) ∧ W'.cell? ⟨B5, 1, none⟩ = some (.slice a1_ n1_ c1_) ∧ W'.cell? ⟨B5, 2, none⟩ = some (.slice p1_ m1_ k1_) ∧ W'.cell? ⟨B6, 0, none⟩ = some (.bool ng2) ∧ W'.cell? ⟨B6, 1, none⟩ = some (.slice a2_ n2_ c2_) ∧ W'.cell? ⟨B6, 2, none⟩ = some (.slice p2_ m2_ k2_) ∧ W'.cell? ⟨B7, 0, none⟩ = some (.bool ng17) ∧ W'.cell? ⟨B7, 1, none⟩ = some (.slice a17_ n17_ c17_)) (first | (with_reducible exact ⟨x0_0, x0_1, x0_2, x1_0, x1_1, x1_2, x5_0, x5_1, x5_2, x6_0, x6_1, x6_2, x7_0, x7_1⟩) | (with_reducible exact ⟨cell_put (cell_put (cell_put (x0_0) (.inl nz0) _) (.inl nz0) _) (.inl nz0) _, cell_put (cell_put (cell_put (x0_1) (.inl nz0) _) (.inl nz0) _) (.inl nz0) _, cell_put (cell_put (cell_put (x0_2) (.inl nz0) _) (.inl nz0) _) (.inl nz0) _, cell_put (cell_put (cell_put (x1_0) (.inl nz1) _) (.inl nz1) _) (.inl nz1) _, cell_put (cell_put (cell_put (x1_1) (.inl nz1) _) (.inl nz1) _) (.inl nz1) _, cell_put (cell_put (cell_put (x1_2) (.inl nz1) _) (.inl nz1) _) (.inl nz1) _, cell_put (cell_put (cell_put (x5_0) (.inl nz5) _) (.inl nz5) _) (.inl nz5) _, cell_put (cell_put (cell_put (x5_1) (.inl nz5) _) (.inl nz5) _) (.inl nz5) _, cell_put (cell_put (cell_put (x5_2) (.inl nz5) _) (.inl nz5) _) (.inl nz5) _, cell_put (cell_put (cell_put (x6_0) (.inl nz6) _) (.inl nz6) _) (.inl nz6) _, cell_put (cell_put (cell_put (x6_1) (.inl nz6) _) (.inl nz6) _) (.inl nz6) _, cell_put (cell_put (cell_put (x6_2) (.inl nz6) _) (.inl nz6) _) (.inl nz6) _, cell_put (cell_put (cell_put (x7_0) (.inl nz7) _) (.inl nz7) _) (.inl nz7) _, cell_put (cell_put (cell_put (x7_1) (.inl nz7) _) (.inl nz7) _) (.inl nz7) _⟩) | exact ⟨x0_0, x0_1, x0_2, x1_0, x1_1, x1_2, x5_0, x5_1, x5_2, x6_0, x6_1, x6_2, x7_0, x7_1⟩) (first
    | (go_at_call 62; (with_reducible refine (ratio_lowest ng17 _ _ _ _ _ (g17.to gb).isI.up g21.rd (Nat.le_trans S3.out (by omega)) K2.out q H8.out hs).mono ?_); rintro e w22 ⟨ng22, a22_, n22_, c22_, p22_, m22_, k22_, rfl, g22, hb22⟩; have g21 := g21.to hb22; have gb := below_step gb hb22; obtain ⟨x0_0, x0_1, x0_2, x1_0, x1_1, x1_2, x2_0, x2_1, x2_2, x5_0, x5_1, x5_2, x6_0, x6_1, x6_2, x7_0, x7_1⟩ := HXwc.out _ gb; obtain ⟨y0_0, y0_1, y0_2, y1_0, y1_1, y1_2, y2_0, y2_1, y2_2, y5_0, y5_1, y5_2, y6_0, y6_1, y6_2, y7_0, y7_1⟩ := HYwc.out _ gb; obtain ⟨z0, z1, z2, z5, z6, z7⟩ := HZwc.out _ gb)
    | (go_at_call 147; have gb := gb.drew; (with_reducible refine (times_mul _ _ (limbs x.den) (limbs y.den) _ (g1.to gb).isQ.dn (g2.to gb).isQ.dn (Nat.le_trans (g1.to gb).isQ.ldn (by omega)) (Nat.le_trans (g2.to gb).isQ.ldn (by omega))).mono ?_); rintro e w21 ⟨v21, rfl, g21, hb21⟩; obtain ⟨a21_, n21_, c21_, rfl, H21, hm21⟩ := g21.rd.open; have gb := below_step gb hb21; obtain ⟨x0_0, x0_1, x0_2, x1_0, x1_1, x1_2, x2_0, x2_1, x2_2, x5_0, x5_1, x5_2, x6_0, x6_1, x6_2, x7_0, x7_1⟩ := HXwc.out _ gb; obtain ⟨y0_0, y0_1, y0_2, y1_0, y1_1, y1_2, y2_0, y2_1, y2_2, y5_0, y5_1, y5_2, y6_0, y6_1, y6_2, y7_0, y7_1⟩ := HYwc.out _ gb; obtain ⟨z0, z1, z2, z5, z6, z7⟩ := HZwc.out _ gb))
  go_wp2_with fail
  refine bodyPost_ret (results_R Tryz.results117 _ _ _ _ _ _ rfl (Tri.set (x0 := .bool false) (y0 := .slice none 0 0) (z0 := .slice none 0 0) ⟨x2_0, x2_1, x2_2, y2_0, y2_1, y2_2⟩ _ _ _)) rfl (finR (below_step zb gb) (by omega) ?_ g22)
  omega

end Go.Proofs.YtkjcdnlpjldhaaaGreat


namespace Go.Proofs.YtkjcdnlpjldhaaaGreat
open Go.RowKit Tw
set_option linter.unusedVariables false
set_option linter.unusedSimpArgs false
attribute [local go_sem ↓] Go.wp_at_zero Go.wp_at_succ

theorem szi_word' {z : Int} (n0 : -9223372036854775808 ≤ z) (n1 : z < 9223372036854775808) : szi z ≤ 3 := by
  unfold szi
  have := sz_mono (show z.natAbs ≤ 18446744073709551616 by omega)
  rwa [show sz 18446744073709551616 = 3 by decide +kernel] at this

theorem szq_int {z : Int} (h : szi z ≤ 3) : szq (z : Rat) ≤ 1000 := by
  unfold szq
  have h1 : (z : Rat).num = z := Rat.num_intCast z
  have h2 : (z : Rat).den = 1 := Rat.den_intCast z
  rw [h1, h2]
  unfold szi at h
  have : sz 1 ≤ 1 := by decide +kernel
  omega

theorem rat_int (z : Int) : rat (decide (z < 0)) (val (limbs z.natAbs)) (val (limbs (1 : Int).toNat)) = (z : Rat) := by
  rw [val_limbs, val_limbs]
  have h := rat_self (z : Rat)
  have h1 : (z : Rat).num = z := Rat.num_intCast z
  have h2 : (z : Rat).den = 1 := Rat.den_intCast z
  rw [num_neg, h1, h2] at h
  exact h

def GivesQK (w : World) (q : Rat) (e : Ending) (w' : World) : Prop :=
  ∃ ng a n c a' n' c', e = .returned (.tuple #[aggR ng (.slice a n c) (.slice a' n' c'), .int .i64 0]) ∧ CanQ w.heap.size w'.heap.size w' ng (.slice a n c) (.slice a' n' c') q ∧ Below w.heap.size w w'

theorem finRK {w w2 : World} {lo hi rb : Nat} {ng : Bool} {a a' : Option Addr} {n c n' c' : Nat} {q : Rat} (hb : Below w.heap.size w w2) (hrb : w.heap.size ≤ rb) (hlo : rb < lo) (hv : CanQ lo hi w2 ng (.slice a n c) (.slice a' n' c') q) :
    GivesQK w q (.returned (.tuple #[aggR ng (.slice a n c) (.slice a' n' c'), .int .i64 0])) (set3 w2 rb (.bool ng) (.slice a n c) (.slice a' n' c')) := by
  obtain ⟨_, _, _, _, _, _, _, e, h1, h2⟩ := finR hb hrb hlo hv
  injection e with e
  injection e with e
  simp only [Array.mk.injEq, List.cons.injEq, Value.bool.injEq, Value.slice.injEq, and_true] at e
  obtain ⟨rfl, ⟨rfl, rfl, rfl⟩, rfl, rfl, rfl⟩ := e
  exact ⟨_, _, _, _, _, _, _, rfl, h1, h2⟩

set_option maxRecDepth 100000 in
set_option maxHeartbeats 4000000 in
theorem ratio_sub {x y : Rat} (b : Bool) (v u : Value) (ln ld : List Nat) (c : Bool) (v' u' : Value) (ln' ld' : List Nat) (w : World) (h : IsQ w b v u ln ld x) (h' : IsQ w c v' u' ln' ld' y) (q : Rat) (hq : x - y = q) (hs : Hid (szq q ≤ 1000)) :
    Calls Tryz.prog 118 #[aggR b v u, aggR c v' u'] w (GivesQ w q) := by
  have Hn : Hid (szq (-y) ≤ 1000) := by show _ ≤ _; rw [szq_neg]; exact (isQ_sz h').out
  have H9 := Lib.hid (show x + -y = q by rw [← Rat.sub_eq_add_neg, hq])
  obtain ⟨a0, n0, c0, rfl, H0, hm0⟩ := h.1.open
  obtain ⟨a1, n1, c1, rfl, H1, hm1⟩ := h.2.1.open
  obtain ⟨a2, n2, c2, rfl, H2, hm2⟩ := h'.1.open
  obtain ⟨a3, n3, c3, rfl, H3, hm3⟩ := h'.2.1.open
  clear hq
  go_enter Tryz.func118, Tryz.ntmps118
  go_wp2_with fail
  obtain ⟨W0, hW0⟩ : ∃ W0, ((w.alloc (.cells #[.bool b, .slice a0 n0 c0, .slice a1 n1 c1] 47)).alloc (.cells #[.bool c, .slice a2 n2 c2, .slice a3 n3 c3] 47)).alloc (.cells #[.bool false, .slice none 0 0, .slice none 0 0] 47) = W0 := ⟨_, rfl⟩
  have HXW0 := Lib.hid (show ∀ W', Below W0.heap.size W0 W' → (Bx3 W' w.heap.size (.bool b) (.slice a0 n0 c0) (.slice a1 n1 c1) ∧ Bx3 W' (w.heap.size + 1) (.bool c) (.slice a2 n2 c2) (.slice a3 n3 c3) ∧ Bx3 W' (w.heap.size + 1 + 1) (.bool false) (.slice none 0 0) (.slice none 0 0)) from fun W' hb => by
      refine ⟨bx3 hb ?_ ?_ ?_ ?_ ?_ ?_, bx3 hb ?_ ?_ ?_ ?_ ?_ ?_, bx3 hb ?_ ?_ ?_ ?_ ?_ ?_⟩
      all_goals first | assumption | (rw [← hW0]; simp [go_sem]))
  have zb : Below w.heap.size w W0 := by rw [← hW0]; exact below_step (below_step (below_new _ _) (below_new _ _)) (below_new _ _)
  rw [hW0]
  clear hW0
  have i0 := h.to zb
  have i1 := h'.to zb
  have gb : Below W0.heap.size W0 W0 := Below.refl _ _
  obtain ⟨⟨z0, x0_0, x0_1, x0_2, y0_0, y0_1, y0_2⟩, ⟨z1, x1_0, x1_1, x1_2, y1_0, y1_1, y1_2⟩, ⟨z2, x2_0, x2_1, x2_2, y2_0, y2_1, y2_2⟩⟩ := HXW0.out _ gb
  have nz0 : w.heap.size ≠ w.heap.size + 1 + 1 := by omega
  have nz1 : w.heap.size + 1 ≠ w.heap.size + 1 + 1 := by omega
  go_region_held3 (fun W' => W'.cell? ⟨w.heap.size, 0, none⟩ = some (.bool b) ∧ W'.cell? ⟨w.heap.size, 1, none⟩ = some (.slice a0 n0 c0) ∧ W'.cell? ⟨w.heap.size, 2, none⟩ = some (.slice a1 n1 c1) ∧ W'.cell? ⟨w.heap.size + 1, 0, none⟩ = some (.bool c) ∧ W'.cell? ⟨w.heap.size + 1, 1, none⟩ = some (.slice a2 n2 c2) ∧ W'.cell? ⟨w.heap.size + 1, 2, none⟩ = some (.slice a3 n3 c3)) (first | (with_reducible exact ⟨x0_0, x0_1, x0_2, x1_0, x1_1, x1_2⟩) | (with_reducible exact ⟨cell_put (cell_put (cell_put (x0_0) (.inl nz0) _) (.inl nz0) _) (.inl nz0) _, cell_put (cell_put (cell_put (x0_1) (.inl nz0) _) (.inl nz0) _) (.inl nz0) _, cell_put (cell_put (cell_put (x0_2) (.inl nz0) _) (.inl nz0) _) (.inl nz0) _, cell_put (cell_put (cell_put (x1_0) (.inl nz1) _) (.inl nz1) _) (.inl nz1) _, cell_put (cell_put (cell_put (x1_1) (.inl nz1) _) (.inl nz1) _) (.inl nz1) _, cell_put (cell_put (cell_put (x1_2) (.inl nz1) _) (.inl nz1) _) (.inl nz1) _⟩) | exact ⟨x0_0, x0_1, x0_2, x1_0, x1_1, x1_2⟩) (first
    | (go_at_call 117; (with_reducible refine (ratio_add b _ _ ln ld _ _ _ _ _ _ (i0.to gb) g1.isQ q H9.out hs).mono ?_); rintro e w2 ⟨ng2, a2_, n2_, c2_, p2_, m2_, k2_, rfl, g2, hb2⟩; have g1 := g1.to hb2; have gb := below_step gb hb2; obtain ⟨⟨z0, x0_0, x0_1, x0_2, y0_0, y0_1, y0_2⟩, ⟨z1, x1_0, x1_1, x1_2, y1_0, y1_1, y1_2⟩, ⟨z2, x2_0, x2_1, x2_2, y2_0, y2_1, y2_2⟩⟩ := HXW0.out _ gb)
    | (go_at_call 121; have gb := gb.drew; (with_reducible refine (ratio_neg c _ _ ln' ld' _ (i1.to gb) (-y) rfl Hn).mono ?_); rintro e w1 ⟨ng1, a1_, n1_, c1_, p1_, m1_, k1_, rfl, g1, hb1⟩; have gb := below_step gb hb1; obtain ⟨⟨z0, x0_0, x0_1, x0_2, y0_0, y0_1, y0_2⟩, ⟨z1, x1_0, x1_1, x1_2, y1_0, y1_1, y1_2⟩, ⟨z2, x2_0, x2_1, x2_2, y2_0, y2_1, y2_2⟩⟩ := HXW0.out _ gb))
  go_wp2_with fail
  refine bodyPost_ret (results_R Tryz.results118 _ _ _ _ _ _ rfl (Tri.set (x0 := .bool false) (y0 := .slice none 0 0) (z0 := .slice none 0 0) ⟨x2_0, x2_1, x2_2, y2_0, y2_1, y2_2⟩ _ _ _)) rfl (finR (below_step zb gb) (by omega) ?_ g2)
  omega

set_option maxRecDepth 100000 in
set_option maxHeartbeats 4000000 in
theorem ratio_make_no (b c : Bool) (v u : Value) (ln ld : List Nat) (w : World) (hv : Rd w v ln) (hu : Rd w u ld) (h2 : ld.length ≤ 3000) (h0 : val ld = 0) :
    Calls Tryz.prog 148 #[aggI b v, aggI c u] w (fun e w' => e = .returned (.tuple #[aggR false (.slice none 0 0) (.slice none 0 0), .int .i64 3]) ∧ Below w.heap.size w w') := by
  have Z0 := Lib.hid (show nbits (val ld) = 0 by rw [h0]; rfl)
  clear h0
  obtain ⟨a0, n0, c0, rfl, H0, hm0⟩ := hv.open
  obtain ⟨a1, n1, c1, rfl, H1, hm1⟩ := hu.open
  go_enter Tryz.func148, Tryz.ntmps148
  go_wp2_with fail
  obtain ⟨W0, hW0⟩ : ∃ W0, ((w.alloc (.cells #[.bool b, .slice a0 n0 c0] 95)).alloc (.cells #[.bool c, .slice a1 n1 c1] 95)).alloc (.cells #[.bool false, .slice none 0 0, .slice none 0 0] 47) = W0 := ⟨_, rfl⟩
  have HXW0 := Lib.hid (show ∀ W', Below W0.heap.size W0 W' → (Bx2 W' w.heap.size (.bool b) (.slice a0 n0 c0) ∧ Bx2 W' (w.heap.size + 1) (.bool c) (.slice a1 n1 c1) ∧ Bx3 W' (w.heap.size + 1 + 1) (.bool false) (.slice none 0 0) (.slice none 0 0)) from fun W' hb => by
      refine ⟨bx2 hb ?_ ?_ ?_ ?_, bx2 hb ?_ ?_ ?_ ?_, bx3 hb ?_ ?_ ?_ ?_ ?_ ?_⟩
      all_goals first | assumption | (rw [← hW0]; simp [go_sem]))
  have zb : Below w.heap.size w W0 := by rw [← hW0]; exact below_step (below_step (below_new _ _) (below_new _ _)) (below_new _ _)
  rw [hW0]
  clear hW0
  have i0 := hv.to zb
  have i1 := hu.to zb
  have gb : Below W0.heap.size W0 W0 := Below.refl _ _
  obtain ⟨⟨z0, x0_0, x0_1, y0_0, y0_1⟩, ⟨z1, x1_0, x1_1, y1_0, y1_1⟩, ⟨z2, x2_0, x2_1, x2_2, y2_0, y2_1, y2_2⟩⟩ := HXW0.out _ gb
  refine (nat_bits _ ld _ (i1.to gb) (by omega)).mono ?_
  rintro e w1 ⟨rfl, rfl⟩
  rw [Z0.out]
  go_wp2_with fail
  refine bodyPost_ret (results_Rt Tryz.results148 _ _ _ _ _ _ rfl (Tri.set (x0 := .bool false) (y0 := .slice none 0 0) (z0 := .slice none 0 0) ⟨x2_0, x2_1, x2_2, y2_0, y2_1, y2_2⟩ _ _ _)) rfl ⟨rfl, below_set3 (below_step zb gb) (by omega) _ _ _⟩

set_option maxRecDepth 100000 in
set_option maxHeartbeats 4000000 in
theorem ratio_make (b c : Bool) (v u : Value) (ln ld : List Nat) (w : World) (hv : Rd w v ln) (hu : Rd w u ld) (h1 : ln.length ≤ 3000) (h2 : ld.length ≤ 3000) (h0 : val ld ≠ 0) (q : Rat) (hq : rat (b != c) (val ln) (val ld) = q) (hs : Hid (szq q ≤ 1000)) :
    Calls Tryz.prog 148 #[aggI b v, aggI c u] w (GivesQK w q) := by
  have hnb : 0 < nbits (val ld) := Nat.pos_of_ne_zero (fun e => h0 (nbits_eq_zero.1 e))
  have Z0 := Lib.hid h0
  have H9 := Lib.hid (show rat (!b == c) (val ln) (val ld) = q from hq)
  clear h0 hq
  obtain ⟨a0, n0, c0, rfl, H0, hm0⟩ := hv.open
  obtain ⟨a1, n1, c1, rfl, H1, hm1⟩ := hu.open
  go_enter Tryz.func148, Tryz.ntmps148
  go_wp2_with fail
  obtain ⟨W0, hW0⟩ : ∃ W0, ((w.alloc (.cells #[.bool b, .slice a0 n0 c0] 95)).alloc (.cells #[.bool c, .slice a1 n1 c1] 95)).alloc (.cells #[.bool false, .slice none 0 0, .slice none 0 0] 47) = W0 := ⟨_, rfl⟩
  have HXW0 := Lib.hid (show ∀ W', Below W0.heap.size W0 W' → (Bx2 W' w.heap.size (.bool b) (.slice a0 n0 c0) ∧ Bx2 W' (w.heap.size + 1) (.bool c) (.slice a1 n1 c1) ∧ Bx3 W' (w.heap.size + 1 + 1) (.bool false) (.slice none 0 0) (.slice none 0 0)) from fun W' hb => by
      refine ⟨bx2 hb ?_ ?_ ?_ ?_, bx2 hb ?_ ?_ ?_ ?_, bx3 hb ?_ ?_ ?_ ?_ ?_ ?_⟩
      all_goals first | assumption | (rw [← hW0]; simp [go_sem]))
  have zb : Below w.heap.size w W0 := by rw [← hW0]; exact below_step (below_step (below_new _ _) (below_new _ _)) (below_new _ _)
  rw [hW0]
  clear hW0
  have i0 := hv.to zb
  have i1 := hu.to zb
  have gb : Below W0.heap.size W0 W0 := Below.refl _ _
  obtain ⟨⟨z0, x0_0, x0_1, y0_0, y0_1⟩, ⟨z1, x1_0, x1_1, y1_0, y1_1⟩, ⟨z2, x2_0, x2_1, x2_2, y2_0, y2_1, y2_2⟩⟩ := HXW0.out _ gb
  refine (nat_bits _ ld _ (i1.to gb) (by omega)).mono ?_
  rintro e w1 ⟨rfl, rfl⟩
  go_wp2_with fail
  refine (ratio_lowest (!b == c) _ _ _ _ _ (i0.to gb) (i1.to gb) h1 h2 q H9.out hs).mono ?_
  clear x0_0 y0_0 x0_1 y0_1 x1_0 y1_0 x1_1 y1_1 x2_0 y2_0 x2_1 y2_1 x2_2 y2_2
  rintro e w2 ⟨ng2, a2_, n2_, c2_, p2_, m2_, k2_, rfl, g2, hb2⟩
  replace gb := below_step gb hb2
  obtain ⟨⟨z0, x0_0, x0_1, y0_0, y0_1⟩, ⟨z1, x1_0, x1_1, y1_0, y1_1⟩, ⟨z2, x2_0, x2_1, x2_2, y2_0, y2_1, y2_2⟩⟩ := HXW0.out _ gb
  go_wp2_with fail
  refine bodyPost_ret (results_Rt Tryz.results148 _ _ _ _ _ _ rfl (Tri.set (x0 := .bool false) (y0 := .slice none 0 0) (z0 := .slice none 0 0) ⟨x2_0, x2_1, x2_2, y2_0, y2_1, y2_2⟩ _ _ _)) rfl (finRK (below_step zb gb) (by omega) ?_ g2)
  omega

set_option maxRecDepth 100000 in
set_option maxHeartbeats 4000000 in
theorem ratio_of_int (n z : Int) (w : World) (hz : z = n) (m0 : -9223372036854775808 ≤ n) (m1 : n < 9223372036854775808) :
    Calls Tryz.prog 38 #[.int .i64 n] w (GivesQ w (z : Rat)) := by
  have Hz := Lib.hid hz
  have S1 := Lib.hid (szi_word' (z := z) (by omega) (by omega))
  have S2 := Lib.hid (show szq (z : Rat) ≤ 1000 from szq_int S1.out)
  have K2 := Lib.hid (show (limbs (1 : Int).toNat).length ≤ 3000 by decide +kernel)
  have H9 := Lib.hid (show ∀ ng, decide (z < 0) = ng → rat ng (val (limbs z.natAbs)) (val (limbs (1 : Int).toNat)) = (z : Rat) from fun ng e => by rw [← e]; exact rat_int z)
  clear hz
  go_enter Tryz.func38, Tryz.ntmps38
  go_wp2_with fail
  obtain ⟨W0, hW0⟩ : ∃ W0, w.alloc (.cells #[.bool false, .slice none 0 0, .slice none 0 0] 47) = W0 := ⟨_, rfl⟩
  have HXW0 := Lib.hid (show ∀ W', Below W0.heap.size W0 W' → (Bx3 W' w.heap.size (.bool false) (.slice none 0 0) (.slice none 0 0)) from fun W' hb => by
      apply bx3 hb
      all_goals first | assumption | (rw [← hW0]; simp [go_sem]))
  have zb : Below w.heap.size w W0 := by rw [← hW0]; exact below_new _ _
  rw [hW0]
  clear hW0
  have gb : Below W0.heap.size W0 W0 := Below.refl _ _
  obtain ⟨z0, x0_0, x0_1, x0_2, y0_0, y0_1, y0_2⟩ := HXW0.out _ gb
  refine (of_c n z _ Hz.out m0 m1).mono ?_
  clear x0_0 y0_0 x0_1 y0_1 x0_2 y0_2
  rintro e w1 ⟨ng1, a1_, n1_, c1_, rfl, g1, hb1⟩
  replace gb := below_step gb hb1
  obtain ⟨z0, x0_0, x0_1, x0_2, y0_0, y0_1, y0_2⟩ := HXW0.out _ gb
  go_wp2_with fail
  obtain ⟨W1, hW1⟩ : ∃ W1, w1.alloc (.cells #[.bool ng1, .slice a1_ n1_ c1_] 95) = W1 := ⟨_, rfl⟩
  have hb_W1 : Below w1.heap.size w1 W1 := by rw [← hW1]; exact below_new _ _
  clear x0_0 y0_0 x0_1 y0_1 x0_2 y0_2
  replace g1 := g1.to hb_W1
  replace gb := below_step gb hb_W1
  obtain ⟨z0, x0_0, x0_1, x0_2, y0_0, y0_1, y0_2⟩ := HXW0.out _ gb
  have x3_0 : W1.cell? ⟨w1.heap.size, 0, none⟩ = some (.bool ng1) := by rw [← hW1]; simp [go_sem]
  have y3_0 : W1.frozen? ⟨w1.heap.size, 0, none⟩ = false := by rw [← hW1]; simp [go_sem]
  have x3_1 : W1.cell? ⟨w1.heap.size, 1, none⟩ = some (.slice a1_ n1_ c1_) := by rw [← hW1]; simp [go_sem]
  have y3_1 : W1.frozen? ⟨w1.heap.size, 1, none⟩ = false := by rw [← hW1]; simp [go_sem]
  have z3 : w1.heap.size < W1.heap.size := by rw [← hW1]; simp
  rw [hW1]
  clear hW1
  replace zb := below_step zb gb
  have HXW1 := Lib.hid (show ∀ W', Below W1.heap.size W1 W' → (Bx3 W' w.heap.size (.bool false) (.slice none 0 0) (.slice none 0 0) ∧ Bx2 W' w1.heap.size (.bool ng1) (.slice a1_ n1_ c1_)) from fun W' hb => by
      refine ⟨bx3 hb ?_ ?_ ?_ ?_ ?_ ?_, bx2 hb ?_ ?_ ?_ ?_⟩
      all_goals first | assumption | assumption)
  replace gb := Below.refl W1.heap.size W1
  go_wp2_with fail
  have H8 := Lib.hid (H9.out ng1 (by have k := g1.2.1; exact k))
  have nz3 : w1.heap.size ≠ w.heap.size := by omega
  go_region_held3 (fun W' => W'.cell? ⟨w1.heap.size, 0, none⟩ = some (.bool ng1) ∧ W'.cell? ⟨w1.heap.size, 1, none⟩ = some (.slice a1_ n1_ c1_)) (first | (with_reducible exact ⟨x3_0, x3_1⟩) | (with_reducible exact ⟨cell_put (cell_put (cell_put (x3_0) (.inl nz3) _) (.inl nz3) _) (.inl nz3) _, cell_put (cell_put (cell_put (x3_1) (.inl nz3) _) (.inl nz3) _) (.inl nz3) _⟩) | exact ⟨x3_0, x3_1⟩) (first
    | (go_at_call 62; (with_reducible refine (ratio_lowest ng1 _ _ _ _ _ (g1.to gb).isI.up g2.rd (Nat.le_trans S1.out (by omega)) K2.out (z : Rat) H8.out S2).mono ?_); rintro e w3 ⟨ng3, a3_, n3_, c3_, p3_, m3_, k3_, rfl, g3, hb3⟩; have g2 := g2.to hb3; have gb := below_step gb hb3; obtain ⟨⟨z0, x0_0, x0_1, x0_2, y0_0, y0_1, y0_2⟩, ⟨z3, x3_0, x3_1, y3_0, y3_1⟩⟩ := HXW1.out _ gb)
    | (go_at_call 63; have gb := gb.drew; (with_reducible refine (nat_of 1 _ (by omega) (by omega)).mono ?_); rintro e w2 ⟨v2, rfl, g2, hb2⟩; obtain ⟨a2_, n2_, c2_, rfl, H2, hm2⟩ := g2.rd.open; have gb := below_step gb hb2; obtain ⟨⟨z0, x0_0, x0_1, x0_2, y0_0, y0_1, y0_2⟩, ⟨z3, x3_0, x3_1, y3_0, y3_1⟩⟩ := HXW1.out _ gb))
  go_wp2_with fail
  refine bodyPost_ret (results_R Tryz.results38 _ _ _ _ _ _ rfl (Tri.set (x0 := .bool false) (y0 := .slice none 0 0) (z0 := .slice none 0 0) ⟨x0_0, x0_1, x0_2, y0_0, y0_1, y0_2⟩ _ _ _)) rfl (finR (below_step zb gb) (by omega) ?_ g3)
  omega

end Go.Proofs.YtkjcdnlpjldhaaaGreat


namespace Go.Proofs.YtkjcdnlpjldhaaaGreat
open Go.RowKit Tw
set_option linter.unusedVariables false
set_option linter.unusedSimpArgs false
attribute [local go_sem ↓] Go.wp_at_zero Go.wp_at_succ

theorem finZ1 {w w1 : World} {rb : Nat} (hb : Below w.heap.size w w1) (hrb : w.heap.size ≤ rb) (hlt : rb < w1.heap.size) :
    GivesQ w 0 (.returned (aggR false (.slice none 0 0) (.slice (some ⟨w1.heap.size, 0, none⟩) 1 1))) ((set3 w1 rb (.bool false) (.slice none 0 0) (.slice (some ⟨w1.heap.size, 0, none⟩) 1 1)).alloc (.cells #[u32v 1] 97)) := by
  have hb3 := below_set3 hb hrb (.bool false) (.slice none 0 0) (.slice (some ⟨w1.heap.size, 0, none⟩) 1 1)
  refine ⟨false, none, 0, 0, _, _, _, rfl, canQ_mk (by rw [show limbs (0 : Rat).num.natAbs = [] by decide +kernel]; exact Own.nil _ _) ?_ (by decide +kernel) (by decide +kernel), below_step hb3 (below_new _ _)⟩
  rw [show limbs (0 : Rat).den = [1] by decide +kernel]
  exact (own_lit_at (set3 w1 rb (.bool false) (.slice none 0 0) (.slice (some ⟨w1.heap.size, 0, none⟩) 1 1)) w1.heap.size [1] (by simp) (small1 (by omega)) (by simp [maxLen])).mono hb3.size

theorem words_o (va vb : Value) (la lb : List Nat) (o : Bool) (w : World) (ha : Rd w va la) (hb : Rd w vb lb) (ho : Hid (decide (la = lb) = o)) :
    Calls Tryz.prog 46 #[va, vb] w fun e w' => e = .returned (.bool o) ∧ Below w.heap.size w w' := by
  by_cases h : la = lb
  · subst h
    rw [← ho.out, decide_eq_true rfl]
    exact words_same va vb la w ha hb
  · rw [← ho.out, decide_eq_false h]
    exact words_diff va vb la lb w ha hb h

def IsF (w : World) (v u : Value) (ln ld : List Nat) : Prop := Rd w v ln ∧ Rd w u ld

theorem IsF.to {w w' : World} {v u : Value} {ln ld : List Nat} (h : IsF w v u ln ld) (hb : Below w.heap.size w w') : IsF w' v u ln ld := ⟨h.1.to hb, h.2.to hb⟩

theorem IsF.drew {w : World} {v u : Value} {ln ld : List Nat} (h : IsF w v u ln ld) : IsF w.drew v u ln ld := ⟨h.1.drew, h.2.drew⟩

theorem IsQ.isF {w : World} {b : Bool} {v u : Value} {ln ld : List Nat} {q : Rat} (h : IsQ w b v u ln ld q) : IsF w v u ln ld := ⟨h.1, h.2.1⟩

theorem CanQ.isF {lo hi : Nat} {w : World} {b : Bool} {v u : Value} {q : Rat} (h : CanQ lo hi w b v u q) : IsF w v u (limbs q.num.natAbs) (limbs q.den) := ⟨h.1.rd, h.2.1.rd⟩

theorem CanQ.ng {lo hi : Nat} {w : World} {b : Bool} {v u : Value} {q : Rat} (h : CanQ lo hi w b v u q) : decide (q < 0) = b := h.2.2.1

def rightQ (b : Bool) (ln ld : List Nat) (x : Rat) : Bool := decide (x < 0) == b && decide (limbs x.num.natAbs = ln) && decide (limbs x.den = ld)

set_option maxRecDepth 100000 in
set_option maxHeartbeats 4000000 in
theorem ref8_lowest_no (b : Bool) (v u : Value) (ln ld : List Nat) (w : World) (hv : Rd w v ln) (hu : Rd w u ld) (h1 : ln.length ≤ 3000) (h2 : ld.length ≤ 3000) (h0 : val ld = 0) :
    Calls Tryz.prog 47 #[aggI b v, u] w (GivesQ w (rat b (val ln) (val ld))) := by
  rw [h0, rat_zero_den]
  have Z0 := Lib.hid h0
  clear h0
  obtain ⟨a0, n0, c0, rfl, H0, hm0⟩ := hv.open
  obtain ⟨a1, n1, c1, rfl, H1, hm1⟩ := hu.open
  go_enter Tryz.func47, Tryz.ntmps47
  go_wp2_with fail
  obtain ⟨W0, hW0⟩ : ∃ W0, (w.alloc (.cells #[.bool b, .slice a0 n0 c0] 95)).alloc (.cells #[.bool false, .slice none 0 0, .slice none 0 0] 47) = W0 := ⟨_, rfl⟩
  have HXW0 := Lib.hid (show ∀ W', Below W0.heap.size W0 W' → (Bx2 W' w.heap.size (.bool b) (.slice a0 n0 c0) ∧ Bx3 W' (w.heap.size + 1) (.bool false) (.slice none 0 0) (.slice none 0 0)) from fun W' hb => by
      refine ⟨bx2 hb ?_ ?_ ?_ ?_, bx3 hb ?_ ?_ ?_ ?_ ?_ ?_⟩
      all_goals first | assumption | (rw [← hW0]; simp [go_sem]))
  have zb : Below w.heap.size w W0 := by rw [← hW0]; exact below_step (below_new _ _) (below_new _ _)
  rw [hW0]
  clear hW0
  have i0 := hv.to zb
  have i1 := hu.to zb
  have gb : Below W0.heap.size W0 W0 := Below.refl _ _
  obtain ⟨⟨z0, x0_0, x0_1, y0_0, y0_1⟩, ⟨z1, x1_0, x1_1, x1_2, y1_0, y1_1, y1_2⟩⟩ := HXW0.out _ gb
  refine (ref5_lowest_no _ _ ln ld _ (i0.to gb) (i1.to gb) (by omega) Z0.out).mono ?_
  clear x0_0 y0_0 x0_1 y0_1 x1_0 y1_0 x1_1 y1_1 x1_2 y1_2
  rintro e w1 ⟨rfl, hb1⟩
  replace gb := below_step gb hb1
  obtain ⟨⟨z0, x0_0, x0_1, y0_0, y0_1⟩, ⟨z1, x1_0, x1_1, x1_2, y1_0, y1_1, y1_2⟩⟩ := HXW0.out _ gb
  go_wp2_with fail
  refine bodyPost_ret (results_R Tryz.results47 _ _ _ _ _ _ rfl (Tri.alloc (Tri.set (x0 := .bool false) (y0 := .slice none 0 0) (z0 := .slice none 0 0) ⟨x1_0, x1_1, x1_2, y1_0, y1_1, y1_2⟩ _ _ _) _)) rfl (finZ1 (below_step zb gb) (by omega) (by omega))

set_option maxRecDepth 100000 in
set_option maxHeartbeats 4000000 in
theorem ref8_lowest_zero (b : Bool) (v u : Value) (ln ld : List Nat) (w : World) (hv : Rd w v ln) (hu : Rd w u ld) (h1 : ln.length ≤ 3000) (h2 : ld.length ≤ 3000) (h0 : 0 < val ld) (h3 : val ln = 0) :
    Calls Tryz.prog 47 #[aggI b v, u] w (GivesQ w (rat b (val ln) (val ld))) := by
  rw [h3, rat_zero_num]
  have Z0 := Lib.hid h0
  have Z3 := Lib.hid (show limbs (val ln / Nat.gcd (val ln) (val ld)) = [] by rw [h3, Nat.zero_div]; rfl)
  clear h0 h3
  obtain ⟨a0, n0, c0, rfl, H0, hm0⟩ := hv.open
  obtain ⟨a1, n1, c1, rfl, H1, hm1⟩ := hu.open
  go_enter Tryz.func47, Tryz.ntmps47
  go_wp2_with fail
  obtain ⟨W0, hW0⟩ : ∃ W0, (w.alloc (.cells #[.bool b, .slice a0 n0 c0] 95)).alloc (.cells #[.bool false, .slice none 0 0, .slice none 0 0] 47) = W0 := ⟨_, rfl⟩
  have HXW0 := Lib.hid (show ∀ W', Below W0.heap.size W0 W' → (Bx2 W' w.heap.size (.bool b) (.slice a0 n0 c0) ∧ Bx3 W' (w.heap.size + 1) (.bool false) (.slice none 0 0) (.slice none 0 0)) from fun W' hb => by
      refine ⟨bx2 hb ?_ ?_ ?_ ?_, bx3 hb ?_ ?_ ?_ ?_ ?_ ?_⟩
      all_goals first | assumption | (rw [← hW0]; simp [go_sem]))
  have zb : Below w.heap.size w W0 := by rw [← hW0]; exact below_step (below_new _ _) (below_new _ _)
  rw [hW0]
  clear hW0
  have i0 := hv.to zb
  have i1 := hu.to zb
  have gb : Below W0.heap.size W0 W0 := Below.refl _ _
  obtain ⟨⟨z0, x0_0, x0_1, y0_0, y0_1⟩, ⟨z1, x1_0, x1_1, x1_2, y1_0, y1_1, y1_2⟩⟩ := HXW0.out _ gb
  refine (ref5_lowest _ _ ln ld _ (i0.to gb) (i1.to gb) (by omega) (by omega) Z0.out).mono ?_
  clear x0_0 y0_0 x0_1 y0_1 x1_0 y1_0 x1_1 y1_1 x1_2 y1_2
  rintro e w1 ⟨v1, u1, rfl, g1, d1, hb1⟩
  obtain ⟨a1_, n1_, c1_, rfl, H1, hm1⟩ := g1.rd.open
  obtain ⟨p1_, m1_, k1_, rfl, J1, jm1⟩ := d1.rd.open
  replace gb := below_step gb hb1
  obtain ⟨⟨z0, x0_0, x0_1, y0_0, y0_1⟩, ⟨z1, x1_0, x1_1, x1_2, y1_0, y1_1, y1_2⟩⟩ := HXW0.out _ gb
  obtain rfl : n1_ = 0 := by rw [← H1.out, Z3.out]; rfl
  go_wp2_with fail
  refine bodyPost_ret (results_R Tryz.results47 _ _ _ _ _ _ rfl (Tri.alloc (Tri.set (x0 := .bool false) (y0 := .slice none 0 0) (z0 := .slice none 0 0) ⟨x1_0, x1_1, x1_2, y1_0, y1_1, y1_2⟩ _ _ _) _)) rfl (finZ1 (below_step zb gb) (by omega) (by omega))

set_option maxRecDepth 100000 in
set_option maxHeartbeats 4000000 in
theorem ref8_lowest_some (b : Bool) (v u : Value) (ln ld : List Nat) (w : World) (hv : Rd w v ln) (hu : Rd w u ld) (h1 : ln.length ≤ 3000) (h2 : ld.length ≤ 3000) (h0 : 0 < val ld) (h3 : 0 < val ln) (hs : szq (rat b (val ln) (val ld)) ≤ 1000) :
    Calls Tryz.prog 47 #[aggI b v, u] w (GivesQ w (rat b (val ln) (val ld))) := by
  have Z0 := Lib.hid h0
  have Z3 := Lib.hid h3
  have Hs := Lib.hid hs
  have H4 := Lib.hid (Nat.ne_of_gt (lowest_pos h3 h0))
  clear h0 h3 hs
  obtain ⟨a0, n0, c0, rfl, H0, hm0⟩ := hv.open
  obtain ⟨a1, n1, c1, rfl, H1, hm1⟩ := hu.open
  go_enter Tryz.func47, Tryz.ntmps47
  go_wp2_with fail
  obtain ⟨W0, hW0⟩ : ∃ W0, (w.alloc (.cells #[.bool b, .slice a0 n0 c0] 95)).alloc (.cells #[.bool false, .slice none 0 0, .slice none 0 0] 47) = W0 := ⟨_, rfl⟩
  have HXW0 := Lib.hid (show ∀ W', Below W0.heap.size W0 W' → (Bx2 W' w.heap.size (.bool b) (.slice a0 n0 c0) ∧ Bx3 W' (w.heap.size + 1) (.bool false) (.slice none 0 0) (.slice none 0 0)) from fun W' hb => by
      refine ⟨bx2 hb ?_ ?_ ?_ ?_, bx3 hb ?_ ?_ ?_ ?_ ?_ ?_⟩
      all_goals first | assumption | (rw [← hW0]; simp [go_sem]))
  have zb : Below w.heap.size w W0 := by rw [← hW0]; exact below_step (below_new _ _) (below_new _ _)
  rw [hW0]
  clear hW0
  have i0 := hv.to zb
  have i1 := hu.to zb
  have gb : Below W0.heap.size W0 W0 := Below.refl _ _
  obtain ⟨⟨z0, x0_0, x0_1, y0_0, y0_1⟩, ⟨z1, x1_0, x1_1, x1_2, y1_0, y1_1, y1_2⟩⟩ := HXW0.out _ gb
  refine (ref5_lowest _ _ ln ld _ (i0.to gb) (i1.to gb) (by omega) (by omega) Z0.out).mono ?_
  clear x0_0 y0_0 x0_1 y0_1 x1_0 y1_0 x1_1 y1_1 x1_2 y1_2
  rintro e w1 ⟨v1, u1, rfl, g1, d1, hb1⟩
  obtain ⟨a1_, n1_, c1_, rfl, H1, hm1⟩ := g1.rd.open
  obtain ⟨p1_, m1_, k1_, rfl, J1, jm1⟩ := d1.rd.open
  replace gb := below_step gb hb1
  obtain ⟨⟨z0, x0_0, x0_1, y0_0, y0_1⟩, ⟨z1, x1_0, x1_1, x1_2, y1_0, y1_1, y1_2⟩⟩ := HXW0.out _ gb
  have hn1 : 0 < n1_ := by rw [← H1.out]; have := H4.out; rw [sz_def]; exact Nat.pos_of_ne_zero fun e => this (sz_eq_zero.1 e)
  go_wp2_with fail
  have gg := canR g1 d1 Z0.out Z3.out Hs.out
  refine bodyPost_ret (results_R Tryz.results47 _ _ _ _ _ _ rfl (Tri.set (x0 := .bool false) (y0 := .slice none 0 0) (z0 := .slice none 0 0) (⟨x1_0, x1_1, x1_2, y1_0, y1_1, y1_2⟩) _ _ _)) rfl (finR (below_step zb gb) (by omega) ?_ gg)
  omega

theorem ref8_lowest (b : Bool) (v u : Value) (ln ld : List Nat) (w : World) (hv : Rd w v ln) (hu : Rd w u ld) (h1 : ln.length ≤ 3000) (h2 : ld.length ≤ 3000) (q : Rat) (hq : rat b (val ln) (val ld) = q) (hs : Hid (szq q ≤ 1000)) :
    Calls Tryz.prog 47 #[aggI b v, u] w (GivesQ w q) := by
  subst hq
  rcases Nat.eq_zero_or_pos (val ld) with h0 | h0
  · exact ref8_lowest_no b v u ln ld w hv hu h1 h2 h0
  rcases Nat.eq_zero_or_pos (val ln) with h3 | h3
  · exact ref8_lowest_zero b v u ln ld w hv hu h1 h2 h0 h3
  · exact ref8_lowest_some b v u ln ld w hv hu h1 h2 h0 h3 hs.out

set_option maxRecDepth 100000 in
set_option maxHeartbeats 4000000 in
theorem ref8_fix {x : Rat} (b : Bool) (v u : Value) (ln ld : List Nat) (w : World) (h : IsQ w b v u ln ld x) (q : Rat) (hq : x = q) (hs : Hid (szq q ≤ 1000)) :
    Calls Tryz.prog 67 #[aggR b v u] w (GivesQ w q) := by
  have H9 := Lib.hid (show rat b (val ln) (val ld) = q by rw [h.2.2.1, hq])
  obtain ⟨a0, n0, c0, rfl, H0, hm0⟩ := h.1.open
  obtain ⟨a1, n1, c1, rfl, H1, hm1⟩ := h.2.1.open
  clear hq
  go_enter Tryz.func67, Tryz.ntmps67
  go_wp2_with fail
  obtain ⟨W0, hW0⟩ : ∃ W0, (w.alloc (.cells #[.bool b, .slice a0 n0 c0, .slice a1 n1 c1] 47)).alloc (.cells #[.bool false, .slice none 0 0, .slice none 0 0] 47) = W0 := ⟨_, rfl⟩
  have HXW0 := Lib.hid (show ∀ W', Below W0.heap.size W0 W' → (Bx3 W' w.heap.size (.bool b) (.slice a0 n0 c0) (.slice a1 n1 c1) ∧ Bx3 W' (w.heap.size + 1) (.bool false) (.slice none 0 0) (.slice none 0 0)) from fun W' hb => by
      refine ⟨bx3 hb ?_ ?_ ?_ ?_ ?_ ?_, bx3 hb ?_ ?_ ?_ ?_ ?_ ?_⟩
      all_goals first | assumption | (rw [← hW0]; simp [go_sem]))
  have zb : Below w.heap.size w W0 := by rw [← hW0]; exact below_step (below_new _ _) (below_new _ _)
  rw [hW0]
  clear hW0
  have i0 := h.to zb
  have gb : Below W0.heap.size W0 W0 := Below.refl _ _
  obtain ⟨⟨z0, x0_0, x0_1, x0_2, y0_0, y0_1, y0_2⟩, ⟨z1, x1_0, x1_1, x1_2, y1_0, y1_1, y1_2⟩⟩ := HXW0.out _ gb
  refine (ref8_lowest b _ _ ln ld _ (i0.to gb).1 (i0.to gb).2.1 (Nat.le_trans h.2.2.2.1 (by omega)) (Nat.le_trans h.2.2.2.2 (by omega)) q H9.out hs).mono ?_
  clear x0_0 y0_0 x0_1 y0_1 x0_2 y0_2 x1_0 y1_0 x1_1 y1_1 x1_2 y1_2
  rintro e w1 ⟨ng1, a1_, n1_, c1_, p1_, m1_, k1_, rfl, g1, hb1⟩
  replace gb := below_step gb hb1
  obtain ⟨⟨z0, x0_0, x0_1, x0_2, y0_0, y0_1, y0_2⟩, ⟨z1, x1_0, x1_1, x1_2, y1_0, y1_1, y1_2⟩⟩ := HXW0.out _ gb
  go_wp2_with fail
  refine bodyPost_ret (results_R Tryz.results67 _ _ _ _ _ _ rfl (Tri.set (x0 := .bool false) (y0 := .slice none 0 0) (z0 := .slice none 0 0) ⟨x1_0, x1_1, x1_2, y1_0, y1_1, y1_2⟩ _ _ _)) rfl (finR (below_step zb gb) (by omega) ?_ g1)
  omega

set_option maxRecDepth 100000 in
set_option maxHeartbeats 4000000 in
theorem ref8_equal (b : Bool) (v u : Value) (ln ld : List Nat) (c : Bool) (v' u' : Value) (ln' ld' : List Nat) (w : World) (h : IsF w v u ln ld) (h' : IsF w v' u' ln' ld') (o : Bool) (ho : (b == c && decide (ln = ln') && decide (ld = ld')) = o) :
    Calls Tryz.prog 24 #[aggR b v u, aggR c v' u'] w (fun e w' => e = .returned (.bool o) ∧ Below w.heap.size w w') := by
  obtain ⟨o1, ho1⟩ : ∃ o, decide (ln = ln') = o := ⟨_, rfl⟩
  obtain ⟨o2, ho2⟩ : ∃ o, decide (ld = ld') = o := ⟨_, rfl⟩
  have O1 := Lib.hid ho1
  have O2 := Lib.hid ho2
  rw [ho1, ho2] at ho
  clear ho1 ho2
  obtain ⟨a0, n0, c0, rfl, H0, hm0⟩ := h.1.open
  obtain ⟨a1, n1, c1, rfl, H1, hm1⟩ := h.2.open
  obtain ⟨a2, n2, c2, rfl, H2, hm2⟩ := h'.1.open
  obtain ⟨a3, n3, c3, rfl, H3, hm3⟩ := h'.2.open
  have ho' := Lib.hid ho
  clear ho
  rcases Bool.eq_false_or_eq_true (b == c) with e1 | e1
  rotate_left
  · rw [e1] at ho'
    go_enter Tryz.func24, Tryz.ntmps24
    go_wp2_with fail
    obtain ⟨W0, hW0⟩ : ∃ W0, (w.alloc (.cells #[.bool b, .slice a0 n0 c0, .slice a1 n1 c1] 47)).alloc (.cells #[.bool c, .slice a2 n2 c2, .slice a3 n3 c3] 47) = W0 := ⟨_, rfl⟩
    have HXW0 := Lib.hid (show ∀ W', Below W0.heap.size W0 W' → (Bx3 W' w.heap.size (.bool b) (.slice a0 n0 c0) (.slice a1 n1 c1) ∧ Bx3 W' (w.heap.size + 1) (.bool c) (.slice a2 n2 c2) (.slice a3 n3 c3)) from fun W' hb => by
        refine ⟨bx3 hb ?_ ?_ ?_ ?_ ?_ ?_, bx3 hb ?_ ?_ ?_ ?_ ?_ ?_⟩
        all_goals first | assumption | (rw [← hW0]; simp [go_sem]))
    have zb : Below w.heap.size w W0 := by rw [← hW0]; exact below_step (below_new _ _) (below_new _ _)
    rw [hW0]
    clear hW0
    have i0 := h.to zb
    have i1 := h'.to zb
    have gb : Below W0.heap.size W0 W0 := Below.refl _ _
    obtain ⟨⟨z0, x0_0, x0_1, x0_2, y0_0, y0_1, y0_2⟩, ⟨z1, x1_0, x1_1, x1_2, y1_0, y1_1, y1_2⟩⟩ := HXW0.out _ gb
    go_ret
    exact ⟨ret_one (congrArg Value.bool (by have k := ho'.out; simpa using k)), below_step zb gb⟩
  rcases Bool.eq_false_or_eq_true o1 with e2 | e2
  rotate_left
  · rw [e1] at ho'
    go_enter Tryz.func24, Tryz.ntmps24
    go_wp2_with fail
    obtain ⟨W0, hW0⟩ : ∃ W0, (w.alloc (.cells #[.bool b, .slice a0 n0 c0, .slice a1 n1 c1] 47)).alloc (.cells #[.bool c, .slice a2 n2 c2, .slice a3 n3 c3] 47) = W0 := ⟨_, rfl⟩
    have HXW0 := Lib.hid (show ∀ W', Below W0.heap.size W0 W' → (Bx3 W' w.heap.size (.bool b) (.slice a0 n0 c0) (.slice a1 n1 c1) ∧ Bx3 W' (w.heap.size + 1) (.bool c) (.slice a2 n2 c2) (.slice a3 n3 c3)) from fun W' hb => by
        refine ⟨bx3 hb ?_ ?_ ?_ ?_ ?_ ?_, bx3 hb ?_ ?_ ?_ ?_ ?_ ?_⟩
        all_goals first | assumption | (rw [← hW0]; simp [go_sem]))
    have zb : Below w.heap.size w W0 := by rw [← hW0]; exact below_step (below_new _ _) (below_new _ _)
    rw [hW0]
    clear hW0
    have i0 := h.to zb
    have i1 := h'.to zb
    have gb : Below W0.heap.size W0 W0 := Below.refl _ _
    obtain ⟨⟨z0, x0_0, x0_1, x0_2, y0_0, y0_1, y0_2⟩, ⟨z1, x1_0, x1_1, x1_2, y1_0, y1_1, y1_2⟩⟩ := HXW0.out _ gb
    refine (words_o _ _ _ _ o1 _ (i0.to gb).1 (i1.to gb).1 O1).mono ?_
    clear x0_0 y0_0 x0_1 y0_1 x0_2 y0_2 x1_0 y1_0 x1_1 y1_1 x1_2 y1_2
    rintro e w1 ⟨rfl, hb1⟩
    replace gb := below_step gb hb1
    obtain ⟨⟨z0, x0_0, x0_1, x0_2, y0_0, y0_1, y0_2⟩, ⟨z1, x1_0, x1_1, x1_2, y1_0, y1_1, y1_2⟩⟩ := HXW0.out _ gb
    obtain rfl := e2
    go_wp2_with fail
    go_ret
    exact ⟨ret_one (congrArg Value.bool (by have k := ho'.out; simpa using k)), below_step zb gb⟩
  · rw [e1] at ho'
    go_enter Tryz.func24, Tryz.ntmps24
    go_wp2_with fail
    obtain ⟨W0, hW0⟩ : ∃ W0, (w.alloc (.cells #[.bool b, .slice a0 n0 c0, .slice a1 n1 c1] 47)).alloc (.cells #[.bool c, .slice a2 n2 c2, .slice a3 n3 c3] 47) = W0 := ⟨_, rfl⟩
    have HXW0 := Lib.hid (show ∀ W', Below W0.heap.size W0 W' → (Bx3 W' w.heap.size (.bool b) (.slice a0 n0 c0) (.slice a1 n1 c1) ∧ Bx3 W' (w.heap.size + 1) (.bool c) (.slice a2 n2 c2) (.slice a3 n3 c3)) from fun W' hb => by
        refine ⟨bx3 hb ?_ ?_ ?_ ?_ ?_ ?_, bx3 hb ?_ ?_ ?_ ?_ ?_ ?_⟩
        all_goals first | assumption | (rw [← hW0]; simp [go_sem]))
    have zb : Below w.heap.size w W0 := by rw [← hW0]; exact below_step (below_new _ _) (below_new _ _)
    rw [hW0]
    clear hW0
    have i0 := h.to zb
    have i1 := h'.to zb
    have gb : Below W0.heap.size W0 W0 := Below.refl _ _
    obtain ⟨⟨z0, x0_0, x0_1, x0_2, y0_0, y0_1, y0_2⟩, ⟨z1, x1_0, x1_1, x1_2, y1_0, y1_1, y1_2⟩⟩ := HXW0.out _ gb
    refine (words_o _ _ _ _ o1 _ (i0.to gb).1 (i1.to gb).1 O1).mono ?_
    clear x0_0 y0_0 x0_1 y0_1 x0_2 y0_2 x1_0 y1_0 x1_1 y1_1 x1_2 y1_2
    rintro e w1 ⟨rfl, hb1⟩
    replace gb := below_step gb hb1
    obtain ⟨⟨z0, x0_0, x0_1, x0_2, y0_0, y0_1, y0_2⟩, ⟨z1, x1_0, x1_1, x1_2, y1_0, y1_1, y1_2⟩⟩ := HXW0.out _ gb
    obtain rfl := e2
    go_wp2_with fail
    refine (words_o _ _ _ _ o2 _ (i0.to gb).2 (i1.to gb).2 O2).mono ?_
    clear x0_0 y0_0 x0_1 y0_1 x0_2 y0_2 x1_0 y1_0 x1_1 y1_1 x1_2 y1_2
    rintro e w2 ⟨rfl, hb2⟩
    replace gb := below_step gb hb2
    obtain ⟨⟨z0, x0_0, x0_1, x0_2, y0_0, y0_1, y0_2⟩, ⟨z1, x1_0, x1_1, x1_2, y1_0, y1_1, y1_2⟩⟩ := HXW0.out _ gb
    go_wp2_with fail
    go_ret
    exact ⟨ret_one (congrArg Value.bool (by have k := ho'.out; simpa using k)), below_step zb gb⟩

set_option maxRecDepth 100000 in
set_option maxHeartbeats 4000000 in
theorem ref8_right {x : Rat} (b : Bool) (v u : Value) (ln ld : List Nat) (w : World) (h : IsQ w b v u ln ld x) (o : Bool) (ho : rightQ b ln ld x = o) :
    Calls Tryz.prog 59 #[aggR b v u] w (fun e w' => e = .returned (.bool o) ∧ Below w.heap.size w w') := by
  have Hx := isQ_sz h
  have HO := Lib.hid ho
  clear ho
  obtain ⟨a0, n0, c0, rfl, H0, hm0⟩ := h.1.open
  obtain ⟨a1, n1, c1, rfl, H1, hm1⟩ := h.2.1.open
  go_enter Tryz.func59, Tryz.ntmps59
  go_wp2_with fail
  obtain ⟨W0, hW0⟩ : ∃ W0, w.alloc (.cells #[.bool b, .slice a0 n0 c0, .slice a1 n1 c1] 47) = W0 := ⟨_, rfl⟩
  have HXW0 := Lib.hid (show ∀ W', Below W0.heap.size W0 W' → (Bx3 W' w.heap.size (.bool b) (.slice a0 n0 c0) (.slice a1 n1 c1)) from fun W' hb => by
      apply bx3 hb
      all_goals first | assumption | (rw [← hW0]; simp [go_sem]))
  have zb : Below w.heap.size w W0 := by rw [← hW0]; exact below_new _ _
  rw [hW0]
  clear hW0
  have i0 := h.to zb
  have gb : Below W0.heap.size W0 W0 := Below.refl _ _
  obtain ⟨z0, x0_0, x0_1, x0_2, y0_0, y0_1, y0_2⟩ := HXW0.out _ gb
  have HH := Lib.hid (show ∀ ng, decide (x < 0) = ng → (ng == b && decide (limbs x.num.natAbs = ln) && decide (limbs x.den = ld)) = o from fun ng e => by rw [← HO.out, ← e]; rfl)
  go_region_held3 (fun W' => W'.cell? ⟨w.heap.size, 0, none⟩ = some (.bool b) ∧ W'.cell? ⟨w.heap.size, 1, none⟩ = some (.slice a0 n0 c0) ∧ W'.cell? ⟨w.heap.size, 2, none⟩ = some (.slice a1 n1 c1)) (first | (with_reducible exact ⟨x0_0, x0_1, x0_2⟩) | exact ⟨x0_0, x0_1, x0_2⟩) (first
    | (go_at_call 24; (with_reducible refine (ref8_equal ng1 _ _ _ _ b _ _ _ _ _ g1.isF (i0.to gb).isF o (HH.out ng1 g1.ng)).mono ?_); rintro e w2 ⟨rfl, hb2⟩; have g1 := g1.to hb2; have gb := below_step gb hb2; obtain ⟨z0, x0_0, x0_1, x0_2, y0_0, y0_1, y0_2⟩ := HXW0.out _ gb)
    | (go_at_call 67; have gb := gb.drew; (with_reducible refine (ref8_fix b _ _ ln ld _ (i0.to gb) x rfl Hx).mono ?_); rintro e w1 ⟨ng1, a1_, n1_, c1_, p1_, m1_, k1_, rfl, g1, hb1⟩; have gb := below_step gb hb1; obtain ⟨z0, x0_0, x0_1, x0_2, y0_0, y0_1, y0_2⟩ := HXW0.out _ gb))
  go_wp2_with fail
  go_ret
  exact ⟨rfl, below_step zb gb⟩

end Go.Proofs.YtkjcdnlpjldhaaaGreat


namespace Go.Proofs.YtkjcdnlpjldhaaaGreat
open Go.RowKit Tw
set_option linter.unusedVariables false
set_option linter.unusedSimpArgs false
attribute [local go_sem ↓] Go.wp_at_zero Go.wp_at_succ

theorem rof_c (n z : Int) (w : World) (hz : z = n) (n0 : -9223372036854775808 ≤ n) (n1 : n < 9223372036854775808) :
    Calls Tryz.prog 48 #[.int .i64 n] w (GivesC w z) :=
  (ref7_of n z w hz n0 n1).mono fun e w' h => givesC rfl (Nat.le_trans (szi_word' (by omega) (by omega)) (by omega)) h

theorem int_eq0 (n : Nat) : ((n : Int) == 0) = decide (n = 0) := by
  rw [Bool.eq_iff_iff]; simp

theorem GivesQ.more {w w' : World} {q : Rat} {e : Ending} (h : GivesQ w q e w') (o : Obj) : GivesQ w q e (w'.alloc o) := by
  obtain ⟨ng, a, n, c, a', n', c', rfl, g, hb⟩ := h
  exact ⟨_, _, _, _, _, _, _, rfl, (g.alloc o).mono (Nat.le_refl _) (by simp), below_step hb (below_new _ _)⟩

theorem num_ne {x : Rat} (h : x ≠ 0) : x.num ≠ 0 := fun e => h (Rat.num_eq_zero.1 e)

theorem CanQ.zeroQ {lo hi : Nat} {w : World} {ng o : Bool} {a : Option Addr} {n c : Nat} {u : Value} {x : Rat} (g : CanQ lo hi w ng (.slice a n c) u x) (h : decide (x = 0) = o) : decide (n = 0) = o := by
  obtain ⟨_, _, e⟩ := g.1.rd.shape
  injection e with _ e _
  rw [← h, e, sz_def, decide_eq_decide, sz_eq_zero, Int.natAbs_eq_zero]
  exact Rat.num_eq_zero

theorem right_math {b : Bool} {ln ld : List Nat} (hn : Small ln) (hd : Small ld) :
    rightQ b ln ld (rat b (val ln) (val ld)) = (decide (sz (val ln) = ln.length) && decide (sz (val ld) = ld.length) && (Nat.gcd (val ln) (val ld) == 1) && decide (0 < ld.length) && !(b && decide (ln.length = 0))) := by
  rw [Bool.eq_iff_iff]
  unfold rightQ
  simp only [Bool.and_eq_true, beq_iff_eq, decide_eq_true_eq, Bool.not_eq_true', ← limbs_val_iff hn, ← limbs_val_iff hd]
  by_cases h0 : val ld = 0
  · rw [h0, rat_zero_den]
    constructor
    · rintro ⟨_, h⟩
      rw [← h, val_limbs] at h0
      exact absurd h0 (by decide)
    · rintro ⟨⟨⟨⟨_, h1⟩, _⟩, h2⟩, _⟩
      rw [← h1] at h2
      exact absurd h2 (by simp [limbs_zero])
  · rw [rat_num h0, rat_den h0]
    have hp : 0 < ld.length := by
      refine Nat.pos_of_ne_zero fun e => h0 ?_
      rw [List.length_eq_zero_iff.1 e]; rfl
    constructor
    · rintro ⟨⟨h1, h2⟩, h3⟩
      have e2 := congrArg val h2
      have e3 := congrArg val h3
      rw [val_limbs] at e2 e3
      have hg : Nat.gcd (val ln) (val ld) = 1 := by
        have h5 : Nat.gcd (val ln) (val ld) ∣ val ld := Nat.gcd_dvd_right _ _
        have h6 := Nat.div_mul_cancel h5
        rw [e3] at h6
        exact Nat.eq_of_mul_eq_mul_left (Nat.pos_of_ne_zero h0) (by rw [h6, Nat.mul_one])
      rw [hg, Nat.div_one] at h2 h3
      refine ⟨⟨⟨⟨h2, h3⟩, hg⟩, hp⟩, ?_⟩
      cases b with
      | false => rfl
      | true =>
        simp only [Bool.true_and, decide_eq_false_iff_not]
        intro hl
        rw [List.length_eq_zero_iff.1 hl, show val [] = 0 from rfl, rat_zero_num] at h1
        exact absurd h1 (by decide +kernel)
    · rintro ⟨⟨⟨⟨h2, h3⟩, hg⟩, _⟩, h5⟩
      rw [hg, Nat.div_one, Nat.div_one]
      refine ⟨⟨?_, h2⟩, h3⟩
      by_cases hz : val ln = 0
      · rw [hz, rat_zero_num]
        rw [hz, limbs_zero] at h2
        rw [← h2] at h5
        cases b with
        | false => decide +kernel
        | true => simp at h5
      · exact rat_neg b h0 hz

theorem rightQ_eq {w : World} {b : Bool} {v u : Value} {ln ld : List Nat} {x : Rat} (h : IsQ w b v u ln ld x) :
    rightQ b ln ld x = (decide (sz (val ln) = ln.length) && decide (sz (val ld) = ld.length) && (Nat.gcd (val ln) (val ld) == 1) && decide (0 < ld.length) && !(b && decide (ln.length = 0))) := by
  rw [← h.2.2.1]
  exact right_math h.1.1 h.2.1.1

set_option maxRecDepth 100000 in
set_option maxHeartbeats 4000000 in
theorem ref8_of (n z : Int) (w : World) (hz : z = n) (m0 : -9223372036854775808 ≤ n) (m1 : n < 9223372036854775808) :
    Calls Tryz.prog 25 #[.int .i64 n] w (GivesQ w (z : Rat)) := by
  have Hz := Lib.hid hz
  have S1 := Lib.hid (szi_word' (z := z) (by omega) (by omega))
  have S2 := Lib.hid (show szq (z : Rat) ≤ 1000 from szq_int S1.out)
  have H9 := Lib.hid (show ∀ ng, decide (z < 0) = ng → rat ng (val (limbs z.natAbs)) (val [1]) = (z : Rat) from fun ng e => by rw [← e, show val [1] = val (limbs (1 : Int).toNat) by decide +kernel]; exact rat_int z)
  clear hz
  go_enter Tryz.func25, Tryz.ntmps25
  go_wp2_with fail
  obtain ⟨W0, hW0⟩ : ∃ W0, w.alloc (.cells #[.bool false, .slice none 0 0, .slice none 0 0] 47) = W0 := ⟨_, rfl⟩
  have HXW0 := Lib.hid (show ∀ W', Below W0.heap.size W0 W' → (Bx3 W' w.heap.size (.bool false) (.slice none 0 0) (.slice none 0 0)) from fun W' hb => by
      apply bx3 hb
      all_goals first | assumption | (rw [← hW0]; simp [go_sem]))
  have zb : Below w.heap.size w W0 := by rw [← hW0]; exact below_new _ _
  rw [hW0]
  clear hW0
  have gb : Below W0.heap.size W0 W0 := Below.refl _ _
  obtain ⟨z0, x0_0, x0_1, x0_2, y0_0, y0_1, y0_2⟩ := HXW0.out _ gb
  refine (rof_c n z _ Hz.out m0 m1).mono ?_
  clear x0_0 y0_0 x0_1 y0_1 x0_2 y0_2
  rintro e w1 ⟨ng1, a1_, n1_, c1_, rfl, g1, hb1⟩
  replace gb := below_step gb hb1
  obtain ⟨z0, x0_0, x0_1, x0_2, y0_0, y0_1, y0_2⟩ := HXW0.out _ gb
  go_wp2_with fail
  have H8 := Lib.hid (H9.out ng1 (by have k := g1.2.1; exact k))
  obtain ⟨W1, hW1⟩ : ∃ W1, w1.alloc (.cells #[.int .u32 1] 97) = W1 := ⟨_, rfl⟩
  have hb_W1 : Below w1.heap.size w1 W1 := by rw [← hW1]; exact below_new _ _
  have d_W1 : Rd W1 (.slice (some ⟨w1.heap.size, 0, none⟩) 1 1) [1] := by rw [← hW1]; exact lit1 (a := 1) w1 (by omega)
  clear x0_0 y0_0 x0_1 y0_1 x0_2 y0_2
  replace g1 := g1.to hb_W1
  replace gb := below_step gb hb_W1
  obtain ⟨z0, x0_0, x0_1, x0_2, y0_0, y0_1, y0_2⟩ := HXW0.out _ gb
  rw [hW1]
  clear hW1
  refine (ref8_lowest ng1 _ _ _ _ _ g1.isI.up d_W1 (Nat.le_trans S1.out (by omega)) (by simp) (z : Rat) H8.out S2).mono ?_
  clear x0_0 y0_0 x0_1 y0_1 x0_2 y0_2
  rintro e w2 ⟨ng2, a2_, n2_, c2_, p2_, m2_, k2_, rfl, g2, hb2⟩
  replace g1 := g1.to hb2
  replace d_W1 := d_W1.to hb2
  replace gb := below_step gb hb2
  obtain ⟨z0, x0_0, x0_1, x0_2, y0_0, y0_1, y0_2⟩ := HXW0.out _ gb
  go_wp2_with fail
  refine bodyPost_ret (results_R Tryz.results25 _ _ _ _ _ _ rfl (Tri.set (x0 := .bool false) (y0 := .slice none 0 0) (z0 := .slice none 0 0) ⟨x0_0, x0_1, x0_2, y0_0, y0_1, y0_2⟩ _ _ _)) rfl (finR (below_step zb gb) (by omega) ?_ g2)
  omega

set_option maxRecDepth 100000 in
set_option maxHeartbeats 4000000 in
theorem ratio_right {x : Rat} (b : Bool) (v u : Value) (ln ld : List Nat) (w : World) (h : IsQ w b v u ln ld x) (o : Bool) (ho : rightQ b ln ld x = o) :
    Calls Tryz.prog 83 #[aggR b v u] w (fun e w' => e = .returned (.bool o) ∧ Below w.heap.size w w') := by
  obtain ⟨r1, h1⟩ : ∃ r, decide (sz (val ln) = ln.length) = r := ⟨_, rfl⟩
  obtain ⟨r2, h2⟩ : ∃ r, decide (sz (val ld) = ld.length) = r := ⟨_, rfl⟩
  obtain ⟨r3, h3⟩ : ∃ r, (Nat.gcd (val ln) (val ld) == 1) = r := ⟨_, rfl⟩
  have R1 := Lib.hid h1
  have R2 := Lib.hid h2
  have R3 := Lib.hid h3
  have HO := Lib.hid (show (r1 && r2 && r3 && decide (0 < ld.length) && !(b && decide (ln.length = 0))) = o by rw [← ho, rightQ_eq h, h1, h2, h3])
  clear ho h1 h2 h3
  have L1 := h.lup
  have L2 := h.ldn
  obtain ⟨a0, n0, c0, rfl, H0, hm0⟩ := h.1.open
  obtain ⟨a1, n1, c1, rfl, H1, hm1⟩ := h.2.1.open
  rw [H0.out, H1.out] at HO
  have l1 := H0.out
  have l2 := H1.out
  rw [l1] at L1
  rw [l2] at L2
  clear l1 l2
  rcases Bool.eq_false_or_eq_true r1 with rfl | rfl
  rotate_left
  
  · skip
    go_enter Tryz.func83, Tryz.ntmps83
    go_wp2_with fail
    obtain ⟨W0, hW0⟩ : ∃ W0, w.alloc (.cells #[.bool b, .slice a0 n0 c0, .slice a1 n1 c1] 47) = W0 := ⟨_, rfl⟩
    have HXW0 := Lib.hid (show ∀ W', Below W0.heap.size W0 W' → (Bx3 W' w.heap.size (.bool b) (.slice a0 n0 c0) (.slice a1 n1 c1)) from fun W' hb => by
        apply bx3 hb
        all_goals first | assumption | (rw [← hW0]; simp [go_sem]))
    have zb : Below w.heap.size w W0 := by rw [← hW0]; exact below_new _ _
    rw [hW0]
    clear hW0
    have i0 := h.to zb
    have gb : Below W0.heap.size W0 W0 := Below.refl _ _
    obtain ⟨z0, x0_0, x0_1, x0_2, y0_0, y0_1, y0_2⟩ := HXW0.out _ gb
    refine (nat_right _ _ _ (i0.to gb).up).mono ?_
    rintro e w1 ⟨rfl, rfl⟩
    rw [R1.out]
    go_wp2_with fail
    go_ret
    exact ⟨ret_one (congrArg Value.bool (by have k := HO.out; first | (simpa using k) | (simpa [*] using k) | (rw [← k]; simp [*, int_eq0]))), below_step zb gb⟩
  rcases Bool.eq_false_or_eq_true r2 with rfl | rfl
  rotate_left
  
  · skip
    go_enter Tryz.func83, Tryz.ntmps83
    go_wp2_with fail
    obtain ⟨W0, hW0⟩ : ∃ W0, w.alloc (.cells #[.bool b, .slice a0 n0 c0, .slice a1 n1 c1] 47) = W0 := ⟨_, rfl⟩
    have HXW0 := Lib.hid (show ∀ W', Below W0.heap.size W0 W' → (Bx3 W' w.heap.size (.bool b) (.slice a0 n0 c0) (.slice a1 n1 c1)) from fun W' hb => by
        apply bx3 hb
        all_goals first | assumption | (rw [← hW0]; simp [go_sem]))
    have zb : Below w.heap.size w W0 := by rw [← hW0]; exact below_new _ _
    rw [hW0]
    clear hW0
    have i0 := h.to zb
    have gb : Below W0.heap.size W0 W0 := Below.refl _ _
    obtain ⟨z0, x0_0, x0_1, x0_2, y0_0, y0_1, y0_2⟩ := HXW0.out _ gb
    refine (nat_right _ _ _ (i0.to gb).up).mono ?_
    rintro e w1 ⟨rfl, rfl⟩
    rw [R1.out]
    go_wp2_with fail
    refine (nat_right _ _ _ (i0.to gb).dn).mono ?_
    rintro e w1 ⟨rfl, rfl⟩
    rw [R2.out]
    go_wp2_with fail
    go_ret
    exact ⟨ret_one (congrArg Value.bool (by have k := HO.out; first | (simpa using k) | (simpa [*] using k) | (rw [← k]; simp [*, int_eq0]))), below_step zb gb⟩
  rcases Bool.eq_false_or_eq_true r3 with rfl | rfl
  rotate_left
  
  · skip
    go_enter Tryz.func83, Tryz.ntmps83
    go_wp2_with fail
    obtain ⟨W0, hW0⟩ : ∃ W0, w.alloc (.cells #[.bool b, .slice a0 n0 c0, .slice a1 n1 c1] 47) = W0 := ⟨_, rfl⟩
    have HXW0 := Lib.hid (show ∀ W', Below W0.heap.size W0 W' → (Bx3 W' w.heap.size (.bool b) (.slice a0 n0 c0) (.slice a1 n1 c1)) from fun W' hb => by
        apply bx3 hb
        all_goals first | assumption | (rw [← hW0]; simp [go_sem]))
    have zb : Below w.heap.size w W0 := by rw [← hW0]; exact below_new _ _
    rw [hW0]
    clear hW0
    have i0 := h.to zb
    have gb : Below W0.heap.size W0 W0 := Below.refl _ _
    obtain ⟨z0, x0_0, x0_1, x0_2, y0_0, y0_1, y0_2⟩ := HXW0.out _ gb
    refine (nat_right _ _ _ (i0.to gb).up).mono ?_
    rintro e w1 ⟨rfl, rfl⟩
    rw [R1.out]
    go_wp2_with fail
    refine (nat_right _ _ _ (i0.to gb).dn).mono ?_
    rintro e w1 ⟨rfl, rfl⟩
    rw [R2.out]
    go_wp2_with fail
    refine (common_apart _ _ _ _ false _ (i0.to gb).up (i0.to gb).dn (by have := h.lup; omega) (by have := h.ldn; omega) R3).mono ?_
    clear x0_0 y0_0 x0_1 y0_1 x0_2 y0_2
    rintro e w2 ⟨rfl, hb2⟩
    replace gb := below_step gb hb2
    obtain ⟨z0, x0_0, x0_1, x0_2, y0_0, y0_1, y0_2⟩ := HXW0.out _ gb
    go_wp2_with fail
    go_ret
    exact ⟨ret_one (congrArg Value.bool (by have k := HO.out; first | (simpa using k) | (simpa [*] using k) | (rw [← k]; simp [*, int_eq0]))), below_step zb gb⟩
  go_enter Tryz.func83, Tryz.ntmps83
  go_wp2_with fail
  obtain ⟨W0, hW0⟩ : ∃ W0, w.alloc (.cells #[.bool b, .slice a0 n0 c0, .slice a1 n1 c1] 47) = W0 := ⟨_, rfl⟩
  have HXW0 := Lib.hid (show ∀ W', Below W0.heap.size W0 W' → (Bx3 W' w.heap.size (.bool b) (.slice a0 n0 c0) (.slice a1 n1 c1)) from fun W' hb => by
      apply bx3 hb
      all_goals first | assumption | (rw [← hW0]; simp [go_sem]))
  have zb : Below w.heap.size w W0 := by rw [← hW0]; exact below_new _ _
  rw [hW0]
  clear hW0
  have i0 := h.to zb
  have gb : Below W0.heap.size W0 W0 := Below.refl _ _
  obtain ⟨z0, x0_0, x0_1, x0_2, y0_0, y0_1, y0_2⟩ := HXW0.out _ gb
  refine (nat_right _ _ _ (i0.to gb).up).mono ?_
  rintro e w1 ⟨rfl, rfl⟩
  rw [R1.out]
  go_wp2_with fail
  refine (nat_right _ _ _ (i0.to gb).dn).mono ?_
  rintro e w1 ⟨rfl, rfl⟩
  rw [R2.out]
  go_wp2_with fail
  refine (common_apart _ _ _ _ true _ (i0.to gb).up (i0.to gb).dn (by have := h.lup; omega) (by have := h.ldn; omega) R3).mono ?_
  clear x0_0 y0_0 x0_1 y0_1 x0_2 y0_2
  rintro e w2 ⟨rfl, hb2⟩
  replace gb := below_step gb hb2
  obtain ⟨z0, x0_0, x0_1, x0_2, y0_0, y0_1, y0_2⟩ := HXW0.out _ gb
  rcases Nat.eq_zero_or_pos n1 with rfl | e1
  · skip
    go_wp2_with fail
    go_ret
    exact ⟨ret_one (congrArg Value.bool (by have k := HO.out; first | (simpa using k) | (simpa [*] using k) | (rw [← k]; simp [*, int_eq0]))), below_step zb gb⟩
  rcases Bool.eq_false_or_eq_true b with rfl | rfl
  rotate_left
  · skip
    go_wp2_with fail
    go_ret
    exact ⟨ret_one (congrArg Value.bool (by have k := HO.out; first | (simpa using k) | (simpa [*] using k) | (rw [← k]; simp [*, int_eq0]))), below_step zb gb⟩
  · skip
    go_wp2_with fail
    go_ret
    exact ⟨ret_one (congrArg Value.bool (by have k := HO.out; first | (simpa using k) | (simpa [*] using k) | (rw [← k]; simp [*, int_eq0]))), below_step zb gb⟩

end Go.Proofs.YtkjcdnlpjldhaaaGreat

