/-
  The texts Rat6, Ref8, merged.
-/
import Derived.Test.YtmjnlpanlgmdmaaG12
import Derived.Test.YtmjnlpanlgmdmaaG15
import Derived.Deep.RegionHeld3
import Derived.Deep.Cut
import Derived.Deep.DrawnRows
import Derived.Laws.EntriesVeiled
import Derived.Test.YtmjnlpanlgmdmaaG07
import Derived.Test.YtmjnlpanlgmdmaaG05
namespace Go.Proofs.Ytmjnlpanlgmdmaa
open Go.RowKit Tw
set_option linter.unusedVariables false
set_option linter.unusedSimpArgs false
attribute [local go_sem ↓] Go.wp_at_zero Go.wp_at_succ

theorem CanI.ng {lo hi : Nat} {w : World} {b : Bool} {v : Value} {z : Int} (h : CanI lo hi w b v z) : decide (z < 0) = b := h.2.1

theorem over_len {x y : Rat} (hx : szq x ≤ 1000) (hy : szq y ≤ 1000) : (limbs (x.num * (y.den : Int)).natAbs).length ≤ 3000 := by
  rw [sz_def]
  have h1 := szi_mul x.num (y.den : Int)
  have h2 := szq_num x
  have h3 := szq_den y
  unfold szi at h1
  rw [Int.natAbs_natCast] at h1
  omega

theorem rat_sgn (z : Int) (d : Nat) : rat (decide (z < 0)) z.natAbs d = mkRat z d := (mkRat_sgn z d).symm

theorem div_rat (x : Rat) {y : Rat} (h0 : y ≠ 0) :
    rat (decide (x.num * (y.den : Int) < 0) != decide ((x.den : Int) * y.num < 0)) (x.num * (y.den : Int)).natAbs ((x.den : Int) * y.num).natAbs = x / y := by
  have h1 : y.num ≠ 0 := fun e => h0 (Rat.num_eq_zero.1 e)
  have hx := x.den_pos
  have hy := y.den_pos
  have e1 : decide (x.num * (y.den : Int) < 0) = decide (x.num < 0) := by
    rw [decide_eq_decide]
    exact ⟨fun k => Int.not_le.1 fun k' => absurd (Int.mul_nonneg k' (Int.natCast_nonneg y.den)) (by omega), fun k => Int.mul_neg_of_neg_of_pos k (by omega)⟩
  have e2 : decide ((x.den : Int) * y.num < 0) = decide (y.num < 0) := by
    rw [decide_eq_decide]
    exact ⟨fun k => Int.not_le.1 fun k' => absurd (Int.mul_nonneg (Int.natCast_nonneg x.den) k') (by omega), fun k => by rw [Int.mul_comm]; exact Int.mul_neg_of_neg_of_pos k (by omega)⟩
  rw [e1, e2, Int.natAbs_mul, Int.natAbs_mul, Int.natAbs_natCast, Int.natAbs_natCast, ← rat_mul, Rat.div_def, ← num_neg, ← num_neg, rat_self]
  congr 1
  have hi := rat_self y⁻¹
  rw [← hi]
  have h3 := (num_neg y⁻¹)
  rw [Rat.num_inv, Rat.den_inv, if_neg h1, Int.natAbs_mul, Int.natAbs_sign_of_ne_zero h1, Nat.one_mul, Int.natAbs_natCast]
  congr 1
  rw [num_neg, num_neg, Rat.num_inv, decide_eq_decide]
  rcases Int.lt_trichotomy y.num 0 with k | k | k
  · rw [Int.sign_eq_neg_one_of_neg k]; omega
  · exact absurd k h1
  · rw [Int.sign_eq_one_of_pos k]; omega

set_option maxRecDepth 100000 in
set_option maxHeartbeats 40000000 in
theorem ratio_div_no {x y : Rat} (b : Bool) (v u : Value) (ln ld : List Nat) (c : Bool) (v' u' : Value) (ln' ld' : List Nat) (w : World) (h : IsQ w b v u ln ld x) (h' : IsQ w c v' u' ln' ld' y) (h0 : y = 0) :
    Calls Try.prog 32 #[aggR b v u, aggR c v' u'] w (fun e w' => e = .returned (.tuple #[aggR false (.slice none 0 0) (.slice none 0 0), .int .i64 3]) ∧ Below w.heap.size w w') := by
  have Hx : Hid (szq x ≤ 1000) := isQ_sz h
  have Hy : Hid (szq y ≤ 1000) := isQ_sz h'
  have S1 := Lib.hid (show szi (x.num * (y.den : Int)) ≤ 90000 from over_sz Hx.out Hy.out)
  have S2 := Lib.hid (show szi ((x.den : Int) * y.num) ≤ 90000 by rw [Int.mul_comm]; exact over_sz Hy.out Hx.out)
  have S5 := Lib.hid (show (limbs (x.num * (y.den : Int)).natAbs).length ≤ 3000 from over_len Hx.out Hy.out)
  have S6 := Lib.hid (show (limbs ((x.den : Int) * y.num).natAbs).length ≤ 3000 by rw [Int.mul_comm]; exact over_len Hy.out Hx.out)
  have HZ := Lib.hid (show val (limbs ((x.den : Int) * y.num).natAbs) = 0 by rw [val_limbs, h0]; simp)
  obtain ⟨a0, n0, c0, rfl, H0, hm0⟩ := h.1.open
  obtain ⟨a1, n1, c1, rfl, H1, hm1⟩ := h.2.1.open
  obtain ⟨a2, n2, c2, rfl, H2, hm2⟩ := h'.1.open
  obtain ⟨a3, n3, c3, rfl, H3, hm3⟩ := h'.2.1.open
  clear h0
  go_enter Try.func32, Try.ntmps32
  go_wp2_with fail
  obtain ⟨W0, hW0⟩ : ∃ W0, ((w.alloc (.cells #[.bool b, .slice a0 n0 c0, .slice a1 n1 c1] 24)).alloc (.cells #[.bool c, .slice a2 n2 c2, .slice a3 n3 c3] 24)).alloc (.cells #[.bool false, .slice none 0 0, .slice none 0 0] 24) = W0 := ⟨_, rfl⟩
  have HXW0 := Lib.hid (show ∀ W', Below W0.heap.size W0 W' → (W'.cell? ⟨w.heap.size, 0, none⟩ = some (.bool b) ∧ W'.cell? ⟨w.heap.size, 1, none⟩ = some (.slice a0 n0 c0) ∧ W'.cell? ⟨w.heap.size, 2, none⟩ = some (.slice a1 n1 c1) ∧ W'.cell? ⟨w.heap.size + 1, 0, none⟩ = some (.bool c) ∧ W'.cell? ⟨w.heap.size + 1, 1, none⟩ = some (.slice a2 n2 c2) ∧ W'.cell? ⟨w.heap.size + 1, 2, none⟩ = some (.slice a3 n3 c3) ∧ W'.cell? ⟨w.heap.size + 1 + 1, 0, none⟩ = some (.bool false) ∧ W'.cell? ⟨w.heap.size + 1 + 1, 1, none⟩ = some (.slice none 0 0) ∧ W'.cell? ⟨w.heap.size + 1 + 1, 2, none⟩ = some (.slice none 0 0)) from fun W' hb =>
    ⟨(hb.cell (p := ⟨w.heap.size, 0, none⟩) (by rw [← hW0]; simp <;> omega)).trans (by rw [← hW0]; simp [go_sem]), (hb.cell (p := ⟨w.heap.size, 1, none⟩) (by rw [← hW0]; simp <;> omega)).trans (by rw [← hW0]; simp [go_sem]), (hb.cell (p := ⟨w.heap.size, 2, none⟩) (by rw [← hW0]; simp <;> omega)).trans (by rw [← hW0]; simp [go_sem]), (hb.cell (p := ⟨w.heap.size + 1, 0, none⟩) (by rw [← hW0]; simp <;> omega)).trans (by rw [← hW0]; simp [go_sem]), (hb.cell (p := ⟨w.heap.size + 1, 1, none⟩) (by rw [← hW0]; simp <;> omega)).trans (by rw [← hW0]; simp [go_sem]), (hb.cell (p := ⟨w.heap.size + 1, 2, none⟩) (by rw [← hW0]; simp <;> omega)).trans (by rw [← hW0]; simp [go_sem]), (hb.cell (p := ⟨w.heap.size + 1 + 1, 0, none⟩) (by rw [← hW0]; simp <;> omega)).trans (by rw [← hW0]; simp [go_sem]), (hb.cell (p := ⟨w.heap.size + 1 + 1, 1, none⟩) (by rw [← hW0]; simp <;> omega)).trans (by rw [← hW0]; simp [go_sem]), (hb.cell (p := ⟨w.heap.size + 1 + 1, 2, none⟩) (by rw [← hW0]; simp <;> omega)).trans (by rw [← hW0]; simp [go_sem])⟩)
  have HYW0 := Lib.hid (show ∀ W', Below W0.heap.size W0 W' → (W'.frozen? ⟨w.heap.size, 0, none⟩ = false ∧ W'.frozen? ⟨w.heap.size, 1, none⟩ = false ∧ W'.frozen? ⟨w.heap.size, 2, none⟩ = false ∧ W'.frozen? ⟨w.heap.size + 1, 0, none⟩ = false ∧ W'.frozen? ⟨w.heap.size + 1, 1, none⟩ = false ∧ W'.frozen? ⟨w.heap.size + 1, 2, none⟩ = false ∧ W'.frozen? ⟨w.heap.size + 1 + 1, 0, none⟩ = false ∧ W'.frozen? ⟨w.heap.size + 1 + 1, 1, none⟩ = false ∧ W'.frozen? ⟨w.heap.size + 1 + 1, 2, none⟩ = false) from fun W' hb =>
    ⟨(hb.frozen (p := ⟨w.heap.size, 0, none⟩) (by rw [← hW0]; simp <;> omega)).trans (by rw [← hW0]; simp [go_sem]), (hb.frozen (p := ⟨w.heap.size, 1, none⟩) (by rw [← hW0]; simp <;> omega)).trans (by rw [← hW0]; simp [go_sem]), (hb.frozen (p := ⟨w.heap.size, 2, none⟩) (by rw [← hW0]; simp <;> omega)).trans (by rw [← hW0]; simp [go_sem]), (hb.frozen (p := ⟨w.heap.size + 1, 0, none⟩) (by rw [← hW0]; simp <;> omega)).trans (by rw [← hW0]; simp [go_sem]), (hb.frozen (p := ⟨w.heap.size + 1, 1, none⟩) (by rw [← hW0]; simp <;> omega)).trans (by rw [← hW0]; simp [go_sem]), (hb.frozen (p := ⟨w.heap.size + 1, 2, none⟩) (by rw [← hW0]; simp <;> omega)).trans (by rw [← hW0]; simp [go_sem]), (hb.frozen (p := ⟨w.heap.size + 1 + 1, 0, none⟩) (by rw [← hW0]; simp <;> omega)).trans (by rw [← hW0]; simp [go_sem]), (hb.frozen (p := ⟨w.heap.size + 1 + 1, 1, none⟩) (by rw [← hW0]; simp <;> omega)).trans (by rw [← hW0]; simp [go_sem]), (hb.frozen (p := ⟨w.heap.size + 1 + 1, 2, none⟩) (by rw [← hW0]; simp <;> omega)).trans (by rw [← hW0]; simp [go_sem])⟩)
  have HZW0 := Lib.hid (show ∀ W', Below W0.heap.size W0 W' → (w.heap.size < W'.heap.size ∧ w.heap.size + 1 < W'.heap.size ∧ w.heap.size + 1 + 1 < W'.heap.size) from fun W' hb =>
    ⟨Nat.lt_of_lt_of_le (by rw [← hW0]; simp <;> omega) hb.size, Nat.lt_of_lt_of_le (by rw [← hW0]; simp <;> omega) hb.size, Nat.lt_of_lt_of_le (by rw [← hW0]; simp <;> omega) hb.size⟩)
  have zb : Below w.heap.size w W0 := by rw [← hW0]; exact below_step (below_step (below_new _ _) (below_new _ _)) (below_new _ _)
  rw [hW0]
  clear hW0
  have i0 := h.to zb
  have i1 := h'.to zb
  have gb : Below W0.heap.size W0 W0 := Below.refl _ _
  obtain ⟨x0_0, x0_1, x0_2, x1_0, x1_1, x1_2, x2_0, x2_1, x2_2⟩ := HXW0.out _ gb
  obtain ⟨y0_0, y0_1, y0_2, y1_0, y1_1, y1_2, y2_0, y2_1, y2_2⟩ := HYW0.out _ gb
  obtain ⟨z0, z1, z2⟩ := HZW0.out _ gb
  have hgb := gb
  go_upto_region 1 with fail
  go_cut [6, 7] from 8 (fun s6 s7 wx => BoxQ W0 (x) s6 wx ∧ BoxQ W0 (y) s7 wx)
  case first =>
    go_region_held3 (fun W' => W'.cell? ⟨w.heap.size, 0, none⟩ = some (.bool b) ∧ W'.cell? ⟨w.heap.size, 1, none⟩ = some (.slice a0 n0 c0) ∧ W'.cell? ⟨w.heap.size, 2, none⟩ = some (.slice a1 n1 c1) ∧ W'.cell? ⟨w.heap.size + 1, 0, none⟩ = some (.bool c) ∧ W'.cell? ⟨w.heap.size + 1, 1, none⟩ = some (.slice a2 n2 c2) ∧ W'.cell? ⟨w.heap.size + 1, 2, none⟩ = some (.slice a3 n3 c3) ∧ W'.cell? ⟨w.heap.size + 1 + 1, 0, none⟩ = some (.bool false) ∧ W'.cell? ⟨w.heap.size + 1 + 1, 1, none⟩ = some (.slice none 0 0) ∧ W'.cell? ⟨w.heap.size + 1 + 1, 2, none⟩ = some (.slice none 0 0)) (first | (with_reducible exact HXW0.out _ gb) | ((with_reducible refine HXW0.out _ ?_); first | ((with_reducible refine Below.drew ?_); first | (with_reducible exact gb) | ((with_reducible refine below_set3 ?_ ?_ _ _ _); rotate_left; (first | (with_reducible exact et1_R_0) | (with_reducible exact et1_R_1) | (with_reducible exact et2_R_0) | (with_reducible exact et2_R_1)); first | (with_reducible exact gb) | ((with_reducible refine below_set3 ?_ ?_ _ _ _); rotate_left; (first | (with_reducible exact et1_R_0) | (with_reducible exact et1_R_1) | (with_reducible exact et2_R_0) | (with_reducible exact et2_R_1)); with_reducible exact gb) | ((with_reducible refine below_step ?_ (below_new _ _)); with_reducible exact gb)) | ((with_reducible refine below_step ?_ (below_new _ _)); first | (with_reducible exact gb) | ((with_reducible refine below_set3 ?_ ?_ _ _ _); rotate_left; (first | (with_reducible exact et1_R_0) | (with_reducible exact et1_R_1) | (with_reducible exact et2_R_0) | (with_reducible exact et2_R_1)); with_reducible exact gb) | ((with_reducible refine below_step ?_ (below_new _ _)); with_reducible exact gb))) | (first | (with_reducible exact gb) | ((with_reducible refine below_set3 ?_ ?_ _ _ _); rotate_left; (first | (with_reducible exact et1_R_0) | (with_reducible exact et1_R_1) | (with_reducible exact et2_R_0) | (with_reducible exact et2_R_1)); first | (with_reducible exact gb) | ((with_reducible refine below_set3 ?_ ?_ _ _ _); rotate_left; (first | (with_reducible exact et1_R_0) | (with_reducible exact et1_R_1) | (with_reducible exact et2_R_0) | (with_reducible exact et2_R_1)); first | (with_reducible exact gb) | ((with_reducible refine below_set3 ?_ ?_ _ _ _); rotate_left; (first | (with_reducible exact et1_R_0) | (with_reducible exact et1_R_1) | (with_reducible exact et2_R_0) | (with_reducible exact et2_R_1)); first | (with_reducible exact gb) | ((with_reducible refine below_set3 ?_ ?_ _ _ _); rotate_left; (first | (with_reducible exact et1_R_0) | (with_reducible exact et1_R_1) | (with_reducible exact et2_R_0) | (with_reducible exact et2_R_1)); with_reducible exact gb) | ((with_reducible refine below_step ?_ (below_new _ _)); with_reducible exact gb)) | ((with_reducible refine below_step ?_ (below_new _ _)); first | (with_reducible exact gb) | ((with_reducible refine below_set3 ?_ ?_ _ _ _); rotate_left; (first | (with_reducible exact et1_R_0) | (with_reducible exact et1_R_1) | (with_reducible exact et2_R_0) | (with_reducible exact et2_R_1)); with_reducible exact gb) | ((with_reducible refine below_step ?_ (below_new _ _)); with_reducible exact gb))) | ((with_reducible refine below_step ?_ (below_new _ _)); first | (with_reducible exact gb) | ((with_reducible refine below_set3 ?_ ?_ _ _ _); rotate_left; (first | (with_reducible exact et1_R_0) | (with_reducible exact et1_R_1) | (with_reducible exact et2_R_0) | (with_reducible exact et2_R_1)); first | (with_reducible exact gb) | ((with_reducible refine below_set3 ?_ ?_ _ _ _); rotate_left; (first | (with_reducible exact et1_R_0) | (with_reducible exact et1_R_1) | (with_reducible exact et2_R_0) | (with_reducible exact et2_R_1)); with_reducible exact gb) | ((with_reducible refine below_step ?_ (below_new _ _)); with_reducible exact gb)) | ((with_reducible refine below_step ?_ (below_new _ _)); first | (with_reducible exact gb) | ((with_reducible refine below_set3 ?_ ?_ _ _ _); rotate_left; (first | (with_reducible exact et1_R_0) | (with_reducible exact et1_R_1) | (with_reducible exact et2_R_0) | (with_reducible exact et2_R_1)); with_reducible exact gb) | ((with_reducible refine below_step ?_ (below_new _ _)); with_reducible exact gb)))) | ((with_reducible refine below_step ?_ (below_new _ _)); first | (with_reducible exact gb) | ((with_reducible refine below_set3 ?_ ?_ _ _ _); rotate_left; (first | (with_reducible exact et1_R_0) | (with_reducible exact et1_R_1) | (with_reducible exact et2_R_0) | (with_reducible exact et2_R_1)); first | (with_reducible exact gb) | ((with_reducible refine below_set3 ?_ ?_ _ _ _); rotate_left; (first | (with_reducible exact et1_R_0) | (with_reducible exact et1_R_1) | (with_reducible exact et2_R_0) | (with_reducible exact et2_R_1)); first | (with_reducible exact gb) | ((with_reducible refine below_set3 ?_ ?_ _ _ _); rotate_left; (first | (with_reducible exact et1_R_0) | (with_reducible exact et1_R_1) | (with_reducible exact et2_R_0) | (with_reducible exact et2_R_1)); with_reducible exact gb) | ((with_reducible refine below_step ?_ (below_new _ _)); with_reducible exact gb)) | ((with_reducible refine below_step ?_ (below_new _ _)); first | (with_reducible exact gb) | ((with_reducible refine below_set3 ?_ ?_ _ _ _); rotate_left; (first | (with_reducible exact et1_R_0) | (with_reducible exact et1_R_1) | (with_reducible exact et2_R_0) | (with_reducible exact et2_R_1)); with_reducible exact gb) | ((with_reducible refine below_step ?_ (below_new _ _)); with_reducible exact gb))) | ((with_reducible refine below_step ?_ (below_new _ _)); first | (with_reducible exact gb) | ((with_reducible refine below_set3 ?_ ?_ _ _ _); rotate_left; (first | (with_reducible exact et1_R_0) | (with_reducible exact et1_R_1) | (with_reducible exact et2_R_0) | (with_reducible exact et2_R_1)); first | (with_reducible exact gb) | ((with_reducible refine below_set3 ?_ ?_ _ _ _); rotate_left; (first | (with_reducible exact et1_R_0) | (with_reducible exact et1_R_1) | (with_reducible exact et2_R_0) | (with_reducible exact et2_R_1)); with_reducible exact gb) | ((with_reducible refine below_step ?_ (below_new _ _)); with_reducible exact gb)) | ((with_reducible refine below_step ?_ (below_new _ _)); first | (with_reducible exact gb) | ((with_reducible refine below_set3 ?_ ?_ _ _ _); rotate_left; (first | (with_reducible exact et1_R_0) | (with_reducible exact et1_R_1) | (with_reducible exact et2_R_0) | (with_reducible exact et2_R_1)); with_reducible exact gb) | ((with_reducible refine below_step ?_ (below_new _ _)); with_reducible exact gb))))))) (first
      | (go_at_call 43; (refine calls_gen w1 (by first | with_reducible exact Below.refl _ _ | with_reducible exact below_new _ _ | with_reducible exact below_step (below_new _ _) (below_new _ _)) ?_); intro V2 hV2 hbV2; have hsV2 := hbV2.size; have hu2 := gb.size; have g1 := g1.to hbV2; have gb := below_step gb hbV2; (try have t1_R_0 := t1_R_0.to hbV2); (try have t1_R_1 := t1_R_1.to hbV2); (try have t2_R_0 : Tri V2 (w1.heap.size) (.bool false) (.slice none 0 0) (.slice none 0 0) := (by rw [hV2]; first | with_reducible exact tri_new _ (.bool false) (.slice none 0 0) (.slice none 0 0) _ | with_reducible exact (tri_new _ (.bool false) (.slice none 0 0) (.slice none 0 0) _).alloc _)); have et2_R_0 : W0.heap.size ≤ w1.heap.size := (hu2); have get2_R_0_1 : w1.heap.size ≤ w1.heap.size := (Nat.le_refl _); (try have t2_R_1 : Tri V2 (w1.heap.size + 1) (.bool false) (.slice none 0 0) (.slice none 0 0) := (by rw [hV2]; first | with_reducible exact tri_new1 _ _ (.bool false) (.slice none 0 0) (.slice none 0 0) _)); have et2_R_1 : W0.heap.size ≤ w1.heap.size + 1 := (Nat.le_succ_of_le hu2); have get2_R_1_1 : w1.heap.size ≤ w1.heap.size + 1 := (Nat.le_succ _); (try have vt1_R_0_2 := t1_R_0.lt); (try have vt1_R_1_2 := t1_R_1.lt); (try have vt2_R_0_2 := t2_R_0.lt); (try have vt2_R_1_2 := t2_R_1.lt); (with_reducible refine (ratio_of c _ _ ln' ld' _ (i1.to gb) Hy).mono ?_); rintro e w2 ⟨ng2, a2_, n2_, c2_, p2_, m2_, k2_, rfl, g2, hb2⟩; have g1 := g1.to hb2; have gb := below_step gb hb2; have hs2 := hb2.size; (try have t1_R_0 := t1_R_0.to hb2); (try have t1_R_1 := t1_R_1.to hb2); (try have t2_R_0 := t2_R_0.to hb2); (try have t2_R_1 := t2_R_1.to hb2); (try have lt1_R_0_2 := t1_R_0.lt); (try have lt1_R_1_2 := t1_R_1.lt); (try have lt2_R_0_2 := t2_R_0.lt); (try have lt2_R_1_2 := t2_R_1.lt); (try (have qt1_R_0 := t1_R_0; obtain ⟨rt1_R_00, rt1_R_01, rt1_R_02, st1_R_00, st1_R_01, st1_R_02⟩ := qt1_R_0)); (try (have qt1_R_1 := t1_R_1; obtain ⟨rt1_R_10, rt1_R_11, rt1_R_12, st1_R_10, st1_R_11, st1_R_12⟩ := qt1_R_1)); (try (have qt2_R_0 := t2_R_0; obtain ⟨rt2_R_00, rt2_R_01, rt2_R_02, st2_R_00, st2_R_01, st2_R_02⟩ := qt2_R_0)); (try (have qt2_R_1 := t2_R_1; obtain ⟨rt2_R_10, rt2_R_11, rt2_R_12, st2_R_10, st2_R_11, st2_R_12⟩ := qt2_R_1)))
      | (go_at_call 43; (refine calls_gen W0 (by first | with_reducible exact (Below.refl _ _).drew | with_reducible exact (below_new _ _).drew | with_reducible exact (below_step (below_new _ _) (below_new _ _)).drew) ?_); intro V1 hV1 hbV1; have hsV1 := hbV1.size; have hu1 := gb.size; have gb := below_step gb hbV1; (try have t1_R_0 : Tri V1 (W0.heap.size) (.bool false) (.slice none 0 0) (.slice none 0 0) := (by rw [hV1]; first | with_reducible exact (tri_new _ (.bool false) (.slice none 0 0) (.slice none 0 0) _).drew | with_reducible exact ((tri_new _ (.bool false) (.slice none 0 0) (.slice none 0 0) _).alloc _).drew)); have et1_R_0 : W0.heap.size ≤ W0.heap.size := (hu1); (try have t1_R_1 : Tri V1 (W0.heap.size + 1) (.bool false) (.slice none 0 0) (.slice none 0 0) := (by rw [hV1]; first | with_reducible exact (tri_new1 _ _ (.bool false) (.slice none 0 0) (.slice none 0 0) _).drew)); have et1_R_1 : W0.heap.size ≤ W0.heap.size + 1 := (Nat.le_succ_of_le hu1); (try have vt1_R_0_1 := t1_R_0.lt); (try have vt1_R_1_1 := t1_R_1.lt); (with_reducible refine (ratio_of b _ _ ln ld _ (i0.to gb) Hx).mono ?_); rintro e w1 ⟨ng1, a1_, n1_, c1_, p1_, m1_, k1_, rfl, g1, hb1⟩; have gb := below_step gb hb1; have hs1 := hb1.size; (try have t1_R_0 := t1_R_0.to hb1); (try have t1_R_1 := t1_R_1.to hb1); (try have lt1_R_0_1 := t1_R_0.lt); (try have lt1_R_1_1 := t1_R_1.lt); (try (have qt1_R_0 := t1_R_0; obtain ⟨rt1_R_00, rt1_R_01, rt1_R_02, st1_R_00, st1_R_01, st1_R_02⟩ := qt1_R_0)); (try (have qt1_R_1 := t1_R_1; obtain ⟨rt1_R_10, rt1_R_11, rt1_R_12, st1_R_10, st1_R_11, st1_R_12⟩ := qt1_R_1))))
    all_goals (go_wp2_with fail; go_meet)
    all_goals first
      | (with_reducible exact boxQ2_old t1_R_0 t1_R_1 (Nat.ne_of_lt (Nat.lt_succ_self _)) g1 g2 (.inl vt1_R_0_1) (.inl vt1_R_1_1) (.inl vt1_R_0_2) (.inl vt1_R_1_2) gb et1_R_0 et1_R_1)
      | (with_reducible exact boxQ2_old t1_R_0 t2_R_0 (Nat.ne_of_lt lt1_R_0_1) g1 g2 (.inl vt1_R_0_1) (.inr get2_R_0_1) (.inl vt1_R_0_2) (.inl vt2_R_0_2) gb et1_R_0 et2_R_0)
      | (with_reducible exact boxQ2_old t1_R_0 t2_R_1 (Nat.ne_of_lt (Nat.lt_succ_of_lt lt1_R_0_1)) g1 g2 (.inl vt1_R_0_1) (.inr get2_R_1_1) (.inl vt1_R_0_2) (.inl vt2_R_1_2) gb et1_R_0 et2_R_1)
      | (with_reducible exact boxQ2_old t1_R_1 t1_R_0 ((Nat.ne_of_lt (Nat.lt_succ_self _)).symm) g1 g2 (.inl vt1_R_1_1) (.inl vt1_R_0_1) (.inl vt1_R_1_2) (.inl vt1_R_0_2) gb et1_R_1 et1_R_0)
      | (with_reducible exact boxQ2_old t1_R_1 t2_R_0 (Nat.ne_of_lt lt1_R_1_1) g1 g2 (.inl vt1_R_1_1) (.inr get2_R_0_1) (.inl vt1_R_1_2) (.inl vt2_R_0_2) gb et1_R_1 et2_R_0)
      | (with_reducible exact boxQ2_old t1_R_1 t2_R_1 (Nat.ne_of_lt (Nat.lt_succ_of_lt lt1_R_1_1)) g1 g2 (.inl vt1_R_1_1) (.inr get2_R_1_1) (.inl vt1_R_1_2) (.inl vt2_R_1_2) gb et1_R_1 et2_R_1)
      | (with_reducible exact boxQ2_old t2_R_0 t1_R_0 ((Nat.ne_of_lt lt1_R_0_1).symm) g1 g2 (.inr get2_R_0_1) (.inl vt1_R_0_1) (.inl vt2_R_0_2) (.inl vt1_R_0_2) gb et2_R_0 et1_R_0)
      | (with_reducible exact boxQ2_old t2_R_0 t1_R_1 ((Nat.ne_of_lt lt1_R_1_1).symm) g1 g2 (.inr get2_R_0_1) (.inl vt1_R_1_1) (.inl vt2_R_0_2) (.inl vt1_R_1_2) gb et2_R_0 et1_R_1)
      | (with_reducible exact boxQ2_old t2_R_0 t2_R_1 (Nat.ne_of_lt (Nat.lt_succ_self _)) g1 g2 (.inr get2_R_0_1) (.inr get2_R_1_1) (.inl vt2_R_0_2) (.inl vt2_R_1_2) gb et2_R_0 et2_R_1)
      | (with_reducible exact boxQ2_old t2_R_1 t1_R_0 ((Nat.ne_of_lt (Nat.lt_succ_of_lt lt1_R_0_1)).symm) g1 g2 (.inr get2_R_1_1) (.inl vt1_R_0_1) (.inl vt2_R_1_2) (.inl vt1_R_0_2) gb et2_R_1 et1_R_0)
      | (with_reducible exact boxQ2_old t2_R_1 t1_R_1 ((Nat.ne_of_lt (Nat.lt_succ_of_lt lt1_R_1_1)).symm) g1 g2 (.inr get2_R_1_1) (.inl vt1_R_1_1) (.inl vt2_R_1_2) (.inl vt1_R_1_2) gb et2_R_1 et1_R_1)
      | (with_reducible exact boxQ2_old t2_R_1 t2_R_0 ((Nat.ne_of_lt (Nat.lt_succ_self _)).symm) g1 g2 (.inr get2_R_1_1) (.inr get2_R_0_1) (.inl vt2_R_1_2) (.inl vt2_R_0_2) gb et2_R_1 et2_R_0)
      | (with_reducible exact boxQ2_one t1_R_0 g1 g2 (.inl vt1_R_0_1) (.inl vt1_R_0_2) gb et1_R_0)
      | (with_reducible exact (boxQ2_one t1_R_0 g2 g1 (.inl vt1_R_0_2) (.inl vt1_R_0_1) gb et1_R_0).symm)
      | (with_reducible exact boxQ2_one t1_R_1 g1 g2 (.inl vt1_R_1_1) (.inl vt1_R_1_2) gb et1_R_1)
      | (with_reducible exact (boxQ2_one t1_R_1 g2 g1 (.inl vt1_R_1_2) (.inl vt1_R_1_1) gb et1_R_1).symm)
      | (with_reducible exact boxQ2_one t2_R_0 g1 g2 (.inr get2_R_0_1) (.inl vt2_R_0_2) gb et2_R_0)
      | (with_reducible exact (boxQ2_one t2_R_0 g2 g1 (.inl vt2_R_0_2) (.inr get2_R_0_1) gb et2_R_0).symm)
      | (with_reducible exact boxQ2_one t2_R_1 g1 g2 (.inr get2_R_1_1) (.inl vt2_R_1_2) gb et2_R_1)
      | (with_reducible exact (boxQ2_one t2_R_1 g2 g1 (.inl vt2_R_1_2) (.inr get2_R_1_1) gb et2_R_1).symm)
      | (with_reducible exact boxQ2_new g1 g2 gb)
      | (with_reducible exact (boxQ2_new g2 g1 gb).symm)
  case rest =>
  obtain ⟨⟨B5, ng1, a1_, n1_, c1_, p1_, m1_, k1_, lo5, hi5, rfl, hB5, T5, g1, hc5⟩, ⟨B6, ng2, a2_, n2_, c2_, p2_, m2_, k2_, lo6, hi6, rfl, hB6, T6, g2, hc6⟩⟩ := hcut
  clear x0_0 y0_0 x0_1 y0_1 x0_2 y0_2 x1_0 y1_0 x1_1 y1_1 x1_2 y1_2 x2_0 y2_0 x2_1 y2_1 x2_2 y2_2
  have gb := hc5
  obtain ⟨x0_0, x0_1, x0_2, x1_0, x1_1, x1_2, x2_0, x2_1, x2_2⟩ := HXW0.out _ gb
  obtain ⟨y0_0, y0_1, y0_2, y1_0, y1_1, y1_2, y2_0, y2_1, y2_2⟩ := HYW0.out _ gb
  obtain ⟨z0, z1, z2⟩ := HZW0.out _ gb
  have z5 := T5.lt
  obtain ⟨x5_0, x5_1, x5_2, y5_0, y5_1, y5_2⟩ := T5
  have z6 := T6.lt
  obtain ⟨x6_0, x6_1, x6_2, y6_0, y6_1, y6_2⟩ := T6
  clear hgb
  obtain ⟨W1, hW1⟩ : ∃ W, wc = W := ⟨_, rfl⟩
  subst hW1
  replace i0 := i0.to gb
  replace i1 := i1.to gb
  replace zb := below_step zb gb
  have HXwc := Lib.hid (show ∀ W', Below wc.heap.size wc W' → (W'.cell? ⟨w.heap.size, 0, none⟩ = some (.bool b) ∧ W'.cell? ⟨w.heap.size, 1, none⟩ = some (.slice a0 n0 c0) ∧ W'.cell? ⟨w.heap.size, 2, none⟩ = some (.slice a1 n1 c1) ∧ W'.cell? ⟨w.heap.size + 1, 0, none⟩ = some (.bool c) ∧ W'.cell? ⟨w.heap.size + 1, 1, none⟩ = some (.slice a2 n2 c2) ∧ W'.cell? ⟨w.heap.size + 1, 2, none⟩ = some (.slice a3 n3 c3) ∧ W'.cell? ⟨w.heap.size + 1 + 1, 0, none⟩ = some (.bool false) ∧ W'.cell? ⟨w.heap.size + 1 + 1, 1, none⟩ = some (.slice none 0 0) ∧ W'.cell? ⟨w.heap.size + 1 + 1, 2, none⟩ = some (.slice none 0 0) ∧ W'.cell? ⟨B5, 0, none⟩ = some (.bool ng1) ∧ W'.cell? ⟨B5, 1, none⟩ = some (.slice a1_ n1_ c1_) ∧ W'.cell? ⟨B5, 2, none⟩ = some (.slice p1_ m1_ k1_) ∧ W'.cell? ⟨B6, 0, none⟩ = some (.bool ng2) ∧ W'.cell? ⟨B6, 1, none⟩ = some (.slice a2_ n2_ c2_) ∧ W'.cell? ⟨B6, 2, none⟩ = some (.slice p2_ m2_ k2_)) from fun W' hb =>
    ⟨(hb.cell (p := ⟨w.heap.size, 0, none⟩) z0).trans x0_0, (hb.cell (p := ⟨w.heap.size, 1, none⟩) z0).trans x0_1, (hb.cell (p := ⟨w.heap.size, 2, none⟩) z0).trans x0_2, (hb.cell (p := ⟨w.heap.size + 1, 0, none⟩) z1).trans x1_0, (hb.cell (p := ⟨w.heap.size + 1, 1, none⟩) z1).trans x1_1, (hb.cell (p := ⟨w.heap.size + 1, 2, none⟩) z1).trans x1_2, (hb.cell (p := ⟨w.heap.size + 1 + 1, 0, none⟩) z2).trans x2_0, (hb.cell (p := ⟨w.heap.size + 1 + 1, 1, none⟩) z2).trans x2_1, (hb.cell (p := ⟨w.heap.size + 1 + 1, 2, none⟩) z2).trans x2_2, (hb.cell (p := ⟨B5, 0, none⟩) z5).trans x5_0, (hb.cell (p := ⟨B5, 1, none⟩) z5).trans x5_1, (hb.cell (p := ⟨B5, 2, none⟩) z5).trans x5_2, (hb.cell (p := ⟨B6, 0, none⟩) z6).trans x6_0, (hb.cell (p := ⟨B6, 1, none⟩) z6).trans x6_1, (hb.cell (p := ⟨B6, 2, none⟩) z6).trans x6_2⟩)
  have HYwc := Lib.hid (show ∀ W', Below wc.heap.size wc W' → (W'.frozen? ⟨w.heap.size, 0, none⟩ = false ∧ W'.frozen? ⟨w.heap.size, 1, none⟩ = false ∧ W'.frozen? ⟨w.heap.size, 2, none⟩ = false ∧ W'.frozen? ⟨w.heap.size + 1, 0, none⟩ = false ∧ W'.frozen? ⟨w.heap.size + 1, 1, none⟩ = false ∧ W'.frozen? ⟨w.heap.size + 1, 2, none⟩ = false ∧ W'.frozen? ⟨w.heap.size + 1 + 1, 0, none⟩ = false ∧ W'.frozen? ⟨w.heap.size + 1 + 1, 1, none⟩ = false ∧ W'.frozen? ⟨w.heap.size + 1 + 1, 2, none⟩ = false ∧ W'.frozen? ⟨B5, 0, none⟩ = false ∧ W'.frozen? ⟨B5, 1, none⟩ = false ∧ W'.frozen? ⟨B5, 2, none⟩ = false ∧ W'.frozen? ⟨B6, 0, none⟩ = false ∧ W'.frozen? ⟨B6, 1, none⟩ = false ∧ W'.frozen? ⟨B6, 2, none⟩ = false) from fun W' hb =>
    ⟨(hb.frozen (p := ⟨w.heap.size, 0, none⟩) z0).trans y0_0, (hb.frozen (p := ⟨w.heap.size, 1, none⟩) z0).trans y0_1, (hb.frozen (p := ⟨w.heap.size, 2, none⟩) z0).trans y0_2, (hb.frozen (p := ⟨w.heap.size + 1, 0, none⟩) z1).trans y1_0, (hb.frozen (p := ⟨w.heap.size + 1, 1, none⟩) z1).trans y1_1, (hb.frozen (p := ⟨w.heap.size + 1, 2, none⟩) z1).trans y1_2, (hb.frozen (p := ⟨w.heap.size + 1 + 1, 0, none⟩) z2).trans y2_0, (hb.frozen (p := ⟨w.heap.size + 1 + 1, 1, none⟩) z2).trans y2_1, (hb.frozen (p := ⟨w.heap.size + 1 + 1, 2, none⟩) z2).trans y2_2, (hb.frozen (p := ⟨B5, 0, none⟩) z5).trans y5_0, (hb.frozen (p := ⟨B5, 1, none⟩) z5).trans y5_1, (hb.frozen (p := ⟨B5, 2, none⟩) z5).trans y5_2, (hb.frozen (p := ⟨B6, 0, none⟩) z6).trans y6_0, (hb.frozen (p := ⟨B6, 1, none⟩) z6).trans y6_1, (hb.frozen (p := ⟨B6, 2, none⟩) z6).trans y6_2⟩)
  have HZwc := Lib.hid (show ∀ W', Below wc.heap.size wc W' → (w.heap.size < W'.heap.size ∧ w.heap.size + 1 < W'.heap.size ∧ w.heap.size + 1 + 1 < W'.heap.size ∧ B5 < W'.heap.size ∧ B6 < W'.heap.size) from fun W' hb =>
    ⟨Nat.lt_of_lt_of_le z0 hb.size, Nat.lt_of_lt_of_le z1 hb.size, Nat.lt_of_lt_of_le z2 hb.size, Nat.lt_of_lt_of_le z5 hb.size, Nat.lt_of_lt_of_le z6 hb.size⟩)
  replace gb := Below.refl wc.heap.size wc
  go_wp2_with fail
  have nz0 : w.heap.size ≠ w.heap.size + 1 + 1 := by omega
  have nz1 : w.heap.size + 1 ≠ w.heap.size + 1 + 1 := by omega
  have nz5 : B5 ≠ w.heap.size + 1 + 1 := by omega
  have nz6 : B6 ≠ w.heap.size + 1 + 1 := by omega
  go_region_held3 (fun W' => W'.cell? ⟨w.heap.size, 0, none⟩ = some (.bool b) ∧ W'.cell? ⟨w.heap.size, 1, none⟩ = some (.slice a0 n0 c0) ∧ W'.cell? ⟨w.heap.size, 2, none⟩ = some (.slice a1 n1 c1) ∧ W'.cell? ⟨w.heap.size + 1, 0, none⟩ = some (.bool c) ∧ W'.cell? ⟨w.heap.size + 1, 1, none⟩ = some (.slice a2 n2 c2) ∧ W'.cell? ⟨w.heap.size + 1, 2, none⟩ = some (.slice a3 n3 c3) ∧ W'.cell? ⟨B5, 0, none⟩ = some (.bool ng1) ∧ W'.cell? ⟨B5, 1, none⟩ = some (.slice a1_ n1_ c1_) ∧ W'.cell? ⟨B5, 2, none⟩ = some (.slice p1_ m1_ k1_) ∧ W'.cell? ⟨B6, 0, none⟩ = some (.bool ng2) ∧ W'.cell? ⟨B6, 1, none⟩ = some (.slice a2_ n2_ c2_) ∧ W'.cell? ⟨B6, 2, none⟩ = some (.slice p2_ m2_ k2_)) (first | (with_reducible exact ⟨x0_0, x0_1, x0_2, x1_0, x1_1, x1_2, x5_0, x5_1, x5_2, x6_0, x6_1, x6_2⟩) | (with_reducible exact ⟨cell_put (cell_put (cell_put (x0_0) (.inl nz0) _) (.inl nz0) _) (.inl nz0) _, cell_put (cell_put (cell_put (x0_1) (.inl nz0) _) (.inl nz0) _) (.inl nz0) _, cell_put (cell_put (cell_put (x0_2) (.inl nz0) _) (.inl nz0) _) (.inl nz0) _, cell_put (cell_put (cell_put (x1_0) (.inl nz1) _) (.inl nz1) _) (.inl nz1) _, cell_put (cell_put (cell_put (x1_1) (.inl nz1) _) (.inl nz1) _) (.inl nz1) _, cell_put (cell_put (cell_put (x1_2) (.inl nz1) _) (.inl nz1) _) (.inl nz1) _, cell_put (cell_put (cell_put (x5_0) (.inl nz5) _) (.inl nz5) _) (.inl nz5) _, cell_put (cell_put (cell_put (x5_1) (.inl nz5) _) (.inl nz5) _) (.inl nz5) _, cell_put (cell_put (cell_put (x5_2) (.inl nz5) _) (.inl nz5) _) (.inl nz5) _, cell_put (cell_put (cell_put (x6_0) (.inl nz6) _) (.inl nz6) _) (.inl nz6) _, cell_put (cell_put (cell_put (x6_1) (.inl nz6) _) (.inl nz6) _) (.inl nz6) _, cell_put (cell_put (cell_put (x6_2) (.inl nz6) _) (.inl nz6) _) (.inl nz6) _⟩) | exact ⟨x0_0, x0_1, x0_2, x1_0, x1_1, x1_2, x5_0, x5_1, x5_2, x6_0, x6_1, x6_2⟩) (first
    | (go_at_call 22; (with_reducible refine (ratio_make_no ng13 ng16 _ _ _ _ _ g13.isI.up g16.isI.up S6.out HZ.out).mono ?_); rintro e w17 ⟨rfl, hb17⟩; have g13 := g13.to hb17; have g16 := g16.to hb17; have gb := below_step gb hb17; obtain ⟨x0_0, x0_1, x0_2, x1_0, x1_1, x1_2, x2_0, x2_1, x2_2, x5_0, x5_1, x5_2, x6_0, x6_1, x6_2⟩ := HXwc.out _ gb; obtain ⟨y0_0, y0_1, y0_2, y1_0, y1_1, y1_2, y2_0, y2_1, y2_2, y5_0, y5_1, y5_2, y6_0, y6_1, y6_2⟩ := HYwc.out _ gb; obtain ⟨z0, z1, z2, z5, z6⟩ := HZwc.out _ gb)
    | (go_at_call 61; (with_reducible refine (mul_c _ (g1.to gb).below (g2.to gb).above ((x.den : Int) * y.num) rfl S2).mono ?_); rintro e w16 ⟨ng16, a16_, n16_, c16_, rfl, g16, hb16⟩; have g13 := g13.to hb16; have gb := below_step gb hb16; obtain ⟨x0_0, x0_1, x0_2, x1_0, x1_1, x1_2, x2_0, x2_1, x2_2, x5_0, x5_1, x5_2, x6_0, x6_1, x6_2⟩ := HXwc.out _ gb; obtain ⟨y0_0, y0_1, y0_2, y1_0, y1_1, y1_2, y2_0, y2_1, y2_2, y5_0, y5_1, y5_2, y6_0, y6_1, y6_2⟩ := HYwc.out _ gb; obtain ⟨z0, z1, z2, z5, z6⟩ := HZwc.out _ gb)
    | (go_at_call 45; (with_reducible refine (ratio_above _ _ _ _ _ _ (g2.to gb).isQ).mono ?_); rintro e w15 ⟨rfl, hb15⟩; have g13 := g13.to hb15; have gb := below_step gb hb15; obtain ⟨x0_0, x0_1, x0_2, x1_0, x1_1, x1_2, x2_0, x2_1, x2_2, x5_0, x5_1, x5_2, x6_0, x6_1, x6_2⟩ := HXwc.out _ gb; obtain ⟨y0_0, y0_1, y0_2, y1_0, y1_1, y1_2, y2_0, y2_1, y2_2, y5_0, y5_1, y5_2, y6_0, y6_1, y6_2⟩ := HYwc.out _ gb; obtain ⟨z0, z1, z2, z5, z6⟩ := HZwc.out _ gb)
    | (go_at_call 62; (with_reducible refine (ratio_below _ _ _ _ _ _ (g1.to gb).isQ).mono ?_); rintro e w14 ⟨rfl, hb14⟩; have g13 := g13.to hb14; have gb := below_step gb hb14; obtain ⟨x0_0, x0_1, x0_2, x1_0, x1_1, x1_2, x2_0, x2_1, x2_2, x5_0, x5_1, x5_2, x6_0, x6_1, x6_2⟩ := HXwc.out _ gb; obtain ⟨y0_0, y0_1, y0_2, y1_0, y1_1, y1_2, y2_0, y2_1, y2_2, y5_0, y5_1, y5_2, y6_0, y6_1, y6_2⟩ := HYwc.out _ gb; obtain ⟨z0, z1, z2, z5, z6⟩ := HZwc.out _ gb)
    | (go_at_call 61; (with_reducible refine (mul_c _ (g1.to gb).above (g2.to gb).below (x.num * (y.den : Int)) rfl S1).mono ?_); rintro e w13 ⟨ng13, a13_, n13_, c13_, rfl, g13, hb13⟩; have gb := below_step gb hb13; obtain ⟨x0_0, x0_1, x0_2, x1_0, x1_1, x1_2, x2_0, x2_1, x2_2, x5_0, x5_1, x5_2, x6_0, x6_1, x6_2⟩ := HXwc.out _ gb; obtain ⟨y0_0, y0_1, y0_2, y1_0, y1_1, y1_2, y2_0, y2_1, y2_2, y5_0, y5_1, y5_2, y6_0, y6_1, y6_2⟩ := HYwc.out _ gb; obtain ⟨z0, z1, z2, z5, z6⟩ := HZwc.out _ gb)
    | (go_at_call 62; (with_reducible refine (ratio_below _ _ _ _ _ _ (g2.to gb).isQ).mono ?_); rintro e w12 ⟨rfl, hb12⟩; have gb := below_step gb hb12; obtain ⟨x0_0, x0_1, x0_2, x1_0, x1_1, x1_2, x2_0, x2_1, x2_2, x5_0, x5_1, x5_2, x6_0, x6_1, x6_2⟩ := HXwc.out _ gb; obtain ⟨y0_0, y0_1, y0_2, y1_0, y1_1, y1_2, y2_0, y2_1, y2_2, y5_0, y5_1, y5_2, y6_0, y6_1, y6_2⟩ := HYwc.out _ gb; obtain ⟨z0, z1, z2, z5, z6⟩ := HZwc.out _ gb)
    | (go_at_call 45; have gb := gb.drew; (with_reducible refine (ratio_above _ _ _ _ _ _ (g1.to gb).isQ).mono ?_); rintro e w11 ⟨rfl, hb11⟩; have gb := below_step gb hb11; obtain ⟨x0_0, x0_1, x0_2, x1_0, x1_1, x1_2, x2_0, x2_1, x2_2, x5_0, x5_1, x5_2, x6_0, x6_1, x6_2⟩ := HXwc.out _ gb; obtain ⟨y0_0, y0_1, y0_2, y1_0, y1_1, y1_2, y2_0, y2_1, y2_2, y5_0, y5_1, y5_2, y6_0, y6_1, y6_2⟩ := HYwc.out _ gb; obtain ⟨z0, z1, z2, z5, z6⟩ := HZwc.out _ gb))
  go_wp2_with fail
  refine bodyPost_ret (results_Rt Try.results32 _ _ _ _ _ _ rfl (Tri.set (x0 := .bool false) (y0 := .slice none 0 0) (z0 := .slice none 0 0) ⟨x2_0, x2_1, x2_2, y2_0, y2_1, y2_2⟩ _ _ _)) rfl ⟨rfl, below_set3 (below_step zb gb) (by omega) _ _ _⟩

set_option maxRecDepth 100000 in
set_option maxHeartbeats 40000000 in
theorem ratio_div {x y : Rat} (b : Bool) (v u : Value) (ln ld : List Nat) (c : Bool) (v' u' : Value) (ln' ld' : List Nat) (w : World) (h : IsQ w b v u ln ld x) (h' : IsQ w c v' u' ln' ld' y) (h0 : y ≠ 0) (q : Rat) (hq : x / y = q) (hs : Hid (szq q ≤ 1000)) :
    Calls Try.prog 32 #[aggR b v u, aggR c v' u'] w (GivesQK w q) := by
  have Hx : Hid (szq x ≤ 1000) := isQ_sz h
  have Hy : Hid (szq y ≤ 1000) := isQ_sz h'
  have S1 := Lib.hid (show szi (x.num * (y.den : Int)) ≤ 90000 from over_sz Hx.out Hy.out)
  have S2 := Lib.hid (show szi ((x.den : Int) * y.num) ≤ 90000 by rw [Int.mul_comm]; exact over_sz Hy.out Hx.out)
  have S5 := Lib.hid (show (limbs (x.num * (y.den : Int)).natAbs).length ≤ 3000 from over_len Hx.out Hy.out)
  have S6 := Lib.hid (show (limbs ((x.den : Int) * y.num).natAbs).length ≤ 3000 by rw [Int.mul_comm]; exact over_len Hy.out Hx.out)
  have HZ := Lib.hid (show val (limbs ((x.den : Int) * y.num).natAbs) ≠ 0 by
    rw [val_limbs, Int.natAbs_mul]
    exact Nat.mul_ne_zero (by have := x.den_nz; omega) (fun e => h0 (Rat.num_eq_zero.1 (Int.natAbs_eq_zero.1 e))))
  have H9 := Lib.hid (show ∀ ng ng', decide (x.num * (y.den : Int) < 0) = ng → decide ((x.den : Int) * y.num < 0) = ng' → rat (ng != ng') (val (limbs (x.num * (y.den : Int)).natAbs)) (val (limbs ((x.den : Int) * y.num).natAbs)) = q from fun ng ng' e e' => by
    rw [← e, ← e', val_limbs, val_limbs, div_rat x h0, hq])
  obtain ⟨a0, n0, c0, rfl, H0, hm0⟩ := h.1.open
  obtain ⟨a1, n1, c1, rfl, H1, hm1⟩ := h.2.1.open
  obtain ⟨a2, n2, c2, rfl, H2, hm2⟩ := h'.1.open
  obtain ⟨a3, n3, c3, rfl, H3, hm3⟩ := h'.2.1.open
  clear hq h0
  go_enter Try.func32, Try.ntmps32
  go_wp2_with fail
  obtain ⟨W0, hW0⟩ : ∃ W0, ((w.alloc (.cells #[.bool b, .slice a0 n0 c0, .slice a1 n1 c1] 24)).alloc (.cells #[.bool c, .slice a2 n2 c2, .slice a3 n3 c3] 24)).alloc (.cells #[.bool false, .slice none 0 0, .slice none 0 0] 24) = W0 := ⟨_, rfl⟩
  have HXW0 := Lib.hid (show ∀ W', Below W0.heap.size W0 W' → (W'.cell? ⟨w.heap.size, 0, none⟩ = some (.bool b) ∧ W'.cell? ⟨w.heap.size, 1, none⟩ = some (.slice a0 n0 c0) ∧ W'.cell? ⟨w.heap.size, 2, none⟩ = some (.slice a1 n1 c1) ∧ W'.cell? ⟨w.heap.size + 1, 0, none⟩ = some (.bool c) ∧ W'.cell? ⟨w.heap.size + 1, 1, none⟩ = some (.slice a2 n2 c2) ∧ W'.cell? ⟨w.heap.size + 1, 2, none⟩ = some (.slice a3 n3 c3) ∧ W'.cell? ⟨w.heap.size + 1 + 1, 0, none⟩ = some (.bool false) ∧ W'.cell? ⟨w.heap.size + 1 + 1, 1, none⟩ = some (.slice none 0 0) ∧ W'.cell? ⟨w.heap.size + 1 + 1, 2, none⟩ = some (.slice none 0 0)) from fun W' hb =>
    ⟨(hb.cell (p := ⟨w.heap.size, 0, none⟩) (by rw [← hW0]; simp <;> omega)).trans (by rw [← hW0]; simp [go_sem]), (hb.cell (p := ⟨w.heap.size, 1, none⟩) (by rw [← hW0]; simp <;> omega)).trans (by rw [← hW0]; simp [go_sem]), (hb.cell (p := ⟨w.heap.size, 2, none⟩) (by rw [← hW0]; simp <;> omega)).trans (by rw [← hW0]; simp [go_sem]), (hb.cell (p := ⟨w.heap.size + 1, 0, none⟩) (by rw [← hW0]; simp <;> omega)).trans (by rw [← hW0]; simp [go_sem]), (hb.cell (p := ⟨w.heap.size + 1, 1, none⟩) (by rw [← hW0]; simp <;> omega)).trans (by rw [← hW0]; simp [go_sem]), (hb.cell (p := ⟨w.heap.size + 1, 2, none⟩) (by rw [← hW0]; simp <;> omega)).trans (by rw [← hW0]; simp [go_sem]), (hb.cell (p := ⟨w.heap.size + 1 + 1, 0, none⟩) (by rw [← hW0]; simp <;> omega)).trans (by rw [← hW0]; simp [go_sem]), (hb.cell (p := ⟨w.heap.size + 1 + 1, 1, none⟩) (by rw [← hW0]; simp <;> omega)).trans (by rw [← hW0]; simp [go_sem]), (hb.cell (p := ⟨w.heap.size + 1 + 1, 2, none⟩) (by rw [← hW0]; simp <;> omega)).trans (by rw [← hW0]; simp [go_sem])⟩)
  have HYW0 := Lib.hid (show ∀ W', Below W0.heap.size W0 W' → (W'.frozen? ⟨w.heap.size, 0, none⟩ = false ∧ W'.frozen? ⟨w.heap.size, 1, none⟩ = false ∧ W'.frozen? ⟨w.heap.size, 2, none⟩ = false ∧ W'.frozen? ⟨w.heap.size + 1, 0, none⟩ = false ∧ W'.frozen? ⟨w.heap.size + 1, 1, none⟩ = false ∧ W'.frozen? ⟨w.heap.size + 1, 2, none⟩ = false ∧ W'.frozen? ⟨w.heap.size + 1 + 1, 0, none⟩ = false ∧ W'.frozen? ⟨w.heap.size + 1 + 1, 1, none⟩ = false ∧ W'.frozen? ⟨w.heap.size + 1 + 1, 2, none⟩ = false) from fun W' hb =>
    ⟨(hb.frozen (p := ⟨w.heap.size, 0, none⟩) (by rw [← hW0]; simp <;> omega)).trans (by rw [← hW0]; simp [go_sem]), (hb.frozen (p := ⟨w.heap.size, 1, none⟩) (by rw [← hW0]; simp <;> omega)).trans (by rw [← hW0]; simp [go_sem]), (hb.frozen (p := ⟨w.heap.size, 2, none⟩) (by rw [← hW0]; simp <;> omega)).trans (by rw [← hW0]; simp [go_sem]), (hb.frozen (p := ⟨w.heap.size + 1, 0, none⟩) (by rw [← hW0]; simp <;> omega)).trans (by rw [← hW0]; simp [go_sem]), (hb.frozen (p := ⟨w.heap.size + 1, 1, none⟩) (by rw [← hW0]; simp <;> omega)).trans (by rw [← hW0]; simp [go_sem]), (hb.frozen (p := ⟨w.heap.size + 1, 2, none⟩) (by rw [← hW0]; simp <;> omega)).trans (by rw [← hW0]; simp [go_sem]), (hb.frozen (p := ⟨w.heap.size + 1 + 1, 0, none⟩) (by rw [← hW0]; simp <;> omega)).trans (by rw [← hW0]; simp [go_sem]), (hb.frozen (p := ⟨w.heap.size + 1 + 1, 1, none⟩) (by rw [← hW0]; simp <;> omega)).trans (by rw [← hW0]; simp [go_sem]), (hb.frozen (p := ⟨w.heap.size + 1 + 1, 2, none⟩) (by rw [← hW0]; simp <;> omega)).trans (by rw [← hW0]; simp [go_sem])⟩)
  have HZW0 := Lib.hid (show ∀ W', Below W0.heap.size W0 W' → (w.heap.size < W'.heap.size ∧ w.heap.size + 1 < W'.heap.size ∧ w.heap.size + 1 + 1 < W'.heap.size) from fun W' hb =>
    ⟨Nat.lt_of_lt_of_le (by rw [← hW0]; simp <;> omega) hb.size, Nat.lt_of_lt_of_le (by rw [← hW0]; simp <;> omega) hb.size, Nat.lt_of_lt_of_le (by rw [← hW0]; simp <;> omega) hb.size⟩)
  have zb : Below w.heap.size w W0 := by rw [← hW0]; exact below_step (below_step (below_new _ _) (below_new _ _)) (below_new _ _)
  rw [hW0]
  clear hW0
  have i0 := h.to zb
  have i1 := h'.to zb
  have gb : Below W0.heap.size W0 W0 := Below.refl _ _
  obtain ⟨x0_0, x0_1, x0_2, x1_0, x1_1, x1_2, x2_0, x2_1, x2_2⟩ := HXW0.out _ gb
  obtain ⟨y0_0, y0_1, y0_2, y1_0, y1_1, y1_2, y2_0, y2_1, y2_2⟩ := HYW0.out _ gb
  obtain ⟨z0, z1, z2⟩ := HZW0.out _ gb
  have hgb := gb
  go_upto_region 1 with fail
  go_cut [6, 7] from 8 (fun s6 s7 wx => BoxQ W0 (x) s6 wx ∧ BoxQ W0 (y) s7 wx)
  case first =>
    go_region_held3 (fun W' => W'.cell? ⟨w.heap.size, 0, none⟩ = some (.bool b) ∧ W'.cell? ⟨w.heap.size, 1, none⟩ = some (.slice a0 n0 c0) ∧ W'.cell? ⟨w.heap.size, 2, none⟩ = some (.slice a1 n1 c1) ∧ W'.cell? ⟨w.heap.size + 1, 0, none⟩ = some (.bool c) ∧ W'.cell? ⟨w.heap.size + 1, 1, none⟩ = some (.slice a2 n2 c2) ∧ W'.cell? ⟨w.heap.size + 1, 2, none⟩ = some (.slice a3 n3 c3) ∧ W'.cell? ⟨w.heap.size + 1 + 1, 0, none⟩ = some (.bool false) ∧ W'.cell? ⟨w.heap.size + 1 + 1, 1, none⟩ = some (.slice none 0 0) ∧ W'.cell? ⟨w.heap.size + 1 + 1, 2, none⟩ = some (.slice none 0 0)) (first | (with_reducible exact HXW0.out _ gb) | ((with_reducible refine HXW0.out _ ?_); first | ((with_reducible refine Below.drew ?_); first | (with_reducible exact gb) | ((with_reducible refine below_set3 ?_ ?_ _ _ _); rotate_left; (first | (with_reducible exact et1_R_0) | (with_reducible exact et1_R_1) | (with_reducible exact et2_R_0) | (with_reducible exact et2_R_1)); first | (with_reducible exact gb) | ((with_reducible refine below_set3 ?_ ?_ _ _ _); rotate_left; (first | (with_reducible exact et1_R_0) | (with_reducible exact et1_R_1) | (with_reducible exact et2_R_0) | (with_reducible exact et2_R_1)); with_reducible exact gb) | ((with_reducible refine below_step ?_ (below_new _ _)); with_reducible exact gb)) | ((with_reducible refine below_step ?_ (below_new _ _)); first | (with_reducible exact gb) | ((with_reducible refine below_set3 ?_ ?_ _ _ _); rotate_left; (first | (with_reducible exact et1_R_0) | (with_reducible exact et1_R_1) | (with_reducible exact et2_R_0) | (with_reducible exact et2_R_1)); with_reducible exact gb) | ((with_reducible refine below_step ?_ (below_new _ _)); with_reducible exact gb))) | (first | (with_reducible exact gb) | ((with_reducible refine below_set3 ?_ ?_ _ _ _); rotate_left; (first | (with_reducible exact et1_R_0) | (with_reducible exact et1_R_1) | (with_reducible exact et2_R_0) | (with_reducible exact et2_R_1)); first | (with_reducible exact gb) | ((with_reducible refine below_set3 ?_ ?_ _ _ _); rotate_left; (first | (with_reducible exact et1_R_0) | (with_reducible exact et1_R_1) | (with_reducible exact et2_R_0) | (with_reducible exact et2_R_1)); first | (with_reducible exact gb) | ((with_reducible refine below_set3 ?_ ?_ _ _ _); rotate_left; (first | (with_reducible exact et1_R_0) | (with_reducible exact et1_R_1) | (with_reducible exact et2_R_0) | (with_reducible exact et2_R_1)); first | (with_reducible exact gb) | ((with_reducible refine below_set3 ?_ ?_ _ _ _); rotate_left; (first | (with_reducible exact et1_R_0) | (with_reducible exact et1_R_1) | (with_reducible exact et2_R_0) | (with_reducible exact et2_R_1)); with_reducible exact gb) | ((with_reducible refine below_step ?_ (below_new _ _)); with_reducible exact gb)) | ((with_reducible refine below_step ?_ (below_new _ _)); first | (with_reducible exact gb) | ((with_reducible refine below_set3 ?_ ?_ _ _ _); rotate_left; (first | (with_reducible exact et1_R_0) | (with_reducible exact et1_R_1) | (with_reducible exact et2_R_0) | (with_reducible exact et2_R_1)); with_reducible exact gb) | ((with_reducible refine below_step ?_ (below_new _ _)); with_reducible exact gb))) | ((with_reducible refine below_step ?_ (below_new _ _)); first | (with_reducible exact gb) | ((with_reducible refine below_set3 ?_ ?_ _ _ _); rotate_left; (first | (with_reducible exact et1_R_0) | (with_reducible exact et1_R_1) | (with_reducible exact et2_R_0) | (with_reducible exact et2_R_1)); first | (with_reducible exact gb) | ((with_reducible refine below_set3 ?_ ?_ _ _ _); rotate_left; (first | (with_reducible exact et1_R_0) | (with_reducible exact et1_R_1) | (with_reducible exact et2_R_0) | (with_reducible exact et2_R_1)); with_reducible exact gb) | ((with_reducible refine below_step ?_ (below_new _ _)); with_reducible exact gb)) | ((with_reducible refine below_step ?_ (below_new _ _)); first | (with_reducible exact gb) | ((with_reducible refine below_set3 ?_ ?_ _ _ _); rotate_left; (first | (with_reducible exact et1_R_0) | (with_reducible exact et1_R_1) | (with_reducible exact et2_R_0) | (with_reducible exact et2_R_1)); with_reducible exact gb) | ((with_reducible refine below_step ?_ (below_new _ _)); with_reducible exact gb)))) | ((with_reducible refine below_step ?_ (below_new _ _)); first | (with_reducible exact gb) | ((with_reducible refine below_set3 ?_ ?_ _ _ _); rotate_left; (first | (with_reducible exact et1_R_0) | (with_reducible exact et1_R_1) | (with_reducible exact et2_R_0) | (with_reducible exact et2_R_1)); first | (with_reducible exact gb) | ((with_reducible refine below_set3 ?_ ?_ _ _ _); rotate_left; (first | (with_reducible exact et1_R_0) | (with_reducible exact et1_R_1) | (with_reducible exact et2_R_0) | (with_reducible exact et2_R_1)); first | (with_reducible exact gb) | ((with_reducible refine below_set3 ?_ ?_ _ _ _); rotate_left; (first | (with_reducible exact et1_R_0) | (with_reducible exact et1_R_1) | (with_reducible exact et2_R_0) | (with_reducible exact et2_R_1)); with_reducible exact gb) | ((with_reducible refine below_step ?_ (below_new _ _)); with_reducible exact gb)) | ((with_reducible refine below_step ?_ (below_new _ _)); first | (with_reducible exact gb) | ((with_reducible refine below_set3 ?_ ?_ _ _ _); rotate_left; (first | (with_reducible exact et1_R_0) | (with_reducible exact et1_R_1) | (with_reducible exact et2_R_0) | (with_reducible exact et2_R_1)); with_reducible exact gb) | ((with_reducible refine below_step ?_ (below_new _ _)); with_reducible exact gb))) | ((with_reducible refine below_step ?_ (below_new _ _)); first | (with_reducible exact gb) | ((with_reducible refine below_set3 ?_ ?_ _ _ _); rotate_left; (first | (with_reducible exact et1_R_0) | (with_reducible exact et1_R_1) | (with_reducible exact et2_R_0) | (with_reducible exact et2_R_1)); first | (with_reducible exact gb) | ((with_reducible refine below_set3 ?_ ?_ _ _ _); rotate_left; (first | (with_reducible exact et1_R_0) | (with_reducible exact et1_R_1) | (with_reducible exact et2_R_0) | (with_reducible exact et2_R_1)); with_reducible exact gb) | ((with_reducible refine below_step ?_ (below_new _ _)); with_reducible exact gb)) | ((with_reducible refine below_step ?_ (below_new _ _)); first | (with_reducible exact gb) | ((with_reducible refine below_set3 ?_ ?_ _ _ _); rotate_left; (first | (with_reducible exact et1_R_0) | (with_reducible exact et1_R_1) | (with_reducible exact et2_R_0) | (with_reducible exact et2_R_1)); with_reducible exact gb) | ((with_reducible refine below_step ?_ (below_new _ _)); with_reducible exact gb))))))) (first
      | (go_at_call 43; (refine calls_gen w1 (by first | with_reducible exact Below.refl _ _ | with_reducible exact below_new _ _ | with_reducible exact below_step (below_new _ _) (below_new _ _)) ?_); intro V2 hV2 hbV2; have hsV2 := hbV2.size; have hu2 := gb.size; have g1 := g1.to hbV2; have gb := below_step gb hbV2; (try have t1_R_0 := t1_R_0.to hbV2); (try have t1_R_1 := t1_R_1.to hbV2); (try have t2_R_0 : Tri V2 (w1.heap.size) (.bool false) (.slice none 0 0) (.slice none 0 0) := (by rw [hV2]; first | with_reducible exact tri_new _ (.bool false) (.slice none 0 0) (.slice none 0 0) _ | with_reducible exact (tri_new _ (.bool false) (.slice none 0 0) (.slice none 0 0) _).alloc _)); have et2_R_0 : W0.heap.size ≤ w1.heap.size := (hu2); have get2_R_0_1 : w1.heap.size ≤ w1.heap.size := (Nat.le_refl _); (try have t2_R_1 : Tri V2 (w1.heap.size + 1) (.bool false) (.slice none 0 0) (.slice none 0 0) := (by rw [hV2]; first | with_reducible exact tri_new1 _ _ (.bool false) (.slice none 0 0) (.slice none 0 0) _)); have et2_R_1 : W0.heap.size ≤ w1.heap.size + 1 := (Nat.le_succ_of_le hu2); have get2_R_1_1 : w1.heap.size ≤ w1.heap.size + 1 := (Nat.le_succ _); (try have vt1_R_0_2 := t1_R_0.lt); (try have vt1_R_1_2 := t1_R_1.lt); (try have vt2_R_0_2 := t2_R_0.lt); (try have vt2_R_1_2 := t2_R_1.lt); (with_reducible refine (ratio_of c _ _ ln' ld' _ (i1.to gb) Hy).mono ?_); rintro e w2 ⟨ng2, a2_, n2_, c2_, p2_, m2_, k2_, rfl, g2, hb2⟩; have g1 := g1.to hb2; have gb := below_step gb hb2; have hs2 := hb2.size; (try have t1_R_0 := t1_R_0.to hb2); (try have t1_R_1 := t1_R_1.to hb2); (try have t2_R_0 := t2_R_0.to hb2); (try have t2_R_1 := t2_R_1.to hb2); (try have lt1_R_0_2 := t1_R_0.lt); (try have lt1_R_1_2 := t1_R_1.lt); (try have lt2_R_0_2 := t2_R_0.lt); (try have lt2_R_1_2 := t2_R_1.lt); (try (have qt1_R_0 := t1_R_0; obtain ⟨rt1_R_00, rt1_R_01, rt1_R_02, st1_R_00, st1_R_01, st1_R_02⟩ := qt1_R_0)); (try (have qt1_R_1 := t1_R_1; obtain ⟨rt1_R_10, rt1_R_11, rt1_R_12, st1_R_10, st1_R_11, st1_R_12⟩ := qt1_R_1)); (try (have qt2_R_0 := t2_R_0; obtain ⟨rt2_R_00, rt2_R_01, rt2_R_02, st2_R_00, st2_R_01, st2_R_02⟩ := qt2_R_0)); (try (have qt2_R_1 := t2_R_1; obtain ⟨rt2_R_10, rt2_R_11, rt2_R_12, st2_R_10, st2_R_11, st2_R_12⟩ := qt2_R_1)))
      | (go_at_call 43; (refine calls_gen W0 (by first | with_reducible exact (Below.refl _ _).drew | with_reducible exact (below_new _ _).drew | with_reducible exact (below_step (below_new _ _) (below_new _ _)).drew) ?_); intro V1 hV1 hbV1; have hsV1 := hbV1.size; have hu1 := gb.size; have gb := below_step gb hbV1; (try have t1_R_0 : Tri V1 (W0.heap.size) (.bool false) (.slice none 0 0) (.slice none 0 0) := (by rw [hV1]; first | with_reducible exact (tri_new _ (.bool false) (.slice none 0 0) (.slice none 0 0) _).drew | with_reducible exact ((tri_new _ (.bool false) (.slice none 0 0) (.slice none 0 0) _).alloc _).drew)); have et1_R_0 : W0.heap.size ≤ W0.heap.size := (hu1); (try have t1_R_1 : Tri V1 (W0.heap.size + 1) (.bool false) (.slice none 0 0) (.slice none 0 0) := (by rw [hV1]; first | with_reducible exact (tri_new1 _ _ (.bool false) (.slice none 0 0) (.slice none 0 0) _).drew)); have et1_R_1 : W0.heap.size ≤ W0.heap.size + 1 := (Nat.le_succ_of_le hu1); (try have vt1_R_0_1 := t1_R_0.lt); (try have vt1_R_1_1 := t1_R_1.lt); (with_reducible refine (ratio_of b _ _ ln ld _ (i0.to gb) Hx).mono ?_); rintro e w1 ⟨ng1, a1_, n1_, c1_, p1_, m1_, k1_, rfl, g1, hb1⟩; have gb := below_step gb hb1; have hs1 := hb1.size; (try have t1_R_0 := t1_R_0.to hb1); (try have t1_R_1 := t1_R_1.to hb1); (try have lt1_R_0_1 := t1_R_0.lt); (try have lt1_R_1_1 := t1_R_1.lt); (try (have qt1_R_0 := t1_R_0; obtain ⟨rt1_R_00, rt1_R_01, rt1_R_02, st1_R_00, st1_R_01, st1_R_02⟩ := qt1_R_0)); (try (have qt1_R_1 := t1_R_1; obtain ⟨rt1_R_10, rt1_R_11, rt1_R_12, st1_R_10, st1_R_11, st1_R_12⟩ := qt1_R_1))))
    all_goals (go_wp2_with fail; go_meet)
    all_goals first
      | (with_reducible exact boxQ2_old t1_R_0 t1_R_1 (Nat.ne_of_lt (Nat.lt_succ_self _)) g1 g2 (.inl vt1_R_0_1) (.inl vt1_R_1_1) (.inl vt1_R_0_2) (.inl vt1_R_1_2) gb et1_R_0 et1_R_1)
      | (with_reducible exact boxQ2_old t1_R_0 t2_R_0 (Nat.ne_of_lt lt1_R_0_1) g1 g2 (.inl vt1_R_0_1) (.inr get2_R_0_1) (.inl vt1_R_0_2) (.inl vt2_R_0_2) gb et1_R_0 et2_R_0)
      | (with_reducible exact boxQ2_old t1_R_0 t2_R_1 (Nat.ne_of_lt (Nat.lt_succ_of_lt lt1_R_0_1)) g1 g2 (.inl vt1_R_0_1) (.inr get2_R_1_1) (.inl vt1_R_0_2) (.inl vt2_R_1_2) gb et1_R_0 et2_R_1)
      | (with_reducible exact boxQ2_old t1_R_1 t1_R_0 ((Nat.ne_of_lt (Nat.lt_succ_self _)).symm) g1 g2 (.inl vt1_R_1_1) (.inl vt1_R_0_1) (.inl vt1_R_1_2) (.inl vt1_R_0_2) gb et1_R_1 et1_R_0)
      | (with_reducible exact boxQ2_old t1_R_1 t2_R_0 (Nat.ne_of_lt lt1_R_1_1) g1 g2 (.inl vt1_R_1_1) (.inr get2_R_0_1) (.inl vt1_R_1_2) (.inl vt2_R_0_2) gb et1_R_1 et2_R_0)
      | (with_reducible exact boxQ2_old t1_R_1 t2_R_1 (Nat.ne_of_lt (Nat.lt_succ_of_lt lt1_R_1_1)) g1 g2 (.inl vt1_R_1_1) (.inr get2_R_1_1) (.inl vt1_R_1_2) (.inl vt2_R_1_2) gb et1_R_1 et2_R_1)
      | (with_reducible exact boxQ2_old t2_R_0 t1_R_0 ((Nat.ne_of_lt lt1_R_0_1).symm) g1 g2 (.inr get2_R_0_1) (.inl vt1_R_0_1) (.inl vt2_R_0_2) (.inl vt1_R_0_2) gb et2_R_0 et1_R_0)
      | (with_reducible exact boxQ2_old t2_R_0 t1_R_1 ((Nat.ne_of_lt lt1_R_1_1).symm) g1 g2 (.inr get2_R_0_1) (.inl vt1_R_1_1) (.inl vt2_R_0_2) (.inl vt1_R_1_2) gb et2_R_0 et1_R_1)
      | (with_reducible exact boxQ2_old t2_R_0 t2_R_1 (Nat.ne_of_lt (Nat.lt_succ_self _)) g1 g2 (.inr get2_R_0_1) (.inr get2_R_1_1) (.inl vt2_R_0_2) (.inl vt2_R_1_2) gb et2_R_0 et2_R_1)
      | (with_reducible exact boxQ2_old t2_R_1 t1_R_0 ((Nat.ne_of_lt (Nat.lt_succ_of_lt lt1_R_0_1)).symm) g1 g2 (.inr get2_R_1_1) (.inl vt1_R_0_1) (.inl vt2_R_1_2) (.inl vt1_R_0_2) gb et2_R_1 et1_R_0)
      | (with_reducible exact boxQ2_old t2_R_1 t1_R_1 ((Nat.ne_of_lt (Nat.lt_succ_of_lt lt1_R_1_1)).symm) g1 g2 (.inr get2_R_1_1) (.inl vt1_R_1_1) (.inl vt2_R_1_2) (.inl vt1_R_1_2) gb et2_R_1 et1_R_1)
      | (with_reducible exact boxQ2_old t2_R_1 t2_R_0 ((Nat.ne_of_lt (Nat.lt_succ_self _)).symm) g1 g2 (.inr get2_R_1_1) (.inr get2_R_0_1) (.inl vt2_R_1_2) (.inl vt2_R_0_2) gb et2_R_1 et2_R_0)
      | (with_reducible exact boxQ2_one t1_R_0 g1 g2 (.inl vt1_R_0_1) (.inl vt1_R_0_2) gb et1_R_0)
      | (with_reducible exact (boxQ2_one t1_R_0 g2 g1 (.inl vt1_R_0_2) (.inl vt1_R_0_1) gb et1_R_0).symm)
      | (with_reducible exact boxQ2_one t1_R_1 g1 g2 (.inl vt1_R_1_1) (.inl vt1_R_1_2) gb et1_R_1)
      | (with_reducible exact (boxQ2_one t1_R_1 g2 g1 (.inl vt1_R_1_2) (.inl vt1_R_1_1) gb et1_R_1).symm)
      | (with_reducible exact boxQ2_one t2_R_0 g1 g2 (.inr get2_R_0_1) (.inl vt2_R_0_2) gb et2_R_0)
      | (with_reducible exact (boxQ2_one t2_R_0 g2 g1 (.inl vt2_R_0_2) (.inr get2_R_0_1) gb et2_R_0).symm)
      | (with_reducible exact boxQ2_one t2_R_1 g1 g2 (.inr get2_R_1_1) (.inl vt2_R_1_2) gb et2_R_1)
      | (with_reducible exact (boxQ2_one t2_R_1 g2 g1 (.inl vt2_R_1_2) (.inr get2_R_1_1) gb et2_R_1).symm)
      | (with_reducible exact boxQ2_new g1 g2 gb)
      | (with_reducible exact (boxQ2_new g2 g1 gb).symm)
  case rest =>
  obtain ⟨⟨B5, ng1, a1_, n1_, c1_, p1_, m1_, k1_, lo5, hi5, rfl, hB5, T5, g1, hc5⟩, ⟨B6, ng2, a2_, n2_, c2_, p2_, m2_, k2_, lo6, hi6, rfl, hB6, T6, g2, hc6⟩⟩ := hcut
  clear x0_0 y0_0 x0_1 y0_1 x0_2 y0_2 x1_0 y1_0 x1_1 y1_1 x1_2 y1_2 x2_0 y2_0 x2_1 y2_1 x2_2 y2_2
  have gb := hc5
  obtain ⟨x0_0, x0_1, x0_2, x1_0, x1_1, x1_2, x2_0, x2_1, x2_2⟩ := HXW0.out _ gb
  obtain ⟨y0_0, y0_1, y0_2, y1_0, y1_1, y1_2, y2_0, y2_1, y2_2⟩ := HYW0.out _ gb
  obtain ⟨z0, z1, z2⟩ := HZW0.out _ gb
  have z5 := T5.lt
  obtain ⟨x5_0, x5_1, x5_2, y5_0, y5_1, y5_2⟩ := T5
  have z6 := T6.lt
  obtain ⟨x6_0, x6_1, x6_2, y6_0, y6_1, y6_2⟩ := T6
  clear hgb
  obtain ⟨W1, hW1⟩ : ∃ W, wc = W := ⟨_, rfl⟩
  subst hW1
  replace i0 := i0.to gb
  replace i1 := i1.to gb
  replace zb := below_step zb gb
  have HXwc := Lib.hid (show ∀ W', Below wc.heap.size wc W' → (W'.cell? ⟨w.heap.size, 0, none⟩ = some (.bool b) ∧ W'.cell? ⟨w.heap.size, 1, none⟩ = some (.slice a0 n0 c0) ∧ W'.cell? ⟨w.heap.size, 2, none⟩ = some (.slice a1 n1 c1) ∧ W'.cell? ⟨w.heap.size + 1, 0, none⟩ = some (.bool c) ∧ W'.cell? ⟨w.heap.size + 1, 1, none⟩ = some (.slice a2 n2 c2) ∧ W'.cell? ⟨w.heap.size + 1, 2, none⟩ = some (.slice a3 n3 c3) ∧ W'.cell? ⟨w.heap.size + 1 + 1, 0, none⟩ = some (.bool false) ∧ W'.cell? ⟨w.heap.size + 1 + 1, 1, none⟩ = some (.slice none 0 0) ∧ W'.cell? ⟨w.heap.size + 1 + 1, 2, none⟩ = some (.slice none 0 0) ∧ W'.cell? ⟨B5, 0, none⟩ = some (.bool ng1) ∧ W'.cell? ⟨B5, 1, none⟩ = some (.slice a1_ n1_ c1_) ∧ W'.cell? ⟨B5, 2, none⟩ = some (.slice p1_ m1_ k1_) ∧ W'.cell? ⟨B6, 0, none⟩ = some (.bool ng2) ∧ W'.cell? ⟨B6, 1, none⟩ = some (.slice a2_ n2_ c2_) ∧ W'.cell? ⟨B6, 2, none⟩ = some (.slice p2_ m2_ k2_)) from fun W' hb =>
    ⟨(hb.cell (p := ⟨w.heap.size, 0, none⟩) z0).trans x0_0, (hb.cell (p := ⟨w.heap.size, 1, none⟩) z0).trans x0_1, (hb.cell (p := ⟨w.heap.size, 2, none⟩) z0).trans x0_2, (hb.cell (p := ⟨w.heap.size + 1, 0, none⟩) z1).trans x1_0, (hb.cell (p := ⟨w.heap.size + 1, 1, none⟩) z1).trans x1_1, (hb.cell (p := ⟨w.heap.size + 1, 2, none⟩) z1).trans x1_2, (hb.cell (p := ⟨w.heap.size + 1 + 1, 0, none⟩) z2).trans x2_0, (hb.cell (p := ⟨w.heap.size + 1 + 1, 1, none⟩) z2).trans x2_1, (hb.cell (p := ⟨w.heap.size + 1 + 1, 2, none⟩) z2).trans x2_2, (hb.cell (p := ⟨B5, 0, none⟩) z5).trans x5_0, (hb.cell (p := ⟨B5, 1, none⟩) z5).trans x5_1, (hb.cell (p := ⟨B5, 2, none⟩) z5).trans x5_2, (hb.cell (p := ⟨B6, 0, none⟩) z6).trans x6_0, (hb.cell (p := ⟨B6, 1, none⟩) z6).trans x6_1, (hb.cell (p := ⟨B6, 2, none⟩) z6).trans x6_2⟩)
  have HYwc := Lib.hid (show ∀ W', Below wc.heap.size wc W' → (W'.frozen? ⟨w.heap.size, 0, none⟩ = false ∧ W'.frozen? ⟨w.heap.size, 1, none⟩ = false ∧ W'.frozen? ⟨w.heap.size, 2, none⟩ = false ∧ W'.frozen? ⟨w.heap.size + 1, 0, none⟩ = false ∧ W'.frozen? ⟨w.heap.size + 1, 1, none⟩ = false ∧ W'.frozen? ⟨w.heap.size + 1, 2, none⟩ = false ∧ W'.frozen? ⟨w.heap.size + 1 + 1, 0, none⟩ = false ∧ W'.frozen? ⟨w.heap.size + 1 + 1, 1, none⟩ = false ∧ W'.frozen? ⟨w.heap.size + 1 + 1, 2, none⟩ = false ∧ W'.frozen? ⟨B5, 0, none⟩ = false ∧ W'.frozen? ⟨B5, 1, none⟩ = false ∧ W'.frozen? ⟨B5, 2, none⟩ = false ∧ W'.frozen? ⟨B6, 0, none⟩ = false ∧ W'.frozen? ⟨B6, 1, none⟩ = false ∧ W'.frozen? ⟨B6, 2, none⟩ = false) from fun W' hb =>
    ⟨(hb.frozen (p := ⟨w.heap.size, 0, none⟩) z0).trans y0_0, (hb.frozen (p := ⟨w.heap.size, 1, none⟩) z0).trans y0_1, (hb.frozen (p := ⟨w.heap.size, 2, none⟩) z0).trans y0_2, (hb.frozen (p := ⟨w.heap.size + 1, 0, none⟩) z1).trans y1_0, (hb.frozen (p := ⟨w.heap.size + 1, 1, none⟩) z1).trans y1_1, (hb.frozen (p := ⟨w.heap.size + 1, 2, none⟩) z1).trans y1_2, (hb.frozen (p := ⟨w.heap.size + 1 + 1, 0, none⟩) z2).trans y2_0, (hb.frozen (p := ⟨w.heap.size + 1 + 1, 1, none⟩) z2).trans y2_1, (hb.frozen (p := ⟨w.heap.size + 1 + 1, 2, none⟩) z2).trans y2_2, (hb.frozen (p := ⟨B5, 0, none⟩) z5).trans y5_0, (hb.frozen (p := ⟨B5, 1, none⟩) z5).trans y5_1, (hb.frozen (p := ⟨B5, 2, none⟩) z5).trans y5_2, (hb.frozen (p := ⟨B6, 0, none⟩) z6).trans y6_0, (hb.frozen (p := ⟨B6, 1, none⟩) z6).trans y6_1, (hb.frozen (p := ⟨B6, 2, none⟩) z6).trans y6_2⟩)
  have HZwc := Lib.hid (show ∀ W', Below wc.heap.size wc W' → (w.heap.size < W'.heap.size ∧ w.heap.size + 1 < W'.heap.size ∧ w.heap.size + 1 + 1 < W'.heap.size ∧ B5 < W'.heap.size ∧ B6 < W'.heap.size) from fun W' hb =>
    ⟨Nat.lt_of_lt_of_le z0 hb.size, Nat.lt_of_lt_of_le z1 hb.size, Nat.lt_of_lt_of_le z2 hb.size, Nat.lt_of_lt_of_le z5 hb.size, Nat.lt_of_lt_of_le z6 hb.size⟩)
  replace gb := Below.refl wc.heap.size wc
  go_wp2_with fail
  have nz0 : w.heap.size ≠ w.heap.size + 1 + 1 := by omega
  have nz1 : w.heap.size + 1 ≠ w.heap.size + 1 + 1 := by omega
  have nz5 : B5 ≠ w.heap.size + 1 + 1 := by omega
  have nz6 : B6 ≠ w.heap.size + 1 + 1 := by omega
  go_region_held3 (fun W' => W'.cell? ⟨w.heap.size, 0, none⟩ = some (.bool b) ∧ W'.cell? ⟨w.heap.size, 1, none⟩ = some (.slice a0 n0 c0) ∧ W'.cell? ⟨w.heap.size, 2, none⟩ = some (.slice a1 n1 c1) ∧ W'.cell? ⟨w.heap.size + 1, 0, none⟩ = some (.bool c) ∧ W'.cell? ⟨w.heap.size + 1, 1, none⟩ = some (.slice a2 n2 c2) ∧ W'.cell? ⟨w.heap.size + 1, 2, none⟩ = some (.slice a3 n3 c3) ∧ W'.cell? ⟨B5, 0, none⟩ = some (.bool ng1) ∧ W'.cell? ⟨B5, 1, none⟩ = some (.slice a1_ n1_ c1_) ∧ W'.cell? ⟨B5, 2, none⟩ = some (.slice p1_ m1_ k1_) ∧ W'.cell? ⟨B6, 0, none⟩ = some (.bool ng2) ∧ W'.cell? ⟨B6, 1, none⟩ = some (.slice a2_ n2_ c2_) ∧ W'.cell? ⟨B6, 2, none⟩ = some (.slice p2_ m2_ k2_)) (first | (with_reducible exact ⟨x0_0, x0_1, x0_2, x1_0, x1_1, x1_2, x5_0, x5_1, x5_2, x6_0, x6_1, x6_2⟩) | (with_reducible exact ⟨cell_put (cell_put (cell_put (x0_0) (.inl nz0) _) (.inl nz0) _) (.inl nz0) _, cell_put (cell_put (cell_put (x0_1) (.inl nz0) _) (.inl nz0) _) (.inl nz0) _, cell_put (cell_put (cell_put (x0_2) (.inl nz0) _) (.inl nz0) _) (.inl nz0) _, cell_put (cell_put (cell_put (x1_0) (.inl nz1) _) (.inl nz1) _) (.inl nz1) _, cell_put (cell_put (cell_put (x1_1) (.inl nz1) _) (.inl nz1) _) (.inl nz1) _, cell_put (cell_put (cell_put (x1_2) (.inl nz1) _) (.inl nz1) _) (.inl nz1) _, cell_put (cell_put (cell_put (x5_0) (.inl nz5) _) (.inl nz5) _) (.inl nz5) _, cell_put (cell_put (cell_put (x5_1) (.inl nz5) _) (.inl nz5) _) (.inl nz5) _, cell_put (cell_put (cell_put (x5_2) (.inl nz5) _) (.inl nz5) _) (.inl nz5) _, cell_put (cell_put (cell_put (x6_0) (.inl nz6) _) (.inl nz6) _) (.inl nz6) _, cell_put (cell_put (cell_put (x6_1) (.inl nz6) _) (.inl nz6) _) (.inl nz6) _, cell_put (cell_put (cell_put (x6_2) (.inl nz6) _) (.inl nz6) _) (.inl nz6) _⟩) | exact ⟨x0_0, x0_1, x0_2, x1_0, x1_1, x1_2, x5_0, x5_1, x5_2, x6_0, x6_1, x6_2⟩) (first
    | (go_at_call 22; (with_reducible refine (ratio_make ng13 ng16 _ _ _ _ _ g13.isI.up g16.isI.up S5.out S6.out HZ.out q (H9.out ng13 ng16 g13.ng g16.ng) hs).mono ?_); rintro e w17 ⟨ng17, a17_, n17_, c17_, p17_, m17_, k17_, rfl, g17, hb17⟩; have g13 := g13.to hb17; have g16 := g16.to hb17; have gb := below_step gb hb17; obtain ⟨x0_0, x0_1, x0_2, x1_0, x1_1, x1_2, x2_0, x2_1, x2_2, x5_0, x5_1, x5_2, x6_0, x6_1, x6_2⟩ := HXwc.out _ gb; obtain ⟨y0_0, y0_1, y0_2, y1_0, y1_1, y1_2, y2_0, y2_1, y2_2, y5_0, y5_1, y5_2, y6_0, y6_1, y6_2⟩ := HYwc.out _ gb; obtain ⟨z0, z1, z2, z5, z6⟩ := HZwc.out _ gb)
    | (go_at_call 61; (with_reducible refine (mul_c _ (g1.to gb).below (g2.to gb).above ((x.den : Int) * y.num) rfl S2).mono ?_); rintro e w16 ⟨ng16, a16_, n16_, c16_, rfl, g16, hb16⟩; have g13 := g13.to hb16; have gb := below_step gb hb16; obtain ⟨x0_0, x0_1, x0_2, x1_0, x1_1, x1_2, x2_0, x2_1, x2_2, x5_0, x5_1, x5_2, x6_0, x6_1, x6_2⟩ := HXwc.out _ gb; obtain ⟨y0_0, y0_1, y0_2, y1_0, y1_1, y1_2, y2_0, y2_1, y2_2, y5_0, y5_1, y5_2, y6_0, y6_1, y6_2⟩ := HYwc.out _ gb; obtain ⟨z0, z1, z2, z5, z6⟩ := HZwc.out _ gb)
    | (go_at_call 45; (with_reducible refine (ratio_above _ _ _ _ _ _ (g2.to gb).isQ).mono ?_); rintro e w15 ⟨rfl, hb15⟩; have g13 := g13.to hb15; have gb := below_step gb hb15; obtain ⟨x0_0, x0_1, x0_2, x1_0, x1_1, x1_2, x2_0, x2_1, x2_2, x5_0, x5_1, x5_2, x6_0, x6_1, x6_2⟩ := HXwc.out _ gb; obtain ⟨y0_0, y0_1, y0_2, y1_0, y1_1, y1_2, y2_0, y2_1, y2_2, y5_0, y5_1, y5_2, y6_0, y6_1, y6_2⟩ := HYwc.out _ gb; obtain ⟨z0, z1, z2, z5, z6⟩ := HZwc.out _ gb)
    | (go_at_call 62; (with_reducible refine (ratio_below _ _ _ _ _ _ (g1.to gb).isQ).mono ?_); rintro e w14 ⟨rfl, hb14⟩; have g13 := g13.to hb14; have gb := below_step gb hb14; obtain ⟨x0_0, x0_1, x0_2, x1_0, x1_1, x1_2, x2_0, x2_1, x2_2, x5_0, x5_1, x5_2, x6_0, x6_1, x6_2⟩ := HXwc.out _ gb; obtain ⟨y0_0, y0_1, y0_2, y1_0, y1_1, y1_2, y2_0, y2_1, y2_2, y5_0, y5_1, y5_2, y6_0, y6_1, y6_2⟩ := HYwc.out _ gb; obtain ⟨z0, z1, z2, z5, z6⟩ := HZwc.out _ gb)
    | (go_at_call 61; (with_reducible refine (mul_c _ (g1.to gb).above (g2.to gb).below (x.num * (y.den : Int)) rfl S1).mono ?_); rintro e w13 ⟨ng13, a13_, n13_, c13_, rfl, g13, hb13⟩; have gb := below_step gb hb13; obtain ⟨x0_0, x0_1, x0_2, x1_0, x1_1, x1_2, x2_0, x2_1, x2_2, x5_0, x5_1, x5_2, x6_0, x6_1, x6_2⟩ := HXwc.out _ gb; obtain ⟨y0_0, y0_1, y0_2, y1_0, y1_1, y1_2, y2_0, y2_1, y2_2, y5_0, y5_1, y5_2, y6_0, y6_1, y6_2⟩ := HYwc.out _ gb; obtain ⟨z0, z1, z2, z5, z6⟩ := HZwc.out _ gb)
    | (go_at_call 62; (with_reducible refine (ratio_below _ _ _ _ _ _ (g2.to gb).isQ).mono ?_); rintro e w12 ⟨rfl, hb12⟩; have gb := below_step gb hb12; obtain ⟨x0_0, x0_1, x0_2, x1_0, x1_1, x1_2, x2_0, x2_1, x2_2, x5_0, x5_1, x5_2, x6_0, x6_1, x6_2⟩ := HXwc.out _ gb; obtain ⟨y0_0, y0_1, y0_2, y1_0, y1_1, y1_2, y2_0, y2_1, y2_2, y5_0, y5_1, y5_2, y6_0, y6_1, y6_2⟩ := HYwc.out _ gb; obtain ⟨z0, z1, z2, z5, z6⟩ := HZwc.out _ gb)
    | (go_at_call 45; have gb := gb.drew; (with_reducible refine (ratio_above _ _ _ _ _ _ (g1.to gb).isQ).mono ?_); rintro e w11 ⟨rfl, hb11⟩; have gb := below_step gb hb11; obtain ⟨x0_0, x0_1, x0_2, x1_0, x1_1, x1_2, x2_0, x2_1, x2_2, x5_0, x5_1, x5_2, x6_0, x6_1, x6_2⟩ := HXwc.out _ gb; obtain ⟨y0_0, y0_1, y0_2, y1_0, y1_1, y1_2, y2_0, y2_1, y2_2, y5_0, y5_1, y5_2, y6_0, y6_1, y6_2⟩ := HYwc.out _ gb; obtain ⟨z0, z1, z2, z5, z6⟩ := HZwc.out _ gb))
  go_wp2_with fail
  refine bodyPost_ret (results_Rt Try.results32 _ _ _ _ _ _ rfl (Tri.set (x0 := .bool false) (y0 := .slice none 0 0) (z0 := .slice none 0 0) ⟨x2_0, x2_1, x2_2, y2_0, y2_1, y2_2⟩ _ _ _)) rfl (finRK (below_step zb gb) (by omega) ?_ g17)
  omega

end Go.Proofs.Ytmjnlpanlgmdmaa


namespace Go.Proofs.Ytmjnlpanlgmdmaa
open Go.RowKit Tw
set_option linter.unusedVariables false
set_option linter.unusedSimpArgs false
attribute [local go_sem ↓] Go.wp_at_zero Go.wp_at_succ

theorem finZ1 {w w1 : World} {rb : Nat} (hb : Below w.heap.size w w1) (hrb : w.heap.size ≤ rb) (hlt : rb < w1.heap.size) :
    GivesQ w 0 (.returned (aggR false (.slice none 0 0) (.slice (some ⟨w1.heap.size, 0, none⟩) 1 1))) ((set3 w1 rb (.bool false) (.slice none 0 0) (.slice (some ⟨w1.heap.size, 0, none⟩) 1 1)).alloc (.cells #[u32v 1] 57)) := by
  have hb3 := below_set3 hb hrb (.bool false) (.slice none 0 0) (.slice (some ⟨w1.heap.size, 0, none⟩) 1 1)
  refine ⟨false, none, 0, 0, _, _, _, rfl, canQ_mk (by rw [show limbs (0 : Rat).num.natAbs = [] by decide +kernel]; exact Own.nil _ _) ?_ (by decide +kernel) (by decide +kernel), below_step hb3 (below_new _ _)⟩
  rw [show limbs (0 : Rat).den = [1] by decide +kernel]
  exact (own_lit_at (set3 w1 rb (.bool false) (.slice none 0 0) (.slice (some ⟨w1.heap.size, 0, none⟩) 1 1)) w1.heap.size [1] (by simp) (small1 (by omega)) (by simp [maxLen])).mono hb3.size

theorem words_o (va vb : Value) (la lb : List Nat) (o : Bool) (w : World) (ha : Rd w va la) (hb : Rd w vb lb) (ho : Hid (decide (la = lb) = o)) :
    Calls Try.prog 48 #[va, vb] w fun e w' => e = .returned (.bool o) ∧ Below w.heap.size w w' := by
  by_cases h : la = lb
  · subst h
    rw [← ho.out, decide_eq_true rfl]
    exact words_same va vb la w ha hb
  · rw [← ho.out, decide_eq_false h]
    exact words_diff va vb la lb w ha hb h

def IsF (w : World) (v u : Value) (ln ld : List Nat) : Prop := Rd w v ln ∧ Rd w u ld

theorem IsF.to {w w' : World} {v u : Value} {ln ld : List Nat} (h : IsF w v u ln ld) (hb : Below w.heap.size w w') : IsF w' v u ln ld := ⟨h.1.to hb, h.2.to hb⟩

theorem IsF.drew {w : World} {v u : Value} {ln ld : List Nat} (h : IsF w v u ln ld) : IsF w.drew v u ln ld := ⟨h.1.drew, h.2.drew⟩

theorem IsQ.isF {w : World} {b : Bool} {v u : Value} {ln ld : List Nat} {q : Rat} (h : IsQ w b v u ln ld q) : IsF w v u ln ld := ⟨h.1, h.2.1⟩

theorem CanQ.isF {lo hi : Nat} {w : World} {b : Bool} {v u : Value} {q : Rat} (h : CanQ lo hi w b v u q) : IsF w v u (limbs q.num.natAbs) (limbs q.den) := ⟨h.1.rd, h.2.1.rd⟩

theorem CanQ.ng {lo hi : Nat} {w : World} {b : Bool} {v u : Value} {q : Rat} (h : CanQ lo hi w b v u q) : decide (q < 0) = b := h.2.2.1

def rightQ (b : Bool) (ln ld : List Nat) (x : Rat) : Bool := decide (x < 0) == b && decide (limbs x.num.natAbs = ln) && decide (limbs x.den = ld)

set_option maxRecDepth 100000 in
set_option maxHeartbeats 4000000 in
theorem ref8_lowest_no (b : Bool) (v u : Value) (ln ld : List Nat) (w : World) (hv : Rd w v ln) (hu : Rd w u ld) (h1 : ln.length ≤ 3000) (h2 : ld.length ≤ 3000) (h0 : val ld = 0) :
    Calls Try.prog 51 #[aggI b v, u] w (GivesQ w (rat b (val ln) (val ld))) := by
  rw [h0, rat_zero_den]
  have Z0 := Lib.hid h0
  clear h0
  obtain ⟨a0, n0, c0, rfl, H0, hm0⟩ := hv.open
  obtain ⟨a1, n1, c1, rfl, H1, hm1⟩ := hu.open
  go_enter Try.func51, Try.ntmps51
  go_wp2_with fail
  obtain ⟨W0, hW0⟩ : ∃ W0, (w.alloc (.cells #[.bool b, .slice a0 n0 c0] 40)).alloc (.cells #[.bool false, .slice none 0 0, .slice none 0 0] 24) = W0 := ⟨_, rfl⟩
  have HXW0 := Lib.hid (show ∀ W', Below W0.heap.size W0 W' → (W'.cell? ⟨w.heap.size, 0, none⟩ = some (.bool b) ∧ W'.cell? ⟨w.heap.size, 1, none⟩ = some (.slice a0 n0 c0) ∧ W'.cell? ⟨w.heap.size + 1, 0, none⟩ = some (.bool false) ∧ W'.cell? ⟨w.heap.size + 1, 1, none⟩ = some (.slice none 0 0) ∧ W'.cell? ⟨w.heap.size + 1, 2, none⟩ = some (.slice none 0 0)) from fun W' hb =>
    ⟨(hb.cell (p := ⟨w.heap.size, 0, none⟩) (by rw [← hW0]; simp <;> omega)).trans (by rw [← hW0]; simp [go_sem]), (hb.cell (p := ⟨w.heap.size, 1, none⟩) (by rw [← hW0]; simp <;> omega)).trans (by rw [← hW0]; simp [go_sem]), (hb.cell (p := ⟨w.heap.size + 1, 0, none⟩) (by rw [← hW0]; simp <;> omega)).trans (by rw [← hW0]; simp [go_sem]), (hb.cell (p := ⟨w.heap.size + 1, 1, none⟩) (by rw [← hW0]; simp <;> omega)).trans (by rw [← hW0]; simp [go_sem]), (hb.cell (p := ⟨w.heap.size + 1, 2, none⟩) (by rw [← hW0]; simp <;> omega)).trans (by rw [← hW0]; simp [go_sem])⟩)
  have HYW0 := Lib.hid (show ∀ W', Below W0.heap.size W0 W' → (W'.frozen? ⟨w.heap.size, 0, none⟩ = false ∧ W'.frozen? ⟨w.heap.size, 1, none⟩ = false ∧ W'.frozen? ⟨w.heap.size + 1, 0, none⟩ = false ∧ W'.frozen? ⟨w.heap.size + 1, 1, none⟩ = false ∧ W'.frozen? ⟨w.heap.size + 1, 2, none⟩ = false) from fun W' hb =>
    ⟨(hb.frozen (p := ⟨w.heap.size, 0, none⟩) (by rw [← hW0]; simp <;> omega)).trans (by rw [← hW0]; simp [go_sem]), (hb.frozen (p := ⟨w.heap.size, 1, none⟩) (by rw [← hW0]; simp <;> omega)).trans (by rw [← hW0]; simp [go_sem]), (hb.frozen (p := ⟨w.heap.size + 1, 0, none⟩) (by rw [← hW0]; simp <;> omega)).trans (by rw [← hW0]; simp [go_sem]), (hb.frozen (p := ⟨w.heap.size + 1, 1, none⟩) (by rw [← hW0]; simp <;> omega)).trans (by rw [← hW0]; simp [go_sem]), (hb.frozen (p := ⟨w.heap.size + 1, 2, none⟩) (by rw [← hW0]; simp <;> omega)).trans (by rw [← hW0]; simp [go_sem])⟩)
  have HZW0 := Lib.hid (show ∀ W', Below W0.heap.size W0 W' → (w.heap.size < W'.heap.size ∧ w.heap.size + 1 < W'.heap.size) from fun W' hb =>
    ⟨Nat.lt_of_lt_of_le (by rw [← hW0]; simp <;> omega) hb.size, Nat.lt_of_lt_of_le (by rw [← hW0]; simp <;> omega) hb.size⟩)
  have zb : Below w.heap.size w W0 := by rw [← hW0]; exact below_step (below_new _ _) (below_new _ _)
  rw [hW0]
  clear hW0
  have i0 := hv.to zb
  have i1 := hu.to zb
  have gb : Below W0.heap.size W0 W0 := Below.refl _ _
  obtain ⟨x0_0, x0_1, x1_0, x1_1, x1_2⟩ := HXW0.out _ gb
  obtain ⟨y0_0, y0_1, y1_0, y1_1, y1_2⟩ := HYW0.out _ gb
  obtain ⟨z0, z1⟩ := HZW0.out _ gb
  refine (ref5_lowest_no _ _ ln ld _ (i0.to gb) (i1.to gb) (by omega) Z0.out).mono ?_
  clear x0_0 y0_0 x0_1 y0_1 x1_0 y1_0 x1_1 y1_1 x1_2 y1_2
  rintro e w1 ⟨rfl, hb1⟩
  replace gb := below_step gb hb1
  obtain ⟨x0_0, x0_1, x1_0, x1_1, x1_2⟩ := HXW0.out _ gb
  obtain ⟨y0_0, y0_1, y1_0, y1_1, y1_2⟩ := HYW0.out _ gb
  obtain ⟨z0, z1⟩ := HZW0.out _ gb
  go_wp2_with fail
  refine bodyPost_ret (results_R Try.results51 _ _ _ _ _ _ rfl (Tri.alloc (Tri.set (x0 := .bool false) (y0 := .slice none 0 0) (z0 := .slice none 0 0) ⟨x1_0, x1_1, x1_2, y1_0, y1_1, y1_2⟩ _ _ _) _)) rfl (finZ1 (below_step zb gb) (by omega) (by omega))

set_option maxRecDepth 100000 in
set_option maxHeartbeats 4000000 in
theorem ref8_lowest_zero (b : Bool) (v u : Value) (ln ld : List Nat) (w : World) (hv : Rd w v ln) (hu : Rd w u ld) (h1 : ln.length ≤ 3000) (h2 : ld.length ≤ 3000) (h0 : 0 < val ld) (h3 : val ln = 0) :
    Calls Try.prog 51 #[aggI b v, u] w (GivesQ w (rat b (val ln) (val ld))) := by
  rw [h3, rat_zero_num]
  have Z0 := Lib.hid h0
  have Z3 := Lib.hid (show limbs (val ln / Nat.gcd (val ln) (val ld)) = [] by rw [h3, Nat.zero_div]; rfl)
  clear h0 h3
  obtain ⟨a0, n0, c0, rfl, H0, hm0⟩ := hv.open
  obtain ⟨a1, n1, c1, rfl, H1, hm1⟩ := hu.open
  go_enter Try.func51, Try.ntmps51
  go_wp2_with fail
  obtain ⟨W0, hW0⟩ : ∃ W0, (w.alloc (.cells #[.bool b, .slice a0 n0 c0] 40)).alloc (.cells #[.bool false, .slice none 0 0, .slice none 0 0] 24) = W0 := ⟨_, rfl⟩
  have HXW0 := Lib.hid (show ∀ W', Below W0.heap.size W0 W' → (W'.cell? ⟨w.heap.size, 0, none⟩ = some (.bool b) ∧ W'.cell? ⟨w.heap.size, 1, none⟩ = some (.slice a0 n0 c0) ∧ W'.cell? ⟨w.heap.size + 1, 0, none⟩ = some (.bool false) ∧ W'.cell? ⟨w.heap.size + 1, 1, none⟩ = some (.slice none 0 0) ∧ W'.cell? ⟨w.heap.size + 1, 2, none⟩ = some (.slice none 0 0)) from fun W' hb =>
    ⟨(hb.cell (p := ⟨w.heap.size, 0, none⟩) (by rw [← hW0]; simp <;> omega)).trans (by rw [← hW0]; simp [go_sem]), (hb.cell (p := ⟨w.heap.size, 1, none⟩) (by rw [← hW0]; simp <;> omega)).trans (by rw [← hW0]; simp [go_sem]), (hb.cell (p := ⟨w.heap.size + 1, 0, none⟩) (by rw [← hW0]; simp <;> omega)).trans (by rw [← hW0]; simp [go_sem]), (hb.cell (p := ⟨w.heap.size + 1, 1, none⟩) (by rw [← hW0]; simp <;> omega)).trans (by rw [← hW0]; simp [go_sem]), (hb.cell (p := ⟨w.heap.size + 1, 2, none⟩) (by rw [← hW0]; simp <;> omega)).trans (by rw [← hW0]; simp [go_sem])⟩)
  have HYW0 := Lib.hid (show ∀ W', Below W0.heap.size W0 W' → (W'.frozen? ⟨w.heap.size, 0, none⟩ = false ∧ W'.frozen? ⟨w.heap.size, 1, none⟩ = false ∧ W'.frozen? ⟨w.heap.size + 1, 0, none⟩ = false ∧ W'.frozen? ⟨w.heap.size + 1, 1, none⟩ = false ∧ W'.frozen? ⟨w.heap.size + 1, 2, none⟩ = false) from fun W' hb =>
    ⟨(hb.frozen (p := ⟨w.heap.size, 0, none⟩) (by rw [← hW0]; simp <;> omega)).trans (by rw [← hW0]; simp [go_sem]), (hb.frozen (p := ⟨w.heap.size, 1, none⟩) (by rw [← hW0]; simp <;> omega)).trans (by rw [← hW0]; simp [go_sem]), (hb.frozen (p := ⟨w.heap.size + 1, 0, none⟩) (by rw [← hW0]; simp <;> omega)).trans (by rw [← hW0]; simp [go_sem]), (hb.frozen (p := ⟨w.heap.size + 1, 1, none⟩) (by rw [← hW0]; simp <;> omega)).trans (by rw [← hW0]; simp [go_sem]), (hb.frozen (p := ⟨w.heap.size + 1, 2, none⟩) (by rw [← hW0]; simp <;> omega)).trans (by rw [← hW0]; simp [go_sem])⟩)
  have HZW0 := Lib.hid (show ∀ W', Below W0.heap.size W0 W' → (w.heap.size < W'.heap.size ∧ w.heap.size + 1 < W'.heap.size) from fun W' hb =>
    ⟨Nat.lt_of_lt_of_le (by rw [← hW0]; simp <;> omega) hb.size, Nat.lt_of_lt_of_le (by rw [← hW0]; simp <;> omega) hb.size⟩)
  have zb : Below w.heap.size w W0 := by rw [← hW0]; exact below_step (below_new _ _) (below_new _ _)
  rw [hW0]
  clear hW0
  have i0 := hv.to zb
  have i1 := hu.to zb
  have gb : Below W0.heap.size W0 W0 := Below.refl _ _
  obtain ⟨x0_0, x0_1, x1_0, x1_1, x1_2⟩ := HXW0.out _ gb
  obtain ⟨y0_0, y0_1, y1_0, y1_1, y1_2⟩ := HYW0.out _ gb
  obtain ⟨z0, z1⟩ := HZW0.out _ gb
  refine (ref5_lowest _ _ ln ld _ (i0.to gb) (i1.to gb) (by omega) (by omega) Z0.out).mono ?_
  clear x0_0 y0_0 x0_1 y0_1 x1_0 y1_0 x1_1 y1_1 x1_2 y1_2
  rintro e w1 ⟨v1, u1, rfl, g1, d1, hb1⟩
  obtain ⟨a1_, n1_, c1_, rfl, H1, hm1⟩ := g1.rd.open
  obtain ⟨p1_, m1_, k1_, rfl, J1, jm1⟩ := d1.rd.open
  replace gb := below_step gb hb1
  obtain ⟨x0_0, x0_1, x1_0, x1_1, x1_2⟩ := HXW0.out _ gb
  obtain ⟨y0_0, y0_1, y1_0, y1_1, y1_2⟩ := HYW0.out _ gb
  obtain ⟨z0, z1⟩ := HZW0.out _ gb
  obtain rfl : n1_ = 0 := by rw [← H1.out, Z3.out]; rfl
  go_wp2_with fail
  refine bodyPost_ret (results_R Try.results51 _ _ _ _ _ _ rfl (Tri.alloc (Tri.set (x0 := .bool false) (y0 := .slice none 0 0) (z0 := .slice none 0 0) ⟨x1_0, x1_1, x1_2, y1_0, y1_1, y1_2⟩ _ _ _) _)) rfl (finZ1 (below_step zb gb) (by omega) (by omega))

set_option maxRecDepth 100000 in
set_option maxHeartbeats 4000000 in
theorem ref8_lowest_some (b : Bool) (v u : Value) (ln ld : List Nat) (w : World) (hv : Rd w v ln) (hu : Rd w u ld) (h1 : ln.length ≤ 3000) (h2 : ld.length ≤ 3000) (h0 : 0 < val ld) (h3 : 0 < val ln) (hs : szq (rat b (val ln) (val ld)) ≤ 1000) :
    Calls Try.prog 51 #[aggI b v, u] w (GivesQ w (rat b (val ln) (val ld))) := by
  have Z0 := Lib.hid h0
  have Z3 := Lib.hid h3
  have Hs := Lib.hid hs
  have H4 := Lib.hid (Nat.ne_of_gt (lowest_pos h3 h0))
  clear h0 h3 hs
  obtain ⟨a0, n0, c0, rfl, H0, hm0⟩ := hv.open
  obtain ⟨a1, n1, c1, rfl, H1, hm1⟩ := hu.open
  go_enter Try.func51, Try.ntmps51
  go_wp2_with fail
  obtain ⟨W0, hW0⟩ : ∃ W0, (w.alloc (.cells #[.bool b, .slice a0 n0 c0] 40)).alloc (.cells #[.bool false, .slice none 0 0, .slice none 0 0] 24) = W0 := ⟨_, rfl⟩
  have HXW0 := Lib.hid (show ∀ W', Below W0.heap.size W0 W' → (W'.cell? ⟨w.heap.size, 0, none⟩ = some (.bool b) ∧ W'.cell? ⟨w.heap.size, 1, none⟩ = some (.slice a0 n0 c0) ∧ W'.cell? ⟨w.heap.size + 1, 0, none⟩ = some (.bool false) ∧ W'.cell? ⟨w.heap.size + 1, 1, none⟩ = some (.slice none 0 0) ∧ W'.cell? ⟨w.heap.size + 1, 2, none⟩ = some (.slice none 0 0)) from fun W' hb =>
    ⟨(hb.cell (p := ⟨w.heap.size, 0, none⟩) (by rw [← hW0]; simp <;> omega)).trans (by rw [← hW0]; simp [go_sem]), (hb.cell (p := ⟨w.heap.size, 1, none⟩) (by rw [← hW0]; simp <;> omega)).trans (by rw [← hW0]; simp [go_sem]), (hb.cell (p := ⟨w.heap.size + 1, 0, none⟩) (by rw [← hW0]; simp <;> omega)).trans (by rw [← hW0]; simp [go_sem]), (hb.cell (p := ⟨w.heap.size + 1, 1, none⟩) (by rw [← hW0]; simp <;> omega)).trans (by rw [← hW0]; simp [go_sem]), (hb.cell (p := ⟨w.heap.size + 1, 2, none⟩) (by rw [← hW0]; simp <;> omega)).trans (by rw [← hW0]; simp [go_sem])⟩)
  have HYW0 := Lib.hid (show ∀ W', Below W0.heap.size W0 W' → (W'.frozen? ⟨w.heap.size, 0, none⟩ = false ∧ W'.frozen? ⟨w.heap.size, 1, none⟩ = false ∧ W'.frozen? ⟨w.heap.size + 1, 0, none⟩ = false ∧ W'.frozen? ⟨w.heap.size + 1, 1, none⟩ = false ∧ W'.frozen? ⟨w.heap.size + 1, 2, none⟩ = false) from fun W' hb =>
    ⟨(hb.frozen (p := ⟨w.heap.size, 0, none⟩) (by rw [← hW0]; simp <;> omega)).trans (by rw [← hW0]; simp [go_sem]), (hb.frozen (p := ⟨w.heap.size, 1, none⟩) (by rw [← hW0]; simp <;> omega)).trans (by rw [← hW0]; simp [go_sem]), (hb.frozen (p := ⟨w.heap.size + 1, 0, none⟩) (by rw [← hW0]; simp <;> omega)).trans (by rw [← hW0]; simp [go_sem]), (hb.frozen (p := ⟨w.heap.size + 1, 1, none⟩) (by rw [← hW0]; simp <;> omega)).trans (by rw [← hW0]; simp [go_sem]), (hb.frozen (p := ⟨w.heap.size + 1, 2, none⟩) (by rw [← hW0]; simp <;> omega)).trans (by rw [← hW0]; simp [go_sem])⟩)
  have HZW0 := Lib.hid (show ∀ W', Below W0.heap.size W0 W' → (w.heap.size < W'.heap.size ∧ w.heap.size + 1 < W'.heap.size) from fun W' hb =>
    ⟨Nat.lt_of_lt_of_le (by rw [← hW0]; simp <;> omega) hb.size, Nat.lt_of_lt_of_le (by rw [← hW0]; simp <;> omega) hb.size⟩)
  have zb : Below w.heap.size w W0 := by rw [← hW0]; exact below_step (below_new _ _) (below_new _ _)
  rw [hW0]
  clear hW0
  have i0 := hv.to zb
  have i1 := hu.to zb
  have gb : Below W0.heap.size W0 W0 := Below.refl _ _
  obtain ⟨x0_0, x0_1, x1_0, x1_1, x1_2⟩ := HXW0.out _ gb
  obtain ⟨y0_0, y0_1, y1_0, y1_1, y1_2⟩ := HYW0.out _ gb
  obtain ⟨z0, z1⟩ := HZW0.out _ gb
  refine (ref5_lowest _ _ ln ld _ (i0.to gb) (i1.to gb) (by omega) (by omega) Z0.out).mono ?_
  clear x0_0 y0_0 x0_1 y0_1 x1_0 y1_0 x1_1 y1_1 x1_2 y1_2
  rintro e w1 ⟨v1, u1, rfl, g1, d1, hb1⟩
  obtain ⟨a1_, n1_, c1_, rfl, H1, hm1⟩ := g1.rd.open
  obtain ⟨p1_, m1_, k1_, rfl, J1, jm1⟩ := d1.rd.open
  replace gb := below_step gb hb1
  obtain ⟨x0_0, x0_1, x1_0, x1_1, x1_2⟩ := HXW0.out _ gb
  obtain ⟨y0_0, y0_1, y1_0, y1_1, y1_2⟩ := HYW0.out _ gb
  obtain ⟨z0, z1⟩ := HZW0.out _ gb
  have hn1 : 0 < n1_ := by rw [← H1.out]; have := H4.out; rw [sz_def]; exact Nat.pos_of_ne_zero fun e => this (sz_eq_zero.1 e)
  go_wp2_with fail
  have gg := canR g1 d1 Z0.out Z3.out Hs.out
  refine bodyPost_ret (results_R Try.results51 _ _ _ _ _ _ rfl (Tri.set (x0 := .bool false) (y0 := .slice none 0 0) (z0 := .slice none 0 0) (⟨x1_0, x1_1, x1_2, y1_0, y1_1, y1_2⟩) _ _ _)) rfl (finR (below_step zb gb) (by omega) ?_ gg)
  omega

theorem ref8_lowest (b : Bool) (v u : Value) (ln ld : List Nat) (w : World) (hv : Rd w v ln) (hu : Rd w u ld) (h1 : ln.length ≤ 3000) (h2 : ld.length ≤ 3000) (q : Rat) (hq : rat b (val ln) (val ld) = q) (hs : Hid (szq q ≤ 1000)) :
    Calls Try.prog 51 #[aggI b v, u] w (GivesQ w q) := by
  subst hq
  rcases Nat.eq_zero_or_pos (val ld) with h0 | h0
  · exact ref8_lowest_no b v u ln ld w hv hu h1 h2 h0
  rcases Nat.eq_zero_or_pos (val ln) with h3 | h3
  · exact ref8_lowest_zero b v u ln ld w hv hu h1 h2 h0 h3
  · exact ref8_lowest_some b v u ln ld w hv hu h1 h2 h0 h3 hs.out

set_option maxRecDepth 100000 in
set_option maxHeartbeats 4000000 in
theorem ref8_fix {x : Rat} (b : Bool) (v u : Value) (ln ld : List Nat) (w : World) (h : IsQ w b v u ln ld x) (q : Rat) (hq : x = q) (hs : Hid (szq q ≤ 1000)) :
    Calls Try.prog 17 #[aggR b v u] w (GivesQ w q) := by
  have H9 := Lib.hid (show rat b (val ln) (val ld) = q by rw [h.2.2.1, hq])
  obtain ⟨a0, n0, c0, rfl, H0, hm0⟩ := h.1.open
  obtain ⟨a1, n1, c1, rfl, H1, hm1⟩ := h.2.1.open
  clear hq
  go_enter Try.func17, Try.ntmps17
  go_wp2_with fail
  obtain ⟨W0, hW0⟩ : ∃ W0, (w.alloc (.cells #[.bool b, .slice a0 n0 c0, .slice a1 n1 c1] 24)).alloc (.cells #[.bool false, .slice none 0 0, .slice none 0 0] 24) = W0 := ⟨_, rfl⟩
  have HXW0 := Lib.hid (show ∀ W', Below W0.heap.size W0 W' → (W'.cell? ⟨w.heap.size, 0, none⟩ = some (.bool b) ∧ W'.cell? ⟨w.heap.size, 1, none⟩ = some (.slice a0 n0 c0) ∧ W'.cell? ⟨w.heap.size, 2, none⟩ = some (.slice a1 n1 c1) ∧ W'.cell? ⟨w.heap.size + 1, 0, none⟩ = some (.bool false) ∧ W'.cell? ⟨w.heap.size + 1, 1, none⟩ = some (.slice none 0 0) ∧ W'.cell? ⟨w.heap.size + 1, 2, none⟩ = some (.slice none 0 0)) from fun W' hb =>
    ⟨(hb.cell (p := ⟨w.heap.size, 0, none⟩) (by rw [← hW0]; simp <;> omega)).trans (by rw [← hW0]; simp [go_sem]), (hb.cell (p := ⟨w.heap.size, 1, none⟩) (by rw [← hW0]; simp <;> omega)).trans (by rw [← hW0]; simp [go_sem]), (hb.cell (p := ⟨w.heap.size, 2, none⟩) (by rw [← hW0]; simp <;> omega)).trans (by rw [← hW0]; simp [go_sem]), (hb.cell (p := ⟨w.heap.size + 1, 0, none⟩) (by rw [← hW0]; simp <;> omega)).trans (by rw [← hW0]; simp [go_sem]), (hb.cell (p := ⟨w.heap.size + 1, 1, none⟩) (by rw [← hW0]; simp <;> omega)).trans (by rw [← hW0]; simp [go_sem]), (hb.cell (p := ⟨w.heap.size + 1, 2, none⟩) (by rw [← hW0]; simp <;> omega)).trans (by rw [← hW0]; simp [go_sem])⟩)
  have HYW0 := Lib.hid (show ∀ W', Below W0.heap.size W0 W' → (W'.frozen? ⟨w.heap.size, 0, none⟩ = false ∧ W'.frozen? ⟨w.heap.size, 1, none⟩ = false ∧ W'.frozen? ⟨w.heap.size, 2, none⟩ = false ∧ W'.frozen? ⟨w.heap.size + 1, 0, none⟩ = false ∧ W'.frozen? ⟨w.heap.size + 1, 1, none⟩ = false ∧ W'.frozen? ⟨w.heap.size + 1, 2, none⟩ = false) from fun W' hb =>
    ⟨(hb.frozen (p := ⟨w.heap.size, 0, none⟩) (by rw [← hW0]; simp <;> omega)).trans (by rw [← hW0]; simp [go_sem]), (hb.frozen (p := ⟨w.heap.size, 1, none⟩) (by rw [← hW0]; simp <;> omega)).trans (by rw [← hW0]; simp [go_sem]), (hb.frozen (p := ⟨w.heap.size, 2, none⟩) (by rw [← hW0]; simp <;> omega)).trans (by rw [← hW0]; simp [go_sem]), (hb.frozen (p := ⟨w.heap.size + 1, 0, none⟩) (by rw [← hW0]; simp <;> omega)).trans (by rw [← hW0]; simp [go_sem]), (hb.frozen (p := ⟨w.heap.size + 1, 1, none⟩) (by rw [← hW0]; simp <;> omega)).trans (by rw [← hW0]; simp [go_sem]), (hb.frozen (p := ⟨w.heap.size + 1, 2, none⟩) (by rw [← hW0]; simp <;> omega)).trans (by rw [← hW0]; simp [go_sem])⟩)
  have HZW0 := Lib.hid (show ∀ W', Below W0.heap.size W0 W' → (w.heap.size < W'.heap.size ∧ w.heap.size + 1 < W'.heap.size) from fun W' hb =>
    ⟨Nat.lt_of_lt_of_le (by rw [← hW0]; simp <;> omega) hb.size, Nat.lt_of_lt_of_le (by rw [← hW0]; simp <;> omega) hb.size⟩)
  have zb : Below w.heap.size w W0 := by rw [← hW0]; exact below_step (below_new _ _) (below_new _ _)
  rw [hW0]
  clear hW0
  have i0 := h.to zb
  have gb : Below W0.heap.size W0 W0 := Below.refl _ _
  obtain ⟨x0_0, x0_1, x0_2, x1_0, x1_1, x1_2⟩ := HXW0.out _ gb
  obtain ⟨y0_0, y0_1, y0_2, y1_0, y1_1, y1_2⟩ := HYW0.out _ gb
  obtain ⟨z0, z1⟩ := HZW0.out _ gb
  refine (ref8_lowest b _ _ ln ld _ (i0.to gb).1 (i0.to gb).2.1 (Nat.le_trans h.2.2.2.1 (by omega)) (Nat.le_trans h.2.2.2.2 (by omega)) q H9.out hs).mono ?_
  clear x0_0 y0_0 x0_1 y0_1 x0_2 y0_2 x1_0 y1_0 x1_1 y1_1 x1_2 y1_2
  rintro e w1 ⟨ng1, a1_, n1_, c1_, p1_, m1_, k1_, rfl, g1, hb1⟩
  replace gb := below_step gb hb1
  obtain ⟨x0_0, x0_1, x0_2, x1_0, x1_1, x1_2⟩ := HXW0.out _ gb
  obtain ⟨y0_0, y0_1, y0_2, y1_0, y1_1, y1_2⟩ := HYW0.out _ gb
  obtain ⟨z0, z1⟩ := HZW0.out _ gb
  go_wp2_with fail
  refine bodyPost_ret (results_R Try.results17 _ _ _ _ _ _ rfl (Tri.set (x0 := .bool false) (y0 := .slice none 0 0) (z0 := .slice none 0 0) ⟨x1_0, x1_1, x1_2, y1_0, y1_1, y1_2⟩ _ _ _)) rfl (finR (below_step zb gb) (by omega) ?_ g1)
  omega

set_option maxRecDepth 100000 in
set_option maxHeartbeats 4000000 in
theorem ref8_equal (b : Bool) (v u : Value) (ln ld : List Nat) (c : Bool) (v' u' : Value) (ln' ld' : List Nat) (w : World) (h : IsF w v u ln ld) (h' : IsF w v' u' ln' ld') (o : Bool) (ho : (b == c && decide (ln = ln') && decide (ld = ld')) = o) :
    Calls Try.prog 15 #[aggR b v u, aggR c v' u'] w (fun e w' => e = .returned (.bool o) ∧ Below w.heap.size w w') := by
  obtain ⟨o1, ho1⟩ : ∃ o, decide (ln = ln') = o := ⟨_, rfl⟩
  obtain ⟨o2, ho2⟩ : ∃ o, decide (ld = ld') = o := ⟨_, rfl⟩
  have O1 := Lib.hid ho1
  have O2 := Lib.hid ho2
  rw [ho1, ho2] at ho
  clear ho1 ho2
  obtain ⟨a0, n0, c0, rfl, H0, hm0⟩ := h.1.open
  obtain ⟨a1, n1, c1, rfl, H1, hm1⟩ := h.2.open
  obtain ⟨a2, n2, c2, rfl, H2, hm2⟩ := h'.1.open
  obtain ⟨a3, n3, c3, rfl, H3, hm3⟩ := h'.2.open
  have ho' := Lib.hid ho
  clear ho
  rcases Bool.eq_false_or_eq_true (b == c) with e1 | e1
  rotate_left
  · rw [e1] at ho'
    go_enter Try.func15, Try.ntmps15
    go_wp2_with fail
    obtain ⟨W0, hW0⟩ : ∃ W0, (w.alloc (.cells #[.bool b, .slice a0 n0 c0, .slice a1 n1 c1] 24)).alloc (.cells #[.bool c, .slice a2 n2 c2, .slice a3 n3 c3] 24) = W0 := ⟨_, rfl⟩
    have HXW0 := Lib.hid (show ∀ W', Below W0.heap.size W0 W' → (W'.cell? ⟨w.heap.size, 0, none⟩ = some (.bool b) ∧ W'.cell? ⟨w.heap.size, 1, none⟩ = some (.slice a0 n0 c0) ∧ W'.cell? ⟨w.heap.size, 2, none⟩ = some (.slice a1 n1 c1) ∧ W'.cell? ⟨w.heap.size + 1, 0, none⟩ = some (.bool c) ∧ W'.cell? ⟨w.heap.size + 1, 1, none⟩ = some (.slice a2 n2 c2) ∧ W'.cell? ⟨w.heap.size + 1, 2, none⟩ = some (.slice a3 n3 c3)) from fun W' hb =>
      ⟨(hb.cell (p := ⟨w.heap.size, 0, none⟩) (by rw [← hW0]; simp <;> omega)).trans (by rw [← hW0]; simp [go_sem]), (hb.cell (p := ⟨w.heap.size, 1, none⟩) (by rw [← hW0]; simp <;> omega)).trans (by rw [← hW0]; simp [go_sem]), (hb.cell (p := ⟨w.heap.size, 2, none⟩) (by rw [← hW0]; simp <;> omega)).trans (by rw [← hW0]; simp [go_sem]), (hb.cell (p := ⟨w.heap.size + 1, 0, none⟩) (by rw [← hW0]; simp <;> omega)).trans (by rw [← hW0]; simp [go_sem]), (hb.cell (p := ⟨w.heap.size + 1, 1, none⟩) (by rw [← hW0]; simp <;> omega)).trans (by rw [← hW0]; simp [go_sem]), (hb.cell (p := ⟨w.heap.size + 1, 2, none⟩) (by rw [← hW0]; simp <;> omega)).trans (by rw [← hW0]; simp [go_sem])⟩)
    have HYW0 := Lib.hid (show ∀ W', Below W0.heap.size W0 W' → (W'.frozen? ⟨w.heap.size, 0, none⟩ = false ∧ W'.frozen? ⟨w.heap.size, 1, none⟩ = false ∧ W'.frozen? ⟨w.heap.size, 2, none⟩ = false ∧ W'.frozen? ⟨w.heap.size + 1, 0, none⟩ = false ∧ W'.frozen? ⟨w.heap.size + 1, 1, none⟩ = false ∧ W'.frozen? ⟨w.heap.size + 1, 2, none⟩ = false) from fun W' hb =>
      ⟨(hb.frozen (p := ⟨w.heap.size, 0, none⟩) (by rw [← hW0]; simp <;> omega)).trans (by rw [← hW0]; simp [go_sem]), (hb.frozen (p := ⟨w.heap.size, 1, none⟩) (by rw [← hW0]; simp <;> omega)).trans (by rw [← hW0]; simp [go_sem]), (hb.frozen (p := ⟨w.heap.size, 2, none⟩) (by rw [← hW0]; simp <;> omega)).trans (by rw [← hW0]; simp [go_sem]), (hb.frozen (p := ⟨w.heap.size + 1, 0, none⟩) (by rw [← hW0]; simp <;> omega)).trans (by rw [← hW0]; simp [go_sem]), (hb.frozen (p := ⟨w.heap.size + 1, 1, none⟩) (by rw [← hW0]; simp <;> omega)).trans (by rw [← hW0]; simp [go_sem]), (hb.frozen (p := ⟨w.heap.size + 1, 2, none⟩) (by rw [← hW0]; simp <;> omega)).trans (by rw [← hW0]; simp [go_sem])⟩)
    have HZW0 := Lib.hid (show ∀ W', Below W0.heap.size W0 W' → (w.heap.size < W'.heap.size ∧ w.heap.size + 1 < W'.heap.size) from fun W' hb =>
      ⟨Nat.lt_of_lt_of_le (by rw [← hW0]; simp <;> omega) hb.size, Nat.lt_of_lt_of_le (by rw [← hW0]; simp <;> omega) hb.size⟩)
    have zb : Below w.heap.size w W0 := by rw [← hW0]; exact below_step (below_new _ _) (below_new _ _)
    rw [hW0]
    clear hW0
    have i0 := h.to zb
    have i1 := h'.to zb
    have gb : Below W0.heap.size W0 W0 := Below.refl _ _
    obtain ⟨x0_0, x0_1, x0_2, x1_0, x1_1, x1_2⟩ := HXW0.out _ gb
    obtain ⟨y0_0, y0_1, y0_2, y1_0, y1_1, y1_2⟩ := HYW0.out _ gb
    obtain ⟨z0, z1⟩ := HZW0.out _ gb
    go_ret
    exact ⟨ret_one (congrArg Value.bool (by have k := ho'.out; simpa using k)), below_step zb gb⟩
  rcases Bool.eq_false_or_eq_true o1 with e2 | e2
  rotate_left
  · rw [e1] at ho'
    go_enter Try.func15, Try.ntmps15
    go_wp2_with fail
    obtain ⟨W0, hW0⟩ : ∃ W0, (w.alloc (.cells #[.bool b, .slice a0 n0 c0, .slice a1 n1 c1] 24)).alloc (.cells #[.bool c, .slice a2 n2 c2, .slice a3 n3 c3] 24) = W0 := ⟨_, rfl⟩
    have HXW0 := Lib.hid (show ∀ W', Below W0.heap.size W0 W' → (W'.cell? ⟨w.heap.size, 0, none⟩ = some (.bool b) ∧ W'.cell? ⟨w.heap.size, 1, none⟩ = some (.slice a0 n0 c0) ∧ W'.cell? ⟨w.heap.size, 2, none⟩ = some (.slice a1 n1 c1) ∧ W'.cell? ⟨w.heap.size + 1, 0, none⟩ = some (.bool c) ∧ W'.cell? ⟨w.heap.size + 1, 1, none⟩ = some (.slice a2 n2 c2) ∧ W'.cell? ⟨w.heap.size + 1, 2, none⟩ = some (.slice a3 n3 c3)) from fun W' hb =>
      ⟨(hb.cell (p := ⟨w.heap.size, 0, none⟩) (by rw [← hW0]; simp <;> omega)).trans (by rw [← hW0]; simp [go_sem]), (hb.cell (p := ⟨w.heap.size, 1, none⟩) (by rw [← hW0]; simp <;> omega)).trans (by rw [← hW0]; simp [go_sem]), (hb.cell (p := ⟨w.heap.size, 2, none⟩) (by rw [← hW0]; simp <;> omega)).trans (by rw [← hW0]; simp [go_sem]), (hb.cell (p := ⟨w.heap.size + 1, 0, none⟩) (by rw [← hW0]; simp <;> omega)).trans (by rw [← hW0]; simp [go_sem]), (hb.cell (p := ⟨w.heap.size + 1, 1, none⟩) (by rw [← hW0]; simp <;> omega)).trans (by rw [← hW0]; simp [go_sem]), (hb.cell (p := ⟨w.heap.size + 1, 2, none⟩) (by rw [← hW0]; simp <;> omega)).trans (by rw [← hW0]; simp [go_sem])⟩)
    have HYW0 := Lib.hid (show ∀ W', Below W0.heap.size W0 W' → (W'.frozen? ⟨w.heap.size, 0, none⟩ = false ∧ W'.frozen? ⟨w.heap.size, 1, none⟩ = false ∧ W'.frozen? ⟨w.heap.size, 2, none⟩ = false ∧ W'.frozen? ⟨w.heap.size + 1, 0, none⟩ = false ∧ W'.frozen? ⟨w.heap.size + 1, 1, none⟩ = false ∧ W'.frozen? ⟨w.heap.size + 1, 2, none⟩ = false) from fun W' hb =>
      ⟨(hb.frozen (p := ⟨w.heap.size, 0, none⟩) (by rw [← hW0]; simp <;> omega)).trans (by rw [← hW0]; simp [go_sem]), (hb.frozen (p := ⟨w.heap.size, 1, none⟩) (by rw [← hW0]; simp <;> omega)).trans (by rw [← hW0]; simp [go_sem]), (hb.frozen (p := ⟨w.heap.size, 2, none⟩) (by rw [← hW0]; simp <;> omega)).trans (by rw [← hW0]; simp [go_sem]), (hb.frozen (p := ⟨w.heap.size + 1, 0, none⟩) (by rw [← hW0]; simp <;> omega)).trans (by rw [← hW0]; simp [go_sem]), (hb.frozen (p := ⟨w.heap.size + 1, 1, none⟩) (by rw [← hW0]; simp <;> omega)).trans (by rw [← hW0]; simp [go_sem]), (hb.frozen (p := ⟨w.heap.size + 1, 2, none⟩) (by rw [← hW0]; simp <;> omega)).trans (by rw [← hW0]; simp [go_sem])⟩)
    have HZW0 := Lib.hid (show ∀ W', Below W0.heap.size W0 W' → (w.heap.size < W'.heap.size ∧ w.heap.size + 1 < W'.heap.size) from fun W' hb =>
      ⟨Nat.lt_of_lt_of_le (by rw [← hW0]; simp <;> omega) hb.size, Nat.lt_of_lt_of_le (by rw [← hW0]; simp <;> omega) hb.size⟩)
    have zb : Below w.heap.size w W0 := by rw [← hW0]; exact below_step (below_new _ _) (below_new _ _)
    rw [hW0]
    clear hW0
    have i0 := h.to zb
    have i1 := h'.to zb
    have gb : Below W0.heap.size W0 W0 := Below.refl _ _
    obtain ⟨x0_0, x0_1, x0_2, x1_0, x1_1, x1_2⟩ := HXW0.out _ gb
    obtain ⟨y0_0, y0_1, y0_2, y1_0, y1_1, y1_2⟩ := HYW0.out _ gb
    obtain ⟨z0, z1⟩ := HZW0.out _ gb
    refine (words_o _ _ _ _ o1 _ (i0.to gb).1 (i1.to gb).1 O1).mono ?_
    clear x0_0 y0_0 x0_1 y0_1 x0_2 y0_2 x1_0 y1_0 x1_1 y1_1 x1_2 y1_2
    rintro e w1 ⟨rfl, hb1⟩
    replace gb := below_step gb hb1
    obtain ⟨x0_0, x0_1, x0_2, x1_0, x1_1, x1_2⟩ := HXW0.out _ gb
    obtain ⟨y0_0, y0_1, y0_2, y1_0, y1_1, y1_2⟩ := HYW0.out _ gb
    obtain ⟨z0, z1⟩ := HZW0.out _ gb
    obtain rfl := e2
    go_wp2_with fail
    go_ret
    exact ⟨ret_one (congrArg Value.bool (by have k := ho'.out; simpa using k)), below_step zb gb⟩
  · rw [e1] at ho'
    go_enter Try.func15, Try.ntmps15
    go_wp2_with fail
    obtain ⟨W0, hW0⟩ : ∃ W0, (w.alloc (.cells #[.bool b, .slice a0 n0 c0, .slice a1 n1 c1] 24)).alloc (.cells #[.bool c, .slice a2 n2 c2, .slice a3 n3 c3] 24) = W0 := ⟨_, rfl⟩
    have HXW0 := Lib.hid (show ∀ W', Below W0.heap.size W0 W' → (W'.cell? ⟨w.heap.size, 0, none⟩ = some (.bool b) ∧ W'.cell? ⟨w.heap.size, 1, none⟩ = some (.slice a0 n0 c0) ∧ W'.cell? ⟨w.heap.size, 2, none⟩ = some (.slice a1 n1 c1) ∧ W'.cell? ⟨w.heap.size + 1, 0, none⟩ = some (.bool c) ∧ W'.cell? ⟨w.heap.size + 1, 1, none⟩ = some (.slice a2 n2 c2) ∧ W'.cell? ⟨w.heap.size + 1, 2, none⟩ = some (.slice a3 n3 c3)) from fun W' hb =>
      ⟨(hb.cell (p := ⟨w.heap.size, 0, none⟩) (by rw [← hW0]; simp <;> omega)).trans (by rw [← hW0]; simp [go_sem]), (hb.cell (p := ⟨w.heap.size, 1, none⟩) (by rw [← hW0]; simp <;> omega)).trans (by rw [← hW0]; simp [go_sem]), (hb.cell (p := ⟨w.heap.size, 2, none⟩) (by rw [← hW0]; simp <;> omega)).trans (by rw [← hW0]; simp [go_sem]), (hb.cell (p := ⟨w.heap.size + 1, 0, none⟩) (by rw [← hW0]; simp <;> omega)).trans (by rw [← hW0]; simp [go_sem]), (hb.cell (p := ⟨w.heap.size + 1, 1, none⟩) (by rw [← hW0]; simp <;> omega)).trans (by rw [← hW0]; simp [go_sem]), (hb.cell (p := ⟨w.heap.size + 1, 2, none⟩) (by rw [← hW0]; simp <;> omega)).trans (by rw [← hW0]; simp [go_sem])⟩)
    have HYW0 := Lib.hid (show ∀ W', Below W0.heap.size W0 W' → (W'.frozen? ⟨w.heap.size, 0, none⟩ = false ∧ W'.frozen? ⟨w.heap.size, 1, none⟩ = false ∧ W'.frozen? ⟨w.heap.size, 2, none⟩ = false ∧ W'.frozen? ⟨w.heap.size + 1, 0, none⟩ = false ∧ W'.frozen? ⟨w.heap.size + 1, 1, none⟩ = false ∧ W'.frozen? ⟨w.heap.size + 1, 2, none⟩ = false) from fun W' hb =>
      ⟨(hb.frozen (p := ⟨w.heap.size, 0, none⟩) (by rw [← hW0]; simp <;> omega)).trans (by rw [← hW0]; simp [go_sem]), (hb.frozen (p := ⟨w.heap.size, 1, none⟩) (by rw [← hW0]; simp <;> omega)).trans (by rw [← hW0]; simp [go_sem]), (hb.frozen (p := ⟨w.heap.size, 2, none⟩) (by rw [← hW0]; simp <;> omega)).trans (by rw [← hW0]; simp [go_sem]), (hb.frozen (p := ⟨w.heap.size + 1, 0, none⟩) (by rw [← hW0]; simp <;> omega)).trans (by rw [← hW0]; simp [go_sem]), (hb.frozen (p := ⟨w.heap.size + 1, 1, none⟩) (by rw [← hW0]; simp <;> omega)).trans (by rw [← hW0]; simp [go_sem]), (hb.frozen (p := ⟨w.heap.size + 1, 2, none⟩) (by rw [← hW0]; simp <;> omega)).trans (by rw [← hW0]; simp [go_sem])⟩)
    have HZW0 := Lib.hid (show ∀ W', Below W0.heap.size W0 W' → (w.heap.size < W'.heap.size ∧ w.heap.size + 1 < W'.heap.size) from fun W' hb =>
      ⟨Nat.lt_of_lt_of_le (by rw [← hW0]; simp <;> omega) hb.size, Nat.lt_of_lt_of_le (by rw [← hW0]; simp <;> omega) hb.size⟩)
    have zb : Below w.heap.size w W0 := by rw [← hW0]; exact below_step (below_new _ _) (below_new _ _)
    rw [hW0]
    clear hW0
    have i0 := h.to zb
    have i1 := h'.to zb
    have gb : Below W0.heap.size W0 W0 := Below.refl _ _
    obtain ⟨x0_0, x0_1, x0_2, x1_0, x1_1, x1_2⟩ := HXW0.out _ gb
    obtain ⟨y0_0, y0_1, y0_2, y1_0, y1_1, y1_2⟩ := HYW0.out _ gb
    obtain ⟨z0, z1⟩ := HZW0.out _ gb
    refine (words_o _ _ _ _ o1 _ (i0.to gb).1 (i1.to gb).1 O1).mono ?_
    clear x0_0 y0_0 x0_1 y0_1 x0_2 y0_2 x1_0 y1_0 x1_1 y1_1 x1_2 y1_2
    rintro e w1 ⟨rfl, hb1⟩
    replace gb := below_step gb hb1
    obtain ⟨x0_0, x0_1, x0_2, x1_0, x1_1, x1_2⟩ := HXW0.out _ gb
    obtain ⟨y0_0, y0_1, y0_2, y1_0, y1_1, y1_2⟩ := HYW0.out _ gb
    obtain ⟨z0, z1⟩ := HZW0.out _ gb
    obtain rfl := e2
    go_wp2_with fail
    refine (words_o _ _ _ _ o2 _ (i0.to gb).2 (i1.to gb).2 O2).mono ?_
    clear x0_0 y0_0 x0_1 y0_1 x0_2 y0_2 x1_0 y1_0 x1_1 y1_1 x1_2 y1_2
    rintro e w2 ⟨rfl, hb2⟩
    replace gb := below_step gb hb2
    obtain ⟨x0_0, x0_1, x0_2, x1_0, x1_1, x1_2⟩ := HXW0.out _ gb
    obtain ⟨y0_0, y0_1, y0_2, y1_0, y1_1, y1_2⟩ := HYW0.out _ gb
    obtain ⟨z0, z1⟩ := HZW0.out _ gb
    go_wp2_with fail
    go_ret
    exact ⟨ret_one (congrArg Value.bool (by have k := ho'.out; simpa using k)), below_step zb gb⟩

set_option maxRecDepth 100000 in
set_option maxHeartbeats 4000000 in
theorem ref8_right {x : Rat} (b : Bool) (v u : Value) (ln ld : List Nat) (w : World) (h : IsQ w b v u ln ld x) (o : Bool) (ho : rightQ b ln ld x = o) :
    Calls Try.prog 27 #[aggR b v u] w (fun e w' => e = .returned (.bool o) ∧ Below w.heap.size w w') := by
  have Hx := isQ_sz h
  have HO := Lib.hid ho
  clear ho
  obtain ⟨a0, n0, c0, rfl, H0, hm0⟩ := h.1.open
  obtain ⟨a1, n1, c1, rfl, H1, hm1⟩ := h.2.1.open
  go_enter Try.func27, Try.ntmps27
  go_wp2_with fail
  obtain ⟨W0, hW0⟩ : ∃ W0, w.alloc (.cells #[.bool b, .slice a0 n0 c0, .slice a1 n1 c1] 24) = W0 := ⟨_, rfl⟩
  have HXW0 := Lib.hid (show ∀ W', Below W0.heap.size W0 W' → (W'.cell? ⟨w.heap.size, 0, none⟩ = some (.bool b) ∧ W'.cell? ⟨w.heap.size, 1, none⟩ = some (.slice a0 n0 c0) ∧ W'.cell? ⟨w.heap.size, 2, none⟩ = some (.slice a1 n1 c1)) from fun W' hb =>
    ⟨(hb.cell (p := ⟨w.heap.size, 0, none⟩) (by rw [← hW0]; simp <;> omega)).trans (by rw [← hW0]; simp [go_sem]), (hb.cell (p := ⟨w.heap.size, 1, none⟩) (by rw [← hW0]; simp <;> omega)).trans (by rw [← hW0]; simp [go_sem]), (hb.cell (p := ⟨w.heap.size, 2, none⟩) (by rw [← hW0]; simp <;> omega)).trans (by rw [← hW0]; simp [go_sem])⟩)
  have HYW0 := Lib.hid (show ∀ W', Below W0.heap.size W0 W' → (W'.frozen? ⟨w.heap.size, 0, none⟩ = false ∧ W'.frozen? ⟨w.heap.size, 1, none⟩ = false ∧ W'.frozen? ⟨w.heap.size, 2, none⟩ = false) from fun W' hb =>
    ⟨(hb.frozen (p := ⟨w.heap.size, 0, none⟩) (by rw [← hW0]; simp <;> omega)).trans (by rw [← hW0]; simp [go_sem]), (hb.frozen (p := ⟨w.heap.size, 1, none⟩) (by rw [← hW0]; simp <;> omega)).trans (by rw [← hW0]; simp [go_sem]), (hb.frozen (p := ⟨w.heap.size, 2, none⟩) (by rw [← hW0]; simp <;> omega)).trans (by rw [← hW0]; simp [go_sem])⟩)
  have HZW0 := Lib.hid (show ∀ W', Below W0.heap.size W0 W' → (w.heap.size < W'.heap.size) from fun W' hb =>
    Nat.lt_of_lt_of_le (by rw [← hW0]; simp <;> omega) hb.size)
  have zb : Below w.heap.size w W0 := by rw [← hW0]; exact below_new _ _
  rw [hW0]
  clear hW0
  have i0 := h.to zb
  have gb : Below W0.heap.size W0 W0 := Below.refl _ _
  obtain ⟨x0_0, x0_1, x0_2⟩ := HXW0.out _ gb
  obtain ⟨y0_0, y0_1, y0_2⟩ := HYW0.out _ gb
  obtain z0 := HZW0.out _ gb
  have HH := Lib.hid (show ∀ ng, decide (x < 0) = ng → (ng == b && decide (limbs x.num.natAbs = ln) && decide (limbs x.den = ld)) = o from fun ng e => by rw [← HO.out, ← e]; rfl)
  go_region_held3 (fun W' => W'.cell? ⟨w.heap.size, 0, none⟩ = some (.bool b) ∧ W'.cell? ⟨w.heap.size, 1, none⟩ = some (.slice a0 n0 c0) ∧ W'.cell? ⟨w.heap.size, 2, none⟩ = some (.slice a1 n1 c1)) (first | (with_reducible exact ⟨x0_0, x0_1, x0_2⟩) | exact ⟨x0_0, x0_1, x0_2⟩) (first
    | (go_at_call 15; (with_reducible refine (ref8_equal ng1 _ _ _ _ b _ _ _ _ _ g1.isF (i0.to gb).isF o (HH.out ng1 g1.ng)).mono ?_); rintro e w2 ⟨rfl, hb2⟩; have g1 := g1.to hb2; have gb := below_step gb hb2; obtain ⟨x0_0, x0_1, x0_2⟩ := HXW0.out _ gb; obtain ⟨y0_0, y0_1, y0_2⟩ := HYW0.out _ gb; obtain z0 := HZW0.out _ gb)
    | (go_at_call 17; have gb := gb.drew; (with_reducible refine (ref8_fix b _ _ ln ld _ (i0.to gb) x rfl Hx).mono ?_); rintro e w1 ⟨ng1, a1_, n1_, c1_, p1_, m1_, k1_, rfl, g1, hb1⟩; have gb := below_step gb hb1; obtain ⟨x0_0, x0_1, x0_2⟩ := HXW0.out _ gb; obtain ⟨y0_0, y0_1, y0_2⟩ := HYW0.out _ gb; obtain z0 := HZW0.out _ gb))
  go_wp2_with fail
  go_ret
  exact ⟨rfl, below_step zb gb⟩

end Go.Proofs.Ytmjnlpanlgmdmaa

