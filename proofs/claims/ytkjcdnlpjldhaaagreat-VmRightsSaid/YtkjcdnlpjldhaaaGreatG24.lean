/-
  The texts Vm9c, Vm9d, merged.
-/
import Derived.Test.YtkjcdnlpjldhaaaGreatG20
import Derived.Test.YtkjcdnlpjldhaaaGreatG10
import Derived.Deep.RegionHeld3
import Derived.FnLit
namespace Go.Proofs.YtkjcdnlpjldhaaaGreat
open Go.RowKit Tw
set_option linter.unusedVariables false
set_option linter.unusedSimpArgs false
attribute [local go_sem ↓] Go.wp_at_zero Go.wp_at_succ

set_option maxRecDepth 100000 in
set_option maxHeartbeats 60000000 in
theorem step_val_5 (mB g N : Nat) (u vJ : Value) (rows cols : Int) (T : Nat) (xa xb : Int) (ng : Bool) (vn vd : Value) (ln ld : List Nat) (d0 d1 d2 : Value) {v : Rat}  (w : World) (hw : IsF w vn vd ln ld) (hm : Mach w mB g N u vJ rows cols) (hN : N ≤ 100000) (hT : T < N) (ho : Open3 w g (T * 3) d0 d1 d2) (hs : szq v ≤ 4096) (hcall : ∀ V, Below w.heap.size w V → Calls Tryz.prog 96 #[.pointer (some ⟨mB, 0, none⟩), .agg #[.int .i64 5, .int .i64 (T : Int), .int .i64 xa, .int .i64 xb, .bool ng, vn, vd]] V (GivesQK V v))  :
    Calls Tryz.prog 39 #[.pointer (some ⟨mB, 0, none⟩), .agg #[.int .i64 5, .int .i64 (T : Int), .int .i64 xa, .int .i64 xb, .bool ng, vn, vd]] w (SetTo w g (T * 3) v) := by
  obtain ⟨a0, n0, c0, rfl, H0, hm0⟩ := hw.1.open
  obtain ⟨a1, n1, c1, rfl, H1, hm1⟩ := hw.2.open
  have hTi : (T : Int) < (N : Int) := by omega
  have lm := hm.lt
  have lo := ho.lt
  have Hs := Lib.hid hs
  have HC := Lib.hid hcall
  clear hs hcall
  go_enter Tryz.func39, Tryz.ntmps39
  go_wp2_with fail
  obtain ⟨W0, hW0⟩ : ∃ W0, w.alloc (.cells #[.int .i64 5, .int .i64 (T : Int), .int .i64 xa, .int .i64 xb, .bool ng, .slice a0 n0 c0, .slice a1 n1 c1] 49) = W0 := ⟨_, rfl⟩
  have HXW0 := Lib.hid (show ∀ W', Below W0.heap.size W0 W' → (W'.cell? ⟨w.heap.size, 0, none⟩ = some (.int .i64 5) ∧ W'.cell? ⟨w.heap.size, 1, none⟩ = some (.int .i64 (T : Int)) ∧ W'.cell? ⟨w.heap.size, 2, none⟩ = some (.int .i64 xa) ∧ W'.cell? ⟨w.heap.size, 3, none⟩ = some (.int .i64 xb) ∧ W'.cell? ⟨w.heap.size, 4, none⟩ = some (.bool ng) ∧ W'.cell? ⟨w.heap.size, 5, none⟩ = some (.slice a0 n0 c0) ∧ W'.cell? ⟨w.heap.size, 6, none⟩ = some (.slice a1 n1 c1)) from fun W' hb =>
    by and_intros <;> exact kc hb (by first | assumption | (rw [← hW0]; simp [go_sem])))
  have HYW0 := Lib.hid (show ∀ W', Below W0.heap.size W0 W' → (W'.frozen? ⟨w.heap.size, 0, none⟩ = false ∧ W'.frozen? ⟨w.heap.size, 1, none⟩ = false ∧ W'.frozen? ⟨w.heap.size, 2, none⟩ = false ∧ W'.frozen? ⟨w.heap.size, 3, none⟩ = false ∧ W'.frozen? ⟨w.heap.size, 4, none⟩ = false ∧ W'.frozen? ⟨w.heap.size, 5, none⟩ = false ∧ W'.frozen? ⟨w.heap.size, 6, none⟩ = false) from fun W' hb =>
    ⟨(hb.frozen (p := ⟨w.heap.size, 0, none⟩) (by rw [← hW0]; simp <;> omega)).trans (by rw [← hW0]; simp [go_sem]), (hb.frozen (p := ⟨w.heap.size, 1, none⟩) (by rw [← hW0]; simp <;> omega)).trans (by rw [← hW0]; simp [go_sem]), (hb.frozen (p := ⟨w.heap.size, 2, none⟩) (by rw [← hW0]; simp <;> omega)).trans (by rw [← hW0]; simp [go_sem]), (hb.frozen (p := ⟨w.heap.size, 3, none⟩) (by rw [← hW0]; simp <;> omega)).trans (by rw [← hW0]; simp [go_sem]), (hb.frozen (p := ⟨w.heap.size, 4, none⟩) (by rw [← hW0]; simp <;> omega)).trans (by rw [← hW0]; simp [go_sem]), (hb.frozen (p := ⟨w.heap.size, 5, none⟩) (by rw [← hW0]; simp <;> omega)).trans (by rw [← hW0]; simp [go_sem]), (hb.frozen (p := ⟨w.heap.size, 6, none⟩) (by rw [← hW0]; simp <;> omega)).trans (by rw [← hW0]; simp [go_sem])⟩)
  have HZW0 := Lib.hid (show ∀ W', Below W0.heap.size W0 W' → (w.heap.size < W'.heap.size) from fun W' hb =>
    Nat.lt_of_lt_of_le (by rw [← hW0]; simp <;> omega) hb.size)
  have zb : Below w.heap.size w W0 := by rw [← hW0]; exact below_new _ _
  rw [hW0]
  clear hW0
  have i0 := hw.to zb
  have i1 := hm.to zb
  have i2 := ho.to zb
  have gb : Below W0.heap.size W0 W0 := Below.refl _ _
  obtain ⟨x0_0, x0_1, x0_2, x0_3, x0_4, x0_5, x0_6⟩ := HXW0.out _ gb
  obtain ⟨y0_0, y0_1, y0_2, y0_3, y0_4, y0_5, y0_6⟩ := HYW0.out _ gb
  obtain z0 := HZW0.out _ gb
  obtain ⟨e0, e1, e2, e3, e4⟩ := (i1.to gb)
  obtain ⟨o0, o1, o2, q0, q1, q2⟩ := (i2.to gb)
  go_wp2_with fail
  have htab := tab_5
  have hgb := gb
  go_upto_region 4 with fail
  go_cut [5, 6] from 28 (fun s5 s6 wx => BoxQ W0 (v) s5 wx ∧ s6 = .int .i64 0)
  case first =>
    go_region_held3 (fun W' => W'.cell? ⟨w.heap.size, 0, none⟩ = some (.int .i64 5) ∧ W'.cell? ⟨w.heap.size, 1, none⟩ = some (.int .i64 (T : Int)) ∧ W'.cell? ⟨w.heap.size, 2, none⟩ = some (.int .i64 xa) ∧ W'.cell? ⟨w.heap.size, 3, none⟩ = some (.int .i64 xb) ∧ W'.cell? ⟨w.heap.size, 4, none⟩ = some (.bool ng) ∧ W'.cell? ⟨w.heap.size, 5, none⟩ = some (.slice a0 n0 c0) ∧ W'.cell? ⟨w.heap.size, 6, none⟩ = some (.slice a1 n1 c1)) (first | (with_reducible exact HXW0.out _ gb) | ((with_reducible refine HXW0.out _ ?_); first | ((with_reducible refine Below.drew ?_); first | (with_reducible exact gb) | ((with_reducible refine below_set3 ?_ ?_ _ _ _); rotate_left; (first | (with_reducible exact et1_R_0) | (with_reducible exact et2_R_0)); with_reducible exact gb) | ((with_reducible refine below_step ?_ (below_new _ _)); with_reducible exact gb)) | (first | (with_reducible exact gb) | ((with_reducible refine below_set3 ?_ ?_ _ _ _); rotate_left; (first | (with_reducible exact et1_R_0) | (with_reducible exact et2_R_0)); first | (with_reducible exact gb) | ((with_reducible refine below_set3 ?_ ?_ _ _ _); rotate_left; (first | (with_reducible exact et1_R_0) | (with_reducible exact et2_R_0)); with_reducible exact gb) | ((with_reducible refine below_step ?_ (below_new _ _)); with_reducible exact gb)) | ((with_reducible refine below_step ?_ (below_new _ _)); first | (with_reducible exact gb) | ((with_reducible refine below_set3 ?_ ?_ _ _ _); rotate_left; (first | (with_reducible exact et1_R_0) | (with_reducible exact et2_R_0)); with_reducible exact gb) | ((with_reducible refine below_step ?_ (below_new _ _)); with_reducible exact gb))))) (first
      | (go_at_call 96; (refine calls_gen w1 (by first | with_reducible exact Below.refl _ _ | with_reducible exact below_new _ _) ?_); intro V2 hV2 hbV2; have hsV2 := hbV2.size; have hu2 := gb.size; have gb := below_step gb hbV2; (try have t1_R_0 := t1_R_0.to hbV2); (try have t2_R_0 : Tri V2 (w1.heap.size) (.bool false) (.slice none 0 0) (.slice none 0 0) := (by rw [hV2]; first | with_reducible exact tri_new _ (.bool false) (.slice none 0 0) (.slice none 0 0) _ | with_reducible exact (tri_new _ (.bool false) (.slice none 0 0) (.slice none 0 0) _).alloc _)); have et2_R_0 : W0.heap.size ≤ w1.heap.size := (hu2); (try have vt1_R_0_2 := t1_R_0.lt); (try have vt2_R_0_2 := t2_R_0.lt); (with_reducible refine (HC.out _ (below_step zb gb)).mono ?_); rintro e w2 ⟨ng2, a2_, n2_, c2_, p2_, m2_, k2_, rfl, g2, hb2⟩; have gb := below_step gb hb2; have hs2 := hb2.size; (try have t1_R_0 := t1_R_0.to hb2); (try have t2_R_0 := t2_R_0.to hb2); (try have lt1_R_0_2 := t1_R_0.lt); (try have lt2_R_0_2 := t2_R_0.lt); (try (have qt1_R_0 := t1_R_0; obtain ⟨rt1_R_00, rt1_R_01, rt1_R_02, st1_R_00, st1_R_01, st1_R_02⟩ := qt1_R_0)); (try (have qt2_R_0 := t2_R_0; obtain ⟨rt2_R_00, rt2_R_01, rt2_R_02, st2_R_00, st2_R_01, st2_R_02⟩ := qt2_R_0)))
      | (go_at_call 65; (refine calls_gen W0 (by first | with_reducible exact (Below.refl _ _).drew | with_reducible exact (below_new _ _).drew) ?_); intro V1 hV1 hbV1; have hsV1 := hbV1.size; have hu1 := gb.size; have gb := below_step gb hbV1; (try have t1_R_0 : Tri V1 (W0.heap.size) (.bool false) (.slice none 0 0) (.slice none 0 0) := (by rw [hV1]; first | with_reducible exact (tri_new _ (.bool false) (.slice none 0 0) (.slice none 0 0) _).drew | with_reducible exact ((tri_new _ (.bool false) (.slice none 0 0) (.slice none 0 0) _).alloc _).drew)); have et1_R_0 : W0.heap.size ≤ W0.heap.size := (hu1); (try have vt1_R_0_1 := t1_R_0.lt); (with_reducible refine (vm_does _).mono ?_); rintro e w1 ⟨rfl, hb1⟩; have gb := below_step gb hb1; have hs1 := hb1.size; (try have t1_R_0 := t1_R_0.to hb1); (try have lt1_R_0_1 := t1_R_0.lt); (try (have qt1_R_0 := t1_R_0; obtain ⟨rt1_R_00, rt1_R_01, rt1_R_02, st1_R_00, st1_R_01, st1_R_02⟩ := qt1_R_0))))
    all_goals (go_wp2_with fail; go_meet)
    all_goals refine ⟨?_, rfl⟩
    all_goals first
      | (with_reducible exact boxQ_old t1_R_0 g2 (.inl vt1_R_0_2) gb et1_R_0)
      | (with_reducible exact boxQ_old t2_R_0 g2 (.inl vt2_R_0_2) gb et2_R_0)
      | (with_reducible exact boxQ_new g2 gb)
  case rest =>
  obtain ⟨⟨B3, ng2, a2_, n2_, c2_, p2_, m2_, k2_, lo3, hi3, rfl, hB3, T3, g2, hc3⟩, rfl⟩ := hcut
  clear x0_0 y0_0 x0_1 y0_1 x0_2 y0_2 x0_3 y0_3 x0_4 y0_4 x0_5 y0_5 x0_6 y0_6 e0 e1 e2 e3 e4 o0 o1 o2 q0 q1 q2
  have gb := hc3
  obtain ⟨x0_0, x0_1, x0_2, x0_3, x0_4, x0_5, x0_6⟩ := HXW0.out _ gb
  obtain ⟨y0_0, y0_1, y0_2, y0_3, y0_4, y0_5, y0_6⟩ := HYW0.out _ gb
  obtain z0 := HZW0.out _ gb
  obtain ⟨e0, e1, e2, e3, e4⟩ := (i1.to gb)
  obtain ⟨o0, o1, o2, q0, q1, q2⟩ := (i2.to gb)
  have z3 := T3.lt
  obtain ⟨x3_0, x3_1, x3_2, y3_0, y3_1, y3_2⟩ := T3
  clear hgb
  obtain ⟨W1, hW1⟩ : ∃ W, wc = W := ⟨_, rfl⟩
  subst hW1
  replace i0 := i0.to gb
  replace i1 := i1.to gb
  replace i2 := i2.to gb
  replace zb := below_step zb gb
  have HXwc := Lib.hid (show ∀ W', Below wc.heap.size wc W' → (Bx7 W' w.heap.size (.int .i64 5) (.int .i64 (T : Int)) (.int .i64 xa) (.int .i64 xb) (.bool ng) (.slice a0 n0 c0) (.slice a1 n1 c1) ∧ Bx3 W' B3 (.bool ng2) (.slice a2_ n2_ c2_) (.slice p2_ m2_ k2_)) from fun W' hb => by
      refine ⟨bx7 hb ?_ ?_ ?_ ?_ ?_ ?_ ?_ ?_ ?_ ?_ ?_ ?_ ?_ ?_, bx3 hb ?_ ?_ ?_ ?_ ?_ ?_⟩
      all_goals first | assumption | assumption)
  replace gb := Below.refl wc.heap.size wc
  go_wp2_with fail
  obtain ⟨m, hm9⟩ : ∃ m : Nat, ((max (limbs v.num.natAbs).length (limbs v.den).length : Nat)) = m := ⟨_, rfl⟩
  have HM := Lib.hid (show ((max (limbs v.num.natAbs).length (limbs v.den).length : Nat) : Int) = (m : Int) by rw [hm9])
  have hm4 : m ≤ 4096 := by have := Hs.out; unfold szq at this; rw [sz_def, sz_def] at hm9; omega
  have t4 : decide (4096 < m) = false := decide_eq_false (by omega)
  have t5 : decide ((4096 : Int) < (m : Int)) = false := decide_eq_false (by omega)
  clear hm9 hm4
  refine (vm_words ng2 _ _ _ _ _ (g2.to gb).isF (m : Int) HM.out).mono ?_
  clear x0_0 y0_0 x0_1 y0_1 x0_2 y0_2 x0_3 y0_3 x0_4 y0_4 x0_5 y0_5 x0_6 y0_6 x3_0 y3_0 x3_1 y3_1 x3_2 y3_2 e0 e1 e2 e3 e4 o0 o1 o2 q0 q1 q2
  rintro e w3 ⟨rfl, hb3⟩
  replace gb := below_step gb hb3
  obtain ⟨⟨z0, x0_0, x0_1, x0_2, x0_3, x0_4, x0_5, x0_6, y0_0, y0_1, y0_2, y0_3, y0_4, y0_5, y0_6⟩, ⟨z3, x3_0, x3_1, x3_2, y3_0, y3_1, y3_2⟩⟩ := HXwc.out _ gb
  obtain ⟨e0, e1, e2, e3, e4⟩ := (i1.to gb)
  obtain ⟨o0, o1, o2, q0, q1, q2⟩ := (i2.to gb)
  go_wp2_with fail
  go_region
  go_wp2_with fail
  go_ret
  exact ⟨_, _, _, _, rfl, below_step zb gb, (g2.to gb).isK, .inr rfl⟩

set_option maxRecDepth 100000 in
set_option maxHeartbeats 60000000 in
theorem step_val_6 (mB g N : Nat) (u vJ : Value) (rows cols : Int) (T : Nat) (xa xb : Int) (ng : Bool) (vn vd : Value) (ln ld : List Nat) (d0 d1 d2 : Value) {v : Rat}  (w : World) (hw : IsF w vn vd ln ld) (hm : Mach w mB g N u vJ rows cols) (hN : N ≤ 100000) (hT : T < N) (ho : Open3 w g (T * 3) d0 d1 d2) (hs : szq v ≤ 4096) (hcall : ∀ V, Below w.heap.size w V → Calls Tryz.prog 97 #[.pointer (some ⟨mB, 0, none⟩), .agg #[.int .i64 6, .int .i64 (T : Int), .int .i64 xa, .int .i64 xb, .bool ng, vn, vd]] V (GivesQK V v))  :
    Calls Tryz.prog 39 #[.pointer (some ⟨mB, 0, none⟩), .agg #[.int .i64 6, .int .i64 (T : Int), .int .i64 xa, .int .i64 xb, .bool ng, vn, vd]] w (SetTo w g (T * 3) v) := by
  obtain ⟨a0, n0, c0, rfl, H0, hm0⟩ := hw.1.open
  obtain ⟨a1, n1, c1, rfl, H1, hm1⟩ := hw.2.open
  have hTi : (T : Int) < (N : Int) := by omega
  have lm := hm.lt
  have lo := ho.lt
  have Hs := Lib.hid hs
  have HC := Lib.hid hcall
  clear hs hcall
  go_enter Tryz.func39, Tryz.ntmps39
  go_wp2_with fail
  obtain ⟨W0, hW0⟩ : ∃ W0, w.alloc (.cells #[.int .i64 6, .int .i64 (T : Int), .int .i64 xa, .int .i64 xb, .bool ng, .slice a0 n0 c0, .slice a1 n1 c1] 49) = W0 := ⟨_, rfl⟩
  have HXW0 := Lib.hid (show ∀ W', Below W0.heap.size W0 W' → (W'.cell? ⟨w.heap.size, 0, none⟩ = some (.int .i64 6) ∧ W'.cell? ⟨w.heap.size, 1, none⟩ = some (.int .i64 (T : Int)) ∧ W'.cell? ⟨w.heap.size, 2, none⟩ = some (.int .i64 xa) ∧ W'.cell? ⟨w.heap.size, 3, none⟩ = some (.int .i64 xb) ∧ W'.cell? ⟨w.heap.size, 4, none⟩ = some (.bool ng) ∧ W'.cell? ⟨w.heap.size, 5, none⟩ = some (.slice a0 n0 c0) ∧ W'.cell? ⟨w.heap.size, 6, none⟩ = some (.slice a1 n1 c1)) from fun W' hb =>
    by and_intros <;> exact kc hb (by first | assumption | (rw [← hW0]; simp [go_sem])))
  have HYW0 := Lib.hid (show ∀ W', Below W0.heap.size W0 W' → (W'.frozen? ⟨w.heap.size, 0, none⟩ = false ∧ W'.frozen? ⟨w.heap.size, 1, none⟩ = false ∧ W'.frozen? ⟨w.heap.size, 2, none⟩ = false ∧ W'.frozen? ⟨w.heap.size, 3, none⟩ = false ∧ W'.frozen? ⟨w.heap.size, 4, none⟩ = false ∧ W'.frozen? ⟨w.heap.size, 5, none⟩ = false ∧ W'.frozen? ⟨w.heap.size, 6, none⟩ = false) from fun W' hb =>
    ⟨(hb.frozen (p := ⟨w.heap.size, 0, none⟩) (by rw [← hW0]; simp <;> omega)).trans (by rw [← hW0]; simp [go_sem]), (hb.frozen (p := ⟨w.heap.size, 1, none⟩) (by rw [← hW0]; simp <;> omega)).trans (by rw [← hW0]; simp [go_sem]), (hb.frozen (p := ⟨w.heap.size, 2, none⟩) (by rw [← hW0]; simp <;> omega)).trans (by rw [← hW0]; simp [go_sem]), (hb.frozen (p := ⟨w.heap.size, 3, none⟩) (by rw [← hW0]; simp <;> omega)).trans (by rw [← hW0]; simp [go_sem]), (hb.frozen (p := ⟨w.heap.size, 4, none⟩) (by rw [← hW0]; simp <;> omega)).trans (by rw [← hW0]; simp [go_sem]), (hb.frozen (p := ⟨w.heap.size, 5, none⟩) (by rw [← hW0]; simp <;> omega)).trans (by rw [← hW0]; simp [go_sem]), (hb.frozen (p := ⟨w.heap.size, 6, none⟩) (by rw [← hW0]; simp <;> omega)).trans (by rw [← hW0]; simp [go_sem])⟩)
  have HZW0 := Lib.hid (show ∀ W', Below W0.heap.size W0 W' → (w.heap.size < W'.heap.size) from fun W' hb =>
    Nat.lt_of_lt_of_le (by rw [← hW0]; simp <;> omega) hb.size)
  have zb : Below w.heap.size w W0 := by rw [← hW0]; exact below_new _ _
  rw [hW0]
  clear hW0
  have i0 := hw.to zb
  have i1 := hm.to zb
  have i2 := ho.to zb
  have gb : Below W0.heap.size W0 W0 := Below.refl _ _
  obtain ⟨x0_0, x0_1, x0_2, x0_3, x0_4, x0_5, x0_6⟩ := HXW0.out _ gb
  obtain ⟨y0_0, y0_1, y0_2, y0_3, y0_4, y0_5, y0_6⟩ := HYW0.out _ gb
  obtain z0 := HZW0.out _ gb
  obtain ⟨e0, e1, e2, e3, e4⟩ := (i1.to gb)
  obtain ⟨o0, o1, o2, q0, q1, q2⟩ := (i2.to gb)
  go_wp2_with fail
  have htab := tab_6
  have hgb := gb
  go_upto_region 4 with fail
  go_cut [5, 6] from 28 (fun s5 s6 wx => BoxQ W0 (v) s5 wx ∧ s6 = .int .i64 0)
  case first =>
    go_region_held3 (fun W' => W'.cell? ⟨w.heap.size, 0, none⟩ = some (.int .i64 6) ∧ W'.cell? ⟨w.heap.size, 1, none⟩ = some (.int .i64 (T : Int)) ∧ W'.cell? ⟨w.heap.size, 2, none⟩ = some (.int .i64 xa) ∧ W'.cell? ⟨w.heap.size, 3, none⟩ = some (.int .i64 xb) ∧ W'.cell? ⟨w.heap.size, 4, none⟩ = some (.bool ng) ∧ W'.cell? ⟨w.heap.size, 5, none⟩ = some (.slice a0 n0 c0) ∧ W'.cell? ⟨w.heap.size, 6, none⟩ = some (.slice a1 n1 c1)) (first | (with_reducible exact HXW0.out _ gb) | ((with_reducible refine HXW0.out _ ?_); first | ((with_reducible refine Below.drew ?_); first | (with_reducible exact gb) | ((with_reducible refine below_set3 ?_ ?_ _ _ _); rotate_left; (first | (with_reducible exact et1_R_0) | (with_reducible exact et2_R_0)); with_reducible exact gb) | ((with_reducible refine below_step ?_ (below_new _ _)); with_reducible exact gb)) | (first | (with_reducible exact gb) | ((with_reducible refine below_set3 ?_ ?_ _ _ _); rotate_left; (first | (with_reducible exact et1_R_0) | (with_reducible exact et2_R_0)); first | (with_reducible exact gb) | ((with_reducible refine below_set3 ?_ ?_ _ _ _); rotate_left; (first | (with_reducible exact et1_R_0) | (with_reducible exact et2_R_0)); with_reducible exact gb) | ((with_reducible refine below_step ?_ (below_new _ _)); with_reducible exact gb)) | ((with_reducible refine below_step ?_ (below_new _ _)); first | (with_reducible exact gb) | ((with_reducible refine below_set3 ?_ ?_ _ _ _); rotate_left; (first | (with_reducible exact et1_R_0) | (with_reducible exact et2_R_0)); with_reducible exact gb) | ((with_reducible refine below_step ?_ (below_new _ _)); with_reducible exact gb))))) (first
      | (go_at_call 97; (refine calls_gen w1 (by first | with_reducible exact Below.refl _ _ | with_reducible exact below_new _ _) ?_); intro V2 hV2 hbV2; have hsV2 := hbV2.size; have hu2 := gb.size; have gb := below_step gb hbV2; (try have t1_R_0 := t1_R_0.to hbV2); (try have t2_R_0 : Tri V2 (w1.heap.size) (.bool false) (.slice none 0 0) (.slice none 0 0) := (by rw [hV2]; first | with_reducible exact tri_new _ (.bool false) (.slice none 0 0) (.slice none 0 0) _ | with_reducible exact (tri_new _ (.bool false) (.slice none 0 0) (.slice none 0 0) _).alloc _)); have et2_R_0 : W0.heap.size ≤ w1.heap.size := (hu2); (try have vt1_R_0_2 := t1_R_0.lt); (try have vt2_R_0_2 := t2_R_0.lt); (with_reducible refine (HC.out _ (below_step zb gb)).mono ?_); rintro e w2 ⟨ng2, a2_, n2_, c2_, p2_, m2_, k2_, rfl, g2, hb2⟩; have gb := below_step gb hb2; have hs2 := hb2.size; (try have t1_R_0 := t1_R_0.to hb2); (try have t2_R_0 := t2_R_0.to hb2); (try have lt1_R_0_2 := t1_R_0.lt); (try have lt2_R_0_2 := t2_R_0.lt); (try (have qt1_R_0 := t1_R_0; obtain ⟨rt1_R_00, rt1_R_01, rt1_R_02, st1_R_00, st1_R_01, st1_R_02⟩ := qt1_R_0)); (try (have qt2_R_0 := t2_R_0; obtain ⟨rt2_R_00, rt2_R_01, rt2_R_02, st2_R_00, st2_R_01, st2_R_02⟩ := qt2_R_0)))
      | (go_at_call 65; (refine calls_gen W0 (by first | with_reducible exact (Below.refl _ _).drew | with_reducible exact (below_new _ _).drew) ?_); intro V1 hV1 hbV1; have hsV1 := hbV1.size; have hu1 := gb.size; have gb := below_step gb hbV1; (try have t1_R_0 : Tri V1 (W0.heap.size) (.bool false) (.slice none 0 0) (.slice none 0 0) := (by rw [hV1]; first | with_reducible exact (tri_new _ (.bool false) (.slice none 0 0) (.slice none 0 0) _).drew | with_reducible exact ((tri_new _ (.bool false) (.slice none 0 0) (.slice none 0 0) _).alloc _).drew)); have et1_R_0 : W0.heap.size ≤ W0.heap.size := (hu1); (try have vt1_R_0_1 := t1_R_0.lt); (with_reducible refine (vm_does _).mono ?_); rintro e w1 ⟨rfl, hb1⟩; have gb := below_step gb hb1; have hs1 := hb1.size; (try have t1_R_0 := t1_R_0.to hb1); (try have lt1_R_0_1 := t1_R_0.lt); (try (have qt1_R_0 := t1_R_0; obtain ⟨rt1_R_00, rt1_R_01, rt1_R_02, st1_R_00, st1_R_01, st1_R_02⟩ := qt1_R_0))))
    all_goals (go_wp2_with fail; go_meet)
    all_goals refine ⟨?_, rfl⟩
    all_goals first
      | (with_reducible exact boxQ_old t1_R_0 g2 (.inl vt1_R_0_2) gb et1_R_0)
      | (with_reducible exact boxQ_old t2_R_0 g2 (.inl vt2_R_0_2) gb et2_R_0)
      | (with_reducible exact boxQ_new g2 gb)
  case rest =>
  obtain ⟨⟨B3, ng2, a2_, n2_, c2_, p2_, m2_, k2_, lo3, hi3, rfl, hB3, T3, g2, hc3⟩, rfl⟩ := hcut
  clear x0_0 y0_0 x0_1 y0_1 x0_2 y0_2 x0_3 y0_3 x0_4 y0_4 x0_5 y0_5 x0_6 y0_6 e0 e1 e2 e3 e4 o0 o1 o2 q0 q1 q2
  have gb := hc3
  obtain ⟨x0_0, x0_1, x0_2, x0_3, x0_4, x0_5, x0_6⟩ := HXW0.out _ gb
  obtain ⟨y0_0, y0_1, y0_2, y0_3, y0_4, y0_5, y0_6⟩ := HYW0.out _ gb
  obtain z0 := HZW0.out _ gb
  obtain ⟨e0, e1, e2, e3, e4⟩ := (i1.to gb)
  obtain ⟨o0, o1, o2, q0, q1, q2⟩ := (i2.to gb)
  have z3 := T3.lt
  obtain ⟨x3_0, x3_1, x3_2, y3_0, y3_1, y3_2⟩ := T3
  clear hgb
  obtain ⟨W1, hW1⟩ : ∃ W, wc = W := ⟨_, rfl⟩
  subst hW1
  replace i0 := i0.to gb
  replace i1 := i1.to gb
  replace i2 := i2.to gb
  replace zb := below_step zb gb
  have HXwc := Lib.hid (show ∀ W', Below wc.heap.size wc W' → (Bx7 W' w.heap.size (.int .i64 6) (.int .i64 (T : Int)) (.int .i64 xa) (.int .i64 xb) (.bool ng) (.slice a0 n0 c0) (.slice a1 n1 c1) ∧ Bx3 W' B3 (.bool ng2) (.slice a2_ n2_ c2_) (.slice p2_ m2_ k2_)) from fun W' hb => by
      refine ⟨bx7 hb ?_ ?_ ?_ ?_ ?_ ?_ ?_ ?_ ?_ ?_ ?_ ?_ ?_ ?_, bx3 hb ?_ ?_ ?_ ?_ ?_ ?_⟩
      all_goals first | assumption | assumption)
  replace gb := Below.refl wc.heap.size wc
  go_wp2_with fail
  obtain ⟨m, hm9⟩ : ∃ m : Nat, ((max (limbs v.num.natAbs).length (limbs v.den).length : Nat)) = m := ⟨_, rfl⟩
  have HM := Lib.hid (show ((max (limbs v.num.natAbs).length (limbs v.den).length : Nat) : Int) = (m : Int) by rw [hm9])
  have hm4 : m ≤ 4096 := by have := Hs.out; unfold szq at this; rw [sz_def, sz_def] at hm9; omega
  have t4 : decide (4096 < m) = false := decide_eq_false (by omega)
  have t5 : decide ((4096 : Int) < (m : Int)) = false := decide_eq_false (by omega)
  clear hm9 hm4
  refine (vm_words ng2 _ _ _ _ _ (g2.to gb).isF (m : Int) HM.out).mono ?_
  clear x0_0 y0_0 x0_1 y0_1 x0_2 y0_2 x0_3 y0_3 x0_4 y0_4 x0_5 y0_5 x0_6 y0_6 x3_0 y3_0 x3_1 y3_1 x3_2 y3_2 e0 e1 e2 e3 e4 o0 o1 o2 q0 q1 q2
  rintro e w3 ⟨rfl, hb3⟩
  replace gb := below_step gb hb3
  obtain ⟨⟨z0, x0_0, x0_1, x0_2, x0_3, x0_4, x0_5, x0_6, y0_0, y0_1, y0_2, y0_3, y0_4, y0_5, y0_6⟩, ⟨z3, x3_0, x3_1, x3_2, y3_0, y3_1, y3_2⟩⟩ := HXwc.out _ gb
  obtain ⟨e0, e1, e2, e3, e4⟩ := (i1.to gb)
  obtain ⟨o0, o1, o2, q0, q1, q2⟩ := (i2.to gb)
  go_wp2_with fail
  go_region
  go_wp2_with fail
  go_ret
  exact ⟨_, _, _, _, rfl, below_step zb gb, (g2.to gb).isK, .inr rfl⟩

set_option maxRecDepth 100000 in
set_option maxHeartbeats 60000000 in
theorem step_val_7 (mB g N : Nat) (u vJ : Value) (rows cols : Int) (T : Nat) (xa xb : Int) (ng : Bool) (vn vd : Value) (ln ld : List Nat) (d0 d1 d2 : Value) {v : Rat}  (w : World) (hw : IsF w vn vd ln ld) (hm : Mach w mB g N u vJ rows cols) (hN : N ≤ 100000) (hT : T < N) (ho : Open3 w g (T * 3) d0 d1 d2) (hs : szq v ≤ 4096) (hcall : ∀ V, Below w.heap.size w V → Calls Tryz.prog 98 #[.pointer (some ⟨mB, 0, none⟩), .agg #[.int .i64 7, .int .i64 (T : Int), .int .i64 xa, .int .i64 xb, .bool ng, vn, vd]] V (GivesQK V v))  :
    Calls Tryz.prog 39 #[.pointer (some ⟨mB, 0, none⟩), .agg #[.int .i64 7, .int .i64 (T : Int), .int .i64 xa, .int .i64 xb, .bool ng, vn, vd]] w (SetTo w g (T * 3) v) := by
  obtain ⟨a0, n0, c0, rfl, H0, hm0⟩ := hw.1.open
  obtain ⟨a1, n1, c1, rfl, H1, hm1⟩ := hw.2.open
  have hTi : (T : Int) < (N : Int) := by omega
  have lm := hm.lt
  have lo := ho.lt
  have Hs := Lib.hid hs
  have HC := Lib.hid hcall
  clear hs hcall
  go_enter Tryz.func39, Tryz.ntmps39
  go_wp2_with fail
  obtain ⟨W0, hW0⟩ : ∃ W0, w.alloc (.cells #[.int .i64 7, .int .i64 (T : Int), .int .i64 xa, .int .i64 xb, .bool ng, .slice a0 n0 c0, .slice a1 n1 c1] 49) = W0 := ⟨_, rfl⟩
  have HXW0 := Lib.hid (show ∀ W', Below W0.heap.size W0 W' → (W'.cell? ⟨w.heap.size, 0, none⟩ = some (.int .i64 7) ∧ W'.cell? ⟨w.heap.size, 1, none⟩ = some (.int .i64 (T : Int)) ∧ W'.cell? ⟨w.heap.size, 2, none⟩ = some (.int .i64 xa) ∧ W'.cell? ⟨w.heap.size, 3, none⟩ = some (.int .i64 xb) ∧ W'.cell? ⟨w.heap.size, 4, none⟩ = some (.bool ng) ∧ W'.cell? ⟨w.heap.size, 5, none⟩ = some (.slice a0 n0 c0) ∧ W'.cell? ⟨w.heap.size, 6, none⟩ = some (.slice a1 n1 c1)) from fun W' hb =>
    by and_intros <;> exact kc hb (by first | assumption | (rw [← hW0]; simp [go_sem])))
  have HYW0 := Lib.hid (show ∀ W', Below W0.heap.size W0 W' → (W'.frozen? ⟨w.heap.size, 0, none⟩ = false ∧ W'.frozen? ⟨w.heap.size, 1, none⟩ = false ∧ W'.frozen? ⟨w.heap.size, 2, none⟩ = false ∧ W'.frozen? ⟨w.heap.size, 3, none⟩ = false ∧ W'.frozen? ⟨w.heap.size, 4, none⟩ = false ∧ W'.frozen? ⟨w.heap.size, 5, none⟩ = false ∧ W'.frozen? ⟨w.heap.size, 6, none⟩ = false) from fun W' hb =>
    ⟨(hb.frozen (p := ⟨w.heap.size, 0, none⟩) (by rw [← hW0]; simp <;> omega)).trans (by rw [← hW0]; simp [go_sem]), (hb.frozen (p := ⟨w.heap.size, 1, none⟩) (by rw [← hW0]; simp <;> omega)).trans (by rw [← hW0]; simp [go_sem]), (hb.frozen (p := ⟨w.heap.size, 2, none⟩) (by rw [← hW0]; simp <;> omega)).trans (by rw [← hW0]; simp [go_sem]), (hb.frozen (p := ⟨w.heap.size, 3, none⟩) (by rw [← hW0]; simp <;> omega)).trans (by rw [← hW0]; simp [go_sem]), (hb.frozen (p := ⟨w.heap.size, 4, none⟩) (by rw [← hW0]; simp <;> omega)).trans (by rw [← hW0]; simp [go_sem]), (hb.frozen (p := ⟨w.heap.size, 5, none⟩) (by rw [← hW0]; simp <;> omega)).trans (by rw [← hW0]; simp [go_sem]), (hb.frozen (p := ⟨w.heap.size, 6, none⟩) (by rw [← hW0]; simp <;> omega)).trans (by rw [← hW0]; simp [go_sem])⟩)
  have HZW0 := Lib.hid (show ∀ W', Below W0.heap.size W0 W' → (w.heap.size < W'.heap.size) from fun W' hb =>
    Nat.lt_of_lt_of_le (by rw [← hW0]; simp <;> omega) hb.size)
  have zb : Below w.heap.size w W0 := by rw [← hW0]; exact below_new _ _
  rw [hW0]
  clear hW0
  have i0 := hw.to zb
  have i1 := hm.to zb
  have i2 := ho.to zb
  have gb : Below W0.heap.size W0 W0 := Below.refl _ _
  obtain ⟨x0_0, x0_1, x0_2, x0_3, x0_4, x0_5, x0_6⟩ := HXW0.out _ gb
  obtain ⟨y0_0, y0_1, y0_2, y0_3, y0_4, y0_5, y0_6⟩ := HYW0.out _ gb
  obtain z0 := HZW0.out _ gb
  obtain ⟨e0, e1, e2, e3, e4⟩ := (i1.to gb)
  obtain ⟨o0, o1, o2, q0, q1, q2⟩ := (i2.to gb)
  go_wp2_with fail
  have htab := tab_7
  have hgb := gb
  go_upto_region 4 with fail
  go_cut [5, 6] from 28 (fun s5 s6 wx => BoxQ W0 (v) s5 wx ∧ s6 = .int .i64 0)
  case first =>
    go_region_held3 (fun W' => W'.cell? ⟨w.heap.size, 0, none⟩ = some (.int .i64 7) ∧ W'.cell? ⟨w.heap.size, 1, none⟩ = some (.int .i64 (T : Int)) ∧ W'.cell? ⟨w.heap.size, 2, none⟩ = some (.int .i64 xa) ∧ W'.cell? ⟨w.heap.size, 3, none⟩ = some (.int .i64 xb) ∧ W'.cell? ⟨w.heap.size, 4, none⟩ = some (.bool ng) ∧ W'.cell? ⟨w.heap.size, 5, none⟩ = some (.slice a0 n0 c0) ∧ W'.cell? ⟨w.heap.size, 6, none⟩ = some (.slice a1 n1 c1)) (first | (with_reducible exact HXW0.out _ gb) | ((with_reducible refine HXW0.out _ ?_); first | ((with_reducible refine Below.drew ?_); first | (with_reducible exact gb) | ((with_reducible refine below_set3 ?_ ?_ _ _ _); rotate_left; (first | (with_reducible exact et1_R_0) | (with_reducible exact et2_R_0)); with_reducible exact gb) | ((with_reducible refine below_step ?_ (below_new _ _)); with_reducible exact gb)) | (first | (with_reducible exact gb) | ((with_reducible refine below_set3 ?_ ?_ _ _ _); rotate_left; (first | (with_reducible exact et1_R_0) | (with_reducible exact et2_R_0)); first | (with_reducible exact gb) | ((with_reducible refine below_set3 ?_ ?_ _ _ _); rotate_left; (first | (with_reducible exact et1_R_0) | (with_reducible exact et2_R_0)); with_reducible exact gb) | ((with_reducible refine below_step ?_ (below_new _ _)); with_reducible exact gb)) | ((with_reducible refine below_step ?_ (below_new _ _)); first | (with_reducible exact gb) | ((with_reducible refine below_set3 ?_ ?_ _ _ _); rotate_left; (first | (with_reducible exact et1_R_0) | (with_reducible exact et2_R_0)); with_reducible exact gb) | ((with_reducible refine below_step ?_ (below_new _ _)); with_reducible exact gb))))) (first
      | (go_at_call 98; (refine calls_gen w1 (by first | with_reducible exact Below.refl _ _ | with_reducible exact below_new _ _) ?_); intro V2 hV2 hbV2; have hsV2 := hbV2.size; have hu2 := gb.size; have gb := below_step gb hbV2; (try have t1_R_0 := t1_R_0.to hbV2); (try have t2_R_0 : Tri V2 (w1.heap.size) (.bool false) (.slice none 0 0) (.slice none 0 0) := (by rw [hV2]; first | with_reducible exact tri_new _ (.bool false) (.slice none 0 0) (.slice none 0 0) _ | with_reducible exact (tri_new _ (.bool false) (.slice none 0 0) (.slice none 0 0) _).alloc _)); have et2_R_0 : W0.heap.size ≤ w1.heap.size := (hu2); (try have vt1_R_0_2 := t1_R_0.lt); (try have vt2_R_0_2 := t2_R_0.lt); (with_reducible refine (HC.out _ (below_step zb gb)).mono ?_); rintro e w2 ⟨ng2, a2_, n2_, c2_, p2_, m2_, k2_, rfl, g2, hb2⟩; have gb := below_step gb hb2; have hs2 := hb2.size; (try have t1_R_0 := t1_R_0.to hb2); (try have t2_R_0 := t2_R_0.to hb2); (try have lt1_R_0_2 := t1_R_0.lt); (try have lt2_R_0_2 := t2_R_0.lt); (try (have qt1_R_0 := t1_R_0; obtain ⟨rt1_R_00, rt1_R_01, rt1_R_02, st1_R_00, st1_R_01, st1_R_02⟩ := qt1_R_0)); (try (have qt2_R_0 := t2_R_0; obtain ⟨rt2_R_00, rt2_R_01, rt2_R_02, st2_R_00, st2_R_01, st2_R_02⟩ := qt2_R_0)))
      | (go_at_call 65; (refine calls_gen W0 (by first | with_reducible exact (Below.refl _ _).drew | with_reducible exact (below_new _ _).drew) ?_); intro V1 hV1 hbV1; have hsV1 := hbV1.size; have hu1 := gb.size; have gb := below_step gb hbV1; (try have t1_R_0 : Tri V1 (W0.heap.size) (.bool false) (.slice none 0 0) (.slice none 0 0) := (by rw [hV1]; first | with_reducible exact (tri_new _ (.bool false) (.slice none 0 0) (.slice none 0 0) _).drew | with_reducible exact ((tri_new _ (.bool false) (.slice none 0 0) (.slice none 0 0) _).alloc _).drew)); have et1_R_0 : W0.heap.size ≤ W0.heap.size := (hu1); (try have vt1_R_0_1 := t1_R_0.lt); (with_reducible refine (vm_does _).mono ?_); rintro e w1 ⟨rfl, hb1⟩; have gb := below_step gb hb1; have hs1 := hb1.size; (try have t1_R_0 := t1_R_0.to hb1); (try have lt1_R_0_1 := t1_R_0.lt); (try (have qt1_R_0 := t1_R_0; obtain ⟨rt1_R_00, rt1_R_01, rt1_R_02, st1_R_00, st1_R_01, st1_R_02⟩ := qt1_R_0))))
    all_goals (go_wp2_with fail; go_meet)
    all_goals refine ⟨?_, rfl⟩
    all_goals first
      | (with_reducible exact boxQ_old t1_R_0 g2 (.inl vt1_R_0_2) gb et1_R_0)
      | (with_reducible exact boxQ_old t2_R_0 g2 (.inl vt2_R_0_2) gb et2_R_0)
      | (with_reducible exact boxQ_new g2 gb)
  case rest =>
  obtain ⟨⟨B3, ng2, a2_, n2_, c2_, p2_, m2_, k2_, lo3, hi3, rfl, hB3, T3, g2, hc3⟩, rfl⟩ := hcut
  clear x0_0 y0_0 x0_1 y0_1 x0_2 y0_2 x0_3 y0_3 x0_4 y0_4 x0_5 y0_5 x0_6 y0_6 e0 e1 e2 e3 e4 o0 o1 o2 q0 q1 q2
  have gb := hc3
  obtain ⟨x0_0, x0_1, x0_2, x0_3, x0_4, x0_5, x0_6⟩ := HXW0.out _ gb
  obtain ⟨y0_0, y0_1, y0_2, y0_3, y0_4, y0_5, y0_6⟩ := HYW0.out _ gb
  obtain z0 := HZW0.out _ gb
  obtain ⟨e0, e1, e2, e3, e4⟩ := (i1.to gb)
  obtain ⟨o0, o1, o2, q0, q1, q2⟩ := (i2.to gb)
  have z3 := T3.lt
  obtain ⟨x3_0, x3_1, x3_2, y3_0, y3_1, y3_2⟩ := T3
  clear hgb
  obtain ⟨W1, hW1⟩ : ∃ W, wc = W := ⟨_, rfl⟩
  subst hW1
  replace i0 := i0.to gb
  replace i1 := i1.to gb
  replace i2 := i2.to gb
  replace zb := below_step zb gb
  have HXwc := Lib.hid (show ∀ W', Below wc.heap.size wc W' → (Bx7 W' w.heap.size (.int .i64 7) (.int .i64 (T : Int)) (.int .i64 xa) (.int .i64 xb) (.bool ng) (.slice a0 n0 c0) (.slice a1 n1 c1) ∧ Bx3 W' B3 (.bool ng2) (.slice a2_ n2_ c2_) (.slice p2_ m2_ k2_)) from fun W' hb => by
      refine ⟨bx7 hb ?_ ?_ ?_ ?_ ?_ ?_ ?_ ?_ ?_ ?_ ?_ ?_ ?_ ?_, bx3 hb ?_ ?_ ?_ ?_ ?_ ?_⟩
      all_goals first | assumption | assumption)
  replace gb := Below.refl wc.heap.size wc
  go_wp2_with fail
  obtain ⟨m, hm9⟩ : ∃ m : Nat, ((max (limbs v.num.natAbs).length (limbs v.den).length : Nat)) = m := ⟨_, rfl⟩
  have HM := Lib.hid (show ((max (limbs v.num.natAbs).length (limbs v.den).length : Nat) : Int) = (m : Int) by rw [hm9])
  have hm4 : m ≤ 4096 := by have := Hs.out; unfold szq at this; rw [sz_def, sz_def] at hm9; omega
  have t4 : decide (4096 < m) = false := decide_eq_false (by omega)
  have t5 : decide ((4096 : Int) < (m : Int)) = false := decide_eq_false (by omega)
  clear hm9 hm4
  refine (vm_words ng2 _ _ _ _ _ (g2.to gb).isF (m : Int) HM.out).mono ?_
  clear x0_0 y0_0 x0_1 y0_1 x0_2 y0_2 x0_3 y0_3 x0_4 y0_4 x0_5 y0_5 x0_6 y0_6 x3_0 y3_0 x3_1 y3_1 x3_2 y3_2 e0 e1 e2 e3 e4 o0 o1 o2 q0 q1 q2
  rintro e w3 ⟨rfl, hb3⟩
  replace gb := below_step gb hb3
  obtain ⟨⟨z0, x0_0, x0_1, x0_2, x0_3, x0_4, x0_5, x0_6, y0_0, y0_1, y0_2, y0_3, y0_4, y0_5, y0_6⟩, ⟨z3, x3_0, x3_1, x3_2, y3_0, y3_1, y3_2⟩⟩ := HXwc.out _ gb
  obtain ⟨e0, e1, e2, e3, e4⟩ := (i1.to gb)
  obtain ⟨o0, o1, o2, q0, q1, q2⟩ := (i2.to gb)
  go_wp2_with fail
  go_region
  go_wp2_with fail
  go_ret
  exact ⟨_, _, _, _, rfl, below_step zb gb, (g2.to gb).isK, .inr rfl⟩

set_option maxRecDepth 100000 in
set_option maxHeartbeats 60000000 in
theorem step_val_8 (mB g N : Nat) (u vJ : Value) (rows cols : Int) (T : Nat) (xa xb : Int) (ng : Bool) (vn vd : Value) (ln ld : List Nat) (d0 d1 d2 : Value) {v : Rat}  (w : World) (hw : IsF w vn vd ln ld) (hm : Mach w mB g N u vJ rows cols) (hN : N ≤ 100000) (hT : T < N) (ho : Open3 w g (T * 3) d0 d1 d2) (hs : szq v ≤ 4096) (hcall : ∀ V, Below w.heap.size w V → Calls Tryz.prog 95 #[.pointer (some ⟨mB, 0, none⟩), .agg #[.int .i64 8, .int .i64 (T : Int), .int .i64 xa, .int .i64 xb, .bool ng, vn, vd]] V (GivesQK V v))  :
    Calls Tryz.prog 39 #[.pointer (some ⟨mB, 0, none⟩), .agg #[.int .i64 8, .int .i64 (T : Int), .int .i64 xa, .int .i64 xb, .bool ng, vn, vd]] w (SetTo w g (T * 3) v) := by
  obtain ⟨a0, n0, c0, rfl, H0, hm0⟩ := hw.1.open
  obtain ⟨a1, n1, c1, rfl, H1, hm1⟩ := hw.2.open
  have hTi : (T : Int) < (N : Int) := by omega
  have lm := hm.lt
  have lo := ho.lt
  have Hs := Lib.hid hs
  have HC := Lib.hid hcall
  clear hs hcall
  go_enter Tryz.func39, Tryz.ntmps39
  go_wp2_with fail
  obtain ⟨W0, hW0⟩ : ∃ W0, w.alloc (.cells #[.int .i64 8, .int .i64 (T : Int), .int .i64 xa, .int .i64 xb, .bool ng, .slice a0 n0 c0, .slice a1 n1 c1] 49) = W0 := ⟨_, rfl⟩
  have HXW0 := Lib.hid (show ∀ W', Below W0.heap.size W0 W' → (W'.cell? ⟨w.heap.size, 0, none⟩ = some (.int .i64 8) ∧ W'.cell? ⟨w.heap.size, 1, none⟩ = some (.int .i64 (T : Int)) ∧ W'.cell? ⟨w.heap.size, 2, none⟩ = some (.int .i64 xa) ∧ W'.cell? ⟨w.heap.size, 3, none⟩ = some (.int .i64 xb) ∧ W'.cell? ⟨w.heap.size, 4, none⟩ = some (.bool ng) ∧ W'.cell? ⟨w.heap.size, 5, none⟩ = some (.slice a0 n0 c0) ∧ W'.cell? ⟨w.heap.size, 6, none⟩ = some (.slice a1 n1 c1)) from fun W' hb =>
    by and_intros <;> exact kc hb (by first | assumption | (rw [← hW0]; simp [go_sem])))
  have HYW0 := Lib.hid (show ∀ W', Below W0.heap.size W0 W' → (W'.frozen? ⟨w.heap.size, 0, none⟩ = false ∧ W'.frozen? ⟨w.heap.size, 1, none⟩ = false ∧ W'.frozen? ⟨w.heap.size, 2, none⟩ = false ∧ W'.frozen? ⟨w.heap.size, 3, none⟩ = false ∧ W'.frozen? ⟨w.heap.size, 4, none⟩ = false ∧ W'.frozen? ⟨w.heap.size, 5, none⟩ = false ∧ W'.frozen? ⟨w.heap.size, 6, none⟩ = false) from fun W' hb =>
    ⟨(hb.frozen (p := ⟨w.heap.size, 0, none⟩) (by rw [← hW0]; simp <;> omega)).trans (by rw [← hW0]; simp [go_sem]), (hb.frozen (p := ⟨w.heap.size, 1, none⟩) (by rw [← hW0]; simp <;> omega)).trans (by rw [← hW0]; simp [go_sem]), (hb.frozen (p := ⟨w.heap.size, 2, none⟩) (by rw [← hW0]; simp <;> omega)).trans (by rw [← hW0]; simp [go_sem]), (hb.frozen (p := ⟨w.heap.size, 3, none⟩) (by rw [← hW0]; simp <;> omega)).trans (by rw [← hW0]; simp [go_sem]), (hb.frozen (p := ⟨w.heap.size, 4, none⟩) (by rw [← hW0]; simp <;> omega)).trans (by rw [← hW0]; simp [go_sem]), (hb.frozen (p := ⟨w.heap.size, 5, none⟩) (by rw [← hW0]; simp <;> omega)).trans (by rw [← hW0]; simp [go_sem]), (hb.frozen (p := ⟨w.heap.size, 6, none⟩) (by rw [← hW0]; simp <;> omega)).trans (by rw [← hW0]; simp [go_sem])⟩)
  have HZW0 := Lib.hid (show ∀ W', Below W0.heap.size W0 W' → (w.heap.size < W'.heap.size) from fun W' hb =>
    Nat.lt_of_lt_of_le (by rw [← hW0]; simp <;> omega) hb.size)
  have zb : Below w.heap.size w W0 := by rw [← hW0]; exact below_new _ _
  rw [hW0]
  clear hW0
  have i0 := hw.to zb
  have i1 := hm.to zb
  have i2 := ho.to zb
  have gb : Below W0.heap.size W0 W0 := Below.refl _ _
  obtain ⟨x0_0, x0_1, x0_2, x0_3, x0_4, x0_5, x0_6⟩ := HXW0.out _ gb
  obtain ⟨y0_0, y0_1, y0_2, y0_3, y0_4, y0_5, y0_6⟩ := HYW0.out _ gb
  obtain z0 := HZW0.out _ gb
  obtain ⟨e0, e1, e2, e3, e4⟩ := (i1.to gb)
  obtain ⟨o0, o1, o2, q0, q1, q2⟩ := (i2.to gb)
  go_wp2_with fail
  have htab := tab_8
  have hgb := gb
  go_upto_region 4 with fail
  go_cut [5, 6] from 28 (fun s5 s6 wx => BoxQ W0 (v) s5 wx ∧ s6 = .int .i64 0)
  case first =>
    go_region_held3 (fun W' => W'.cell? ⟨w.heap.size, 0, none⟩ = some (.int .i64 8) ∧ W'.cell? ⟨w.heap.size, 1, none⟩ = some (.int .i64 (T : Int)) ∧ W'.cell? ⟨w.heap.size, 2, none⟩ = some (.int .i64 xa) ∧ W'.cell? ⟨w.heap.size, 3, none⟩ = some (.int .i64 xb) ∧ W'.cell? ⟨w.heap.size, 4, none⟩ = some (.bool ng) ∧ W'.cell? ⟨w.heap.size, 5, none⟩ = some (.slice a0 n0 c0) ∧ W'.cell? ⟨w.heap.size, 6, none⟩ = some (.slice a1 n1 c1)) (first | (with_reducible exact HXW0.out _ gb) | ((with_reducible refine HXW0.out _ ?_); first | ((with_reducible refine Below.drew ?_); first | (with_reducible exact gb) | ((with_reducible refine below_set3 ?_ ?_ _ _ _); rotate_left; (first | (with_reducible exact et1_R_0) | (with_reducible exact et2_R_0)); with_reducible exact gb) | ((with_reducible refine below_step ?_ (below_new _ _)); with_reducible exact gb)) | (first | (with_reducible exact gb) | ((with_reducible refine below_set3 ?_ ?_ _ _ _); rotate_left; (first | (with_reducible exact et1_R_0) | (with_reducible exact et2_R_0)); first | (with_reducible exact gb) | ((with_reducible refine below_set3 ?_ ?_ _ _ _); rotate_left; (first | (with_reducible exact et1_R_0) | (with_reducible exact et2_R_0)); with_reducible exact gb) | ((with_reducible refine below_step ?_ (below_new _ _)); with_reducible exact gb)) | ((with_reducible refine below_step ?_ (below_new _ _)); first | (with_reducible exact gb) | ((with_reducible refine below_set3 ?_ ?_ _ _ _); rotate_left; (first | (with_reducible exact et1_R_0) | (with_reducible exact et2_R_0)); with_reducible exact gb) | ((with_reducible refine below_step ?_ (below_new _ _)); with_reducible exact gb))))) (first
      | (go_at_call 95; (refine calls_gen w1 (by first | with_reducible exact Below.refl _ _ | with_reducible exact below_new _ _) ?_); intro V2 hV2 hbV2; have hsV2 := hbV2.size; have hu2 := gb.size; have gb := below_step gb hbV2; (try have t1_R_0 := t1_R_0.to hbV2); (try have t2_R_0 : Tri V2 (w1.heap.size) (.bool false) (.slice none 0 0) (.slice none 0 0) := (by rw [hV2]; first | with_reducible exact tri_new _ (.bool false) (.slice none 0 0) (.slice none 0 0) _ | with_reducible exact (tri_new _ (.bool false) (.slice none 0 0) (.slice none 0 0) _).alloc _)); have et2_R_0 : W0.heap.size ≤ w1.heap.size := (hu2); (try have vt1_R_0_2 := t1_R_0.lt); (try have vt2_R_0_2 := t2_R_0.lt); (with_reducible refine (HC.out _ (below_step zb gb)).mono ?_); rintro e w2 ⟨ng2, a2_, n2_, c2_, p2_, m2_, k2_, rfl, g2, hb2⟩; have gb := below_step gb hb2; have hs2 := hb2.size; (try have t1_R_0 := t1_R_0.to hb2); (try have t2_R_0 := t2_R_0.to hb2); (try have lt1_R_0_2 := t1_R_0.lt); (try have lt2_R_0_2 := t2_R_0.lt); (try (have qt1_R_0 := t1_R_0; obtain ⟨rt1_R_00, rt1_R_01, rt1_R_02, st1_R_00, st1_R_01, st1_R_02⟩ := qt1_R_0)); (try (have qt2_R_0 := t2_R_0; obtain ⟨rt2_R_00, rt2_R_01, rt2_R_02, st2_R_00, st2_R_01, st2_R_02⟩ := qt2_R_0)))
      | (go_at_call 65; (refine calls_gen W0 (by first | with_reducible exact (Below.refl _ _).drew | with_reducible exact (below_new _ _).drew) ?_); intro V1 hV1 hbV1; have hsV1 := hbV1.size; have hu1 := gb.size; have gb := below_step gb hbV1; (try have t1_R_0 : Tri V1 (W0.heap.size) (.bool false) (.slice none 0 0) (.slice none 0 0) := (by rw [hV1]; first | with_reducible exact (tri_new _ (.bool false) (.slice none 0 0) (.slice none 0 0) _).drew | with_reducible exact ((tri_new _ (.bool false) (.slice none 0 0) (.slice none 0 0) _).alloc _).drew)); have et1_R_0 : W0.heap.size ≤ W0.heap.size := (hu1); (try have vt1_R_0_1 := t1_R_0.lt); (with_reducible refine (vm_does _).mono ?_); rintro e w1 ⟨rfl, hb1⟩; have gb := below_step gb hb1; have hs1 := hb1.size; (try have t1_R_0 := t1_R_0.to hb1); (try have lt1_R_0_1 := t1_R_0.lt); (try (have qt1_R_0 := t1_R_0; obtain ⟨rt1_R_00, rt1_R_01, rt1_R_02, st1_R_00, st1_R_01, st1_R_02⟩ := qt1_R_0))))
    all_goals (go_wp2_with fail; go_meet)
    all_goals refine ⟨?_, rfl⟩
    all_goals first
      | (with_reducible exact boxQ_old t1_R_0 g2 (.inl vt1_R_0_2) gb et1_R_0)
      | (with_reducible exact boxQ_old t2_R_0 g2 (.inl vt2_R_0_2) gb et2_R_0)
      | (with_reducible exact boxQ_new g2 gb)
  case rest =>
  obtain ⟨⟨B3, ng2, a2_, n2_, c2_, p2_, m2_, k2_, lo3, hi3, rfl, hB3, T3, g2, hc3⟩, rfl⟩ := hcut
  clear x0_0 y0_0 x0_1 y0_1 x0_2 y0_2 x0_3 y0_3 x0_4 y0_4 x0_5 y0_5 x0_6 y0_6 e0 e1 e2 e3 e4 o0 o1 o2 q0 q1 q2
  have gb := hc3
  obtain ⟨x0_0, x0_1, x0_2, x0_3, x0_4, x0_5, x0_6⟩ := HXW0.out _ gb
  obtain ⟨y0_0, y0_1, y0_2, y0_3, y0_4, y0_5, y0_6⟩ := HYW0.out _ gb
  obtain z0 := HZW0.out _ gb
  obtain ⟨e0, e1, e2, e3, e4⟩ := (i1.to gb)
  obtain ⟨o0, o1, o2, q0, q1, q2⟩ := (i2.to gb)
  have z3 := T3.lt
  obtain ⟨x3_0, x3_1, x3_2, y3_0, y3_1, y3_2⟩ := T3
  clear hgb
  obtain ⟨W1, hW1⟩ : ∃ W, wc = W := ⟨_, rfl⟩
  subst hW1
  replace i0 := i0.to gb
  replace i1 := i1.to gb
  replace i2 := i2.to gb
  replace zb := below_step zb gb
  have HXwc := Lib.hid (show ∀ W', Below wc.heap.size wc W' → (Bx7 W' w.heap.size (.int .i64 8) (.int .i64 (T : Int)) (.int .i64 xa) (.int .i64 xb) (.bool ng) (.slice a0 n0 c0) (.slice a1 n1 c1) ∧ Bx3 W' B3 (.bool ng2) (.slice a2_ n2_ c2_) (.slice p2_ m2_ k2_)) from fun W' hb => by
      refine ⟨bx7 hb ?_ ?_ ?_ ?_ ?_ ?_ ?_ ?_ ?_ ?_ ?_ ?_ ?_ ?_, bx3 hb ?_ ?_ ?_ ?_ ?_ ?_⟩
      all_goals first | assumption | assumption)
  replace gb := Below.refl wc.heap.size wc
  go_wp2_with fail
  obtain ⟨m, hm9⟩ : ∃ m : Nat, ((max (limbs v.num.natAbs).length (limbs v.den).length : Nat)) = m := ⟨_, rfl⟩
  have HM := Lib.hid (show ((max (limbs v.num.natAbs).length (limbs v.den).length : Nat) : Int) = (m : Int) by rw [hm9])
  have hm4 : m ≤ 4096 := by have := Hs.out; unfold szq at this; rw [sz_def, sz_def] at hm9; omega
  have t4 : decide (4096 < m) = false := decide_eq_false (by omega)
  have t5 : decide ((4096 : Int) < (m : Int)) = false := decide_eq_false (by omega)
  clear hm9 hm4
  refine (vm_words ng2 _ _ _ _ _ (g2.to gb).isF (m : Int) HM.out).mono ?_
  clear x0_0 y0_0 x0_1 y0_1 x0_2 y0_2 x0_3 y0_3 x0_4 y0_4 x0_5 y0_5 x0_6 y0_6 x3_0 y3_0 x3_1 y3_1 x3_2 y3_2 e0 e1 e2 e3 e4 o0 o1 o2 q0 q1 q2
  rintro e w3 ⟨rfl, hb3⟩
  replace gb := below_step gb hb3
  obtain ⟨⟨z0, x0_0, x0_1, x0_2, x0_3, x0_4, x0_5, x0_6, y0_0, y0_1, y0_2, y0_3, y0_4, y0_5, y0_6⟩, ⟨z3, x3_0, x3_1, x3_2, y3_0, y3_1, y3_2⟩⟩ := HXwc.out _ gb
  obtain ⟨e0, e1, e2, e3, e4⟩ := (i1.to gb)
  obtain ⟨o0, o1, o2, q0, q1, q2⟩ := (i2.to gb)
  go_wp2_with fail
  go_region
  go_wp2_with fail
  go_ret
  exact ⟨_, _, _, _, rfl, below_step zb gb, (g2.to gb).isK, .inr rfl⟩

set_option maxRecDepth 100000 in
set_option maxHeartbeats 60000000 in
theorem step_val_9 (mB g N : Nat) (u vJ : Value) (rows cols : Int) (T : Nat) (xa xb : Int) (ng : Bool) (vn vd : Value) (ln ld : List Nat) (d0 d1 d2 : Value) {v : Rat}  (w : World) (hw : IsF w vn vd ln ld) (hm : Mach w mB g N u vJ rows cols) (hN : N ≤ 100000) (hT : T < N) (ho : Open3 w g (T * 3) d0 d1 d2) (hs : szq v ≤ 4096) (hcall : ∀ V, Below w.heap.size w V → Calls Tryz.prog 93 #[.pointer (some ⟨mB, 0, none⟩), .agg #[.int .i64 9, .int .i64 (T : Int), .int .i64 xa, .int .i64 xb, .bool ng, vn, vd]] V (GivesQK V v))  :
    Calls Tryz.prog 39 #[.pointer (some ⟨mB, 0, none⟩), .agg #[.int .i64 9, .int .i64 (T : Int), .int .i64 xa, .int .i64 xb, .bool ng, vn, vd]] w (SetTo w g (T * 3) v) := by
  obtain ⟨a0, n0, c0, rfl, H0, hm0⟩ := hw.1.open
  obtain ⟨a1, n1, c1, rfl, H1, hm1⟩ := hw.2.open
  have hTi : (T : Int) < (N : Int) := by omega
  have lm := hm.lt
  have lo := ho.lt
  have Hs := Lib.hid hs
  have HC := Lib.hid hcall
  clear hs hcall
  go_enter Tryz.func39, Tryz.ntmps39
  go_wp2_with fail
  obtain ⟨W0, hW0⟩ : ∃ W0, w.alloc (.cells #[.int .i64 9, .int .i64 (T : Int), .int .i64 xa, .int .i64 xb, .bool ng, .slice a0 n0 c0, .slice a1 n1 c1] 49) = W0 := ⟨_, rfl⟩
  have HXW0 := Lib.hid (show ∀ W', Below W0.heap.size W0 W' → (W'.cell? ⟨w.heap.size, 0, none⟩ = some (.int .i64 9) ∧ W'.cell? ⟨w.heap.size, 1, none⟩ = some (.int .i64 (T : Int)) ∧ W'.cell? ⟨w.heap.size, 2, none⟩ = some (.int .i64 xa) ∧ W'.cell? ⟨w.heap.size, 3, none⟩ = some (.int .i64 xb) ∧ W'.cell? ⟨w.heap.size, 4, none⟩ = some (.bool ng) ∧ W'.cell? ⟨w.heap.size, 5, none⟩ = some (.slice a0 n0 c0) ∧ W'.cell? ⟨w.heap.size, 6, none⟩ = some (.slice a1 n1 c1)) from fun W' hb =>
    by and_intros <;> exact kc hb (by first | assumption | (rw [← hW0]; simp [go_sem])))
  have HYW0 := Lib.hid (show ∀ W', Below W0.heap.size W0 W' → (W'.frozen? ⟨w.heap.size, 0, none⟩ = false ∧ W'.frozen? ⟨w.heap.size, 1, none⟩ = false ∧ W'.frozen? ⟨w.heap.size, 2, none⟩ = false ∧ W'.frozen? ⟨w.heap.size, 3, none⟩ = false ∧ W'.frozen? ⟨w.heap.size, 4, none⟩ = false ∧ W'.frozen? ⟨w.heap.size, 5, none⟩ = false ∧ W'.frozen? ⟨w.heap.size, 6, none⟩ = false) from fun W' hb =>
    ⟨(hb.frozen (p := ⟨w.heap.size, 0, none⟩) (by rw [← hW0]; simp <;> omega)).trans (by rw [← hW0]; simp [go_sem]), (hb.frozen (p := ⟨w.heap.size, 1, none⟩) (by rw [← hW0]; simp <;> omega)).trans (by rw [← hW0]; simp [go_sem]), (hb.frozen (p := ⟨w.heap.size, 2, none⟩) (by rw [← hW0]; simp <;> omega)).trans (by rw [← hW0]; simp [go_sem]), (hb.frozen (p := ⟨w.heap.size, 3, none⟩) (by rw [← hW0]; simp <;> omega)).trans (by rw [← hW0]; simp [go_sem]), (hb.frozen (p := ⟨w.heap.size, 4, none⟩) (by rw [← hW0]; simp <;> omega)).trans (by rw [← hW0]; simp [go_sem]), (hb.frozen (p := ⟨w.heap.size, 5, none⟩) (by rw [← hW0]; simp <;> omega)).trans (by rw [← hW0]; simp [go_sem]), (hb.frozen (p := ⟨w.heap.size, 6, none⟩) (by rw [← hW0]; simp <;> omega)).trans (by rw [← hW0]; simp [go_sem])⟩)
  have HZW0 := Lib.hid (show ∀ W', Below W0.heap.size W0 W' → (w.heap.size < W'.heap.size) from fun W' hb =>
    Nat.lt_of_lt_of_le (by rw [← hW0]; simp <;> omega) hb.size)
  have zb : Below w.heap.size w W0 := by rw [← hW0]; exact below_new _ _
  rw [hW0]
  clear hW0
  have i0 := hw.to zb
  have i1 := hm.to zb
  have i2 := ho.to zb
  have gb : Below W0.heap.size W0 W0 := Below.refl _ _
  obtain ⟨x0_0, x0_1, x0_2, x0_3, x0_4, x0_5, x0_6⟩ := HXW0.out _ gb
  obtain ⟨y0_0, y0_1, y0_2, y0_3, y0_4, y0_5, y0_6⟩ := HYW0.out _ gb
  obtain z0 := HZW0.out _ gb
  obtain ⟨e0, e1, e2, e3, e4⟩ := (i1.to gb)
  obtain ⟨o0, o1, o2, q0, q1, q2⟩ := (i2.to gb)
  go_wp2_with fail
  have htab := tab_9
  have hgb := gb
  go_upto_region 4 with fail
  go_cut [5, 6] from 28 (fun s5 s6 wx => BoxQ W0 (v) s5 wx ∧ s6 = .int .i64 0)
  case first =>
    go_region_held3 (fun W' => W'.cell? ⟨w.heap.size, 0, none⟩ = some (.int .i64 9) ∧ W'.cell? ⟨w.heap.size, 1, none⟩ = some (.int .i64 (T : Int)) ∧ W'.cell? ⟨w.heap.size, 2, none⟩ = some (.int .i64 xa) ∧ W'.cell? ⟨w.heap.size, 3, none⟩ = some (.int .i64 xb) ∧ W'.cell? ⟨w.heap.size, 4, none⟩ = some (.bool ng) ∧ W'.cell? ⟨w.heap.size, 5, none⟩ = some (.slice a0 n0 c0) ∧ W'.cell? ⟨w.heap.size, 6, none⟩ = some (.slice a1 n1 c1)) (first | (with_reducible exact HXW0.out _ gb) | ((with_reducible refine HXW0.out _ ?_); first | ((with_reducible refine Below.drew ?_); first | (with_reducible exact gb) | ((with_reducible refine below_set3 ?_ ?_ _ _ _); rotate_left; (first | (with_reducible exact et1_R_0) | (with_reducible exact et2_R_0)); with_reducible exact gb) | ((with_reducible refine below_step ?_ (below_new _ _)); with_reducible exact gb)) | (first | (with_reducible exact gb) | ((with_reducible refine below_set3 ?_ ?_ _ _ _); rotate_left; (first | (with_reducible exact et1_R_0) | (with_reducible exact et2_R_0)); first | (with_reducible exact gb) | ((with_reducible refine below_set3 ?_ ?_ _ _ _); rotate_left; (first | (with_reducible exact et1_R_0) | (with_reducible exact et2_R_0)); with_reducible exact gb) | ((with_reducible refine below_step ?_ (below_new _ _)); with_reducible exact gb)) | ((with_reducible refine below_step ?_ (below_new _ _)); first | (with_reducible exact gb) | ((with_reducible refine below_set3 ?_ ?_ _ _ _); rotate_left; (first | (with_reducible exact et1_R_0) | (with_reducible exact et2_R_0)); with_reducible exact gb) | ((with_reducible refine below_step ?_ (below_new _ _)); with_reducible exact gb))))) (first
      | (go_at_call 93; (refine calls_gen w1 (by first | with_reducible exact Below.refl _ _ | with_reducible exact below_new _ _) ?_); intro V2 hV2 hbV2; have hsV2 := hbV2.size; have hu2 := gb.size; have gb := below_step gb hbV2; (try have t1_R_0 := t1_R_0.to hbV2); (try have t2_R_0 : Tri V2 (w1.heap.size) (.bool false) (.slice none 0 0) (.slice none 0 0) := (by rw [hV2]; first | with_reducible exact tri_new _ (.bool false) (.slice none 0 0) (.slice none 0 0) _ | with_reducible exact (tri_new _ (.bool false) (.slice none 0 0) (.slice none 0 0) _).alloc _)); have et2_R_0 : W0.heap.size ≤ w1.heap.size := (hu2); (try have vt1_R_0_2 := t1_R_0.lt); (try have vt2_R_0_2 := t2_R_0.lt); (with_reducible refine (HC.out _ (below_step zb gb)).mono ?_); rintro e w2 ⟨ng2, a2_, n2_, c2_, p2_, m2_, k2_, rfl, g2, hb2⟩; have gb := below_step gb hb2; have hs2 := hb2.size; (try have t1_R_0 := t1_R_0.to hb2); (try have t2_R_0 := t2_R_0.to hb2); (try have lt1_R_0_2 := t1_R_0.lt); (try have lt2_R_0_2 := t2_R_0.lt); (try (have qt1_R_0 := t1_R_0; obtain ⟨rt1_R_00, rt1_R_01, rt1_R_02, st1_R_00, st1_R_01, st1_R_02⟩ := qt1_R_0)); (try (have qt2_R_0 := t2_R_0; obtain ⟨rt2_R_00, rt2_R_01, rt2_R_02, st2_R_00, st2_R_01, st2_R_02⟩ := qt2_R_0)))
      | (go_at_call 65; (refine calls_gen W0 (by first | with_reducible exact (Below.refl _ _).drew | with_reducible exact (below_new _ _).drew) ?_); intro V1 hV1 hbV1; have hsV1 := hbV1.size; have hu1 := gb.size; have gb := below_step gb hbV1; (try have t1_R_0 : Tri V1 (W0.heap.size) (.bool false) (.slice none 0 0) (.slice none 0 0) := (by rw [hV1]; first | with_reducible exact (tri_new _ (.bool false) (.slice none 0 0) (.slice none 0 0) _).drew | with_reducible exact ((tri_new _ (.bool false) (.slice none 0 0) (.slice none 0 0) _).alloc _).drew)); have et1_R_0 : W0.heap.size ≤ W0.heap.size := (hu1); (try have vt1_R_0_1 := t1_R_0.lt); (with_reducible refine (vm_does _).mono ?_); rintro e w1 ⟨rfl, hb1⟩; have gb := below_step gb hb1; have hs1 := hb1.size; (try have t1_R_0 := t1_R_0.to hb1); (try have lt1_R_0_1 := t1_R_0.lt); (try (have qt1_R_0 := t1_R_0; obtain ⟨rt1_R_00, rt1_R_01, rt1_R_02, st1_R_00, st1_R_01, st1_R_02⟩ := qt1_R_0))))
    all_goals (go_wp2_with fail; go_meet)
    all_goals refine ⟨?_, rfl⟩
    all_goals first
      | (with_reducible exact boxQ_old t1_R_0 g2 (.inl vt1_R_0_2) gb et1_R_0)
      | (with_reducible exact boxQ_old t2_R_0 g2 (.inl vt2_R_0_2) gb et2_R_0)
      | (with_reducible exact boxQ_new g2 gb)
  case rest =>
  obtain ⟨⟨B3, ng2, a2_, n2_, c2_, p2_, m2_, k2_, lo3, hi3, rfl, hB3, T3, g2, hc3⟩, rfl⟩ := hcut
  clear x0_0 y0_0 x0_1 y0_1 x0_2 y0_2 x0_3 y0_3 x0_4 y0_4 x0_5 y0_5 x0_6 y0_6 e0 e1 e2 e3 e4 o0 o1 o2 q0 q1 q2
  have gb := hc3
  obtain ⟨x0_0, x0_1, x0_2, x0_3, x0_4, x0_5, x0_6⟩ := HXW0.out _ gb
  obtain ⟨y0_0, y0_1, y0_2, y0_3, y0_4, y0_5, y0_6⟩ := HYW0.out _ gb
  obtain z0 := HZW0.out _ gb
  obtain ⟨e0, e1, e2, e3, e4⟩ := (i1.to gb)
  obtain ⟨o0, o1, o2, q0, q1, q2⟩ := (i2.to gb)
  have z3 := T3.lt
  obtain ⟨x3_0, x3_1, x3_2, y3_0, y3_1, y3_2⟩ := T3
  clear hgb
  obtain ⟨W1, hW1⟩ : ∃ W, wc = W := ⟨_, rfl⟩
  subst hW1
  replace i0 := i0.to gb
  replace i1 := i1.to gb
  replace i2 := i2.to gb
  replace zb := below_step zb gb
  have HXwc := Lib.hid (show ∀ W', Below wc.heap.size wc W' → (Bx7 W' w.heap.size (.int .i64 9) (.int .i64 (T : Int)) (.int .i64 xa) (.int .i64 xb) (.bool ng) (.slice a0 n0 c0) (.slice a1 n1 c1) ∧ Bx3 W' B3 (.bool ng2) (.slice a2_ n2_ c2_) (.slice p2_ m2_ k2_)) from fun W' hb => by
      refine ⟨bx7 hb ?_ ?_ ?_ ?_ ?_ ?_ ?_ ?_ ?_ ?_ ?_ ?_ ?_ ?_, bx3 hb ?_ ?_ ?_ ?_ ?_ ?_⟩
      all_goals first | assumption | assumption)
  replace gb := Below.refl wc.heap.size wc
  go_wp2_with fail
  obtain ⟨m, hm9⟩ : ∃ m : Nat, ((max (limbs v.num.natAbs).length (limbs v.den).length : Nat)) = m := ⟨_, rfl⟩
  have HM := Lib.hid (show ((max (limbs v.num.natAbs).length (limbs v.den).length : Nat) : Int) = (m : Int) by rw [hm9])
  have hm4 : m ≤ 4096 := by have := Hs.out; unfold szq at this; rw [sz_def, sz_def] at hm9; omega
  have t4 : decide (4096 < m) = false := decide_eq_false (by omega)
  have t5 : decide ((4096 : Int) < (m : Int)) = false := decide_eq_false (by omega)
  clear hm9 hm4
  refine (vm_words ng2 _ _ _ _ _ (g2.to gb).isF (m : Int) HM.out).mono ?_
  clear x0_0 y0_0 x0_1 y0_1 x0_2 y0_2 x0_3 y0_3 x0_4 y0_4 x0_5 y0_5 x0_6 y0_6 x3_0 y3_0 x3_1 y3_1 x3_2 y3_2 e0 e1 e2 e3 e4 o0 o1 o2 q0 q1 q2
  rintro e w3 ⟨rfl, hb3⟩
  replace gb := below_step gb hb3
  obtain ⟨⟨z0, x0_0, x0_1, x0_2, x0_3, x0_4, x0_5, x0_6, y0_0, y0_1, y0_2, y0_3, y0_4, y0_5, y0_6⟩, ⟨z3, x3_0, x3_1, x3_2, y3_0, y3_1, y3_2⟩⟩ := HXwc.out _ gb
  obtain ⟨e0, e1, e2, e3, e4⟩ := (i1.to gb)
  obtain ⟨o0, o1, o2, q0, q1, q2⟩ := (i2.to gb)
  go_wp2_with fail
  go_region
  go_wp2_with fail
  go_ret
  exact ⟨_, _, _, _, rfl, below_step zb gb, (g2.to gb).isK, .inr rfl⟩

end Go.Proofs.YtkjcdnlpjldhaaaGreat


namespace Go.Proofs.YtkjcdnlpjldhaaaGreat
open Go.RowKit Tw
set_option linter.unusedVariables false
set_option linter.unusedSimpArgs false
attribute [local go_sem ↓] Go.wp_at_zero Go.wp_at_succ

set_option maxRecDepth 100000 in
set_option maxHeartbeats 60000000 in
theorem step_err_5_3 (mB g N : Nat) (u vJ : Value) (rows cols : Int) (T : Nat) (xa xb : Int) (ng : Bool) (vn vd : Value) (ln ld : List Nat) (d0 d1 d2 : Value)  (w : World) (hw : IsF w vn vd ln ld) (hm : Mach w mB g N u vJ rows cols) (hN : N ≤ 100000) (hT : T < N) (ho : Open3 w g (T * 3) d0 d1 d2) (hcall : ∀ V, Below w.heap.size w V → Calls Tryz.prog 96 #[.pointer (some ⟨mB, 0, none⟩), .agg #[.int .i64 5, .int .i64 (T : Int), .int .i64 xa, .int .i64 xb, .bool ng, vn, vd]] V (fun e w' => e = .returned (.tuple #[aggR false (.slice none 0 0) (.slice none 0 0), .int .i64 3]) ∧ Below V.heap.size V w'))  :
    Calls Tryz.prog 39 #[.pointer (some ⟨mB, 0, none⟩), .agg #[.int .i64 5, .int .i64 (T : Int), .int .i64 xa, .int .i64 xb, .bool ng, vn, vd]] w (fun e w' => e = .returned (.int .i64 3) ∧ Below w.heap.size w w') := by
  obtain ⟨a0, n0, c0, rfl, H0, hm0⟩ := hw.1.open
  obtain ⟨a1, n1, c1, rfl, H1, hm1⟩ := hw.2.open
  have hTi : (T : Int) < (N : Int) := by omega
  have lm := hm.lt
  have lo := ho.lt
  have HC := Lib.hid hcall
  clear hcall
  go_enter Tryz.func39, Tryz.ntmps39
  go_wp2_with fail
  obtain ⟨W0, hW0⟩ : ∃ W0, w.alloc (.cells #[.int .i64 5, .int .i64 (T : Int), .int .i64 xa, .int .i64 xb, .bool ng, .slice a0 n0 c0, .slice a1 n1 c1] 49) = W0 := ⟨_, rfl⟩
  have HXW0 := Lib.hid (show ∀ W', Below W0.heap.size W0 W' → (W'.cell? ⟨w.heap.size, 0, none⟩ = some (.int .i64 5) ∧ W'.cell? ⟨w.heap.size, 1, none⟩ = some (.int .i64 (T : Int)) ∧ W'.cell? ⟨w.heap.size, 2, none⟩ = some (.int .i64 xa) ∧ W'.cell? ⟨w.heap.size, 3, none⟩ = some (.int .i64 xb) ∧ W'.cell? ⟨w.heap.size, 4, none⟩ = some (.bool ng) ∧ W'.cell? ⟨w.heap.size, 5, none⟩ = some (.slice a0 n0 c0) ∧ W'.cell? ⟨w.heap.size, 6, none⟩ = some (.slice a1 n1 c1)) from fun W' hb =>
    by and_intros <;> exact kc hb (by first | assumption | (rw [← hW0]; simp [go_sem])))
  have HYW0 := Lib.hid (show ∀ W', Below W0.heap.size W0 W' → (W'.frozen? ⟨w.heap.size, 0, none⟩ = false ∧ W'.frozen? ⟨w.heap.size, 1, none⟩ = false ∧ W'.frozen? ⟨w.heap.size, 2, none⟩ = false ∧ W'.frozen? ⟨w.heap.size, 3, none⟩ = false ∧ W'.frozen? ⟨w.heap.size, 4, none⟩ = false ∧ W'.frozen? ⟨w.heap.size, 5, none⟩ = false ∧ W'.frozen? ⟨w.heap.size, 6, none⟩ = false) from fun W' hb =>
    ⟨(hb.frozen (p := ⟨w.heap.size, 0, none⟩) (by rw [← hW0]; simp <;> omega)).trans (by rw [← hW0]; simp [go_sem]), (hb.frozen (p := ⟨w.heap.size, 1, none⟩) (by rw [← hW0]; simp <;> omega)).trans (by rw [← hW0]; simp [go_sem]), (hb.frozen (p := ⟨w.heap.size, 2, none⟩) (by rw [← hW0]; simp <;> omega)).trans (by rw [← hW0]; simp [go_sem]), (hb.frozen (p := ⟨w.heap.size, 3, none⟩) (by rw [← hW0]; simp <;> omega)).trans (by rw [← hW0]; simp [go_sem]), (hb.frozen (p := ⟨w.heap.size, 4, none⟩) (by rw [← hW0]; simp <;> omega)).trans (by rw [← hW0]; simp [go_sem]), (hb.frozen (p := ⟨w.heap.size, 5, none⟩) (by rw [← hW0]; simp <;> omega)).trans (by rw [← hW0]; simp [go_sem]), (hb.frozen (p := ⟨w.heap.size, 6, none⟩) (by rw [← hW0]; simp <;> omega)).trans (by rw [← hW0]; simp [go_sem])⟩)
  have HZW0 := Lib.hid (show ∀ W', Below W0.heap.size W0 W' → (w.heap.size < W'.heap.size) from fun W' hb =>
    Nat.lt_of_lt_of_le (by rw [← hW0]; simp <;> omega) hb.size)
  have zb : Below w.heap.size w W0 := by rw [← hW0]; exact below_new _ _
  rw [hW0]
  clear hW0
  have i0 := hw.to zb
  have i1 := hm.to zb
  have i2 := ho.to zb
  have gb : Below W0.heap.size W0 W0 := Below.refl _ _
  obtain ⟨x0_0, x0_1, x0_2, x0_3, x0_4, x0_5, x0_6⟩ := HXW0.out _ gb
  obtain ⟨y0_0, y0_1, y0_2, y0_3, y0_4, y0_5, y0_6⟩ := HYW0.out _ gb
  obtain z0 := HZW0.out _ gb
  obtain ⟨e0, e1, e2, e3, e4⟩ := (i1.to gb)
  obtain ⟨o0, o1, o2, q0, q1, q2⟩ := (i2.to gb)
  go_wp2_with fail
  have htab := tab_5
  have hgb := gb
  go_upto_region 4 with fail
  go_cut [6] from 28 (fun s6 wx => Below W0.heap.size W0 wx ∧ s6 = .int .i64 3)
  case first =>
    go_region_held3 (fun W' => W'.cell? ⟨w.heap.size, 0, none⟩ = some (.int .i64 5) ∧ W'.cell? ⟨w.heap.size, 1, none⟩ = some (.int .i64 (T : Int)) ∧ W'.cell? ⟨w.heap.size, 2, none⟩ = some (.int .i64 xa) ∧ W'.cell? ⟨w.heap.size, 3, none⟩ = some (.int .i64 xb) ∧ W'.cell? ⟨w.heap.size, 4, none⟩ = some (.bool ng) ∧ W'.cell? ⟨w.heap.size, 5, none⟩ = some (.slice a0 n0 c0) ∧ W'.cell? ⟨w.heap.size, 6, none⟩ = some (.slice a1 n1 c1)) (first | (with_reducible exact HXW0.out _ gb) | ((with_reducible refine HXW0.out _ ?_); first | ((with_reducible refine Below.drew ?_); first | (with_reducible exact gb) | ((with_reducible refine below_set3 ?_ ?_ _ _ _); rotate_left; (first | (with_reducible exact et1_R_0) | (with_reducible exact et2_R_0)); with_reducible exact gb) | ((with_reducible refine below_step ?_ (below_new _ _)); with_reducible exact gb)) | (first | (with_reducible exact gb) | ((with_reducible refine below_set3 ?_ ?_ _ _ _); rotate_left; (first | (with_reducible exact et1_R_0) | (with_reducible exact et2_R_0)); first | (with_reducible exact gb) | ((with_reducible refine below_set3 ?_ ?_ _ _ _); rotate_left; (first | (with_reducible exact et1_R_0) | (with_reducible exact et2_R_0)); with_reducible exact gb) | ((with_reducible refine below_step ?_ (below_new _ _)); with_reducible exact gb)) | ((with_reducible refine below_step ?_ (below_new _ _)); first | (with_reducible exact gb) | ((with_reducible refine below_set3 ?_ ?_ _ _ _); rotate_left; (first | (with_reducible exact et1_R_0) | (with_reducible exact et2_R_0)); with_reducible exact gb) | ((with_reducible refine below_step ?_ (below_new _ _)); with_reducible exact gb))))) (first
      | (go_at_call 96; (refine calls_gen w1 (by first | with_reducible exact Below.refl _ _ | with_reducible exact below_new _ _) ?_); intro V2 hV2 hbV2; have hsV2 := hbV2.size; have hu2 := gb.size; have gb := below_step gb hbV2; (try have t1_R_0 := t1_R_0.to hbV2); (try have t2_R_0 : Tri V2 (w1.heap.size) (.bool false) (.slice none 0 0) (.slice none 0 0) := (by rw [hV2]; first | with_reducible exact tri_new _ (.bool false) (.slice none 0 0) (.slice none 0 0) _ | with_reducible exact (tri_new _ (.bool false) (.slice none 0 0) (.slice none 0 0) _).alloc _)); have et2_R_0 : W0.heap.size ≤ w1.heap.size := (hu2); (try have vt1_R_0_2 := t1_R_0.lt); (try have vt2_R_0_2 := t2_R_0.lt); (with_reducible refine (HC.out _ (below_step zb gb)).mono ?_); rintro e w2 ⟨rfl, hb2⟩; have gb := below_step gb hb2; have hs2 := hb2.size; (try have t1_R_0 := t1_R_0.to hb2); (try have t2_R_0 := t2_R_0.to hb2); (try have lt1_R_0_2 := t1_R_0.lt); (try have lt2_R_0_2 := t2_R_0.lt); (try (have qt1_R_0 := t1_R_0; obtain ⟨rt1_R_00, rt1_R_01, rt1_R_02, st1_R_00, st1_R_01, st1_R_02⟩ := qt1_R_0)); (try (have qt2_R_0 := t2_R_0; obtain ⟨rt2_R_00, rt2_R_01, rt2_R_02, st2_R_00, st2_R_01, st2_R_02⟩ := qt2_R_0)))
      | (go_at_call 65; (refine calls_gen W0 (by first | with_reducible exact (Below.refl _ _).drew | with_reducible exact (below_new _ _).drew) ?_); intro V1 hV1 hbV1; have hsV1 := hbV1.size; have hu1 := gb.size; have gb := below_step gb hbV1; (try have t1_R_0 : Tri V1 (W0.heap.size) (.bool false) (.slice none 0 0) (.slice none 0 0) := (by rw [hV1]; first | with_reducible exact (tri_new _ (.bool false) (.slice none 0 0) (.slice none 0 0) _).drew | with_reducible exact ((tri_new _ (.bool false) (.slice none 0 0) (.slice none 0 0) _).alloc _).drew)); have et1_R_0 : W0.heap.size ≤ W0.heap.size := (hu1); (try have vt1_R_0_1 := t1_R_0.lt); (with_reducible refine (vm_does _).mono ?_); rintro e w1 ⟨rfl, hb1⟩; have gb := below_step gb hb1; have hs1 := hb1.size; (try have t1_R_0 := t1_R_0.to hb1); (try have lt1_R_0_1 := t1_R_0.lt); (try (have qt1_R_0 := t1_R_0; obtain ⟨rt1_R_00, rt1_R_01, rt1_R_02, st1_R_00, st1_R_01, st1_R_02⟩ := qt1_R_0))))
    all_goals (go_wp2_with fail; go_meet)
    all_goals refine ⟨?_, rfl⟩
    all_goals first
      | (first | (with_reducible exact gb) | ((with_reducible refine below_set3 ?_ ?_ _ _ _); rotate_left; (first | (with_reducible exact et1_R_0) | (with_reducible exact et2_R_0)); first | (with_reducible exact gb) | ((with_reducible refine below_set3 ?_ ?_ _ _ _); rotate_left; (first | (with_reducible exact et1_R_0) | (with_reducible exact et2_R_0)); with_reducible exact gb) | ((with_reducible refine below_step ?_ (below_new _ _)); with_reducible exact gb)) | ((with_reducible refine below_step ?_ (below_new _ _)); first | (with_reducible exact gb) | ((with_reducible refine below_set3 ?_ ?_ _ _ _); rotate_left; (first | (with_reducible exact et1_R_0) | (with_reducible exact et2_R_0)); with_reducible exact gb) | ((with_reducible refine below_step ?_ (below_new _ _)); with_reducible exact gb)))
  case rest =>
  obtain ⟨hc0, rfl⟩ := hcut
  clear x0_0 y0_0 x0_1 y0_1 x0_2 y0_2 x0_3 y0_3 x0_4 y0_4 x0_5 y0_5 x0_6 y0_6 e0 e1 e2 e3 e4 o0 o1 o2 q0 q1 q2
  have gb := hc0
  obtain ⟨x0_0, x0_1, x0_2, x0_3, x0_4, x0_5, x0_6⟩ := HXW0.out _ gb
  obtain ⟨y0_0, y0_1, y0_2, y0_3, y0_4, y0_5, y0_6⟩ := HYW0.out _ gb
  obtain z0 := HZW0.out _ gb
  obtain ⟨e0, e1, e2, e3, e4⟩ := (i1.to gb)
  obtain ⟨o0, o1, o2, q0, q1, q2⟩ := (i2.to gb)
  clear hgb
  obtain ⟨W1, hW1⟩ : ∃ W, wc = W := ⟨_, rfl⟩
  subst hW1
  replace i0 := i0.to gb
  replace i1 := i1.to gb
  replace i2 := i2.to gb
  replace zb := below_step zb gb
  have HXwc := Lib.hid (show ∀ W', Below wc.heap.size wc W' → (Bx7 W' w.heap.size (.int .i64 5) (.int .i64 (T : Int)) (.int .i64 xa) (.int .i64 xb) (.bool ng) (.slice a0 n0 c0) (.slice a1 n1 c1)) from fun W' hb => by
      apply bx7 hb
      all_goals first | assumption | assumption)
  replace gb := Below.refl wc.heap.size wc
  go_wp2_with fail
  go_ret
  exact ⟨rfl, below_step zb gb⟩

set_option maxRecDepth 100000 in
set_option maxHeartbeats 60000000 in
theorem step_err_7_3 (mB g N : Nat) (u vJ : Value) (rows cols : Int) (T : Nat) (xa xb : Int) (ng : Bool) (vn vd : Value) (ln ld : List Nat) (d0 d1 d2 : Value)  (w : World) (hw : IsF w vn vd ln ld) (hm : Mach w mB g N u vJ rows cols) (hN : N ≤ 100000) (hT : T < N) (ho : Open3 w g (T * 3) d0 d1 d2) (hcall : ∀ V, Below w.heap.size w V → Calls Tryz.prog 98 #[.pointer (some ⟨mB, 0, none⟩), .agg #[.int .i64 7, .int .i64 (T : Int), .int .i64 xa, .int .i64 xb, .bool ng, vn, vd]] V (fun e w' => e = .returned (.tuple #[aggR false (.slice none 0 0) (.slice none 0 0), .int .i64 3]) ∧ Below V.heap.size V w'))  :
    Calls Tryz.prog 39 #[.pointer (some ⟨mB, 0, none⟩), .agg #[.int .i64 7, .int .i64 (T : Int), .int .i64 xa, .int .i64 xb, .bool ng, vn, vd]] w (fun e w' => e = .returned (.int .i64 3) ∧ Below w.heap.size w w') := by
  obtain ⟨a0, n0, c0, rfl, H0, hm0⟩ := hw.1.open
  obtain ⟨a1, n1, c1, rfl, H1, hm1⟩ := hw.2.open
  have hTi : (T : Int) < (N : Int) := by omega
  have lm := hm.lt
  have lo := ho.lt
  have HC := Lib.hid hcall
  clear hcall
  go_enter Tryz.func39, Tryz.ntmps39
  go_wp2_with fail
  obtain ⟨W0, hW0⟩ : ∃ W0, w.alloc (.cells #[.int .i64 7, .int .i64 (T : Int), .int .i64 xa, .int .i64 xb, .bool ng, .slice a0 n0 c0, .slice a1 n1 c1] 49) = W0 := ⟨_, rfl⟩
  have HXW0 := Lib.hid (show ∀ W', Below W0.heap.size W0 W' → (W'.cell? ⟨w.heap.size, 0, none⟩ = some (.int .i64 7) ∧ W'.cell? ⟨w.heap.size, 1, none⟩ = some (.int .i64 (T : Int)) ∧ W'.cell? ⟨w.heap.size, 2, none⟩ = some (.int .i64 xa) ∧ W'.cell? ⟨w.heap.size, 3, none⟩ = some (.int .i64 xb) ∧ W'.cell? ⟨w.heap.size, 4, none⟩ = some (.bool ng) ∧ W'.cell? ⟨w.heap.size, 5, none⟩ = some (.slice a0 n0 c0) ∧ W'.cell? ⟨w.heap.size, 6, none⟩ = some (.slice a1 n1 c1)) from fun W' hb =>
    by and_intros <;> exact kc hb (by first | assumption | (rw [← hW0]; simp [go_sem])))
  have HYW0 := Lib.hid (show ∀ W', Below W0.heap.size W0 W' → (W'.frozen? ⟨w.heap.size, 0, none⟩ = false ∧ W'.frozen? ⟨w.heap.size, 1, none⟩ = false ∧ W'.frozen? ⟨w.heap.size, 2, none⟩ = false ∧ W'.frozen? ⟨w.heap.size, 3, none⟩ = false ∧ W'.frozen? ⟨w.heap.size, 4, none⟩ = false ∧ W'.frozen? ⟨w.heap.size, 5, none⟩ = false ∧ W'.frozen? ⟨w.heap.size, 6, none⟩ = false) from fun W' hb =>
    ⟨(hb.frozen (p := ⟨w.heap.size, 0, none⟩) (by rw [← hW0]; simp <;> omega)).trans (by rw [← hW0]; simp [go_sem]), (hb.frozen (p := ⟨w.heap.size, 1, none⟩) (by rw [← hW0]; simp <;> omega)).trans (by rw [← hW0]; simp [go_sem]), (hb.frozen (p := ⟨w.heap.size, 2, none⟩) (by rw [← hW0]; simp <;> omega)).trans (by rw [← hW0]; simp [go_sem]), (hb.frozen (p := ⟨w.heap.size, 3, none⟩) (by rw [← hW0]; simp <;> omega)).trans (by rw [← hW0]; simp [go_sem]), (hb.frozen (p := ⟨w.heap.size, 4, none⟩) (by rw [← hW0]; simp <;> omega)).trans (by rw [← hW0]; simp [go_sem]), (hb.frozen (p := ⟨w.heap.size, 5, none⟩) (by rw [← hW0]; simp <;> omega)).trans (by rw [← hW0]; simp [go_sem]), (hb.frozen (p := ⟨w.heap.size, 6, none⟩) (by rw [← hW0]; simp <;> omega)).trans (by rw [← hW0]; simp [go_sem])⟩)
  have HZW0 := Lib.hid (show ∀ W', Below W0.heap.size W0 W' → (w.heap.size < W'.heap.size) from fun W' hb =>
    Nat.lt_of_lt_of_le (by rw [← hW0]; simp <;> omega) hb.size)
  have zb : Below w.heap.size w W0 := by rw [← hW0]; exact below_new _ _
  rw [hW0]
  clear hW0
  have i0 := hw.to zb
  have i1 := hm.to zb
  have i2 := ho.to zb
  have gb : Below W0.heap.size W0 W0 := Below.refl _ _
  obtain ⟨x0_0, x0_1, x0_2, x0_3, x0_4, x0_5, x0_6⟩ := HXW0.out _ gb
  obtain ⟨y0_0, y0_1, y0_2, y0_3, y0_4, y0_5, y0_6⟩ := HYW0.out _ gb
  obtain z0 := HZW0.out _ gb
  obtain ⟨e0, e1, e2, e3, e4⟩ := (i1.to gb)
  obtain ⟨o0, o1, o2, q0, q1, q2⟩ := (i2.to gb)
  go_wp2_with fail
  have htab := tab_7
  have hgb := gb
  go_upto_region 4 with fail
  go_cut [6] from 28 (fun s6 wx => Below W0.heap.size W0 wx ∧ s6 = .int .i64 3)
  case first =>
    go_region_held3 (fun W' => W'.cell? ⟨w.heap.size, 0, none⟩ = some (.int .i64 7) ∧ W'.cell? ⟨w.heap.size, 1, none⟩ = some (.int .i64 (T : Int)) ∧ W'.cell? ⟨w.heap.size, 2, none⟩ = some (.int .i64 xa) ∧ W'.cell? ⟨w.heap.size, 3, none⟩ = some (.int .i64 xb) ∧ W'.cell? ⟨w.heap.size, 4, none⟩ = some (.bool ng) ∧ W'.cell? ⟨w.heap.size, 5, none⟩ = some (.slice a0 n0 c0) ∧ W'.cell? ⟨w.heap.size, 6, none⟩ = some (.slice a1 n1 c1)) (first | (with_reducible exact HXW0.out _ gb) | ((with_reducible refine HXW0.out _ ?_); first | ((with_reducible refine Below.drew ?_); first | (with_reducible exact gb) | ((with_reducible refine below_set3 ?_ ?_ _ _ _); rotate_left; (first | (with_reducible exact et1_R_0) | (with_reducible exact et2_R_0)); with_reducible exact gb) | ((with_reducible refine below_step ?_ (below_new _ _)); with_reducible exact gb)) | (first | (with_reducible exact gb) | ((with_reducible refine below_set3 ?_ ?_ _ _ _); rotate_left; (first | (with_reducible exact et1_R_0) | (with_reducible exact et2_R_0)); first | (with_reducible exact gb) | ((with_reducible refine below_set3 ?_ ?_ _ _ _); rotate_left; (first | (with_reducible exact et1_R_0) | (with_reducible exact et2_R_0)); with_reducible exact gb) | ((with_reducible refine below_step ?_ (below_new _ _)); with_reducible exact gb)) | ((with_reducible refine below_step ?_ (below_new _ _)); first | (with_reducible exact gb) | ((with_reducible refine below_set3 ?_ ?_ _ _ _); rotate_left; (first | (with_reducible exact et1_R_0) | (with_reducible exact et2_R_0)); with_reducible exact gb) | ((with_reducible refine below_step ?_ (below_new _ _)); with_reducible exact gb))))) (first
      | (go_at_call 98; (refine calls_gen w1 (by first | with_reducible exact Below.refl _ _ | with_reducible exact below_new _ _) ?_); intro V2 hV2 hbV2; have hsV2 := hbV2.size; have hu2 := gb.size; have gb := below_step gb hbV2; (try have t1_R_0 := t1_R_0.to hbV2); (try have t2_R_0 : Tri V2 (w1.heap.size) (.bool false) (.slice none 0 0) (.slice none 0 0) := (by rw [hV2]; first | with_reducible exact tri_new _ (.bool false) (.slice none 0 0) (.slice none 0 0) _ | with_reducible exact (tri_new _ (.bool false) (.slice none 0 0) (.slice none 0 0) _).alloc _)); have et2_R_0 : W0.heap.size ≤ w1.heap.size := (hu2); (try have vt1_R_0_2 := t1_R_0.lt); (try have vt2_R_0_2 := t2_R_0.lt); (with_reducible refine (HC.out _ (below_step zb gb)).mono ?_); rintro e w2 ⟨rfl, hb2⟩; have gb := below_step gb hb2; have hs2 := hb2.size; (try have t1_R_0 := t1_R_0.to hb2); (try have t2_R_0 := t2_R_0.to hb2); (try have lt1_R_0_2 := t1_R_0.lt); (try have lt2_R_0_2 := t2_R_0.lt); (try (have qt1_R_0 := t1_R_0; obtain ⟨rt1_R_00, rt1_R_01, rt1_R_02, st1_R_00, st1_R_01, st1_R_02⟩ := qt1_R_0)); (try (have qt2_R_0 := t2_R_0; obtain ⟨rt2_R_00, rt2_R_01, rt2_R_02, st2_R_00, st2_R_01, st2_R_02⟩ := qt2_R_0)))
      | (go_at_call 65; (refine calls_gen W0 (by first | with_reducible exact (Below.refl _ _).drew | with_reducible exact (below_new _ _).drew) ?_); intro V1 hV1 hbV1; have hsV1 := hbV1.size; have hu1 := gb.size; have gb := below_step gb hbV1; (try have t1_R_0 : Tri V1 (W0.heap.size) (.bool false) (.slice none 0 0) (.slice none 0 0) := (by rw [hV1]; first | with_reducible exact (tri_new _ (.bool false) (.slice none 0 0) (.slice none 0 0) _).drew | with_reducible exact ((tri_new _ (.bool false) (.slice none 0 0) (.slice none 0 0) _).alloc _).drew)); have et1_R_0 : W0.heap.size ≤ W0.heap.size := (hu1); (try have vt1_R_0_1 := t1_R_0.lt); (with_reducible refine (vm_does _).mono ?_); rintro e w1 ⟨rfl, hb1⟩; have gb := below_step gb hb1; have hs1 := hb1.size; (try have t1_R_0 := t1_R_0.to hb1); (try have lt1_R_0_1 := t1_R_0.lt); (try (have qt1_R_0 := t1_R_0; obtain ⟨rt1_R_00, rt1_R_01, rt1_R_02, st1_R_00, st1_R_01, st1_R_02⟩ := qt1_R_0))))
    all_goals (go_wp2_with fail; go_meet)
    all_goals refine ⟨?_, rfl⟩
    all_goals first
      | (first | (with_reducible exact gb) | ((with_reducible refine below_set3 ?_ ?_ _ _ _); rotate_left; (first | (with_reducible exact et1_R_0) | (with_reducible exact et2_R_0)); first | (with_reducible exact gb) | ((with_reducible refine below_set3 ?_ ?_ _ _ _); rotate_left; (first | (with_reducible exact et1_R_0) | (with_reducible exact et2_R_0)); with_reducible exact gb) | ((with_reducible refine below_step ?_ (below_new _ _)); with_reducible exact gb)) | ((with_reducible refine below_step ?_ (below_new _ _)); first | (with_reducible exact gb) | ((with_reducible refine below_set3 ?_ ?_ _ _ _); rotate_left; (first | (with_reducible exact et1_R_0) | (with_reducible exact et2_R_0)); with_reducible exact gb) | ((with_reducible refine below_step ?_ (below_new _ _)); with_reducible exact gb)))
  case rest =>
  obtain ⟨hc0, rfl⟩ := hcut
  clear x0_0 y0_0 x0_1 y0_1 x0_2 y0_2 x0_3 y0_3 x0_4 y0_4 x0_5 y0_5 x0_6 y0_6 e0 e1 e2 e3 e4 o0 o1 o2 q0 q1 q2
  have gb := hc0
  obtain ⟨x0_0, x0_1, x0_2, x0_3, x0_4, x0_5, x0_6⟩ := HXW0.out _ gb
  obtain ⟨y0_0, y0_1, y0_2, y0_3, y0_4, y0_5, y0_6⟩ := HYW0.out _ gb
  obtain z0 := HZW0.out _ gb
  obtain ⟨e0, e1, e2, e3, e4⟩ := (i1.to gb)
  obtain ⟨o0, o1, o2, q0, q1, q2⟩ := (i2.to gb)
  clear hgb
  obtain ⟨W1, hW1⟩ : ∃ W, wc = W := ⟨_, rfl⟩
  subst hW1
  replace i0 := i0.to gb
  replace i1 := i1.to gb
  replace i2 := i2.to gb
  replace zb := below_step zb gb
  have HXwc := Lib.hid (show ∀ W', Below wc.heap.size wc W' → (Bx7 W' w.heap.size (.int .i64 7) (.int .i64 (T : Int)) (.int .i64 xa) (.int .i64 xb) (.bool ng) (.slice a0 n0 c0) (.slice a1 n1 c1)) from fun W' hb => by
      apply bx7 hb
      all_goals first | assumption | assumption)
  replace gb := Below.refl wc.heap.size wc
  go_wp2_with fail
  go_ret
  exact ⟨rfl, below_step zb gb⟩

set_option maxRecDepth 100000 in
set_option maxHeartbeats 60000000 in
theorem step_err_7_4 (mB g N : Nat) (u vJ : Value) (rows cols : Int) (T : Nat) (xa xb : Int) (ng : Bool) (vn vd : Value) (ln ld : List Nat) (d0 d1 d2 : Value)  (w : World) (hw : IsF w vn vd ln ld) (hm : Mach w mB g N u vJ rows cols) (hN : N ≤ 100000) (hT : T < N) (ho : Open3 w g (T * 3) d0 d1 d2) (hcall : ∀ V, Below w.heap.size w V → Calls Tryz.prog 98 #[.pointer (some ⟨mB, 0, none⟩), .agg #[.int .i64 7, .int .i64 (T : Int), .int .i64 xa, .int .i64 xb, .bool ng, vn, vd]] V (fun e w' => e = .returned (.tuple #[aggR false (.slice none 0 0) (.slice none 0 0), .int .i64 4]) ∧ Below V.heap.size V w'))  :
    Calls Tryz.prog 39 #[.pointer (some ⟨mB, 0, none⟩), .agg #[.int .i64 7, .int .i64 (T : Int), .int .i64 xa, .int .i64 xb, .bool ng, vn, vd]] w (fun e w' => e = .returned (.int .i64 4) ∧ Below w.heap.size w w') := by
  obtain ⟨a0, n0, c0, rfl, H0, hm0⟩ := hw.1.open
  obtain ⟨a1, n1, c1, rfl, H1, hm1⟩ := hw.2.open
  have hTi : (T : Int) < (N : Int) := by omega
  have lm := hm.lt
  have lo := ho.lt
  have HC := Lib.hid hcall
  clear hcall
  go_enter Tryz.func39, Tryz.ntmps39
  go_wp2_with fail
  obtain ⟨W0, hW0⟩ : ∃ W0, w.alloc (.cells #[.int .i64 7, .int .i64 (T : Int), .int .i64 xa, .int .i64 xb, .bool ng, .slice a0 n0 c0, .slice a1 n1 c1] 49) = W0 := ⟨_, rfl⟩
  have HXW0 := Lib.hid (show ∀ W', Below W0.heap.size W0 W' → (W'.cell? ⟨w.heap.size, 0, none⟩ = some (.int .i64 7) ∧ W'.cell? ⟨w.heap.size, 1, none⟩ = some (.int .i64 (T : Int)) ∧ W'.cell? ⟨w.heap.size, 2, none⟩ = some (.int .i64 xa) ∧ W'.cell? ⟨w.heap.size, 3, none⟩ = some (.int .i64 xb) ∧ W'.cell? ⟨w.heap.size, 4, none⟩ = some (.bool ng) ∧ W'.cell? ⟨w.heap.size, 5, none⟩ = some (.slice a0 n0 c0) ∧ W'.cell? ⟨w.heap.size, 6, none⟩ = some (.slice a1 n1 c1)) from fun W' hb =>
    by and_intros <;> exact kc hb (by first | assumption | (rw [← hW0]; simp [go_sem])))
  have HYW0 := Lib.hid (show ∀ W', Below W0.heap.size W0 W' → (W'.frozen? ⟨w.heap.size, 0, none⟩ = false ∧ W'.frozen? ⟨w.heap.size, 1, none⟩ = false ∧ W'.frozen? ⟨w.heap.size, 2, none⟩ = false ∧ W'.frozen? ⟨w.heap.size, 3, none⟩ = false ∧ W'.frozen? ⟨w.heap.size, 4, none⟩ = false ∧ W'.frozen? ⟨w.heap.size, 5, none⟩ = false ∧ W'.frozen? ⟨w.heap.size, 6, none⟩ = false) from fun W' hb =>
    ⟨(hb.frozen (p := ⟨w.heap.size, 0, none⟩) (by rw [← hW0]; simp <;> omega)).trans (by rw [← hW0]; simp [go_sem]), (hb.frozen (p := ⟨w.heap.size, 1, none⟩) (by rw [← hW0]; simp <;> omega)).trans (by rw [← hW0]; simp [go_sem]), (hb.frozen (p := ⟨w.heap.size, 2, none⟩) (by rw [← hW0]; simp <;> omega)).trans (by rw [← hW0]; simp [go_sem]), (hb.frozen (p := ⟨w.heap.size, 3, none⟩) (by rw [← hW0]; simp <;> omega)).trans (by rw [← hW0]; simp [go_sem]), (hb.frozen (p := ⟨w.heap.size, 4, none⟩) (by rw [← hW0]; simp <;> omega)).trans (by rw [← hW0]; simp [go_sem]), (hb.frozen (p := ⟨w.heap.size, 5, none⟩) (by rw [← hW0]; simp <;> omega)).trans (by rw [← hW0]; simp [go_sem]), (hb.frozen (p := ⟨w.heap.size, 6, none⟩) (by rw [← hW0]; simp <;> omega)).trans (by rw [← hW0]; simp [go_sem])⟩)
  have HZW0 := Lib.hid (show ∀ W', Below W0.heap.size W0 W' → (w.heap.size < W'.heap.size) from fun W' hb =>
    Nat.lt_of_lt_of_le (by rw [← hW0]; simp <;> omega) hb.size)
  have zb : Below w.heap.size w W0 := by rw [← hW0]; exact below_new _ _
  rw [hW0]
  clear hW0
  have i0 := hw.to zb
  have i1 := hm.to zb
  have i2 := ho.to zb
  have gb : Below W0.heap.size W0 W0 := Below.refl _ _
  obtain ⟨x0_0, x0_1, x0_2, x0_3, x0_4, x0_5, x0_6⟩ := HXW0.out _ gb
  obtain ⟨y0_0, y0_1, y0_2, y0_3, y0_4, y0_5, y0_6⟩ := HYW0.out _ gb
  obtain z0 := HZW0.out _ gb
  obtain ⟨e0, e1, e2, e3, e4⟩ := (i1.to gb)
  obtain ⟨o0, o1, o2, q0, q1, q2⟩ := (i2.to gb)
  go_wp2_with fail
  have htab := tab_7
  have hgb := gb
  go_upto_region 4 with fail
  go_cut [6] from 28 (fun s6 wx => Below W0.heap.size W0 wx ∧ s6 = .int .i64 4)
  case first =>
    go_region_held3 (fun W' => W'.cell? ⟨w.heap.size, 0, none⟩ = some (.int .i64 7) ∧ W'.cell? ⟨w.heap.size, 1, none⟩ = some (.int .i64 (T : Int)) ∧ W'.cell? ⟨w.heap.size, 2, none⟩ = some (.int .i64 xa) ∧ W'.cell? ⟨w.heap.size, 3, none⟩ = some (.int .i64 xb) ∧ W'.cell? ⟨w.heap.size, 4, none⟩ = some (.bool ng) ∧ W'.cell? ⟨w.heap.size, 5, none⟩ = some (.slice a0 n0 c0) ∧ W'.cell? ⟨w.heap.size, 6, none⟩ = some (.slice a1 n1 c1)) (first | (with_reducible exact HXW0.out _ gb) | ((with_reducible refine HXW0.out _ ?_); first | ((with_reducible refine Below.drew ?_); first | (with_reducible exact gb) | ((with_reducible refine below_set3 ?_ ?_ _ _ _); rotate_left; (first | (with_reducible exact et1_R_0) | (with_reducible exact et2_R_0)); with_reducible exact gb) | ((with_reducible refine below_step ?_ (below_new _ _)); with_reducible exact gb)) | (first | (with_reducible exact gb) | ((with_reducible refine below_set3 ?_ ?_ _ _ _); rotate_left; (first | (with_reducible exact et1_R_0) | (with_reducible exact et2_R_0)); first | (with_reducible exact gb) | ((with_reducible refine below_set3 ?_ ?_ _ _ _); rotate_left; (first | (with_reducible exact et1_R_0) | (with_reducible exact et2_R_0)); with_reducible exact gb) | ((with_reducible refine below_step ?_ (below_new _ _)); with_reducible exact gb)) | ((with_reducible refine below_step ?_ (below_new _ _)); first | (with_reducible exact gb) | ((with_reducible refine below_set3 ?_ ?_ _ _ _); rotate_left; (first | (with_reducible exact et1_R_0) | (with_reducible exact et2_R_0)); with_reducible exact gb) | ((with_reducible refine below_step ?_ (below_new _ _)); with_reducible exact gb))))) (first
      | (go_at_call 98; (refine calls_gen w1 (by first | with_reducible exact Below.refl _ _ | with_reducible exact below_new _ _) ?_); intro V2 hV2 hbV2; have hsV2 := hbV2.size; have hu2 := gb.size; have gb := below_step gb hbV2; (try have t1_R_0 := t1_R_0.to hbV2); (try have t2_R_0 : Tri V2 (w1.heap.size) (.bool false) (.slice none 0 0) (.slice none 0 0) := (by rw [hV2]; first | with_reducible exact tri_new _ (.bool false) (.slice none 0 0) (.slice none 0 0) _ | with_reducible exact (tri_new _ (.bool false) (.slice none 0 0) (.slice none 0 0) _).alloc _)); have et2_R_0 : W0.heap.size ≤ w1.heap.size := (hu2); (try have vt1_R_0_2 := t1_R_0.lt); (try have vt2_R_0_2 := t2_R_0.lt); (with_reducible refine (HC.out _ (below_step zb gb)).mono ?_); rintro e w2 ⟨rfl, hb2⟩; have gb := below_step gb hb2; have hs2 := hb2.size; (try have t1_R_0 := t1_R_0.to hb2); (try have t2_R_0 := t2_R_0.to hb2); (try have lt1_R_0_2 := t1_R_0.lt); (try have lt2_R_0_2 := t2_R_0.lt); (try (have qt1_R_0 := t1_R_0; obtain ⟨rt1_R_00, rt1_R_01, rt1_R_02, st1_R_00, st1_R_01, st1_R_02⟩ := qt1_R_0)); (try (have qt2_R_0 := t2_R_0; obtain ⟨rt2_R_00, rt2_R_01, rt2_R_02, st2_R_00, st2_R_01, st2_R_02⟩ := qt2_R_0)))
      | (go_at_call 65; (refine calls_gen W0 (by first | with_reducible exact (Below.refl _ _).drew | with_reducible exact (below_new _ _).drew) ?_); intro V1 hV1 hbV1; have hsV1 := hbV1.size; have hu1 := gb.size; have gb := below_step gb hbV1; (try have t1_R_0 : Tri V1 (W0.heap.size) (.bool false) (.slice none 0 0) (.slice none 0 0) := (by rw [hV1]; first | with_reducible exact (tri_new _ (.bool false) (.slice none 0 0) (.slice none 0 0) _).drew | with_reducible exact ((tri_new _ (.bool false) (.slice none 0 0) (.slice none 0 0) _).alloc _).drew)); have et1_R_0 : W0.heap.size ≤ W0.heap.size := (hu1); (try have vt1_R_0_1 := t1_R_0.lt); (with_reducible refine (vm_does _).mono ?_); rintro e w1 ⟨rfl, hb1⟩; have gb := below_step gb hb1; have hs1 := hb1.size; (try have t1_R_0 := t1_R_0.to hb1); (try have lt1_R_0_1 := t1_R_0.lt); (try (have qt1_R_0 := t1_R_0; obtain ⟨rt1_R_00, rt1_R_01, rt1_R_02, st1_R_00, st1_R_01, st1_R_02⟩ := qt1_R_0))))
    all_goals (go_wp2_with fail; go_meet)
    all_goals refine ⟨?_, rfl⟩
    all_goals first
      | (first | (with_reducible exact gb) | ((with_reducible refine below_set3 ?_ ?_ _ _ _); rotate_left; (first | (with_reducible exact et1_R_0) | (with_reducible exact et2_R_0)); first | (with_reducible exact gb) | ((with_reducible refine below_set3 ?_ ?_ _ _ _); rotate_left; (first | (with_reducible exact et1_R_0) | (with_reducible exact et2_R_0)); with_reducible exact gb) | ((with_reducible refine below_step ?_ (below_new _ _)); with_reducible exact gb)) | ((with_reducible refine below_step ?_ (below_new _ _)); first | (with_reducible exact gb) | ((with_reducible refine below_set3 ?_ ?_ _ _ _); rotate_left; (first | (with_reducible exact et1_R_0) | (with_reducible exact et2_R_0)); with_reducible exact gb) | ((with_reducible refine below_step ?_ (below_new _ _)); with_reducible exact gb)))
  case rest =>
  obtain ⟨hc0, rfl⟩ := hcut
  clear x0_0 y0_0 x0_1 y0_1 x0_2 y0_2 x0_3 y0_3 x0_4 y0_4 x0_5 y0_5 x0_6 y0_6 e0 e1 e2 e3 e4 o0 o1 o2 q0 q1 q2
  have gb := hc0
  obtain ⟨x0_0, x0_1, x0_2, x0_3, x0_4, x0_5, x0_6⟩ := HXW0.out _ gb
  obtain ⟨y0_0, y0_1, y0_2, y0_3, y0_4, y0_5, y0_6⟩ := HYW0.out _ gb
  obtain z0 := HZW0.out _ gb
  obtain ⟨e0, e1, e2, e3, e4⟩ := (i1.to gb)
  obtain ⟨o0, o1, o2, q0, q1, q2⟩ := (i2.to gb)
  clear hgb
  obtain ⟨W1, hW1⟩ : ∃ W, wc = W := ⟨_, rfl⟩
  subst hW1
  replace i0 := i0.to gb
  replace i1 := i1.to gb
  replace i2 := i2.to gb
  replace zb := below_step zb gb
  have HXwc := Lib.hid (show ∀ W', Below wc.heap.size wc W' → (Bx7 W' w.heap.size (.int .i64 7) (.int .i64 (T : Int)) (.int .i64 xa) (.int .i64 xb) (.bool ng) (.slice a0 n0 c0) (.slice a1 n1 c1)) from fun W' hb => by
      apply bx7 hb
      all_goals first | assumption | assumption)
  replace gb := Below.refl wc.heap.size wc
  go_wp2_with fail
  go_ret
  exact ⟨rfl, below_step zb gb⟩

set_option maxRecDepth 100000 in
set_option maxHeartbeats 60000000 in
theorem step_tell (mB g N h nJ cJ : Nat) (u : Value) (rows cols : Int) (T : Nat) (xb : Int) (ng : Bool) (vn vd : Value) (ln ld : List Nat) (d0 d1 d2 : Value) (R1 : Nat) (nr1 : Bool) (vr1 ur1 : Value) {x : Rat}  (w : World) (hw : IsF w vn vd ln ld) (hm : Mach w mB g N u (.slice (some ⟨h, 0, none⟩) nJ cJ) rows cols) (hN : N ≤ 100000) (hJ : nJ ≤ 100000) (hT : T < nJ) (ho : Open3 w h (T * 3) d0 d1 d2) (hr1 : R1 < N) (tr1 : Tri3 w g (R1 * 3) (.bool nr1) vr1 ur1) (qr1 : IsK w nr1 vr1 ur1 x) (nh1 : h ≠ g) (nh2 : h ≠ mB)  :
    Calls Tryz.prog 39 #[.pointer (some ⟨mB, 0, none⟩), .agg #[.int .i64 10, .int .i64 (T : Int), .int .i64 (R1 : Int), .int .i64 xb, .bool ng, vn, vd]] w (SetTo w h (T * 3) x) := by
  obtain ⟨a0, n0, c0, rfl, H0, hm0⟩ := hw.1.open
  obtain ⟨a1, n1, c1, rfl, H1, hm1⟩ := hw.2.open
  have qq := qr1.1
  have Hx1 := isQ_sz qq
  obtain ⟨ra1, rn1, rc1, rfl, RH1, rm1⟩ := qr1.1.1.open
  obtain ⟨sa1, sn1, sc1, rfl, SH1, sm1⟩ := qr1.1.2.1.open
  have ri1 : (R1 : Int) < (N : Int) := by omega
  have ti1 : (T : Int) < (nJ : Int) := by omega
  have lm := hm.lt
  have lt1 := tr1.lt
  have lo := ho.lt
  have m1 := Ne.symm nh1
  have m2 := Ne.symm nh2
  have m3 : w.heap.size ≠ h := by omega
  go_enter Tryz.func39, Tryz.ntmps39
  go_wp2_with fail
  obtain ⟨W0, hW0⟩ : ∃ W0, w.alloc (.cells #[.int .i64 10, .int .i64 (T : Int), .int .i64 (R1 : Int), .int .i64 xb, .bool ng, .slice a0 n0 c0, .slice a1 n1 c1] 49) = W0 := ⟨_, rfl⟩
  have HXW0 := Lib.hid (show ∀ W', Below W0.heap.size W0 W' → (Bx7 W' w.heap.size (.int .i64 10) (.int .i64 (T : Int)) (.int .i64 (R1 : Int)) (.int .i64 xb) (.bool ng) (.slice a0 n0 c0) (.slice a1 n1 c1)) from fun W' hb => by
      apply bx7 hb
      all_goals first | assumption | (rw [← hW0]; simp [go_sem]))
  have zb : Below w.heap.size w W0 := by rw [← hW0]; exact below_new _ _
  rw [hW0]
  clear hW0
  have i0 := hw.to zb
  have i1 := hm.to zb
  have i2 := tr1.to zb
  have i3 := qq.to zb
  have i4 := ho.to zb
  have gb : Below W0.heap.size W0 W0 := Below.refl _ _
  obtain ⟨z0, x0_0, x0_1, x0_2, x0_3, x0_4, x0_5, x0_6, y0_0, y0_1, y0_2, y0_3, y0_4, y0_5, y0_6⟩ := HXW0.out _ gb
  obtain ⟨e0, e1, e2, e3, e4⟩ := (i1.to gb)
  obtain ⟨t10, t11, t12⟩ := (i2.to gb)
  obtain ⟨o0, o1, o2, q0, q1, q2⟩ := (i4.to gb)
  go_wp2_with fail
  go_region_held3 (fun W' => W'.cell? ⟨w.heap.size, 0, none⟩ = some (.int .i64 10) ∧ W'.cell? ⟨w.heap.size, 1, none⟩ = some (.int .i64 (T : Int)) ∧ W'.cell? ⟨w.heap.size, 2, none⟩ = some (.int .i64 (R1 : Int)) ∧ W'.cell? ⟨w.heap.size, 3, none⟩ = some (.int .i64 xb) ∧ W'.cell? ⟨w.heap.size, 4, none⟩ = some (.bool ng) ∧ W'.cell? ⟨w.heap.size, 5, none⟩ = some (.slice a0 n0 c0) ∧ W'.cell? ⟨w.heap.size, 6, none⟩ = some (.slice a1 n1 c1) ∧ W'.cell? ⟨mB, 1, none⟩ = some (.slice (some ⟨g, 0, none⟩) N N) ∧ W'.cell? ⟨mB, 4, none⟩ = some (.slice (some ⟨h, 0, none⟩) nJ cJ) ∧ W'.cell? ⟨g, R1 * 3, none⟩ = some (.bool nr1) ∧ W'.cell? ⟨g, R1 * 3 + 1, none⟩ = some (.slice ra1 rn1 rc1) ∧ W'.cell? ⟨g, R1 * 3 + 2, none⟩ = some (.slice sa1 sn1 sc1)) (first | (with_reducible exact ⟨x0_0, x0_1, x0_2, x0_3, x0_4, x0_5, x0_6, e1, e4, t10, t11, t12⟩) | (with_reducible exact ⟨cell_put (cell_put (cell_put x0_0 (.inl m3) _) (.inl m3) _) (.inl m3) _, cell_put (cell_put (cell_put x0_1 (.inl m3) _) (.inl m3) _) (.inl m3) _, cell_put (cell_put (cell_put x0_2 (.inl m3) _) (.inl m3) _) (.inl m3) _, cell_put (cell_put (cell_put x0_3 (.inl m3) _) (.inl m3) _) (.inl m3) _, cell_put (cell_put (cell_put x0_4 (.inl m3) _) (.inl m3) _) (.inl m3) _, cell_put (cell_put (cell_put x0_5 (.inl m3) _) (.inl m3) _) (.inl m3) _, cell_put (cell_put (cell_put x0_6 (.inl m3) _) (.inl m3) _) (.inl m3) _, cell_put (cell_put (cell_put e1 (.inl m2) _) (.inl m2) _) (.inl m2) _, cell_put (cell_put (cell_put e4 (.inl m2) _) (.inl m2) _) (.inl m2) _, cell_put (cell_put (cell_put t10 (.inl m1) _) (.inl m1) _) (.inl m1) _, cell_put (cell_put (cell_put t11 (.inl m1) _) (.inl m1) _) (.inl m1) _, cell_put (cell_put (cell_put t12 (.inl m1) _) (.inl m1) _) (.inl m1) _⟩) | exact ⟨x0_0, x0_1, x0_2, x0_3, x0_4, x0_5, x0_6, e1, e4, t10, t11, t12⟩) (first
    | (go_at_call 64; have gb := gb.drew; (with_reducible refine (ratio_fix nr1 _ _ _ _ _ (i3.to gb) x rfl Hx1).mono ?_); rintro e w1 ⟨ng1, a1_, n1_, c1_, p1_, m1_, k1_, rfl, g1, hb1⟩; have gb := below_step gb hb1; obtain ⟨z0, x0_0, x0_1, x0_2, x0_3, x0_4, x0_5, x0_6, y0_0, y0_1, y0_2, y0_3, y0_4, y0_5, y0_6⟩ := HXW0.out _ gb; obtain ⟨e0, e1, e2, e3, e4⟩ := (i1.to gb); obtain ⟨t10, t11, t12⟩ := (i2.to gb); obtain ⟨o0, o1, o2, q0, q1, q2⟩ := (i4.to gb)))
  go_wp2_with fail
  go_ret
  exact ⟨_, _, _, _, rfl, below_step zb gb, g1.isK, .inl rfl⟩

end Go.Proofs.YtkjcdnlpjldhaaaGreat

