/-
  The texts Vm9, VmCells, VmPush, Vm9b, merged.
-/
import Derived.Test.YtkjcdnlpjldhaaaGreatG19
import Derived.Test.YtkjcdnlpjldhaaaGreatG10
import Derived.Deep.RegionHeld3
import Derived.FnLit
import Derived.Deep.AppendLies
namespace Go.Proofs.YtkjcdnlpjldhaaaGreat
open Go.RowKit Tw
set_option linter.unusedVariables false
set_option linter.unusedSimpArgs false
attribute [local go_sem ↓] Go.wp_at_zero Go.wp_at_succ

abbrev put3 (w : World) (b o : Nat) (x y z : Value) : World := ((w.setCell ⟨b, o, none⟩ x).setCell ⟨b, o + 1, none⟩ y).setCell ⟨b, o + 2, none⟩ z

def Open3 (w : World) (b o : Nat) (c0 c1 c2 : Value) : Prop := w.cell? ⟨b, o, none⟩ = some c0 ∧ w.cell? ⟨b, o + 1, none⟩ = some c1 ∧ w.cell? ⟨b, o + 2, none⟩ = some c2 ∧
  w.frozen? ⟨b, o, none⟩ = false ∧ w.frozen? ⟨b, o + 1, none⟩ = false ∧ w.frozen? ⟨b, o + 2, none⟩ = false

theorem Open3.lt {w : World} {b o : Nat} {x y z : Value} (h : Open3 w b o x y z) : b < w.heap.size := block_lt h.1

theorem Open3.to {w w' : World} {b o : Nat} {x y z : Value} (h : Open3 w b o x y z) (hb : Below w.heap.size w w') : Open3 w' b o x y z :=
  ⟨(hb.cell (p := ⟨b, o, none⟩) h.lt).trans h.1, (hb.cell (p := ⟨b, o + 1, none⟩) h.lt).trans h.2.1, (hb.cell (p := ⟨b, o + 2, none⟩) h.lt).trans h.2.2.1,
    (hb.frozen (p := ⟨b, o, none⟩) h.lt).trans h.2.2.2.1, (hb.frozen (p := ⟨b, o + 1, none⟩) h.lt).trans h.2.2.2.2.1, (hb.frozen (p := ⟨b, o + 2, none⟩) h.lt).trans h.2.2.2.2.2⟩

def SetTo (w : World) (b o : Nat) (q : Rat) (e : Ending) (w' : World) : Prop :=
  ∃ w2 ng v u, e = .returned (.int .i64 0) ∧ Below w.heap.size w w2 ∧ IsK w2 ng v u q ∧ (w' = put3 w2 b o (.bool ng) v u ∨ w' = (put3 w2 b o (.bool ng) v u).drew)

set_option maxRecDepth 100000 in
set_option maxHeartbeats 4000000 in
theorem vm_does  (w : World)  :
    Calls Tryz.prog 65 #[] w (fun e w' => e = .returned (.agg #[.func (.func 91) #[] #[], .func (.func 92) #[] #[], .func (.func 93) #[] #[], .func (.func 94) #[] #[], .func (.func 95) #[] #[], .func (.func 96) #[] #[], .func (.func 97) #[] #[], .func (.func 98) #[] #[], .func (.func 95) #[] #[], .func (.func 93) #[] #[]]) ∧ Below w.heap.size w w') := by
  go_enter Tryz.func65, Tryz.ntmps65
  go_wp2_with fail
  exact bodyPost_ret (v := .agg #[.func (.func 91) #[] #[], .func (.func 92) #[] #[], .func (.func 93) #[] #[], .func (.func 94) #[] #[], .func (.func 95) #[] #[], .func (.func 96) #[] #[], .func (.func 97) #[] #[], .func (.func 98) #[] #[], .func (.func 95) #[] #[], .func (.func 93) #[] #[]]) (by simp [results, Tryz.results65, go_sem]) rfl ⟨rfl, below_new _ _⟩

theorem tab_0 (w : World) : (Instr.index 121 (.agg #[.func (.func 91) #[] #[], .func (.func 92) #[] #[], .func (.func 93) #[] #[], .func (.func 94) #[] #[], .func (.func 95) #[] #[], .func (.func 96) #[] #[], .func (.func 97) #[] #[], .func (.func 98) #[] #[], .func (.func 95) #[] #[], .func (.func 93) #[] #[]]) (.int .i64 0)).run Tryz.prog w = .ok (.func (.func 91) #[] #[]) w := by
  kernel_rfl

theorem tab_1 (w : World) : (Instr.index 121 (.agg #[.func (.func 91) #[] #[], .func (.func 92) #[] #[], .func (.func 93) #[] #[], .func (.func 94) #[] #[], .func (.func 95) #[] #[], .func (.func 96) #[] #[], .func (.func 97) #[] #[], .func (.func 98) #[] #[], .func (.func 95) #[] #[], .func (.func 93) #[] #[]]) (.int .i64 1)).run Tryz.prog w = .ok (.func (.func 92) #[] #[]) w := by
  kernel_rfl

theorem tab_2 (w : World) : (Instr.index 121 (.agg #[.func (.func 91) #[] #[], .func (.func 92) #[] #[], .func (.func 93) #[] #[], .func (.func 94) #[] #[], .func (.func 95) #[] #[], .func (.func 96) #[] #[], .func (.func 97) #[] #[], .func (.func 98) #[] #[], .func (.func 95) #[] #[], .func (.func 93) #[] #[]]) (.int .i64 2)).run Tryz.prog w = .ok (.func (.func 93) #[] #[]) w := by
  kernel_rfl

theorem tab_3 (w : World) : (Instr.index 121 (.agg #[.func (.func 91) #[] #[], .func (.func 92) #[] #[], .func (.func 93) #[] #[], .func (.func 94) #[] #[], .func (.func 95) #[] #[], .func (.func 96) #[] #[], .func (.func 97) #[] #[], .func (.func 98) #[] #[], .func (.func 95) #[] #[], .func (.func 93) #[] #[]]) (.int .i64 3)).run Tryz.prog w = .ok (.func (.func 94) #[] #[]) w := by
  kernel_rfl

theorem tab_4 (w : World) : (Instr.index 121 (.agg #[.func (.func 91) #[] #[], .func (.func 92) #[] #[], .func (.func 93) #[] #[], .func (.func 94) #[] #[], .func (.func 95) #[] #[], .func (.func 96) #[] #[], .func (.func 97) #[] #[], .func (.func 98) #[] #[], .func (.func 95) #[] #[], .func (.func 93) #[] #[]]) (.int .i64 4)).run Tryz.prog w = .ok (.func (.func 95) #[] #[]) w := by
  kernel_rfl

theorem tab_5 (w : World) : (Instr.index 121 (.agg #[.func (.func 91) #[] #[], .func (.func 92) #[] #[], .func (.func 93) #[] #[], .func (.func 94) #[] #[], .func (.func 95) #[] #[], .func (.func 96) #[] #[], .func (.func 97) #[] #[], .func (.func 98) #[] #[], .func (.func 95) #[] #[], .func (.func 93) #[] #[]]) (.int .i64 5)).run Tryz.prog w = .ok (.func (.func 96) #[] #[]) w := by
  kernel_rfl

theorem tab_6 (w : World) : (Instr.index 121 (.agg #[.func (.func 91) #[] #[], .func (.func 92) #[] #[], .func (.func 93) #[] #[], .func (.func 94) #[] #[], .func (.func 95) #[] #[], .func (.func 96) #[] #[], .func (.func 97) #[] #[], .func (.func 98) #[] #[], .func (.func 95) #[] #[], .func (.func 93) #[] #[]]) (.int .i64 6)).run Tryz.prog w = .ok (.func (.func 97) #[] #[]) w := by
  kernel_rfl

theorem tab_7 (w : World) : (Instr.index 121 (.agg #[.func (.func 91) #[] #[], .func (.func 92) #[] #[], .func (.func 93) #[] #[], .func (.func 94) #[] #[], .func (.func 95) #[] #[], .func (.func 96) #[] #[], .func (.func 97) #[] #[], .func (.func 98) #[] #[], .func (.func 95) #[] #[], .func (.func 93) #[] #[]]) (.int .i64 7)).run Tryz.prog w = .ok (.func (.func 98) #[] #[]) w := by
  kernel_rfl

theorem tab_8 (w : World) : (Instr.index 121 (.agg #[.func (.func 91) #[] #[], .func (.func 92) #[] #[], .func (.func 93) #[] #[], .func (.func 94) #[] #[], .func (.func 95) #[] #[], .func (.func 96) #[] #[], .func (.func 97) #[] #[], .func (.func 98) #[] #[], .func (.func 95) #[] #[], .func (.func 93) #[] #[]]) (.int .i64 8)).run Tryz.prog w = .ok (.func (.func 95) #[] #[]) w := by
  kernel_rfl

theorem tab_9 (w : World) : (Instr.index 121 (.agg #[.func (.func 91) #[] #[], .func (.func 92) #[] #[], .func (.func 93) #[] #[], .func (.func 94) #[] #[], .func (.func 95) #[] #[], .func (.func 96) #[] #[], .func (.func 97) #[] #[], .func (.func 98) #[] #[], .func (.func 95) #[] #[], .func (.func 93) #[] #[]]) (.int .i64 9)).run Tryz.prog w = .ok (.func (.func 93) #[] #[]) w := by
  kernel_rfl

set_option maxRecDepth 100000 in
set_option maxHeartbeats 60000000 in
theorem step_val_0 (mB g N : Nat) (u vJ : Value) (rows cols : Int) (T : Nat) (xa xb : Int) (ng : Bool) (vn vd : Value) (ln ld : List Nat) (d0 d1 d2 : Value) {v : Rat}  (w : World) (hw : IsF w vn vd ln ld) (hm : Mach w mB g N u vJ rows cols) (hN : N ≤ 100000) (hT : T < N) (ho : Open3 w g (T * 3) d0 d1 d2) (hs : szq v ≤ 4096) (hcall : ∀ V, Below w.heap.size w V → Calls Tryz.prog 91 #[.pointer (some ⟨mB, 0, none⟩), .agg #[.int .i64 0, .int .i64 (T : Int), .int .i64 xa, .int .i64 xb, .bool ng, vn, vd]] V (GivesQK V v))  :
    Calls Tryz.prog 39 #[.pointer (some ⟨mB, 0, none⟩), .agg #[.int .i64 0, .int .i64 (T : Int), .int .i64 xa, .int .i64 xb, .bool ng, vn, vd]] w (SetTo w g (T * 3) v) := by
  obtain ⟨a0, n0, c0, rfl, H0, hm0⟩ := hw.1.open
  obtain ⟨a1, n1, c1, rfl, H1, hm1⟩ := hw.2.open
  have hTi : (T : Int) < (N : Int) := by omega
  have lm := hm.lt
  have lo := ho.lt
  have Hs := Lib.hid hs
  have HC := Lib.hid hcall
  clear hs hcall
  go_enter Tryz.func39, Tryz.ntmps39
  go_wp2_with fail
  obtain ⟨W0, hW0⟩ : ∃ W0, w.alloc (.cells #[.int .i64 0, .int .i64 (T : Int), .int .i64 xa, .int .i64 xb, .bool ng, .slice a0 n0 c0, .slice a1 n1 c1] 49) = W0 := ⟨_, rfl⟩
  have HXW0 := Lib.hid (show ∀ W', Below W0.heap.size W0 W' → (W'.cell? ⟨w.heap.size, 0, none⟩ = some (.int .i64 0) ∧ W'.cell? ⟨w.heap.size, 1, none⟩ = some (.int .i64 (T : Int)) ∧ W'.cell? ⟨w.heap.size, 2, none⟩ = some (.int .i64 xa) ∧ W'.cell? ⟨w.heap.size, 3, none⟩ = some (.int .i64 xb) ∧ W'.cell? ⟨w.heap.size, 4, none⟩ = some (.bool ng) ∧ W'.cell? ⟨w.heap.size, 5, none⟩ = some (.slice a0 n0 c0) ∧ W'.cell? ⟨w.heap.size, 6, none⟩ = some (.slice a1 n1 c1)) from fun W' hb =>
    by and_intros <;> exact kc hb (by first | assumption | (rw [← hW0]; simp [go_sem])))
  have HYW0 := Lib.hid (show ∀ W', Below W0.heap.size W0 W' → (W'.frozen? ⟨w.heap.size, 0, none⟩ = false ∧ W'.frozen? ⟨w.heap.size, 1, none⟩ = false ∧ W'.frozen? ⟨w.heap.size, 2, none⟩ = false ∧ W'.frozen? ⟨w.heap.size, 3, none⟩ = false ∧ W'.frozen? ⟨w.heap.size, 4, none⟩ = false ∧ W'.frozen? ⟨w.heap.size, 5, none⟩ = false ∧ W'.frozen? ⟨w.heap.size, 6, none⟩ = false) from fun W' hb =>
    ⟨(hb.frozen (p := ⟨w.heap.size, 0, none⟩) (by rw [← hW0]; simp <;> omega)).trans (by rw [← hW0]; simp [go_sem]), (hb.frozen (p := ⟨w.heap.size, 1, none⟩) (by rw [← hW0]; simp <;> omega)).trans (by rw [← hW0]; simp [go_sem]), (hb.frozen (p := ⟨w.heap.size, 2, none⟩) (by rw [← hW0]; simp <;> omega)).trans (by rw [← hW0]; simp [go_sem]), (hb.frozen (p := ⟨w.heap.size, 3, none⟩) (by rw [← hW0]; simp <;> omega)).trans (by rw [← hW0]; simp [go_sem]), (hb.frozen (p := ⟨w.heap.size, 4, none⟩) (by rw [← hW0]; simp <;> omega)).trans (by rw [← hW0]; simp [go_sem]), (hb.frozen (p := ⟨w.heap.size, 5, none⟩) (by rw [← hW0]; simp <;> omega)).trans (by rw [← hW0]; simp [go_sem]), (hb.frozen (p := ⟨w.heap.size, 6, none⟩) (by rw [← hW0]; simp <;> omega)).trans (by rw [← hW0]; simp [go_sem])⟩)
  have HZW0 := Lib.hid (show ∀ W', Below W0.heap.size W0 W' → (w.heap.size < W'.heap.size) from fun W' hb =>
    Nat.lt_of_lt_of_le (by rw [← hW0]; simp <;> omega) hb.size)
  have zb : Below w.heap.size w W0 := by rw [← hW0]; exact below_new _ _
  rw [hW0]
  clear hW0
  have i0 := hw.to zb
  have i1 := hm.to zb
  have i2 := ho.to zb
  have gb : Below W0.heap.size W0 W0 := Below.refl _ _
  obtain ⟨x0_0, x0_1, x0_2, x0_3, x0_4, x0_5, x0_6⟩ := HXW0.out _ gb
  obtain ⟨y0_0, y0_1, y0_2, y0_3, y0_4, y0_5, y0_6⟩ := HYW0.out _ gb
  obtain z0 := HZW0.out _ gb
  obtain ⟨e0, e1, e2, e3, e4⟩ := (i1.to gb)
  obtain ⟨o0, o1, o2, q0, q1, q2⟩ := (i2.to gb)
  go_wp2_with fail
  have htab := tab_0
  have hgb := gb
  go_upto_region 4 with fail
  go_cut [5, 6] from 28 (fun s5 s6 wx => BoxQ W0 (v) s5 wx ∧ s6 = .int .i64 0)
  case first =>
    go_region_held3 (fun W' => W'.cell? ⟨w.heap.size, 0, none⟩ = some (.int .i64 0) ∧ W'.cell? ⟨w.heap.size, 1, none⟩ = some (.int .i64 (T : Int)) ∧ W'.cell? ⟨w.heap.size, 2, none⟩ = some (.int .i64 xa) ∧ W'.cell? ⟨w.heap.size, 3, none⟩ = some (.int .i64 xb) ∧ W'.cell? ⟨w.heap.size, 4, none⟩ = some (.bool ng) ∧ W'.cell? ⟨w.heap.size, 5, none⟩ = some (.slice a0 n0 c0) ∧ W'.cell? ⟨w.heap.size, 6, none⟩ = some (.slice a1 n1 c1)) (first | (with_reducible exact HXW0.out _ gb) | ((with_reducible refine HXW0.out _ ?_); first | ((with_reducible refine Below.drew ?_); first | (with_reducible exact gb) | ((with_reducible refine below_set3 ?_ ?_ _ _ _); rotate_left; (first | (with_reducible exact et1_R_0) | (with_reducible exact et2_R_0)); with_reducible exact gb) | ((with_reducible refine below_step ?_ (below_new _ _)); with_reducible exact gb)) | (first | (with_reducible exact gb) | ((with_reducible refine below_set3 ?_ ?_ _ _ _); rotate_left; (first | (with_reducible exact et1_R_0) | (with_reducible exact et2_R_0)); first | (with_reducible exact gb) | ((with_reducible refine below_set3 ?_ ?_ _ _ _); rotate_left; (first | (with_reducible exact et1_R_0) | (with_reducible exact et2_R_0)); with_reducible exact gb) | ((with_reducible refine below_step ?_ (below_new _ _)); with_reducible exact gb)) | ((with_reducible refine below_step ?_ (below_new _ _)); first | (with_reducible exact gb) | ((with_reducible refine below_set3 ?_ ?_ _ _ _); rotate_left; (first | (with_reducible exact et1_R_0) | (with_reducible exact et2_R_0)); with_reducible exact gb) | ((with_reducible refine below_step ?_ (below_new _ _)); with_reducible exact gb))))) (first
      | (go_at_call 91; (refine calls_gen w1 (by first | with_reducible exact Below.refl _ _ | with_reducible exact below_new _ _) ?_); intro V2 hV2 hbV2; have hsV2 := hbV2.size; have hu2 := gb.size; have gb := below_step gb hbV2; (try have t1_R_0 := t1_R_0.to hbV2); (try have t2_R_0 : Tri V2 (w1.heap.size) (.bool false) (.slice none 0 0) (.slice none 0 0) := (by rw [hV2]; first | with_reducible exact tri_new _ (.bool false) (.slice none 0 0) (.slice none 0 0) _ | with_reducible exact (tri_new _ (.bool false) (.slice none 0 0) (.slice none 0 0) _).alloc _)); have et2_R_0 : W0.heap.size ≤ w1.heap.size := (hu2); (try have vt1_R_0_2 := t1_R_0.lt); (try have vt2_R_0_2 := t2_R_0.lt); (with_reducible refine (HC.out _ (below_step zb gb)).mono ?_); rintro e w2 ⟨ng2, a2_, n2_, c2_, p2_, m2_, k2_, rfl, g2, hb2⟩; have gb := below_step gb hb2; have hs2 := hb2.size; (try have t1_R_0 := t1_R_0.to hb2); (try have t2_R_0 := t2_R_0.to hb2); (try have lt1_R_0_2 := t1_R_0.lt); (try have lt2_R_0_2 := t2_R_0.lt); (try (have qt1_R_0 := t1_R_0; obtain ⟨rt1_R_00, rt1_R_01, rt1_R_02, st1_R_00, st1_R_01, st1_R_02⟩ := qt1_R_0)); (try (have qt2_R_0 := t2_R_0; obtain ⟨rt2_R_00, rt2_R_01, rt2_R_02, st2_R_00, st2_R_01, st2_R_02⟩ := qt2_R_0)))
      | (go_at_call 65; (refine calls_gen W0 (by first | with_reducible exact (Below.refl _ _).drew | with_reducible exact (below_new _ _).drew) ?_); intro V1 hV1 hbV1; have hsV1 := hbV1.size; have hu1 := gb.size; have gb := below_step gb hbV1; (try have t1_R_0 : Tri V1 (W0.heap.size) (.bool false) (.slice none 0 0) (.slice none 0 0) := (by rw [hV1]; first | with_reducible exact (tri_new _ (.bool false) (.slice none 0 0) (.slice none 0 0) _).drew | with_reducible exact ((tri_new _ (.bool false) (.slice none 0 0) (.slice none 0 0) _).alloc _).drew)); have et1_R_0 : W0.heap.size ≤ W0.heap.size := (hu1); (try have vt1_R_0_1 := t1_R_0.lt); (with_reducible refine (vm_does _).mono ?_); rintro e w1 ⟨rfl, hb1⟩; have gb := below_step gb hb1; have hs1 := hb1.size; (try have t1_R_0 := t1_R_0.to hb1); (try have lt1_R_0_1 := t1_R_0.lt); (try (have qt1_R_0 := t1_R_0; obtain ⟨rt1_R_00, rt1_R_01, rt1_R_02, st1_R_00, st1_R_01, st1_R_02⟩ := qt1_R_0))))
    all_goals (go_wp2_with fail; go_meet)
    all_goals refine ⟨?_, rfl⟩
    all_goals first
      | (with_reducible exact boxQ_old t1_R_0 g2 (.inl vt1_R_0_2) gb et1_R_0)
      | (with_reducible exact boxQ_old t2_R_0 g2 (.inl vt2_R_0_2) gb et2_R_0)
      | (with_reducible exact boxQ_new g2 gb)
  case rest =>
  obtain ⟨⟨B3, ng2, a2_, n2_, c2_, p2_, m2_, k2_, lo3, hi3, rfl, hB3, T3, g2, hc3⟩, rfl⟩ := hcut
  clear x0_0 y0_0 x0_1 y0_1 x0_2 y0_2 x0_3 y0_3 x0_4 y0_4 x0_5 y0_5 x0_6 y0_6 e0 e1 e2 e3 e4 o0 o1 o2 q0 q1 q2
  have gb := hc3
  obtain ⟨x0_0, x0_1, x0_2, x0_3, x0_4, x0_5, x0_6⟩ := HXW0.out _ gb
  obtain ⟨y0_0, y0_1, y0_2, y0_3, y0_4, y0_5, y0_6⟩ := HYW0.out _ gb
  obtain z0 := HZW0.out _ gb
  obtain ⟨e0, e1, e2, e3, e4⟩ := (i1.to gb)
  obtain ⟨o0, o1, o2, q0, q1, q2⟩ := (i2.to gb)
  have z3 := T3.lt
  obtain ⟨x3_0, x3_1, x3_2, y3_0, y3_1, y3_2⟩ := T3
  clear hgb
  obtain ⟨W1, hW1⟩ : ∃ W, wc = W := ⟨_, rfl⟩
  subst hW1
  replace i0 := i0.to gb
  replace i1 := i1.to gb
  replace i2 := i2.to gb
  replace zb := below_step zb gb
  have HXwc := Lib.hid (show ∀ W', Below wc.heap.size wc W' → (Bx7 W' w.heap.size (.int .i64 0) (.int .i64 (T : Int)) (.int .i64 xa) (.int .i64 xb) (.bool ng) (.slice a0 n0 c0) (.slice a1 n1 c1) ∧ Bx3 W' B3 (.bool ng2) (.slice a2_ n2_ c2_) (.slice p2_ m2_ k2_)) from fun W' hb => by
      refine ⟨bx7 hb ?_ ?_ ?_ ?_ ?_ ?_ ?_ ?_ ?_ ?_ ?_ ?_ ?_ ?_, bx3 hb ?_ ?_ ?_ ?_ ?_ ?_⟩
      all_goals first | assumption | assumption)
  replace gb := Below.refl wc.heap.size wc
  go_wp2_with fail
  obtain ⟨m, hm9⟩ : ∃ m : Nat, ((max (limbs v.num.natAbs).length (limbs v.den).length : Nat)) = m := ⟨_, rfl⟩
  have HM := Lib.hid (show ((max (limbs v.num.natAbs).length (limbs v.den).length : Nat) : Int) = (m : Int) by rw [hm9])
  have hm4 : m ≤ 4096 := by have := Hs.out; unfold szq at this; rw [sz_def, sz_def] at hm9; omega
  have t4 : decide (4096 < m) = false := decide_eq_false (by omega)
  have t5 : decide ((4096 : Int) < (m : Int)) = false := decide_eq_false (by omega)
  clear hm9 hm4
  refine (vm_words ng2 _ _ _ _ _ (g2.to gb).isF (m : Int) HM.out).mono ?_
  clear x0_0 y0_0 x0_1 y0_1 x0_2 y0_2 x0_3 y0_3 x0_4 y0_4 x0_5 y0_5 x0_6 y0_6 x3_0 y3_0 x3_1 y3_1 x3_2 y3_2 e0 e1 e2 e3 e4 o0 o1 o2 q0 q1 q2
  rintro e w3 ⟨rfl, hb3⟩
  replace gb := below_step gb hb3
  obtain ⟨⟨z0, x0_0, x0_1, x0_2, x0_3, x0_4, x0_5, x0_6, y0_0, y0_1, y0_2, y0_3, y0_4, y0_5, y0_6⟩, ⟨z3, x3_0, x3_1, x3_2, y3_0, y3_1, y3_2⟩⟩ := HXwc.out _ gb
  obtain ⟨e0, e1, e2, e3, e4⟩ := (i1.to gb)
  obtain ⟨o0, o1, o2, q0, q1, q2⟩ := (i2.to gb)
  go_wp2_with fail
  go_region
  go_wp2_with fail
  go_ret
  exact ⟨_, _, _, _, rfl, below_step zb gb, (g2.to gb).isK, .inr rfl⟩

end Go.Proofs.YtkjcdnlpjldhaaaGreat


namespace Go.Proofs.YtkjcdnlpjldhaaaGreat
open Go.RowKit Tw
set_option linter.unusedVariables false
set_option linter.unusedSimpArgs false

section
variable {w w' : World} {ng : Bool} {v u x y z : Value} {l : List Nat} {q : Rat}

theorem Rd.put (h : Rd w v l) {p : Addr} {c : Value} (hc : w.cell? p = some c) (hn : ∀ z, c ≠ .int .u32 z) (x : Value) : Rd (w.setCell p x) v l := by
  refine ⟨h.1, ?_⟩
  rcases h.2 with h | ⟨b, off, cap, hv, hl, hc', hm, hcell⟩
  · exact .inl h
  · refine .inr ⟨b, off, cap, hv, hl, hc', hm, fun i hi => ?_⟩
    have h1 := hcell i hi
    have hne : p ≠ ⟨b, off + i, none⟩ := fun e => by
      subst e
      rw [h1] at hc
      injection hc with hc
      exact hn _ hc.symm
    rw [World.cell?_setCell_other (h := by first | exact hne | exact hne.symm), h1]

theorem Open3.put_self {b o : Nat} {c0 c1 c2 : Value} (h : Open3 w b o c0 c1 c2) (x y z : Value) : Open3 (put3 w b o x y z) b o x y z :=
  ⟨cell_put (cell_put (cell_same h.1 _) (.inr (by omega)) _) (.inr (by omega)) _, cell_put (cell_same (cell_put h.2.1 (.inr (by omega)) _) _) (.inr (by omega)) _,
    cell_same (cell_put (cell_put h.2.2.1 (.inr (by omega)) _) (.inr (by omega)) _) _, by simp [go_sem, h.2.2.2.1], by simp [go_sem, h.2.2.2.2.1], by simp [go_sem, h.2.2.2.2.2]⟩

theorem put3_cell {b o b' o' : Nat} {c : Value} (h : w.cell? ⟨b, o, none⟩ = some c) (hne : b ≠ b' ∨ o < o' ∨ o' + 2 < o) (x y z : Value) : (put3 w b' o' x y z).cell? ⟨b, o, none⟩ = some c := by
  have h0 : b ≠ b' ∨ o ≠ o' := by omega
  have h1 : b ≠ b' ∨ o ≠ o' + 1 := by omega
  have h2 : b ≠ b' ∨ o ≠ o' + 2 := by omega
  exact cell_put (cell_put (cell_put h h0 _) h1 _) h2 _

theorem put3_frozen {b o b' o' : Nat} {f : Bool} (h : w.frozen? ⟨b, o, none⟩ = f) (x y z : Value) : (put3 w b' o' x y z).frozen? ⟨b, o, none⟩ = f := by simp [go_sem, h]

theorem Open3.put {b o b' o' : Nat} {c0 c1 c2 : Value} (h : Open3 w b o c0 c1 c2) (hne : b ≠ b' ∨ o + 2 < o' ∨ o' + 2 < o) (x y z : Value) : Open3 (put3 w b' o' x y z) b o c0 c1 c2 :=
  ⟨put3_cell h.1 (by omega) _ _ _, put3_cell h.2.1 (by omega) _ _ _, put3_cell h.2.2.1 (by omega) _ _ _, put3_frozen h.2.2.2.1 _ _ _, put3_frozen h.2.2.2.2.1 _ _ _, put3_frozen h.2.2.2.2.2 _ _ _⟩

theorem Rd.put3 (h : Rd w v l) {b o : Nat} {b0 : Bool} {a a' : Option Addr} {n c n' c' : Nat} (ho : Open3 w b o (.bool b0) (.slice a n c) (.slice a' n' c')) (x y z : Value) : Rd (put3 w b o x y z) v l := by
  have h1 := h.put ho.1 (fun z e => by cases e) x
  have h2 := h1.put (cell_put ho.2.1 (.inr (by omega)) x) (fun z e => by cases e) y
  exact h2.put (cell_put (cell_put ho.2.2.1 (.inr (by omega)) x) (.inr (by omega)) y) (fun z e => by cases e) z

theorem IsK.put3 (h : IsK w ng v u q) {b o : Nat} {b0 : Bool} {a a' : Option Addr} {n c n' c' : Nat} (ho : Open3 w b o (.bool b0) (.slice a n c) (.slice a' n' c')) (x y z : Value) : IsK (put3 w b o x y z) ng v u q :=
  ⟨⟨h.1.1.put3 ho x y z, h.1.2.1.put3 ho x y z, h.1.2.2⟩, h.2⟩

def Row3 (w : World) (g N : Nat) (P : Nat → Prop) (R : Nat → Rat) : Prop :=
  ∀ r, r < N → ∃ b a n c a' n' c', Open3 w g (r * 3) (.bool b) (.slice a n c) (.slice a' n' c') ∧ (P r → IsK w b (.slice a n c) (.slice a' n' c') (R r))

theorem Row3.to {g N : Nat} {P : Nat → Prop} {R : Nat → Rat} (h : Row3 w g N P R) (hb : Below w.heap.size w w') : Row3 w' g N P R := fun r hr =>
  let ⟨b, a, n, c, a', n', c', h1, h2⟩ := h r hr
  ⟨b, a, n, c, a', n', c', h1.to hb, fun hp => (h2 hp).to hb⟩

theorem Row3.cast {g N : Nat} {P P' : Nat → Prop} {R R' : Nat → Rat} (h : Row3 w g N P R) (hP : ∀ r, r < N → P' r → P r ∧ R r = R' r) : Row3 w g N P' R' := fun r hr =>
  let ⟨b, a, n, c, a', n', c', h1, h2⟩ := h r hr
  ⟨b, a, n, c, a', n', c', h1, fun hp => by have := hP r hr hp; rw [← this.2]; exact h2 this.1⟩

theorem Row3.put {g N T : Nat} {P : Nat → Prop} {R : Nat → Rat} (h : Row3 w g N P R) (hT : T < N) {a a' : Option Addr} {n c n' c' : Nat} (hk : IsK w ng (.slice a n c) (.slice a' n' c') q) :
    Row3 (put3 w g (T * 3) (.bool ng) (.slice a n c) (.slice a' n' c')) g N (fun r => r = T ∨ P r) (fun r => if r = T then q else R r) := by
  obtain ⟨b0, a0, n0, c0, a0', n0', c0', o0, _⟩ := h T hT
  intro r hr
  by_cases e : r = T
  · subst e
    exact ⟨ng, a, n, c, a', n', c', o0.put_self _ _ _, fun _ => by show IsK _ _ _ _ (if r = r then q else R r); rw [if_pos rfl]; exact hk.put3 o0 _ _ _⟩
  · obtain ⟨b1, a1, n1, c1, a1', n1', c1', o1, k1⟩ := h r hr
    refine ⟨b1, a1, n1, c1, a1', n1', c1', o1.put (.inr (by omega)) _ _ _, fun hp => ?_⟩
    show IsK _ _ _ _ (if r = T then q else R r)
    rw [if_neg e]
    rcases hp with hp | hp
    · exact absurd hp e
    · exact (k1 hp).put3 o0 _ _ _

theorem Row3.other {g N b o : Nat} {P : Nat → Prop} {R : Nat → Rat} (h : Row3 w g N P R) (hne : g ≠ b) {b0 : Bool} {a a' : Option Addr} {n c n' c' : Nat} (ho : Open3 w b o (.bool b0) (.slice a n c) (.slice a' n' c')) (x y z : Value) :
    Row3 (put3 w b o x y z) g N P R := fun r hr =>
  let ⟨b1, a1, n1, c1, a1', n1', c1', o1, k1⟩ := h r hr
  ⟨b1, a1, n1, c1, a1', n1', c1', o1.put (.inl hne) _ _ _, fun hp => (k1 hp).put3 ho _ _ _⟩

theorem row3_new {g N : Nat} {t : TypeId} {cs : Array Value} (hh : w.heap[g]? = some (.cells cs t (0, 0))) (hs : ∀ r, r < N → cs[r * 3]? = some (.bool false) ∧ cs[r * 3 + 1]? = some (.slice none 0 0) ∧ cs[r * 3 + 2]? = some (.slice none 0 0)) (R : Nat → Rat) :
    Row3 w g N (fun _ => False) R := fun r hr => by
  obtain ⟨s0, s1, s2⟩ := hs r hr
  refine ⟨false, none, 0, 0, none, 0, 0, ⟨?_, ?_, ?_, frozen_of_row w g _ cs t hh, frozen_of_row w g _ cs t hh, frozen_of_row w g _ cs t hh⟩, fun h => h.elim⟩
  · rw [cell_of_row w g _ cs t (0, 0) hh, s0]
  · rw [cell_of_row w g _ cs t (0, 0) hh, s1]
  · rw [cell_of_row w g _ cs t (0, 0) hh, s2]

theorem made3 {N r : Nat} (hr : r < N) (z0 z1 z2 : Value) :
    (madeCells #[z0, z1, z2] (N * 3))[r * 3]? = some z0 ∧ (madeCells #[z0, z1, z2] (N * 3))[r * 3 + 1]? = some z1 ∧ (madeCells #[z0, z1, z2] (N * 3))[r * 3 + 2]? = some z2 := by
  have h0 : r * 3 < N * 3 := by omega
  have h1 : r * 3 + 1 < N * 3 := by omega
  have h2 : r * 3 + 2 < N * 3 := by omega
  unfold madeCells
  refine ⟨?_, ?_, ?_⟩ <;> simp [h0, h1, h2]

def Far (v : Value) (row : Option Nat) : Prop := ∀ b o n c, v = .slice (some ⟨b, o, none⟩) n c → 0 < n → row ≠ some b

theorem Rd.grown {row : Option Nat} (h : Rd w v l) (hg : w.grownBy w' row) (hf : Far v row) : Rd w' v l := by
  refine ⟨h.1, ?_⟩
  rcases h.2 with h | ⟨b, off, cap, hv, hl, hc, hm, hcell⟩
  · exact .inl h
  · refine .inr ⟨b, off, cap, hv, hl, hc, hm, fun i hi => ?_⟩
    have h1 := hcell i hi
    rw [hg.cell_far ⟨b, off + i, none⟩ (block_lt h1) (fun e => hf _ _ _ _ hv hl e.symm)]
    exact h1

theorem IsK.grown {row : Option Nat} (h : IsK w ng v u q) (hg : w.grownBy w' row) (hf : Far v row) (hf' : Far u row) : IsK w' ng v u q :=
  ⟨⟨h.1.1.grown hg hf, h.1.2.1.grown hg hf', h.1.2.2⟩, h.2⟩

theorem Rd.far_new (h : Rd w v l) {g : Nat} (hg : w.heap.size ≤ g) : Far v (some g) := by
  intro b o n c e hn
  rcases h.2 with ⟨_, a, cap, hv, _⟩ | ⟨b', off, cap, hv, hl, hc, hm, hcell⟩
  · rw [hv] at e
    injection e with e1 e2 e3
    omega
  · rw [hv] at e
    injection e with e1 e2 e3
    injection e1 with e1
    injection e1 with e1 e4
    have h1 := block_lt (hcell 0 hl)
    intro k
    injection k with k
    omega

theorem Own.far {lo g : Nat} (h : Own lo w v l) (hg : g < lo) : Far v (some g) := by
  intro b o n c e hn k
  injection k with k
  have := (h.lt b (by rw [e]; rfl)).1
  omega

def OwnR (base : Nat) (w : World) (v : Value) (qs : List Rat) : Prop :=
  ∃ xs, w.ownsRow base 47 3 v qs.length xs ∧ ∀ k (h : k < qs.length), ∃ b a n c a' n' c', xs[k * 3]? = some (.bool b) ∧ xs[k * 3 + 1]? = some (.slice a n c) ∧ xs[k * 3 + 2]? = some (.slice a' n' c') ∧
    IsK w b (.slice a n c) (.slice a' n' c') qs[k] ∧ Far (.slice a n c) v.ownBlock ∧ Far (.slice a' n' c') v.ownBlock

theorem OwnR.nil (base : Nat) (w : World) : OwnR base w (.slice none 0 0) [] := ⟨[], World.ownsRow_nil w base _ 3, fun k h => absurd h (by simp)⟩

theorem ownsRow_to {base : Nat} {e : TypeId} {s n : Nat} {xs : List Value} (h : w.ownsRow base e s v n xs) (hb : Below w.heap.size w w') : w'.ownsRow base e s v n xs := by
  refine ⟨h.1, ?_⟩
  rcases h.2 with h2 | ⟨g, cap, cur, hv, hg, hh, r⟩
  · exact .inl h2
  · refine .inr ⟨g, cap, cur, hv, hg, ?_, r⟩
    have hlt : g < w.heap.size := by
      rcases Nat.lt_or_ge g w.heap.size with h | h
      · exact h
      · rw [Array.getElem?_eq_none h] at hh; cases hh
    rw [hb.block g hlt]; exact hh

theorem OwnR.to {base : Nat} {qs : List Rat} (h : OwnR base w v qs) (hb : Below w.heap.size w w') : OwnR base w' v qs := by
  obtain ⟨xs, h1, h2⟩ := h
  refine ⟨xs, ownsRow_to h1 hb, fun k hk => ?_⟩
  obtain ⟨b, a, n, c, a', n', c', s0, s1, s2, k1, f1, f2⟩ := h2 k hk
  exact ⟨b, a, n, c, a', n', c', s0, s1, s2, k1.to hb, f1, f2⟩

theorem OwnR.len {base : Nat} {qs : List Rat} (h : OwnR base w v qs) : ∃ xs, w.ownsRow base 47 3 v qs.length xs := ⟨_, h.choose_spec.1⟩

theorem OwnR.lt {base : Nat} {qs : List Rat} (h : OwnR base w v qs) : ∀ k, v.ownBlock = some k → base ≤ k ∧ k < w.heap.size := by
  obtain ⟨xs, h1, _⟩ := h
  exact World.ownsRow.lt h1

theorem OwnR.form {base : Nat} {qs : List Rat} (h : OwnR base w v qs) : ∃ a cap, v = .slice a qs.length cap ∧ (0 < qs.length → ∃ g, a = some ⟨g, 0, none⟩ ∧ base ≤ g ∧ g < w.heap.size) := by
  obtain ⟨xs, h1, _⟩ := h
  rcases h1.2 with ⟨hv, h0⟩ | ⟨g, cap, cur, hv, hg, hh, r⟩
  · exact ⟨none, 0, by rw [hv, h0], fun h => by omega⟩
  · exact ⟨_, cap, hv, fun _ => ⟨g, rfl, hg, (Array.getElem?_eq_some_iff.1 hh).1⟩⟩

theorem OwnR.push {base : Nat} {qs : List Rat} (h : OwnR base w v qs) {xs : List Value} (hx : w.ownsRow base 47 3 v qs.length xs) {g cap : Nat} {b : Bool} {a a' : Option Addr} {n c n' c' : Nat}
    (hown : w'.ownsRow base 47 3 (.slice (some ⟨g, 0, none⟩) (qs.length + 1) cap) (qs.length + 1) (xs ++ [.bool b, .slice a n c, .slice a' n' c'])) (hgrow : w.grownBy w' v.ownBlock) (hat : v.ownBlock = some g ∨ g = w.heap.size)
    (hk : IsK w b (.slice a n c) (.slice a' n' c') q) (f1 : Far (.slice a n c) v.ownBlock) (f2 : Far (.slice a' n' c') v.ownBlock) : OwnR base w' (.slice (some ⟨g, 0, none⟩) (qs.length + 1) cap) (qs ++ [q]) := by
  have hl : (qs ++ [q]).length = qs.length + 1 := by simp
  obtain ⟨ys, hy, h2⟩ := h
  have hxy : xs = ys := by
    rcases hx.2 with ⟨hv, h0⟩ | ⟨g1, cap1, cur1, hv1, hg1, hh1, a1, a2, a3, a4⟩
    · have l1 := hx.1
      have l2 := hy.1
      rw [h0] at l1 l2
      rw [List.eq_nil_of_length_eq_zero (by omega : xs.length = 0), List.eq_nil_of_length_eq_zero (by omega : ys.length = 0)]
    · rcases hy.2 with ⟨hv2, _⟩ | ⟨g2, cap2, cur2, hv2, hg2, hh2, b1, b2, b3, b4⟩
      · rw [hv1] at hv2; cases hv2
      · rw [hv1] at hv2
        injection hv2 with e1 e2 e3
        injection e1 with e1
        injection e1 with e1 _
        subst e1
        rw [hh1] at hh2
        injection hh2 with hh2
        injection hh2 with hh2
        subst hh2
        rw [← a4, ← b4]
  subst hxy
  have hlen : xs.length = qs.length * 3 := hx.1
  have far : ∀ {s : Value} {l : List Nat}, Rd w s l → Far s v.ownBlock → Far s (some g) := fun hr hf => by
    rcases hat with e | e
    · rw [← e]; exact hf
    · exact hr.far_new (by omega)
  refine ⟨_, by rw [hl]; exact hown, fun k hk' => ?_⟩
  rcases Nat.lt_or_ge k qs.length with hlt | hge
  · obtain ⟨b1, a1, n1, c1, a1', n1', c1', s0, s1, s2, k1, g1, g2⟩ := h2 k hlt
    refine ⟨b1, a1, n1, c1, a1', n1', c1', ?_, ?_, ?_, ?_, far k1.1.1 g1, far k1.1.2.1 g2⟩
    · rw [List.getElem?_append_left (by omega)]; exact s0
    · rw [List.getElem?_append_left (by omega)]; exact s1
    · rw [List.getElem?_append_left (by omega)]; exact s2
    · rw [List.getElem_append_left hlt]
      exact k1.grown hgrow g1 g2
  · have e : k = qs.length := by omega
    subst e
    refine ⟨b, a, n, c, a', n', c', ?_, ?_, ?_, ?_, far hk.1.1 f1, far hk.1.2.1 f2⟩
    · rw [List.getElem?_append_right (by omega), hlen]; simp
    · rw [List.getElem?_append_right (by omega), hlen]; simp
    · rw [List.getElem?_append_right (by omega), hlen]; simp
    · simp only [List.getElem_append_right (Nat.le_refl _), Nat.sub_self, List.getElem_cons_zero]
      exact hk.grown hgrow f1 f2

theorem OwnR.row3 {base g cap : Nat} {qs : List Rat} (h : OwnR base w (.slice (some ⟨g, 0, none⟩) qs.length cap) qs) : Row3 w g qs.length (fun _ => True) (fun r => qs.getD r 0) := by
  obtain ⟨xs, h1, h2⟩ := h
  intro r hr
  obtain ⟨b, a, n, c, a', n', c', s0, s1, s2, k1, f1, f2⟩ := h2 r hr
  refine ⟨b, a, n, c, a', n', c', ⟨?_, ?_, ?_, World.ownsRow.frozenAt h1 _, World.ownsRow.frozenAt h1 _, World.ownsRow.frozenAt h1 _⟩, fun _ => ?_⟩
  · rw [World.ownsRow.cellAt h1 _ (by omega)]; exact s0
  · rw [World.ownsRow.cellAt h1 _ (by omega)]; exact s1
  · rw [World.ownsRow.cellAt h1 _ (by omega)]; exact s2
  · show IsK _ _ _ _ (qs.getD r 0)
    rw [show qs.getD r 0 = qs[r] by simp [hr]]
    exact k1

def canonRt (q : Rat) : Rt := ⟨decide (q < 0), limbs q.num.natAbs, limbs q.den⟩

theorem Row3.rdR {g N cap : Nat} {P : Nat → Prop} {R : Nat → Rat} (h : Row3 w g N P R) (hP : ∀ r, r < N → P r) (h1 : N ≤ cap) (h2 : cap ≤ maxLen) : RdR w (.slice (some ⟨g, 0, none⟩) N cap) ((List.range N).map fun r => canonRt (R r)) := by
  refine ⟨some ⟨g, 0, none⟩, cap, by simp, by simp; exact h1, h2, fun i hi => ?_⟩
  have hi' : i < N := by simpa using hi
  obtain ⟨b, a, n, c, a', n', c', o1, k1⟩ := h i hi'
  have hk := k1 (hP i hi')
  refine ⟨g, 0, rfl, ?_⟩
  rw [List.getElem_map, List.getElem_range]
  refine ⟨.slice a n c, .slice a' n' c', ?_, ?_, ?_, hk.1.1, hk.1.2.1⟩
  · rw [show (canonRt (R i)).ng = b from hk.2, Nat.zero_add]; exact o1.1
  · rw [Nat.zero_add]; exact o1.2.1
  · rw [Nat.zero_add]; exact o1.2.2.1

theorem OwnR.rdR {base : Nat} {qs : List Rat} (h : OwnR base w v qs) : RdR w v (qs.map canonRt) := by
  obtain ⟨xs, h1, h2⟩ := h
  rcases h1.2 with ⟨hv, h0⟩ | ⟨g, cap, cur, hv, hg, hh, hn, hm, r⟩
  · refine ⟨none, 0, by rw [hv, List.length_map, h0], by rw [List.length_map, h0]; exact Nat.le_refl _, Nat.zero_le _, fun i hi => ?_⟩
    rw [List.length_map, h0] at hi
    exact absurd hi (by omega)
  · refine ⟨_, cap, by rw [hv, List.length_map], by rw [List.length_map]; exact hn, hm, fun i hi => ?_⟩
    have hi' : i < qs.length := by simpa using hi
    subst hv
    obtain ⟨b, a, n, c, a', n', c', s0, s1, s2, k1, f1, f2⟩ := h2 i hi'
    refine ⟨g, 0, rfl, ?_⟩
    rw [List.getElem_map]
    refine ⟨.slice a n c, .slice a' n' c', ?_, ?_, ?_, k1.1.1, k1.1.2.1⟩
    · rw [show (canonRt qs[i]).ng = b from k1.2, Nat.zero_add, World.ownsRow.cellAt h1 _ (by omega)]; exact s0
    · rw [Nat.zero_add, World.ownsRow.cellAt h1 _ (by omega)]; exact s1
    · rw [Nat.zero_add, World.ownsRow.cellAt h1 _ (by omega)]; exact s2

end

end Go.Proofs.YtkjcdnlpjldhaaaGreat


namespace Go.Proofs.YtkjcdnlpjldhaaaGreat
open Go.RowKit Tw
set_option linter.unusedVariables false
set_option linter.unusedSimpArgs false

section
variable {w w' wr w2 w4 : World} {v u : Value} {base hi g cap : Nat} {qs : List Rat} {q : Rat} {xs : List Value} {ng : Bool} {a a' : Option Addr} {n c n' c' : Nat} {t : TypeId}

theorem OwnR.drew (h : OwnR base w v qs) : OwnR base w.drew v qs := h.to (Below.refl _ _).drew

theorem Mach.drew {B N : Nat} {rows cols : Int} (h : Mach w B g N u v rows cols) : Mach w.drew B g N u v rows cols := h.to (Below.refl _ _).drew

theorem Far.of_lt {lo : Nat} {s : Value} {l : List Nat} (h : Own lo w s l) (hv : ∀ k, v.ownBlock = some k → k < lo) : Far s v.ownBlock := by
  intro b o n c e hn k
  have h1 := (h.lt b (by rw [e]; rfl)).1
  have h2 := hv b k
  omega

theorem push_done {K : Nat} (hK : qs.length = K) (hO : OwnR base wr v qs) (hx : wr.ownsRow base 47 3 v K xs) (hb2 : Below wr.heap.size wr w2) (g2 : CanQ wr.heap.size hi w2 ng (.slice a n c) (.slice a' n' c') q) (hbase : base ≤ wr.heap.size)
    (hown : w4.ownsRow base 47 3 (.slice (some ⟨g, 0, none⟩) (K + 1) cap) (K + 1) (xs ++ [.bool ng, .slice a n c, .slice a' n' c']))
    (hgrow : (w2.alloc (.cells #[.bool ng, .slice a n c, .slice a' n' c'] t)).grownBy w4 v.ownBlock) (hat : v.ownBlock = some g ∨ g = (w2.alloc (.cells #[.bool ng, .slice a n c, .slice a' n' c'] t)).heap.size) :
    OwnR base w4 (.slice (some ⟨g, 0, none⟩) (K + 1) cap) (qs ++ [q]) ∧ Below base wr w4 := by
  subst hK
  have hb3 := below_step hb2 (below_new w2 (.cells #[.bool ng, .slice a n c, .slice a' n' c'] t))
  refine ⟨OwnR.push (hO.to hb3) (ownsRow_to hx hb3) hown hgrow hat (g2.isK.to (below_new _ _)) (Far.of_lt g2.1 (fun k e => (hO.lt k e).2)) (Far.of_lt g2.2.1 (fun k e => (hO.lt k e).2)), ?_⟩
  exact (hb3.mono hbase).grown hgrow (Nat.le_trans hbase hb3.size) (fun k e => (hO.lt k e).1)

theorem push_news : ∀ j u, [Value.bool ng, .slice a n c, .slice a' n' c'][j]? = some u → (w2.alloc (.cells #[.bool ng, .slice a n c, .slice a' n' c'] t)).cell? ((⟨w2.heap.size, 0, none⟩ : Addr).add j) = some u := by
  intro j u hu
  exact World.news_of_block (w := w2.alloc (.cells #[.bool ng, .slice a n c, .slice a' n' c'] t)) (B := w2.heap.size) (cs := #[.bool ng, .slice a n c, .slice a' n' c']) (t := t) (fr := (0, 0)) (heap_alloc_new _ _) j u (by simpa using hu)

theorem push_one : ∀ u ∈ [Value.bool ng, .slice a n c, .slice a' n' c'], u.oneCell' = true := by
  intro u hu
  simp only [List.mem_cons, List.not_mem_nil, or_false] at hu
  rcases hu with rfl | rfl | rfl <;> rfl

theorem OwnR.setB (h : OwnR base w v qs) {B o : Nat} (hne : v.ownBlock ≠ some B) {a : Option Addr} {n c : Nat} (hc : w.cell? ⟨B, o, none⟩ = some (.slice a n c)) (x : Value) : OwnR base (w.setCell ⟨B, o, none⟩ x) v qs := by
  obtain ⟨xs, h1, h2⟩ := h
  refine ⟨xs, Go.ownsRow_setCell_other h1 (fun e => hne e) x, fun k hk => ?_⟩
  obtain ⟨b, a1, n1, c1, a2, n2, c2, s0, s1, s2, k1, f1, f2⟩ := h2 k hk
  exact ⟨b, a1, n1, c1, a2, n2, c2, s0, s1, s2, ⟨⟨k1.1.1.put hc (fun z e => by cases e) x, k1.1.2.1.put hc (fun z e => by cases e) x, k1.1.2.2⟩, k1.2⟩, f1, f2⟩

theorem Mach.setJ {B N : Nat} {rows cols : Int} (h : Mach w B g N u v rows cols) (x : Value) : Mach (w.setCell ⟨B, 4, none⟩ x) B g N u x rows cols :=
  ⟨cell_put h.1 (.inr (by decide)) _, cell_put h.2.1 (.inr (by decide)) _, cell_put h.2.2.1 (.inr (by decide)) _, cell_put h.2.2.2.1 (.inr (by decide)) _, cell_same h.2.2.2.2 _⟩

theorem Mach.grown {B N : Nat} {rows cols : Int} {row : Option Nat} (h : Mach w B g N u v rows cols) (hg : w.grownBy w' row) (hne : row ≠ some B) : Mach w' B g N u v rows cols :=
  have f : ∀ o, w'.cell? ⟨B, o, none⟩ = w.cell? ⟨B, o, none⟩ := fun o => hg.cell_far ⟨B, o, none⟩ h.lt (fun e => hne e.symm)
  ⟨(f 0).trans h.1, (f 1).trans h.2.1, (f 2).trans h.2.2.1, (f 3).trans h.2.2.2.1, (f 4).trans h.2.2.2.2⟩

end

end Go.Proofs.YtkjcdnlpjldhaaaGreat


namespace Go.Proofs.YtkjcdnlpjldhaaaGreat
open Go.RowKit Tw
set_option linter.unusedVariables false
set_option linter.unusedSimpArgs false
attribute [local go_sem ↓] Go.wp_at_zero Go.wp_at_succ

set_option maxRecDepth 100000 in
set_option maxHeartbeats 60000000 in
theorem step_val_1 (mB g N : Nat) (u vJ : Value) (rows cols : Int) (T : Nat) (xa xb : Int) (ng : Bool) (vn vd : Value) (ln ld : List Nat) (d0 d1 d2 : Value) {v : Rat}  (w : World) (hw : IsF w vn vd ln ld) (hm : Mach w mB g N u vJ rows cols) (hN : N ≤ 100000) (hT : T < N) (ho : Open3 w g (T * 3) d0 d1 d2) (hs : szq v ≤ 4096) (hcall : ∀ V, Below w.heap.size w V → Calls Tryz.prog 92 #[.pointer (some ⟨mB, 0, none⟩), .agg #[.int .i64 1, .int .i64 (T : Int), .int .i64 xa, .int .i64 xb, .bool ng, vn, vd]] V (GivesQK V v))  :
    Calls Tryz.prog 39 #[.pointer (some ⟨mB, 0, none⟩), .agg #[.int .i64 1, .int .i64 (T : Int), .int .i64 xa, .int .i64 xb, .bool ng, vn, vd]] w (SetTo w g (T * 3) v) := by
  obtain ⟨a0, n0, c0, rfl, H0, hm0⟩ := hw.1.open
  obtain ⟨a1, n1, c1, rfl, H1, hm1⟩ := hw.2.open
  have hTi : (T : Int) < (N : Int) := by omega
  have lm := hm.lt
  have lo := ho.lt
  have Hs := Lib.hid hs
  have HC := Lib.hid hcall
  clear hs hcall
  go_enter Tryz.func39, Tryz.ntmps39
  go_wp2_with fail
  obtain ⟨W0, hW0⟩ : ∃ W0, w.alloc (.cells #[.int .i64 1, .int .i64 (T : Int), .int .i64 xa, .int .i64 xb, .bool ng, .slice a0 n0 c0, .slice a1 n1 c1] 49) = W0 := ⟨_, rfl⟩
  have HXW0 := Lib.hid (show ∀ W', Below W0.heap.size W0 W' → (W'.cell? ⟨w.heap.size, 0, none⟩ = some (.int .i64 1) ∧ W'.cell? ⟨w.heap.size, 1, none⟩ = some (.int .i64 (T : Int)) ∧ W'.cell? ⟨w.heap.size, 2, none⟩ = some (.int .i64 xa) ∧ W'.cell? ⟨w.heap.size, 3, none⟩ = some (.int .i64 xb) ∧ W'.cell? ⟨w.heap.size, 4, none⟩ = some (.bool ng) ∧ W'.cell? ⟨w.heap.size, 5, none⟩ = some (.slice a0 n0 c0) ∧ W'.cell? ⟨w.heap.size, 6, none⟩ = some (.slice a1 n1 c1)) from fun W' hb =>
    by and_intros <;> exact kc hb (by first | assumption | (rw [← hW0]; simp [go_sem])))
  have HYW0 := Lib.hid (show ∀ W', Below W0.heap.size W0 W' → (W'.frozen? ⟨w.heap.size, 0, none⟩ = false ∧ W'.frozen? ⟨w.heap.size, 1, none⟩ = false ∧ W'.frozen? ⟨w.heap.size, 2, none⟩ = false ∧ W'.frozen? ⟨w.heap.size, 3, none⟩ = false ∧ W'.frozen? ⟨w.heap.size, 4, none⟩ = false ∧ W'.frozen? ⟨w.heap.size, 5, none⟩ = false ∧ W'.frozen? ⟨w.heap.size, 6, none⟩ = false) from fun W' hb =>
    ⟨(hb.frozen (p := ⟨w.heap.size, 0, none⟩) (by rw [← hW0]; simp <;> omega)).trans (by rw [← hW0]; simp [go_sem]), (hb.frozen (p := ⟨w.heap.size, 1, none⟩) (by rw [← hW0]; simp <;> omega)).trans (by rw [← hW0]; simp [go_sem]), (hb.frozen (p := ⟨w.heap.size, 2, none⟩) (by rw [← hW0]; simp <;> omega)).trans (by rw [← hW0]; simp [go_sem]), (hb.frozen (p := ⟨w.heap.size, 3, none⟩) (by rw [← hW0]; simp <;> omega)).trans (by rw [← hW0]; simp [go_sem]), (hb.frozen (p := ⟨w.heap.size, 4, none⟩) (by rw [← hW0]; simp <;> omega)).trans (by rw [← hW0]; simp [go_sem]), (hb.frozen (p := ⟨w.heap.size, 5, none⟩) (by rw [← hW0]; simp <;> omega)).trans (by rw [← hW0]; simp [go_sem]), (hb.frozen (p := ⟨w.heap.size, 6, none⟩) (by rw [← hW0]; simp <;> omega)).trans (by rw [← hW0]; simp [go_sem])⟩)
  have HZW0 := Lib.hid (show ∀ W', Below W0.heap.size W0 W' → (w.heap.size < W'.heap.size) from fun W' hb =>
    Nat.lt_of_lt_of_le (by rw [← hW0]; simp <;> omega) hb.size)
  have zb : Below w.heap.size w W0 := by rw [← hW0]; exact below_new _ _
  rw [hW0]
  clear hW0
  have i0 := hw.to zb
  have i1 := hm.to zb
  have i2 := ho.to zb
  have gb : Below W0.heap.size W0 W0 := Below.refl _ _
  obtain ⟨x0_0, x0_1, x0_2, x0_3, x0_4, x0_5, x0_6⟩ := HXW0.out _ gb
  obtain ⟨y0_0, y0_1, y0_2, y0_3, y0_4, y0_5, y0_6⟩ := HYW0.out _ gb
  obtain z0 := HZW0.out _ gb
  obtain ⟨e0, e1, e2, e3, e4⟩ := (i1.to gb)
  obtain ⟨o0, o1, o2, q0, q1, q2⟩ := (i2.to gb)
  go_wp2_with fail
  have htab := tab_1
  have hgb := gb
  go_upto_region 4 with fail
  go_cut [5, 6] from 28 (fun s5 s6 wx => BoxQ W0 (v) s5 wx ∧ s6 = .int .i64 0)
  case first =>
    go_region_held3 (fun W' => W'.cell? ⟨w.heap.size, 0, none⟩ = some (.int .i64 1) ∧ W'.cell? ⟨w.heap.size, 1, none⟩ = some (.int .i64 (T : Int)) ∧ W'.cell? ⟨w.heap.size, 2, none⟩ = some (.int .i64 xa) ∧ W'.cell? ⟨w.heap.size, 3, none⟩ = some (.int .i64 xb) ∧ W'.cell? ⟨w.heap.size, 4, none⟩ = some (.bool ng) ∧ W'.cell? ⟨w.heap.size, 5, none⟩ = some (.slice a0 n0 c0) ∧ W'.cell? ⟨w.heap.size, 6, none⟩ = some (.slice a1 n1 c1)) (first | (with_reducible exact HXW0.out _ gb) | ((with_reducible refine HXW0.out _ ?_); first | ((with_reducible refine Below.drew ?_); first | (with_reducible exact gb) | ((with_reducible refine below_set3 ?_ ?_ _ _ _); rotate_left; (first | (with_reducible exact et1_R_0) | (with_reducible exact et2_R_0)); with_reducible exact gb) | ((with_reducible refine below_step ?_ (below_new _ _)); with_reducible exact gb)) | (first | (with_reducible exact gb) | ((with_reducible refine below_set3 ?_ ?_ _ _ _); rotate_left; (first | (with_reducible exact et1_R_0) | (with_reducible exact et2_R_0)); first | (with_reducible exact gb) | ((with_reducible refine below_set3 ?_ ?_ _ _ _); rotate_left; (first | (with_reducible exact et1_R_0) | (with_reducible exact et2_R_0)); with_reducible exact gb) | ((with_reducible refine below_step ?_ (below_new _ _)); with_reducible exact gb)) | ((with_reducible refine below_step ?_ (below_new _ _)); first | (with_reducible exact gb) | ((with_reducible refine below_set3 ?_ ?_ _ _ _); rotate_left; (first | (with_reducible exact et1_R_0) | (with_reducible exact et2_R_0)); with_reducible exact gb) | ((with_reducible refine below_step ?_ (below_new _ _)); with_reducible exact gb))))) (first
      | (go_at_call 92; (refine calls_gen w1 (by first | with_reducible exact Below.refl _ _ | with_reducible exact below_new _ _) ?_); intro V2 hV2 hbV2; have hsV2 := hbV2.size; have hu2 := gb.size; have gb := below_step gb hbV2; (try have t1_R_0 := t1_R_0.to hbV2); (try have t2_R_0 : Tri V2 (w1.heap.size) (.bool false) (.slice none 0 0) (.slice none 0 0) := (by rw [hV2]; first | with_reducible exact tri_new _ (.bool false) (.slice none 0 0) (.slice none 0 0) _ | with_reducible exact (tri_new _ (.bool false) (.slice none 0 0) (.slice none 0 0) _).alloc _)); have et2_R_0 : W0.heap.size ≤ w1.heap.size := (hu2); (try have vt1_R_0_2 := t1_R_0.lt); (try have vt2_R_0_2 := t2_R_0.lt); (with_reducible refine (HC.out _ (below_step zb gb)).mono ?_); rintro e w2 ⟨ng2, a2_, n2_, c2_, p2_, m2_, k2_, rfl, g2, hb2⟩; have gb := below_step gb hb2; have hs2 := hb2.size; (try have t1_R_0 := t1_R_0.to hb2); (try have t2_R_0 := t2_R_0.to hb2); (try have lt1_R_0_2 := t1_R_0.lt); (try have lt2_R_0_2 := t2_R_0.lt); (try (have qt1_R_0 := t1_R_0; obtain ⟨rt1_R_00, rt1_R_01, rt1_R_02, st1_R_00, st1_R_01, st1_R_02⟩ := qt1_R_0)); (try (have qt2_R_0 := t2_R_0; obtain ⟨rt2_R_00, rt2_R_01, rt2_R_02, st2_R_00, st2_R_01, st2_R_02⟩ := qt2_R_0)))
      | (go_at_call 65; (refine calls_gen W0 (by first | with_reducible exact (Below.refl _ _).drew | with_reducible exact (below_new _ _).drew) ?_); intro V1 hV1 hbV1; have hsV1 := hbV1.size; have hu1 := gb.size; have gb := below_step gb hbV1; (try have t1_R_0 : Tri V1 (W0.heap.size) (.bool false) (.slice none 0 0) (.slice none 0 0) := (by rw [hV1]; first | with_reducible exact (tri_new _ (.bool false) (.slice none 0 0) (.slice none 0 0) _).drew | with_reducible exact ((tri_new _ (.bool false) (.slice none 0 0) (.slice none 0 0) _).alloc _).drew)); have et1_R_0 : W0.heap.size ≤ W0.heap.size := (hu1); (try have vt1_R_0_1 := t1_R_0.lt); (with_reducible refine (vm_does _).mono ?_); rintro e w1 ⟨rfl, hb1⟩; have gb := below_step gb hb1; have hs1 := hb1.size; (try have t1_R_0 := t1_R_0.to hb1); (try have lt1_R_0_1 := t1_R_0.lt); (try (have qt1_R_0 := t1_R_0; obtain ⟨rt1_R_00, rt1_R_01, rt1_R_02, st1_R_00, st1_R_01, st1_R_02⟩ := qt1_R_0))))
    all_goals (go_wp2_with fail; go_meet)
    all_goals refine ⟨?_, rfl⟩
    all_goals first
      | (with_reducible exact boxQ_old t1_R_0 g2 (.inl vt1_R_0_2) gb et1_R_0)
      | (with_reducible exact boxQ_old t2_R_0 g2 (.inl vt2_R_0_2) gb et2_R_0)
      | (with_reducible exact boxQ_new g2 gb)
  case rest =>
  obtain ⟨⟨B3, ng2, a2_, n2_, c2_, p2_, m2_, k2_, lo3, hi3, rfl, hB3, T3, g2, hc3⟩, rfl⟩ := hcut
  clear x0_0 y0_0 x0_1 y0_1 x0_2 y0_2 x0_3 y0_3 x0_4 y0_4 x0_5 y0_5 x0_6 y0_6 e0 e1 e2 e3 e4 o0 o1 o2 q0 q1 q2
  have gb := hc3
  obtain ⟨x0_0, x0_1, x0_2, x0_3, x0_4, x0_5, x0_6⟩ := HXW0.out _ gb
  obtain ⟨y0_0, y0_1, y0_2, y0_3, y0_4, y0_5, y0_6⟩ := HYW0.out _ gb
  obtain z0 := HZW0.out _ gb
  obtain ⟨e0, e1, e2, e3, e4⟩ := (i1.to gb)
  obtain ⟨o0, o1, o2, q0, q1, q2⟩ := (i2.to gb)
  have z3 := T3.lt
  obtain ⟨x3_0, x3_1, x3_2, y3_0, y3_1, y3_2⟩ := T3
  clear hgb
  obtain ⟨W1, hW1⟩ : ∃ W, wc = W := ⟨_, rfl⟩
  subst hW1
  replace i0 := i0.to gb
  replace i1 := i1.to gb
  replace i2 := i2.to gb
  replace zb := below_step zb gb
  have HXwc := Lib.hid (show ∀ W', Below wc.heap.size wc W' → (Bx7 W' w.heap.size (.int .i64 1) (.int .i64 (T : Int)) (.int .i64 xa) (.int .i64 xb) (.bool ng) (.slice a0 n0 c0) (.slice a1 n1 c1) ∧ Bx3 W' B3 (.bool ng2) (.slice a2_ n2_ c2_) (.slice p2_ m2_ k2_)) from fun W' hb => by
      refine ⟨bx7 hb ?_ ?_ ?_ ?_ ?_ ?_ ?_ ?_ ?_ ?_ ?_ ?_ ?_ ?_, bx3 hb ?_ ?_ ?_ ?_ ?_ ?_⟩
      all_goals first | assumption | assumption)
  replace gb := Below.refl wc.heap.size wc
  go_wp2_with fail
  obtain ⟨m, hm9⟩ : ∃ m : Nat, ((max (limbs v.num.natAbs).length (limbs v.den).length : Nat)) = m := ⟨_, rfl⟩
  have HM := Lib.hid (show ((max (limbs v.num.natAbs).length (limbs v.den).length : Nat) : Int) = (m : Int) by rw [hm9])
  have hm4 : m ≤ 4096 := by have := Hs.out; unfold szq at this; rw [sz_def, sz_def] at hm9; omega
  have t4 : decide (4096 < m) = false := decide_eq_false (by omega)
  have t5 : decide ((4096 : Int) < (m : Int)) = false := decide_eq_false (by omega)
  clear hm9 hm4
  refine (vm_words ng2 _ _ _ _ _ (g2.to gb).isF (m : Int) HM.out).mono ?_
  clear x0_0 y0_0 x0_1 y0_1 x0_2 y0_2 x0_3 y0_3 x0_4 y0_4 x0_5 y0_5 x0_6 y0_6 x3_0 y3_0 x3_1 y3_1 x3_2 y3_2 e0 e1 e2 e3 e4 o0 o1 o2 q0 q1 q2
  rintro e w3 ⟨rfl, hb3⟩
  replace gb := below_step gb hb3
  obtain ⟨⟨z0, x0_0, x0_1, x0_2, x0_3, x0_4, x0_5, x0_6, y0_0, y0_1, y0_2, y0_3, y0_4, y0_5, y0_6⟩, ⟨z3, x3_0, x3_1, x3_2, y3_0, y3_1, y3_2⟩⟩ := HXwc.out _ gb
  obtain ⟨e0, e1, e2, e3, e4⟩ := (i1.to gb)
  obtain ⟨o0, o1, o2, q0, q1, q2⟩ := (i2.to gb)
  go_wp2_with fail
  go_region
  go_wp2_with fail
  go_ret
  exact ⟨_, _, _, _, rfl, below_step zb gb, (g2.to gb).isK, .inr rfl⟩

set_option maxRecDepth 100000 in
set_option maxHeartbeats 60000000 in
theorem step_val_2 (mB g N : Nat) (u vJ : Value) (rows cols : Int) (T : Nat) (xa xb : Int) (ng : Bool) (vn vd : Value) (ln ld : List Nat) (d0 d1 d2 : Value) {v : Rat}  (w : World) (hw : IsF w vn vd ln ld) (hm : Mach w mB g N u vJ rows cols) (hN : N ≤ 100000) (hT : T < N) (ho : Open3 w g (T * 3) d0 d1 d2) (hs : szq v ≤ 4096) (hcall : ∀ V, Below w.heap.size w V → Calls Tryz.prog 93 #[.pointer (some ⟨mB, 0, none⟩), .agg #[.int .i64 2, .int .i64 (T : Int), .int .i64 xa, .int .i64 xb, .bool ng, vn, vd]] V (GivesQK V v))  :
    Calls Tryz.prog 39 #[.pointer (some ⟨mB, 0, none⟩), .agg #[.int .i64 2, .int .i64 (T : Int), .int .i64 xa, .int .i64 xb, .bool ng, vn, vd]] w (SetTo w g (T * 3) v) := by
  obtain ⟨a0, n0, c0, rfl, H0, hm0⟩ := hw.1.open
  obtain ⟨a1, n1, c1, rfl, H1, hm1⟩ := hw.2.open
  have hTi : (T : Int) < (N : Int) := by omega
  have lm := hm.lt
  have lo := ho.lt
  have Hs := Lib.hid hs
  have HC := Lib.hid hcall
  clear hs hcall
  go_enter Tryz.func39, Tryz.ntmps39
  go_wp2_with fail
  obtain ⟨W0, hW0⟩ : ∃ W0, w.alloc (.cells #[.int .i64 2, .int .i64 (T : Int), .int .i64 xa, .int .i64 xb, .bool ng, .slice a0 n0 c0, .slice a1 n1 c1] 49) = W0 := ⟨_, rfl⟩
  have HXW0 := Lib.hid (show ∀ W', Below W0.heap.size W0 W' → (W'.cell? ⟨w.heap.size, 0, none⟩ = some (.int .i64 2) ∧ W'.cell? ⟨w.heap.size, 1, none⟩ = some (.int .i64 (T : Int)) ∧ W'.cell? ⟨w.heap.size, 2, none⟩ = some (.int .i64 xa) ∧ W'.cell? ⟨w.heap.size, 3, none⟩ = some (.int .i64 xb) ∧ W'.cell? ⟨w.heap.size, 4, none⟩ = some (.bool ng) ∧ W'.cell? ⟨w.heap.size, 5, none⟩ = some (.slice a0 n0 c0) ∧ W'.cell? ⟨w.heap.size, 6, none⟩ = some (.slice a1 n1 c1)) from fun W' hb =>
    by and_intros <;> exact kc hb (by first | assumption | (rw [← hW0]; simp [go_sem])))
  have HYW0 := Lib.hid (show ∀ W', Below W0.heap.size W0 W' → (W'.frozen? ⟨w.heap.size, 0, none⟩ = false ∧ W'.frozen? ⟨w.heap.size, 1, none⟩ = false ∧ W'.frozen? ⟨w.heap.size, 2, none⟩ = false ∧ W'.frozen? ⟨w.heap.size, 3, none⟩ = false ∧ W'.frozen? ⟨w.heap.size, 4, none⟩ = false ∧ W'.frozen? ⟨w.heap.size, 5, none⟩ = false ∧ W'.frozen? ⟨w.heap.size, 6, none⟩ = false) from fun W' hb =>
    ⟨(hb.frozen (p := ⟨w.heap.size, 0, none⟩) (by rw [← hW0]; simp <;> omega)).trans (by rw [← hW0]; simp [go_sem]), (hb.frozen (p := ⟨w.heap.size, 1, none⟩) (by rw [← hW0]; simp <;> omega)).trans (by rw [← hW0]; simp [go_sem]), (hb.frozen (p := ⟨w.heap.size, 2, none⟩) (by rw [← hW0]; simp <;> omega)).trans (by rw [← hW0]; simp [go_sem]), (hb.frozen (p := ⟨w.heap.size, 3, none⟩) (by rw [← hW0]; simp <;> omega)).trans (by rw [← hW0]; simp [go_sem]), (hb.frozen (p := ⟨w.heap.size, 4, none⟩) (by rw [← hW0]; simp <;> omega)).trans (by rw [← hW0]; simp [go_sem]), (hb.frozen (p := ⟨w.heap.size, 5, none⟩) (by rw [← hW0]; simp <;> omega)).trans (by rw [← hW0]; simp [go_sem]), (hb.frozen (p := ⟨w.heap.size, 6, none⟩) (by rw [← hW0]; simp <;> omega)).trans (by rw [← hW0]; simp [go_sem])⟩)
  have HZW0 := Lib.hid (show ∀ W', Below W0.heap.size W0 W' → (w.heap.size < W'.heap.size) from fun W' hb =>
    Nat.lt_of_lt_of_le (by rw [← hW0]; simp <;> omega) hb.size)
  have zb : Below w.heap.size w W0 := by rw [← hW0]; exact below_new _ _
  rw [hW0]
  clear hW0
  have i0 := hw.to zb
  have i1 := hm.to zb
  have i2 := ho.to zb
  have gb : Below W0.heap.size W0 W0 := Below.refl _ _
  obtain ⟨x0_0, x0_1, x0_2, x0_3, x0_4, x0_5, x0_6⟩ := HXW0.out _ gb
  obtain ⟨y0_0, y0_1, y0_2, y0_3, y0_4, y0_5, y0_6⟩ := HYW0.out _ gb
  obtain z0 := HZW0.out _ gb
  obtain ⟨e0, e1, e2, e3, e4⟩ := (i1.to gb)
  obtain ⟨o0, o1, o2, q0, q1, q2⟩ := (i2.to gb)
  go_wp2_with fail
  have htab := tab_2
  have hgb := gb
  go_upto_region 4 with fail
  go_cut [5, 6] from 28 (fun s5 s6 wx => BoxQ W0 (v) s5 wx ∧ s6 = .int .i64 0)
  case first =>
    go_region_held3 (fun W' => W'.cell? ⟨w.heap.size, 0, none⟩ = some (.int .i64 2) ∧ W'.cell? ⟨w.heap.size, 1, none⟩ = some (.int .i64 (T : Int)) ∧ W'.cell? ⟨w.heap.size, 2, none⟩ = some (.int .i64 xa) ∧ W'.cell? ⟨w.heap.size, 3, none⟩ = some (.int .i64 xb) ∧ W'.cell? ⟨w.heap.size, 4, none⟩ = some (.bool ng) ∧ W'.cell? ⟨w.heap.size, 5, none⟩ = some (.slice a0 n0 c0) ∧ W'.cell? ⟨w.heap.size, 6, none⟩ = some (.slice a1 n1 c1)) (first | (with_reducible exact HXW0.out _ gb) | ((with_reducible refine HXW0.out _ ?_); first | ((with_reducible refine Below.drew ?_); first | (with_reducible exact gb) | ((with_reducible refine below_set3 ?_ ?_ _ _ _); rotate_left; (first | (with_reducible exact et1_R_0) | (with_reducible exact et2_R_0)); with_reducible exact gb) | ((with_reducible refine below_step ?_ (below_new _ _)); with_reducible exact gb)) | (first | (with_reducible exact gb) | ((with_reducible refine below_set3 ?_ ?_ _ _ _); rotate_left; (first | (with_reducible exact et1_R_0) | (with_reducible exact et2_R_0)); first | (with_reducible exact gb) | ((with_reducible refine below_set3 ?_ ?_ _ _ _); rotate_left; (first | (with_reducible exact et1_R_0) | (with_reducible exact et2_R_0)); with_reducible exact gb) | ((with_reducible refine below_step ?_ (below_new _ _)); with_reducible exact gb)) | ((with_reducible refine below_step ?_ (below_new _ _)); first | (with_reducible exact gb) | ((with_reducible refine below_set3 ?_ ?_ _ _ _); rotate_left; (first | (with_reducible exact et1_R_0) | (with_reducible exact et2_R_0)); with_reducible exact gb) | ((with_reducible refine below_step ?_ (below_new _ _)); with_reducible exact gb))))) (first
      | (go_at_call 93; (refine calls_gen w1 (by first | with_reducible exact Below.refl _ _ | with_reducible exact below_new _ _) ?_); intro V2 hV2 hbV2; have hsV2 := hbV2.size; have hu2 := gb.size; have gb := below_step gb hbV2; (try have t1_R_0 := t1_R_0.to hbV2); (try have t2_R_0 : Tri V2 (w1.heap.size) (.bool false) (.slice none 0 0) (.slice none 0 0) := (by rw [hV2]; first | with_reducible exact tri_new _ (.bool false) (.slice none 0 0) (.slice none 0 0) _ | with_reducible exact (tri_new _ (.bool false) (.slice none 0 0) (.slice none 0 0) _).alloc _)); have et2_R_0 : W0.heap.size ≤ w1.heap.size := (hu2); (try have vt1_R_0_2 := t1_R_0.lt); (try have vt2_R_0_2 := t2_R_0.lt); (with_reducible refine (HC.out _ (below_step zb gb)).mono ?_); rintro e w2 ⟨ng2, a2_, n2_, c2_, p2_, m2_, k2_, rfl, g2, hb2⟩; have gb := below_step gb hb2; have hs2 := hb2.size; (try have t1_R_0 := t1_R_0.to hb2); (try have t2_R_0 := t2_R_0.to hb2); (try have lt1_R_0_2 := t1_R_0.lt); (try have lt2_R_0_2 := t2_R_0.lt); (try (have qt1_R_0 := t1_R_0; obtain ⟨rt1_R_00, rt1_R_01, rt1_R_02, st1_R_00, st1_R_01, st1_R_02⟩ := qt1_R_0)); (try (have qt2_R_0 := t2_R_0; obtain ⟨rt2_R_00, rt2_R_01, rt2_R_02, st2_R_00, st2_R_01, st2_R_02⟩ := qt2_R_0)))
      | (go_at_call 65; (refine calls_gen W0 (by first | with_reducible exact (Below.refl _ _).drew | with_reducible exact (below_new _ _).drew) ?_); intro V1 hV1 hbV1; have hsV1 := hbV1.size; have hu1 := gb.size; have gb := below_step gb hbV1; (try have t1_R_0 : Tri V1 (W0.heap.size) (.bool false) (.slice none 0 0) (.slice none 0 0) := (by rw [hV1]; first | with_reducible exact (tri_new _ (.bool false) (.slice none 0 0) (.slice none 0 0) _).drew | with_reducible exact ((tri_new _ (.bool false) (.slice none 0 0) (.slice none 0 0) _).alloc _).drew)); have et1_R_0 : W0.heap.size ≤ W0.heap.size := (hu1); (try have vt1_R_0_1 := t1_R_0.lt); (with_reducible refine (vm_does _).mono ?_); rintro e w1 ⟨rfl, hb1⟩; have gb := below_step gb hb1; have hs1 := hb1.size; (try have t1_R_0 := t1_R_0.to hb1); (try have lt1_R_0_1 := t1_R_0.lt); (try (have qt1_R_0 := t1_R_0; obtain ⟨rt1_R_00, rt1_R_01, rt1_R_02, st1_R_00, st1_R_01, st1_R_02⟩ := qt1_R_0))))
    all_goals (go_wp2_with fail; go_meet)
    all_goals refine ⟨?_, rfl⟩
    all_goals first
      | (with_reducible exact boxQ_old t1_R_0 g2 (.inl vt1_R_0_2) gb et1_R_0)
      | (with_reducible exact boxQ_old t2_R_0 g2 (.inl vt2_R_0_2) gb et2_R_0)
      | (with_reducible exact boxQ_new g2 gb)
  case rest =>
  obtain ⟨⟨B3, ng2, a2_, n2_, c2_, p2_, m2_, k2_, lo3, hi3, rfl, hB3, T3, g2, hc3⟩, rfl⟩ := hcut
  clear x0_0 y0_0 x0_1 y0_1 x0_2 y0_2 x0_3 y0_3 x0_4 y0_4 x0_5 y0_5 x0_6 y0_6 e0 e1 e2 e3 e4 o0 o1 o2 q0 q1 q2
  have gb := hc3
  obtain ⟨x0_0, x0_1, x0_2, x0_3, x0_4, x0_5, x0_6⟩ := HXW0.out _ gb
  obtain ⟨y0_0, y0_1, y0_2, y0_3, y0_4, y0_5, y0_6⟩ := HYW0.out _ gb
  obtain z0 := HZW0.out _ gb
  obtain ⟨e0, e1, e2, e3, e4⟩ := (i1.to gb)
  obtain ⟨o0, o1, o2, q0, q1, q2⟩ := (i2.to gb)
  have z3 := T3.lt
  obtain ⟨x3_0, x3_1, x3_2, y3_0, y3_1, y3_2⟩ := T3
  clear hgb
  obtain ⟨W1, hW1⟩ : ∃ W, wc = W := ⟨_, rfl⟩
  subst hW1
  replace i0 := i0.to gb
  replace i1 := i1.to gb
  replace i2 := i2.to gb
  replace zb := below_step zb gb
  have HXwc := Lib.hid (show ∀ W', Below wc.heap.size wc W' → (Bx7 W' w.heap.size (.int .i64 2) (.int .i64 (T : Int)) (.int .i64 xa) (.int .i64 xb) (.bool ng) (.slice a0 n0 c0) (.slice a1 n1 c1) ∧ Bx3 W' B3 (.bool ng2) (.slice a2_ n2_ c2_) (.slice p2_ m2_ k2_)) from fun W' hb => by
      refine ⟨bx7 hb ?_ ?_ ?_ ?_ ?_ ?_ ?_ ?_ ?_ ?_ ?_ ?_ ?_ ?_, bx3 hb ?_ ?_ ?_ ?_ ?_ ?_⟩
      all_goals first | assumption | assumption)
  replace gb := Below.refl wc.heap.size wc
  go_wp2_with fail
  obtain ⟨m, hm9⟩ : ∃ m : Nat, ((max (limbs v.num.natAbs).length (limbs v.den).length : Nat)) = m := ⟨_, rfl⟩
  have HM := Lib.hid (show ((max (limbs v.num.natAbs).length (limbs v.den).length : Nat) : Int) = (m : Int) by rw [hm9])
  have hm4 : m ≤ 4096 := by have := Hs.out; unfold szq at this; rw [sz_def, sz_def] at hm9; omega
  have t4 : decide (4096 < m) = false := decide_eq_false (by omega)
  have t5 : decide ((4096 : Int) < (m : Int)) = false := decide_eq_false (by omega)
  clear hm9 hm4
  refine (vm_words ng2 _ _ _ _ _ (g2.to gb).isF (m : Int) HM.out).mono ?_
  clear x0_0 y0_0 x0_1 y0_1 x0_2 y0_2 x0_3 y0_3 x0_4 y0_4 x0_5 y0_5 x0_6 y0_6 x3_0 y3_0 x3_1 y3_1 x3_2 y3_2 e0 e1 e2 e3 e4 o0 o1 o2 q0 q1 q2
  rintro e w3 ⟨rfl, hb3⟩
  replace gb := below_step gb hb3
  obtain ⟨⟨z0, x0_0, x0_1, x0_2, x0_3, x0_4, x0_5, x0_6, y0_0, y0_1, y0_2, y0_3, y0_4, y0_5, y0_6⟩, ⟨z3, x3_0, x3_1, x3_2, y3_0, y3_1, y3_2⟩⟩ := HXwc.out _ gb
  obtain ⟨e0, e1, e2, e3, e4⟩ := (i1.to gb)
  obtain ⟨o0, o1, o2, q0, q1, q2⟩ := (i2.to gb)
  go_wp2_with fail
  go_region
  go_wp2_with fail
  go_ret
  exact ⟨_, _, _, _, rfl, below_step zb gb, (g2.to gb).isK, .inr rfl⟩

set_option maxRecDepth 100000 in
set_option maxHeartbeats 60000000 in
theorem step_val_3 (mB g N : Nat) (u vJ : Value) (rows cols : Int) (T : Nat) (xa xb : Int) (ng : Bool) (vn vd : Value) (ln ld : List Nat) (d0 d1 d2 : Value) {v : Rat}  (w : World) (hw : IsF w vn vd ln ld) (hm : Mach w mB g N u vJ rows cols) (hN : N ≤ 100000) (hT : T < N) (ho : Open3 w g (T * 3) d0 d1 d2) (hs : szq v ≤ 4096) (hcall : ∀ V, Below w.heap.size w V → Calls Tryz.prog 94 #[.pointer (some ⟨mB, 0, none⟩), .agg #[.int .i64 3, .int .i64 (T : Int), .int .i64 xa, .int .i64 xb, .bool ng, vn, vd]] V (GivesQK V v))  :
    Calls Tryz.prog 39 #[.pointer (some ⟨mB, 0, none⟩), .agg #[.int .i64 3, .int .i64 (T : Int), .int .i64 xa, .int .i64 xb, .bool ng, vn, vd]] w (SetTo w g (T * 3) v) := by
  obtain ⟨a0, n0, c0, rfl, H0, hm0⟩ := hw.1.open
  obtain ⟨a1, n1, c1, rfl, H1, hm1⟩ := hw.2.open
  have hTi : (T : Int) < (N : Int) := by omega
  have lm := hm.lt
  have lo := ho.lt
  have Hs := Lib.hid hs
  have HC := Lib.hid hcall
  clear hs hcall
  go_enter Tryz.func39, Tryz.ntmps39
  go_wp2_with fail
  obtain ⟨W0, hW0⟩ : ∃ W0, w.alloc (.cells #[.int .i64 3, .int .i64 (T : Int), .int .i64 xa, .int .i64 xb, .bool ng, .slice a0 n0 c0, .slice a1 n1 c1] 49) = W0 := ⟨_, rfl⟩
  have HXW0 := Lib.hid (show ∀ W', Below W0.heap.size W0 W' → (W'.cell? ⟨w.heap.size, 0, none⟩ = some (.int .i64 3) ∧ W'.cell? ⟨w.heap.size, 1, none⟩ = some (.int .i64 (T : Int)) ∧ W'.cell? ⟨w.heap.size, 2, none⟩ = some (.int .i64 xa) ∧ W'.cell? ⟨w.heap.size, 3, none⟩ = some (.int .i64 xb) ∧ W'.cell? ⟨w.heap.size, 4, none⟩ = some (.bool ng) ∧ W'.cell? ⟨w.heap.size, 5, none⟩ = some (.slice a0 n0 c0) ∧ W'.cell? ⟨w.heap.size, 6, none⟩ = some (.slice a1 n1 c1)) from fun W' hb =>
    by and_intros <;> exact kc hb (by first | assumption | (rw [← hW0]; simp [go_sem])))
  have HYW0 := Lib.hid (show ∀ W', Below W0.heap.size W0 W' → (W'.frozen? ⟨w.heap.size, 0, none⟩ = false ∧ W'.frozen? ⟨w.heap.size, 1, none⟩ = false ∧ W'.frozen? ⟨w.heap.size, 2, none⟩ = false ∧ W'.frozen? ⟨w.heap.size, 3, none⟩ = false ∧ W'.frozen? ⟨w.heap.size, 4, none⟩ = false ∧ W'.frozen? ⟨w.heap.size, 5, none⟩ = false ∧ W'.frozen? ⟨w.heap.size, 6, none⟩ = false) from fun W' hb =>
    ⟨(hb.frozen (p := ⟨w.heap.size, 0, none⟩) (by rw [← hW0]; simp <;> omega)).trans (by rw [← hW0]; simp [go_sem]), (hb.frozen (p := ⟨w.heap.size, 1, none⟩) (by rw [← hW0]; simp <;> omega)).trans (by rw [← hW0]; simp [go_sem]), (hb.frozen (p := ⟨w.heap.size, 2, none⟩) (by rw [← hW0]; simp <;> omega)).trans (by rw [← hW0]; simp [go_sem]), (hb.frozen (p := ⟨w.heap.size, 3, none⟩) (by rw [← hW0]; simp <;> omega)).trans (by rw [← hW0]; simp [go_sem]), (hb.frozen (p := ⟨w.heap.size, 4, none⟩) (by rw [← hW0]; simp <;> omega)).trans (by rw [← hW0]; simp [go_sem]), (hb.frozen (p := ⟨w.heap.size, 5, none⟩) (by rw [← hW0]; simp <;> omega)).trans (by rw [← hW0]; simp [go_sem]), (hb.frozen (p := ⟨w.heap.size, 6, none⟩) (by rw [← hW0]; simp <;> omega)).trans (by rw [← hW0]; simp [go_sem])⟩)
  have HZW0 := Lib.hid (show ∀ W', Below W0.heap.size W0 W' → (w.heap.size < W'.heap.size) from fun W' hb =>
    Nat.lt_of_lt_of_le (by rw [← hW0]; simp <;> omega) hb.size)
  have zb : Below w.heap.size w W0 := by rw [← hW0]; exact below_new _ _
  rw [hW0]
  clear hW0
  have i0 := hw.to zb
  have i1 := hm.to zb
  have i2 := ho.to zb
  have gb : Below W0.heap.size W0 W0 := Below.refl _ _
  obtain ⟨x0_0, x0_1, x0_2, x0_3, x0_4, x0_5, x0_6⟩ := HXW0.out _ gb
  obtain ⟨y0_0, y0_1, y0_2, y0_3, y0_4, y0_5, y0_6⟩ := HYW0.out _ gb
  obtain z0 := HZW0.out _ gb
  obtain ⟨e0, e1, e2, e3, e4⟩ := (i1.to gb)
  obtain ⟨o0, o1, o2, q0, q1, q2⟩ := (i2.to gb)
  go_wp2_with fail
  have htab := tab_3
  have hgb := gb
  go_upto_region 4 with fail
  go_cut [5, 6] from 28 (fun s5 s6 wx => BoxQ W0 (v) s5 wx ∧ s6 = .int .i64 0)
  case first =>
    go_region_held3 (fun W' => W'.cell? ⟨w.heap.size, 0, none⟩ = some (.int .i64 3) ∧ W'.cell? ⟨w.heap.size, 1, none⟩ = some (.int .i64 (T : Int)) ∧ W'.cell? ⟨w.heap.size, 2, none⟩ = some (.int .i64 xa) ∧ W'.cell? ⟨w.heap.size, 3, none⟩ = some (.int .i64 xb) ∧ W'.cell? ⟨w.heap.size, 4, none⟩ = some (.bool ng) ∧ W'.cell? ⟨w.heap.size, 5, none⟩ = some (.slice a0 n0 c0) ∧ W'.cell? ⟨w.heap.size, 6, none⟩ = some (.slice a1 n1 c1)) (first | (with_reducible exact HXW0.out _ gb) | ((with_reducible refine HXW0.out _ ?_); first | ((with_reducible refine Below.drew ?_); first | (with_reducible exact gb) | ((with_reducible refine below_set3 ?_ ?_ _ _ _); rotate_left; (first | (with_reducible exact et1_R_0) | (with_reducible exact et2_R_0)); with_reducible exact gb) | ((with_reducible refine below_step ?_ (below_new _ _)); with_reducible exact gb)) | (first | (with_reducible exact gb) | ((with_reducible refine below_set3 ?_ ?_ _ _ _); rotate_left; (first | (with_reducible exact et1_R_0) | (with_reducible exact et2_R_0)); first | (with_reducible exact gb) | ((with_reducible refine below_set3 ?_ ?_ _ _ _); rotate_left; (first | (with_reducible exact et1_R_0) | (with_reducible exact et2_R_0)); with_reducible exact gb) | ((with_reducible refine below_step ?_ (below_new _ _)); with_reducible exact gb)) | ((with_reducible refine below_step ?_ (below_new _ _)); first | (with_reducible exact gb) | ((with_reducible refine below_set3 ?_ ?_ _ _ _); rotate_left; (first | (with_reducible exact et1_R_0) | (with_reducible exact et2_R_0)); with_reducible exact gb) | ((with_reducible refine below_step ?_ (below_new _ _)); with_reducible exact gb))))) (first
      | (go_at_call 94; (refine calls_gen w1 (by first | with_reducible exact Below.refl _ _ | with_reducible exact below_new _ _) ?_); intro V2 hV2 hbV2; have hsV2 := hbV2.size; have hu2 := gb.size; have gb := below_step gb hbV2; (try have t1_R_0 := t1_R_0.to hbV2); (try have t2_R_0 : Tri V2 (w1.heap.size) (.bool false) (.slice none 0 0) (.slice none 0 0) := (by rw [hV2]; first | with_reducible exact tri_new _ (.bool false) (.slice none 0 0) (.slice none 0 0) _ | with_reducible exact (tri_new _ (.bool false) (.slice none 0 0) (.slice none 0 0) _).alloc _)); have et2_R_0 : W0.heap.size ≤ w1.heap.size := (hu2); (try have vt1_R_0_2 := t1_R_0.lt); (try have vt2_R_0_2 := t2_R_0.lt); (with_reducible refine (HC.out _ (below_step zb gb)).mono ?_); rintro e w2 ⟨ng2, a2_, n2_, c2_, p2_, m2_, k2_, rfl, g2, hb2⟩; have gb := below_step gb hb2; have hs2 := hb2.size; (try have t1_R_0 := t1_R_0.to hb2); (try have t2_R_0 := t2_R_0.to hb2); (try have lt1_R_0_2 := t1_R_0.lt); (try have lt2_R_0_2 := t2_R_0.lt); (try (have qt1_R_0 := t1_R_0; obtain ⟨rt1_R_00, rt1_R_01, rt1_R_02, st1_R_00, st1_R_01, st1_R_02⟩ := qt1_R_0)); (try (have qt2_R_0 := t2_R_0; obtain ⟨rt2_R_00, rt2_R_01, rt2_R_02, st2_R_00, st2_R_01, st2_R_02⟩ := qt2_R_0)))
      | (go_at_call 65; (refine calls_gen W0 (by first | with_reducible exact (Below.refl _ _).drew | with_reducible exact (below_new _ _).drew) ?_); intro V1 hV1 hbV1; have hsV1 := hbV1.size; have hu1 := gb.size; have gb := below_step gb hbV1; (try have t1_R_0 : Tri V1 (W0.heap.size) (.bool false) (.slice none 0 0) (.slice none 0 0) := (by rw [hV1]; first | with_reducible exact (tri_new _ (.bool false) (.slice none 0 0) (.slice none 0 0) _).drew | with_reducible exact ((tri_new _ (.bool false) (.slice none 0 0) (.slice none 0 0) _).alloc _).drew)); have et1_R_0 : W0.heap.size ≤ W0.heap.size := (hu1); (try have vt1_R_0_1 := t1_R_0.lt); (with_reducible refine (vm_does _).mono ?_); rintro e w1 ⟨rfl, hb1⟩; have gb := below_step gb hb1; have hs1 := hb1.size; (try have t1_R_0 := t1_R_0.to hb1); (try have lt1_R_0_1 := t1_R_0.lt); (try (have qt1_R_0 := t1_R_0; obtain ⟨rt1_R_00, rt1_R_01, rt1_R_02, st1_R_00, st1_R_01, st1_R_02⟩ := qt1_R_0))))
    all_goals (go_wp2_with fail; go_meet)
    all_goals refine ⟨?_, rfl⟩
    all_goals first
      | (with_reducible exact boxQ_old t1_R_0 g2 (.inl vt1_R_0_2) gb et1_R_0)
      | (with_reducible exact boxQ_old t2_R_0 g2 (.inl vt2_R_0_2) gb et2_R_0)
      | (with_reducible exact boxQ_new g2 gb)
  case rest =>
  obtain ⟨⟨B3, ng2, a2_, n2_, c2_, p2_, m2_, k2_, lo3, hi3, rfl, hB3, T3, g2, hc3⟩, rfl⟩ := hcut
  clear x0_0 y0_0 x0_1 y0_1 x0_2 y0_2 x0_3 y0_3 x0_4 y0_4 x0_5 y0_5 x0_6 y0_6 e0 e1 e2 e3 e4 o0 o1 o2 q0 q1 q2
  have gb := hc3
  obtain ⟨x0_0, x0_1, x0_2, x0_3, x0_4, x0_5, x0_6⟩ := HXW0.out _ gb
  obtain ⟨y0_0, y0_1, y0_2, y0_3, y0_4, y0_5, y0_6⟩ := HYW0.out _ gb
  obtain z0 := HZW0.out _ gb
  obtain ⟨e0, e1, e2, e3, e4⟩ := (i1.to gb)
  obtain ⟨o0, o1, o2, q0, q1, q2⟩ := (i2.to gb)
  have z3 := T3.lt
  obtain ⟨x3_0, x3_1, x3_2, y3_0, y3_1, y3_2⟩ := T3
  clear hgb
  obtain ⟨W1, hW1⟩ : ∃ W, wc = W := ⟨_, rfl⟩
  subst hW1
  replace i0 := i0.to gb
  replace i1 := i1.to gb
  replace i2 := i2.to gb
  replace zb := below_step zb gb
  have HXwc := Lib.hid (show ∀ W', Below wc.heap.size wc W' → (Bx7 W' w.heap.size (.int .i64 3) (.int .i64 (T : Int)) (.int .i64 xa) (.int .i64 xb) (.bool ng) (.slice a0 n0 c0) (.slice a1 n1 c1) ∧ Bx3 W' B3 (.bool ng2) (.slice a2_ n2_ c2_) (.slice p2_ m2_ k2_)) from fun W' hb => by
      refine ⟨bx7 hb ?_ ?_ ?_ ?_ ?_ ?_ ?_ ?_ ?_ ?_ ?_ ?_ ?_ ?_, bx3 hb ?_ ?_ ?_ ?_ ?_ ?_⟩
      all_goals first | assumption | assumption)
  replace gb := Below.refl wc.heap.size wc
  go_wp2_with fail
  obtain ⟨m, hm9⟩ : ∃ m : Nat, ((max (limbs v.num.natAbs).length (limbs v.den).length : Nat)) = m := ⟨_, rfl⟩
  have HM := Lib.hid (show ((max (limbs v.num.natAbs).length (limbs v.den).length : Nat) : Int) = (m : Int) by rw [hm9])
  have hm4 : m ≤ 4096 := by have := Hs.out; unfold szq at this; rw [sz_def, sz_def] at hm9; omega
  have t4 : decide (4096 < m) = false := decide_eq_false (by omega)
  have t5 : decide ((4096 : Int) < (m : Int)) = false := decide_eq_false (by omega)
  clear hm9 hm4
  refine (vm_words ng2 _ _ _ _ _ (g2.to gb).isF (m : Int) HM.out).mono ?_
  clear x0_0 y0_0 x0_1 y0_1 x0_2 y0_2 x0_3 y0_3 x0_4 y0_4 x0_5 y0_5 x0_6 y0_6 x3_0 y3_0 x3_1 y3_1 x3_2 y3_2 e0 e1 e2 e3 e4 o0 o1 o2 q0 q1 q2
  rintro e w3 ⟨rfl, hb3⟩
  replace gb := below_step gb hb3
  obtain ⟨⟨z0, x0_0, x0_1, x0_2, x0_3, x0_4, x0_5, x0_6, y0_0, y0_1, y0_2, y0_3, y0_4, y0_5, y0_6⟩, ⟨z3, x3_0, x3_1, x3_2, y3_0, y3_1, y3_2⟩⟩ := HXwc.out _ gb
  obtain ⟨e0, e1, e2, e3, e4⟩ := (i1.to gb)
  obtain ⟨o0, o1, o2, q0, q1, q2⟩ := (i2.to gb)
  go_wp2_with fail
  go_region
  go_wp2_with fail
  go_ret
  exact ⟨_, _, _, _, rfl, below_step zb gb, (g2.to gb).isK, .inr rfl⟩

set_option maxRecDepth 100000 in
set_option maxHeartbeats 60000000 in
theorem step_val_4 (mB g N : Nat) (u vJ : Value) (rows cols : Int) (T : Nat) (xa xb : Int) (ng : Bool) (vn vd : Value) (ln ld : List Nat) (d0 d1 d2 : Value) {v : Rat}  (w : World) (hw : IsF w vn vd ln ld) (hm : Mach w mB g N u vJ rows cols) (hN : N ≤ 100000) (hT : T < N) (ho : Open3 w g (T * 3) d0 d1 d2) (hs : szq v ≤ 4096) (hcall : ∀ V, Below w.heap.size w V → Calls Tryz.prog 95 #[.pointer (some ⟨mB, 0, none⟩), .agg #[.int .i64 4, .int .i64 (T : Int), .int .i64 xa, .int .i64 xb, .bool ng, vn, vd]] V (GivesQK V v))  :
    Calls Tryz.prog 39 #[.pointer (some ⟨mB, 0, none⟩), .agg #[.int .i64 4, .int .i64 (T : Int), .int .i64 xa, .int .i64 xb, .bool ng, vn, vd]] w (SetTo w g (T * 3) v) := by
  obtain ⟨a0, n0, c0, rfl, H0, hm0⟩ := hw.1.open
  obtain ⟨a1, n1, c1, rfl, H1, hm1⟩ := hw.2.open
  have hTi : (T : Int) < (N : Int) := by omega
  have lm := hm.lt
  have lo := ho.lt
  have Hs := Lib.hid hs
  have HC := Lib.hid hcall
  clear hs hcall
  go_enter Tryz.func39, Tryz.ntmps39
  go_wp2_with fail
  obtain ⟨W0, hW0⟩ : ∃ W0, w.alloc (.cells #[.int .i64 4, .int .i64 (T : Int), .int .i64 xa, .int .i64 xb, .bool ng, .slice a0 n0 c0, .slice a1 n1 c1] 49) = W0 := ⟨_, rfl⟩
  have HXW0 := Lib.hid (show ∀ W', Below W0.heap.size W0 W' → (W'.cell? ⟨w.heap.size, 0, none⟩ = some (.int .i64 4) ∧ W'.cell? ⟨w.heap.size, 1, none⟩ = some (.int .i64 (T : Int)) ∧ W'.cell? ⟨w.heap.size, 2, none⟩ = some (.int .i64 xa) ∧ W'.cell? ⟨w.heap.size, 3, none⟩ = some (.int .i64 xb) ∧ W'.cell? ⟨w.heap.size, 4, none⟩ = some (.bool ng) ∧ W'.cell? ⟨w.heap.size, 5, none⟩ = some (.slice a0 n0 c0) ∧ W'.cell? ⟨w.heap.size, 6, none⟩ = some (.slice a1 n1 c1)) from fun W' hb =>
    by and_intros <;> exact kc hb (by first | assumption | (rw [← hW0]; simp [go_sem])))
  have HYW0 := Lib.hid (show ∀ W', Below W0.heap.size W0 W' → (W'.frozen? ⟨w.heap.size, 0, none⟩ = false ∧ W'.frozen? ⟨w.heap.size, 1, none⟩ = false ∧ W'.frozen? ⟨w.heap.size, 2, none⟩ = false ∧ W'.frozen? ⟨w.heap.size, 3, none⟩ = false ∧ W'.frozen? ⟨w.heap.size, 4, none⟩ = false ∧ W'.frozen? ⟨w.heap.size, 5, none⟩ = false ∧ W'.frozen? ⟨w.heap.size, 6, none⟩ = false) from fun W' hb =>
    ⟨(hb.frozen (p := ⟨w.heap.size, 0, none⟩) (by rw [← hW0]; simp <;> omega)).trans (by rw [← hW0]; simp [go_sem]), (hb.frozen (p := ⟨w.heap.size, 1, none⟩) (by rw [← hW0]; simp <;> omega)).trans (by rw [← hW0]; simp [go_sem]), (hb.frozen (p := ⟨w.heap.size, 2, none⟩) (by rw [← hW0]; simp <;> omega)).trans (by rw [← hW0]; simp [go_sem]), (hb.frozen (p := ⟨w.heap.size, 3, none⟩) (by rw [← hW0]; simp <;> omega)).trans (by rw [← hW0]; simp [go_sem]), (hb.frozen (p := ⟨w.heap.size, 4, none⟩) (by rw [← hW0]; simp <;> omega)).trans (by rw [← hW0]; simp [go_sem]), (hb.frozen (p := ⟨w.heap.size, 5, none⟩) (by rw [← hW0]; simp <;> omega)).trans (by rw [← hW0]; simp [go_sem]), (hb.frozen (p := ⟨w.heap.size, 6, none⟩) (by rw [← hW0]; simp <;> omega)).trans (by rw [← hW0]; simp [go_sem])⟩)
  have HZW0 := Lib.hid (show ∀ W', Below W0.heap.size W0 W' → (w.heap.size < W'.heap.size) from fun W' hb =>
    Nat.lt_of_lt_of_le (by rw [← hW0]; simp <;> omega) hb.size)
  have zb : Below w.heap.size w W0 := by rw [← hW0]; exact below_new _ _
  rw [hW0]
  clear hW0
  have i0 := hw.to zb
  have i1 := hm.to zb
  have i2 := ho.to zb
  have gb : Below W0.heap.size W0 W0 := Below.refl _ _
  obtain ⟨x0_0, x0_1, x0_2, x0_3, x0_4, x0_5, x0_6⟩ := HXW0.out _ gb
  obtain ⟨y0_0, y0_1, y0_2, y0_3, y0_4, y0_5, y0_6⟩ := HYW0.out _ gb
  obtain z0 := HZW0.out _ gb
  obtain ⟨e0, e1, e2, e3, e4⟩ := (i1.to gb)
  obtain ⟨o0, o1, o2, q0, q1, q2⟩ := (i2.to gb)
  go_wp2_with fail
  have htab := tab_4
  have hgb := gb
  go_upto_region 4 with fail
  go_cut [5, 6] from 28 (fun s5 s6 wx => BoxQ W0 (v) s5 wx ∧ s6 = .int .i64 0)
  case first =>
    go_region_held3 (fun W' => W'.cell? ⟨w.heap.size, 0, none⟩ = some (.int .i64 4) ∧ W'.cell? ⟨w.heap.size, 1, none⟩ = some (.int .i64 (T : Int)) ∧ W'.cell? ⟨w.heap.size, 2, none⟩ = some (.int .i64 xa) ∧ W'.cell? ⟨w.heap.size, 3, none⟩ = some (.int .i64 xb) ∧ W'.cell? ⟨w.heap.size, 4, none⟩ = some (.bool ng) ∧ W'.cell? ⟨w.heap.size, 5, none⟩ = some (.slice a0 n0 c0) ∧ W'.cell? ⟨w.heap.size, 6, none⟩ = some (.slice a1 n1 c1)) (first | (with_reducible exact HXW0.out _ gb) | ((with_reducible refine HXW0.out _ ?_); first | ((with_reducible refine Below.drew ?_); first | (with_reducible exact gb) | ((with_reducible refine below_set3 ?_ ?_ _ _ _); rotate_left; (first | (with_reducible exact et1_R_0) | (with_reducible exact et2_R_0)); with_reducible exact gb) | ((with_reducible refine below_step ?_ (below_new _ _)); with_reducible exact gb)) | (first | (with_reducible exact gb) | ((with_reducible refine below_set3 ?_ ?_ _ _ _); rotate_left; (first | (with_reducible exact et1_R_0) | (with_reducible exact et2_R_0)); first | (with_reducible exact gb) | ((with_reducible refine below_set3 ?_ ?_ _ _ _); rotate_left; (first | (with_reducible exact et1_R_0) | (with_reducible exact et2_R_0)); with_reducible exact gb) | ((with_reducible refine below_step ?_ (below_new _ _)); with_reducible exact gb)) | ((with_reducible refine below_step ?_ (below_new _ _)); first | (with_reducible exact gb) | ((with_reducible refine below_set3 ?_ ?_ _ _ _); rotate_left; (first | (with_reducible exact et1_R_0) | (with_reducible exact et2_R_0)); with_reducible exact gb) | ((with_reducible refine below_step ?_ (below_new _ _)); with_reducible exact gb))))) (first
      | (go_at_call 95; (refine calls_gen w1 (by first | with_reducible exact Below.refl _ _ | with_reducible exact below_new _ _) ?_); intro V2 hV2 hbV2; have hsV2 := hbV2.size; have hu2 := gb.size; have gb := below_step gb hbV2; (try have t1_R_0 := t1_R_0.to hbV2); (try have t2_R_0 : Tri V2 (w1.heap.size) (.bool false) (.slice none 0 0) (.slice none 0 0) := (by rw [hV2]; first | with_reducible exact tri_new _ (.bool false) (.slice none 0 0) (.slice none 0 0) _ | with_reducible exact (tri_new _ (.bool false) (.slice none 0 0) (.slice none 0 0) _).alloc _)); have et2_R_0 : W0.heap.size ≤ w1.heap.size := (hu2); (try have vt1_R_0_2 := t1_R_0.lt); (try have vt2_R_0_2 := t2_R_0.lt); (with_reducible refine (HC.out _ (below_step zb gb)).mono ?_); rintro e w2 ⟨ng2, a2_, n2_, c2_, p2_, m2_, k2_, rfl, g2, hb2⟩; have gb := below_step gb hb2; have hs2 := hb2.size; (try have t1_R_0 := t1_R_0.to hb2); (try have t2_R_0 := t2_R_0.to hb2); (try have lt1_R_0_2 := t1_R_0.lt); (try have lt2_R_0_2 := t2_R_0.lt); (try (have qt1_R_0 := t1_R_0; obtain ⟨rt1_R_00, rt1_R_01, rt1_R_02, st1_R_00, st1_R_01, st1_R_02⟩ := qt1_R_0)); (try (have qt2_R_0 := t2_R_0; obtain ⟨rt2_R_00, rt2_R_01, rt2_R_02, st2_R_00, st2_R_01, st2_R_02⟩ := qt2_R_0)))
      | (go_at_call 65; (refine calls_gen W0 (by first | with_reducible exact (Below.refl _ _).drew | with_reducible exact (below_new _ _).drew) ?_); intro V1 hV1 hbV1; have hsV1 := hbV1.size; have hu1 := gb.size; have gb := below_step gb hbV1; (try have t1_R_0 : Tri V1 (W0.heap.size) (.bool false) (.slice none 0 0) (.slice none 0 0) := (by rw [hV1]; first | with_reducible exact (tri_new _ (.bool false) (.slice none 0 0) (.slice none 0 0) _).drew | with_reducible exact ((tri_new _ (.bool false) (.slice none 0 0) (.slice none 0 0) _).alloc _).drew)); have et1_R_0 : W0.heap.size ≤ W0.heap.size := (hu1); (try have vt1_R_0_1 := t1_R_0.lt); (with_reducible refine (vm_does _).mono ?_); rintro e w1 ⟨rfl, hb1⟩; have gb := below_step gb hb1; have hs1 := hb1.size; (try have t1_R_0 := t1_R_0.to hb1); (try have lt1_R_0_1 := t1_R_0.lt); (try (have qt1_R_0 := t1_R_0; obtain ⟨rt1_R_00, rt1_R_01, rt1_R_02, st1_R_00, st1_R_01, st1_R_02⟩ := qt1_R_0))))
    all_goals (go_wp2_with fail; go_meet)
    all_goals refine ⟨?_, rfl⟩
    all_goals first
      | (with_reducible exact boxQ_old t1_R_0 g2 (.inl vt1_R_0_2) gb et1_R_0)
      | (with_reducible exact boxQ_old t2_R_0 g2 (.inl vt2_R_0_2) gb et2_R_0)
      | (with_reducible exact boxQ_new g2 gb)
  case rest =>
  obtain ⟨⟨B3, ng2, a2_, n2_, c2_, p2_, m2_, k2_, lo3, hi3, rfl, hB3, T3, g2, hc3⟩, rfl⟩ := hcut
  clear x0_0 y0_0 x0_1 y0_1 x0_2 y0_2 x0_3 y0_3 x0_4 y0_4 x0_5 y0_5 x0_6 y0_6 e0 e1 e2 e3 e4 o0 o1 o2 q0 q1 q2
  have gb := hc3
  obtain ⟨x0_0, x0_1, x0_2, x0_3, x0_4, x0_5, x0_6⟩ := HXW0.out _ gb
  obtain ⟨y0_0, y0_1, y0_2, y0_3, y0_4, y0_5, y0_6⟩ := HYW0.out _ gb
  obtain z0 := HZW0.out _ gb
  obtain ⟨e0, e1, e2, e3, e4⟩ := (i1.to gb)
  obtain ⟨o0, o1, o2, q0, q1, q2⟩ := (i2.to gb)
  have z3 := T3.lt
  obtain ⟨x3_0, x3_1, x3_2, y3_0, y3_1, y3_2⟩ := T3
  clear hgb
  obtain ⟨W1, hW1⟩ : ∃ W, wc = W := ⟨_, rfl⟩
  subst hW1
  replace i0 := i0.to gb
  replace i1 := i1.to gb
  replace i2 := i2.to gb
  replace zb := below_step zb gb
  have HXwc := Lib.hid (show ∀ W', Below wc.heap.size wc W' → (Bx7 W' w.heap.size (.int .i64 4) (.int .i64 (T : Int)) (.int .i64 xa) (.int .i64 xb) (.bool ng) (.slice a0 n0 c0) (.slice a1 n1 c1) ∧ Bx3 W' B3 (.bool ng2) (.slice a2_ n2_ c2_) (.slice p2_ m2_ k2_)) from fun W' hb => by
      refine ⟨bx7 hb ?_ ?_ ?_ ?_ ?_ ?_ ?_ ?_ ?_ ?_ ?_ ?_ ?_ ?_, bx3 hb ?_ ?_ ?_ ?_ ?_ ?_⟩
      all_goals first | assumption | assumption)
  replace gb := Below.refl wc.heap.size wc
  go_wp2_with fail
  obtain ⟨m, hm9⟩ : ∃ m : Nat, ((max (limbs v.num.natAbs).length (limbs v.den).length : Nat)) = m := ⟨_, rfl⟩
  have HM := Lib.hid (show ((max (limbs v.num.natAbs).length (limbs v.den).length : Nat) : Int) = (m : Int) by rw [hm9])
  have hm4 : m ≤ 4096 := by have := Hs.out; unfold szq at this; rw [sz_def, sz_def] at hm9; omega
  have t4 : decide (4096 < m) = false := decide_eq_false (by omega)
  have t5 : decide ((4096 : Int) < (m : Int)) = false := decide_eq_false (by omega)
  clear hm9 hm4
  refine (vm_words ng2 _ _ _ _ _ (g2.to gb).isF (m : Int) HM.out).mono ?_
  clear x0_0 y0_0 x0_1 y0_1 x0_2 y0_2 x0_3 y0_3 x0_4 y0_4 x0_5 y0_5 x0_6 y0_6 x3_0 y3_0 x3_1 y3_1 x3_2 y3_2 e0 e1 e2 e3 e4 o0 o1 o2 q0 q1 q2
  rintro e w3 ⟨rfl, hb3⟩
  replace gb := below_step gb hb3
  obtain ⟨⟨z0, x0_0, x0_1, x0_2, x0_3, x0_4, x0_5, x0_6, y0_0, y0_1, y0_2, y0_3, y0_4, y0_5, y0_6⟩, ⟨z3, x3_0, x3_1, x3_2, y3_0, y3_1, y3_2⟩⟩ := HXwc.out _ gb
  obtain ⟨e0, e1, e2, e3, e4⟩ := (i1.to gb)
  obtain ⟨o0, o1, o2, q0, q1, q2⟩ := (i2.to gb)
  go_wp2_with fail
  go_region
  go_wp2_with fail
  go_ret
  exact ⟨_, _, _, _, rfl, below_step zb gb, (g2.to gb).isK, .inr rfl⟩

end Go.Proofs.YtkjcdnlpjldhaaaGreat

