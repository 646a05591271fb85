/-
  The walk of VmRights.
-/
import Derived.Test.YtkjcdnlpjldhaaaGreatG28
import Derived.Test.YtkjcdnlpjldhaaaGreatG27
import Derived.Test.YtkjcdnlpjldhaaaGreatG29
import Derived.Test.YtkjcdnlpjldhaaaGreatG10
import Derived.Deep.RegionHeld3
namespace Go.Proofs.YtkjcdnlpjldhaaaGreat
open Go.RowKit Tw
set_option linter.unusedVariables false
set_option linter.unusedSimpArgs false
attribute [local go_sem ↓] Go.wp_at_zero Go.wp_at_succ

theorem few_short {m : Nat} {c : Cd} (h : fewC m c = true) : ShortC 6 c.all ∧ c.all.length ≤ m ∧ c.regs ≤ 1000 := by
  unfold fewC shortL at h
  simp only [Bool.and_eq_true, decide_eq_true_eq] at h
  exact ⟨fun x hx => h.2 x.q (List.mem_map_of_mem hx), h.1.1, h.1.2⟩

theorem ShortC.up {a b : Nat} {l : List Ins} (h : ShortC a l) (hab : a ≤ b) : ShortC b l := fun x hx => ⟨Nat.le_trans (h x hx).1 hab, Nat.le_trans (h x hx).2 hab⟩

set_option maxRecDepth 100000 in
set_option maxHeartbeats 100000000 in
theorem walk_VmRights (c : Cd) (v : Value) (w : World) (hc : IsC w c v) :
    Calls Tryz.prog 3 #[aggC c v] w (Holds w) := by
  obtain ⟨a0, n0, c0, rfl, H0, hm0⟩ := hc.1.open
  cases hf : fewC 16 c
  case false =>
    have Hf := Lib.hid hf
    clear hf
    go_enter Tryz.func3, Tryz.ntmps3
    go_wp2_with fail
    obtain ⟨W0, hW0⟩ : ∃ W0, w.alloc (.cells #[.int .i64 c.ins, .int .i64 c.rows, .int .i64 c.cols, .int .i64 c.regs, .slice a0 n0 c0] 24) = W0 := ⟨_, rfl⟩
    have HXW0 := Lib.hid (show ∀ W', Below W0.heap.size W0 W' → (W'.cell? ⟨w.heap.size, 0, none⟩ = some (.int .i64 c.ins) ∧ W'.cell? ⟨w.heap.size, 1, none⟩ = some (.int .i64 c.rows) ∧ W'.cell? ⟨w.heap.size, 2, none⟩ = some (.int .i64 c.cols) ∧ W'.cell? ⟨w.heap.size, 3, none⟩ = some (.int .i64 c.regs) ∧ W'.cell? ⟨w.heap.size, 4, none⟩ = some (.slice a0 n0 c0)) from fun W' hb =>
      by and_intros <;> exact kc hb (by first | assumption | (rw [← hW0]; simp [go_sem])))
    have HYW0 := Lib.hid (show ∀ W', Below W0.heap.size W0 W' → (W'.frozen? ⟨w.heap.size, 0, none⟩ = false ∧ W'.frozen? ⟨w.heap.size, 1, none⟩ = false ∧ W'.frozen? ⟨w.heap.size, 2, none⟩ = false ∧ W'.frozen? ⟨w.heap.size, 3, none⟩ = false ∧ W'.frozen? ⟨w.heap.size, 4, none⟩ = false) from fun W' hb =>
      ⟨(hb.frozen (p := ⟨w.heap.size, 0, none⟩) (by rw [← hW0]; simp <;> omega)).trans (by rw [← hW0]; simp [go_sem]), (hb.frozen (p := ⟨w.heap.size, 1, none⟩) (by rw [← hW0]; simp <;> omega)).trans (by rw [← hW0]; simp [go_sem]), (hb.frozen (p := ⟨w.heap.size, 2, none⟩) (by rw [← hW0]; simp <;> omega)).trans (by rw [← hW0]; simp [go_sem]), (hb.frozen (p := ⟨w.heap.size, 3, none⟩) (by rw [← hW0]; simp <;> omega)).trans (by rw [← hW0]; simp [go_sem]), (hb.frozen (p := ⟨w.heap.size, 4, none⟩) (by rw [← hW0]; simp <;> omega)).trans (by rw [← hW0]; simp [go_sem])⟩)
    have HZW0 := Lib.hid (show ∀ W', Below W0.heap.size W0 W' → (w.heap.size < W'.heap.size) from fun W' hb =>
      Nat.lt_of_lt_of_le (by rw [← hW0]; simp <;> omega) hb.size)
    have zb : Below w.heap.size w W0 := by rw [← hW0]; exact below_new _ _
    rw [hW0]
    clear hW0
    have i0 := hc.to zb
    have gb : Below W0.heap.size W0 W0 := Below.refl _ _
    obtain ⟨x0_0, x0_1, x0_2, x0_3, x0_4⟩ := HXW0.out _ gb
    obtain ⟨y0_0, y0_1, y0_2, y0_3, y0_4⟩ := HYW0.out _ gb
    obtain z0 := HZW0.out _ gb
    go_wp2_with fail
    refine (awake25 _).mono ?_
    clear x0_0 y0_0 x0_1 y0_1 x0_2 y0_2 x0_3 y0_3 x0_4 y0_4
    rintro e w1 ⟨rfl, hb1⟩
    replace gb := below_step gb hb1
    obtain ⟨x0_0, x0_1, x0_2, x0_3, x0_4⟩ := HXW0.out _ gb
    obtain ⟨y0_0, y0_1, y0_2, y0_3, y0_4⟩ := HYW0.out _ gb
    obtain z0 := HZW0.out _ gb
    go_wp2_with fail
    refine (ref25_few c _ 16 _ (i0.to gb) false Hf.out (by decide)).mono ?_
    clear x0_0 y0_0 x0_1 y0_1 x0_2 y0_2 x0_3 y0_3 x0_4 y0_4
    rintro e w2 ⟨rfl, hb2⟩
    replace gb := below_step gb hb2
    obtain ⟨x0_0, x0_1, x0_2, x0_3, x0_4⟩ := HXW0.out _ gb
    obtain ⟨y0_0, y0_1, y0_2, y0_3, y0_4⟩ := HYW0.out _ gb
    obtain z0 := HZW0.out _ gb
    go_wp2_with fail
    go_ret
    exact ⟨rfl, below_step zb gb⟩
  case true =>
    have Hs := Lib.hid ((few_short hf).1.up (show 6 ≤ 1000 by decide))
    have Hf := Lib.hid hf
    clear hf
    obtain ⟨r, hr⟩ : ∃ r, rightC c = r := ⟨_, rfl⟩
    obtain ⟨g, hg⟩ : ∃ g, heavyC c = g := ⟨_, rfl⟩
    have Hr := Lib.hid hr
    have Hg := Lib.hid hg
    clear hr hg
    go_enter Tryz.func3, Tryz.ntmps3
    go_wp2_with fail
    obtain ⟨W0, hW0⟩ : ∃ W0, w.alloc (.cells #[.int .i64 c.ins, .int .i64 c.rows, .int .i64 c.cols, .int .i64 c.regs, .slice a0 n0 c0] 24) = W0 := ⟨_, rfl⟩
    have HXW0 := Lib.hid (show ∀ W', Below W0.heap.size W0 W' → (W'.cell? ⟨w.heap.size, 0, none⟩ = some (.int .i64 c.ins) ∧ W'.cell? ⟨w.heap.size, 1, none⟩ = some (.int .i64 c.rows) ∧ W'.cell? ⟨w.heap.size, 2, none⟩ = some (.int .i64 c.cols) ∧ W'.cell? ⟨w.heap.size, 3, none⟩ = some (.int .i64 c.regs) ∧ W'.cell? ⟨w.heap.size, 4, none⟩ = some (.slice a0 n0 c0)) from fun W' hb =>
      by and_intros <;> exact kc hb (by first | assumption | (rw [← hW0]; simp [go_sem])))
    have HYW0 := Lib.hid (show ∀ W', Below W0.heap.size W0 W' → (W'.frozen? ⟨w.heap.size, 0, none⟩ = false ∧ W'.frozen? ⟨w.heap.size, 1, none⟩ = false ∧ W'.frozen? ⟨w.heap.size, 2, none⟩ = false ∧ W'.frozen? ⟨w.heap.size, 3, none⟩ = false ∧ W'.frozen? ⟨w.heap.size, 4, none⟩ = false) from fun W' hb =>
      ⟨(hb.frozen (p := ⟨w.heap.size, 0, none⟩) (by rw [← hW0]; simp <;> omega)).trans (by rw [← hW0]; simp [go_sem]), (hb.frozen (p := ⟨w.heap.size, 1, none⟩) (by rw [← hW0]; simp <;> omega)).trans (by rw [← hW0]; simp [go_sem]), (hb.frozen (p := ⟨w.heap.size, 2, none⟩) (by rw [← hW0]; simp <;> omega)).trans (by rw [← hW0]; simp [go_sem]), (hb.frozen (p := ⟨w.heap.size, 3, none⟩) (by rw [← hW0]; simp <;> omega)).trans (by rw [← hW0]; simp [go_sem]), (hb.frozen (p := ⟨w.heap.size, 4, none⟩) (by rw [← hW0]; simp <;> omega)).trans (by rw [← hW0]; simp [go_sem])⟩)
    have HZW0 := Lib.hid (show ∀ W', Below W0.heap.size W0 W' → (w.heap.size < W'.heap.size) from fun W' hb =>
      Nat.lt_of_lt_of_le (by rw [← hW0]; simp <;> omega) hb.size)
    have zb : Below w.heap.size w W0 := by rw [← hW0]; exact below_new _ _
    rw [hW0]
    clear hW0
    have i0 := hc.to zb
    have gb : Below W0.heap.size W0 W0 := Below.refl _ _
    obtain ⟨x0_0, x0_1, x0_2, x0_3, x0_4⟩ := HXW0.out _ gb
    obtain ⟨y0_0, y0_1, y0_2, y0_3, y0_4⟩ := HYW0.out _ gb
    obtain z0 := HZW0.out _ gb
    go_wp2_with fail
    refine (awake25 _).mono ?_
    clear x0_0 y0_0 x0_1 y0_1 x0_2 y0_2 x0_3 y0_3 x0_4 y0_4
    rintro e w1 ⟨rfl, hb1⟩
    replace gb := below_step gb hb1
    obtain ⟨x0_0, x0_1, x0_2, x0_3, x0_4⟩ := HXW0.out _ gb
    obtain ⟨y0_0, y0_1, y0_2, y0_3, y0_4⟩ := HYW0.out _ gb
    obtain z0 := HZW0.out _ gb
    go_wp2_with fail
    refine (ref25_few c _ 16 _ (i0.to gb) true Hf.out (by decide)).mono ?_
    clear x0_0 y0_0 x0_1 y0_1 x0_2 y0_2 x0_3 y0_3 x0_4 y0_4
    rintro e w2 ⟨rfl, hb2⟩
    replace gb := below_step gb hb2
    obtain ⟨x0_0, x0_1, x0_2, x0_3, x0_4⟩ := HXW0.out _ gb
    obtain ⟨y0_0, y0_1, y0_2, y0_3, y0_4⟩ := HYW0.out _ gb
    obtain z0 := HZW0.out _ gb
    go_wp2_with fail
    go_region_held3 (fun W' => W'.cell? ⟨w.heap.size, 0, none⟩ = some (.int .i64 c.ins) ∧ W'.cell? ⟨w.heap.size, 1, none⟩ = some (.int .i64 c.rows) ∧ W'.cell? ⟨w.heap.size, 2, none⟩ = some (.int .i64 c.cols) ∧ W'.cell? ⟨w.heap.size, 3, none⟩ = some (.int .i64 c.regs) ∧ W'.cell? ⟨w.heap.size, 4, none⟩ = some (.slice a0 n0 c0)) (first | (with_reducible exact HXW0.out _ gb) | ((with_reducible refine HXW0.out _ ?_); first | ((with_reducible refine Below.drew ?_); first | (with_reducible exact gb) | ((with_reducible refine below_step ?_ (below_new _ _)); first | (with_reducible exact gb) | ((with_reducible refine below_step ?_ (below_new _ _)); with_reducible exact gb))) | (first | (with_reducible exact gb) | ((with_reducible refine below_step ?_ (below_new _ _)); first | (with_reducible exact gb) | ((with_reducible refine below_step ?_ (below_new _ _)); with_reducible exact gb))))) (first
      | (go_at_call 17; (refine calls_gen w5 (by first | with_reducible exact Below.refl _ _ | with_reducible exact below_new _ _) ?_); intro V6 hV6 hbV6; have gb := below_step gb hbV6; (with_reducible refine (ref25_heavy c _ _ (i0.to gb) Hs.out g Hg.out).mono ?_); rintro e w6 ⟨rfl, hb6⟩; have gb := below_step gb hb6; obtain ⟨x0_0, x0_1, x0_2, x0_3, x0_4⟩ := HXW0.out _ gb; obtain ⟨y0_0, y0_1, y0_2, y0_3, y0_4⟩ := HYW0.out _ gb; obtain z0 := HZW0.out _ gb)
      | (go_at_call 16; (refine calls_gen w4 (by first | with_reducible exact Below.refl _ _ | with_reducible exact below_new _ _) ?_); intro V5 hV5 hbV5; have gb := below_step gb hbV5; (with_reducible refine (vm_heavy c _ _ (i0.to gb) Hs.out g Hg.out).mono ?_); rintro e w5 ⟨rfl, hb5⟩; have gb := below_step gb hb5; obtain ⟨x0_0, x0_1, x0_2, x0_3, x0_4⟩ := HXW0.out _ gb; obtain ⟨y0_0, y0_1, y0_2, y0_3, y0_4⟩ := HYW0.out _ gb; obtain z0 := HZW0.out _ gb)
      | (go_at_call 15; (refine calls_gen w3 (by first | with_reducible exact Below.refl _ _ | with_reducible exact below_new _ _) ?_); intro V4 hV4 hbV4; have gb := below_step gb hbV4; (with_reducible refine (ref25_right c _ _ (i0.to gb) Hs.out r Hr.out).mono ?_); rintro e w4 ⟨rfl, hb4⟩; have gb := below_step gb hb4; obtain ⟨x0_0, x0_1, x0_2, x0_3, x0_4⟩ := HXW0.out _ gb; obtain ⟨y0_0, y0_1, y0_2, y0_3, y0_4⟩ := HYW0.out _ gb; obtain z0 := HZW0.out _ gb)
      | (go_at_call 14; (refine calls_gen w2 (by first | with_reducible exact (Below.refl _ _).drew | with_reducible exact (below_new _ _).drew) ?_); intro V3 hV3 hbV3; have gb := below_step gb hbV3; (with_reducible refine (vm_right c _ _ (i0.to gb) Hs.out r Hr.out).mono ?_); rintro e w3 ⟨rfl, hb3⟩; have gb := below_step gb hb3; obtain ⟨x0_0, x0_1, x0_2, x0_3, x0_4⟩ := HXW0.out _ gb; obtain ⟨y0_0, y0_1, y0_2, y0_3, y0_4⟩ := HYW0.out _ gb; obtain z0 := HZW0.out _ gb))
    go_wp2_with fail
    go_ret
    exact ⟨rfl, below_step zb gb⟩

end Go.Proofs.YtkjcdnlpjldhaaaGreat

