/-
  The texts Vm2, merged.
-/
import Derived.Test.YtkjcdnlpjldhaaaGreatG21
import Derived.Test.YtkjcdnlpjldhaaaGreatG10
import Derived.Deep.RegionHeld3
namespace Go.Proofs.YtkjcdnlpjldhaaaGreat
open Go.RowKit Tw
set_option linter.unusedVariables false
set_option linter.unusedSimpArgs false
attribute [local go_sem ↓] Go.wp_at_zero Go.wp_at_succ

theorem prod_bounds {r c : Int} (h1 : 1 ≤ r ∧ r ≤ 40) (h2 : 1 ≤ c ∧ c ≤ 40) : 1 ≤ r * c ∧ r * c ≤ 1600 := by
  have a := Int.mul_le_mul h1.1 h2.1 (by decide) (by omega)
  have b := Int.mul_le_mul h1.2 h2.2 (by omega) (by decide)
  exact ⟨by simpa using a, by simpa using b⟩

theorem insOk_eq {c : Cd} {L : List Int} {x : Ins} (hk : 0 ≤ opRegs x.op) (hn : numOk x = true) : insOk c L x = (aOk c L x && bOk L x && decide (0 ≤ x.to) && decide (x.to < mostTo c x)) := by
  unfold insOk
  rw [decide_eq_true hk, hn, Bool.true_and, Bool.true_and, Bool.decide_and, Bool.and_assoc, Bool.and_assoc, Bool.and_assoc]

theorem aOk_zero {c : Cd} {L : List Int} {x : Ins} (h : x.op = 0) : aOk c L x = (decide (0 ≤ x.a) && decide (x.a < c.ins)) := by
  unfold aOk; rw [if_pos h, Bool.decide_and]

theorem aOk_reg {c : Cd} {L : List Int} {x : Ins} (hk : 0 ≤ opRegs x.op) (h : x.op ≠ 0) : aOk c L x = (if decide (1 ≤ opRegs x.op) = true then decide (x.a ∈ L) else decide (x.a = 0)) := by
  unfold aOk
  rw [if_neg h]
  by_cases h1 : x.op = 1
  · rw [if_pos h1, h1]; rfl
  · rw [if_neg h1, if_pos]
    rcases opRegs_cases _ hk with e | e | e | e | e | e | e | e | e | e | e <;> first | exact absurd e h | exact absurd e h1 | (rw [e]; decide)

theorem bOk_pow {L : List Int} {x : Ins} (h : x.op = 7) : bOk L x = (decide (-21 ≤ x.b) && decide (x.b ≤ 21)) := by
  unfold bOk; rw [if_pos h, Bool.decide_and]

theorem bOk_reg {L : List Int} {x : Ins} (h : x.op ≠ 7) : bOk L x = (if decide (opRegs x.op = 2) = true then decide (x.b ∈ L) else decide (x.b = 0)) := by
  unfold bOk
  rw [if_neg h]
  by_cases h2 : opRegs x.op = 2
  · rw [if_pos h2, if_pos (decide_eq_true h2)]
  · rw [if_neg h2, if_neg (by simp [h2])]

theorem vm_shape_l (op : Int) (sa sb sp ok : Bool) (w : World) (h1 : decide (1 ≤ opRegs op) = sa) (h2 : decide (opRegs op = 2) = sb) (h3 : decide (op = 7) = sp) (h4 : decide (0 ≤ opRegs op) = ok) :
    Calls Tryz.prog 35 #[.int .i64 op] w (fun e w' => e = .returned (.tuple #[.agg #[.bool sa, .bool sb, .bool sp], .bool ok]) ∧ Below w.heap.size w w') := by
  subst h1 h2 h3 h4
  exact vm_shape op w

set_option maxRecDepth 100000 in
set_option maxHeartbeats 20000000 in
theorem vm_instr_no (c : Cd) (v : Value) (op to xa xb : Int) (ng : Bool) (vn vd : Value) (ln ld : List Nat) (g n : Nat) (L : List Int) (w : World) (hc : IsC w c v) (hx : IsX w ⟨op, to, xa, xb, ⟨ng, ln, ld⟩⟩ vn vd) (hrow : RowF w g n (fun i => .bool (decide ((i : Int) ∈ L)))) (hL : ∀ x ∈ L, 0 ≤ x ∧ x < (n : Int)) (hn : n ≤ 100000) (hnr : (n : Int) = c.regs) (hr : 1 ≤ c.rows ∧ c.rows ≤ 40) (hcl : 1 ≤ c.cols ∧ c.cols ≤ 40) (h0 : ¬ 0 ≤ opRegs op) (o : Bool) (ho : insOk c L ⟨op, to, xa, xb, ⟨ng, ln, ld⟩⟩ = o) :
    Calls Tryz.prog 33 #[aggC c v, .agg #[.int .i64 op, .int .i64 to, .int .i64 xa, .int .i64 xb, .bool ng, vn, vd], .slice (some ⟨g, 0, none⟩) n n] w (fun e w' => e = .returned (.bool o) ∧ Below w.heap.size w w') := by
  have ho' : o = false := by
    rw [← ho]; unfold insOk
    rw [decide_eq_false h0]; rfl
  obtain ⟨sa, hsa⟩ : ∃ b, decide (1 ≤ opRegs op) = b := ⟨_, rfl⟩
  obtain ⟨sb, hsb⟩ : ∃ b, decide (opRegs op = 2) = b := ⟨_, rfl⟩
  obtain ⟨sp, hsp⟩ : ∃ b, decide (op = 7) = b := ⟨_, rfl⟩
  have Hsa := Lib.hid hsa
  have Hsb := Lib.hid hsb
  have Hsp := Lib.hid hsp
  have Hok := Lib.hid (decide_eq_false h0)
  clear ho hsa hsb hsp h0 hnr hr hcl hL
  subst ho'
  obtain ⟨a0, n0, c0, rfl, H0, hm0⟩ := hc.1.open
  obtain ⟨a1, n1, c1, rfl, H1, hm1⟩ := hx.1.1.open
  obtain ⟨a2, n2, c2, rfl, H2, hm2⟩ := hx.1.2.1.open
  go_enter Tryz.func33, Tryz.ntmps33
  go_wp2_with fail
  obtain ⟨W0, hW0⟩ : ∃ W0, (w.alloc (.cells #[.int .i64 c.ins, .int .i64 c.rows, .int .i64 c.cols, .int .i64 c.regs, .slice a0 n0 c0] 24)).alloc (.cells #[.int .i64 op, .int .i64 to, .int .i64 xa, .int .i64 xb, .bool ng, .slice a1 n1 c1, .slice a2 n2 c2] 49) = W0 := ⟨_, rfl⟩
  have HXW0 := Lib.hid (show ∀ W', Below W0.heap.size W0 W' → (Bx5 W' w.heap.size (.int .i64 c.ins) (.int .i64 c.rows) (.int .i64 c.cols) (.int .i64 c.regs) (.slice a0 n0 c0) ∧ Bx7 W' (w.heap.size + 1) (.int .i64 op) (.int .i64 to) (.int .i64 xa) (.int .i64 xb) (.bool ng) (.slice a1 n1 c1) (.slice a2 n2 c2)) from fun W' hb => by
      refine ⟨bx5 hb ?_ ?_ ?_ ?_ ?_ ?_ ?_ ?_ ?_ ?_, bx7 hb ?_ ?_ ?_ ?_ ?_ ?_ ?_ ?_ ?_ ?_ ?_ ?_ ?_ ?_⟩
      all_goals first | assumption | (rw [← hW0]; simp [go_sem]))
  have zb : Below w.heap.size w W0 := by rw [← hW0]; exact below_step (below_new _ _) (below_new _ _)
  rw [hW0]
  clear hW0
  have i0 := hc.to zb
  have i1 := hx.to zb
  have i2 := hrow.to zb
  have gb : Below W0.heap.size W0 W0 := Below.refl _ _
  obtain ⟨⟨z0, x0_0, x0_1, x0_2, x0_3, x0_4, y0_0, y0_1, y0_2, y0_3, y0_4⟩, ⟨z1, x1_0, x1_1, x1_2, x1_3, x1_4, x1_5, x1_6, y1_0, y1_1, y1_2, y1_3, y1_4, y1_5, y1_6⟩⟩ := HXW0.out _ gb
  go_wp2_with fail
  refine (vm_shape_l op sa sb sp false _ Hsa.out Hsb.out Hsp.out Hok.out).mono ?_
  clear x0_0 y0_0 x0_1 y0_1 x0_2 y0_2 x0_3 y0_3 x0_4 y0_4 x1_0 y1_0 x1_1 y1_1 x1_2 y1_2 x1_3 y1_3 x1_4 y1_4 x1_5 y1_5 x1_6 y1_6
  rintro e w1 ⟨rfl, hb1⟩
  replace gb := below_step gb hb1
  obtain ⟨⟨z0, x0_0, x0_1, x0_2, x0_3, x0_4, y0_0, y0_1, y0_2, y0_3, y0_4⟩, ⟨z1, x1_0, x1_1, x1_2, x1_3, x1_4, x1_5, x1_6, y1_0, y1_1, y1_2, y1_3, y1_4, y1_5, y1_6⟩⟩ := HXW0.out _ gb
  go_wp2_with fail
  obtain ⟨W1, hW1⟩ : ∃ W1, w1.alloc (.cells #[.bool sa, .bool sb, .bool sp] 70) = W1 := ⟨_, rfl⟩
  have hb_W1 : Below w1.heap.size w1 W1 := by rw [← hW1]; exact below_new _ _
  have hs_W1 : Hid (W1.heap.size = w1.heap.size + 1) := by show _ = _; rw [← hW1]; simp
  clear x0_0 y0_0 x0_1 y0_1 x0_2 y0_2 x0_3 y0_3 x0_4 y0_4 x1_0 y1_0 x1_1 y1_1 x1_2 y1_2 x1_3 y1_3 x1_4 y1_4 x1_5 y1_5 x1_6 y1_6
  replace gb := below_step gb hb_W1
  obtain ⟨⟨z0, x0_0, x0_1, x0_2, x0_3, x0_4, y0_0, y0_1, y0_2, y0_3, y0_4⟩, ⟨z1, x1_0, x1_1, x1_2, x1_3, x1_4, x1_5, x1_6, y1_0, y1_1, y1_2, y1_3, y1_4, y1_5, y1_6⟩⟩ := HXW0.out _ gb
  have x5_0 : W1.cell? ⟨w1.heap.size, 0, none⟩ = some (.bool sa) := by rw [← hW1]; simp [go_sem]
  have y5_0 : W1.frozen? ⟨w1.heap.size, 0, none⟩ = false := by rw [← hW1]; simp [go_sem]
  have x5_1 : W1.cell? ⟨w1.heap.size, 1, none⟩ = some (.bool sb) := by rw [← hW1]; simp [go_sem]
  have y5_1 : W1.frozen? ⟨w1.heap.size, 1, none⟩ = false := by rw [← hW1]; simp [go_sem]
  have x5_2 : W1.cell? ⟨w1.heap.size, 2, none⟩ = some (.bool sp) := by rw [← hW1]; simp [go_sem]
  have y5_2 : W1.frozen? ⟨w1.heap.size, 2, none⟩ = false := by rw [← hW1]; simp [go_sem]
  have z5 : w1.heap.size < W1.heap.size := by rw [← hW1]; simp
  rw [hW1]
  clear hW1
  replace i0 := i0.to gb
  replace i1 := i1.to gb
  replace i2 := i2.to gb
  replace zb := below_step zb gb
  have HXW1 := Lib.hid (show ∀ W', Below W1.heap.size W1 W' → (Bx5 W' w.heap.size (.int .i64 c.ins) (.int .i64 c.rows) (.int .i64 c.cols) (.int .i64 c.regs) (.slice a0 n0 c0) ∧ Bx7 W' (w.heap.size + 1) (.int .i64 op) (.int .i64 to) (.int .i64 xa) (.int .i64 xb) (.bool ng) (.slice a1 n1 c1) (.slice a2 n2 c2) ∧ Bx3 W' w1.heap.size (.bool sa) (.bool sb) (.bool sp)) from fun W' hb => by
      refine ⟨bx5 hb ?_ ?_ ?_ ?_ ?_ ?_ ?_ ?_ ?_ ?_, bx7 hb ?_ ?_ ?_ ?_ ?_ ?_ ?_ ?_ ?_ ?_ ?_ ?_ ?_ ?_, bx3 hb ?_ ?_ ?_ ?_ ?_ ?_⟩
      all_goals first | assumption | assumption)
  replace gb := Below.refl W1.heap.size W1
  go_wp2_with fail
  go_ret
  exact ⟨rfl, below_step zb gb⟩

set_option maxRecDepth 100000 in
set_option maxHeartbeats 20000000 in
theorem vm_instr_num (c : Cd) (v : Value) (op to xa xb : Int) (ng : Bool) (vn vd : Value) (ln ld : List Nat) (g n : Nat) (L : List Int) (w : World) (hc : IsC w c v) (hx : IsX w ⟨op, to, xa, xb, ⟨ng, ln, ld⟩⟩ vn vd) (hrow : RowF w g n (fun i => .bool (decide ((i : Int) ∈ L)))) (hL : ∀ x ∈ L, 0 ≤ x ∧ x < (n : Int)) (hn : n ≤ 100000) (hnr : (n : Int) = c.regs) (hr : 1 ≤ c.rows ∧ c.rows ≤ 40) (hcl : 1 ≤ c.cols ∧ c.cols ≤ 40) (h0 : 0 ≤ opRegs op) (h1 : numOk ⟨op, to, xa, xb, ⟨ng, ln, ld⟩⟩ = false) (o : Bool) (ho : insOk c L ⟨op, to, xa, xb, ⟨ng, ln, ld⟩⟩ = o) :
    Calls Tryz.prog 33 #[aggC c v, .agg #[.int .i64 op, .int .i64 to, .int .i64 xa, .int .i64 xb, .bool ng, vn, vd], .slice (some ⟨g, 0, none⟩) n n] w (fun e w' => e = .returned (.bool o) ∧ Below w.heap.size w w') := by
  have ho' : o = false := by
    rw [← ho]; unfold insOk
    rw [h1, Bool.and_false]; rfl
  obtain ⟨sa, hsa⟩ : ∃ b, decide (1 ≤ opRegs op) = b := ⟨_, rfl⟩
  obtain ⟨sb, hsb⟩ : ∃ b, decide (opRegs op = 2) = b := ⟨_, rfl⟩
  obtain ⟨sp, hsp⟩ : ∃ b, decide (op = 7) = b := ⟨_, rfl⟩
  have Hsa := Lib.hid hsa
  have Hsb := Lib.hid hsb
  have Hsp := Lib.hid hsp
  have Hok := Lib.hid (decide_eq_true h0)
  have Hnum := Lib.hid h1
  clear ho hsa hsb hsp h0 h1 hnr hr hcl hL
  subst ho'
  obtain ⟨a0, n0, c0, rfl, H0, hm0⟩ := hc.1.open
  obtain ⟨a1, n1, c1, rfl, H1, hm1⟩ := hx.1.1.open
  obtain ⟨a2, n2, c2, rfl, H2, hm2⟩ := hx.1.2.1.open
  go_enter Tryz.func33, Tryz.ntmps33
  go_wp2_with fail
  obtain ⟨W0, hW0⟩ : ∃ W0, (w.alloc (.cells #[.int .i64 c.ins, .int .i64 c.rows, .int .i64 c.cols, .int .i64 c.regs, .slice a0 n0 c0] 24)).alloc (.cells #[.int .i64 op, .int .i64 to, .int .i64 xa, .int .i64 xb, .bool ng, .slice a1 n1 c1, .slice a2 n2 c2] 49) = W0 := ⟨_, rfl⟩
  have HXW0 := Lib.hid (show ∀ W', Below W0.heap.size W0 W' → (Bx5 W' w.heap.size (.int .i64 c.ins) (.int .i64 c.rows) (.int .i64 c.cols) (.int .i64 c.regs) (.slice a0 n0 c0) ∧ Bx7 W' (w.heap.size + 1) (.int .i64 op) (.int .i64 to) (.int .i64 xa) (.int .i64 xb) (.bool ng) (.slice a1 n1 c1) (.slice a2 n2 c2)) from fun W' hb => by
      refine ⟨bx5 hb ?_ ?_ ?_ ?_ ?_ ?_ ?_ ?_ ?_ ?_, bx7 hb ?_ ?_ ?_ ?_ ?_ ?_ ?_ ?_ ?_ ?_ ?_ ?_ ?_ ?_⟩
      all_goals first | assumption | (rw [← hW0]; simp [go_sem]))
  have zb : Below w.heap.size w W0 := by rw [← hW0]; exact below_step (below_new _ _) (below_new _ _)
  rw [hW0]
  clear hW0
  have i0 := hc.to zb
  have i1 := hx.to zb
  have i2 := hrow.to zb
  have gb : Below W0.heap.size W0 W0 := Below.refl _ _
  obtain ⟨⟨z0, x0_0, x0_1, x0_2, x0_3, x0_4, y0_0, y0_1, y0_2, y0_3, y0_4⟩, ⟨z1, x1_0, x1_1, x1_2, x1_3, x1_4, x1_5, x1_6, y1_0, y1_1, y1_2, y1_3, y1_4, y1_5, y1_6⟩⟩ := HXW0.out _ gb
  go_wp2_with fail
  refine (vm_shape_l op sa sb sp true _ Hsa.out Hsb.out Hsp.out Hok.out).mono ?_
  clear x0_0 y0_0 x0_1 y0_1 x0_2 y0_2 x0_3 y0_3 x0_4 y0_4 x1_0 y1_0 x1_1 y1_1 x1_2 y1_2 x1_3 y1_3 x1_4 y1_4 x1_5 y1_5 x1_6 y1_6
  rintro e w1 ⟨rfl, hb1⟩
  replace gb := below_step gb hb1
  obtain ⟨⟨z0, x0_0, x0_1, x0_2, x0_3, x0_4, y0_0, y0_1, y0_2, y0_3, y0_4⟩, ⟨z1, x1_0, x1_1, x1_2, x1_3, x1_4, x1_5, x1_6, y1_0, y1_1, y1_2, y1_3, y1_4, y1_5, y1_6⟩⟩ := HXW0.out _ gb
  go_wp2_with fail
  obtain ⟨W1, hW1⟩ : ∃ W1, w1.alloc (.cells #[.bool sa, .bool sb, .bool sp] 70) = W1 := ⟨_, rfl⟩
  have hb_W1 : Below w1.heap.size w1 W1 := by rw [← hW1]; exact below_new _ _
  have hs_W1 : Hid (W1.heap.size = w1.heap.size + 1) := by show _ = _; rw [← hW1]; simp
  clear x0_0 y0_0 x0_1 y0_1 x0_2 y0_2 x0_3 y0_3 x0_4 y0_4 x1_0 y1_0 x1_1 y1_1 x1_2 y1_2 x1_3 y1_3 x1_4 y1_4 x1_5 y1_5 x1_6 y1_6
  replace gb := below_step gb hb_W1
  obtain ⟨⟨z0, x0_0, x0_1, x0_2, x0_3, x0_4, y0_0, y0_1, y0_2, y0_3, y0_4⟩, ⟨z1, x1_0, x1_1, x1_2, x1_3, x1_4, x1_5, x1_6, y1_0, y1_1, y1_2, y1_3, y1_4, y1_5, y1_6⟩⟩ := HXW0.out _ gb
  have x5_0 : W1.cell? ⟨w1.heap.size, 0, none⟩ = some (.bool sa) := by rw [← hW1]; simp [go_sem]
  have y5_0 : W1.frozen? ⟨w1.heap.size, 0, none⟩ = false := by rw [← hW1]; simp [go_sem]
  have x5_1 : W1.cell? ⟨w1.heap.size, 1, none⟩ = some (.bool sb) := by rw [← hW1]; simp [go_sem]
  have y5_1 : W1.frozen? ⟨w1.heap.size, 1, none⟩ = false := by rw [← hW1]; simp [go_sem]
  have x5_2 : W1.cell? ⟨w1.heap.size, 2, none⟩ = some (.bool sp) := by rw [← hW1]; simp [go_sem]
  have y5_2 : W1.frozen? ⟨w1.heap.size, 2, none⟩ = false := by rw [← hW1]; simp [go_sem]
  have z5 : w1.heap.size < W1.heap.size := by rw [← hW1]; simp
  rw [hW1]
  clear hW1
  replace i0 := i0.to gb
  replace i1 := i1.to gb
  replace i2 := i2.to gb
  replace zb := below_step zb gb
  have HXW1 := Lib.hid (show ∀ W', Below W1.heap.size W1 W' → (Bx5 W' w.heap.size (.int .i64 c.ins) (.int .i64 c.rows) (.int .i64 c.cols) (.int .i64 c.regs) (.slice a0 n0 c0) ∧ Bx7 W' (w.heap.size + 1) (.int .i64 op) (.int .i64 to) (.int .i64 xa) (.int .i64 xb) (.bool ng) (.slice a1 n1 c1) (.slice a2 n2 c2) ∧ Bx3 W' w1.heap.size (.bool sa) (.bool sb) (.bool sp)) from fun W' hb => by
      refine ⟨bx5 hb ?_ ?_ ?_ ?_ ?_ ?_ ?_ ?_ ?_ ?_, bx7 hb ?_ ?_ ?_ ?_ ?_ ?_ ?_ ?_ ?_ ?_ ?_ ?_ ?_ ?_, bx3 hb ?_ ?_ ?_ ?_ ?_ ?_⟩
      all_goals first | assumption | assumption)
  replace gb := Below.refl W1.heap.size W1
  go_wp2_with fail
  refine (vm_number op to xa xb ng _ _ ln ld _ (i1.to gb) false Hnum.out).mono ?_
  clear x0_0 y0_0 x0_1 y0_1 x0_2 y0_2 x0_3 y0_3 x0_4 y0_4 x1_0 y1_0 x1_1 y1_1 x1_2 y1_2 x1_3 y1_3 x1_4 y1_4 x1_5 y1_5 x1_6 y1_6 x5_0 y5_0 x5_1 y5_1 x5_2 y5_2
  rintro e w2 ⟨rfl, hb2⟩
  replace gb := below_step gb hb2
  obtain ⟨⟨z0, x0_0, x0_1, x0_2, x0_3, x0_4, y0_0, y0_1, y0_2, y0_3, y0_4⟩, ⟨z1, x1_0, x1_1, x1_2, x1_3, x1_4, x1_5, x1_6, y1_0, y1_1, y1_2, y1_3, y1_4, y1_5, y1_6⟩, ⟨z5, x5_0, x5_1, x5_2, y5_0, y5_1, y5_2⟩⟩ := HXW1.out _ gb
  go_wp2_with fail
  go_ret
  exact ⟨rfl, below_step zb gb⟩

set_option maxRecDepth 100000 in
set_option maxHeartbeats 60000000 in
theorem vm_instr_ten (c : Cd) (v : Value) (op to xa xb : Int) (ng : Bool) (vn vd : Value) (ln ld : List Nat) (g n : Nat) (L : List Int) (w : World) (hc : IsC w c v) (hx : IsX w ⟨op, to, xa, xb, ⟨ng, ln, ld⟩⟩ vn vd) (hrow : RowF w g n (fun i => .bool (decide ((i : Int) ∈ L)))) (hL : ∀ x ∈ L, 0 ≤ x ∧ x < (n : Int)) (hn : n ≤ 100000) (hnr : (n : Int) = c.regs) (hr : 1 ≤ c.rows ∧ c.rows ≤ 40) (hcl : 1 ≤ c.cols ∧ c.cols ≤ 40) (h0 : 0 ≤ opRegs op) (hnum : numOk ⟨op, to, xa, xb, ⟨ng, ln, ld⟩⟩ = true) (h1 : op = 10) (o : Bool) (ho : insOk c L ⟨op, to, xa, xb, ⟨ng, ln, ld⟩⟩ = o) :
    Calls Tryz.prog 33 #[aggC c v, .agg #[.int .i64 op, .int .i64 to, .int .i64 xa, .int .i64 xb, .bool ng, vn, vd], .slice (some ⟨g, 0, none⟩) n n] w (fun e w' => e = .returned (.bool o) ∧ Below w.heap.size w w') := by
  rw [insOk_eq (x := ⟨op, to, xa, xb, ⟨ng, ln, ld⟩⟩) h0 hnum, aOk_reg (x := ⟨op, to, xa, xb, ⟨ng, ln, ld⟩⟩) h0 (by show op ≠ 0; first | assumption | omega), bOk_reg (x := ⟨op, to, xa, xb, ⟨ng, ln, ld⟩⟩) (by show op ≠ 7; first | assumption | omega)] at ho
  obtain ⟨sa, hsa⟩ : ∃ b, decide (1 ≤ opRegs op) = b := ⟨_, rfl⟩
  obtain ⟨sb, hsb⟩ : ∃ b, decide (opRegs op = 2) = b := ⟨_, rfl⟩
  have hsp : decide (op = 7) = false := by simp; omega
  obtain ⟨ra, hra⟩ : ∃ b, (if sa = true then decide (xa ∈ L) else decide (xa = 0)) = b := ⟨_, rfl⟩
  obtain ⟨rb, hrb⟩ : ∃ b, (if sb = true then decide (xb ∈ L) else decide (xb = 0)) = b := ⟨_, rfl⟩
  obtain ⟨p1, tp1⟩ : ∃ b, decide (0 ≤ xa) = b := ⟨_, rfl⟩
  obtain ⟨p2, tp2⟩ : ∃ b, decide (xa < c.ins) = b := ⟨_, rfl⟩
  obtain ⟨r1, tr1⟩ : ∃ b, decide (-21 ≤ xb) = b := ⟨_, rfl⟩
  obtain ⟨r2, tr2⟩ : ∃ b, decide (xb ≤ 21) = b := ⟨_, rfl⟩
  obtain ⟨q1, tq1⟩ : ∃ b, decide (0 ≤ to) = b := ⟨_, rfl⟩
  obtain ⟨q2, tq2⟩ : ∃ b, decide (to < c.rows * c.cols) = b := ⟨_, rfl⟩
  have t10 : (op == 10) = true := by simp; omega
  have t0 : (op == 0) = false := by simp; omega
  have pb := prod_bounds hr hcl
  have HM : IntKind.i64.wrap (c.rows * c.cols) = c.rows * c.cols := IntWalk.i64_in _ (by omega)
  have ho' : (ra && rb && q1 && q2) = o := by
    have e : mostTo c ⟨op, to, xa, xb, ⟨ng, ln, ld⟩⟩ = c.rows * c.cols := by unfold mostTo; rw [if_pos h1]
    rw [e] at ho
    subst ho hra hrb hsa hsb tp1 tp2 tr1 tr2 tq1 tq2
    rfl
  have Hsa := Lib.hid hsa
  have Hsb := Lib.hid hsb
  have Hsp := Lib.hid hsp
  have Hok := Lib.hid (decide_eq_true h0)
  have Hnum := Lib.hid hnum
  have Hra := Lib.hid hra
  have Hrb := Lib.hid hrb
  have HL := Lib.hid hL
  clear ho hsa hsb hsp hra hrb h0 hnum hnr hr hcl hL pb h1
  obtain ⟨a0, n0, c0, rfl, H0, hm0⟩ := hc.1.open
  obtain ⟨a1, n1, c1, rfl, H1, hm1⟩ := hx.1.1.open
  obtain ⟨a2, n2, c2, rfl, H2, hm2⟩ := hx.1.2.1.open
  cases ra
  case false =>
    subst ho'
    go_enter Tryz.func33, Tryz.ntmps33
    go_wp2_with fail
    obtain ⟨W0, hW0⟩ : ∃ W0, (w.alloc (.cells #[.int .i64 c.ins, .int .i64 c.rows, .int .i64 c.cols, .int .i64 c.regs, .slice a0 n0 c0] 24)).alloc (.cells #[.int .i64 op, .int .i64 to, .int .i64 xa, .int .i64 xb, .bool ng, .slice a1 n1 c1, .slice a2 n2 c2] 49) = W0 := ⟨_, rfl⟩
    have HXW0 := Lib.hid (show ∀ W', Below W0.heap.size W0 W' → (Bx5 W' w.heap.size (.int .i64 c.ins) (.int .i64 c.rows) (.int .i64 c.cols) (.int .i64 c.regs) (.slice a0 n0 c0) ∧ Bx7 W' (w.heap.size + 1) (.int .i64 op) (.int .i64 to) (.int .i64 xa) (.int .i64 xb) (.bool ng) (.slice a1 n1 c1) (.slice a2 n2 c2)) from fun W' hb => by
        refine ⟨bx5 hb ?_ ?_ ?_ ?_ ?_ ?_ ?_ ?_ ?_ ?_, bx7 hb ?_ ?_ ?_ ?_ ?_ ?_ ?_ ?_ ?_ ?_ ?_ ?_ ?_ ?_⟩
        all_goals first | assumption | (rw [← hW0]; simp [go_sem]))
    have zb : Below w.heap.size w W0 := by rw [← hW0]; exact below_step (below_new _ _) (below_new _ _)
    rw [hW0]
    clear hW0
    have i0 := hc.to zb
    have i1 := hx.to zb
    have i2 := hrow.to zb
    have gb : Below W0.heap.size W0 W0 := Below.refl _ _
    obtain ⟨⟨z0, x0_0, x0_1, x0_2, x0_3, x0_4, y0_0, y0_1, y0_2, y0_3, y0_4⟩, ⟨z1, x1_0, x1_1, x1_2, x1_3, x1_4, x1_5, x1_6, y1_0, y1_1, y1_2, y1_3, y1_4, y1_5, y1_6⟩⟩ := HXW0.out _ gb
    go_wp2_with fail
    refine (vm_shape_l op sa sb false true _ Hsa.out Hsb.out Hsp.out Hok.out).mono ?_
    clear x0_0 y0_0 x0_1 y0_1 x0_2 y0_2 x0_3 y0_3 x0_4 y0_4 x1_0 y1_0 x1_1 y1_1 x1_2 y1_2 x1_3 y1_3 x1_4 y1_4 x1_5 y1_5 x1_6 y1_6
    rintro e w1 ⟨rfl, hb1⟩
    replace gb := below_step gb hb1
    obtain ⟨⟨z0, x0_0, x0_1, x0_2, x0_3, x0_4, y0_0, y0_1, y0_2, y0_3, y0_4⟩, ⟨z1, x1_0, x1_1, x1_2, x1_3, x1_4, x1_5, x1_6, y1_0, y1_1, y1_2, y1_3, y1_4, y1_5, y1_6⟩⟩ := HXW0.out _ gb
    go_wp2_with fail
    obtain ⟨W1, hW1⟩ : ∃ W1, w1.alloc (.cells #[.bool sa, .bool sb, .bool false] 70) = W1 := ⟨_, rfl⟩
    have hb_W1 : Below w1.heap.size w1 W1 := by rw [← hW1]; exact below_new _ _
    have hs_W1 : Hid (W1.heap.size = w1.heap.size + 1) := by show _ = _; rw [← hW1]; simp
    clear x0_0 y0_0 x0_1 y0_1 x0_2 y0_2 x0_3 y0_3 x0_4 y0_4 x1_0 y1_0 x1_1 y1_1 x1_2 y1_2 x1_3 y1_3 x1_4 y1_4 x1_5 y1_5 x1_6 y1_6
    replace gb := below_step gb hb_W1
    obtain ⟨⟨z0, x0_0, x0_1, x0_2, x0_3, x0_4, y0_0, y0_1, y0_2, y0_3, y0_4⟩, ⟨z1, x1_0, x1_1, x1_2, x1_3, x1_4, x1_5, x1_6, y1_0, y1_1, y1_2, y1_3, y1_4, y1_5, y1_6⟩⟩ := HXW0.out _ gb
    have x5_0 : W1.cell? ⟨w1.heap.size, 0, none⟩ = some (.bool sa) := by rw [← hW1]; simp [go_sem]
    have y5_0 : W1.frozen? ⟨w1.heap.size, 0, none⟩ = false := by rw [← hW1]; simp [go_sem]
    have x5_1 : W1.cell? ⟨w1.heap.size, 1, none⟩ = some (.bool sb) := by rw [← hW1]; simp [go_sem]
    have y5_1 : W1.frozen? ⟨w1.heap.size, 1, none⟩ = false := by rw [← hW1]; simp [go_sem]
    have x5_2 : W1.cell? ⟨w1.heap.size, 2, none⟩ = some (.bool false) := by rw [← hW1]; simp [go_sem]
    have y5_2 : W1.frozen? ⟨w1.heap.size, 2, none⟩ = false := by rw [← hW1]; simp [go_sem]
    have z5 : w1.heap.size < W1.heap.size := by rw [← hW1]; simp
    rw [hW1]
    clear hW1
    replace i0 := i0.to gb
    replace i1 := i1.to gb
    replace i2 := i2.to gb
    replace zb := below_step zb gb
    have HXW1 := Lib.hid (show ∀ W', Below W1.heap.size W1 W' → (Bx5 W' w.heap.size (.int .i64 c.ins) (.int .i64 c.rows) (.int .i64 c.cols) (.int .i64 c.regs) (.slice a0 n0 c0) ∧ Bx7 W' (w.heap.size + 1) (.int .i64 op) (.int .i64 to) (.int .i64 xa) (.int .i64 xb) (.bool ng) (.slice a1 n1 c1) (.slice a2 n2 c2) ∧ Bx3 W' w1.heap.size (.bool sa) (.bool sb) (.bool false)) from fun W' hb => by
        refine ⟨bx5 hb ?_ ?_ ?_ ?_ ?_ ?_ ?_ ?_ ?_ ?_, bx7 hb ?_ ?_ ?_ ?_ ?_ ?_ ?_ ?_ ?_ ?_ ?_ ?_ ?_ ?_, bx3 hb ?_ ?_ ?_ ?_ ?_ ?_⟩
        all_goals first | assumption | assumption)
    replace gb := Below.refl W1.heap.size W1
    go_wp2_with fail
    refine (vm_number op to xa xb ng _ _ ln ld _ (i1.to gb) true Hnum.out).mono ?_
    clear x0_0 y0_0 x0_1 y0_1 x0_2 y0_2 x0_3 y0_3 x0_4 y0_4 x1_0 y1_0 x1_1 y1_1 x1_2 y1_2 x1_3 y1_3 x1_4 y1_4 x1_5 y1_5 x1_6 y1_6 x5_0 y5_0 x5_1 y5_1 x5_2 y5_2
    rintro e w2 ⟨rfl, hb2⟩
    replace gb := below_step gb hb2
    obtain ⟨⟨z0, x0_0, x0_1, x0_2, x0_3, x0_4, y0_0, y0_1, y0_2, y0_3, y0_4⟩, ⟨z1, x1_0, x1_1, x1_2, x1_3, x1_4, x1_5, x1_6, y1_0, y1_1, y1_2, y1_3, y1_4, y1_5, y1_6⟩, ⟨z5, x5_0, x5_1, x5_2, y5_0, y5_1, y5_2⟩⟩ := HXW1.out _ gb
    go_wp2_with fail
    refine (vm_register sa xa g n L _ (i2.to gb) HL.out hn _ Hra.out).mono ?_
    rintro e w3 ⟨rfl, rfl⟩
    go_wp2_with fail
    refine (vm_register sb xb g n L _ (i2.to gb) HL.out hn _ Hrb.out).mono ?_
    rintro e w4 ⟨rfl, rfl⟩
    go_wp2_with fail
    go_ret
    exact ⟨rfl, below_step zb gb⟩
  case true =>
    cases rb
    case false =>
      subst ho'
      go_enter Tryz.func33, Tryz.ntmps33
      go_wp2_with fail
      obtain ⟨W0, hW0⟩ : ∃ W0, (w.alloc (.cells #[.int .i64 c.ins, .int .i64 c.rows, .int .i64 c.cols, .int .i64 c.regs, .slice a0 n0 c0] 24)).alloc (.cells #[.int .i64 op, .int .i64 to, .int .i64 xa, .int .i64 xb, .bool ng, .slice a1 n1 c1, .slice a2 n2 c2] 49) = W0 := ⟨_, rfl⟩
      have HXW0 := Lib.hid (show ∀ W', Below W0.heap.size W0 W' → (Bx5 W' w.heap.size (.int .i64 c.ins) (.int .i64 c.rows) (.int .i64 c.cols) (.int .i64 c.regs) (.slice a0 n0 c0) ∧ Bx7 W' (w.heap.size + 1) (.int .i64 op) (.int .i64 to) (.int .i64 xa) (.int .i64 xb) (.bool ng) (.slice a1 n1 c1) (.slice a2 n2 c2)) from fun W' hb => by
          refine ⟨bx5 hb ?_ ?_ ?_ ?_ ?_ ?_ ?_ ?_ ?_ ?_, bx7 hb ?_ ?_ ?_ ?_ ?_ ?_ ?_ ?_ ?_ ?_ ?_ ?_ ?_ ?_⟩
          all_goals first | assumption | (rw [← hW0]; simp [go_sem]))
      have zb : Below w.heap.size w W0 := by rw [← hW0]; exact below_step (below_new _ _) (below_new _ _)
      rw [hW0]
      clear hW0
      have i0 := hc.to zb
      have i1 := hx.to zb
      have i2 := hrow.to zb
      have gb : Below W0.heap.size W0 W0 := Below.refl _ _
      obtain ⟨⟨z0, x0_0, x0_1, x0_2, x0_3, x0_4, y0_0, y0_1, y0_2, y0_3, y0_4⟩, ⟨z1, x1_0, x1_1, x1_2, x1_3, x1_4, x1_5, x1_6, y1_0, y1_1, y1_2, y1_3, y1_4, y1_5, y1_6⟩⟩ := HXW0.out _ gb
      go_wp2_with fail
      refine (vm_shape_l op sa sb false true _ Hsa.out Hsb.out Hsp.out Hok.out).mono ?_
      clear x0_0 y0_0 x0_1 y0_1 x0_2 y0_2 x0_3 y0_3 x0_4 y0_4 x1_0 y1_0 x1_1 y1_1 x1_2 y1_2 x1_3 y1_3 x1_4 y1_4 x1_5 y1_5 x1_6 y1_6
      rintro e w1 ⟨rfl, hb1⟩
      replace gb := below_step gb hb1
      obtain ⟨⟨z0, x0_0, x0_1, x0_2, x0_3, x0_4, y0_0, y0_1, y0_2, y0_3, y0_4⟩, ⟨z1, x1_0, x1_1, x1_2, x1_3, x1_4, x1_5, x1_6, y1_0, y1_1, y1_2, y1_3, y1_4, y1_5, y1_6⟩⟩ := HXW0.out _ gb
      go_wp2_with fail
      obtain ⟨W1, hW1⟩ : ∃ W1, w1.alloc (.cells #[.bool sa, .bool sb, .bool false] 70) = W1 := ⟨_, rfl⟩
      have hb_W1 : Below w1.heap.size w1 W1 := by rw [← hW1]; exact below_new _ _
      have hs_W1 : Hid (W1.heap.size = w1.heap.size + 1) := by show _ = _; rw [← hW1]; simp
      clear x0_0 y0_0 x0_1 y0_1 x0_2 y0_2 x0_3 y0_3 x0_4 y0_4 x1_0 y1_0 x1_1 y1_1 x1_2 y1_2 x1_3 y1_3 x1_4 y1_4 x1_5 y1_5 x1_6 y1_6
      replace gb := below_step gb hb_W1
      obtain ⟨⟨z0, x0_0, x0_1, x0_2, x0_3, x0_4, y0_0, y0_1, y0_2, y0_3, y0_4⟩, ⟨z1, x1_0, x1_1, x1_2, x1_3, x1_4, x1_5, x1_6, y1_0, y1_1, y1_2, y1_3, y1_4, y1_5, y1_6⟩⟩ := HXW0.out _ gb
      have x5_0 : W1.cell? ⟨w1.heap.size, 0, none⟩ = some (.bool sa) := by rw [← hW1]; simp [go_sem]
      have y5_0 : W1.frozen? ⟨w1.heap.size, 0, none⟩ = false := by rw [← hW1]; simp [go_sem]
      have x5_1 : W1.cell? ⟨w1.heap.size, 1, none⟩ = some (.bool sb) := by rw [← hW1]; simp [go_sem]
      have y5_1 : W1.frozen? ⟨w1.heap.size, 1, none⟩ = false := by rw [← hW1]; simp [go_sem]
      have x5_2 : W1.cell? ⟨w1.heap.size, 2, none⟩ = some (.bool false) := by rw [← hW1]; simp [go_sem]
      have y5_2 : W1.frozen? ⟨w1.heap.size, 2, none⟩ = false := by rw [← hW1]; simp [go_sem]
      have z5 : w1.heap.size < W1.heap.size := by rw [← hW1]; simp
      rw [hW1]
      clear hW1
      replace i0 := i0.to gb
      replace i1 := i1.to gb
      replace i2 := i2.to gb
      replace zb := below_step zb gb
      have HXW1 := Lib.hid (show ∀ W', Below W1.heap.size W1 W' → (Bx5 W' w.heap.size (.int .i64 c.ins) (.int .i64 c.rows) (.int .i64 c.cols) (.int .i64 c.regs) (.slice a0 n0 c0) ∧ Bx7 W' (w.heap.size + 1) (.int .i64 op) (.int .i64 to) (.int .i64 xa) (.int .i64 xb) (.bool ng) (.slice a1 n1 c1) (.slice a2 n2 c2) ∧ Bx3 W' w1.heap.size (.bool sa) (.bool sb) (.bool false)) from fun W' hb => by
          refine ⟨bx5 hb ?_ ?_ ?_ ?_ ?_ ?_ ?_ ?_ ?_ ?_, bx7 hb ?_ ?_ ?_ ?_ ?_ ?_ ?_ ?_ ?_ ?_ ?_ ?_ ?_ ?_, bx3 hb ?_ ?_ ?_ ?_ ?_ ?_⟩
          all_goals first | assumption | assumption)
      replace gb := Below.refl W1.heap.size W1
      go_wp2_with fail
      refine (vm_number op to xa xb ng _ _ ln ld _ (i1.to gb) true Hnum.out).mono ?_
      clear x0_0 y0_0 x0_1 y0_1 x0_2 y0_2 x0_3 y0_3 x0_4 y0_4 x1_0 y1_0 x1_1 y1_1 x1_2 y1_2 x1_3 y1_3 x1_4 y1_4 x1_5 y1_5 x1_6 y1_6 x5_0 y5_0 x5_1 y5_1 x5_2 y5_2
      rintro e w2 ⟨rfl, hb2⟩
      replace gb := below_step gb hb2
      obtain ⟨⟨z0, x0_0, x0_1, x0_2, x0_3, x0_4, y0_0, y0_1, y0_2, y0_3, y0_4⟩, ⟨z1, x1_0, x1_1, x1_2, x1_3, x1_4, x1_5, x1_6, y1_0, y1_1, y1_2, y1_3, y1_4, y1_5, y1_6⟩, ⟨z5, x5_0, x5_1, x5_2, y5_0, y5_1, y5_2⟩⟩ := HXW1.out _ gb
      go_wp2_with fail
      refine (vm_register sa xa g n L _ (i2.to gb) HL.out hn _ Hra.out).mono ?_
      rintro e w3 ⟨rfl, rfl⟩
      go_wp2_with fail
      refine (vm_register sb xb g n L _ (i2.to gb) HL.out hn _ Hrb.out).mono ?_
      rintro e w4 ⟨rfl, rfl⟩
      go_wp2_with fail
      go_ret
      exact ⟨rfl, below_step zb gb⟩
    case true =>
      cases q1
      case false =>
        subst ho'
        go_enter Tryz.func33, Tryz.ntmps33
        go_wp2_with fail
        obtain ⟨W0, hW0⟩ : ∃ W0, (w.alloc (.cells #[.int .i64 c.ins, .int .i64 c.rows, .int .i64 c.cols, .int .i64 c.regs, .slice a0 n0 c0] 24)).alloc (.cells #[.int .i64 op, .int .i64 to, .int .i64 xa, .int .i64 xb, .bool ng, .slice a1 n1 c1, .slice a2 n2 c2] 49) = W0 := ⟨_, rfl⟩
        have HXW0 := Lib.hid (show ∀ W', Below W0.heap.size W0 W' → (Bx5 W' w.heap.size (.int .i64 c.ins) (.int .i64 c.rows) (.int .i64 c.cols) (.int .i64 c.regs) (.slice a0 n0 c0) ∧ Bx7 W' (w.heap.size + 1) (.int .i64 op) (.int .i64 to) (.int .i64 xa) (.int .i64 xb) (.bool ng) (.slice a1 n1 c1) (.slice a2 n2 c2)) from fun W' hb => by
            refine ⟨bx5 hb ?_ ?_ ?_ ?_ ?_ ?_ ?_ ?_ ?_ ?_, bx7 hb ?_ ?_ ?_ ?_ ?_ ?_ ?_ ?_ ?_ ?_ ?_ ?_ ?_ ?_⟩
            all_goals first | assumption | (rw [← hW0]; simp [go_sem]))
        have zb : Below w.heap.size w W0 := by rw [← hW0]; exact below_step (below_new _ _) (below_new _ _)
        rw [hW0]
        clear hW0
        have i0 := hc.to zb
        have i1 := hx.to zb
        have i2 := hrow.to zb
        have gb : Below W0.heap.size W0 W0 := Below.refl _ _
        obtain ⟨⟨z0, x0_0, x0_1, x0_2, x0_3, x0_4, y0_0, y0_1, y0_2, y0_3, y0_4⟩, ⟨z1, x1_0, x1_1, x1_2, x1_3, x1_4, x1_5, x1_6, y1_0, y1_1, y1_2, y1_3, y1_4, y1_5, y1_6⟩⟩ := HXW0.out _ gb
        go_wp2_with fail
        refine (vm_shape_l op sa sb false true _ Hsa.out Hsb.out Hsp.out Hok.out).mono ?_
        clear x0_0 y0_0 x0_1 y0_1 x0_2 y0_2 x0_3 y0_3 x0_4 y0_4 x1_0 y1_0 x1_1 y1_1 x1_2 y1_2 x1_3 y1_3 x1_4 y1_4 x1_5 y1_5 x1_6 y1_6
        rintro e w1 ⟨rfl, hb1⟩
        replace gb := below_step gb hb1
        obtain ⟨⟨z0, x0_0, x0_1, x0_2, x0_3, x0_4, y0_0, y0_1, y0_2, y0_3, y0_4⟩, ⟨z1, x1_0, x1_1, x1_2, x1_3, x1_4, x1_5, x1_6, y1_0, y1_1, y1_2, y1_3, y1_4, y1_5, y1_6⟩⟩ := HXW0.out _ gb
        go_wp2_with fail
        obtain ⟨W1, hW1⟩ : ∃ W1, w1.alloc (.cells #[.bool sa, .bool sb, .bool false] 70) = W1 := ⟨_, rfl⟩
        have hb_W1 : Below w1.heap.size w1 W1 := by rw [← hW1]; exact below_new _ _
        have hs_W1 : Hid (W1.heap.size = w1.heap.size + 1) := by show _ = _; rw [← hW1]; simp
        clear x0_0 y0_0 x0_1 y0_1 x0_2 y0_2 x0_3 y0_3 x0_4 y0_4 x1_0 y1_0 x1_1 y1_1 x1_2 y1_2 x1_3 y1_3 x1_4 y1_4 x1_5 y1_5 x1_6 y1_6
        replace gb := below_step gb hb_W1
        obtain ⟨⟨z0, x0_0, x0_1, x0_2, x0_3, x0_4, y0_0, y0_1, y0_2, y0_3, y0_4⟩, ⟨z1, x1_0, x1_1, x1_2, x1_3, x1_4, x1_5, x1_6, y1_0, y1_1, y1_2, y1_3, y1_4, y1_5, y1_6⟩⟩ := HXW0.out _ gb
        have x5_0 : W1.cell? ⟨w1.heap.size, 0, none⟩ = some (.bool sa) := by rw [← hW1]; simp [go_sem]
        have y5_0 : W1.frozen? ⟨w1.heap.size, 0, none⟩ = false := by rw [← hW1]; simp [go_sem]
        have x5_1 : W1.cell? ⟨w1.heap.size, 1, none⟩ = some (.bool sb) := by rw [← hW1]; simp [go_sem]
        have y5_1 : W1.frozen? ⟨w1.heap.size, 1, none⟩ = false := by rw [← hW1]; simp [go_sem]
        have x5_2 : W1.cell? ⟨w1.heap.size, 2, none⟩ = some (.bool false) := by rw [← hW1]; simp [go_sem]
        have y5_2 : W1.frozen? ⟨w1.heap.size, 2, none⟩ = false := by rw [← hW1]; simp [go_sem]
        have z5 : w1.heap.size < W1.heap.size := by rw [← hW1]; simp
        rw [hW1]
        clear hW1
        replace i0 := i0.to gb
        replace i1 := i1.to gb
        replace i2 := i2.to gb
        replace zb := below_step zb gb
        have HXW1 := Lib.hid (show ∀ W', Below W1.heap.size W1 W' → (Bx5 W' w.heap.size (.int .i64 c.ins) (.int .i64 c.rows) (.int .i64 c.cols) (.int .i64 c.regs) (.slice a0 n0 c0) ∧ Bx7 W' (w.heap.size + 1) (.int .i64 op) (.int .i64 to) (.int .i64 xa) (.int .i64 xb) (.bool ng) (.slice a1 n1 c1) (.slice a2 n2 c2) ∧ Bx3 W' w1.heap.size (.bool sa) (.bool sb) (.bool false)) from fun W' hb => by
            refine ⟨bx5 hb ?_ ?_ ?_ ?_ ?_ ?_ ?_ ?_ ?_ ?_, bx7 hb ?_ ?_ ?_ ?_ ?_ ?_ ?_ ?_ ?_ ?_ ?_ ?_ ?_ ?_, bx3 hb ?_ ?_ ?_ ?_ ?_ ?_⟩
            all_goals first | assumption | assumption)
        replace gb := Below.refl W1.heap.size W1
        go_wp2_with fail
        refine (vm_number op to xa xb ng _ _ ln ld _ (i1.to gb) true Hnum.out).mono ?_
        clear x0_0 y0_0 x0_1 y0_1 x0_2 y0_2 x0_3 y0_3 x0_4 y0_4 x1_0 y1_0 x1_1 y1_1 x1_2 y1_2 x1_3 y1_3 x1_4 y1_4 x1_5 y1_5 x1_6 y1_6 x5_0 y5_0 x5_1 y5_1 x5_2 y5_2
        rintro e w2 ⟨rfl, hb2⟩
        replace gb := below_step gb hb2
        obtain ⟨⟨z0, x0_0, x0_1, x0_2, x0_3, x0_4, y0_0, y0_1, y0_2, y0_3, y0_4⟩, ⟨z1, x1_0, x1_1, x1_2, x1_3, x1_4, x1_5, x1_6, y1_0, y1_1, y1_2, y1_3, y1_4, y1_5, y1_6⟩, ⟨z5, x5_0, x5_1, x5_2, y5_0, y5_1, y5_2⟩⟩ := HXW1.out _ gb
        go_wp2_with fail
        refine (vm_register sa xa g n L _ (i2.to gb) HL.out hn _ Hra.out).mono ?_
        rintro e w3 ⟨rfl, rfl⟩
        go_wp2_with fail
        refine (vm_register sb xb g n L _ (i2.to gb) HL.out hn _ Hrb.out).mono ?_
        rintro e w4 ⟨rfl, rfl⟩
        go_wp2_with fail
        go_ret
        exact ⟨rfl, below_step zb gb⟩
      case true =>
        subst ho'
        go_enter Tryz.func33, Tryz.ntmps33
        go_wp2_with fail
        obtain ⟨W0, hW0⟩ : ∃ W0, (w.alloc (.cells #[.int .i64 c.ins, .int .i64 c.rows, .int .i64 c.cols, .int .i64 c.regs, .slice a0 n0 c0] 24)).alloc (.cells #[.int .i64 op, .int .i64 to, .int .i64 xa, .int .i64 xb, .bool ng, .slice a1 n1 c1, .slice a2 n2 c2] 49) = W0 := ⟨_, rfl⟩
        have HXW0 := Lib.hid (show ∀ W', Below W0.heap.size W0 W' → (Bx5 W' w.heap.size (.int .i64 c.ins) (.int .i64 c.rows) (.int .i64 c.cols) (.int .i64 c.regs) (.slice a0 n0 c0) ∧ Bx7 W' (w.heap.size + 1) (.int .i64 op) (.int .i64 to) (.int .i64 xa) (.int .i64 xb) (.bool ng) (.slice a1 n1 c1) (.slice a2 n2 c2)) from fun W' hb => by
            refine ⟨bx5 hb ?_ ?_ ?_ ?_ ?_ ?_ ?_ ?_ ?_ ?_, bx7 hb ?_ ?_ ?_ ?_ ?_ ?_ ?_ ?_ ?_ ?_ ?_ ?_ ?_ ?_⟩
            all_goals first | assumption | (rw [← hW0]; simp [go_sem]))
        have zb : Below w.heap.size w W0 := by rw [← hW0]; exact below_step (below_new _ _) (below_new _ _)
        rw [hW0]
        clear hW0
        have i0 := hc.to zb
        have i1 := hx.to zb
        have i2 := hrow.to zb
        have gb : Below W0.heap.size W0 W0 := Below.refl _ _
        obtain ⟨⟨z0, x0_0, x0_1, x0_2, x0_3, x0_4, y0_0, y0_1, y0_2, y0_3, y0_4⟩, ⟨z1, x1_0, x1_1, x1_2, x1_3, x1_4, x1_5, x1_6, y1_0, y1_1, y1_2, y1_3, y1_4, y1_5, y1_6⟩⟩ := HXW0.out _ gb
        go_wp2_with fail
        refine (vm_shape_l op sa sb false true _ Hsa.out Hsb.out Hsp.out Hok.out).mono ?_
        clear x0_0 y0_0 x0_1 y0_1 x0_2 y0_2 x0_3 y0_3 x0_4 y0_4 x1_0 y1_0 x1_1 y1_1 x1_2 y1_2 x1_3 y1_3 x1_4 y1_4 x1_5 y1_5 x1_6 y1_6
        rintro e w1 ⟨rfl, hb1⟩
        replace gb := below_step gb hb1
        obtain ⟨⟨z0, x0_0, x0_1, x0_2, x0_3, x0_4, y0_0, y0_1, y0_2, y0_3, y0_4⟩, ⟨z1, x1_0, x1_1, x1_2, x1_3, x1_4, x1_5, x1_6, y1_0, y1_1, y1_2, y1_3, y1_4, y1_5, y1_6⟩⟩ := HXW0.out _ gb
        go_wp2_with fail
        obtain ⟨W1, hW1⟩ : ∃ W1, w1.alloc (.cells #[.bool sa, .bool sb, .bool false] 70) = W1 := ⟨_, rfl⟩
        have hb_W1 : Below w1.heap.size w1 W1 := by rw [← hW1]; exact below_new _ _
        have hs_W1 : Hid (W1.heap.size = w1.heap.size + 1) := by show _ = _; rw [← hW1]; simp
        clear x0_0 y0_0 x0_1 y0_1 x0_2 y0_2 x0_3 y0_3 x0_4 y0_4 x1_0 y1_0 x1_1 y1_1 x1_2 y1_2 x1_3 y1_3 x1_4 y1_4 x1_5 y1_5 x1_6 y1_6
        replace gb := below_step gb hb_W1
        obtain ⟨⟨z0, x0_0, x0_1, x0_2, x0_3, x0_4, y0_0, y0_1, y0_2, y0_3, y0_4⟩, ⟨z1, x1_0, x1_1, x1_2, x1_3, x1_4, x1_5, x1_6, y1_0, y1_1, y1_2, y1_3, y1_4, y1_5, y1_6⟩⟩ := HXW0.out _ gb
        have x5_0 : W1.cell? ⟨w1.heap.size, 0, none⟩ = some (.bool sa) := by rw [← hW1]; simp [go_sem]
        have y5_0 : W1.frozen? ⟨w1.heap.size, 0, none⟩ = false := by rw [← hW1]; simp [go_sem]
        have x5_1 : W1.cell? ⟨w1.heap.size, 1, none⟩ = some (.bool sb) := by rw [← hW1]; simp [go_sem]
        have y5_1 : W1.frozen? ⟨w1.heap.size, 1, none⟩ = false := by rw [← hW1]; simp [go_sem]
        have x5_2 : W1.cell? ⟨w1.heap.size, 2, none⟩ = some (.bool false) := by rw [← hW1]; simp [go_sem]
        have y5_2 : W1.frozen? ⟨w1.heap.size, 2, none⟩ = false := by rw [← hW1]; simp [go_sem]
        have z5 : w1.heap.size < W1.heap.size := by rw [← hW1]; simp
        rw [hW1]
        clear hW1
        replace i0 := i0.to gb
        replace i1 := i1.to gb
        replace i2 := i2.to gb
        replace zb := below_step zb gb
        have HXW1 := Lib.hid (show ∀ W', Below W1.heap.size W1 W' → (Bx5 W' w.heap.size (.int .i64 c.ins) (.int .i64 c.rows) (.int .i64 c.cols) (.int .i64 c.regs) (.slice a0 n0 c0) ∧ Bx7 W' (w.heap.size + 1) (.int .i64 op) (.int .i64 to) (.int .i64 xa) (.int .i64 xb) (.bool ng) (.slice a1 n1 c1) (.slice a2 n2 c2) ∧ Bx3 W' w1.heap.size (.bool sa) (.bool sb) (.bool false)) from fun W' hb => by
            refine ⟨bx5 hb ?_ ?_ ?_ ?_ ?_ ?_ ?_ ?_ ?_ ?_, bx7 hb ?_ ?_ ?_ ?_ ?_ ?_ ?_ ?_ ?_ ?_ ?_ ?_ ?_ ?_, bx3 hb ?_ ?_ ?_ ?_ ?_ ?_⟩
            all_goals first | assumption | assumption)
        replace gb := Below.refl W1.heap.size W1
        go_wp2_with fail
        refine (vm_number op to xa xb ng _ _ ln ld _ (i1.to gb) true Hnum.out).mono ?_
        clear x0_0 y0_0 x0_1 y0_1 x0_2 y0_2 x0_3 y0_3 x0_4 y0_4 x1_0 y1_0 x1_1 y1_1 x1_2 y1_2 x1_3 y1_3 x1_4 y1_4 x1_5 y1_5 x1_6 y1_6 x5_0 y5_0 x5_1 y5_1 x5_2 y5_2
        rintro e w2 ⟨rfl, hb2⟩
        replace gb := below_step gb hb2
        obtain ⟨⟨z0, x0_0, x0_1, x0_2, x0_3, x0_4, y0_0, y0_1, y0_2, y0_3, y0_4⟩, ⟨z1, x1_0, x1_1, x1_2, x1_3, x1_4, x1_5, x1_6, y1_0, y1_1, y1_2, y1_3, y1_4, y1_5, y1_6⟩, ⟨z5, x5_0, x5_1, x5_2, y5_0, y5_1, y5_2⟩⟩ := HXW1.out _ gb
        go_wp2_with fail
        refine (vm_register sa xa g n L _ (i2.to gb) HL.out hn _ Hra.out).mono ?_
        rintro e w3 ⟨rfl, rfl⟩
        go_wp2_with fail
        refine (vm_register sb xb g n L _ (i2.to gb) HL.out hn _ Hrb.out).mono ?_
        rintro e w4 ⟨rfl, rfl⟩
        go_wp2_with fail
        go_ret
        exact ⟨rfl, below_step zb gb⟩

set_option maxRecDepth 100000 in
set_option maxHeartbeats 60000000 in
theorem vm_instr_zero (c : Cd) (v : Value) (op to xa xb : Int) (ng : Bool) (vn vd : Value) (ln ld : List Nat) (g n : Nat) (L : List Int) (w : World) (hc : IsC w c v) (hx : IsX w ⟨op, to, xa, xb, ⟨ng, ln, ld⟩⟩ vn vd) (hrow : RowF w g n (fun i => .bool (decide ((i : Int) ∈ L)))) (hL : ∀ x ∈ L, 0 ≤ x ∧ x < (n : Int)) (hn : n ≤ 100000) (hnr : (n : Int) = c.regs) (hr : 1 ≤ c.rows ∧ c.rows ≤ 40) (hcl : 1 ≤ c.cols ∧ c.cols ≤ 40) (h0 : 0 ≤ opRegs op) (hnum : numOk ⟨op, to, xa, xb, ⟨ng, ln, ld⟩⟩ = true) (h1 : op = 0) (o : Bool) (ho : insOk c L ⟨op, to, xa, xb, ⟨ng, ln, ld⟩⟩ = o) :
    Calls Tryz.prog 33 #[aggC c v, .agg #[.int .i64 op, .int .i64 to, .int .i64 xa, .int .i64 xb, .bool ng, vn, vd], .slice (some ⟨g, 0, none⟩) n n] w (fun e w' => e = .returned (.bool o) ∧ Below w.heap.size w w') := by
  rw [insOk_eq (x := ⟨op, to, xa, xb, ⟨ng, ln, ld⟩⟩) h0 hnum, aOk_zero (x := ⟨op, to, xa, xb, ⟨ng, ln, ld⟩⟩) h1, bOk_reg (x := ⟨op, to, xa, xb, ⟨ng, ln, ld⟩⟩) (by show op ≠ 7; first | assumption | omega)] at ho
  obtain ⟨sa, hsa⟩ : ∃ b, decide (1 ≤ opRegs op) = b := ⟨_, rfl⟩
  obtain ⟨sb, hsb⟩ : ∃ b, decide (opRegs op = 2) = b := ⟨_, rfl⟩
  have hsp : decide (op = 7) = false := by simp; omega
  obtain ⟨ra, hra⟩ : ∃ b, (if sa = true then decide (xa ∈ L) else decide (xa = 0)) = b := ⟨_, rfl⟩
  obtain ⟨rb, hrb⟩ : ∃ b, (if sb = true then decide (xb ∈ L) else decide (xb = 0)) = b := ⟨_, rfl⟩
  obtain ⟨p1, tp1⟩ : ∃ b, decide (0 ≤ xa) = b := ⟨_, rfl⟩
  obtain ⟨p2, tp2⟩ : ∃ b, decide (xa < c.ins) = b := ⟨_, rfl⟩
  obtain ⟨r1, tr1⟩ : ∃ b, decide (-21 ≤ xb) = b := ⟨_, rfl⟩
  obtain ⟨r2, tr2⟩ : ∃ b, decide (xb ≤ 21) = b := ⟨_, rfl⟩
  obtain ⟨q1, tq1⟩ : ∃ b, decide (0 ≤ to) = b := ⟨_, rfl⟩
  obtain ⟨q2, tq2⟩ : ∃ b, decide (to < c.regs) = b := ⟨_, rfl⟩
  have t10 : (op == 10) = false := by simp; omega
  have t0 : (op == 0) = true := by simp; omega
  have pb := prod_bounds hr hcl
  have HM : IntKind.i64.wrap (c.rows * c.cols) = c.rows * c.cols := IntWalk.i64_in _ (by omega)
  have ho' : ((p1 && p2) && rb && q1 && q2) = o := by
    have e : mostTo c ⟨op, to, xa, xb, ⟨ng, ln, ld⟩⟩ = c.regs := by unfold mostTo; rw [if_neg (by show op ≠ 10; first | assumption | omega)]
    rw [e] at ho
    subst ho hra hrb hsa hsb tp1 tp2 tr1 tr2 tq1 tq2
    rfl
  have Hsa := Lib.hid hsa
  have Hsb := Lib.hid hsb
  have Hsp := Lib.hid hsp
  have Hok := Lib.hid (decide_eq_true h0)
  have Hnum := Lib.hid hnum
  have Hra := Lib.hid hra
  have Hrb := Lib.hid hrb
  have HL := Lib.hid hL
  clear ho hsa hsb hsp hra hrb h0 hnum hnr hr hcl hL pb h1
  obtain ⟨a0, n0, c0, rfl, H0, hm0⟩ := hc.1.open
  obtain ⟨a1, n1, c1, rfl, H1, hm1⟩ := hx.1.1.open
  obtain ⟨a2, n2, c2, rfl, H2, hm2⟩ := hx.1.2.1.open
  cases p1
  case false =>
    subst ho'
    go_enter Tryz.func33, Tryz.ntmps33
    go_wp2_with fail
    obtain ⟨W0, hW0⟩ : ∃ W0, (w.alloc (.cells #[.int .i64 c.ins, .int .i64 c.rows, .int .i64 c.cols, .int .i64 c.regs, .slice a0 n0 c0] 24)).alloc (.cells #[.int .i64 op, .int .i64 to, .int .i64 xa, .int .i64 xb, .bool ng, .slice a1 n1 c1, .slice a2 n2 c2] 49) = W0 := ⟨_, rfl⟩
    have HXW0 := Lib.hid (show ∀ W', Below W0.heap.size W0 W' → (Bx5 W' w.heap.size (.int .i64 c.ins) (.int .i64 c.rows) (.int .i64 c.cols) (.int .i64 c.regs) (.slice a0 n0 c0) ∧ Bx7 W' (w.heap.size + 1) (.int .i64 op) (.int .i64 to) (.int .i64 xa) (.int .i64 xb) (.bool ng) (.slice a1 n1 c1) (.slice a2 n2 c2)) from fun W' hb => by
        refine ⟨bx5 hb ?_ ?_ ?_ ?_ ?_ ?_ ?_ ?_ ?_ ?_, bx7 hb ?_ ?_ ?_ ?_ ?_ ?_ ?_ ?_ ?_ ?_ ?_ ?_ ?_ ?_⟩
        all_goals first | assumption | (rw [← hW0]; simp [go_sem]))
    have zb : Below w.heap.size w W0 := by rw [← hW0]; exact below_step (below_new _ _) (below_new _ _)
    rw [hW0]
    clear hW0
    have i0 := hc.to zb
    have i1 := hx.to zb
    have i2 := hrow.to zb
    have gb : Below W0.heap.size W0 W0 := Below.refl _ _
    obtain ⟨⟨z0, x0_0, x0_1, x0_2, x0_3, x0_4, y0_0, y0_1, y0_2, y0_3, y0_4⟩, ⟨z1, x1_0, x1_1, x1_2, x1_3, x1_4, x1_5, x1_6, y1_0, y1_1, y1_2, y1_3, y1_4, y1_5, y1_6⟩⟩ := HXW0.out _ gb
    go_wp2_with fail
    refine (vm_shape_l op sa sb false true _ Hsa.out Hsb.out Hsp.out Hok.out).mono ?_
    clear x0_0 y0_0 x0_1 y0_1 x0_2 y0_2 x0_3 y0_3 x0_4 y0_4 x1_0 y1_0 x1_1 y1_1 x1_2 y1_2 x1_3 y1_3 x1_4 y1_4 x1_5 y1_5 x1_6 y1_6
    rintro e w1 ⟨rfl, hb1⟩
    replace gb := below_step gb hb1
    obtain ⟨⟨z0, x0_0, x0_1, x0_2, x0_3, x0_4, y0_0, y0_1, y0_2, y0_3, y0_4⟩, ⟨z1, x1_0, x1_1, x1_2, x1_3, x1_4, x1_5, x1_6, y1_0, y1_1, y1_2, y1_3, y1_4, y1_5, y1_6⟩⟩ := HXW0.out _ gb
    go_wp2_with fail
    obtain ⟨W1, hW1⟩ : ∃ W1, w1.alloc (.cells #[.bool sa, .bool sb, .bool false] 70) = W1 := ⟨_, rfl⟩
    have hb_W1 : Below w1.heap.size w1 W1 := by rw [← hW1]; exact below_new _ _
    have hs_W1 : Hid (W1.heap.size = w1.heap.size + 1) := by show _ = _; rw [← hW1]; simp
    clear x0_0 y0_0 x0_1 y0_1 x0_2 y0_2 x0_3 y0_3 x0_4 y0_4 x1_0 y1_0 x1_1 y1_1 x1_2 y1_2 x1_3 y1_3 x1_4 y1_4 x1_5 y1_5 x1_6 y1_6
    replace gb := below_step gb hb_W1
    obtain ⟨⟨z0, x0_0, x0_1, x0_2, x0_3, x0_4, y0_0, y0_1, y0_2, y0_3, y0_4⟩, ⟨z1, x1_0, x1_1, x1_2, x1_3, x1_4, x1_5, x1_6, y1_0, y1_1, y1_2, y1_3, y1_4, y1_5, y1_6⟩⟩ := HXW0.out _ gb
    have x5_0 : W1.cell? ⟨w1.heap.size, 0, none⟩ = some (.bool sa) := by rw [← hW1]; simp [go_sem]
    have y5_0 : W1.frozen? ⟨w1.heap.size, 0, none⟩ = false := by rw [← hW1]; simp [go_sem]
    have x5_1 : W1.cell? ⟨w1.heap.size, 1, none⟩ = some (.bool sb) := by rw [← hW1]; simp [go_sem]
    have y5_1 : W1.frozen? ⟨w1.heap.size, 1, none⟩ = false := by rw [← hW1]; simp [go_sem]
    have x5_2 : W1.cell? ⟨w1.heap.size, 2, none⟩ = some (.bool false) := by rw [← hW1]; simp [go_sem]
    have y5_2 : W1.frozen? ⟨w1.heap.size, 2, none⟩ = false := by rw [← hW1]; simp [go_sem]
    have z5 : w1.heap.size < W1.heap.size := by rw [← hW1]; simp
    rw [hW1]
    clear hW1
    replace i0 := i0.to gb
    replace i1 := i1.to gb
    replace i2 := i2.to gb
    replace zb := below_step zb gb
    have HXW1 := Lib.hid (show ∀ W', Below W1.heap.size W1 W' → (Bx5 W' w.heap.size (.int .i64 c.ins) (.int .i64 c.rows) (.int .i64 c.cols) (.int .i64 c.regs) (.slice a0 n0 c0) ∧ Bx7 W' (w.heap.size + 1) (.int .i64 op) (.int .i64 to) (.int .i64 xa) (.int .i64 xb) (.bool ng) (.slice a1 n1 c1) (.slice a2 n2 c2) ∧ Bx3 W' w1.heap.size (.bool sa) (.bool sb) (.bool false)) from fun W' hb => by
        refine ⟨bx5 hb ?_ ?_ ?_ ?_ ?_ ?_ ?_ ?_ ?_ ?_, bx7 hb ?_ ?_ ?_ ?_ ?_ ?_ ?_ ?_ ?_ ?_ ?_ ?_ ?_ ?_, bx3 hb ?_ ?_ ?_ ?_ ?_ ?_⟩
        all_goals first | assumption | assumption)
    replace gb := Below.refl W1.heap.size W1
    go_wp2_with fail
    refine (vm_number op to xa xb ng _ _ ln ld _ (i1.to gb) true Hnum.out).mono ?_
    clear x0_0 y0_0 x0_1 y0_1 x0_2 y0_2 x0_3 y0_3 x0_4 y0_4 x1_0 y1_0 x1_1 y1_1 x1_2 y1_2 x1_3 y1_3 x1_4 y1_4 x1_5 y1_5 x1_6 y1_6 x5_0 y5_0 x5_1 y5_1 x5_2 y5_2
    rintro e w2 ⟨rfl, hb2⟩
    replace gb := below_step gb hb2
    obtain ⟨⟨z0, x0_0, x0_1, x0_2, x0_3, x0_4, y0_0, y0_1, y0_2, y0_3, y0_4⟩, ⟨z1, x1_0, x1_1, x1_2, x1_3, x1_4, x1_5, x1_6, y1_0, y1_1, y1_2, y1_3, y1_4, y1_5, y1_6⟩, ⟨z5, x5_0, x5_1, x5_2, y5_0, y5_1, y5_2⟩⟩ := HXW1.out _ gb
    go_wp2_with fail
    refine (vm_register sa xa g n L _ (i2.to gb) HL.out hn _ Hra.out).mono ?_
    rintro e w3 ⟨rfl, rfl⟩
    go_wp2_with fail
    refine (vm_register sb xb g n L _ (i2.to gb) HL.out hn _ Hrb.out).mono ?_
    rintro e w4 ⟨rfl, rfl⟩
    go_wp2_with fail
    go_ret
    exact ⟨rfl, below_step zb gb⟩
  case true =>
    cases p2
    case false =>
      subst ho'
      go_enter Tryz.func33, Tryz.ntmps33
      go_wp2_with fail
      obtain ⟨W0, hW0⟩ : ∃ W0, (w.alloc (.cells #[.int .i64 c.ins, .int .i64 c.rows, .int .i64 c.cols, .int .i64 c.regs, .slice a0 n0 c0] 24)).alloc (.cells #[.int .i64 op, .int .i64 to, .int .i64 xa, .int .i64 xb, .bool ng, .slice a1 n1 c1, .slice a2 n2 c2] 49) = W0 := ⟨_, rfl⟩
      have HXW0 := Lib.hid (show ∀ W', Below W0.heap.size W0 W' → (Bx5 W' w.heap.size (.int .i64 c.ins) (.int .i64 c.rows) (.int .i64 c.cols) (.int .i64 c.regs) (.slice a0 n0 c0) ∧ Bx7 W' (w.heap.size + 1) (.int .i64 op) (.int .i64 to) (.int .i64 xa) (.int .i64 xb) (.bool ng) (.slice a1 n1 c1) (.slice a2 n2 c2)) from fun W' hb => by
          refine ⟨bx5 hb ?_ ?_ ?_ ?_ ?_ ?_ ?_ ?_ ?_ ?_, bx7 hb ?_ ?_ ?_ ?_ ?_ ?_ ?_ ?_ ?_ ?_ ?_ ?_ ?_ ?_⟩
          all_goals first | assumption | (rw [← hW0]; simp [go_sem]))
      have zb : Below w.heap.size w W0 := by rw [← hW0]; exact below_step (below_new _ _) (below_new _ _)
      rw [hW0]
      clear hW0
      have i0 := hc.to zb
      have i1 := hx.to zb
      have i2 := hrow.to zb
      have gb : Below W0.heap.size W0 W0 := Below.refl _ _
      obtain ⟨⟨z0, x0_0, x0_1, x0_2, x0_3, x0_4, y0_0, y0_1, y0_2, y0_3, y0_4⟩, ⟨z1, x1_0, x1_1, x1_2, x1_3, x1_4, x1_5, x1_6, y1_0, y1_1, y1_2, y1_3, y1_4, y1_5, y1_6⟩⟩ := HXW0.out _ gb
      go_wp2_with fail
      refine (vm_shape_l op sa sb false true _ Hsa.out Hsb.out Hsp.out Hok.out).mono ?_
      clear x0_0 y0_0 x0_1 y0_1 x0_2 y0_2 x0_3 y0_3 x0_4 y0_4 x1_0 y1_0 x1_1 y1_1 x1_2 y1_2 x1_3 y1_3 x1_4 y1_4 x1_5 y1_5 x1_6 y1_6
      rintro e w1 ⟨rfl, hb1⟩
      replace gb := below_step gb hb1
      obtain ⟨⟨z0, x0_0, x0_1, x0_2, x0_3, x0_4, y0_0, y0_1, y0_2, y0_3, y0_4⟩, ⟨z1, x1_0, x1_1, x1_2, x1_3, x1_4, x1_5, x1_6, y1_0, y1_1, y1_2, y1_3, y1_4, y1_5, y1_6⟩⟩ := HXW0.out _ gb
      go_wp2_with fail
      obtain ⟨W1, hW1⟩ : ∃ W1, w1.alloc (.cells #[.bool sa, .bool sb, .bool false] 70) = W1 := ⟨_, rfl⟩
      have hb_W1 : Below w1.heap.size w1 W1 := by rw [← hW1]; exact below_new _ _
      have hs_W1 : Hid (W1.heap.size = w1.heap.size + 1) := by show _ = _; rw [← hW1]; simp
      clear x0_0 y0_0 x0_1 y0_1 x0_2 y0_2 x0_3 y0_3 x0_4 y0_4 x1_0 y1_0 x1_1 y1_1 x1_2 y1_2 x1_3 y1_3 x1_4 y1_4 x1_5 y1_5 x1_6 y1_6
      replace gb := below_step gb hb_W1
      obtain ⟨⟨z0, x0_0, x0_1, x0_2, x0_3, x0_4, y0_0, y0_1, y0_2, y0_3, y0_4⟩, ⟨z1, x1_0, x1_1, x1_2, x1_3, x1_4, x1_5, x1_6, y1_0, y1_1, y1_2, y1_3, y1_4, y1_5, y1_6⟩⟩ := HXW0.out _ gb
      have x5_0 : W1.cell? ⟨w1.heap.size, 0, none⟩ = some (.bool sa) := by rw [← hW1]; simp [go_sem]
      have y5_0 : W1.frozen? ⟨w1.heap.size, 0, none⟩ = false := by rw [← hW1]; simp [go_sem]
      have x5_1 : W1.cell? ⟨w1.heap.size, 1, none⟩ = some (.bool sb) := by rw [← hW1]; simp [go_sem]
      have y5_1 : W1.frozen? ⟨w1.heap.size, 1, none⟩ = false := by rw [← hW1]; simp [go_sem]
      have x5_2 : W1.cell? ⟨w1.heap.size, 2, none⟩ = some (.bool false) := by rw [← hW1]; simp [go_sem]
      have y5_2 : W1.frozen? ⟨w1.heap.size, 2, none⟩ = false := by rw [← hW1]; simp [go_sem]
      have z5 : w1.heap.size < W1.heap.size := by rw [← hW1]; simp
      rw [hW1]
      clear hW1
      replace i0 := i0.to gb
      replace i1 := i1.to gb
      replace i2 := i2.to gb
      replace zb := below_step zb gb
      have HXW1 := Lib.hid (show ∀ W', Below W1.heap.size W1 W' → (Bx5 W' w.heap.size (.int .i64 c.ins) (.int .i64 c.rows) (.int .i64 c.cols) (.int .i64 c.regs) (.slice a0 n0 c0) ∧ Bx7 W' (w.heap.size + 1) (.int .i64 op) (.int .i64 to) (.int .i64 xa) (.int .i64 xb) (.bool ng) (.slice a1 n1 c1) (.slice a2 n2 c2) ∧ Bx3 W' w1.heap.size (.bool sa) (.bool sb) (.bool false)) from fun W' hb => by
          refine ⟨bx5 hb ?_ ?_ ?_ ?_ ?_ ?_ ?_ ?_ ?_ ?_, bx7 hb ?_ ?_ ?_ ?_ ?_ ?_ ?_ ?_ ?_ ?_ ?_ ?_ ?_ ?_, bx3 hb ?_ ?_ ?_ ?_ ?_ ?_⟩
          all_goals first | assumption | assumption)
      replace gb := Below.refl W1.heap.size W1
      go_wp2_with fail
      refine (vm_number op to xa xb ng _ _ ln ld _ (i1.to gb) true Hnum.out).mono ?_
      clear x0_0 y0_0 x0_1 y0_1 x0_2 y0_2 x0_3 y0_3 x0_4 y0_4 x1_0 y1_0 x1_1 y1_1 x1_2 y1_2 x1_3 y1_3 x1_4 y1_4 x1_5 y1_5 x1_6 y1_6 x5_0 y5_0 x5_1 y5_1 x5_2 y5_2
      rintro e w2 ⟨rfl, hb2⟩
      replace gb := below_step gb hb2
      obtain ⟨⟨z0, x0_0, x0_1, x0_2, x0_3, x0_4, y0_0, y0_1, y0_2, y0_3, y0_4⟩, ⟨z1, x1_0, x1_1, x1_2, x1_3, x1_4, x1_5, x1_6, y1_0, y1_1, y1_2, y1_3, y1_4, y1_5, y1_6⟩, ⟨z5, x5_0, x5_1, x5_2, y5_0, y5_1, y5_2⟩⟩ := HXW1.out _ gb
      go_wp2_with fail
      refine (vm_register sa xa g n L _ (i2.to gb) HL.out hn _ Hra.out).mono ?_
      rintro e w3 ⟨rfl, rfl⟩
      go_wp2_with fail
      refine (vm_register sb xb g n L _ (i2.to gb) HL.out hn _ Hrb.out).mono ?_
      rintro e w4 ⟨rfl, rfl⟩
      go_wp2_with fail
      go_ret
      exact ⟨rfl, below_step zb gb⟩
    case true =>
      cases rb
      case false =>
        subst ho'
        go_enter Tryz.func33, Tryz.ntmps33
        go_wp2_with fail
        obtain ⟨W0, hW0⟩ : ∃ W0, (w.alloc (.cells #[.int .i64 c.ins, .int .i64 c.rows, .int .i64 c.cols, .int .i64 c.regs, .slice a0 n0 c0] 24)).alloc (.cells #[.int .i64 op, .int .i64 to, .int .i64 xa, .int .i64 xb, .bool ng, .slice a1 n1 c1, .slice a2 n2 c2] 49) = W0 := ⟨_, rfl⟩
        have HXW0 := Lib.hid (show ∀ W', Below W0.heap.size W0 W' → (Bx5 W' w.heap.size (.int .i64 c.ins) (.int .i64 c.rows) (.int .i64 c.cols) (.int .i64 c.regs) (.slice a0 n0 c0) ∧ Bx7 W' (w.heap.size + 1) (.int .i64 op) (.int .i64 to) (.int .i64 xa) (.int .i64 xb) (.bool ng) (.slice a1 n1 c1) (.slice a2 n2 c2)) from fun W' hb => by
            refine ⟨bx5 hb ?_ ?_ ?_ ?_ ?_ ?_ ?_ ?_ ?_ ?_, bx7 hb ?_ ?_ ?_ ?_ ?_ ?_ ?_ ?_ ?_ ?_ ?_ ?_ ?_ ?_⟩
            all_goals first | assumption | (rw [← hW0]; simp [go_sem]))
        have zb : Below w.heap.size w W0 := by rw [← hW0]; exact below_step (below_new _ _) (below_new _ _)
        rw [hW0]
        clear hW0
        have i0 := hc.to zb
        have i1 := hx.to zb
        have i2 := hrow.to zb
        have gb : Below W0.heap.size W0 W0 := Below.refl _ _
        obtain ⟨⟨z0, x0_0, x0_1, x0_2, x0_3, x0_4, y0_0, y0_1, y0_2, y0_3, y0_4⟩, ⟨z1, x1_0, x1_1, x1_2, x1_3, x1_4, x1_5, x1_6, y1_0, y1_1, y1_2, y1_3, y1_4, y1_5, y1_6⟩⟩ := HXW0.out _ gb
        go_wp2_with fail
        refine (vm_shape_l op sa sb false true _ Hsa.out Hsb.out Hsp.out Hok.out).mono ?_
        clear x0_0 y0_0 x0_1 y0_1 x0_2 y0_2 x0_3 y0_3 x0_4 y0_4 x1_0 y1_0 x1_1 y1_1 x1_2 y1_2 x1_3 y1_3 x1_4 y1_4 x1_5 y1_5 x1_6 y1_6
        rintro e w1 ⟨rfl, hb1⟩
        replace gb := below_step gb hb1
        obtain ⟨⟨z0, x0_0, x0_1, x0_2, x0_3, x0_4, y0_0, y0_1, y0_2, y0_3, y0_4⟩, ⟨z1, x1_0, x1_1, x1_2, x1_3, x1_4, x1_5, x1_6, y1_0, y1_1, y1_2, y1_3, y1_4, y1_5, y1_6⟩⟩ := HXW0.out _ gb
        go_wp2_with fail
        obtain ⟨W1, hW1⟩ : ∃ W1, w1.alloc (.cells #[.bool sa, .bool sb, .bool false] 70) = W1 := ⟨_, rfl⟩
        have hb_W1 : Below w1.heap.size w1 W1 := by rw [← hW1]; exact below_new _ _
        have hs_W1 : Hid (W1.heap.size = w1.heap.size + 1) := by show _ = _; rw [← hW1]; simp
        clear x0_0 y0_0 x0_1 y0_1 x0_2 y0_2 x0_3 y0_3 x0_4 y0_4 x1_0 y1_0 x1_1 y1_1 x1_2 y1_2 x1_3 y1_3 x1_4 y1_4 x1_5 y1_5 x1_6 y1_6
        replace gb := below_step gb hb_W1
        obtain ⟨⟨z0, x0_0, x0_1, x0_2, x0_3, x0_4, y0_0, y0_1, y0_2, y0_3, y0_4⟩, ⟨z1, x1_0, x1_1, x1_2, x1_3, x1_4, x1_5, x1_6, y1_0, y1_1, y1_2, y1_3, y1_4, y1_5, y1_6⟩⟩ := HXW0.out _ gb
        have x5_0 : W1.cell? ⟨w1.heap.size, 0, none⟩ = some (.bool sa) := by rw [← hW1]; simp [go_sem]
        have y5_0 : W1.frozen? ⟨w1.heap.size, 0, none⟩ = false := by rw [← hW1]; simp [go_sem]
        have x5_1 : W1.cell? ⟨w1.heap.size, 1, none⟩ = some (.bool sb) := by rw [← hW1]; simp [go_sem]
        have y5_1 : W1.frozen? ⟨w1.heap.size, 1, none⟩ = false := by rw [← hW1]; simp [go_sem]
        have x5_2 : W1.cell? ⟨w1.heap.size, 2, none⟩ = some (.bool false) := by rw [← hW1]; simp [go_sem]
        have y5_2 : W1.frozen? ⟨w1.heap.size, 2, none⟩ = false := by rw [← hW1]; simp [go_sem]
        have z5 : w1.heap.size < W1.heap.size := by rw [← hW1]; simp
        rw [hW1]
        clear hW1
        replace i0 := i0.to gb
        replace i1 := i1.to gb
        replace i2 := i2.to gb
        replace zb := below_step zb gb
        have HXW1 := Lib.hid (show ∀ W', Below W1.heap.size W1 W' → (Bx5 W' w.heap.size (.int .i64 c.ins) (.int .i64 c.rows) (.int .i64 c.cols) (.int .i64 c.regs) (.slice a0 n0 c0) ∧ Bx7 W' (w.heap.size + 1) (.int .i64 op) (.int .i64 to) (.int .i64 xa) (.int .i64 xb) (.bool ng) (.slice a1 n1 c1) (.slice a2 n2 c2) ∧ Bx3 W' w1.heap.size (.bool sa) (.bool sb) (.bool false)) from fun W' hb => by
            refine ⟨bx5 hb ?_ ?_ ?_ ?_ ?_ ?_ ?_ ?_ ?_ ?_, bx7 hb ?_ ?_ ?_ ?_ ?_ ?_ ?_ ?_ ?_ ?_ ?_ ?_ ?_ ?_, bx3 hb ?_ ?_ ?_ ?_ ?_ ?_⟩
            all_goals first | assumption | assumption)
        replace gb := Below.refl W1.heap.size W1
        go_wp2_with fail
        refine (vm_number op to xa xb ng _ _ ln ld _ (i1.to gb) true Hnum.out).mono ?_
        clear x0_0 y0_0 x0_1 y0_1 x0_2 y0_2 x0_3 y0_3 x0_4 y0_4 x1_0 y1_0 x1_1 y1_1 x1_2 y1_2 x1_3 y1_3 x1_4 y1_4 x1_5 y1_5 x1_6 y1_6 x5_0 y5_0 x5_1 y5_1 x5_2 y5_2
        rintro e w2 ⟨rfl, hb2⟩
        replace gb := below_step gb hb2
        obtain ⟨⟨z0, x0_0, x0_1, x0_2, x0_3, x0_4, y0_0, y0_1, y0_2, y0_3, y0_4⟩, ⟨z1, x1_0, x1_1, x1_2, x1_3, x1_4, x1_5, x1_6, y1_0, y1_1, y1_2, y1_3, y1_4, y1_5, y1_6⟩, ⟨z5, x5_0, x5_1, x5_2, y5_0, y5_1, y5_2⟩⟩ := HXW1.out _ gb
        go_wp2_with fail
        refine (vm_register sa xa g n L _ (i2.to gb) HL.out hn _ Hra.out).mono ?_
        rintro e w3 ⟨rfl, rfl⟩
        go_wp2_with fail
        refine (vm_register sb xb g n L _ (i2.to gb) HL.out hn _ Hrb.out).mono ?_
        rintro e w4 ⟨rfl, rfl⟩
        go_wp2_with fail
        go_ret
        exact ⟨rfl, below_step zb gb⟩
      case true =>
        cases q1
        case false =>
          subst ho'
          go_enter Tryz.func33, Tryz.ntmps33
          go_wp2_with fail
          obtain ⟨W0, hW0⟩ : ∃ W0, (w.alloc (.cells #[.int .i64 c.ins, .int .i64 c.rows, .int .i64 c.cols, .int .i64 c.regs, .slice a0 n0 c0] 24)).alloc (.cells #[.int .i64 op, .int .i64 to, .int .i64 xa, .int .i64 xb, .bool ng, .slice a1 n1 c1, .slice a2 n2 c2] 49) = W0 := ⟨_, rfl⟩
          have HXW0 := Lib.hid (show ∀ W', Below W0.heap.size W0 W' → (Bx5 W' w.heap.size (.int .i64 c.ins) (.int .i64 c.rows) (.int .i64 c.cols) (.int .i64 c.regs) (.slice a0 n0 c0) ∧ Bx7 W' (w.heap.size + 1) (.int .i64 op) (.int .i64 to) (.int .i64 xa) (.int .i64 xb) (.bool ng) (.slice a1 n1 c1) (.slice a2 n2 c2)) from fun W' hb => by
              refine ⟨bx5 hb ?_ ?_ ?_ ?_ ?_ ?_ ?_ ?_ ?_ ?_, bx7 hb ?_ ?_ ?_ ?_ ?_ ?_ ?_ ?_ ?_ ?_ ?_ ?_ ?_ ?_⟩
              all_goals first | assumption | (rw [← hW0]; simp [go_sem]))
          have zb : Below w.heap.size w W0 := by rw [← hW0]; exact below_step (below_new _ _) (below_new _ _)
          rw [hW0]
          clear hW0
          have i0 := hc.to zb
          have i1 := hx.to zb
          have i2 := hrow.to zb
          have gb : Below W0.heap.size W0 W0 := Below.refl _ _
          obtain ⟨⟨z0, x0_0, x0_1, x0_2, x0_3, x0_4, y0_0, y0_1, y0_2, y0_3, y0_4⟩, ⟨z1, x1_0, x1_1, x1_2, x1_3, x1_4, x1_5, x1_6, y1_0, y1_1, y1_2, y1_3, y1_4, y1_5, y1_6⟩⟩ := HXW0.out _ gb
          go_wp2_with fail
          refine (vm_shape_l op sa sb false true _ Hsa.out Hsb.out Hsp.out Hok.out).mono ?_
          clear x0_0 y0_0 x0_1 y0_1 x0_2 y0_2 x0_3 y0_3 x0_4 y0_4 x1_0 y1_0 x1_1 y1_1 x1_2 y1_2 x1_3 y1_3 x1_4 y1_4 x1_5 y1_5 x1_6 y1_6
          rintro e w1 ⟨rfl, hb1⟩
          replace gb := below_step gb hb1
          obtain ⟨⟨z0, x0_0, x0_1, x0_2, x0_3, x0_4, y0_0, y0_1, y0_2, y0_3, y0_4⟩, ⟨z1, x1_0, x1_1, x1_2, x1_3, x1_4, x1_5, x1_6, y1_0, y1_1, y1_2, y1_3, y1_4, y1_5, y1_6⟩⟩ := HXW0.out _ gb
          go_wp2_with fail
          obtain ⟨W1, hW1⟩ : ∃ W1, w1.alloc (.cells #[.bool sa, .bool sb, .bool false] 70) = W1 := ⟨_, rfl⟩
          have hb_W1 : Below w1.heap.size w1 W1 := by rw [← hW1]; exact below_new _ _
          have hs_W1 : Hid (W1.heap.size = w1.heap.size + 1) := by show _ = _; rw [← hW1]; simp
          clear x0_0 y0_0 x0_1 y0_1 x0_2 y0_2 x0_3 y0_3 x0_4 y0_4 x1_0 y1_0 x1_1 y1_1 x1_2 y1_2 x1_3 y1_3 x1_4 y1_4 x1_5 y1_5 x1_6 y1_6
          replace gb := below_step gb hb_W1
          obtain ⟨⟨z0, x0_0, x0_1, x0_2, x0_3, x0_4, y0_0, y0_1, y0_2, y0_3, y0_4⟩, ⟨z1, x1_0, x1_1, x1_2, x1_3, x1_4, x1_5, x1_6, y1_0, y1_1, y1_2, y1_3, y1_4, y1_5, y1_6⟩⟩ := HXW0.out _ gb
          have x5_0 : W1.cell? ⟨w1.heap.size, 0, none⟩ = some (.bool sa) := by rw [← hW1]; simp [go_sem]
          have y5_0 : W1.frozen? ⟨w1.heap.size, 0, none⟩ = false := by rw [← hW1]; simp [go_sem]
          have x5_1 : W1.cell? ⟨w1.heap.size, 1, none⟩ = some (.bool sb) := by rw [← hW1]; simp [go_sem]
          have y5_1 : W1.frozen? ⟨w1.heap.size, 1, none⟩ = false := by rw [← hW1]; simp [go_sem]
          have x5_2 : W1.cell? ⟨w1.heap.size, 2, none⟩ = some (.bool false) := by rw [← hW1]; simp [go_sem]
          have y5_2 : W1.frozen? ⟨w1.heap.size, 2, none⟩ = false := by rw [← hW1]; simp [go_sem]
          have z5 : w1.heap.size < W1.heap.size := by rw [← hW1]; simp
          rw [hW1]
          clear hW1
          replace i0 := i0.to gb
          replace i1 := i1.to gb
          replace i2 := i2.to gb
          replace zb := below_step zb gb
          have HXW1 := Lib.hid (show ∀ W', Below W1.heap.size W1 W' → (Bx5 W' w.heap.size (.int .i64 c.ins) (.int .i64 c.rows) (.int .i64 c.cols) (.int .i64 c.regs) (.slice a0 n0 c0) ∧ Bx7 W' (w.heap.size + 1) (.int .i64 op) (.int .i64 to) (.int .i64 xa) (.int .i64 xb) (.bool ng) (.slice a1 n1 c1) (.slice a2 n2 c2) ∧ Bx3 W' w1.heap.size (.bool sa) (.bool sb) (.bool false)) from fun W' hb => by
              refine ⟨bx5 hb ?_ ?_ ?_ ?_ ?_ ?_ ?_ ?_ ?_ ?_, bx7 hb ?_ ?_ ?_ ?_ ?_ ?_ ?_ ?_ ?_ ?_ ?_ ?_ ?_ ?_, bx3 hb ?_ ?_ ?_ ?_ ?_ ?_⟩
              all_goals first | assumption | assumption)
          replace gb := Below.refl W1.heap.size W1
          go_wp2_with fail
          refine (vm_number op to xa xb ng _ _ ln ld _ (i1.to gb) true Hnum.out).mono ?_
          clear x0_0 y0_0 x0_1 y0_1 x0_2 y0_2 x0_3 y0_3 x0_4 y0_4 x1_0 y1_0 x1_1 y1_1 x1_2 y1_2 x1_3 y1_3 x1_4 y1_4 x1_5 y1_5 x1_6 y1_6 x5_0 y5_0 x5_1 y5_1 x5_2 y5_2
          rintro e w2 ⟨rfl, hb2⟩
          replace gb := below_step gb hb2
          obtain ⟨⟨z0, x0_0, x0_1, x0_2, x0_3, x0_4, y0_0, y0_1, y0_2, y0_3, y0_4⟩, ⟨z1, x1_0, x1_1, x1_2, x1_3, x1_4, x1_5, x1_6, y1_0, y1_1, y1_2, y1_3, y1_4, y1_5, y1_6⟩, ⟨z5, x5_0, x5_1, x5_2, y5_0, y5_1, y5_2⟩⟩ := HXW1.out _ gb
          go_wp2_with fail
          refine (vm_register sa xa g n L _ (i2.to gb) HL.out hn _ Hra.out).mono ?_
          rintro e w3 ⟨rfl, rfl⟩
          go_wp2_with fail
          refine (vm_register sb xb g n L _ (i2.to gb) HL.out hn _ Hrb.out).mono ?_
          rintro e w4 ⟨rfl, rfl⟩
          go_wp2_with fail
          go_ret
          exact ⟨rfl, below_step zb gb⟩
        case true =>
          subst ho'
          go_enter Tryz.func33, Tryz.ntmps33
          go_wp2_with fail
          obtain ⟨W0, hW0⟩ : ∃ W0, (w.alloc (.cells #[.int .i64 c.ins, .int .i64 c.rows, .int .i64 c.cols, .int .i64 c.regs, .slice a0 n0 c0] 24)).alloc (.cells #[.int .i64 op, .int .i64 to, .int .i64 xa, .int .i64 xb, .bool ng, .slice a1 n1 c1, .slice a2 n2 c2] 49) = W0 := ⟨_, rfl⟩
          have HXW0 := Lib.hid (show ∀ W', Below W0.heap.size W0 W' → (Bx5 W' w.heap.size (.int .i64 c.ins) (.int .i64 c.rows) (.int .i64 c.cols) (.int .i64 c.regs) (.slice a0 n0 c0) ∧ Bx7 W' (w.heap.size + 1) (.int .i64 op) (.int .i64 to) (.int .i64 xa) (.int .i64 xb) (.bool ng) (.slice a1 n1 c1) (.slice a2 n2 c2)) from fun W' hb => by
              refine ⟨bx5 hb ?_ ?_ ?_ ?_ ?_ ?_ ?_ ?_ ?_ ?_, bx7 hb ?_ ?_ ?_ ?_ ?_ ?_ ?_ ?_ ?_ ?_ ?_ ?_ ?_ ?_⟩
              all_goals first | assumption | (rw [← hW0]; simp [go_sem]))
          have zb : Below w.heap.size w W0 := by rw [← hW0]; exact below_step (below_new _ _) (below_new _ _)
          rw [hW0]
          clear hW0
          have i0 := hc.to zb
          have i1 := hx.to zb
          have i2 := hrow.to zb
          have gb : Below W0.heap.size W0 W0 := Below.refl _ _
          obtain ⟨⟨z0, x0_0, x0_1, x0_2, x0_3, x0_4, y0_0, y0_1, y0_2, y0_3, y0_4⟩, ⟨z1, x1_0, x1_1, x1_2, x1_3, x1_4, x1_5, x1_6, y1_0, y1_1, y1_2, y1_3, y1_4, y1_5, y1_6⟩⟩ := HXW0.out _ gb
          go_wp2_with fail
          refine (vm_shape_l op sa sb false true _ Hsa.out Hsb.out Hsp.out Hok.out).mono ?_
          clear x0_0 y0_0 x0_1 y0_1 x0_2 y0_2 x0_3 y0_3 x0_4 y0_4 x1_0 y1_0 x1_1 y1_1 x1_2 y1_2 x1_3 y1_3 x1_4 y1_4 x1_5 y1_5 x1_6 y1_6
          rintro e w1 ⟨rfl, hb1⟩
          replace gb := below_step gb hb1
          obtain ⟨⟨z0, x0_0, x0_1, x0_2, x0_3, x0_4, y0_0, y0_1, y0_2, y0_3, y0_4⟩, ⟨z1, x1_0, x1_1, x1_2, x1_3, x1_4, x1_5, x1_6, y1_0, y1_1, y1_2, y1_3, y1_4, y1_5, y1_6⟩⟩ := HXW0.out _ gb
          go_wp2_with fail
          obtain ⟨W1, hW1⟩ : ∃ W1, w1.alloc (.cells #[.bool sa, .bool sb, .bool false] 70) = W1 := ⟨_, rfl⟩
          have hb_W1 : Below w1.heap.size w1 W1 := by rw [← hW1]; exact below_new _ _
          have hs_W1 : Hid (W1.heap.size = w1.heap.size + 1) := by show _ = _; rw [← hW1]; simp
          clear x0_0 y0_0 x0_1 y0_1 x0_2 y0_2 x0_3 y0_3 x0_4 y0_4 x1_0 y1_0 x1_1 y1_1 x1_2 y1_2 x1_3 y1_3 x1_4 y1_4 x1_5 y1_5 x1_6 y1_6
          replace gb := below_step gb hb_W1
          obtain ⟨⟨z0, x0_0, x0_1, x0_2, x0_3, x0_4, y0_0, y0_1, y0_2, y0_3, y0_4⟩, ⟨z1, x1_0, x1_1, x1_2, x1_3, x1_4, x1_5, x1_6, y1_0, y1_1, y1_2, y1_3, y1_4, y1_5, y1_6⟩⟩ := HXW0.out _ gb
          have x5_0 : W1.cell? ⟨w1.heap.size, 0, none⟩ = some (.bool sa) := by rw [← hW1]; simp [go_sem]
          have y5_0 : W1.frozen? ⟨w1.heap.size, 0, none⟩ = false := by rw [← hW1]; simp [go_sem]
          have x5_1 : W1.cell? ⟨w1.heap.size, 1, none⟩ = some (.bool sb) := by rw [← hW1]; simp [go_sem]
          have y5_1 : W1.frozen? ⟨w1.heap.size, 1, none⟩ = false := by rw [← hW1]; simp [go_sem]
          have x5_2 : W1.cell? ⟨w1.heap.size, 2, none⟩ = some (.bool false) := by rw [← hW1]; simp [go_sem]
          have y5_2 : W1.frozen? ⟨w1.heap.size, 2, none⟩ = false := by rw [← hW1]; simp [go_sem]
          have z5 : w1.heap.size < W1.heap.size := by rw [← hW1]; simp
          rw [hW1]
          clear hW1
          replace i0 := i0.to gb
          replace i1 := i1.to gb
          replace i2 := i2.to gb
          replace zb := below_step zb gb
          have HXW1 := Lib.hid (show ∀ W', Below W1.heap.size W1 W' → (Bx5 W' w.heap.size (.int .i64 c.ins) (.int .i64 c.rows) (.int .i64 c.cols) (.int .i64 c.regs) (.slice a0 n0 c0) ∧ Bx7 W' (w.heap.size + 1) (.int .i64 op) (.int .i64 to) (.int .i64 xa) (.int .i64 xb) (.bool ng) (.slice a1 n1 c1) (.slice a2 n2 c2) ∧ Bx3 W' w1.heap.size (.bool sa) (.bool sb) (.bool false)) from fun W' hb => by
              refine ⟨bx5 hb ?_ ?_ ?_ ?_ ?_ ?_ ?_ ?_ ?_ ?_, bx7 hb ?_ ?_ ?_ ?_ ?_ ?_ ?_ ?_ ?_ ?_ ?_ ?_ ?_ ?_, bx3 hb ?_ ?_ ?_ ?_ ?_ ?_⟩
              all_goals first | assumption | assumption)
          replace gb := Below.refl W1.heap.size W1
          go_wp2_with fail
          refine (vm_number op to xa xb ng _ _ ln ld _ (i1.to gb) true Hnum.out).mono ?_
          clear x0_0 y0_0 x0_1 y0_1 x0_2 y0_2 x0_3 y0_3 x0_4 y0_4 x1_0 y1_0 x1_1 y1_1 x1_2 y1_2 x1_3 y1_3 x1_4 y1_4 x1_5 y1_5 x1_6 y1_6 x5_0 y5_0 x5_1 y5_1 x5_2 y5_2
          rintro e w2 ⟨rfl, hb2⟩
          replace gb := below_step gb hb2
          obtain ⟨⟨z0, x0_0, x0_1, x0_2, x0_3, x0_4, y0_0, y0_1, y0_2, y0_3, y0_4⟩, ⟨z1, x1_0, x1_1, x1_2, x1_3, x1_4, x1_5, x1_6, y1_0, y1_1, y1_2, y1_3, y1_4, y1_5, y1_6⟩, ⟨z5, x5_0, x5_1, x5_2, y5_0, y5_1, y5_2⟩⟩ := HXW1.out _ gb
          go_wp2_with fail
          refine (vm_register sa xa g n L _ (i2.to gb) HL.out hn _ Hra.out).mono ?_
          rintro e w3 ⟨rfl, rfl⟩
          go_wp2_with fail
          refine (vm_register sb xb g n L _ (i2.to gb) HL.out hn _ Hrb.out).mono ?_
          rintro e w4 ⟨rfl, rfl⟩
          go_wp2_with fail
          go_ret
          exact ⟨rfl, below_step zb gb⟩

set_option maxRecDepth 100000 in
set_option maxHeartbeats 60000000 in
theorem vm_instr_pow (c : Cd) (v : Value) (op to xa xb : Int) (ng : Bool) (vn vd : Value) (ln ld : List Nat) (g n : Nat) (L : List Int) (w : World) (hc : IsC w c v) (hx : IsX w ⟨op, to, xa, xb, ⟨ng, ln, ld⟩⟩ vn vd) (hrow : RowF w g n (fun i => .bool (decide ((i : Int) ∈ L)))) (hL : ∀ x ∈ L, 0 ≤ x ∧ x < (n : Int)) (hn : n ≤ 100000) (hnr : (n : Int) = c.regs) (hr : 1 ≤ c.rows ∧ c.rows ≤ 40) (hcl : 1 ≤ c.cols ∧ c.cols ≤ 40) (h0 : 0 ≤ opRegs op) (hnum : numOk ⟨op, to, xa, xb, ⟨ng, ln, ld⟩⟩ = true) (h1 : op = 7) (o : Bool) (ho : insOk c L ⟨op, to, xa, xb, ⟨ng, ln, ld⟩⟩ = o) :
    Calls Tryz.prog 33 #[aggC c v, .agg #[.int .i64 op, .int .i64 to, .int .i64 xa, .int .i64 xb, .bool ng, vn, vd], .slice (some ⟨g, 0, none⟩) n n] w (fun e w' => e = .returned (.bool o) ∧ Below w.heap.size w w') := by
  rw [insOk_eq (x := ⟨op, to, xa, xb, ⟨ng, ln, ld⟩⟩) h0 hnum, aOk_reg (x := ⟨op, to, xa, xb, ⟨ng, ln, ld⟩⟩) h0 (by show op ≠ 0; first | assumption | omega), bOk_pow (x := ⟨op, to, xa, xb, ⟨ng, ln, ld⟩⟩) h1] at ho
  obtain ⟨sa, hsa⟩ : ∃ b, decide (1 ≤ opRegs op) = b := ⟨_, rfl⟩
  obtain ⟨sb, hsb⟩ : ∃ b, decide (opRegs op = 2) = b := ⟨_, rfl⟩
  have hsp : decide (op = 7) = true := by simp; exact h1
  obtain ⟨ra, hra⟩ : ∃ b, (if sa = true then decide (xa ∈ L) else decide (xa = 0)) = b := ⟨_, rfl⟩
  obtain ⟨rb, hrb⟩ : ∃ b, (if sb = true then decide (xb ∈ L) else decide (xb = 0)) = b := ⟨_, rfl⟩
  obtain ⟨p1, tp1⟩ : ∃ b, decide (0 ≤ xa) = b := ⟨_, rfl⟩
  obtain ⟨p2, tp2⟩ : ∃ b, decide (xa < c.ins) = b := ⟨_, rfl⟩
  obtain ⟨r1, tr1⟩ : ∃ b, decide (-21 ≤ xb) = b := ⟨_, rfl⟩
  obtain ⟨r2, tr2⟩ : ∃ b, decide (xb ≤ 21) = b := ⟨_, rfl⟩
  obtain ⟨q1, tq1⟩ : ∃ b, decide (0 ≤ to) = b := ⟨_, rfl⟩
  obtain ⟨q2, tq2⟩ : ∃ b, decide (to < c.regs) = b := ⟨_, rfl⟩
  have t10 : (op == 10) = false := by simp; omega
  have t0 : (op == 0) = false := by simp; omega
  have pb := prod_bounds hr hcl
  have HM : IntKind.i64.wrap (c.rows * c.cols) = c.rows * c.cols := IntWalk.i64_in _ (by omega)
  have ho' : (ra && (r1 && r2) && q1 && q2) = o := by
    have e : mostTo c ⟨op, to, xa, xb, ⟨ng, ln, ld⟩⟩ = c.regs := by unfold mostTo; rw [if_neg (by show op ≠ 10; first | assumption | omega)]
    rw [e] at ho
    subst ho hra hrb hsa hsb tp1 tp2 tr1 tr2 tq1 tq2
    rfl
  have Hsa := Lib.hid hsa
  have Hsb := Lib.hid hsb
  have Hsp := Lib.hid hsp
  have Hok := Lib.hid (decide_eq_true h0)
  have Hnum := Lib.hid hnum
  have Hra := Lib.hid hra
  have Hrb := Lib.hid hrb
  have HL := Lib.hid hL
  clear ho hsa hsb hsp hra hrb h0 hnum hnr hr hcl hL pb h1
  obtain ⟨a0, n0, c0, rfl, H0, hm0⟩ := hc.1.open
  obtain ⟨a1, n1, c1, rfl, H1, hm1⟩ := hx.1.1.open
  obtain ⟨a2, n2, c2, rfl, H2, hm2⟩ := hx.1.2.1.open
  cases r1
  case false =>
    cases ra
    case false =>
      subst ho'
      go_enter Tryz.func33, Tryz.ntmps33
      go_wp2_with fail
      obtain ⟨W0, hW0⟩ : ∃ W0, (w.alloc (.cells #[.int .i64 c.ins, .int .i64 c.rows, .int .i64 c.cols, .int .i64 c.regs, .slice a0 n0 c0] 24)).alloc (.cells #[.int .i64 op, .int .i64 to, .int .i64 xa, .int .i64 xb, .bool ng, .slice a1 n1 c1, .slice a2 n2 c2] 49) = W0 := ⟨_, rfl⟩
      have HXW0 := Lib.hid (show ∀ W', Below W0.heap.size W0 W' → (Bx5 W' w.heap.size (.int .i64 c.ins) (.int .i64 c.rows) (.int .i64 c.cols) (.int .i64 c.regs) (.slice a0 n0 c0) ∧ Bx7 W' (w.heap.size + 1) (.int .i64 op) (.int .i64 to) (.int .i64 xa) (.int .i64 xb) (.bool ng) (.slice a1 n1 c1) (.slice a2 n2 c2)) from fun W' hb => by
          refine ⟨bx5 hb ?_ ?_ ?_ ?_ ?_ ?_ ?_ ?_ ?_ ?_, bx7 hb ?_ ?_ ?_ ?_ ?_ ?_ ?_ ?_ ?_ ?_ ?_ ?_ ?_ ?_⟩
          all_goals first | assumption | (rw [← hW0]; simp [go_sem]))
      have zb : Below w.heap.size w W0 := by rw [← hW0]; exact below_step (below_new _ _) (below_new _ _)
      rw [hW0]
      clear hW0
      have i0 := hc.to zb
      have i1 := hx.to zb
      have i2 := hrow.to zb
      have gb : Below W0.heap.size W0 W0 := Below.refl _ _
      obtain ⟨⟨z0, x0_0, x0_1, x0_2, x0_3, x0_4, y0_0, y0_1, y0_2, y0_3, y0_4⟩, ⟨z1, x1_0, x1_1, x1_2, x1_3, x1_4, x1_5, x1_6, y1_0, y1_1, y1_2, y1_3, y1_4, y1_5, y1_6⟩⟩ := HXW0.out _ gb
      go_wp2_with fail
      refine (vm_shape_l op sa sb true true _ Hsa.out Hsb.out Hsp.out Hok.out).mono ?_
      clear x0_0 y0_0 x0_1 y0_1 x0_2 y0_2 x0_3 y0_3 x0_4 y0_4 x1_0 y1_0 x1_1 y1_1 x1_2 y1_2 x1_3 y1_3 x1_4 y1_4 x1_5 y1_5 x1_6 y1_6
      rintro e w1 ⟨rfl, hb1⟩
      replace gb := below_step gb hb1
      obtain ⟨⟨z0, x0_0, x0_1, x0_2, x0_3, x0_4, y0_0, y0_1, y0_2, y0_3, y0_4⟩, ⟨z1, x1_0, x1_1, x1_2, x1_3, x1_4, x1_5, x1_6, y1_0, y1_1, y1_2, y1_3, y1_4, y1_5, y1_6⟩⟩ := HXW0.out _ gb
      go_wp2_with fail
      obtain ⟨W1, hW1⟩ : ∃ W1, w1.alloc (.cells #[.bool sa, .bool sb, .bool true] 70) = W1 := ⟨_, rfl⟩
      have hb_W1 : Below w1.heap.size w1 W1 := by rw [← hW1]; exact below_new _ _
      have hs_W1 : Hid (W1.heap.size = w1.heap.size + 1) := by show _ = _; rw [← hW1]; simp
      clear x0_0 y0_0 x0_1 y0_1 x0_2 y0_2 x0_3 y0_3 x0_4 y0_4 x1_0 y1_0 x1_1 y1_1 x1_2 y1_2 x1_3 y1_3 x1_4 y1_4 x1_5 y1_5 x1_6 y1_6
      replace gb := below_step gb hb_W1
      obtain ⟨⟨z0, x0_0, x0_1, x0_2, x0_3, x0_4, y0_0, y0_1, y0_2, y0_3, y0_4⟩, ⟨z1, x1_0, x1_1, x1_2, x1_3, x1_4, x1_5, x1_6, y1_0, y1_1, y1_2, y1_3, y1_4, y1_5, y1_6⟩⟩ := HXW0.out _ gb
      have x5_0 : W1.cell? ⟨w1.heap.size, 0, none⟩ = some (.bool sa) := by rw [← hW1]; simp [go_sem]
      have y5_0 : W1.frozen? ⟨w1.heap.size, 0, none⟩ = false := by rw [← hW1]; simp [go_sem]
      have x5_1 : W1.cell? ⟨w1.heap.size, 1, none⟩ = some (.bool sb) := by rw [← hW1]; simp [go_sem]
      have y5_1 : W1.frozen? ⟨w1.heap.size, 1, none⟩ = false := by rw [← hW1]; simp [go_sem]
      have x5_2 : W1.cell? ⟨w1.heap.size, 2, none⟩ = some (.bool true) := by rw [← hW1]; simp [go_sem]
      have y5_2 : W1.frozen? ⟨w1.heap.size, 2, none⟩ = false := by rw [← hW1]; simp [go_sem]
      have z5 : w1.heap.size < W1.heap.size := by rw [← hW1]; simp
      rw [hW1]
      clear hW1
      replace i0 := i0.to gb
      replace i1 := i1.to gb
      replace i2 := i2.to gb
      replace zb := below_step zb gb
      have HXW1 := Lib.hid (show ∀ W', Below W1.heap.size W1 W' → (Bx5 W' w.heap.size (.int .i64 c.ins) (.int .i64 c.rows) (.int .i64 c.cols) (.int .i64 c.regs) (.slice a0 n0 c0) ∧ Bx7 W' (w.heap.size + 1) (.int .i64 op) (.int .i64 to) (.int .i64 xa) (.int .i64 xb) (.bool ng) (.slice a1 n1 c1) (.slice a2 n2 c2) ∧ Bx3 W' w1.heap.size (.bool sa) (.bool sb) (.bool true)) from fun W' hb => by
          refine ⟨bx5 hb ?_ ?_ ?_ ?_ ?_ ?_ ?_ ?_ ?_ ?_, bx7 hb ?_ ?_ ?_ ?_ ?_ ?_ ?_ ?_ ?_ ?_ ?_ ?_ ?_ ?_, bx3 hb ?_ ?_ ?_ ?_ ?_ ?_⟩
          all_goals first | assumption | assumption)
      replace gb := Below.refl W1.heap.size W1
      go_wp2_with fail
      refine (vm_number op to xa xb ng _ _ ln ld _ (i1.to gb) true Hnum.out).mono ?_
      clear x0_0 y0_0 x0_1 y0_1 x0_2 y0_2 x0_3 y0_3 x0_4 y0_4 x1_0 y1_0 x1_1 y1_1 x1_2 y1_2 x1_3 y1_3 x1_4 y1_4 x1_5 y1_5 x1_6 y1_6 x5_0 y5_0 x5_1 y5_1 x5_2 y5_2
      rintro e w2 ⟨rfl, hb2⟩
      replace gb := below_step gb hb2
      obtain ⟨⟨z0, x0_0, x0_1, x0_2, x0_3, x0_4, y0_0, y0_1, y0_2, y0_3, y0_4⟩, ⟨z1, x1_0, x1_1, x1_2, x1_3, x1_4, x1_5, x1_6, y1_0, y1_1, y1_2, y1_3, y1_4, y1_5, y1_6⟩, ⟨z5, x5_0, x5_1, x5_2, y5_0, y5_1, y5_2⟩⟩ := HXW1.out _ gb
      go_wp2_with fail
      refine (vm_register sa xa g n L _ (i2.to gb) HL.out hn _ Hra.out).mono ?_
      rintro e w3 ⟨rfl, rfl⟩
      go_wp2_with fail
      refine (vm_register sb xb g n L _ (i2.to gb) HL.out hn _ Hrb.out).mono ?_
      rintro e w4 ⟨rfl, rfl⟩
      go_wp2_with fail
      go_ret
      exact ⟨rfl, below_step zb gb⟩
    case true =>
      subst ho'
      go_enter Tryz.func33, Tryz.ntmps33
      go_wp2_with fail
      obtain ⟨W0, hW0⟩ : ∃ W0, (w.alloc (.cells #[.int .i64 c.ins, .int .i64 c.rows, .int .i64 c.cols, .int .i64 c.regs, .slice a0 n0 c0] 24)).alloc (.cells #[.int .i64 op, .int .i64 to, .int .i64 xa, .int .i64 xb, .bool ng, .slice a1 n1 c1, .slice a2 n2 c2] 49) = W0 := ⟨_, rfl⟩
      have HXW0 := Lib.hid (show ∀ W', Below W0.heap.size W0 W' → (Bx5 W' w.heap.size (.int .i64 c.ins) (.int .i64 c.rows) (.int .i64 c.cols) (.int .i64 c.regs) (.slice a0 n0 c0) ∧ Bx7 W' (w.heap.size + 1) (.int .i64 op) (.int .i64 to) (.int .i64 xa) (.int .i64 xb) (.bool ng) (.slice a1 n1 c1) (.slice a2 n2 c2)) from fun W' hb => by
          refine ⟨bx5 hb ?_ ?_ ?_ ?_ ?_ ?_ ?_ ?_ ?_ ?_, bx7 hb ?_ ?_ ?_ ?_ ?_ ?_ ?_ ?_ ?_ ?_ ?_ ?_ ?_ ?_⟩
          all_goals first | assumption | (rw [← hW0]; simp [go_sem]))
      have zb : Below w.heap.size w W0 := by rw [← hW0]; exact below_step (below_new _ _) (below_new _ _)
      rw [hW0]
      clear hW0
      have i0 := hc.to zb
      have i1 := hx.to zb
      have i2 := hrow.to zb
      have gb : Below W0.heap.size W0 W0 := Below.refl _ _
      obtain ⟨⟨z0, x0_0, x0_1, x0_2, x0_3, x0_4, y0_0, y0_1, y0_2, y0_3, y0_4⟩, ⟨z1, x1_0, x1_1, x1_2, x1_3, x1_4, x1_5, x1_6, y1_0, y1_1, y1_2, y1_3, y1_4, y1_5, y1_6⟩⟩ := HXW0.out _ gb
      go_wp2_with fail
      refine (vm_shape_l op sa sb true true _ Hsa.out Hsb.out Hsp.out Hok.out).mono ?_
      clear x0_0 y0_0 x0_1 y0_1 x0_2 y0_2 x0_3 y0_3 x0_4 y0_4 x1_0 y1_0 x1_1 y1_1 x1_2 y1_2 x1_3 y1_3 x1_4 y1_4 x1_5 y1_5 x1_6 y1_6
      rintro e w1 ⟨rfl, hb1⟩
      replace gb := below_step gb hb1
      obtain ⟨⟨z0, x0_0, x0_1, x0_2, x0_3, x0_4, y0_0, y0_1, y0_2, y0_3, y0_4⟩, ⟨z1, x1_0, x1_1, x1_2, x1_3, x1_4, x1_5, x1_6, y1_0, y1_1, y1_2, y1_3, y1_4, y1_5, y1_6⟩⟩ := HXW0.out _ gb
      go_wp2_with fail
      obtain ⟨W1, hW1⟩ : ∃ W1, w1.alloc (.cells #[.bool sa, .bool sb, .bool true] 70) = W1 := ⟨_, rfl⟩
      have hb_W1 : Below w1.heap.size w1 W1 := by rw [← hW1]; exact below_new _ _
      have hs_W1 : Hid (W1.heap.size = w1.heap.size + 1) := by show _ = _; rw [← hW1]; simp
      clear x0_0 y0_0 x0_1 y0_1 x0_2 y0_2 x0_3 y0_3 x0_4 y0_4 x1_0 y1_0 x1_1 y1_1 x1_2 y1_2 x1_3 y1_3 x1_4 y1_4 x1_5 y1_5 x1_6 y1_6
      replace gb := below_step gb hb_W1
      obtain ⟨⟨z0, x0_0, x0_1, x0_2, x0_3, x0_4, y0_0, y0_1, y0_2, y0_3, y0_4⟩, ⟨z1, x1_0, x1_1, x1_2, x1_3, x1_4, x1_5, x1_6, y1_0, y1_1, y1_2, y1_3, y1_4, y1_5, y1_6⟩⟩ := HXW0.out _ gb
      have x5_0 : W1.cell? ⟨w1.heap.size, 0, none⟩ = some (.bool sa) := by rw [← hW1]; simp [go_sem]
      have y5_0 : W1.frozen? ⟨w1.heap.size, 0, none⟩ = false := by rw [← hW1]; simp [go_sem]
      have x5_1 : W1.cell? ⟨w1.heap.size, 1, none⟩ = some (.bool sb) := by rw [← hW1]; simp [go_sem]
      have y5_1 : W1.frozen? ⟨w1.heap.size, 1, none⟩ = false := by rw [← hW1]; simp [go_sem]
      have x5_2 : W1.cell? ⟨w1.heap.size, 2, none⟩ = some (.bool true) := by rw [← hW1]; simp [go_sem]
      have y5_2 : W1.frozen? ⟨w1.heap.size, 2, none⟩ = false := by rw [← hW1]; simp [go_sem]
      have z5 : w1.heap.size < W1.heap.size := by rw [← hW1]; simp
      rw [hW1]
      clear hW1
      replace i0 := i0.to gb
      replace i1 := i1.to gb
      replace i2 := i2.to gb
      replace zb := below_step zb gb
      have HXW1 := Lib.hid (show ∀ W', Below W1.heap.size W1 W' → (Bx5 W' w.heap.size (.int .i64 c.ins) (.int .i64 c.rows) (.int .i64 c.cols) (.int .i64 c.regs) (.slice a0 n0 c0) ∧ Bx7 W' (w.heap.size + 1) (.int .i64 op) (.int .i64 to) (.int .i64 xa) (.int .i64 xb) (.bool ng) (.slice a1 n1 c1) (.slice a2 n2 c2) ∧ Bx3 W' w1.heap.size (.bool sa) (.bool sb) (.bool true)) from fun W' hb => by
          refine ⟨bx5 hb ?_ ?_ ?_ ?_ ?_ ?_ ?_ ?_ ?_ ?_, bx7 hb ?_ ?_ ?_ ?_ ?_ ?_ ?_ ?_ ?_ ?_ ?_ ?_ ?_ ?_, bx3 hb ?_ ?_ ?_ ?_ ?_ ?_⟩
          all_goals first | assumption | assumption)
      replace gb := Below.refl W1.heap.size W1
      go_wp2_with fail
      refine (vm_number op to xa xb ng _ _ ln ld _ (i1.to gb) true Hnum.out).mono ?_
      clear x0_0 y0_0 x0_1 y0_1 x0_2 y0_2 x0_3 y0_3 x0_4 y0_4 x1_0 y1_0 x1_1 y1_1 x1_2 y1_2 x1_3 y1_3 x1_4 y1_4 x1_5 y1_5 x1_6 y1_6 x5_0 y5_0 x5_1 y5_1 x5_2 y5_2
      rintro e w2 ⟨rfl, hb2⟩
      replace gb := below_step gb hb2
      obtain ⟨⟨z0, x0_0, x0_1, x0_2, x0_3, x0_4, y0_0, y0_1, y0_2, y0_3, y0_4⟩, ⟨z1, x1_0, x1_1, x1_2, x1_3, x1_4, x1_5, x1_6, y1_0, y1_1, y1_2, y1_3, y1_4, y1_5, y1_6⟩, ⟨z5, x5_0, x5_1, x5_2, y5_0, y5_1, y5_2⟩⟩ := HXW1.out _ gb
      go_wp2_with fail
      refine (vm_register sa xa g n L _ (i2.to gb) HL.out hn _ Hra.out).mono ?_
      rintro e w3 ⟨rfl, rfl⟩
      go_wp2_with fail
      refine (vm_register sb xb g n L _ (i2.to gb) HL.out hn _ Hrb.out).mono ?_
      rintro e w4 ⟨rfl, rfl⟩
      go_wp2_with fail
      go_ret
      exact ⟨rfl, below_step zb gb⟩
  case true =>
    cases ra
    case false =>
      subst ho'
      go_enter Tryz.func33, Tryz.ntmps33
      go_wp2_with fail
      obtain ⟨W0, hW0⟩ : ∃ W0, (w.alloc (.cells #[.int .i64 c.ins, .int .i64 c.rows, .int .i64 c.cols, .int .i64 c.regs, .slice a0 n0 c0] 24)).alloc (.cells #[.int .i64 op, .int .i64 to, .int .i64 xa, .int .i64 xb, .bool ng, .slice a1 n1 c1, .slice a2 n2 c2] 49) = W0 := ⟨_, rfl⟩
      have HXW0 := Lib.hid (show ∀ W', Below W0.heap.size W0 W' → (Bx5 W' w.heap.size (.int .i64 c.ins) (.int .i64 c.rows) (.int .i64 c.cols) (.int .i64 c.regs) (.slice a0 n0 c0) ∧ Bx7 W' (w.heap.size + 1) (.int .i64 op) (.int .i64 to) (.int .i64 xa) (.int .i64 xb) (.bool ng) (.slice a1 n1 c1) (.slice a2 n2 c2)) from fun W' hb => by
          refine ⟨bx5 hb ?_ ?_ ?_ ?_ ?_ ?_ ?_ ?_ ?_ ?_, bx7 hb ?_ ?_ ?_ ?_ ?_ ?_ ?_ ?_ ?_ ?_ ?_ ?_ ?_ ?_⟩
          all_goals first | assumption | (rw [← hW0]; simp [go_sem]))
      have zb : Below w.heap.size w W0 := by rw [← hW0]; exact below_step (below_new _ _) (below_new _ _)
      rw [hW0]
      clear hW0
      have i0 := hc.to zb
      have i1 := hx.to zb
      have i2 := hrow.to zb
      have gb : Below W0.heap.size W0 W0 := Below.refl _ _
      obtain ⟨⟨z0, x0_0, x0_1, x0_2, x0_3, x0_4, y0_0, y0_1, y0_2, y0_3, y0_4⟩, ⟨z1, x1_0, x1_1, x1_2, x1_3, x1_4, x1_5, x1_6, y1_0, y1_1, y1_2, y1_3, y1_4, y1_5, y1_6⟩⟩ := HXW0.out _ gb
      go_wp2_with fail
      refine (vm_shape_l op sa sb true true _ Hsa.out Hsb.out Hsp.out Hok.out).mono ?_
      clear x0_0 y0_0 x0_1 y0_1 x0_2 y0_2 x0_3 y0_3 x0_4 y0_4 x1_0 y1_0 x1_1 y1_1 x1_2 y1_2 x1_3 y1_3 x1_4 y1_4 x1_5 y1_5 x1_6 y1_6
      rintro e w1 ⟨rfl, hb1⟩
      replace gb := below_step gb hb1
      obtain ⟨⟨z0, x0_0, x0_1, x0_2, x0_3, x0_4, y0_0, y0_1, y0_2, y0_3, y0_4⟩, ⟨z1, x1_0, x1_1, x1_2, x1_3, x1_4, x1_5, x1_6, y1_0, y1_1, y1_2, y1_3, y1_4, y1_5, y1_6⟩⟩ := HXW0.out _ gb
      go_wp2_with fail
      obtain ⟨W1, hW1⟩ : ∃ W1, w1.alloc (.cells #[.bool sa, .bool sb, .bool true] 70) = W1 := ⟨_, rfl⟩
      have hb_W1 : Below w1.heap.size w1 W1 := by rw [← hW1]; exact below_new _ _
      have hs_W1 : Hid (W1.heap.size = w1.heap.size + 1) := by show _ = _; rw [← hW1]; simp
      clear x0_0 y0_0 x0_1 y0_1 x0_2 y0_2 x0_3 y0_3 x0_4 y0_4 x1_0 y1_0 x1_1 y1_1 x1_2 y1_2 x1_3 y1_3 x1_4 y1_4 x1_5 y1_5 x1_6 y1_6
      replace gb := below_step gb hb_W1
      obtain ⟨⟨z0, x0_0, x0_1, x0_2, x0_3, x0_4, y0_0, y0_1, y0_2, y0_3, y0_4⟩, ⟨z1, x1_0, x1_1, x1_2, x1_3, x1_4, x1_5, x1_6, y1_0, y1_1, y1_2, y1_3, y1_4, y1_5, y1_6⟩⟩ := HXW0.out _ gb
      have x5_0 : W1.cell? ⟨w1.heap.size, 0, none⟩ = some (.bool sa) := by rw [← hW1]; simp [go_sem]
      have y5_0 : W1.frozen? ⟨w1.heap.size, 0, none⟩ = false := by rw [← hW1]; simp [go_sem]
      have x5_1 : W1.cell? ⟨w1.heap.size, 1, none⟩ = some (.bool sb) := by rw [← hW1]; simp [go_sem]
      have y5_1 : W1.frozen? ⟨w1.heap.size, 1, none⟩ = false := by rw [← hW1]; simp [go_sem]
      have x5_2 : W1.cell? ⟨w1.heap.size, 2, none⟩ = some (.bool true) := by rw [← hW1]; simp [go_sem]
      have y5_2 : W1.frozen? ⟨w1.heap.size, 2, none⟩ = false := by rw [← hW1]; simp [go_sem]
      have z5 : w1.heap.size < W1.heap.size := by rw [← hW1]; simp
      rw [hW1]
      clear hW1
      replace i0 := i0.to gb
      replace i1 := i1.to gb
      replace i2 := i2.to gb
      replace zb := below_step zb gb
      have HXW1 := Lib.hid (show ∀ W', Below W1.heap.size W1 W' → (Bx5 W' w.heap.size (.int .i64 c.ins) (.int .i64 c.rows) (.int .i64 c.cols) (.int .i64 c.regs) (.slice a0 n0 c0) ∧ Bx7 W' (w.heap.size + 1) (.int .i64 op) (.int .i64 to) (.int .i64 xa) (.int .i64 xb) (.bool ng) (.slice a1 n1 c1) (.slice a2 n2 c2) ∧ Bx3 W' w1.heap.size (.bool sa) (.bool sb) (.bool true)) from fun W' hb => by
          refine ⟨bx5 hb ?_ ?_ ?_ ?_ ?_ ?_ ?_ ?_ ?_ ?_, bx7 hb ?_ ?_ ?_ ?_ ?_ ?_ ?_ ?_ ?_ ?_ ?_ ?_ ?_ ?_, bx3 hb ?_ ?_ ?_ ?_ ?_ ?_⟩
          all_goals first | assumption | assumption)
      replace gb := Below.refl W1.heap.size W1
      go_wp2_with fail
      refine (vm_number op to xa xb ng _ _ ln ld _ (i1.to gb) true Hnum.out).mono ?_
      clear x0_0 y0_0 x0_1 y0_1 x0_2 y0_2 x0_3 y0_3 x0_4 y0_4 x1_0 y1_0 x1_1 y1_1 x1_2 y1_2 x1_3 y1_3 x1_4 y1_4 x1_5 y1_5 x1_6 y1_6 x5_0 y5_0 x5_1 y5_1 x5_2 y5_2
      rintro e w2 ⟨rfl, hb2⟩
      replace gb := below_step gb hb2
      obtain ⟨⟨z0, x0_0, x0_1, x0_2, x0_3, x0_4, y0_0, y0_1, y0_2, y0_3, y0_4⟩, ⟨z1, x1_0, x1_1, x1_2, x1_3, x1_4, x1_5, x1_6, y1_0, y1_1, y1_2, y1_3, y1_4, y1_5, y1_6⟩, ⟨z5, x5_0, x5_1, x5_2, y5_0, y5_1, y5_2⟩⟩ := HXW1.out _ gb
      go_wp2_with fail
      refine (vm_register sa xa g n L _ (i2.to gb) HL.out hn _ Hra.out).mono ?_
      rintro e w3 ⟨rfl, rfl⟩
      go_wp2_with fail
      refine (vm_register sb xb g n L _ (i2.to gb) HL.out hn _ Hrb.out).mono ?_
      rintro e w4 ⟨rfl, rfl⟩
      go_wp2_with fail
      go_ret
      exact ⟨rfl, below_step zb gb⟩
    case true =>
      cases r2
      case false =>
        subst ho'
        go_enter Tryz.func33, Tryz.ntmps33
        go_wp2_with fail
        obtain ⟨W0, hW0⟩ : ∃ W0, (w.alloc (.cells #[.int .i64 c.ins, .int .i64 c.rows, .int .i64 c.cols, .int .i64 c.regs, .slice a0 n0 c0] 24)).alloc (.cells #[.int .i64 op, .int .i64 to, .int .i64 xa, .int .i64 xb, .bool ng, .slice a1 n1 c1, .slice a2 n2 c2] 49) = W0 := ⟨_, rfl⟩
        have HXW0 := Lib.hid (show ∀ W', Below W0.heap.size W0 W' → (Bx5 W' w.heap.size (.int .i64 c.ins) (.int .i64 c.rows) (.int .i64 c.cols) (.int .i64 c.regs) (.slice a0 n0 c0) ∧ Bx7 W' (w.heap.size + 1) (.int .i64 op) (.int .i64 to) (.int .i64 xa) (.int .i64 xb) (.bool ng) (.slice a1 n1 c1) (.slice a2 n2 c2)) from fun W' hb => by
            refine ⟨bx5 hb ?_ ?_ ?_ ?_ ?_ ?_ ?_ ?_ ?_ ?_, bx7 hb ?_ ?_ ?_ ?_ ?_ ?_ ?_ ?_ ?_ ?_ ?_ ?_ ?_ ?_⟩
            all_goals first | assumption | (rw [← hW0]; simp [go_sem]))
        have zb : Below w.heap.size w W0 := by rw [← hW0]; exact below_step (below_new _ _) (below_new _ _)
        rw [hW0]
        clear hW0
        have i0 := hc.to zb
        have i1 := hx.to zb
        have i2 := hrow.to zb
        have gb : Below W0.heap.size W0 W0 := Below.refl _ _
        obtain ⟨⟨z0, x0_0, x0_1, x0_2, x0_3, x0_4, y0_0, y0_1, y0_2, y0_3, y0_4⟩, ⟨z1, x1_0, x1_1, x1_2, x1_3, x1_4, x1_5, x1_6, y1_0, y1_1, y1_2, y1_3, y1_4, y1_5, y1_6⟩⟩ := HXW0.out _ gb
        go_wp2_with fail
        refine (vm_shape_l op sa sb true true _ Hsa.out Hsb.out Hsp.out Hok.out).mono ?_
        clear x0_0 y0_0 x0_1 y0_1 x0_2 y0_2 x0_3 y0_3 x0_4 y0_4 x1_0 y1_0 x1_1 y1_1 x1_2 y1_2 x1_3 y1_3 x1_4 y1_4 x1_5 y1_5 x1_6 y1_6
        rintro e w1 ⟨rfl, hb1⟩
        replace gb := below_step gb hb1
        obtain ⟨⟨z0, x0_0, x0_1, x0_2, x0_3, x0_4, y0_0, y0_1, y0_2, y0_3, y0_4⟩, ⟨z1, x1_0, x1_1, x1_2, x1_3, x1_4, x1_5, x1_6, y1_0, y1_1, y1_2, y1_3, y1_4, y1_5, y1_6⟩⟩ := HXW0.out _ gb
        go_wp2_with fail
        obtain ⟨W1, hW1⟩ : ∃ W1, w1.alloc (.cells #[.bool sa, .bool sb, .bool true] 70) = W1 := ⟨_, rfl⟩
        have hb_W1 : Below w1.heap.size w1 W1 := by rw [← hW1]; exact below_new _ _
        have hs_W1 : Hid (W1.heap.size = w1.heap.size + 1) := by show _ = _; rw [← hW1]; simp
        clear x0_0 y0_0 x0_1 y0_1 x0_2 y0_2 x0_3 y0_3 x0_4 y0_4 x1_0 y1_0 x1_1 y1_1 x1_2 y1_2 x1_3 y1_3 x1_4 y1_4 x1_5 y1_5 x1_6 y1_6
        replace gb := below_step gb hb_W1
        obtain ⟨⟨z0, x0_0, x0_1, x0_2, x0_3, x0_4, y0_0, y0_1, y0_2, y0_3, y0_4⟩, ⟨z1, x1_0, x1_1, x1_2, x1_3, x1_4, x1_5, x1_6, y1_0, y1_1, y1_2, y1_3, y1_4, y1_5, y1_6⟩⟩ := HXW0.out _ gb
        have x5_0 : W1.cell? ⟨w1.heap.size, 0, none⟩ = some (.bool sa) := by rw [← hW1]; simp [go_sem]
        have y5_0 : W1.frozen? ⟨w1.heap.size, 0, none⟩ = false := by rw [← hW1]; simp [go_sem]
        have x5_1 : W1.cell? ⟨w1.heap.size, 1, none⟩ = some (.bool sb) := by rw [← hW1]; simp [go_sem]
        have y5_1 : W1.frozen? ⟨w1.heap.size, 1, none⟩ = false := by rw [← hW1]; simp [go_sem]
        have x5_2 : W1.cell? ⟨w1.heap.size, 2, none⟩ = some (.bool true) := by rw [← hW1]; simp [go_sem]
        have y5_2 : W1.frozen? ⟨w1.heap.size, 2, none⟩ = false := by rw [← hW1]; simp [go_sem]
        have z5 : w1.heap.size < W1.heap.size := by rw [← hW1]; simp
        rw [hW1]
        clear hW1
        replace i0 := i0.to gb
        replace i1 := i1.to gb
        replace i2 := i2.to gb
        replace zb := below_step zb gb
        have HXW1 := Lib.hid (show ∀ W', Below W1.heap.size W1 W' → (Bx5 W' w.heap.size (.int .i64 c.ins) (.int .i64 c.rows) (.int .i64 c.cols) (.int .i64 c.regs) (.slice a0 n0 c0) ∧ Bx7 W' (w.heap.size + 1) (.int .i64 op) (.int .i64 to) (.int .i64 xa) (.int .i64 xb) (.bool ng) (.slice a1 n1 c1) (.slice a2 n2 c2) ∧ Bx3 W' w1.heap.size (.bool sa) (.bool sb) (.bool true)) from fun W' hb => by
            refine ⟨bx5 hb ?_ ?_ ?_ ?_ ?_ ?_ ?_ ?_ ?_ ?_, bx7 hb ?_ ?_ ?_ ?_ ?_ ?_ ?_ ?_ ?_ ?_ ?_ ?_ ?_ ?_, bx3 hb ?_ ?_ ?_ ?_ ?_ ?_⟩
            all_goals first | assumption | assumption)
        replace gb := Below.refl W1.heap.size W1
        go_wp2_with fail
        refine (vm_number op to xa xb ng _ _ ln ld _ (i1.to gb) true Hnum.out).mono ?_
        clear x0_0 y0_0 x0_1 y0_1 x0_2 y0_2 x0_3 y0_3 x0_4 y0_4 x1_0 y1_0 x1_1 y1_1 x1_2 y1_2 x1_3 y1_3 x1_4 y1_4 x1_5 y1_5 x1_6 y1_6 x5_0 y5_0 x5_1 y5_1 x5_2 y5_2
        rintro e w2 ⟨rfl, hb2⟩
        replace gb := below_step gb hb2
        obtain ⟨⟨z0, x0_0, x0_1, x0_2, x0_3, x0_4, y0_0, y0_1, y0_2, y0_3, y0_4⟩, ⟨z1, x1_0, x1_1, x1_2, x1_3, x1_4, x1_5, x1_6, y1_0, y1_1, y1_2, y1_3, y1_4, y1_5, y1_6⟩, ⟨z5, x5_0, x5_1, x5_2, y5_0, y5_1, y5_2⟩⟩ := HXW1.out _ gb
        go_wp2_with fail
        refine (vm_register sa xa g n L _ (i2.to gb) HL.out hn _ Hra.out).mono ?_
        rintro e w3 ⟨rfl, rfl⟩
        go_wp2_with fail
        refine (vm_register sb xb g n L _ (i2.to gb) HL.out hn _ Hrb.out).mono ?_
        rintro e w4 ⟨rfl, rfl⟩
        go_wp2_with fail
        go_ret
        exact ⟨rfl, below_step zb gb⟩
      case true =>
        cases q1
        case false =>
          subst ho'
          go_enter Tryz.func33, Tryz.ntmps33
          go_wp2_with fail
          obtain ⟨W0, hW0⟩ : ∃ W0, (w.alloc (.cells #[.int .i64 c.ins, .int .i64 c.rows, .int .i64 c.cols, .int .i64 c.regs, .slice a0 n0 c0] 24)).alloc (.cells #[.int .i64 op, .int .i64 to, .int .i64 xa, .int .i64 xb, .bool ng, .slice a1 n1 c1, .slice a2 n2 c2] 49) = W0 := ⟨_, rfl⟩
          have HXW0 := Lib.hid (show ∀ W', Below W0.heap.size W0 W' → (Bx5 W' w.heap.size (.int .i64 c.ins) (.int .i64 c.rows) (.int .i64 c.cols) (.int .i64 c.regs) (.slice a0 n0 c0) ∧ Bx7 W' (w.heap.size + 1) (.int .i64 op) (.int .i64 to) (.int .i64 xa) (.int .i64 xb) (.bool ng) (.slice a1 n1 c1) (.slice a2 n2 c2)) from fun W' hb => by
              refine ⟨bx5 hb ?_ ?_ ?_ ?_ ?_ ?_ ?_ ?_ ?_ ?_, bx7 hb ?_ ?_ ?_ ?_ ?_ ?_ ?_ ?_ ?_ ?_ ?_ ?_ ?_ ?_⟩
              all_goals first | assumption | (rw [← hW0]; simp [go_sem]))
          have zb : Below w.heap.size w W0 := by rw [← hW0]; exact below_step (below_new _ _) (below_new _ _)
          rw [hW0]
          clear hW0
          have i0 := hc.to zb
          have i1 := hx.to zb
          have i2 := hrow.to zb
          have gb : Below W0.heap.size W0 W0 := Below.refl _ _
          obtain ⟨⟨z0, x0_0, x0_1, x0_2, x0_3, x0_4, y0_0, y0_1, y0_2, y0_3, y0_4⟩, ⟨z1, x1_0, x1_1, x1_2, x1_3, x1_4, x1_5, x1_6, y1_0, y1_1, y1_2, y1_3, y1_4, y1_5, y1_6⟩⟩ := HXW0.out _ gb
          go_wp2_with fail
          refine (vm_shape_l op sa sb true true _ Hsa.out Hsb.out Hsp.out Hok.out).mono ?_
          clear x0_0 y0_0 x0_1 y0_1 x0_2 y0_2 x0_3 y0_3 x0_4 y0_4 x1_0 y1_0 x1_1 y1_1 x1_2 y1_2 x1_3 y1_3 x1_4 y1_4 x1_5 y1_5 x1_6 y1_6
          rintro e w1 ⟨rfl, hb1⟩
          replace gb := below_step gb hb1
          obtain ⟨⟨z0, x0_0, x0_1, x0_2, x0_3, x0_4, y0_0, y0_1, y0_2, y0_3, y0_4⟩, ⟨z1, x1_0, x1_1, x1_2, x1_3, x1_4, x1_5, x1_6, y1_0, y1_1, y1_2, y1_3, y1_4, y1_5, y1_6⟩⟩ := HXW0.out _ gb
          go_wp2_with fail
          obtain ⟨W1, hW1⟩ : ∃ W1, w1.alloc (.cells #[.bool sa, .bool sb, .bool true] 70) = W1 := ⟨_, rfl⟩
          have hb_W1 : Below w1.heap.size w1 W1 := by rw [← hW1]; exact below_new _ _
          have hs_W1 : Hid (W1.heap.size = w1.heap.size + 1) := by show _ = _; rw [← hW1]; simp
          clear x0_0 y0_0 x0_1 y0_1 x0_2 y0_2 x0_3 y0_3 x0_4 y0_4 x1_0 y1_0 x1_1 y1_1 x1_2 y1_2 x1_3 y1_3 x1_4 y1_4 x1_5 y1_5 x1_6 y1_6
          replace gb := below_step gb hb_W1
          obtain ⟨⟨z0, x0_0, x0_1, x0_2, x0_3, x0_4, y0_0, y0_1, y0_2, y0_3, y0_4⟩, ⟨z1, x1_0, x1_1, x1_2, x1_3, x1_4, x1_5, x1_6, y1_0, y1_1, y1_2, y1_3, y1_4, y1_5, y1_6⟩⟩ := HXW0.out _ gb
          have x5_0 : W1.cell? ⟨w1.heap.size, 0, none⟩ = some (.bool sa) := by rw [← hW1]; simp [go_sem]
          have y5_0 : W1.frozen? ⟨w1.heap.size, 0, none⟩ = false := by rw [← hW1]; simp [go_sem]
          have x5_1 : W1.cell? ⟨w1.heap.size, 1, none⟩ = some (.bool sb) := by rw [← hW1]; simp [go_sem]
          have y5_1 : W1.frozen? ⟨w1.heap.size, 1, none⟩ = false := by rw [← hW1]; simp [go_sem]
          have x5_2 : W1.cell? ⟨w1.heap.size, 2, none⟩ = some (.bool true) := by rw [← hW1]; simp [go_sem]
          have y5_2 : W1.frozen? ⟨w1.heap.size, 2, none⟩ = false := by rw [← hW1]; simp [go_sem]
          have z5 : w1.heap.size < W1.heap.size := by rw [← hW1]; simp
          rw [hW1]
          clear hW1
          replace i0 := i0.to gb
          replace i1 := i1.to gb
          replace i2 := i2.to gb
          replace zb := below_step zb gb
          have HXW1 := Lib.hid (show ∀ W', Below W1.heap.size W1 W' → (Bx5 W' w.heap.size (.int .i64 c.ins) (.int .i64 c.rows) (.int .i64 c.cols) (.int .i64 c.regs) (.slice a0 n0 c0) ∧ Bx7 W' (w.heap.size + 1) (.int .i64 op) (.int .i64 to) (.int .i64 xa) (.int .i64 xb) (.bool ng) (.slice a1 n1 c1) (.slice a2 n2 c2) ∧ Bx3 W' w1.heap.size (.bool sa) (.bool sb) (.bool true)) from fun W' hb => by
              refine ⟨bx5 hb ?_ ?_ ?_ ?_ ?_ ?_ ?_ ?_ ?_ ?_, bx7 hb ?_ ?_ ?_ ?_ ?_ ?_ ?_ ?_ ?_ ?_ ?_ ?_ ?_ ?_, bx3 hb ?_ ?_ ?_ ?_ ?_ ?_⟩
              all_goals first | assumption | assumption)
          replace gb := Below.refl W1.heap.size W1
          go_wp2_with fail
          refine (vm_number op to xa xb ng _ _ ln ld _ (i1.to gb) true Hnum.out).mono ?_
          clear x0_0 y0_0 x0_1 y0_1 x0_2 y0_2 x0_3 y0_3 x0_4 y0_4 x1_0 y1_0 x1_1 y1_1 x1_2 y1_2 x1_3 y1_3 x1_4 y1_4 x1_5 y1_5 x1_6 y1_6 x5_0 y5_0 x5_1 y5_1 x5_2 y5_2
          rintro e w2 ⟨rfl, hb2⟩
          replace gb := below_step gb hb2
          obtain ⟨⟨z0, x0_0, x0_1, x0_2, x0_3, x0_4, y0_0, y0_1, y0_2, y0_3, y0_4⟩, ⟨z1, x1_0, x1_1, x1_2, x1_3, x1_4, x1_5, x1_6, y1_0, y1_1, y1_2, y1_3, y1_4, y1_5, y1_6⟩, ⟨z5, x5_0, x5_1, x5_2, y5_0, y5_1, y5_2⟩⟩ := HXW1.out _ gb
          go_wp2_with fail
          refine (vm_register sa xa g n L _ (i2.to gb) HL.out hn _ Hra.out).mono ?_
          rintro e w3 ⟨rfl, rfl⟩
          go_wp2_with fail
          refine (vm_register sb xb g n L _ (i2.to gb) HL.out hn _ Hrb.out).mono ?_
          rintro e w4 ⟨rfl, rfl⟩
          go_wp2_with fail
          go_ret
          exact ⟨rfl, below_step zb gb⟩
        case true =>
          subst ho'
          go_enter Tryz.func33, Tryz.ntmps33
          go_wp2_with fail
          obtain ⟨W0, hW0⟩ : ∃ W0, (w.alloc (.cells #[.int .i64 c.ins, .int .i64 c.rows, .int .i64 c.cols, .int .i64 c.regs, .slice a0 n0 c0] 24)).alloc (.cells #[.int .i64 op, .int .i64 to, .int .i64 xa, .int .i64 xb, .bool ng, .slice a1 n1 c1, .slice a2 n2 c2] 49) = W0 := ⟨_, rfl⟩
          have HXW0 := Lib.hid (show ∀ W', Below W0.heap.size W0 W' → (Bx5 W' w.heap.size (.int .i64 c.ins) (.int .i64 c.rows) (.int .i64 c.cols) (.int .i64 c.regs) (.slice a0 n0 c0) ∧ Bx7 W' (w.heap.size + 1) (.int .i64 op) (.int .i64 to) (.int .i64 xa) (.int .i64 xb) (.bool ng) (.slice a1 n1 c1) (.slice a2 n2 c2)) from fun W' hb => by
              refine ⟨bx5 hb ?_ ?_ ?_ ?_ ?_ ?_ ?_ ?_ ?_ ?_, bx7 hb ?_ ?_ ?_ ?_ ?_ ?_ ?_ ?_ ?_ ?_ ?_ ?_ ?_ ?_⟩
              all_goals first | assumption | (rw [← hW0]; simp [go_sem]))
          have zb : Below w.heap.size w W0 := by rw [← hW0]; exact below_step (below_new _ _) (below_new _ _)
          rw [hW0]
          clear hW0
          have i0 := hc.to zb
          have i1 := hx.to zb
          have i2 := hrow.to zb
          have gb : Below W0.heap.size W0 W0 := Below.refl _ _
          obtain ⟨⟨z0, x0_0, x0_1, x0_2, x0_3, x0_4, y0_0, y0_1, y0_2, y0_3, y0_4⟩, ⟨z1, x1_0, x1_1, x1_2, x1_3, x1_4, x1_5, x1_6, y1_0, y1_1, y1_2, y1_3, y1_4, y1_5, y1_6⟩⟩ := HXW0.out _ gb
          go_wp2_with fail
          refine (vm_shape_l op sa sb true true _ Hsa.out Hsb.out Hsp.out Hok.out).mono ?_
          clear x0_0 y0_0 x0_1 y0_1 x0_2 y0_2 x0_3 y0_3 x0_4 y0_4 x1_0 y1_0 x1_1 y1_1 x1_2 y1_2 x1_3 y1_3 x1_4 y1_4 x1_5 y1_5 x1_6 y1_6
          rintro e w1 ⟨rfl, hb1⟩
          replace gb := below_step gb hb1
          obtain ⟨⟨z0, x0_0, x0_1, x0_2, x0_3, x0_4, y0_0, y0_1, y0_2, y0_3, y0_4⟩, ⟨z1, x1_0, x1_1, x1_2, x1_3, x1_4, x1_5, x1_6, y1_0, y1_1, y1_2, y1_3, y1_4, y1_5, y1_6⟩⟩ := HXW0.out _ gb
          go_wp2_with fail
          obtain ⟨W1, hW1⟩ : ∃ W1, w1.alloc (.cells #[.bool sa, .bool sb, .bool true] 70) = W1 := ⟨_, rfl⟩
          have hb_W1 : Below w1.heap.size w1 W1 := by rw [← hW1]; exact below_new _ _
          have hs_W1 : Hid (W1.heap.size = w1.heap.size + 1) := by show _ = _; rw [← hW1]; simp
          clear x0_0 y0_0 x0_1 y0_1 x0_2 y0_2 x0_3 y0_3 x0_4 y0_4 x1_0 y1_0 x1_1 y1_1 x1_2 y1_2 x1_3 y1_3 x1_4 y1_4 x1_5 y1_5 x1_6 y1_6
          replace gb := below_step gb hb_W1
          obtain ⟨⟨z0, x0_0, x0_1, x0_2, x0_3, x0_4, y0_0, y0_1, y0_2, y0_3, y0_4⟩, ⟨z1, x1_0, x1_1, x1_2, x1_3, x1_4, x1_5, x1_6, y1_0, y1_1, y1_2, y1_3, y1_4, y1_5, y1_6⟩⟩ := HXW0.out _ gb
          have x5_0 : W1.cell? ⟨w1.heap.size, 0, none⟩ = some (.bool sa) := by rw [← hW1]; simp [go_sem]
          have y5_0 : W1.frozen? ⟨w1.heap.size, 0, none⟩ = false := by rw [← hW1]; simp [go_sem]
          have x5_1 : W1.cell? ⟨w1.heap.size, 1, none⟩ = some (.bool sb) := by rw [← hW1]; simp [go_sem]
          have y5_1 : W1.frozen? ⟨w1.heap.size, 1, none⟩ = false := by rw [← hW1]; simp [go_sem]
          have x5_2 : W1.cell? ⟨w1.heap.size, 2, none⟩ = some (.bool true) := by rw [← hW1]; simp [go_sem]
          have y5_2 : W1.frozen? ⟨w1.heap.size, 2, none⟩ = false := by rw [← hW1]; simp [go_sem]
          have z5 : w1.heap.size < W1.heap.size := by rw [← hW1]; simp
          rw [hW1]
          clear hW1
          replace i0 := i0.to gb
          replace i1 := i1.to gb
          replace i2 := i2.to gb
          replace zb := below_step zb gb
          have HXW1 := Lib.hid (show ∀ W', Below W1.heap.size W1 W' → (Bx5 W' w.heap.size (.int .i64 c.ins) (.int .i64 c.rows) (.int .i64 c.cols) (.int .i64 c.regs) (.slice a0 n0 c0) ∧ Bx7 W' (w.heap.size + 1) (.int .i64 op) (.int .i64 to) (.int .i64 xa) (.int .i64 xb) (.bool ng) (.slice a1 n1 c1) (.slice a2 n2 c2) ∧ Bx3 W' w1.heap.size (.bool sa) (.bool sb) (.bool true)) from fun W' hb => by
              refine ⟨bx5 hb ?_ ?_ ?_ ?_ ?_ ?_ ?_ ?_ ?_ ?_, bx7 hb ?_ ?_ ?_ ?_ ?_ ?_ ?_ ?_ ?_ ?_ ?_ ?_ ?_ ?_, bx3 hb ?_ ?_ ?_ ?_ ?_ ?_⟩
              all_goals first | assumption | assumption)
          replace gb := Below.refl W1.heap.size W1
          go_wp2_with fail
          refine (vm_number op to xa xb ng _ _ ln ld _ (i1.to gb) true Hnum.out).mono ?_
          clear x0_0 y0_0 x0_1 y0_1 x0_2 y0_2 x0_3 y0_3 x0_4 y0_4 x1_0 y1_0 x1_1 y1_1 x1_2 y1_2 x1_3 y1_3 x1_4 y1_4 x1_5 y1_5 x1_6 y1_6 x5_0 y5_0 x5_1 y5_1 x5_2 y5_2
          rintro e w2 ⟨rfl, hb2⟩
          replace gb := below_step gb hb2
          obtain ⟨⟨z0, x0_0, x0_1, x0_2, x0_3, x0_4, y0_0, y0_1, y0_2, y0_3, y0_4⟩, ⟨z1, x1_0, x1_1, x1_2, x1_3, x1_4, x1_5, x1_6, y1_0, y1_1, y1_2, y1_3, y1_4, y1_5, y1_6⟩, ⟨z5, x5_0, x5_1, x5_2, y5_0, y5_1, y5_2⟩⟩ := HXW1.out _ gb
          go_wp2_with fail
          refine (vm_register sa xa g n L _ (i2.to gb) HL.out hn _ Hra.out).mono ?_
          rintro e w3 ⟨rfl, rfl⟩
          go_wp2_with fail
          refine (vm_register sb xb g n L _ (i2.to gb) HL.out hn _ Hrb.out).mono ?_
          rintro e w4 ⟨rfl, rfl⟩
          go_wp2_with fail
          go_ret
          exact ⟨rfl, below_step zb gb⟩

set_option maxRecDepth 100000 in
set_option maxHeartbeats 60000000 in
theorem vm_instr_else (c : Cd) (v : Value) (op to xa xb : Int) (ng : Bool) (vn vd : Value) (ln ld : List Nat) (g n : Nat) (L : List Int) (w : World) (hc : IsC w c v) (hx : IsX w ⟨op, to, xa, xb, ⟨ng, ln, ld⟩⟩ vn vd) (hrow : RowF w g n (fun i => .bool (decide ((i : Int) ∈ L)))) (hL : ∀ x ∈ L, 0 ≤ x ∧ x < (n : Int)) (hn : n ≤ 100000) (hnr : (n : Int) = c.regs) (hr : 1 ≤ c.rows ∧ c.rows ≤ 40) (hcl : 1 ≤ c.cols ∧ c.cols ≤ 40) (h0 : 0 ≤ opRegs op) (hnum : numOk ⟨op, to, xa, xb, ⟨ng, ln, ld⟩⟩ = true) (h1 : op ≠ 10) (h2 : op ≠ 0) (h3 : op ≠ 7) (o : Bool) (ho : insOk c L ⟨op, to, xa, xb, ⟨ng, ln, ld⟩⟩ = o) :
    Calls Tryz.prog 33 #[aggC c v, .agg #[.int .i64 op, .int .i64 to, .int .i64 xa, .int .i64 xb, .bool ng, vn, vd], .slice (some ⟨g, 0, none⟩) n n] w (fun e w' => e = .returned (.bool o) ∧ Below w.heap.size w w') := by
  rw [insOk_eq (x := ⟨op, to, xa, xb, ⟨ng, ln, ld⟩⟩) h0 hnum, aOk_reg (x := ⟨op, to, xa, xb, ⟨ng, ln, ld⟩⟩) h0 (by show op ≠ 0; first | assumption | omega), bOk_reg (x := ⟨op, to, xa, xb, ⟨ng, ln, ld⟩⟩) (by show op ≠ 7; first | assumption | omega)] at ho
  obtain ⟨sa, hsa⟩ : ∃ b, decide (1 ≤ opRegs op) = b := ⟨_, rfl⟩
  obtain ⟨sb, hsb⟩ : ∃ b, decide (opRegs op = 2) = b := ⟨_, rfl⟩
  have hsp : decide (op = 7) = false := by simp; omega
  obtain ⟨ra, hra⟩ : ∃ b, (if sa = true then decide (xa ∈ L) else decide (xa = 0)) = b := ⟨_, rfl⟩
  obtain ⟨rb, hrb⟩ : ∃ b, (if sb = true then decide (xb ∈ L) else decide (xb = 0)) = b := ⟨_, rfl⟩
  obtain ⟨p1, tp1⟩ : ∃ b, decide (0 ≤ xa) = b := ⟨_, rfl⟩
  obtain ⟨p2, tp2⟩ : ∃ b, decide (xa < c.ins) = b := ⟨_, rfl⟩
  obtain ⟨r1, tr1⟩ : ∃ b, decide (-21 ≤ xb) = b := ⟨_, rfl⟩
  obtain ⟨r2, tr2⟩ : ∃ b, decide (xb ≤ 21) = b := ⟨_, rfl⟩
  obtain ⟨q1, tq1⟩ : ∃ b, decide (0 ≤ to) = b := ⟨_, rfl⟩
  obtain ⟨q2, tq2⟩ : ∃ b, decide (to < c.regs) = b := ⟨_, rfl⟩
  have t10 : (op == 10) = false := by simp; omega
  have t0 : (op == 0) = false := by simp; omega
  have pb := prod_bounds hr hcl
  have HM : IntKind.i64.wrap (c.rows * c.cols) = c.rows * c.cols := IntWalk.i64_in _ (by omega)
  have ho' : (ra && rb && q1 && q2) = o := by
    have e : mostTo c ⟨op, to, xa, xb, ⟨ng, ln, ld⟩⟩ = c.regs := by unfold mostTo; rw [if_neg (by show op ≠ 10; first | assumption | omega)]
    rw [e] at ho
    subst ho hra hrb hsa hsb tp1 tp2 tr1 tr2 tq1 tq2
    rfl
  have Hsa := Lib.hid hsa
  have Hsb := Lib.hid hsb
  have Hsp := Lib.hid hsp
  have Hok := Lib.hid (decide_eq_true h0)
  have Hnum := Lib.hid hnum
  have Hra := Lib.hid hra
  have Hrb := Lib.hid hrb
  have HL := Lib.hid hL
  clear ho hsa hsb hsp hra hrb h0 hnum hnr hr hcl hL pb h1 h2 h3
  obtain ⟨a0, n0, c0, rfl, H0, hm0⟩ := hc.1.open
  obtain ⟨a1, n1, c1, rfl, H1, hm1⟩ := hx.1.1.open
  obtain ⟨a2, n2, c2, rfl, H2, hm2⟩ := hx.1.2.1.open
  cases ra
  case false =>
    subst ho'
    go_enter Tryz.func33, Tryz.ntmps33
    go_wp2_with fail
    obtain ⟨W0, hW0⟩ : ∃ W0, (w.alloc (.cells #[.int .i64 c.ins, .int .i64 c.rows, .int .i64 c.cols, .int .i64 c.regs, .slice a0 n0 c0] 24)).alloc (.cells #[.int .i64 op, .int .i64 to, .int .i64 xa, .int .i64 xb, .bool ng, .slice a1 n1 c1, .slice a2 n2 c2] 49) = W0 := ⟨_, rfl⟩
    have HXW0 := Lib.hid (show ∀ W', Below W0.heap.size W0 W' → (Bx5 W' w.heap.size (.int .i64 c.ins) (.int .i64 c.rows) (.int .i64 c.cols) (.int .i64 c.regs) (.slice a0 n0 c0) ∧ Bx7 W' (w.heap.size + 1) (.int .i64 op) (.int .i64 to) (.int .i64 xa) (.int .i64 xb) (.bool ng) (.slice a1 n1 c1) (.slice a2 n2 c2)) from fun W' hb => by
        refine ⟨bx5 hb ?_ ?_ ?_ ?_ ?_ ?_ ?_ ?_ ?_ ?_, bx7 hb ?_ ?_ ?_ ?_ ?_ ?_ ?_ ?_ ?_ ?_ ?_ ?_ ?_ ?_⟩
        all_goals first | assumption | (rw [← hW0]; simp [go_sem]))
    have zb : Below w.heap.size w W0 := by rw [← hW0]; exact below_step (below_new _ _) (below_new _ _)
    rw [hW0]
    clear hW0
    have i0 := hc.to zb
    have i1 := hx.to zb
    have i2 := hrow.to zb
    have gb : Below W0.heap.size W0 W0 := Below.refl _ _
    obtain ⟨⟨z0, x0_0, x0_1, x0_2, x0_3, x0_4, y0_0, y0_1, y0_2, y0_3, y0_4⟩, ⟨z1, x1_0, x1_1, x1_2, x1_3, x1_4, x1_5, x1_6, y1_0, y1_1, y1_2, y1_3, y1_4, y1_5, y1_6⟩⟩ := HXW0.out _ gb
    go_wp2_with fail
    refine (vm_shape_l op sa sb false true _ Hsa.out Hsb.out Hsp.out Hok.out).mono ?_
    clear x0_0 y0_0 x0_1 y0_1 x0_2 y0_2 x0_3 y0_3 x0_4 y0_4 x1_0 y1_0 x1_1 y1_1 x1_2 y1_2 x1_3 y1_3 x1_4 y1_4 x1_5 y1_5 x1_6 y1_6
    rintro e w1 ⟨rfl, hb1⟩
    replace gb := below_step gb hb1
    obtain ⟨⟨z0, x0_0, x0_1, x0_2, x0_3, x0_4, y0_0, y0_1, y0_2, y0_3, y0_4⟩, ⟨z1, x1_0, x1_1, x1_2, x1_3, x1_4, x1_5, x1_6, y1_0, y1_1, y1_2, y1_3, y1_4, y1_5, y1_6⟩⟩ := HXW0.out _ gb
    go_wp2_with fail
    obtain ⟨W1, hW1⟩ : ∃ W1, w1.alloc (.cells #[.bool sa, .bool sb, .bool false] 70) = W1 := ⟨_, rfl⟩
    have hb_W1 : Below w1.heap.size w1 W1 := by rw [← hW1]; exact below_new _ _
    have hs_W1 : Hid (W1.heap.size = w1.heap.size + 1) := by show _ = _; rw [← hW1]; simp
    clear x0_0 y0_0 x0_1 y0_1 x0_2 y0_2 x0_3 y0_3 x0_4 y0_4 x1_0 y1_0 x1_1 y1_1 x1_2 y1_2 x1_3 y1_3 x1_4 y1_4 x1_5 y1_5 x1_6 y1_6
    replace gb := below_step gb hb_W1
    obtain ⟨⟨z0, x0_0, x0_1, x0_2, x0_3, x0_4, y0_0, y0_1, y0_2, y0_3, y0_4⟩, ⟨z1, x1_0, x1_1, x1_2, x1_3, x1_4, x1_5, x1_6, y1_0, y1_1, y1_2, y1_3, y1_4, y1_5, y1_6⟩⟩ := HXW0.out _ gb
    have x5_0 : W1.cell? ⟨w1.heap.size, 0, none⟩ = some (.bool sa) := by rw [← hW1]; simp [go_sem]
    have y5_0 : W1.frozen? ⟨w1.heap.size, 0, none⟩ = false := by rw [← hW1]; simp [go_sem]
    have x5_1 : W1.cell? ⟨w1.heap.size, 1, none⟩ = some (.bool sb) := by rw [← hW1]; simp [go_sem]
    have y5_1 : W1.frozen? ⟨w1.heap.size, 1, none⟩ = false := by rw [← hW1]; simp [go_sem]
    have x5_2 : W1.cell? ⟨w1.heap.size, 2, none⟩ = some (.bool false) := by rw [← hW1]; simp [go_sem]
    have y5_2 : W1.frozen? ⟨w1.heap.size, 2, none⟩ = false := by rw [← hW1]; simp [go_sem]
    have z5 : w1.heap.size < W1.heap.size := by rw [← hW1]; simp
    rw [hW1]
    clear hW1
    replace i0 := i0.to gb
    replace i1 := i1.to gb
    replace i2 := i2.to gb
    replace zb := below_step zb gb
    have HXW1 := Lib.hid (show ∀ W', Below W1.heap.size W1 W' → (Bx5 W' w.heap.size (.int .i64 c.ins) (.int .i64 c.rows) (.int .i64 c.cols) (.int .i64 c.regs) (.slice a0 n0 c0) ∧ Bx7 W' (w.heap.size + 1) (.int .i64 op) (.int .i64 to) (.int .i64 xa) (.int .i64 xb) (.bool ng) (.slice a1 n1 c1) (.slice a2 n2 c2) ∧ Bx3 W' w1.heap.size (.bool sa) (.bool sb) (.bool false)) from fun W' hb => by
        refine ⟨bx5 hb ?_ ?_ ?_ ?_ ?_ ?_ ?_ ?_ ?_ ?_, bx7 hb ?_ ?_ ?_ ?_ ?_ ?_ ?_ ?_ ?_ ?_ ?_ ?_ ?_ ?_, bx3 hb ?_ ?_ ?_ ?_ ?_ ?_⟩
        all_goals first | assumption | assumption)
    replace gb := Below.refl W1.heap.size W1
    go_wp2_with fail
    refine (vm_number op to xa xb ng _ _ ln ld _ (i1.to gb) true Hnum.out).mono ?_
    clear x0_0 y0_0 x0_1 y0_1 x0_2 y0_2 x0_3 y0_3 x0_4 y0_4 x1_0 y1_0 x1_1 y1_1 x1_2 y1_2 x1_3 y1_3 x1_4 y1_4 x1_5 y1_5 x1_6 y1_6 x5_0 y5_0 x5_1 y5_1 x5_2 y5_2
    rintro e w2 ⟨rfl, hb2⟩
    replace gb := below_step gb hb2
    obtain ⟨⟨z0, x0_0, x0_1, x0_2, x0_3, x0_4, y0_0, y0_1, y0_2, y0_3, y0_4⟩, ⟨z1, x1_0, x1_1, x1_2, x1_3, x1_4, x1_5, x1_6, y1_0, y1_1, y1_2, y1_3, y1_4, y1_5, y1_6⟩, ⟨z5, x5_0, x5_1, x5_2, y5_0, y5_1, y5_2⟩⟩ := HXW1.out _ gb
    go_wp2_with fail
    refine (vm_register sa xa g n L _ (i2.to gb) HL.out hn _ Hra.out).mono ?_
    rintro e w3 ⟨rfl, rfl⟩
    go_wp2_with fail
    refine (vm_register sb xb g n L _ (i2.to gb) HL.out hn _ Hrb.out).mono ?_
    rintro e w4 ⟨rfl, rfl⟩
    go_wp2_with fail
    go_ret
    exact ⟨rfl, below_step zb gb⟩
  case true =>
    cases rb
    case false =>
      subst ho'
      go_enter Tryz.func33, Tryz.ntmps33
      go_wp2_with fail
      obtain ⟨W0, hW0⟩ : ∃ W0, (w.alloc (.cells #[.int .i64 c.ins, .int .i64 c.rows, .int .i64 c.cols, .int .i64 c.regs, .slice a0 n0 c0] 24)).alloc (.cells #[.int .i64 op, .int .i64 to, .int .i64 xa, .int .i64 xb, .bool ng, .slice a1 n1 c1, .slice a2 n2 c2] 49) = W0 := ⟨_, rfl⟩
      have HXW0 := Lib.hid (show ∀ W', Below W0.heap.size W0 W' → (Bx5 W' w.heap.size (.int .i64 c.ins) (.int .i64 c.rows) (.int .i64 c.cols) (.int .i64 c.regs) (.slice a0 n0 c0) ∧ Bx7 W' (w.heap.size + 1) (.int .i64 op) (.int .i64 to) (.int .i64 xa) (.int .i64 xb) (.bool ng) (.slice a1 n1 c1) (.slice a2 n2 c2)) from fun W' hb => by
          refine ⟨bx5 hb ?_ ?_ ?_ ?_ ?_ ?_ ?_ ?_ ?_ ?_, bx7 hb ?_ ?_ ?_ ?_ ?_ ?_ ?_ ?_ ?_ ?_ ?_ ?_ ?_ ?_⟩
          all_goals first | assumption | (rw [← hW0]; simp [go_sem]))
      have zb : Below w.heap.size w W0 := by rw [← hW0]; exact below_step (below_new _ _) (below_new _ _)
      rw [hW0]
      clear hW0
      have i0 := hc.to zb
      have i1 := hx.to zb
      have i2 := hrow.to zb
      have gb : Below W0.heap.size W0 W0 := Below.refl _ _
      obtain ⟨⟨z0, x0_0, x0_1, x0_2, x0_3, x0_4, y0_0, y0_1, y0_2, y0_3, y0_4⟩, ⟨z1, x1_0, x1_1, x1_2, x1_3, x1_4, x1_5, x1_6, y1_0, y1_1, y1_2, y1_3, y1_4, y1_5, y1_6⟩⟩ := HXW0.out _ gb
      go_wp2_with fail
      refine (vm_shape_l op sa sb false true _ Hsa.out Hsb.out Hsp.out Hok.out).mono ?_
      clear x0_0 y0_0 x0_1 y0_1 x0_2 y0_2 x0_3 y0_3 x0_4 y0_4 x1_0 y1_0 x1_1 y1_1 x1_2 y1_2 x1_3 y1_3 x1_4 y1_4 x1_5 y1_5 x1_6 y1_6
      rintro e w1 ⟨rfl, hb1⟩
      replace gb := below_step gb hb1
      obtain ⟨⟨z0, x0_0, x0_1, x0_2, x0_3, x0_4, y0_0, y0_1, y0_2, y0_3, y0_4⟩, ⟨z1, x1_0, x1_1, x1_2, x1_3, x1_4, x1_5, x1_6, y1_0, y1_1, y1_2, y1_3, y1_4, y1_5, y1_6⟩⟩ := HXW0.out _ gb
      go_wp2_with fail
      obtain ⟨W1, hW1⟩ : ∃ W1, w1.alloc (.cells #[.bool sa, .bool sb, .bool false] 70) = W1 := ⟨_, rfl⟩
      have hb_W1 : Below w1.heap.size w1 W1 := by rw [← hW1]; exact below_new _ _
      have hs_W1 : Hid (W1.heap.size = w1.heap.size + 1) := by show _ = _; rw [← hW1]; simp
      clear x0_0 y0_0 x0_1 y0_1 x0_2 y0_2 x0_3 y0_3 x0_4 y0_4 x1_0 y1_0 x1_1 y1_1 x1_2 y1_2 x1_3 y1_3 x1_4 y1_4 x1_5 y1_5 x1_6 y1_6
      replace gb := below_step gb hb_W1
      obtain ⟨⟨z0, x0_0, x0_1, x0_2, x0_3, x0_4, y0_0, y0_1, y0_2, y0_3, y0_4⟩, ⟨z1, x1_0, x1_1, x1_2, x1_3, x1_4, x1_5, x1_6, y1_0, y1_1, y1_2, y1_3, y1_4, y1_5, y1_6⟩⟩ := HXW0.out _ gb
      have x5_0 : W1.cell? ⟨w1.heap.size, 0, none⟩ = some (.bool sa) := by rw [← hW1]; simp [go_sem]
      have y5_0 : W1.frozen? ⟨w1.heap.size, 0, none⟩ = false := by rw [← hW1]; simp [go_sem]
      have x5_1 : W1.cell? ⟨w1.heap.size, 1, none⟩ = some (.bool sb) := by rw [← hW1]; simp [go_sem]
      have y5_1 : W1.frozen? ⟨w1.heap.size, 1, none⟩ = false := by rw [← hW1]; simp [go_sem]
      have x5_2 : W1.cell? ⟨w1.heap.size, 2, none⟩ = some (.bool false) := by rw [← hW1]; simp [go_sem]
      have y5_2 : W1.frozen? ⟨w1.heap.size, 2, none⟩ = false := by rw [← hW1]; simp [go_sem]
      have z5 : w1.heap.size < W1.heap.size := by rw [← hW1]; simp
      rw [hW1]
      clear hW1
      replace i0 := i0.to gb
      replace i1 := i1.to gb
      replace i2 := i2.to gb
      replace zb := below_step zb gb
      have HXW1 := Lib.hid (show ∀ W', Below W1.heap.size W1 W' → (Bx5 W' w.heap.size (.int .i64 c.ins) (.int .i64 c.rows) (.int .i64 c.cols) (.int .i64 c.regs) (.slice a0 n0 c0) ∧ Bx7 W' (w.heap.size + 1) (.int .i64 op) (.int .i64 to) (.int .i64 xa) (.int .i64 xb) (.bool ng) (.slice a1 n1 c1) (.slice a2 n2 c2) ∧ Bx3 W' w1.heap.size (.bool sa) (.bool sb) (.bool false)) from fun W' hb => by
          refine ⟨bx5 hb ?_ ?_ ?_ ?_ ?_ ?_ ?_ ?_ ?_ ?_, bx7 hb ?_ ?_ ?_ ?_ ?_ ?_ ?_ ?_ ?_ ?_ ?_ ?_ ?_ ?_, bx3 hb ?_ ?_ ?_ ?_ ?_ ?_⟩
          all_goals first | assumption | assumption)
      replace gb := Below.refl W1.heap.size W1
      go_wp2_with fail
      refine (vm_number op to xa xb ng _ _ ln ld _ (i1.to gb) true Hnum.out).mono ?_
      clear x0_0 y0_0 x0_1 y0_1 x0_2 y0_2 x0_3 y0_3 x0_4 y0_4 x1_0 y1_0 x1_1 y1_1 x1_2 y1_2 x1_3 y1_3 x1_4 y1_4 x1_5 y1_5 x1_6 y1_6 x5_0 y5_0 x5_1 y5_1 x5_2 y5_2
      rintro e w2 ⟨rfl, hb2⟩
      replace gb := below_step gb hb2
      obtain ⟨⟨z0, x0_0, x0_1, x0_2, x0_3, x0_4, y0_0, y0_1, y0_2, y0_3, y0_4⟩, ⟨z1, x1_0, x1_1, x1_2, x1_3, x1_4, x1_5, x1_6, y1_0, y1_1, y1_2, y1_3, y1_4, y1_5, y1_6⟩, ⟨z5, x5_0, x5_1, x5_2, y5_0, y5_1, y5_2⟩⟩ := HXW1.out _ gb
      go_wp2_with fail
      refine (vm_register sa xa g n L _ (i2.to gb) HL.out hn _ Hra.out).mono ?_
      rintro e w3 ⟨rfl, rfl⟩
      go_wp2_with fail
      refine (vm_register sb xb g n L _ (i2.to gb) HL.out hn _ Hrb.out).mono ?_
      rintro e w4 ⟨rfl, rfl⟩
      go_wp2_with fail
      go_ret
      exact ⟨rfl, below_step zb gb⟩
    case true =>
      cases q1
      case false =>
        subst ho'
        go_enter Tryz.func33, Tryz.ntmps33
        go_wp2_with fail
        obtain ⟨W0, hW0⟩ : ∃ W0, (w.alloc (.cells #[.int .i64 c.ins, .int .i64 c.rows, .int .i64 c.cols, .int .i64 c.regs, .slice a0 n0 c0] 24)).alloc (.cells #[.int .i64 op, .int .i64 to, .int .i64 xa, .int .i64 xb, .bool ng, .slice a1 n1 c1, .slice a2 n2 c2] 49) = W0 := ⟨_, rfl⟩
        have HXW0 := Lib.hid (show ∀ W', Below W0.heap.size W0 W' → (Bx5 W' w.heap.size (.int .i64 c.ins) (.int .i64 c.rows) (.int .i64 c.cols) (.int .i64 c.regs) (.slice a0 n0 c0) ∧ Bx7 W' (w.heap.size + 1) (.int .i64 op) (.int .i64 to) (.int .i64 xa) (.int .i64 xb) (.bool ng) (.slice a1 n1 c1) (.slice a2 n2 c2)) from fun W' hb => by
            refine ⟨bx5 hb ?_ ?_ ?_ ?_ ?_ ?_ ?_ ?_ ?_ ?_, bx7 hb ?_ ?_ ?_ ?_ ?_ ?_ ?_ ?_ ?_ ?_ ?_ ?_ ?_ ?_⟩
            all_goals first | assumption | (rw [← hW0]; simp [go_sem]))
        have zb : Below w.heap.size w W0 := by rw [← hW0]; exact below_step (below_new _ _) (below_new _ _)
        rw [hW0]
        clear hW0
        have i0 := hc.to zb
        have i1 := hx.to zb
        have i2 := hrow.to zb
        have gb : Below W0.heap.size W0 W0 := Below.refl _ _
        obtain ⟨⟨z0, x0_0, x0_1, x0_2, x0_3, x0_4, y0_0, y0_1, y0_2, y0_3, y0_4⟩, ⟨z1, x1_0, x1_1, x1_2, x1_3, x1_4, x1_5, x1_6, y1_0, y1_1, y1_2, y1_3, y1_4, y1_5, y1_6⟩⟩ := HXW0.out _ gb
        go_wp2_with fail
        refine (vm_shape_l op sa sb false true _ Hsa.out Hsb.out Hsp.out Hok.out).mono ?_
        clear x0_0 y0_0 x0_1 y0_1 x0_2 y0_2 x0_3 y0_3 x0_4 y0_4 x1_0 y1_0 x1_1 y1_1 x1_2 y1_2 x1_3 y1_3 x1_4 y1_4 x1_5 y1_5 x1_6 y1_6
        rintro e w1 ⟨rfl, hb1⟩
        replace gb := below_step gb hb1
        obtain ⟨⟨z0, x0_0, x0_1, x0_2, x0_3, x0_4, y0_0, y0_1, y0_2, y0_3, y0_4⟩, ⟨z1, x1_0, x1_1, x1_2, x1_3, x1_4, x1_5, x1_6, y1_0, y1_1, y1_2, y1_3, y1_4, y1_5, y1_6⟩⟩ := HXW0.out _ gb
        go_wp2_with fail
        obtain ⟨W1, hW1⟩ : ∃ W1, w1.alloc (.cells #[.bool sa, .bool sb, .bool false] 70) = W1 := ⟨_, rfl⟩
        have hb_W1 : Below w1.heap.size w1 W1 := by rw [← hW1]; exact below_new _ _
        have hs_W1 : Hid (W1.heap.size = w1.heap.size + 1) := by show _ = _; rw [← hW1]; simp
        clear x0_0 y0_0 x0_1 y0_1 x0_2 y0_2 x0_3 y0_3 x0_4 y0_4 x1_0 y1_0 x1_1 y1_1 x1_2 y1_2 x1_3 y1_3 x1_4 y1_4 x1_5 y1_5 x1_6 y1_6
        replace gb := below_step gb hb_W1
        obtain ⟨⟨z0, x0_0, x0_1, x0_2, x0_3, x0_4, y0_0, y0_1, y0_2, y0_3, y0_4⟩, ⟨z1, x1_0, x1_1, x1_2, x1_3, x1_4, x1_5, x1_6, y1_0, y1_1, y1_2, y1_3, y1_4, y1_5, y1_6⟩⟩ := HXW0.out _ gb
        have x5_0 : W1.cell? ⟨w1.heap.size, 0, none⟩ = some (.bool sa) := by rw [← hW1]; simp [go_sem]
        have y5_0 : W1.frozen? ⟨w1.heap.size, 0, none⟩ = false := by rw [← hW1]; simp [go_sem]
        have x5_1 : W1.cell? ⟨w1.heap.size, 1, none⟩ = some (.bool sb) := by rw [← hW1]; simp [go_sem]
        have y5_1 : W1.frozen? ⟨w1.heap.size, 1, none⟩ = false := by rw [← hW1]; simp [go_sem]
        have x5_2 : W1.cell? ⟨w1.heap.size, 2, none⟩ = some (.bool false) := by rw [← hW1]; simp [go_sem]
        have y5_2 : W1.frozen? ⟨w1.heap.size, 2, none⟩ = false := by rw [← hW1]; simp [go_sem]
        have z5 : w1.heap.size < W1.heap.size := by rw [← hW1]; simp
        rw [hW1]
        clear hW1
        replace i0 := i0.to gb
        replace i1 := i1.to gb
        replace i2 := i2.to gb
        replace zb := below_step zb gb
        have HXW1 := Lib.hid (show ∀ W', Below W1.heap.size W1 W' → (Bx5 W' w.heap.size (.int .i64 c.ins) (.int .i64 c.rows) (.int .i64 c.cols) (.int .i64 c.regs) (.slice a0 n0 c0) ∧ Bx7 W' (w.heap.size + 1) (.int .i64 op) (.int .i64 to) (.int .i64 xa) (.int .i64 xb) (.bool ng) (.slice a1 n1 c1) (.slice a2 n2 c2) ∧ Bx3 W' w1.heap.size (.bool sa) (.bool sb) (.bool false)) from fun W' hb => by
            refine ⟨bx5 hb ?_ ?_ ?_ ?_ ?_ ?_ ?_ ?_ ?_ ?_, bx7 hb ?_ ?_ ?_ ?_ ?_ ?_ ?_ ?_ ?_ ?_ ?_ ?_ ?_ ?_, bx3 hb ?_ ?_ ?_ ?_ ?_ ?_⟩
            all_goals first | assumption | assumption)
        replace gb := Below.refl W1.heap.size W1
        go_wp2_with fail
        refine (vm_number op to xa xb ng _ _ ln ld _ (i1.to gb) true Hnum.out).mono ?_
        clear x0_0 y0_0 x0_1 y0_1 x0_2 y0_2 x0_3 y0_3 x0_4 y0_4 x1_0 y1_0 x1_1 y1_1 x1_2 y1_2 x1_3 y1_3 x1_4 y1_4 x1_5 y1_5 x1_6 y1_6 x5_0 y5_0 x5_1 y5_1 x5_2 y5_2
        rintro e w2 ⟨rfl, hb2⟩
        replace gb := below_step gb hb2
        obtain ⟨⟨z0, x0_0, x0_1, x0_2, x0_3, x0_4, y0_0, y0_1, y0_2, y0_3, y0_4⟩, ⟨z1, x1_0, x1_1, x1_2, x1_3, x1_4, x1_5, x1_6, y1_0, y1_1, y1_2, y1_3, y1_4, y1_5, y1_6⟩, ⟨z5, x5_0, x5_1, x5_2, y5_0, y5_1, y5_2⟩⟩ := HXW1.out _ gb
        go_wp2_with fail
        refine (vm_register sa xa g n L _ (i2.to gb) HL.out hn _ Hra.out).mono ?_
        rintro e w3 ⟨rfl, rfl⟩
        go_wp2_with fail
        refine (vm_register sb xb g n L _ (i2.to gb) HL.out hn _ Hrb.out).mono ?_
        rintro e w4 ⟨rfl, rfl⟩
        go_wp2_with fail
        go_ret
        exact ⟨rfl, below_step zb gb⟩
      case true =>
        subst ho'
        go_enter Tryz.func33, Tryz.ntmps33
        go_wp2_with fail
        obtain ⟨W0, hW0⟩ : ∃ W0, (w.alloc (.cells #[.int .i64 c.ins, .int .i64 c.rows, .int .i64 c.cols, .int .i64 c.regs, .slice a0 n0 c0] 24)).alloc (.cells #[.int .i64 op, .int .i64 to, .int .i64 xa, .int .i64 xb, .bool ng, .slice a1 n1 c1, .slice a2 n2 c2] 49) = W0 := ⟨_, rfl⟩
        have HXW0 := Lib.hid (show ∀ W', Below W0.heap.size W0 W' → (Bx5 W' w.heap.size (.int .i64 c.ins) (.int .i64 c.rows) (.int .i64 c.cols) (.int .i64 c.regs) (.slice a0 n0 c0) ∧ Bx7 W' (w.heap.size + 1) (.int .i64 op) (.int .i64 to) (.int .i64 xa) (.int .i64 xb) (.bool ng) (.slice a1 n1 c1) (.slice a2 n2 c2)) from fun W' hb => by
            refine ⟨bx5 hb ?_ ?_ ?_ ?_ ?_ ?_ ?_ ?_ ?_ ?_, bx7 hb ?_ ?_ ?_ ?_ ?_ ?_ ?_ ?_ ?_ ?_ ?_ ?_ ?_ ?_⟩
            all_goals first | assumption | (rw [← hW0]; simp [go_sem]))
        have zb : Below w.heap.size w W0 := by rw [← hW0]; exact below_step (below_new _ _) (below_new _ _)
        rw [hW0]
        clear hW0
        have i0 := hc.to zb
        have i1 := hx.to zb
        have i2 := hrow.to zb
        have gb : Below W0.heap.size W0 W0 := Below.refl _ _
        obtain ⟨⟨z0, x0_0, x0_1, x0_2, x0_3, x0_4, y0_0, y0_1, y0_2, y0_3, y0_4⟩, ⟨z1, x1_0, x1_1, x1_2, x1_3, x1_4, x1_5, x1_6, y1_0, y1_1, y1_2, y1_3, y1_4, y1_5, y1_6⟩⟩ := HXW0.out _ gb
        go_wp2_with fail
        refine (vm_shape_l op sa sb false true _ Hsa.out Hsb.out Hsp.out Hok.out).mono ?_
        clear x0_0 y0_0 x0_1 y0_1 x0_2 y0_2 x0_3 y0_3 x0_4 y0_4 x1_0 y1_0 x1_1 y1_1 x1_2 y1_2 x1_3 y1_3 x1_4 y1_4 x1_5 y1_5 x1_6 y1_6
        rintro e w1 ⟨rfl, hb1⟩
        replace gb := below_step gb hb1
        obtain ⟨⟨z0, x0_0, x0_1, x0_2, x0_3, x0_4, y0_0, y0_1, y0_2, y0_3, y0_4⟩, ⟨z1, x1_0, x1_1, x1_2, x1_3, x1_4, x1_5, x1_6, y1_0, y1_1, y1_2, y1_3, y1_4, y1_5, y1_6⟩⟩ := HXW0.out _ gb
        go_wp2_with fail
        obtain ⟨W1, hW1⟩ : ∃ W1, w1.alloc (.cells #[.bool sa, .bool sb, .bool false] 70) = W1 := ⟨_, rfl⟩
        have hb_W1 : Below w1.heap.size w1 W1 := by rw [← hW1]; exact below_new _ _
        have hs_W1 : Hid (W1.heap.size = w1.heap.size + 1) := by show _ = _; rw [← hW1]; simp
        clear x0_0 y0_0 x0_1 y0_1 x0_2 y0_2 x0_3 y0_3 x0_4 y0_4 x1_0 y1_0 x1_1 y1_1 x1_2 y1_2 x1_3 y1_3 x1_4 y1_4 x1_5 y1_5 x1_6 y1_6
        replace gb := below_step gb hb_W1
        obtain ⟨⟨z0, x0_0, x0_1, x0_2, x0_3, x0_4, y0_0, y0_1, y0_2, y0_3, y0_4⟩, ⟨z1, x1_0, x1_1, x1_2, x1_3, x1_4, x1_5, x1_6, y1_0, y1_1, y1_2, y1_3, y1_4, y1_5, y1_6⟩⟩ := HXW0.out _ gb
        have x5_0 : W1.cell? ⟨w1.heap.size, 0, none⟩ = some (.bool sa) := by rw [← hW1]; simp [go_sem]
        have y5_0 : W1.frozen? ⟨w1.heap.size, 0, none⟩ = false := by rw [← hW1]; simp [go_sem]
        have x5_1 : W1.cell? ⟨w1.heap.size, 1, none⟩ = some (.bool sb) := by rw [← hW1]; simp [go_sem]
        have y5_1 : W1.frozen? ⟨w1.heap.size, 1, none⟩ = false := by rw [← hW1]; simp [go_sem]
        have x5_2 : W1.cell? ⟨w1.heap.size, 2, none⟩ = some (.bool false) := by rw [← hW1]; simp [go_sem]
        have y5_2 : W1.frozen? ⟨w1.heap.size, 2, none⟩ = false := by rw [← hW1]; simp [go_sem]
        have z5 : w1.heap.size < W1.heap.size := by rw [← hW1]; simp
        rw [hW1]
        clear hW1
        replace i0 := i0.to gb
        replace i1 := i1.to gb
        replace i2 := i2.to gb
        replace zb := below_step zb gb
        have HXW1 := Lib.hid (show ∀ W', Below W1.heap.size W1 W' → (Bx5 W' w.heap.size (.int .i64 c.ins) (.int .i64 c.rows) (.int .i64 c.cols) (.int .i64 c.regs) (.slice a0 n0 c0) ∧ Bx7 W' (w.heap.size + 1) (.int .i64 op) (.int .i64 to) (.int .i64 xa) (.int .i64 xb) (.bool ng) (.slice a1 n1 c1) (.slice a2 n2 c2) ∧ Bx3 W' w1.heap.size (.bool sa) (.bool sb) (.bool false)) from fun W' hb => by
            refine ⟨bx5 hb ?_ ?_ ?_ ?_ ?_ ?_ ?_ ?_ ?_ ?_, bx7 hb ?_ ?_ ?_ ?_ ?_ ?_ ?_ ?_ ?_ ?_ ?_ ?_ ?_ ?_, bx3 hb ?_ ?_ ?_ ?_ ?_ ?_⟩
            all_goals first | assumption | assumption)
        replace gb := Below.refl W1.heap.size W1
        go_wp2_with fail
        refine (vm_number op to xa xb ng _ _ ln ld _ (i1.to gb) true Hnum.out).mono ?_
        clear x0_0 y0_0 x0_1 y0_1 x0_2 y0_2 x0_3 y0_3 x0_4 y0_4 x1_0 y1_0 x1_1 y1_1 x1_2 y1_2 x1_3 y1_3 x1_4 y1_4 x1_5 y1_5 x1_6 y1_6 x5_0 y5_0 x5_1 y5_1 x5_2 y5_2
        rintro e w2 ⟨rfl, hb2⟩
        replace gb := below_step gb hb2
        obtain ⟨⟨z0, x0_0, x0_1, x0_2, x0_3, x0_4, y0_0, y0_1, y0_2, y0_3, y0_4⟩, ⟨z1, x1_0, x1_1, x1_2, x1_3, x1_4, x1_5, x1_6, y1_0, y1_1, y1_2, y1_3, y1_4, y1_5, y1_6⟩, ⟨z5, x5_0, x5_1, x5_2, y5_0, y5_1, y5_2⟩⟩ := HXW1.out _ gb
        go_wp2_with fail
        refine (vm_register sa xa g n L _ (i2.to gb) HL.out hn _ Hra.out).mono ?_
        rintro e w3 ⟨rfl, rfl⟩
        go_wp2_with fail
        refine (vm_register sb xb g n L _ (i2.to gb) HL.out hn _ Hrb.out).mono ?_
        rintro e w4 ⟨rfl, rfl⟩
        go_wp2_with fail
        go_ret
        exact ⟨rfl, below_step zb gb⟩

theorem vm_instr (c : Cd) (v : Value) (op to xa xb : Int) (ng : Bool) (vn vd : Value) (ln ld : List Nat) (g n : Nat) (L : List Int) (w : World) (hc : IsC w c v) (hx : IsX w ⟨op, to, xa, xb, ⟨ng, ln, ld⟩⟩ vn vd) (hrow : RowF w g n (fun i => .bool (decide ((i : Int) ∈ L)))) (hL : ∀ x ∈ L, 0 ≤ x ∧ x < (n : Int)) (hn : n ≤ 100000) (hnr : (n : Int) = c.regs) (hr : 1 ≤ c.rows ∧ c.rows ≤ 40) (hcl : 1 ≤ c.cols ∧ c.cols ≤ 40) (o : Bool) (ho : insOk c L ⟨op, to, xa, xb, ⟨ng, ln, ld⟩⟩ = o) :
    Calls Tryz.prog 33 #[aggC c v, .agg #[.int .i64 op, .int .i64 to, .int .i64 xa, .int .i64 xb, .bool ng, vn, vd], .slice (some ⟨g, 0, none⟩) n n] w (fun e w' => e = .returned (.bool o) ∧ Below w.heap.size w w') := by
  by_cases h0 : 0 ≤ opRegs op
  · cases hnum : numOk ⟨op, to, xa, xb, ⟨ng, ln, ld⟩⟩ with
    | false => exact vm_instr_num c v op to xa xb ng vn vd ln ld g n L w hc hx hrow hL hn hnr hr hcl h0 hnum o ho
    | true =>
      by_cases h1 : op = 10
      · exact vm_instr_ten c v op to xa xb ng vn vd ln ld g n L w hc hx hrow hL hn hnr hr hcl h0 hnum h1 o ho
      · by_cases h2 : op = 0
        · exact vm_instr_zero c v op to xa xb ng vn vd ln ld g n L w hc hx hrow hL hn hnr hr hcl h0 hnum h2 o ho
        · by_cases h3 : op = 7
          · exact vm_instr_pow c v op to xa xb ng vn vd ln ld g n L w hc hx hrow hL hn hnr hr hcl h0 hnum h3 o ho
          · exact vm_instr_else c v op to xa xb ng vn vd ln ld g n L w hc hx hrow hL hn hnr hr hcl h0 hnum h1 h2 h3 o ho
  · exact vm_instr_no c v op to xa xb ng vn vd ln ld g n L w hc hx hrow hL hn hnr hr hcl h0 o ho

end Go.Proofs.YtkjcdnlpjldhaaaGreat

