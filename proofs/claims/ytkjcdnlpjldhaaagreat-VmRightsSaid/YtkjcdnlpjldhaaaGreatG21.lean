/-
  The texts Vm1, merged.
-/
import Derived.Test.YtkjcdnlpjldhaaaGreatG19
import Derived.Test.YtkjcdnlpjldhaaaGreatG10
import Derived.Deep.RegionHeld3
namespace Go.Proofs.YtkjcdnlpjldhaaaGreat
open Go.RowKit Tw
set_option linter.unusedVariables false
set_option linter.unusedSimpArgs false
attribute [local go_sem ↓] Go.wp_at_zero Go.wp_at_succ

theorem results_SH {fn : Func} {k j : Tmp} (h : fn.results = #[.cell k 70, .tmp j]) (tmps : Array Value) (w : World) (b : Nat) (x y z : Value) (hk : tmps.getD k undef = .pointer (some ⟨b, 0, none⟩))
    (t : Tri w b x y z) : (results fn tmps).run Tryz.prog w = .ok (.tuple #[.agg #[x, y, z], tmps.getD j undef]) w := by
  have hl : (loadVar 70 ⟨b, 0, none⟩).run Tryz.prog w = .ok (.agg #[x, y, z]) w := by
    simp [go_sem, t.1, t.2.1, t.2.2.1]
  have hk' : tmps[k]?.getD undef = .pointer (some ⟨b, 0, none⟩) := by simpa using hk
  simp [results, h, asAddr, Sem.run_bind, hl, Result.andThen, hk']

theorem opRegs_le (op : Int) : -1 ≤ opRegs op ∧ opRegs op ≤ 2 := by
  unfold opRegs
  split
  · omega
  · split
    · omega
    · split <;> omega

set_option maxRecDepth 100000 in
set_option maxHeartbeats 20000000 in
theorem vm_shape (op : Int) (w : World)  :
    Calls Tryz.prog 35 #[.int .i64 op] w (fun e w' => e = .returned (.tuple #[.agg #[.bool (decide (1 ≤ opRegs op)), .bool (decide (opRegs op = 2)), .bool (decide (op = 7))], .bool (decide (0 ≤ opRegs op))]) ∧ Below w.heap.size w w') := by
  by_cases h : 0 ≤ op ∧ op ≤ 10
  · have h' : op = 0 ∨ op = 1 ∨ op = 2 ∨ op = 3 ∨ op = 4 ∨ op = 5 ∨ op = 6 ∨ op = 7 ∨ op = 8 ∨ op = 9 ∨ op = 10 := by omega
    clear h
    rcases h' with rfl | rfl | rfl | rfl | rfl | rfl | rfl | rfl | rfl | rfl | rfl
    all_goals
      go_enter Tryz.func35, Tryz.ntmps35
      go_wp2_with fail
      exact bodyPost_ret (results_SH Tryz.results35 _ _ _ _ _ _ rfl (tri_new _ _ _ _ _)) rfl ⟨rfl, below_new _ _⟩
  · have e : opRegs op = -1 := opRegs_no h
    rw [e]
    have t0 : (op == 0) = false := by simp; omega
    have t1 : (op == 1) = false := by simp; omega
    have t2 : (op == 2) = false := by simp; omega
    have t3 : (op == 3) = false := by simp; omega
    have t4 : (op == 4) = false := by simp; omega
    have t5 : (op == 5) = false := by simp; omega
    have t6 : (op == 6) = false := by simp; omega
    have t7 : (op == 7) = false := by simp; omega
    have t8 : (op == 8) = false := by simp; omega
    have t9 : (op == 9) = false := by simp; omega
    have t10 : (op == 10) = false := by simp; omega
    have t11 : decide (op = 7) = false := by simp; omega
    rw [t11]
    clear h
    go_enter Tryz.func35, Tryz.ntmps35
    go_wp2_with fail
    exact bodyPost_ret (results_SH Tryz.results35 _ _ _ _ _ _ rfl (tri_new _ _ _ _ _)) rfl ⟨rfl, below_new _ _⟩

set_option maxRecDepth 100000 in
set_option maxHeartbeats 4000000 in
theorem vm_register (is : Bool) (r : Int) (g n : Nat) (L : List Int) (w : World) (hrow : RowF w g n (fun i => .bool (decide ((i : Int) ∈ L)))) (hL : ∀ x ∈ L, 0 ≤ x ∧ x < (n : Int)) (hn : n ≤ 100000) (o : Bool) (ho : (if is = true then decide (r ∈ L) else decide (r = 0)) = o) :
    Calls Tryz.prog 57 #[.bool is, .int .i64 r, .slice (some ⟨g, 0, none⟩) n n] w (fun e w' => e = .returned (.bool o) ∧ w = w') := by
  cases is with
  | false =>
    rw [if_neg (by decide)] at ho
    have t : (r == 0) = o := by rw [← ho]; by_cases h : r = 0 <;> simp [h]
    clear ho
    go_enter Tryz.func57, Tryz.ntmps57
    go_wp2_with fail
    go_ret
    exact ⟨rfl, rfl⟩
  | true =>
    rw [if_pos rfl] at ho
    by_cases h0 : 0 ≤ r
    · by_cases h1 : r < (n : Int)
      · obtain ⟨R, rfl⟩ := Int.eq_ofNat_of_zero_le h0
        have hc := (hrow.2 R (by omega)).1
        simp only [ho] at hc
        clear hrow hL ho
        go_enter Tryz.func57, Tryz.ntmps57
        go_wp2_with fail
        go_ret
        exact ⟨rfl, rfl⟩
      · have : o = false := by rw [← ho]; exact decide_eq_false (fun k => h1 (hL r k).2)
        subst this
        clear hrow hL ho
        go_enter Tryz.func57, Tryz.ntmps57
        go_wp2_with fail
        go_ret
        exact ⟨rfl, rfl⟩
    · have : o = false := by rw [← ho]; exact decide_eq_false (fun k => h0 (hL r k).1)
      subst this
      clear hrow hL ho
      go_enter Tryz.func57, Tryz.ntmps57
      go_wp2_with fail
      go_ret
      exact ⟨rfl, rfl⟩

set_option maxRecDepth 100000 in
set_option maxHeartbeats 4000000 in
theorem vm_number_not (op to xa xb : Int) (ng : Bool) (vn vd : Value) (ln ld : List Nat)  (w : World) (hx : IsX w ⟨op, to, xa, xb, ⟨ng, ln, ld⟩⟩ vn vd) (h1 : op ≠ 1) (o : Bool) (ho : numOk ⟨op, to, xa, xb, ⟨ng, ln, ld⟩⟩ = o) :
    Calls Tryz.prog 56 #[.agg #[.int .i64 op, .int .i64 to, .int .i64 xa, .int .i64 xb, .bool ng, vn, vd]] w (fun e w' => e = .returned (.bool o) ∧ Below w.heap.size w w') := by
  have t : (op != 1) = true := by simp; exact h1
  have Ho := Lib.hid ho
  clear ho
  obtain ⟨a0, n0, c0, rfl, H0, hm0⟩ := hx.1.1.open
  obtain ⟨a1, n1, c1, rfl, H1, hm1⟩ := hx.1.2.1.open
  have ho := Ho.out
  unfold numOk at ho
  rw [if_neg h1] at ho
  simp only [H0.out, H1.out] at ho
  clear Ho h1
  have q0 : ∃ b, decide (n0 = 0) = b := ⟨_, rfl⟩
  have q1 : ∃ b, decide (n1 = 0) = b := ⟨_, rfl⟩
  obtain ⟨b0, q0⟩ := q0
  obtain ⟨b1, q1⟩ := q1
  obtain ⟨bg, tg⟩ : ∃ b, (!ng) = b := ⟨_, rfl⟩
  rw [q0, q1, tg] at ho
  have t0 : ((n0 : Int) == 0) = b0 := by rw [int_eq0, q0]
  have t1 : ((n1 : Int) == 0) = b1 := by rw [int_eq0, q1]
  clear q0 q1
  subst ho
  cases bg <;> cases b0 <;> cases b1
  all_goals
    go_enter Tryz.func56, Tryz.ntmps56
    go_wp2_with fail
    obtain ⟨W0, hW0⟩ : ∃ W0, w.alloc (.cells #[.int .i64 op, .int .i64 to, .int .i64 xa, .int .i64 xb, .bool ng, .slice a0 n0 c0, .slice a1 n1 c1] 49) = W0 := ⟨_, rfl⟩
    have HXW0 := Lib.hid (show ∀ W', Below W0.heap.size W0 W' → (Bx7 W' w.heap.size (.int .i64 op) (.int .i64 to) (.int .i64 xa) (.int .i64 xb) (.bool ng) (.slice a0 n0 c0) (.slice a1 n1 c1)) from fun W' hb => by
        apply bx7 hb
        all_goals first | assumption | (rw [← hW0]; simp [go_sem]))
    have zb : Below w.heap.size w W0 := by rw [← hW0]; exact below_new _ _
    rw [hW0]
    clear hW0
    have i0 := hx.to zb
    have gb : Below W0.heap.size W0 W0 := Below.refl _ _
    obtain ⟨z0, x0_0, x0_1, x0_2, x0_3, x0_4, x0_5, x0_6, y0_0, y0_1, y0_2, y0_3, y0_4, y0_5, y0_6⟩ := HXW0.out _ gb
    go_wp2_with fail
    go_ret
    exact ⟨rfl, below_step zb gb⟩

set_option maxRecDepth 100000 in
set_option maxHeartbeats 4000000 in
theorem vm_number_const (op to xa xb : Int) (ng : Bool) (vn vd : Value) (ln ld : List Nat)  (w : World) (hx : IsX w ⟨op, to, xa, xb, ⟨ng, ln, ld⟩⟩ vn vd) (h1 : op = 1) (o : Bool) (ho : numOk ⟨op, to, xa, xb, ⟨ng, ln, ld⟩⟩ = o) :
    Calls Tryz.prog 56 #[.agg #[.int .i64 op, .int .i64 to, .int .i64 xa, .int .i64 xb, .bool ng, vn, vd]] w (fun e w' => e = .returned (.bool o) ∧ Below w.heap.size w w') := by
  have t : (op != 1) = false := by simp; exact h1
  have hn : ln.length ≤ 1000 := hx.1.2.2.2.1
  have hd : ld.length ≤ 1000 := hx.1.2.2.2.2
  unfold numOk at ho
  rw [if_pos h1] at ho
  clear h1
  obtain ⟨r, hr⟩ : ∃ r, rightQ ng ln ld (Rt.num ⟨ng, ln, ld⟩) = r := ⟨_, rfl⟩
  obtain ⟨b0, q0⟩ : ∃ b, decide ((digs (val ln)).length ≤ 40) = b := ⟨_, rfl⟩
  obtain ⟨b1, q1⟩ : ∃ b, decide ((digs (val ld)).length ≤ 40) = b := ⟨_, rfl⟩
  have ho' : (r && b0 && b1) = o := by rw [← hr, ← q0, ← q1]; exact ho
  have Hr := Lib.hid hr
  have t0 : decide ((ndig (val ln) : Int) ≤ 40) = b0 := by rw [← q0]; unfold ndig; apply decide_eq_decide.2; omega
  have t1 : decide ((ndig (val ld) : Int) ≤ 40) = b1 := by rw [← q1]; unfold ndig; apply decide_eq_decide.2; omega
  clear ho hr q0 q1
  subst ho'
  obtain ⟨a0, n0, c0, rfl, H0, hm0⟩ := hx.1.1.open
  obtain ⟨a1, n1, c1, rfl, H1, hm1⟩ := hx.1.2.1.open
  cases r
  case false =>
    go_enter Tryz.func56, Tryz.ntmps56
    go_wp2_with fail
    obtain ⟨W0, hW0⟩ : ∃ W0, w.alloc (.cells #[.int .i64 op, .int .i64 to, .int .i64 xa, .int .i64 xb, .bool ng, .slice a0 n0 c0, .slice a1 n1 c1] 49) = W0 := ⟨_, rfl⟩
    have HXW0 := Lib.hid (show ∀ W', Below W0.heap.size W0 W' → (Bx7 W' w.heap.size (.int .i64 op) (.int .i64 to) (.int .i64 xa) (.int .i64 xb) (.bool ng) (.slice a0 n0 c0) (.slice a1 n1 c1)) from fun W' hb => by
        apply bx7 hb
        all_goals first | assumption | (rw [← hW0]; simp [go_sem]))
    have zb : Below w.heap.size w W0 := by rw [← hW0]; exact below_new _ _
    rw [hW0]
    clear hW0
    have i0 := hx.to zb
    have gb : Below W0.heap.size W0 W0 := Below.refl _ _
    obtain ⟨z0, x0_0, x0_1, x0_2, x0_3, x0_4, x0_5, x0_6, y0_0, y0_1, y0_2, y0_3, y0_4, y0_5, y0_6⟩ := HXW0.out _ gb
    go_wp2_with fail
    refine (ratio_right ng _ _ ln ld _ ((i0.to gb)).1 false Hr.out).mono ?_
    clear x0_0 y0_0 x0_1 y0_1 x0_2 y0_2 x0_3 y0_3 x0_4 y0_4 x0_5 y0_5 x0_6 y0_6
    rintro e w1 ⟨rfl, hb1⟩
    replace gb := below_step gb hb1
    obtain ⟨z0, x0_0, x0_1, x0_2, x0_3, x0_4, x0_5, x0_6, y0_0, y0_1, y0_2, y0_3, y0_4, y0_5, y0_6⟩ := HXW0.out _ gb
    go_wp2_with fail
    go_ret
    exact ⟨rfl, below_step zb gb⟩
  case true =>
    cases b0
    case false =>
      go_enter Tryz.func56, Tryz.ntmps56
      go_wp2_with fail
      obtain ⟨W0, hW0⟩ : ∃ W0, w.alloc (.cells #[.int .i64 op, .int .i64 to, .int .i64 xa, .int .i64 xb, .bool ng, .slice a0 n0 c0, .slice a1 n1 c1] 49) = W0 := ⟨_, rfl⟩
      have HXW0 := Lib.hid (show ∀ W', Below W0.heap.size W0 W' → (Bx7 W' w.heap.size (.int .i64 op) (.int .i64 to) (.int .i64 xa) (.int .i64 xb) (.bool ng) (.slice a0 n0 c0) (.slice a1 n1 c1)) from fun W' hb => by
          apply bx7 hb
          all_goals first | assumption | (rw [← hW0]; simp [go_sem]))
      have zb : Below w.heap.size w W0 := by rw [← hW0]; exact below_new _ _
      rw [hW0]
      clear hW0
      have i0 := hx.to zb
      have gb : Below W0.heap.size W0 W0 := Below.refl _ _
      obtain ⟨z0, x0_0, x0_1, x0_2, x0_3, x0_4, x0_5, x0_6, y0_0, y0_1, y0_2, y0_3, y0_4, y0_5, y0_6⟩ := HXW0.out _ gb
      go_wp2_with fail
      refine (ratio_right ng _ _ ln ld _ ((i0.to gb)).1 true Hr.out).mono ?_
      clear x0_0 y0_0 x0_1 y0_1 x0_2 y0_2 x0_3 y0_3 x0_4 y0_4 x0_5 y0_5 x0_6 y0_6
      rintro e w1 ⟨rfl, hb1⟩
      replace gb := below_step gb hb1
      obtain ⟨z0, x0_0, x0_1, x0_2, x0_3, x0_4, x0_5, x0_6, y0_0, y0_1, y0_2, y0_3, y0_4, y0_5, y0_6⟩ := HXW0.out _ gb
      go_wp2_with fail
      refine (deci_digits _ ln _ ((i0.to gb)).1.1 (by omega)).mono ?_
      clear x0_0 y0_0 x0_1 y0_1 x0_2 y0_2 x0_3 y0_3 x0_4 y0_4 x0_5 y0_5 x0_6 y0_6
      rintro e w2 ⟨rfl, hb2⟩
      replace gb := below_step gb hb2
      obtain ⟨z0, x0_0, x0_1, x0_2, x0_3, x0_4, x0_5, x0_6, y0_0, y0_1, y0_2, y0_3, y0_4, y0_5, y0_6⟩ := HXW0.out _ gb
      go_wp2_with fail
      go_ret
      exact ⟨rfl, below_step zb gb⟩
    case true =>
      cases b1
      all_goals
        go_enter Tryz.func56, Tryz.ntmps56
        go_wp2_with fail
        obtain ⟨W0, hW0⟩ : ∃ W0, w.alloc (.cells #[.int .i64 op, .int .i64 to, .int .i64 xa, .int .i64 xb, .bool ng, .slice a0 n0 c0, .slice a1 n1 c1] 49) = W0 := ⟨_, rfl⟩
        have HXW0 := Lib.hid (show ∀ W', Below W0.heap.size W0 W' → (Bx7 W' w.heap.size (.int .i64 op) (.int .i64 to) (.int .i64 xa) (.int .i64 xb) (.bool ng) (.slice a0 n0 c0) (.slice a1 n1 c1)) from fun W' hb => by
            apply bx7 hb
            all_goals first | assumption | (rw [← hW0]; simp [go_sem]))
        have zb : Below w.heap.size w W0 := by rw [← hW0]; exact below_new _ _
        rw [hW0]
        clear hW0
        have i0 := hx.to zb
        have gb : Below W0.heap.size W0 W0 := Below.refl _ _
        obtain ⟨z0, x0_0, x0_1, x0_2, x0_3, x0_4, x0_5, x0_6, y0_0, y0_1, y0_2, y0_3, y0_4, y0_5, y0_6⟩ := HXW0.out _ gb
        go_wp2_with fail
        refine (ratio_right ng _ _ ln ld _ ((i0.to gb)).1 true Hr.out).mono ?_
        clear x0_0 y0_0 x0_1 y0_1 x0_2 y0_2 x0_3 y0_3 x0_4 y0_4 x0_5 y0_5 x0_6 y0_6
        rintro e w1 ⟨rfl, hb1⟩
        replace gb := below_step gb hb1
        obtain ⟨z0, x0_0, x0_1, x0_2, x0_3, x0_4, x0_5, x0_6, y0_0, y0_1, y0_2, y0_3, y0_4, y0_5, y0_6⟩ := HXW0.out _ gb
        go_wp2_with fail
        refine (deci_digits _ ln _ ((i0.to gb)).1.1 (by omega)).mono ?_
        clear x0_0 y0_0 x0_1 y0_1 x0_2 y0_2 x0_3 y0_3 x0_4 y0_4 x0_5 y0_5 x0_6 y0_6
        rintro e w2 ⟨rfl, hb2⟩
        replace gb := below_step gb hb2
        obtain ⟨z0, x0_0, x0_1, x0_2, x0_3, x0_4, x0_5, x0_6, y0_0, y0_1, y0_2, y0_3, y0_4, y0_5, y0_6⟩ := HXW0.out _ gb
        go_wp2_with fail
        refine (deci_digits _ ld _ ((i0.to gb)).1.2.1 (by omega)).mono ?_
        clear x0_0 y0_0 x0_1 y0_1 x0_2 y0_2 x0_3 y0_3 x0_4 y0_4 x0_5 y0_5 x0_6 y0_6
        rintro e w3 ⟨rfl, hb3⟩
        replace gb := below_step gb hb3
        obtain ⟨z0, x0_0, x0_1, x0_2, x0_3, x0_4, x0_5, x0_6, y0_0, y0_1, y0_2, y0_3, y0_4, y0_5, y0_6⟩ := HXW0.out _ gb
        go_wp2_with fail
        go_ret
        exact ⟨rfl, below_step zb gb⟩

theorem vm_number (op to xa xb : Int) (ng : Bool) (vn vd : Value) (ln ld : List Nat) (w : World) (hx : IsX w ⟨op, to, xa, xb, ⟨ng, ln, ld⟩⟩ vn vd) (o : Bool) (ho : numOk ⟨op, to, xa, xb, ⟨ng, ln, ld⟩⟩ = o) :
    Calls Tryz.prog 56 #[.agg #[.int .i64 op, .int .i64 to, .int .i64 xa, .int .i64 xb, .bool ng, vn, vd]] w (fun e w' => e = .returned (.bool o) ∧ Below w.heap.size w w') := by
  by_cases h1 : op = 1
  · exact vm_number_const _ _ _ _ _ _ _ _ _ w hx h1 o ho
  · exact vm_number_not _ _ _ _ _ _ _ _ _ w hx h1 o ho

end Go.Proofs.YtkjcdnlpjldhaaaGreat

