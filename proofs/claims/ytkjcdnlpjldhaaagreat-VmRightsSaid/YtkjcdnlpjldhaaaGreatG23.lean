/-
  The texts Vm3, VmMath2, VmLaw, VmLaw2, Vm5, merged.
-/
import Derived.Test.YtkjcdnlpjldhaaaGreatG22
import Derived.Test.YtkjcdnlpjldhaaaGreatG10
import Derived.Deep.RegionHeld3
namespace Go.Proofs.YtkjcdnlpjldhaaaGreat
open Go.RowKit Tw
set_option linter.unusedVariables false
set_option linter.unusedSimpArgs false
attribute [local go_sem ↓] Go.wp_at_zero Go.wp_at_succ

theorem hdrOk_eq (c : Cd) (n : Nat) (h : c.all.length = n) : hdrOk c = (!(decide (c.ins < 1)) && !(decide (40 < c.ins)) && !(decide (c.rows < 1)) && !(decide (40 < c.rows)) && !(c.cols != c.ins) && !(decide (c.regs < 0)) && !(decide (100000 < c.regs)) && !(decide ((100000 : Int) < (n : Int)))) := by
  subst h
  unfold hdrOk
  rw [Bool.eq_iff_iff]
  simp only [Bool.and_eq_true, Bool.not_eq_true', decide_eq_false_iff_not, decide_eq_true_eq, bne_eq_false_iff_eq]
  omega

theorem allOk_drop {c : Cd} {L : List Int} {l : List Ins} {k : Nat} (h : k < l.length) : allOk c L (l.drop k) = (insOk c L l[k] && allOk c (more L l[k]) (l.drop (k + 1))) := by
  rw [List.drop_eq_getElem_cons h]; rfl

theorem flags_put {N T : Nat} {L : List Int} (i : Nat) : (if i = T then Value.bool true else Value.bool (decide ((i : Int) ∈ L))) = .bool (decide ((i : Int) ∈ L ++ [(T : Int)])) := by
  by_cases h : i = T
  · rw [if_pos h, h]; simp
  · rw [if_neg h]
    congr 1
    have : ¬ (i : Int) = (T : Int) := by omega
    simp [this]

theorem insOk_to {c : Cd} {L : List Int} {x : Ins} (h : insOk c L x = true) (h10 : x.op ≠ 10) : 0 ≤ x.to ∧ x.to < c.regs := by
  unfold insOk mostTo at h
  rw [if_neg h10] at h
  simp only [Bool.and_eq_true, decide_eq_true_eq] at h
  exact h.2

set_option maxRecDepth 100000 in
set_option maxHeartbeats 40000000 in
theorem vm_right_hdr (c : Cd) (v : Value) (w : World) (hc : IsC w c v) (hs : ShortC 1000 c.all) (h0 : hdrOk c = false) :
    Calls Tryz.prog 14 #[aggC c v] w (fun e w' => e = .returned (.bool false) ∧ Below w.heap.size w w') := by
  clear hs
  obtain ⟨a0, n0, c0, rfl, H0, hm0⟩ := hc.1.open
  obtain ⟨e0, te0⟩ : ∃ b, decide (c.ins < 1) = b := ⟨_, rfl⟩
  obtain ⟨e1, te1⟩ : ∃ b, decide (40 < c.ins) = b := ⟨_, rfl⟩
  obtain ⟨e2, te2⟩ : ∃ b, decide (c.rows < 1) = b := ⟨_, rfl⟩
  obtain ⟨e3, te3⟩ : ∃ b, decide (40 < c.rows) = b := ⟨_, rfl⟩
  obtain ⟨e4, te4⟩ : ∃ b, (c.cols != c.ins) = b := ⟨_, rfl⟩
  obtain ⟨e5, te5⟩ : ∃ b, decide (c.regs < 0) = b := ⟨_, rfl⟩
  obtain ⟨e6, te6⟩ : ∃ b, decide (100000 < c.regs) = b := ⟨_, rfl⟩
  obtain ⟨e7, te7⟩ : ∃ b, decide ((100000 : Int) < (n0 : Int)) = b := ⟨_, rfl⟩
  rw [hdrOk_eq c n0 H0.out, te0, te1, te2, te3, te4, te5, te6, te7] at h0
  cases e0
  case true =>
    clear h0
    go_enter Tryz.func14, Tryz.ntmps14
    go_wp2_with fail
    obtain ⟨W0, hW0⟩ : ∃ W0, w.alloc (.cells #[.int .i64 c.ins, .int .i64 c.rows, .int .i64 c.cols, .int .i64 c.regs, .slice a0 n0 c0] 24) = W0 := ⟨_, rfl⟩
    have HXW0 := Lib.hid (show ∀ W', Below W0.heap.size W0 W' → (Bx5 W' w.heap.size (.int .i64 c.ins) (.int .i64 c.rows) (.int .i64 c.cols) (.int .i64 c.regs) (.slice a0 n0 c0)) from fun W' hb => by
        apply bx5 hb
        all_goals first | assumption | (rw [← hW0]; simp [go_sem]))
    have zb : Below w.heap.size w W0 := by rw [← hW0]; exact below_new _ _
    rw [hW0]
    clear hW0
    have i0 := hc.to zb
    have gb : Below W0.heap.size W0 W0 := Below.refl _ _
    obtain ⟨z0, x0_0, x0_1, x0_2, x0_3, x0_4, y0_0, y0_1, y0_2, y0_3, y0_4⟩ := HXW0.out _ gb
    go_wp2_with fail
    go_ret
    exact ⟨rfl, below_step zb gb⟩
  case false =>
    cases e1
    case true =>
      clear h0
      go_enter Tryz.func14, Tryz.ntmps14
      go_wp2_with fail
      obtain ⟨W0, hW0⟩ : ∃ W0, w.alloc (.cells #[.int .i64 c.ins, .int .i64 c.rows, .int .i64 c.cols, .int .i64 c.regs, .slice a0 n0 c0] 24) = W0 := ⟨_, rfl⟩
      have HXW0 := Lib.hid (show ∀ W', Below W0.heap.size W0 W' → (Bx5 W' w.heap.size (.int .i64 c.ins) (.int .i64 c.rows) (.int .i64 c.cols) (.int .i64 c.regs) (.slice a0 n0 c0)) from fun W' hb => by
          apply bx5 hb
          all_goals first | assumption | (rw [← hW0]; simp [go_sem]))
      have zb : Below w.heap.size w W0 := by rw [← hW0]; exact below_new _ _
      rw [hW0]
      clear hW0
      have i0 := hc.to zb
      have gb : Below W0.heap.size W0 W0 := Below.refl _ _
      obtain ⟨z0, x0_0, x0_1, x0_2, x0_3, x0_4, y0_0, y0_1, y0_2, y0_3, y0_4⟩ := HXW0.out _ gb
      go_wp2_with fail
      go_ret
      exact ⟨rfl, below_step zb gb⟩
    case false =>
      cases e2
      case true =>
        clear h0
        go_enter Tryz.func14, Tryz.ntmps14
        go_wp2_with fail
        obtain ⟨W0, hW0⟩ : ∃ W0, w.alloc (.cells #[.int .i64 c.ins, .int .i64 c.rows, .int .i64 c.cols, .int .i64 c.regs, .slice a0 n0 c0] 24) = W0 := ⟨_, rfl⟩
        have HXW0 := Lib.hid (show ∀ W', Below W0.heap.size W0 W' → (Bx5 W' w.heap.size (.int .i64 c.ins) (.int .i64 c.rows) (.int .i64 c.cols) (.int .i64 c.regs) (.slice a0 n0 c0)) from fun W' hb => by
            apply bx5 hb
            all_goals first | assumption | (rw [← hW0]; simp [go_sem]))
        have zb : Below w.heap.size w W0 := by rw [← hW0]; exact below_new _ _
        rw [hW0]
        clear hW0
        have i0 := hc.to zb
        have gb : Below W0.heap.size W0 W0 := Below.refl _ _
        obtain ⟨z0, x0_0, x0_1, x0_2, x0_3, x0_4, y0_0, y0_1, y0_2, y0_3, y0_4⟩ := HXW0.out _ gb
        go_wp2_with fail
        go_ret
        exact ⟨rfl, below_step zb gb⟩
      case false =>
        cases e3
        case true =>
          clear h0
          go_enter Tryz.func14, Tryz.ntmps14
          go_wp2_with fail
          obtain ⟨W0, hW0⟩ : ∃ W0, w.alloc (.cells #[.int .i64 c.ins, .int .i64 c.rows, .int .i64 c.cols, .int .i64 c.regs, .slice a0 n0 c0] 24) = W0 := ⟨_, rfl⟩
          have HXW0 := Lib.hid (show ∀ W', Below W0.heap.size W0 W' → (Bx5 W' w.heap.size (.int .i64 c.ins) (.int .i64 c.rows) (.int .i64 c.cols) (.int .i64 c.regs) (.slice a0 n0 c0)) from fun W' hb => by
              apply bx5 hb
              all_goals first | assumption | (rw [← hW0]; simp [go_sem]))
          have zb : Below w.heap.size w W0 := by rw [← hW0]; exact below_new _ _
          rw [hW0]
          clear hW0
          have i0 := hc.to zb
          have gb : Below W0.heap.size W0 W0 := Below.refl _ _
          obtain ⟨z0, x0_0, x0_1, x0_2, x0_3, x0_4, y0_0, y0_1, y0_2, y0_3, y0_4⟩ := HXW0.out _ gb
          go_wp2_with fail
          go_ret
          exact ⟨rfl, below_step zb gb⟩
        case false =>
          cases e4
          case true =>
            clear h0
            go_enter Tryz.func14, Tryz.ntmps14
            go_wp2_with fail
            obtain ⟨W0, hW0⟩ : ∃ W0, w.alloc (.cells #[.int .i64 c.ins, .int .i64 c.rows, .int .i64 c.cols, .int .i64 c.regs, .slice a0 n0 c0] 24) = W0 := ⟨_, rfl⟩
            have HXW0 := Lib.hid (show ∀ W', Below W0.heap.size W0 W' → (Bx5 W' w.heap.size (.int .i64 c.ins) (.int .i64 c.rows) (.int .i64 c.cols) (.int .i64 c.regs) (.slice a0 n0 c0)) from fun W' hb => by
                apply bx5 hb
                all_goals first | assumption | (rw [← hW0]; simp [go_sem]))
            have zb : Below w.heap.size w W0 := by rw [← hW0]; exact below_new _ _
            rw [hW0]
            clear hW0
            have i0 := hc.to zb
            have gb : Below W0.heap.size W0 W0 := Below.refl _ _
            obtain ⟨z0, x0_0, x0_1, x0_2, x0_3, x0_4, y0_0, y0_1, y0_2, y0_3, y0_4⟩ := HXW0.out _ gb
            go_wp2_with fail
            go_ret
            exact ⟨rfl, below_step zb gb⟩
          case false =>
            cases e5
            case true =>
              clear h0
              go_enter Tryz.func14, Tryz.ntmps14
              go_wp2_with fail
              obtain ⟨W0, hW0⟩ : ∃ W0, w.alloc (.cells #[.int .i64 c.ins, .int .i64 c.rows, .int .i64 c.cols, .int .i64 c.regs, .slice a0 n0 c0] 24) = W0 := ⟨_, rfl⟩
              have HXW0 := Lib.hid (show ∀ W', Below W0.heap.size W0 W' → (Bx5 W' w.heap.size (.int .i64 c.ins) (.int .i64 c.rows) (.int .i64 c.cols) (.int .i64 c.regs) (.slice a0 n0 c0)) from fun W' hb => by
                  apply bx5 hb
                  all_goals first | assumption | (rw [← hW0]; simp [go_sem]))
              have zb : Below w.heap.size w W0 := by rw [← hW0]; exact below_new _ _
              rw [hW0]
              clear hW0
              have i0 := hc.to zb
              have gb : Below W0.heap.size W0 W0 := Below.refl _ _
              obtain ⟨z0, x0_0, x0_1, x0_2, x0_3, x0_4, y0_0, y0_1, y0_2, y0_3, y0_4⟩ := HXW0.out _ gb
              go_wp2_with fail
              go_ret
              exact ⟨rfl, below_step zb gb⟩
            case false =>
              cases e6
              case true =>
                clear h0
                go_enter Tryz.func14, Tryz.ntmps14
                go_wp2_with fail
                obtain ⟨W0, hW0⟩ : ∃ W0, w.alloc (.cells #[.int .i64 c.ins, .int .i64 c.rows, .int .i64 c.cols, .int .i64 c.regs, .slice a0 n0 c0] 24) = W0 := ⟨_, rfl⟩
                have HXW0 := Lib.hid (show ∀ W', Below W0.heap.size W0 W' → (Bx5 W' w.heap.size (.int .i64 c.ins) (.int .i64 c.rows) (.int .i64 c.cols) (.int .i64 c.regs) (.slice a0 n0 c0)) from fun W' hb => by
                    apply bx5 hb
                    all_goals first | assumption | (rw [← hW0]; simp [go_sem]))
                have zb : Below w.heap.size w W0 := by rw [← hW0]; exact below_new _ _
                rw [hW0]
                clear hW0
                have i0 := hc.to zb
                have gb : Below W0.heap.size W0 W0 := Below.refl _ _
                obtain ⟨z0, x0_0, x0_1, x0_2, x0_3, x0_4, y0_0, y0_1, y0_2, y0_3, y0_4⟩ := HXW0.out _ gb
                go_wp2_with fail
                go_ret
                exact ⟨rfl, below_step zb gb⟩
              case false =>
                cases e7
                case true =>
                  clear h0
                  go_enter Tryz.func14, Tryz.ntmps14
                  go_wp2_with fail
                  obtain ⟨W0, hW0⟩ : ∃ W0, w.alloc (.cells #[.int .i64 c.ins, .int .i64 c.rows, .int .i64 c.cols, .int .i64 c.regs, .slice a0 n0 c0] 24) = W0 := ⟨_, rfl⟩
                  have HXW0 := Lib.hid (show ∀ W', Below W0.heap.size W0 W' → (Bx5 W' w.heap.size (.int .i64 c.ins) (.int .i64 c.rows) (.int .i64 c.cols) (.int .i64 c.regs) (.slice a0 n0 c0)) from fun W' hb => by
                      apply bx5 hb
                      all_goals first | assumption | (rw [← hW0]; simp [go_sem]))
                  have zb : Below w.heap.size w W0 := by rw [← hW0]; exact below_new _ _
                  rw [hW0]
                  clear hW0
                  have i0 := hc.to zb
                  have gb : Below W0.heap.size W0 W0 := Below.refl _ _
                  obtain ⟨z0, x0_0, x0_1, x0_2, x0_3, x0_4, y0_0, y0_1, y0_2, y0_3, y0_4⟩ := HXW0.out _ gb
                  go_wp2_with fail
                  go_ret
                  exact ⟨rfl, below_step zb gb⟩
                case false =>
                  exact absurd h0 (by decide)

set_option maxRecDepth 100000 in
set_option maxHeartbeats 40000000 in
theorem vm_right_all (c : Cd) (v : Value) (w : World) (hc : IsC w c v) (hs : ShortC 1000 c.all) (h0 : hdrOk c = true) (o : Bool) (ho : allOk c [] c.all = o) :
    Calls Tryz.prog 14 #[aggC c v] w (fun e w' => e = .returned (.bool o) ∧ Below w.heap.size w w') := by
  have hh := h0
  unfold hdrOk at hh
  simp only [decide_eq_true_eq] at hh
  obtain ⟨N, hN⟩ := Int.eq_ofNat_of_zero_le hh.2.2.2.2.2.1
  have hN1 : N ≤ 100000 := by omega
  have Hr := Lib.hid (show 1 ≤ c.rows ∧ c.rows ≤ 40 by omega)
  have Hcl := Lib.hid (show 1 ≤ c.cols ∧ c.cols ≤ 40 by omega)
  have HN := Lib.hid hN
  clear hh
  clear hN
  have Hs := Lib.hid hs
  have Ho := Lib.hid ho
  clear hs ho
  obtain ⟨a0, n0, c0, rfl, H0, hm0⟩ := hc.1.open
  obtain ⟨e0, te0⟩ : ∃ b, decide (c.ins < 1) = b := ⟨_, rfl⟩
  obtain ⟨e1, te1⟩ : ∃ b, decide (40 < c.ins) = b := ⟨_, rfl⟩
  obtain ⟨e2, te2⟩ : ∃ b, decide (c.rows < 1) = b := ⟨_, rfl⟩
  obtain ⟨e3, te3⟩ : ∃ b, decide (40 < c.rows) = b := ⟨_, rfl⟩
  obtain ⟨e4, te4⟩ : ∃ b, (c.cols != c.ins) = b := ⟨_, rfl⟩
  obtain ⟨e5, te5⟩ : ∃ b, decide (c.regs < 0) = b := ⟨_, rfl⟩
  obtain ⟨e6, te6⟩ : ∃ b, decide (100000 < c.regs) = b := ⟨_, rfl⟩
  obtain ⟨e7, te7⟩ : ∃ b, decide ((100000 : Int) < (n0 : Int)) = b := ⟨_, rfl⟩
  rw [hdrOk_eq c n0 H0.out, te0, te1, te2, te3, te4, te5, te6, te7] at h0
  simp only [Bool.and_eq_true, Bool.not_eq_true'] at h0
  obtain ⟨⟨⟨⟨⟨⟨⟨rfl, rfl⟩, rfl⟩, rfl⟩, rfl⟩, rfl⟩, rfl⟩, rfl⟩ := h0
  have hn0 : n0 ≤ 100000 := by have := of_decide_eq_false te7; omega
  go_enter Tryz.func14, Tryz.ntmps14
  go_wp2_with (
    at_make
    obtain ⟨W0, hW0⟩ : ∃ W0, w.alloc (.cells #[.int .i64 c.ins, .int .i64 c.rows, .int .i64 c.cols, .int .i64 c.regs, .slice a0 n0 c0] 24) = W0 := ⟨_, rfl⟩
    have HXW0 := Lib.hid (show ∀ W', Below W0.heap.size W0 W' → (Bx5 W' w.heap.size (.int .i64 c.ins) (.int .i64 c.rows) (.int .i64 c.cols) (.int .i64 c.regs) (.slice a0 n0 c0)) from fun W' hb => by
        apply bx5 hb
        all_goals first | assumption | (rw [← hW0]; simp [go_sem]))
    have zb : Below w.heap.size w W0 := by rw [← hW0]; exact below_new _ _
    rw [hW0]
    clear hW0
    have i0 := hc.to zb
    have gb : Below W0.heap.size W0 W0 := Below.refl _ _
    obtain ⟨z0, x0_0, x0_1, x0_2, x0_3, x0_4, y0_0, y0_1, y0_2, y0_3, y0_4⟩ := HXW0.out _ gb
    refine wp_makeF _ rfl _ _ 44 4 rfl Tryz.underlying44 (.bool false) 1 1 (by kernel_rfl) rfl (by decide) _ _ _ _ N rfl rfl HN.out HN.out (by omega) ?_
    intro w1 hr1 hb1
    clear x0_0 y0_0 x0_1 y0_1 x0_2 y0_2 x0_3 y0_3 x0_4 y0_4
    replace gb := below_step gb hb1
    obtain ⟨z0, x0_0, x0_1, x0_2, x0_3, x0_4, y0_0, y0_1, y0_2, y0_3, y0_4⟩ := HXW0.out _ gb
    rw [Nat.mul_one] at hr1
    replace hr1 : RowF w1 W0.heap.size N (fun i => .bool (decide ((i : Int) ∈ ([] : List Int)))) := hr1.cast (fun i _ => by simp [Nat.mod_one, Value.cells]))
  go_loopw [53] (fun i ww => ∃ (k : Nat) (L : List Int), k ≤ n0 ∧ i = .int .i64 k ∧ Below W0.heap.size W0 ww ∧ RowF ww W0.heap.size N (fun i => .bool (decide ((i : Int) ∈ L))) ∧ Hid (allOk c L (c.all.drop k) = o) ∧ Hid (∀ x ∈ L, 0 ≤ x ∧ x < (N : Int))) (fun i _ => n0 - (intOf i).toNat)
  case atStart => exact ⟨0, [], Nat.zero_le _, rfl, gb, hr1, by rw [List.drop_zero]; exact Ho.out, fun x hx => by cases hx⟩
  case round =>
    clear gb hr1 x0_0 y0_0 x0_1 y0_1 x0_2 y0_2 x0_3 y0_3 x0_4 y0_4
    obtain ⟨k, L, hk, rfl, gb, hrow, HA, HL⟩ := hrel
    obtain ⟨z0, x0_0, x0_1, x0_2, x0_3, x0_4, y0_0, y0_1, y0_2, y0_3, y0_4⟩ := HXW0.out _ gb
    by_cases hkn : k < n0
    · have hki : (k : Int) < (n0 : Int) := by omega
      have hkl : k < c.all.length := by rw [H0.out]; exact hkn
      obtain ⟨b, off, rfl, h7⟩ := (i0.to gb).1.nth hkl
      have HA1 := HA.out
      rw [allOk_drop hkl] at HA1
      have hsx := Hs.out _ (List.getElem_mem hkl)
      obtain ⟨x, hx⟩ : ∃ x, c.all[k] = x := ⟨_, rfl⟩
      rw [hx] at HA1 h7 hsx
      obtain ⟨vn, vd, s0, s1, s2, s3, s4, s5, s6, hX⟩ := h7.isX hsx.1 hsx.2
      obtain ⟨a1, n1, c1, rfl, H1, hm1⟩ := hX.1.1.open
      obtain ⟨a2, n2, c2, rfl, H2, hm2⟩ := hX.1.2.1.open
      have HX1 := Lib.hid hX
      have HA2 := Lib.hid HA1
      clear HA HA1 h7 hsx hx hX hki
      have hki : (k : Int) < (n0 : Int) := by omega
      go_wp2_with fail
      clear s0 s1 s2 s3 s4 s5 s6
      obtain ⟨W2, hW2⟩ : ∃ W2, wr.alloc (.cells #[.int .i64 x.op, .int .i64 x.to, .int .i64 x.a, .int .i64 x.b, .bool x.q.ng, .slice a1 n1 c1, .slice a2 n2 c2] 49) = W2 := ⟨_, rfl⟩
      have hb2 : Below wr.heap.size wr W2 := by rw [← hW2]; exact below_new _ _
      have HT : Hid (∀ W', Below W2.heap.size W2 W' → W'.cell? ⟨wr.heap.size, 0, none⟩ = some (.int .i64 x.op) ∧ W'.cell? ⟨wr.heap.size, 1, none⟩ = some (.int .i64 x.to) ∧ W'.cell? ⟨wr.heap.size, 2, none⟩ = some (.int .i64 x.a) ∧ W'.cell? ⟨wr.heap.size, 3, none⟩ = some (.int .i64 x.b) ∧ W'.cell? ⟨wr.heap.size, 4, none⟩ = some (.bool x.q.ng) ∧ W'.cell? ⟨wr.heap.size, 5, none⟩ = some (.slice a1 n1 c1) ∧ W'.cell? ⟨wr.heap.size, 6, none⟩ = some (.slice a2 n2 c2)) := fun W' hb => by
        have hl : wr.heap.size < W2.heap.size := by rw [← hW2]; simp
        refine ⟨(hb.cell (p := ⟨wr.heap.size, 0, none⟩) hl).trans (by rw [← hW2]; simp [go_sem]), (hb.cell (p := ⟨wr.heap.size, 1, none⟩) hl).trans (by rw [← hW2]; simp [go_sem]), (hb.cell (p := ⟨wr.heap.size, 2, none⟩) hl).trans (by rw [← hW2]; simp [go_sem]), (hb.cell (p := ⟨wr.heap.size, 3, none⟩) hl).trans (by rw [← hW2]; simp [go_sem]), (hb.cell (p := ⟨wr.heap.size, 4, none⟩) hl).trans (by rw [← hW2]; simp [go_sem]), (hb.cell (p := ⟨wr.heap.size, 5, none⟩) hl).trans (by rw [← hW2]; simp [go_sem]), (hb.cell (p := ⟨wr.heap.size, 6, none⟩) hl).trans (by rw [← hW2]; simp [go_sem])⟩
      rw [hW2]
      clear hW2
      have hrow2 := hrow.to hb2
      have HX2 := HX1.out.to hb2
      clear hrow
      clear x0_0 y0_0 x0_1 y0_1 x0_2 y0_2 x0_3 y0_3 x0_4 y0_4
      have gb2 := below_step gb hb2
      obtain ⟨z0, x0_0, x0_1, x0_2, x0_3, x0_4, y0_0, y0_1, y0_2, y0_3, y0_4⟩ := HXW0.out _ gb2
      obtain ⟨s0, s1, s2, s3, s4, s5, s6⟩ := HT.out _ (Below.refl _ _)
      go_wp2_with fail
      cases hio : insOk c L x
      case false =>
        refine (vm_instr c _ x.op x.to x.a x.b x.q.ng _ _ x.q.n x.q.d W0.heap.size N L _ (i0.to gb2) HX2 hrow2 HL.out (by omega) HN.out.symm Hr.out Hcl.out false hio).mono ?_
        rintro e w3 ⟨rfl, hb3⟩
        clear s0 s1 s2 s3 s4 s5 s6
        clear x0_0 y0_0 x0_1 y0_1 x0_2 y0_2 x0_3 y0_3 x0_4 y0_4
        have ho : false = o := by rw [← HA2.out, hio, Bool.false_and]
        subst ho
        clear hio
        go_wp2_with fail
        go_ret
        exact ⟨rfl, below_step zb (below_step gb2 hb3)⟩
      case true =>
        refine (vm_instr c _ x.op x.to x.a x.b x.q.ng _ _ x.q.n x.q.d W0.heap.size N L _ (i0.to gb2) HX2 hrow2 HL.out (by omega) HN.out.symm Hr.out Hcl.out true hio).mono ?_
        rintro e w3 ⟨rfl, hb3⟩
        clear s0 s1 s2 s3 s4 s5 s6
        clear x0_0 y0_0 x0_1 y0_1 x0_2 y0_2 x0_3 y0_3 x0_4 y0_4
        have gb3 := below_step gb2 hb3
        have hrow3 := hrow2.to hb3
        obtain ⟨s0, s1, s2, s3, s4, s5, s6⟩ := HT.out _ hb3
        obtain ⟨z0, x0_0, x0_1, x0_2, x0_3, x0_4, y0_0, y0_1, y0_2, y0_3, y0_4⟩ := HXW0.out _ gb3
        have HA3 : Hid (allOk c (more L x) (c.all.drop (k + 1)) = o) := by show _ = _; rw [← HA2.out, hio, Bool.true_and]
        clear hrow2 gb2
        by_cases h10 : x.op = 10
        · have t : (x.op != 10) = false := by simp; exact h10
          have em : more L x = L := by unfold more; rw [if_pos h10]
          have HA4 : Hid (allOk c L (c.all.drop (k + 1)) = o) := by show _ = _; rw [← HA3.out, em]
          clear h10 em hio
          go_wp2_with fail
          go_roundw
          case rel => exact ⟨k + 1, L, by omega, by go_num, gb3, hrow3, HA4, HL⟩
          case measure => simp [intOf]; omega
        · have t : (x.op != 10) = true := by simp; exact h10
          have hto := insOk_to hio h10
          obtain ⟨T, hT⟩ := Int.eq_ofNat_of_zero_le hto.1
          have hTN : T < N := by have := HN.out; omega
          have em : more L x = L ++ [(T : Int)] := by unfold more; rw [if_neg h10, hT]
          have HA4 : Hid (allOk c (L ++ [(T : Int)]) (c.all.drop (k + 1)) = o) := by show _ = _; rw [← HA3.out, em]
          have HL4 : Hid (∀ x ∈ L ++ [(T : Int)], 0 ≤ x ∧ x < (N : Int)) := fun y hy => by
            rcases List.mem_append.1 hy with hy | hy
            · exact HL.out y hy
            · rw [List.mem_singleton.1 hy]; omega
          rw [hT] at s1
          obtain ⟨r1, r2⟩ := hrow3.2 T hTN
          have hTi : (T : Int) < (N : Int) := by omega
          clear h10 em hio hto hT HA3
          go_wp2_with fail
          go_roundw
          case rel => exact ⟨k + 1, L ++ [(T : Int)], by omega, by go_num, gb3.setCell (Nat.le_refl _) _, (hrow3.set T (.bool true)).cast (fun i _ => flags_put i (N := N)), HA4, HL4⟩
          case measure => simp [intOf]; omega
    · obtain rfl : k = n0 := by omega
      have ho : true = o := by
        have := HA.out
        rw [← H0.out, List.drop_length] at this
        exact this
      subst ho
      go_wp2_with fail
      go_ret
      exact ⟨rfl, below_step zb gb⟩

theorem vm_right (c : Cd) (v : Value) (w : World) (hc : IsC w c v) (hs : ShortC 1000 c.all) (o : Bool) (ho : rightC c = o) :
    Calls Tryz.prog 14 #[aggC c v] w (fun e w' => e = .returned (.bool o) ∧ Below w.heap.size w w') := by
  unfold rightC at ho
  cases h0 : hdrOk c with
  | false => rw [h0] at ho; obtain rfl : false = o := ho; exact vm_right_hdr c v w hc hs h0
  | true => rw [h0, Bool.true_and] at ho; exact vm_right_all c v w hc hs h0 o ho

end Go.Proofs.YtkjcdnlpjldhaaaGreat


namespace Go.Proofs.YtkjcdnlpjldhaaaGreat
open Go.RowKit Tw
set_option linter.unusedVariables false
set_option linter.unusedSimpArgs false

theorem heavyL_drop {wt : Int → Int} {m : Int} {l : List Ins} {k : Nat} (h : k < l.length) : heavyL wt m (l.drop k) =
    if l[k].op = 10 then heavyL wt m (l.drop (k + 1)) else heavyL (upd wt l[k].to (wOf wt l[k])) (max m (wOf wt l[k])) (l.drop (k + 1)) := by
  rw [List.drop_eq_getElem_cons h]; rfl

def Lite (wt : Int → Int) : Prop := ∀ r, 0 ≤ wt r ∧ wt r ≤ 1000000

theorem wOf_lite {wt : Int → Int} (h : Lite wt) (x : Ins) : 0 ≤ wOf wt x ∧ wOf wt x ≤ 1000000 := by
  have ha := h x.a
  have hb := h x.b
  have h1 : 0 ≤ (if 1 ≤ opRegs x.op then wt x.a else 1) := by split <;> omega
  have h2 : 0 ≤ (if opRegs x.op = 2 then (if 1 ≤ opRegs x.op then wt x.a else 1) + wt x.b else (if 1 ≤ opRegs x.op then wt x.a else 1)) := by
    by_cases h : opRegs x.op = 2
    · rw [if_pos h]; omega
    · rw [if_neg h]; exact h1
  have h3 : 0 ≤ (if x.op = 7 then (if opRegs x.op = 2 then (if 1 ≤ opRegs x.op then wt x.a else 1) + wt x.b else (if 1 ≤ opRegs x.op then wt x.a else 1)) * max 1 (max x.b (-x.b)) else (if opRegs x.op = 2 then (if 1 ≤ opRegs x.op then wt x.a else 1) + wt x.b else (if 1 ≤ opRegs x.op then wt x.a else 1))) := by
    by_cases h : x.op = 7
    · rw [if_pos h]; exact Int.mul_nonneg h2 (by omega)
    · rw [if_neg h]; exact h2
  unfold wOf
  constructor
  · exact Int.le_min.2 ⟨h3, by decide⟩
  · exact Int.min_le_right _ _

theorem Lite.upd {wt : Int → Int} (h : Lite wt) (x : Ins) : Lite (upd wt x.to (wOf wt x)) := by
  intro r
  unfold Go.Proofs.YtkjcdnlpjldhaaaGreat.upd
  split
  · exact wOf_lite h x
  · exact h r

theorem wOf_none {wt : Int → Int} {x : Ins} (h : x.op = 0 ∨ x.op = 1) : wOf wt x = 1 := by
  unfold wOf
  rcases h with h | h <;> rw [h] <;> simp [opRegs] <;> decide

theorem wOf_two {wt : Int → Int} {x : Ins} (h : opRegs x.op = 2) : wOf wt x = min (wt x.a + wt x.b) 1000000 := by
  have h7 : x.op ≠ 7 := fun e => by rw [e] at h; exact absurd h (by decide)
  unfold wOf
  simp only [if_pos h, if_pos (show 1 ≤ opRegs x.op by omega), if_neg h7]

theorem wOf_one {wt : Int → Int} {x : Ins} (h : x.op = 6) : wOf wt x = min (wt x.a) 1000000 := by
  unfold wOf; rw [h]; simp [opRegs]

theorem wOf_pow {wt : Int → Int} {x : Ins} (h : x.op = 7) : wOf wt x = min (wt x.a * max 1 (max x.b (-x.b))) 1000000 := by
  unfold wOf; rw [h]; simp [opRegs]

theorem row_upd {N T : Nat} {wt : Int → Int} {z : Int} (i : Nat) : (if i = T then Value.int .i64 z else Value.int .i64 (wt i)) = .int .i64 (upd wt (T : Int) z i) := by
  unfold upd
  by_cases h : i = T
  · rw [if_pos h, h, if_pos rfl]
  · rw [if_neg h, if_neg (by omega)]

theorem insOk_a {c : Cd} {L : List Int} {x : Ins} (h : insOk c L x = true) (h1 : 1 ≤ opRegs x.op) : x.a ∈ L := by
  unfold insOk aOk at h
  rw [if_neg (fun e => by rw [e] at h1; exact absurd h1 (by decide)), if_neg (fun e => by rw [e] at h1; exact absurd h1 (by decide))] at h
  simp only [Bool.and_eq_true, decide_eq_true_eq] at h
  exact h.1.1.2

theorem insOk_b {c : Cd} {L : List Int} {x : Ins} (h : insOk c L x = true) (h1 : opRegs x.op = 2) : x.b ∈ L := by
  unfold insOk bOk at h
  rw [if_neg (fun e => by rw [e] at h1; exact absurd h1 (by decide)), if_pos h1] at h
  simp only [Bool.and_eq_true, decide_eq_true_eq] at h
  exact h.1.2

theorem insOk_pow {c : Cd} {L : List Int} {x : Ins} (h : insOk c L x = true) (h1 : x.op = 7) : -21 ≤ x.b ∧ x.b ≤ 21 := by
  unfold insOk bOk at h
  rw [if_pos h1] at h
  simp only [Bool.and_eq_true, decide_eq_true_eq] at h
  exact h.1.2

theorem insOk_op {c : Cd} {L : List Int} {x : Ins} (h : insOk c L x = true) : 0 ≤ opRegs x.op := by
  unfold insOk at h
  simp only [Bool.and_eq_true, decide_eq_true_eq] at h
  exact h.1.1.1.1

theorem op_sorts {op : Int} (h : 0 ≤ opRegs op) : (op = 0 ∨ op = 1) ∨ opRegs op = 2 ∨ op = 6 ∨ op = 7 ∨ op = 10 := by
  rcases opRegs_cases _ h with e | e | e | e | e | e | e | e | e | e | e <;> rw [e] <;> decide

theorem prod_le {a b : Int} (ha : 0 ≤ a ∧ a ≤ 1000000) (hb : 1 ≤ b ∧ b ≤ 21) : 0 ≤ a * b ∧ a * b ≤ 21000000 := by
  have h := Int.mul_le_mul ha.2 hb.2 (by omega) (by decide)
  exact ⟨Int.mul_nonneg ha.1 (by omega), by simpa using h⟩

end Go.Proofs.YtkjcdnlpjldhaaaGreat


namespace Go.Proofs.YtkjcdnlpjldhaaaGreat
open Go.RowKit Tw
set_option linter.unusedVariables false
set_option linter.unusedSimpArgs false

theorem szq_powk (x : Rat) : ∀ n : Nat, szq (x ^ n) ≤ max 1 (szq x * n)
  | 0 => by
    rw [Rat.pow_zero]
    have : szq 1 ≤ 1 := by decide +kernel
    omega
  | n + 1 => by
    have h1 := szq_mul (x ^ n) x
    have h2 := szq_powk x n
    have h3 := szq_one x
    rw [Rat.pow_succ, Nat.mul_succ]
    rcases Nat.eq_zero_or_pos n with h | h
    · subst h
      rw [Rat.pow_zero, Rat.one_mul]
      omega
    · have h4 : 1 ≤ szq x * n := Nat.mul_pos h3 h
      omega

theorem heavyL_ge : ∀ (l : List Ins) (wt : Int → Int) (m : Int), m ≤ heavyL wt m l
  | [], _, _ => Int.le_refl _
  | x :: t, wt, m => by
    unfold heavyL
    split
    · exact heavyL_ge t wt m
    · have := heavyL_ge t (upd wt x.to (wOf wt x)) (max m (wOf wt x))
      omega

theorem szq_zero1 : szq 0 ≤ 1 := by decide +kernel

theorem szq_two {p : List Rat} {R : Int → Rat} {x : Ins} (h : opRegs x.op = 2) : szq (opV p R x) ≤ szq (R x.a) + szq (R x.b) + 1 := by
  have h1 := szq_add (R x.a) (R x.b)
  have h2 := szq_sub (R x.a) (R x.b)
  have h3 := szq_mul (R x.a) (R x.b)
  have h4 := szq_div (R x.a) (R x.b)
  unfold opV
  rcases opRegs_cases x.op (by omega) with e | e | e | e | e | e | e | e | e | e | e <;> rw [e] at h ⊢ <;>
    first
    | exact absurd h (by decide)
    | (simp; omega)

theorem szq_pow7 {p : List Rat} {R : Int → Rat} {x : Ins} (h : x.op = 7) : szq (opV p R x) ≤ max 1 (szq (R x.a) * x.b.natAbs) := by
  have h1 := szq_powk (R x.a) x.b.natAbs
  have h2 := szq_inv (R x.a ^ x.b.natAbs)
  unfold opV
  rw [h]
  simp
  split <;> omega

theorem opV_six {p : List Rat} {R : Int → Rat} {x : Ins} (h : x.op = 6) : opV p R x = -R x.a := by unfold opV; rw [h]; simp

theorem opV_ten {p : List Rat} {R : Int → Rat} {x : Ins} (h : x.op = 10) : opV p R x = R x.a := by unfold opV; rw [h]; simp

theorem opV_zero {p : List Rat} {R : Int → Rat} {x : Ins} (h : x.op = 0) : opV p R x = p.getD x.a.toNat 0 := by unfold opV; rw [h]; simp

theorem opV_one {p : List Rat} {R : Int → Rat} {x : Ins} (h : x.op = 1) : opV p R x = x.q.num := by unfold opV; rw [h]; simp

theorem getD_small {p : List Rat} {K : Nat} (hK : 1 ≤ K) (h : ∀ q ∈ p, szq q ≤ K) (i : Nat) : szq (p.getD i 0) ≤ K := by
  rcases Nat.lt_or_ge i p.length with k | k
  · rw [show p.getD i 0 = p[i] by simp [k]]
    exact h _ (List.getElem_mem k)
  · rw [show p.getD i 0 = 0 by simp [k]]
    exact Nat.le_trans szq_zero1 hK

def Thin (L : List Int) (wt : Int → Int) (R : Int → Rat) : Prop := ∀ r ∈ L, 1 ≤ wt r ∧ wt r ≤ 20 ∧ (szq (R r) : Int) + 1 ≤ 8 * wt r

theorem thin_step {c : Cd} {L : List Int} {wt : Int → Int} {R : Int → Rat} {p : List Rat} {x : Ins} (hx : insOk c L x = true) (h : Thin L wt R) (hp : ∀ q ∈ p, szq q ≤ 7)
    (hq : szq x.q.num ≤ 7) (h10 : x.op ≠ 10) (hw : wOf wt x ≤ 20) : 1 ≤ wOf wt x ∧ (szq (opV p R x) : Int) + 1 ≤ 8 * wOf wt x ∧ (x.op = 7 → szq (R x.a) * x.b.natAbs < 1000) := by
  rcases op_sorts (insOk_op hx) with e | e | e | e | e
  · rw [wOf_none e]
    rcases e with e | e
    · rw [opV_zero e]
      have := getD_small (by omega) hp x.a.toNat
      exact ⟨by omega, by omega, fun k => by omega⟩
    · rw [opV_one e]
      exact ⟨by omega, by omega, fun k => by omega⟩
  · have ha := h _ (insOk_a hx (by omega))
    have hb := h _ (insOk_b hx e)
    have hs := szq_two (p := p) (R := R) e
    rw [wOf_two e] at hw ⊢
    exact ⟨by omega, by omega, fun k => by rw [k] at e; exact absurd e (by decide)⟩
  · have ha := h _ (insOk_a hx (by rw [e]; decide))
    rw [wOf_one e] at hw ⊢
    rw [opV_six e, szq_neg]
    exact ⟨by omega, by omega, fun k => by omega⟩
  · have ha := h _ (insOk_a hx (by rw [e]; decide))
    have hb := insOk_pow hx e
    have hs := szq_pow7 (p := p) (R := R) e
    rw [wOf_pow e] at hw ⊢
    obtain ⟨k, hk⟩ : ∃ k : Nat, x.b.natAbs = k := ⟨_, rfl⟩
    have hm : max 1 (max x.b (-x.b)) = ((max 1 k : Nat) : Int) := by omega
    have hk2 : k ≤ 21 := by omega
    rw [hk] at hs
    rw [hm] at hw ⊢
    have hle : wt x.a * ((max 1 k : Nat) : Int) ≤ 20 := by
      have := (prod_le (a := wt x.a) (b := ((max 1 k : Nat) : Int)) (by omega) (by omega)).2
      omega
    have hmin : min (wt x.a * ((max 1 k : Nat) : Int)) 1000000 = wt x.a * ((max 1 k : Nat) : Int) := by omega
    rw [hmin]
    have h1 : 1 * 1 ≤ wt x.a * ((max 1 k : Nat) : Int) := Int.mul_le_mul ha.1 (by omega) (by decide) (by omega)
    have h2 : ((szq (R x.a) : Int) + 1) * ((max 1 k : Nat) : Int) ≤ 8 * wt x.a * ((max 1 k : Nat) : Int) := Int.mul_le_mul_of_nonneg_right ha.2.2 (by omega)
    rw [Int.add_mul, Int.one_mul, Int.mul_assoc] at h2
    have h3 : szq (R x.a) * k ≤ szq (R x.a) * max 1 k := Nat.mul_le_mul_left _ (Nat.le_max_right _ _)
    have h4 : ((szq (R x.a) * max 1 k : Nat) : Int) = (szq (R x.a) : Int) * ((max 1 k : Nat) : Int) := by push_cast; rfl
    have h5 : 1 ≤ szq (R x.a) * max 1 k := Nat.mul_pos (szq_one _) (by omega)
    rw [← h4] at h2
    generalize wt x.a * ((max 1 k : Nat) : Int) = P at *
    generalize szq (R x.a) * max 1 k = Q at *
    rw [hk]
    generalize szq (R x.a) * k = T at *
    exact ⟨by omega, by omega, fun _ => by omega⟩
  · exact absurd e h10

theorem Thin.next {c : Cd} {L : List Int} {wt : Int → Int} {R : Int → Rat} {x : Ins} {v : Rat} (h : Thin L wt R) (h10 : x.op ≠ 10) (hw : wOf wt x ≤ 20) (h1 : 1 ≤ wOf wt x ∧ (szq v : Int) + 1 ≤ 8 * wOf wt x) :
    Thin (more L x) (upd wt x.to (wOf wt x)) (upd R x.to v) := by
  intro r hr
  unfold more at hr
  rw [if_neg h10, List.mem_append] at hr
  by_cases e : r = x.to
  · subst e
    rw [upd_same, upd_same]
    exact ⟨h1.1, hw, h1.2⟩
  · rw [upd_other _ _ e, upd_other _ _ e]
    rcases hr with hr | hr
    · exact h r hr
    · exact absurd (List.mem_singleton.1 hr) e

theorem fits_heavy {c : Cd} {p : List Rat} (hp : ∀ q ∈ p, szq q ≤ 7) : ∀ (l : List Ins) (L : List Int) (wt : Int → Int) (m : Int) (s : St), (∀ x ∈ l, szq x.q.num ≤ 7) → allOk c L l = true → Thin L wt s.R → heavyL wt m l ≤ 20 → fitsL 1000 p s l
  | [], _, _, _, _, _, _, _, _ => trivial
  | x :: t, L, wt, m, s, hl, ha, hT, hh => by
    unfold allOk at ha
    rw [Bool.and_eq_true] at ha
    have hlt : ∀ y ∈ t, szq y.q.num ≤ 7 := fun y hy => hl y (List.mem_cons_of_mem _ hy)
    unfold heavyL at hh
    unfold fitsL
    by_cases h10 : x.op = 10
    · rw [if_pos h10] at hh
      have hm : more L x = L := by unfold more; rw [if_pos h10]
      refine ⟨fun _ => ⟨?_, fun k => by omega⟩, fun _ => ?_⟩
      · rw [opV_ten h10]
        have := hT _ (insOk_a ha.1 (by rw [h10]; decide))
        omega
      · refine fits_heavy hp t L wt m _ hlt (by rw [← hm]; exact ha.2) ?_ hh
        unfold St.next
        rw [if_pos h10]
        exact hT
    · rw [if_neg h10] at hh
      have hw : wOf wt x ≤ 20 := by have := heavyL_ge t (upd wt x.to (wOf wt x)) (max m (wOf wt x)); omega
      have hs := thin_step (p := p) ha.1 hT hp (hl x (List.mem_cons_self ..)) h10 hw
      refine ⟨fun _ => ⟨by omega, hs.2.2⟩, fun _ => ?_⟩
      refine fits_heavy hp t (more L x) _ _ _ hlt ha.2 ?_ hh
      unfold St.next
      rw [if_neg h10]
      exact hT.next (c := c) h10 hw ⟨hs.1, hs.2.1⟩

theorem fits_code {c : Cd} {p : List Rat} (hp : ∀ q ∈ p, szq q ≤ 7) (hl : ∀ x ∈ c.all, szq x.q.num ≤ 7) (hr : rightC c = true) (hh : heavyC c ≤ 20) : fitsL 1000 p St.zero c.all := by
  unfold heavyC at hh
  rw [if_pos hr] at hh
  unfold rightC at hr
  rw [Bool.and_eq_true] at hr
  exact fits_heavy hp c.all [] (fun _ => 0) 0 St.zero hl hr.2 (fun r h => by cases h) hh

end Go.Proofs.YtkjcdnlpjldhaaaGreat


namespace Go.Proofs.YtkjcdnlpjldhaaaGreat
open Go.RowKit Tw
set_option linter.unusedVariables false
set_option linter.unusedSimpArgs false

def Names (f : Int → Int) (n N : Int) : Prop := (∀ r s, 0 ≤ r → r < n → 0 ≤ s → s < n → f r = f s → r = s) ∧ ∀ r, 0 ≤ f r ∧ f r < N

theorem insOk_to' {c : Cd} {L : List Int} {x : Ins} (h : insOk c L x = true) : 0 ≤ x.to ∧ x.to < mostTo c x := by
  unfold insOk at h
  simp only [Bool.and_eq_true, decide_eq_true_eq] at h
  exact h.2

def Agree {α : Type} (f : Int → Int) (L : List Int) (u v : Int → α) : Prop := ∀ r ∈ L, v (f r) = u r

theorem Agree.upd {α : Type} {f : Int → Int} {L : List Int} {u v : Int → α} {n N : Int} (hf : Names f n N) (hL : ∀ r ∈ L, 0 ≤ r ∧ r < n) {i : Int} (hi : 0 ≤ i ∧ i < n) (h : Agree f L u v) (z : α) :
    Agree f (L ++ [i]) (upd u i z) (upd v (f i) z) := by
  intro r hr
  by_cases e : r = i
  · subst e
    rw [upd_same, upd_same]
  · rcases List.mem_append.1 hr with hr | hr
    · have := hL r hr
      rw [upd_other _ _ e, upd_other _ _ (fun k => e (hf.1 _ _ this.1 this.2 hi.1 hi.2 k))]
      exact h r hr
    · exact absurd (List.mem_singleton.1 hr) e

end Go.Proofs.YtkjcdnlpjldhaaaGreat


namespace Go.Proofs.YtkjcdnlpjldhaaaGreat
open Go.RowKit Tw
set_option linter.unusedVariables false
set_option linter.unusedSimpArgs false
attribute [local go_sem ↓] Go.wp_at_zero Go.wp_at_succ

def RdI (w : World) (v : Value) (l : List Int) : Prop :=
  ∃ a cap, v = .slice a l.length cap ∧ l.length ≤ maxLen ∧ ∀ i (h : i < l.length), ∃ b, a = some ⟨b, 0, none⟩ ∧ w.cell? ⟨b, i, none⟩ = some (.int .i64 l[i])

theorem RdI.to {w w' : World} {v : Value} {l : List Int} (h : RdI w v l) (hb : Below w.heap.size w w') : RdI w' v l := by
  obtain ⟨a, cap, hv, h1, h2⟩ := h
  exact ⟨a, cap, hv, h1, fun i hi => let ⟨b, e, k⟩ := h2 i hi; ⟨b, e, (hb.cell (p := ⟨b, i, none⟩) (block_lt k)).trans k⟩⟩

theorem RdI.drew {w : World} {v : Value} {l : List Int} (h : RdI w v l) : RdI w.drew v l := h.to (Below.refl _ _).drew

theorem RdI.open {w : World} {v : Value} {l : List Int} (h : RdI w v l) : ∃ a n cap, v = .slice a n cap ∧ Hid (l.length = n) ∧ n ≤ maxLen := by
  obtain ⟨a, cap, hv, h1, _⟩ := h
  exact ⟨a, _, cap, hv, rfl, h1⟩

theorem RdI.nth {w : World} {a : Option Addr} {n cap : Nat} {l : List Int} (h : RdI w (.slice a n cap) l) {i : Nat} (hi : i < l.length) : ∃ b, a = some ⟨b, 0, none⟩ ∧ w.cell? ⟨b, i, none⟩ = some (.int .i64 l[i]) := by
  obtain ⟨a', cap', hv, _, h2⟩ := h
  injection hv with e1 e2 e3
  subst e1
  exact h2 i hi

theorem OwnV.rdI {e : TypeId} {base : Nat} {w : World} {v : Value} {l : List Int} (h : OwnV e base w v (l.map (Value.int .i64))) : RdI w v l := by
  obtain ⟨a, cap, hv, h1, h2⟩ := h.open
  rw [List.length_map] at hv h1
  refine ⟨a, cap, hv, h1, fun i hi => ?_⟩
  obtain ⟨b, e1, e2, _⟩ := h2 i (by rw [List.length_map]; exact hi)
  refine ⟨b, e1, ?_⟩
  rw [e2, List.getElem?_map, List.getElem?_eq_getElem hi]; rfl

def lastI {α : Type} (l : List Ins) (xs : List α) (d : α) (r : Int) : Nat → α
  | 0 => d
  | k + 1 => match l[k]?, xs[k]? with
    | some x, some y => if x.op ≠ 10 ∧ x.to = r then y else lastI l xs d r k
    | _, _ => lastI l xs d r k

theorem lastI_step {α : Type} {l : List Ins} {xs : List α} {d : α} {r : Int} {k : Nat} (h : k < l.length) (h' : k < xs.length) : lastI l xs d r (k + 1) = if l[k].op ≠ 10 ∧ l[k].to = r then xs[k] else lastI l xs d r k := by
  show (match l[k]?, xs[k]? with | some x, some y => _ | _, _ => _) = _
  rw [List.getElem?_eq_getElem h, List.getElem?_eq_getElem h']

theorem lastI_more {α : Type} {l : List Ins} {xs ys : List α} {d : α} {r : Int} : ∀ {k : Nat}, k ≤ xs.length → lastI l (xs ++ ys) d r k = lastI l xs d r k
  | 0, _ => rfl
  | k + 1, h => by
    show (match l[k]?, (xs ++ ys)[k]? with | some x, some y => _ | _, _ => _) = (match l[k]?, xs[k]? with | some x, some y => _ | _, _ => _)
    rw [List.getElem?_append_left (by omega), lastI_more (k := k) (by omega)]

theorem lastI_next {α : Type} {l : List Ins} {xs : List α} {d y : α} {r : Int} {k : Nat} (h : k < l.length) (h' : xs.length = k) : lastI l (xs ++ [y]) d r (k + 1) = if l[k].op ≠ 10 ∧ l[k].to = r then y else lastI l xs d r k := by
  rw [lastI_step h (by simp; omega), lastI_more (by omega)]
  simp only [List.getElem_append_right (Nat.le_of_eq h'), h', Nat.sub_self, List.getElem_cons_zero]

set_option maxRecDepth 100000 in
set_option maxHeartbeats 20000000 in
theorem ref25_regs (op : Int) (w : World) : Calls Tryz.prog 36 #[.int .i64 op] w (fun e w' => e = .returned (.int .i64 (opRegs op)) ∧ w = w') := by
  by_cases h : 0 ≤ op ∧ op ≤ 10
  · have h' : op = 0 ∨ op = 1 ∨ op = 2 ∨ op = 3 ∨ op = 4 ∨ op = 5 ∨ op = 6 ∨ op = 7 ∨ op = 8 ∨ op = 9 ∨ op = 10 := by omega
    clear h
    rcases h' with rfl | rfl | rfl | rfl | rfl | rfl | rfl | rfl | rfl | rfl | rfl
    all_goals
      go_enter Tryz.func36, Tryz.ntmps36
      go_wp2_with fail
      go_ret
      exact ⟨rfl, rfl⟩
  · rw [opRegs_no h]
    have t0 : (op == 0) = false := by simp; omega
    have t1 : (op == 1) = false := by simp; omega
    have t6 : (op == 6) = false := by simp; omega
    have t7 : (op == 7) = false := by simp; omega
    have t8 : (op == 8) = false := by simp; omega
    have t9 : (op == 9) = false := by simp; omega
    have t10 : (op == 10) = false := by simp; omega
    by_cases h2 : 2 ≤ op
    · have q2 : decide (2 ≤ op) = true := decide_eq_true h2
      have q5 : decide (op ≤ 5) = false := decide_eq_false (by omega)
      clear h h2
      go_enter Tryz.func36, Tryz.ntmps36
      go_wp2_with fail
      go_ret
      exact ⟨rfl, rfl⟩
    · have q2 : decide (2 ≤ op) = false := decide_eq_false h2
      clear h h2
      go_enter Tryz.func36, Tryz.ntmps36
      go_wp2_with fail
      go_ret
      exact ⟨rfl, rfl⟩

set_option maxRecDepth 100000 in
set_option maxHeartbeats 20000000 in
theorem ref25_in (v : Value) (xs : List Int) (z : Int) (w : World) (h : RdI w v xs) (hs : xs.length ≤ 100000) (o : Bool) (ho : decide (z ∈ xs) = o) :
    Calls Tryz.prog 58 #[v, .int .i64 z] w (fun e w' => e = .returned (.bool o) ∧ w = w') := by
  obtain ⟨a, n, cap, rfl, H0, hm⟩ := h.open
  have hn : n ≤ 100000 := by have := H0.out; omega
  have Ho := Lib.hid ho
  clear ho hs
  go_enter Tryz.func58, Tryz.ntmps58
  go_wp2_with fail
  go_loopw [5] (fun i ww => ∃ k : Nat, k ≤ n ∧ i = .int .i64 k ∧ ww = w ∧ Hid (z ∉ xs.take k)) (fun i _ => n - (intOf i).toNat)
  case atStart => exact ⟨0, Nat.zero_le _, rfl, rfl, by show z ∉ _; simp⟩
  case round =>
    obtain ⟨k, hk, rfl, rfl, HN⟩ := hrel
    by_cases hkn : k < n
    · have hki : (k : Int) < (n : Int) := by omega
      have hkl : k < xs.length := by rw [H0.out]; exact hkn
      obtain ⟨b, rfl, hc⟩ := h.nth hkl
      obtain ⟨y, hy⟩ : ∃ y, xs[k] = y := ⟨_, rfl⟩
      rw [hy] at hc
      by_cases hz : y = z
      · have t : (y == z) = true := by simp; exact hz
        have : o = true := by rw [← Ho.out, ← hz, ← hy]; exact decide_eq_true (List.getElem_mem hkl)
        subst this
        clear hz h
        go_wp2_with fail
        go_ret
        exact ⟨rfl, rfl⟩
      · have t : (y == z) = false := by simp; exact hz
        have HN2 : Hid (z ∉ xs.take (k + 1)) := by
          show z ∉ _
          rw [List.take_succ_eq_append_getElem hkl, List.mem_append, hy]
          rintro (g | g)
          · exact HN.out g
          · exact hz (List.mem_singleton.1 g).symm
        clear hz h
        go_wp2_with fail
        go_roundw
        case rel => exact ⟨k + 1, by omega, by go_num, by first | exact rfl | trivial, HN2⟩
        case measure => simp [intOf] <;> omega
    · obtain rfl : k = n := by omega
      have : o = false := by
        rw [← Ho.out]
        have := HN.out
        rw [← H0.out, List.take_length] at this
        exact decide_eq_false this
      subst this
      go_wp2_with fail
      go_ret
      exact ⟨rfl, rfl⟩

set_option maxRecDepth 100000 in
set_option maxHeartbeats 20000000 in
theorem ref25_weight (c : Cd) (v : Value) (u : Value) (ws : List Int) (r : Int) (w : World) (hc : IsC w c v) (hu : RdI w u ws) (hs : ws.length ≤ c.all.length) (hm : ws.length ≤ 100000) (o : Int) (ho : lastI c.all ws 0 r ws.length = o) :
    Calls Tryz.prog 37 #[aggC c v, u, .int .i64 r] w (fun e w' => e = .returned (.int .i64 o) ∧ Below w.heap.size w w') := by
  obtain ⟨a0, n0, c0, rfl, H0, hm0⟩ := hc.1.open
  obtain ⟨a9, n9, c9, rfl, H9, hm9⟩ := hu.open
  have Hs := Lib.hid hs
  have Ho := Lib.hid ho
  have hn9 : n9 ≤ 100000 := by have := H9.out; omega
  clear hs ho hm
  go_enter Tryz.func37, Tryz.ntmps37
  go_wp2_with fail
  obtain ⟨W0, hW0⟩ : ∃ W0, w.alloc (.cells #[.int .i64 c.ins, .int .i64 c.rows, .int .i64 c.cols, .int .i64 c.regs, .slice a0 n0 c0] 24) = W0 := ⟨_, rfl⟩
  have HXW0 := Lib.hid (show ∀ W', Below W0.heap.size W0 W' → (Bx5 W' w.heap.size (.int .i64 c.ins) (.int .i64 c.rows) (.int .i64 c.cols) (.int .i64 c.regs) (.slice a0 n0 c0)) from fun W' hb => by
      apply bx5 hb
      all_goals first | assumption | (rw [← hW0]; simp [go_sem]))
  have zb : Below w.heap.size w W0 := by rw [← hW0]; exact below_new _ _
  rw [hW0]
  clear hW0
  have i0 := hc.to zb
  have gb : Below W0.heap.size W0 W0 := Below.refl _ _
  obtain ⟨z0, x0_0, x0_1, x0_2, x0_3, x0_4, y0_0, y0_1, y0_2, y0_3, y0_4⟩ := HXW0.out _ gb
  have hu0 := hu.to zb
  go_wp2_with fail
  go_loopw [7] (fun i ww => ∃ (k : Nat), k ≤ n9 ∧ i = .int .i64 ((k : Int) - 1) ∧ Below W0.heap.size W0 ww ∧ Hid (lastI c.all ws 0 r k = o)) (fun i _ => (intOf i + 1).toNat)
  case atStart => exact ⟨n9, Nat.le_refl _, by go_num, gb, by show _ = _; rw [← H9.out]; exact Ho.out⟩
  case round =>
    clear gb x0_0 y0_0 x0_1 y0_1 x0_2 y0_2 x0_3 y0_3 x0_4 y0_4
    obtain ⟨k, hk, rfl, gb, HA⟩ := hrel
    obtain ⟨z0, x0_0, x0_1, x0_2, x0_3, x0_4, y0_0, y0_1, y0_2, y0_3, y0_4⟩ := HXW0.out _ gb
    rcases k with _ | k
    · have : (0 : Int) = o := HA.out
      subst this
      go_wp2_with fail
      go_ret
      exact ⟨rfl, below_step zb gb⟩
    · have hk1 : k < ws.length := by rw [H9.out]; omega
      have hkl : k < c.all.length := by have := Hs.out; omega
      obtain ⟨b, off, rfl, h7⟩ := (i0.to gb).1.nth hkl
      obtain ⟨b2, rfl, hy⟩ := (hu0.to gb).nth hk1
      have HA1 := HA.out
      rw [lastI_step hkl hk1] at HA1
      obtain ⟨x, hx⟩ : ∃ x, c.all[k] = x := ⟨_, rfl⟩
      obtain ⟨y, hy'⟩ : ∃ y, ws[k] = y := ⟨_, rfl⟩
      rw [hy'] at hy HA1
      rw [hx] at HA1 h7
      have hkn0 : k < n0 := by have := H0.out; omega
      obtain ⟨s0, s1, -⟩ := h7
      have e1 : ((k + 1 : Nat) : Int) - 1 = (k : Int) := by omega
      rw [e1]
      have hki : (k : Int) < (n0 : Int) := by omega
      have hki9 : (k : Int) < (n9 : Int) := by omega
      clear e1 hx hy'
      by_cases h10 : x.op = 10
      · have t10 : (x.op != 10) = false := by simp; exact h10
        rw [if_neg (by intro h; exact h.1 h10)] at HA1
        have HA2 := Lib.hid HA1
        clear HA1 HA h10
        go_wp2_with fail
        go_roundw
        case rel => exact ⟨k, by omega, by go_num, gb, HA2⟩
        case measure => simp [intOf] <;> omega
      · have t10 : (x.op != 10) = true := by simp; exact h10
        by_cases hr : x.to = r
        · have tr : (x.to == r) = true := by simp; exact hr
          rw [if_pos ⟨h10, hr⟩] at HA1
          subst HA1
          clear HA h10 hr
          go_wp2_with fail
          go_ret
          exact ⟨rfl, below_step zb gb⟩
        · have tr : (x.to == r) = false := by simp; exact hr
          rw [if_neg (by intro h; exact hr h.2)] at HA1
          have HA2 := Lib.hid HA1
          clear HA1 HA h10 hr
          go_wp2_with fail
          go_roundw
          case rel => exact ⟨k, by omega, by go_num, gb, HA2⟩
          case measure => simp [intOf] <;> omega

end Go.Proofs.YtkjcdnlpjldhaaaGreat

