/-
  The document's answer for code: whether it is right.
-/
import Derived.Test.YtkjcdnlpjldhaaaGreatK21
import Derived.Test.YtkjcdnlpjldhaaaGreatK20
import Derived.Test.YtkjcdnlpjldhaaaGreatK18
import Derived.Test.YtkjcdnlpjldhaaaGreatK16
import Derived.Test.YtkjcdnlpjldhaaaGreatK13
import Derived.Test.YtkjcdnlpjldhaaaGreatK12
import Derived.Test.YtkjcdnlpjldhaaaGreatK10
import Derived.Test.YtkjcdnlpjldhaaaGreatK09
import Derived.Test.YtkjcdnlpjldhaaaGreatK08
import Derived.Test.YtkjcdnlpjldhaaaGreatK07
import Derived.Test.YtkjcdnlpjldhaaaGreatK02
import Derived.Test.YtkjcdnlpjldhaaaGreatK01
import Derived.Test.YtkjcdnlpjldhaaaGreatK06
import Derived.Test.YtkjcdnlpjldhaaaGreatK11
import Derived.Test.YtkjcdnlpjldhaaaGreatK03
import Derived.Test.YtkjcdnlpjldhaaaGreatK04
import Derived.Test.YtkjcdnlpjldhaaaGreatK15
import Derived.Test.YtkjcdnlpjldhaaaGreatK14
import Derived.Test.YtkjcdnlpjldhaaaGreatK17
import Derived.Test.YtkjcdnlpjldhaaaGreatDDeciMath
import Derived.Test.YtkjcdnlpjldhaaaGreatDRef6
import Derived.Test.YtkjcdnlpjldhaaaGreatDRef8
import Derived.Test.YtkjcdnlpjldhaaaGreatDVmRow
import Derived.Test.YtkjcdnlpjldhaaaGreatDVm1
import Derived.Test.YtkjcdnlpjldhaaaGreatDVm5
import Derived.Test.YtkjcdnlpjldhaaaGreatDVm7
import Derived.Deep.RegionHeld3
namespace Go.Proofs.YtkjcdnlpjldhaaaGreat
open Go.RowKit Tw
set_option linter.unusedVariables false
set_option linter.unusedSimpArgs false
attribute [local go_sem ↓] Go.wp_at_zero Go.wp_at_succ

set_option maxRecDepth 100000 in
set_option maxHeartbeats 40000000 in
theorem ref25_right_hdr (c : Cd) (v : Value) (w : World) (hc : IsC w c v) (hs : zbA 1000 c.all) (h0 : zda c = false) :
    Calls Tryz.prog 15 #[aggC c v] w (fun e w' => e = .returned (.bool false) ∧ Below w.heap.size w w') := by
  clear hs
  obtain ⟨a0, n0, c0, rfl, H0, hm0⟩ := hc.1.open
  obtain ⟨e0, te0⟩ : ∃ b, decide (c.ins < 1) = b := ⟨_, rfl⟩
  obtain ⟨e1, te1⟩ : ∃ b, decide (40 < c.ins) = b := ⟨_, rfl⟩
  obtain ⟨e2, te2⟩ : ∃ b, decide (c.rows < 1) = b := ⟨_, rfl⟩
  obtain ⟨e3, te3⟩ : ∃ b, decide (40 < c.rows) = b := ⟨_, rfl⟩
  obtain ⟨e4, te4⟩ : ∃ b, (c.cols != c.ins) = b := ⟨_, rfl⟩
  obtain ⟨e5, te5⟩ : ∃ b, decide (c.regs < 0) = b := ⟨_, rfl⟩
  obtain ⟨e6, te6⟩ : ∃ b, decide (100000 < c.regs) = b := ⟨_, rfl⟩
  obtain ⟨e7, te7⟩ : ∃ b, decide ((100000 : Int) < (n0 : Int)) = b := ⟨_, rfl⟩
  rw [zhe c n0 H0.out, te0, te1, te2, te3, te4, te5, te6, te7] at h0
  cases e0
  case true =>
    clear h0
    go_enter Tryz.func15, Tryz.ntmps15
    go_wp2_with fail
    obtain ⟨W0, ap⟩ : ∃ W0, w.alloc (.cells #[.int .i64 c.ins, .int .i64 c.rows, .int .i64 c.cols, .int .i64 c.regs, .slice a0 n0 c0] 24) = W0 := ⟨_, rfl⟩
    have aq := Lib.hid (show ∀ W', Below W0.heap.size W0 W' → (W'.cell? ⟨w.heap.size, 0, none⟩ = some (.int .i64 c.ins) ∧ W'.cell? ⟨w.heap.size, 1, none⟩ = some (.int .i64 c.rows) ∧ W'.cell? ⟨w.heap.size, 2, none⟩ = some (.int .i64 c.cols) ∧ W'.cell? ⟨w.heap.size, 3, none⟩ = some (.int .i64 c.regs) ∧ W'.cell? ⟨w.heap.size, 4, none⟩ = some (.slice a0 n0 c0)) from fun W' hb =>
      ⟨(hb.cell (p := ⟨w.heap.size, 0, none⟩) (by rw [← ap]; simp <;> omega)).trans (by rw [← ap]; simp [go_sem]), (hb.cell (p := ⟨w.heap.size, 1, none⟩) (by rw [← ap]; simp <;> omega)).trans (by rw [← ap]; simp [go_sem]), (hb.cell (p := ⟨w.heap.size, 2, none⟩) (by rw [← ap]; simp <;> omega)).trans (by rw [← ap]; simp [go_sem]), (hb.cell (p := ⟨w.heap.size, 3, none⟩) (by rw [← ap]; simp <;> omega)).trans (by rw [← ap]; simp [go_sem]), (hb.cell (p := ⟨w.heap.size, 4, none⟩) (by rw [← ap]; simp <;> omega)).trans (by rw [← ap]; simp [go_sem])⟩)
    have cf := Lib.hid (show ∀ W', Below W0.heap.size W0 W' → (W'.frozen? ⟨w.heap.size, 0, none⟩ = false ∧ W'.frozen? ⟨w.heap.size, 1, none⟩ = false ∧ W'.frozen? ⟨w.heap.size, 2, none⟩ = false ∧ W'.frozen? ⟨w.heap.size, 3, none⟩ = false ∧ W'.frozen? ⟨w.heap.size, 4, none⟩ = false) from fun W' hb =>
      ⟨(hb.frozen (p := ⟨w.heap.size, 0, none⟩) (by rw [← ap]; simp <;> omega)).trans (by rw [← ap]; simp [go_sem]), (hb.frozen (p := ⟨w.heap.size, 1, none⟩) (by rw [← ap]; simp <;> omega)).trans (by rw [← ap]; simp [go_sem]), (hb.frozen (p := ⟨w.heap.size, 2, none⟩) (by rw [← ap]; simp <;> omega)).trans (by rw [← ap]; simp [go_sem]), (hb.frozen (p := ⟨w.heap.size, 3, none⟩) (by rw [← ap]; simp <;> omega)).trans (by rw [← ap]; simp [go_sem]), (hb.frozen (p := ⟨w.heap.size, 4, none⟩) (by rw [← ap]; simp <;> omega)).trans (by rw [← ap]; simp [go_sem])⟩)
    have cg := Lib.hid (show ∀ W', Below W0.heap.size W0 W' → (w.heap.size < W'.heap.size) from fun W' hb =>
      Nat.lt_of_lt_of_le (by rw [← ap]; simp <;> omega) hb.size)
    have zb : Below w.heap.size w W0 := by rw [← ap]; exact bN _ _
    rw [ap]
    clear ap
    have i0 := hc.to zb
    have gb : Below W0.heap.size W0 W0 := Below.refl _ _
    obtain ⟨ae, af, ah, az, aA⟩ := aq.out _ gb
    obtain ⟨ai, ak, al, aE, aF⟩ := cf.out _ gb
    obtain z0 := cg.out _ gb
    go_wp2_with fail
    go_ret
    exact ⟨rfl, bS zb gb⟩
  case false =>
    cases e1
    case true =>
      clear h0
      go_enter Tryz.func15, Tryz.ntmps15
      go_wp2_with fail
      obtain ⟨W0, ap⟩ : ∃ W0, w.alloc (.cells #[.int .i64 c.ins, .int .i64 c.rows, .int .i64 c.cols, .int .i64 c.regs, .slice a0 n0 c0] 24) = W0 := ⟨_, rfl⟩
      have aq := Lib.hid (show ∀ W', Below W0.heap.size W0 W' → (W'.cell? ⟨w.heap.size, 0, none⟩ = some (.int .i64 c.ins) ∧ W'.cell? ⟨w.heap.size, 1, none⟩ = some (.int .i64 c.rows) ∧ W'.cell? ⟨w.heap.size, 2, none⟩ = some (.int .i64 c.cols) ∧ W'.cell? ⟨w.heap.size, 3, none⟩ = some (.int .i64 c.regs) ∧ W'.cell? ⟨w.heap.size, 4, none⟩ = some (.slice a0 n0 c0)) from fun W' hb =>
        ⟨(hb.cell (p := ⟨w.heap.size, 0, none⟩) (by rw [← ap]; simp <;> omega)).trans (by rw [← ap]; simp [go_sem]), (hb.cell (p := ⟨w.heap.size, 1, none⟩) (by rw [← ap]; simp <;> omega)).trans (by rw [← ap]; simp [go_sem]), (hb.cell (p := ⟨w.heap.size, 2, none⟩) (by rw [← ap]; simp <;> omega)).trans (by rw [← ap]; simp [go_sem]), (hb.cell (p := ⟨w.heap.size, 3, none⟩) (by rw [← ap]; simp <;> omega)).trans (by rw [← ap]; simp [go_sem]), (hb.cell (p := ⟨w.heap.size, 4, none⟩) (by rw [← ap]; simp <;> omega)).trans (by rw [← ap]; simp [go_sem])⟩)
      have cf := Lib.hid (show ∀ W', Below W0.heap.size W0 W' → (W'.frozen? ⟨w.heap.size, 0, none⟩ = false ∧ W'.frozen? ⟨w.heap.size, 1, none⟩ = false ∧ W'.frozen? ⟨w.heap.size, 2, none⟩ = false ∧ W'.frozen? ⟨w.heap.size, 3, none⟩ = false ∧ W'.frozen? ⟨w.heap.size, 4, none⟩ = false) from fun W' hb =>
        ⟨(hb.frozen (p := ⟨w.heap.size, 0, none⟩) (by rw [← ap]; simp <;> omega)).trans (by rw [← ap]; simp [go_sem]), (hb.frozen (p := ⟨w.heap.size, 1, none⟩) (by rw [← ap]; simp <;> omega)).trans (by rw [← ap]; simp [go_sem]), (hb.frozen (p := ⟨w.heap.size, 2, none⟩) (by rw [← ap]; simp <;> omega)).trans (by rw [← ap]; simp [go_sem]), (hb.frozen (p := ⟨w.heap.size, 3, none⟩) (by rw [← ap]; simp <;> omega)).trans (by rw [← ap]; simp [go_sem]), (hb.frozen (p := ⟨w.heap.size, 4, none⟩) (by rw [← ap]; simp <;> omega)).trans (by rw [← ap]; simp [go_sem])⟩)
      have cg := Lib.hid (show ∀ W', Below W0.heap.size W0 W' → (w.heap.size < W'.heap.size) from fun W' hb =>
        Nat.lt_of_lt_of_le (by rw [← ap]; simp <;> omega) hb.size)
      have zb : Below w.heap.size w W0 := by rw [← ap]; exact bN _ _
      rw [ap]
      clear ap
      have i0 := hc.to zb
      have gb : Below W0.heap.size W0 W0 := Below.refl _ _
      obtain ⟨ae, af, ah, az, aA⟩ := aq.out _ gb
      obtain ⟨ai, ak, al, aE, aF⟩ := cf.out _ gb
      obtain z0 := cg.out _ gb
      go_wp2_with fail
      go_ret
      exact ⟨rfl, bS zb gb⟩
    case false =>
      cases e2
      case true =>
        clear h0
        go_enter Tryz.func15, Tryz.ntmps15
        go_wp2_with fail
        obtain ⟨W0, ap⟩ : ∃ W0, w.alloc (.cells #[.int .i64 c.ins, .int .i64 c.rows, .int .i64 c.cols, .int .i64 c.regs, .slice a0 n0 c0] 24) = W0 := ⟨_, rfl⟩
        have aq := Lib.hid (show ∀ W', Below W0.heap.size W0 W' → (W'.cell? ⟨w.heap.size, 0, none⟩ = some (.int .i64 c.ins) ∧ W'.cell? ⟨w.heap.size, 1, none⟩ = some (.int .i64 c.rows) ∧ W'.cell? ⟨w.heap.size, 2, none⟩ = some (.int .i64 c.cols) ∧ W'.cell? ⟨w.heap.size, 3, none⟩ = some (.int .i64 c.regs) ∧ W'.cell? ⟨w.heap.size, 4, none⟩ = some (.slice a0 n0 c0)) from fun W' hb =>
          ⟨(hb.cell (p := ⟨w.heap.size, 0, none⟩) (by rw [← ap]; simp <;> omega)).trans (by rw [← ap]; simp [go_sem]), (hb.cell (p := ⟨w.heap.size, 1, none⟩) (by rw [← ap]; simp <;> omega)).trans (by rw [← ap]; simp [go_sem]), (hb.cell (p := ⟨w.heap.size, 2, none⟩) (by rw [← ap]; simp <;> omega)).trans (by rw [← ap]; simp [go_sem]), (hb.cell (p := ⟨w.heap.size, 3, none⟩) (by rw [← ap]; simp <;> omega)).trans (by rw [← ap]; simp [go_sem]), (hb.cell (p := ⟨w.heap.size, 4, none⟩) (by rw [← ap]; simp <;> omega)).trans (by rw [← ap]; simp [go_sem])⟩)
        have cf := Lib.hid (show ∀ W', Below W0.heap.size W0 W' → (W'.frozen? ⟨w.heap.size, 0, none⟩ = false ∧ W'.frozen? ⟨w.heap.size, 1, none⟩ = false ∧ W'.frozen? ⟨w.heap.size, 2, none⟩ = false ∧ W'.frozen? ⟨w.heap.size, 3, none⟩ = false ∧ W'.frozen? ⟨w.heap.size, 4, none⟩ = false) from fun W' hb =>
          ⟨(hb.frozen (p := ⟨w.heap.size, 0, none⟩) (by rw [← ap]; simp <;> omega)).trans (by rw [← ap]; simp [go_sem]), (hb.frozen (p := ⟨w.heap.size, 1, none⟩) (by rw [← ap]; simp <;> omega)).trans (by rw [← ap]; simp [go_sem]), (hb.frozen (p := ⟨w.heap.size, 2, none⟩) (by rw [← ap]; simp <;> omega)).trans (by rw [← ap]; simp [go_sem]), (hb.frozen (p := ⟨w.heap.size, 3, none⟩) (by rw [← ap]; simp <;> omega)).trans (by rw [← ap]; simp [go_sem]), (hb.frozen (p := ⟨w.heap.size, 4, none⟩) (by rw [← ap]; simp <;> omega)).trans (by rw [← ap]; simp [go_sem])⟩)
        have cg := Lib.hid (show ∀ W', Below W0.heap.size W0 W' → (w.heap.size < W'.heap.size) from fun W' hb =>
          Nat.lt_of_lt_of_le (by rw [← ap]; simp <;> omega) hb.size)
        have zb : Below w.heap.size w W0 := by rw [← ap]; exact bN _ _
        rw [ap]
        clear ap
        have i0 := hc.to zb
        have gb : Below W0.heap.size W0 W0 := Below.refl _ _
        obtain ⟨ae, af, ah, az, aA⟩ := aq.out _ gb
        obtain ⟨ai, ak, al, aE, aF⟩ := cf.out _ gb
        obtain z0 := cg.out _ gb
        go_wp2_with fail
        go_ret
        exact ⟨rfl, bS zb gb⟩
      case false =>
        cases e3
        case true =>
          clear h0
          go_enter Tryz.func15, Tryz.ntmps15
          go_wp2_with fail
          obtain ⟨W0, ap⟩ : ∃ W0, w.alloc (.cells #[.int .i64 c.ins, .int .i64 c.rows, .int .i64 c.cols, .int .i64 c.regs, .slice a0 n0 c0] 24) = W0 := ⟨_, rfl⟩
          have aq := Lib.hid (show ∀ W', Below W0.heap.size W0 W' → (W'.cell? ⟨w.heap.size, 0, none⟩ = some (.int .i64 c.ins) ∧ W'.cell? ⟨w.heap.size, 1, none⟩ = some (.int .i64 c.rows) ∧ W'.cell? ⟨w.heap.size, 2, none⟩ = some (.int .i64 c.cols) ∧ W'.cell? ⟨w.heap.size, 3, none⟩ = some (.int .i64 c.regs) ∧ W'.cell? ⟨w.heap.size, 4, none⟩ = some (.slice a0 n0 c0)) from fun W' hb =>
            ⟨(hb.cell (p := ⟨w.heap.size, 0, none⟩) (by rw [← ap]; simp <;> omega)).trans (by rw [← ap]; simp [go_sem]), (hb.cell (p := ⟨w.heap.size, 1, none⟩) (by rw [← ap]; simp <;> omega)).trans (by rw [← ap]; simp [go_sem]), (hb.cell (p := ⟨w.heap.size, 2, none⟩) (by rw [← ap]; simp <;> omega)).trans (by rw [← ap]; simp [go_sem]), (hb.cell (p := ⟨w.heap.size, 3, none⟩) (by rw [← ap]; simp <;> omega)).trans (by rw [← ap]; simp [go_sem]), (hb.cell (p := ⟨w.heap.size, 4, none⟩) (by rw [← ap]; simp <;> omega)).trans (by rw [← ap]; simp [go_sem])⟩)
          have cf := Lib.hid (show ∀ W', Below W0.heap.size W0 W' → (W'.frozen? ⟨w.heap.size, 0, none⟩ = false ∧ W'.frozen? ⟨w.heap.size, 1, none⟩ = false ∧ W'.frozen? ⟨w.heap.size, 2, none⟩ = false ∧ W'.frozen? ⟨w.heap.size, 3, none⟩ = false ∧ W'.frozen? ⟨w.heap.size, 4, none⟩ = false) from fun W' hb =>
            ⟨(hb.frozen (p := ⟨w.heap.size, 0, none⟩) (by rw [← ap]; simp <;> omega)).trans (by rw [← ap]; simp [go_sem]), (hb.frozen (p := ⟨w.heap.size, 1, none⟩) (by rw [← ap]; simp <;> omega)).trans (by rw [← ap]; simp [go_sem]), (hb.frozen (p := ⟨w.heap.size, 2, none⟩) (by rw [← ap]; simp <;> omega)).trans (by rw [← ap]; simp [go_sem]), (hb.frozen (p := ⟨w.heap.size, 3, none⟩) (by rw [← ap]; simp <;> omega)).trans (by rw [← ap]; simp [go_sem]), (hb.frozen (p := ⟨w.heap.size, 4, none⟩) (by rw [← ap]; simp <;> omega)).trans (by rw [← ap]; simp [go_sem])⟩)
          have cg := Lib.hid (show ∀ W', Below W0.heap.size W0 W' → (w.heap.size < W'.heap.size) from fun W' hb =>
            Nat.lt_of_lt_of_le (by rw [← ap]; simp <;> omega) hb.size)
          have zb : Below w.heap.size w W0 := by rw [← ap]; exact bN _ _
          rw [ap]
          clear ap
          have i0 := hc.to zb
          have gb : Below W0.heap.size W0 W0 := Below.refl _ _
          obtain ⟨ae, af, ah, az, aA⟩ := aq.out _ gb
          obtain ⟨ai, ak, al, aE, aF⟩ := cf.out _ gb
          obtain z0 := cg.out _ gb
          go_wp2_with fail
          go_ret
          exact ⟨rfl, bS zb gb⟩
        case false =>
          cases e4
          case true =>
            clear h0
            go_enter Tryz.func15, Tryz.ntmps15
            go_wp2_with fail
            obtain ⟨W0, ap⟩ : ∃ W0, w.alloc (.cells #[.int .i64 c.ins, .int .i64 c.rows, .int .i64 c.cols, .int .i64 c.regs, .slice a0 n0 c0] 24) = W0 := ⟨_, rfl⟩
            have aq := Lib.hid (show ∀ W', Below W0.heap.size W0 W' → (W'.cell? ⟨w.heap.size, 0, none⟩ = some (.int .i64 c.ins) ∧ W'.cell? ⟨w.heap.size, 1, none⟩ = some (.int .i64 c.rows) ∧ W'.cell? ⟨w.heap.size, 2, none⟩ = some (.int .i64 c.cols) ∧ W'.cell? ⟨w.heap.size, 3, none⟩ = some (.int .i64 c.regs) ∧ W'.cell? ⟨w.heap.size, 4, none⟩ = some (.slice a0 n0 c0)) from fun W' hb =>
              ⟨(hb.cell (p := ⟨w.heap.size, 0, none⟩) (by rw [← ap]; simp <;> omega)).trans (by rw [← ap]; simp [go_sem]), (hb.cell (p := ⟨w.heap.size, 1, none⟩) (by rw [← ap]; simp <;> omega)).trans (by rw [← ap]; simp [go_sem]), (hb.cell (p := ⟨w.heap.size, 2, none⟩) (by rw [← ap]; simp <;> omega)).trans (by rw [← ap]; simp [go_sem]), (hb.cell (p := ⟨w.heap.size, 3, none⟩) (by rw [← ap]; simp <;> omega)).trans (by rw [← ap]; simp [go_sem]), (hb.cell (p := ⟨w.heap.size, 4, none⟩) (by rw [← ap]; simp <;> omega)).trans (by rw [← ap]; simp [go_sem])⟩)
            have cf := Lib.hid (show ∀ W', Below W0.heap.size W0 W' → (W'.frozen? ⟨w.heap.size, 0, none⟩ = false ∧ W'.frozen? ⟨w.heap.size, 1, none⟩ = false ∧ W'.frozen? ⟨w.heap.size, 2, none⟩ = false ∧ W'.frozen? ⟨w.heap.size, 3, none⟩ = false ∧ W'.frozen? ⟨w.heap.size, 4, none⟩ = false) from fun W' hb =>
              ⟨(hb.frozen (p := ⟨w.heap.size, 0, none⟩) (by rw [← ap]; simp <;> omega)).trans (by rw [← ap]; simp [go_sem]), (hb.frozen (p := ⟨w.heap.size, 1, none⟩) (by rw [← ap]; simp <;> omega)).trans (by rw [← ap]; simp [go_sem]), (hb.frozen (p := ⟨w.heap.size, 2, none⟩) (by rw [← ap]; simp <;> omega)).trans (by rw [← ap]; simp [go_sem]), (hb.frozen (p := ⟨w.heap.size, 3, none⟩) (by rw [← ap]; simp <;> omega)).trans (by rw [← ap]; simp [go_sem]), (hb.frozen (p := ⟨w.heap.size, 4, none⟩) (by rw [← ap]; simp <;> omega)).trans (by rw [← ap]; simp [go_sem])⟩)
            have cg := Lib.hid (show ∀ W', Below W0.heap.size W0 W' → (w.heap.size < W'.heap.size) from fun W' hb =>
              Nat.lt_of_lt_of_le (by rw [← ap]; simp <;> omega) hb.size)
            have zb : Below w.heap.size w W0 := by rw [← ap]; exact bN _ _
            rw [ap]
            clear ap
            have i0 := hc.to zb
            have gb : Below W0.heap.size W0 W0 := Below.refl _ _
            obtain ⟨ae, af, ah, az, aA⟩ := aq.out _ gb
            obtain ⟨ai, ak, al, aE, aF⟩ := cf.out _ gb
            obtain z0 := cg.out _ gb
            go_wp2_with fail
            go_ret
            exact ⟨rfl, bS zb gb⟩
          case false =>
            cases e5
            case true =>
              clear h0
              go_enter Tryz.func15, Tryz.ntmps15
              go_wp2_with fail
              obtain ⟨W0, ap⟩ : ∃ W0, w.alloc (.cells #[.int .i64 c.ins, .int .i64 c.rows, .int .i64 c.cols, .int .i64 c.regs, .slice a0 n0 c0] 24) = W0 := ⟨_, rfl⟩
              have aq := Lib.hid (show ∀ W', Below W0.heap.size W0 W' → (W'.cell? ⟨w.heap.size, 0, none⟩ = some (.int .i64 c.ins) ∧ W'.cell? ⟨w.heap.size, 1, none⟩ = some (.int .i64 c.rows) ∧ W'.cell? ⟨w.heap.size, 2, none⟩ = some (.int .i64 c.cols) ∧ W'.cell? ⟨w.heap.size, 3, none⟩ = some (.int .i64 c.regs) ∧ W'.cell? ⟨w.heap.size, 4, none⟩ = some (.slice a0 n0 c0)) from fun W' hb =>
                ⟨(hb.cell (p := ⟨w.heap.size, 0, none⟩) (by rw [← ap]; simp <;> omega)).trans (by rw [← ap]; simp [go_sem]), (hb.cell (p := ⟨w.heap.size, 1, none⟩) (by rw [← ap]; simp <;> omega)).trans (by rw [← ap]; simp [go_sem]), (hb.cell (p := ⟨w.heap.size, 2, none⟩) (by rw [← ap]; simp <;> omega)).trans (by rw [← ap]; simp [go_sem]), (hb.cell (p := ⟨w.heap.size, 3, none⟩) (by rw [← ap]; simp <;> omega)).trans (by rw [← ap]; simp [go_sem]), (hb.cell (p := ⟨w.heap.size, 4, none⟩) (by rw [← ap]; simp <;> omega)).trans (by rw [← ap]; simp [go_sem])⟩)
              have cf := Lib.hid (show ∀ W', Below W0.heap.size W0 W' → (W'.frozen? ⟨w.heap.size, 0, none⟩ = false ∧ W'.frozen? ⟨w.heap.size, 1, none⟩ = false ∧ W'.frozen? ⟨w.heap.size, 2, none⟩ = false ∧ W'.frozen? ⟨w.heap.size, 3, none⟩ = false ∧ W'.frozen? ⟨w.heap.size, 4, none⟩ = false) from fun W' hb =>
                ⟨(hb.frozen (p := ⟨w.heap.size, 0, none⟩) (by rw [← ap]; simp <;> omega)).trans (by rw [← ap]; simp [go_sem]), (hb.frozen (p := ⟨w.heap.size, 1, none⟩) (by rw [← ap]; simp <;> omega)).trans (by rw [← ap]; simp [go_sem]), (hb.frozen (p := ⟨w.heap.size, 2, none⟩) (by rw [← ap]; simp <;> omega)).trans (by rw [← ap]; simp [go_sem]), (hb.frozen (p := ⟨w.heap.size, 3, none⟩) (by rw [← ap]; simp <;> omega)).trans (by rw [← ap]; simp [go_sem]), (hb.frozen (p := ⟨w.heap.size, 4, none⟩) (by rw [← ap]; simp <;> omega)).trans (by rw [← ap]; simp [go_sem])⟩)
              have cg := Lib.hid (show ∀ W', Below W0.heap.size W0 W' → (w.heap.size < W'.heap.size) from fun W' hb =>
                Nat.lt_of_lt_of_le (by rw [← ap]; simp <;> omega) hb.size)
              have zb : Below w.heap.size w W0 := by rw [← ap]; exact bN _ _
              rw [ap]
              clear ap
              have i0 := hc.to zb
              have gb : Below W0.heap.size W0 W0 := Below.refl _ _
              obtain ⟨ae, af, ah, az, aA⟩ := aq.out _ gb
              obtain ⟨ai, ak, al, aE, aF⟩ := cf.out _ gb
              obtain z0 := cg.out _ gb
              go_wp2_with fail
              go_ret
              exact ⟨rfl, bS zb gb⟩
            case false =>
              cases e6
              case true =>
                clear h0
                go_enter Tryz.func15, Tryz.ntmps15
                go_wp2_with fail
                obtain ⟨W0, ap⟩ : ∃ W0, w.alloc (.cells #[.int .i64 c.ins, .int .i64 c.rows, .int .i64 c.cols, .int .i64 c.regs, .slice a0 n0 c0] 24) = W0 := ⟨_, rfl⟩
                have aq := Lib.hid (show ∀ W', Below W0.heap.size W0 W' → (W'.cell? ⟨w.heap.size, 0, none⟩ = some (.int .i64 c.ins) ∧ W'.cell? ⟨w.heap.size, 1, none⟩ = some (.int .i64 c.rows) ∧ W'.cell? ⟨w.heap.size, 2, none⟩ = some (.int .i64 c.cols) ∧ W'.cell? ⟨w.heap.size, 3, none⟩ = some (.int .i64 c.regs) ∧ W'.cell? ⟨w.heap.size, 4, none⟩ = some (.slice a0 n0 c0)) from fun W' hb =>
                  ⟨(hb.cell (p := ⟨w.heap.size, 0, none⟩) (by rw [← ap]; simp <;> omega)).trans (by rw [← ap]; simp [go_sem]), (hb.cell (p := ⟨w.heap.size, 1, none⟩) (by rw [← ap]; simp <;> omega)).trans (by rw [← ap]; simp [go_sem]), (hb.cell (p := ⟨w.heap.size, 2, none⟩) (by rw [← ap]; simp <;> omega)).trans (by rw [← ap]; simp [go_sem]), (hb.cell (p := ⟨w.heap.size, 3, none⟩) (by rw [← ap]; simp <;> omega)).trans (by rw [← ap]; simp [go_sem]), (hb.cell (p := ⟨w.heap.size, 4, none⟩) (by rw [← ap]; simp <;> omega)).trans (by rw [← ap]; simp [go_sem])⟩)
                have cf := Lib.hid (show ∀ W', Below W0.heap.size W0 W' → (W'.frozen? ⟨w.heap.size, 0, none⟩ = false ∧ W'.frozen? ⟨w.heap.size, 1, none⟩ = false ∧ W'.frozen? ⟨w.heap.size, 2, none⟩ = false ∧ W'.frozen? ⟨w.heap.size, 3, none⟩ = false ∧ W'.frozen? ⟨w.heap.size, 4, none⟩ = false) from fun W' hb =>
                  ⟨(hb.frozen (p := ⟨w.heap.size, 0, none⟩) (by rw [← ap]; simp <;> omega)).trans (by rw [← ap]; simp [go_sem]), (hb.frozen (p := ⟨w.heap.size, 1, none⟩) (by rw [← ap]; simp <;> omega)).trans (by rw [← ap]; simp [go_sem]), (hb.frozen (p := ⟨w.heap.size, 2, none⟩) (by rw [← ap]; simp <;> omega)).trans (by rw [← ap]; simp [go_sem]), (hb.frozen (p := ⟨w.heap.size, 3, none⟩) (by rw [← ap]; simp <;> omega)).trans (by rw [← ap]; simp [go_sem]), (hb.frozen (p := ⟨w.heap.size, 4, none⟩) (by rw [← ap]; simp <;> omega)).trans (by rw [← ap]; simp [go_sem])⟩)
                have cg := Lib.hid (show ∀ W', Below W0.heap.size W0 W' → (w.heap.size < W'.heap.size) from fun W' hb =>
                  Nat.lt_of_lt_of_le (by rw [← ap]; simp <;> omega) hb.size)
                have zb : Below w.heap.size w W0 := by rw [← ap]; exact bN _ _
                rw [ap]
                clear ap
                have i0 := hc.to zb
                have gb : Below W0.heap.size W0 W0 := Below.refl _ _
                obtain ⟨ae, af, ah, az, aA⟩ := aq.out _ gb
                obtain ⟨ai, ak, al, aE, aF⟩ := cf.out _ gb
                obtain z0 := cg.out _ gb
                go_wp2_with fail
                go_ret
                exact ⟨rfl, bS zb gb⟩
              case false =>
                cases e7
                case true =>
                  clear h0
                  go_enter Tryz.func15, Tryz.ntmps15
                  go_wp2_with fail
                  obtain ⟨W0, ap⟩ : ∃ W0, w.alloc (.cells #[.int .i64 c.ins, .int .i64 c.rows, .int .i64 c.cols, .int .i64 c.regs, .slice a0 n0 c0] 24) = W0 := ⟨_, rfl⟩
                  have aq := Lib.hid (show ∀ W', Below W0.heap.size W0 W' → (W'.cell? ⟨w.heap.size, 0, none⟩ = some (.int .i64 c.ins) ∧ W'.cell? ⟨w.heap.size, 1, none⟩ = some (.int .i64 c.rows) ∧ W'.cell? ⟨w.heap.size, 2, none⟩ = some (.int .i64 c.cols) ∧ W'.cell? ⟨w.heap.size, 3, none⟩ = some (.int .i64 c.regs) ∧ W'.cell? ⟨w.heap.size, 4, none⟩ = some (.slice a0 n0 c0)) from fun W' hb =>
                    ⟨(hb.cell (p := ⟨w.heap.size, 0, none⟩) (by rw [← ap]; simp <;> omega)).trans (by rw [← ap]; simp [go_sem]), (hb.cell (p := ⟨w.heap.size, 1, none⟩) (by rw [← ap]; simp <;> omega)).trans (by rw [← ap]; simp [go_sem]), (hb.cell (p := ⟨w.heap.size, 2, none⟩) (by rw [← ap]; simp <;> omega)).trans (by rw [← ap]; simp [go_sem]), (hb.cell (p := ⟨w.heap.size, 3, none⟩) (by rw [← ap]; simp <;> omega)).trans (by rw [← ap]; simp [go_sem]), (hb.cell (p := ⟨w.heap.size, 4, none⟩) (by rw [← ap]; simp <;> omega)).trans (by rw [← ap]; simp [go_sem])⟩)
                  have cf := Lib.hid (show ∀ W', Below W0.heap.size W0 W' → (W'.frozen? ⟨w.heap.size, 0, none⟩ = false ∧ W'.frozen? ⟨w.heap.size, 1, none⟩ = false ∧ W'.frozen? ⟨w.heap.size, 2, none⟩ = false ∧ W'.frozen? ⟨w.heap.size, 3, none⟩ = false ∧ W'.frozen? ⟨w.heap.size, 4, none⟩ = false) from fun W' hb =>
                    ⟨(hb.frozen (p := ⟨w.heap.size, 0, none⟩) (by rw [← ap]; simp <;> omega)).trans (by rw [← ap]; simp [go_sem]), (hb.frozen (p := ⟨w.heap.size, 1, none⟩) (by rw [← ap]; simp <;> omega)).trans (by rw [← ap]; simp [go_sem]), (hb.frozen (p := ⟨w.heap.size, 2, none⟩) (by rw [← ap]; simp <;> omega)).trans (by rw [← ap]; simp [go_sem]), (hb.frozen (p := ⟨w.heap.size, 3, none⟩) (by rw [← ap]; simp <;> omega)).trans (by rw [← ap]; simp [go_sem]), (hb.frozen (p := ⟨w.heap.size, 4, none⟩) (by rw [← ap]; simp <;> omega)).trans (by rw [← ap]; simp [go_sem])⟩)
                  have cg := Lib.hid (show ∀ W', Below W0.heap.size W0 W' → (w.heap.size < W'.heap.size) from fun W' hb =>
                    Nat.lt_of_lt_of_le (by rw [← ap]; simp <;> omega) hb.size)
                  have zb : Below w.heap.size w W0 := by rw [← ap]; exact bN _ _
                  rw [ap]
                  clear ap
                  have i0 := hc.to zb
                  have gb : Below W0.heap.size W0 W0 := Below.refl _ _
                  obtain ⟨ae, af, ah, az, aA⟩ := aq.out _ gb
                  obtain ⟨ai, ak, al, aE, aF⟩ := cf.out _ gb
                  obtain z0 := cg.out _ gb
                  go_wp2_with fail
                  go_ret
                  exact ⟨rfl, bS zb gb⟩
                case false =>
                  exact absurd h0 (by decide)

set_option maxRecDepth 100000 in
set_option maxHeartbeats 40000000 in
theorem ref25_right_all (c : Cd) (v : Value) (w : World) (hc : IsC w c v) (hs : zbA 1000 c.all) (h0 : zda c = true) (o : Bool) (ho : zbN c [] c.all = o) :
    Calls Tryz.prog 15 #[aggC c v] w (fun e w' => e = .returned (.bool o) ∧ Below w.heap.size w w') := by
  have hh := h0
  unfold zda at hh
  simp only [decide_eq_true_eq] at hh
  have Hr := Lib.hid (show 1 ≤ c.rows ∧ c.rows ≤ 40 by omega)
  have Hcl := Lib.hid (show 1 ≤ c.cols ∧ c.cols ≤ 40 by omega)
  clear hh
  have Hs := Lib.hid hs
  have Ho := Lib.hid ho
  clear hs ho
  obtain ⟨a0, n0, c0, rfl, H0, hm0⟩ := hc.1.open
  obtain ⟨e0, te0⟩ : ∃ b, decide (c.ins < 1) = b := ⟨_, rfl⟩
  obtain ⟨e1, te1⟩ : ∃ b, decide (40 < c.ins) = b := ⟨_, rfl⟩
  obtain ⟨e2, te2⟩ : ∃ b, decide (c.rows < 1) = b := ⟨_, rfl⟩
  obtain ⟨e3, te3⟩ : ∃ b, decide (40 < c.rows) = b := ⟨_, rfl⟩
  obtain ⟨e4, te4⟩ : ∃ b, (c.cols != c.ins) = b := ⟨_, rfl⟩
  obtain ⟨e5, te5⟩ : ∃ b, decide (c.regs < 0) = b := ⟨_, rfl⟩
  obtain ⟨e6, te6⟩ : ∃ b, decide (100000 < c.regs) = b := ⟨_, rfl⟩
  obtain ⟨e7, te7⟩ : ∃ b, decide ((100000 : Int) < (n0 : Int)) = b := ⟨_, rfl⟩
  rw [zhe c n0 H0.out, te0, te1, te2, te3, te4, te5, te6, te7] at h0
  simp only [Bool.and_eq_true, Bool.not_eq_true'] at h0
  obtain ⟨⟨⟨⟨⟨⟨⟨rfl, rfl⟩, rfl⟩, rfl⟩, rfl⟩, rfl⟩, rfl⟩, rfl⟩ := h0
  have hn0 : n0 ≤ 100000 := by have := of_decide_eq_false te7; omega
  go_enter Tryz.func15, Tryz.ntmps15
  go_wp2_with fail
  obtain ⟨W0, ap⟩ : ∃ W0, w.alloc (.cells #[.int .i64 c.ins, .int .i64 c.rows, .int .i64 c.cols, .int .i64 c.regs, .slice a0 n0 c0] 24) = W0 := ⟨_, rfl⟩
  have aq := Lib.hid (show ∀ W', Below W0.heap.size W0 W' → (W'.cell? ⟨w.heap.size, 0, none⟩ = some (.int .i64 c.ins) ∧ W'.cell? ⟨w.heap.size, 1, none⟩ = some (.int .i64 c.rows) ∧ W'.cell? ⟨w.heap.size, 2, none⟩ = some (.int .i64 c.cols) ∧ W'.cell? ⟨w.heap.size, 3, none⟩ = some (.int .i64 c.regs) ∧ W'.cell? ⟨w.heap.size, 4, none⟩ = some (.slice a0 n0 c0)) from fun W' hb =>
    ⟨(hb.cell (p := ⟨w.heap.size, 0, none⟩) (by rw [← ap]; simp <;> omega)).trans (by rw [← ap]; simp [go_sem]), (hb.cell (p := ⟨w.heap.size, 1, none⟩) (by rw [← ap]; simp <;> omega)).trans (by rw [← ap]; simp [go_sem]), (hb.cell (p := ⟨w.heap.size, 2, none⟩) (by rw [← ap]; simp <;> omega)).trans (by rw [← ap]; simp [go_sem]), (hb.cell (p := ⟨w.heap.size, 3, none⟩) (by rw [← ap]; simp <;> omega)).trans (by rw [← ap]; simp [go_sem]), (hb.cell (p := ⟨w.heap.size, 4, none⟩) (by rw [← ap]; simp <;> omega)).trans (by rw [← ap]; simp [go_sem])⟩)
  have cf := Lib.hid (show ∀ W', Below W0.heap.size W0 W' → (W'.frozen? ⟨w.heap.size, 0, none⟩ = false ∧ W'.frozen? ⟨w.heap.size, 1, none⟩ = false ∧ W'.frozen? ⟨w.heap.size, 2, none⟩ = false ∧ W'.frozen? ⟨w.heap.size, 3, none⟩ = false ∧ W'.frozen? ⟨w.heap.size, 4, none⟩ = false) from fun W' hb =>
    ⟨(hb.frozen (p := ⟨w.heap.size, 0, none⟩) (by rw [← ap]; simp <;> omega)).trans (by rw [← ap]; simp [go_sem]), (hb.frozen (p := ⟨w.heap.size, 1, none⟩) (by rw [← ap]; simp <;> omega)).trans (by rw [← ap]; simp [go_sem]), (hb.frozen (p := ⟨w.heap.size, 2, none⟩) (by rw [← ap]; simp <;> omega)).trans (by rw [← ap]; simp [go_sem]), (hb.frozen (p := ⟨w.heap.size, 3, none⟩) (by rw [← ap]; simp <;> omega)).trans (by rw [← ap]; simp [go_sem]), (hb.frozen (p := ⟨w.heap.size, 4, none⟩) (by rw [← ap]; simp <;> omega)).trans (by rw [← ap]; simp [go_sem])⟩)
  have cg := Lib.hid (show ∀ W', Below W0.heap.size W0 W' → (w.heap.size < W'.heap.size) from fun W' hb =>
    Nat.lt_of_lt_of_le (by rw [← ap]; simp <;> omega) hb.size)
  have zb : Below w.heap.size w W0 := by rw [← ap]; exact bN _ _
  rw [ap]
  clear ap
  have i0 := hc.to zb
  have gb : Below W0.heap.size W0 W0 := Below.refl _ _
  obtain ⟨ae, af, ah, az, aA⟩ := aq.out _ gb
  obtain ⟨ai, ak, al, aE, aF⟩ := cf.out _ gb
  obtain z0 := cg.out _ gb
  go_wp2_with fail
  go_loopw [3, 4] (fun u i ww => ∃ (k : Nat) (L : List Int), k ≤ n0 ∧ i = .int .i64 k ∧ Below W0.heap.size W0 ww ∧ zaR 3 W0.heap.size ww u (L.map (Value.int .i64)) ∧ Hid (zbN c L (c.all.drop k) = o) ∧ L.length ≤ k) (fun _ i _ => n0 - (intOf i).toNat)
  case atStart => exact ⟨0, [], Nat.zero_le _, rfl, gb, zaR.nil _ _ _, by rw [List.drop_zero]; exact Ho.out, Nat.zero_le _⟩
  case round =>
    clear ae ai af ak ah al az aE aA aF
    clear gb
    obtain ⟨k, L, hk, rfl, gb, hO, HA, hL⟩ := hrel
    obtain ⟨ae, af, ah, az, aA⟩ := aq.out _ gb
    obtain ⟨ai, ak, al, aE, aF⟩ := cf.out _ gb
    obtain z0 := cg.out _ gb
    by_cases hkn : k < n0
    · have hki : (k : Int) < (n0 : Int) := by omega
      have hkl : k < c.all.length := by rw [H0.out]; exact hkn
      obtain ⟨b, off, rfl, h7⟩ := i0.1.nth hkl
      have HA1 := HA.out
      rw [zeG hkl] at HA1
      have hsx := Hs.out _ (List.getElem_mem hkl)
      obtain ⟨x, hx⟩ : ∃ x, c.all[k] = x := ⟨_, rfl⟩
      rw [hx] at HA1 h7 hsx
      obtain ⟨vn, vd, s0, s1, s2, s3, s4, s5, s6, hX⟩ := h7.isX hsx.1 hsx.2
      obtain ⟨a1, n1, c1, rfl, H1, hm1⟩ := hX.1.1.open
      obtain ⟨a2, n2, c2, rfl, H2, hm2⟩ := hX.1.2.1.open
      have HX1 := Lib.hid hX
      have HT : Hid (∀ W', Below W0.heap.size W0 W' → W'.cell? ⟨b, off + k * 7, none⟩ = some (.int .i64 x.op) ∧ W'.cell? ⟨b, off + k * 7 + 1, none⟩ = some (.int .i64 x.to) ∧ W'.cell? ⟨b, off + k * 7 + 2, none⟩ = some (.int .i64 x.a) ∧ W'.cell? ⟨b, off + k * 7 + 3, none⟩ = some (.int .i64 x.b) ∧ W'.cell? ⟨b, off + k * 7 + 4, none⟩ = some (.bool x.q.ng) ∧ W'.cell? ⟨b, off + k * 7 + 5, none⟩ = some (.slice a1 n1 c1) ∧ W'.cell? ⟨b, off + k * 7 + 6, none⟩ = some (.slice a2 n2 c2)) := fun W' hb => by
        refine ⟨(hb.cell (p := ⟨b, off + k * 7, none⟩) (zj s0)).trans s0, (hb.cell (p := ⟨b, off + k * 7 + 1, none⟩) (zj s1)).trans s1, (hb.cell (p := ⟨b, off + k * 7 + 2, none⟩) (zj s2)).trans s2, (hb.cell (p := ⟨b, off + k * 7 + 3, none⟩) (zj s3)).trans s3, (hb.cell (p := ⟨b, off + k * 7 + 4, none⟩) (zj s4)).trans s4, (hb.cell (p := ⟨b, off + k * 7 + 5, none⟩) (zj s5)).trans s5, (hb.cell (p := ⟨b, off + k * 7 + 6, none⟩) (zj s6)).trans s6⟩
      clear s0 s1 s2 s3 s4 s5 s6 h7 hsx hX
      clear hx
      have HA2 := Lib.hid HA1
      clear HA HA1
      clear ae ai af ak ah al az aE aA aF
      obtain ⟨s0, s1, s2, s3, s4, s5, s6⟩ := HT.out _ gb
      obtain ⟨ae, af, ah, az, aA⟩ := aq.out _ gb
      obtain ⟨ai, ak, al, aE, aF⟩ := cf.out _ gb
      obtain z0 := cg.out _ gb
      go_wp2_with fail
      have hL2 : L.length ≤ 100000 := by omega
      have HL2 := Lib.hid hL2
      cases hio : zA c L x
      case false =>
        have Hio := Lib.hid hio
        clear hio
        go_region_held3 (fun W' => W'.cell? ⟨w.heap.size, 0, none⟩ = some (.int .i64 c.ins) ∧ W'.cell? ⟨w.heap.size, 1, none⟩ = some (.int .i64 c.rows) ∧ W'.cell? ⟨w.heap.size, 2, none⟩ = some (.int .i64 c.cols) ∧ W'.cell? ⟨w.heap.size, 3, none⟩ = some (.int .i64 c.regs) ∧ W'.cell? ⟨w.heap.size, 4, none⟩ = some (.slice (some ⟨b, off, none⟩) n0 c0) ∧ W'.cell? ⟨b, off + k * 7, none⟩ = some (.int .i64 x.op) ∧ W'.cell? ⟨b, off + k * 7 + 1, none⟩ = some (.int .i64 x.to) ∧ W'.cell? ⟨b, off + k * 7 + 2, none⟩ = some (.int .i64 x.a) ∧ W'.cell? ⟨b, off + k * 7 + 3, none⟩ = some (.int .i64 x.b) ∧ W'.cell? ⟨b, off + k * 7 + 4, none⟩ = some (.bool x.q.ng) ∧ W'.cell? ⟨b, off + k * 7 + 5, none⟩ = some (.slice a1 n1 c1) ∧ W'.cell? ⟨b, off + k * 7 + 6, none⟩ = some (.slice a2 n2 c2)) (exact ⟨ae, af, ah, az, aA, s0, s1, s2, s3, s4, s5, s6⟩) (first
          | (go_at_call 34; have gb := gb.drew; (with_reducible refine (ref25_fields c _ x.op x.to x.a x.b x.q.ng _ _ x.q.n x.q.d _ L _ (i0.to gb) (HX1.out.to gb) hO.drew.rdI HL2.out Hr.out Hcl.out false Hio.out).mono ?_); rintro e w3 ⟨rfl, bY⟩; have gb := bS gb bY; obtain ⟨s0, s1, s2, s3, s4, s5, s6⟩ := HT.out _ gb; obtain ⟨ae, af, ah, az, aA⟩ := aq.out _ gb; obtain ⟨ai, ak, al, aE, aF⟩ := cf.out _ gb; obtain z0 := cg.out _ gb))
        have ho : false = o := by rw [← HA2.out, Hio.out, Bool.false_and]
        subst ho
        go_wp2_with fail
        go_ret
        exact ⟨rfl, bS zb gb⟩
      case true =>
        have Hio := Lib.hid hio
        clear hio
        go_region_held3 (fun W' => W'.cell? ⟨w.heap.size, 0, none⟩ = some (.int .i64 c.ins) ∧ W'.cell? ⟨w.heap.size, 1, none⟩ = some (.int .i64 c.rows) ∧ W'.cell? ⟨w.heap.size, 2, none⟩ = some (.int .i64 c.cols) ∧ W'.cell? ⟨w.heap.size, 3, none⟩ = some (.int .i64 c.regs) ∧ W'.cell? ⟨w.heap.size, 4, none⟩ = some (.slice (some ⟨b, off, none⟩) n0 c0) ∧ W'.cell? ⟨b, off + k * 7, none⟩ = some (.int .i64 x.op) ∧ W'.cell? ⟨b, off + k * 7 + 1, none⟩ = some (.int .i64 x.to) ∧ W'.cell? ⟨b, off + k * 7 + 2, none⟩ = some (.int .i64 x.a) ∧ W'.cell? ⟨b, off + k * 7 + 3, none⟩ = some (.int .i64 x.b) ∧ W'.cell? ⟨b, off + k * 7 + 4, none⟩ = some (.bool x.q.ng) ∧ W'.cell? ⟨b, off + k * 7 + 5, none⟩ = some (.slice a1 n1 c1) ∧ W'.cell? ⟨b, off + k * 7 + 6, none⟩ = some (.slice a2 n2 c2)) (exact ⟨ae, af, ah, az, aA, s0, s1, s2, s3, s4, s5, s6⟩) (first
          | (go_at_call 34; have gb := gb.drew; (with_reducible refine (ref25_fields c _ x.op x.to x.a x.b x.q.ng _ _ x.q.n x.q.d _ L _ (i0.to gb) (HX1.out.to gb) hO.drew.rdI HL2.out Hr.out Hcl.out true Hio.out).mono ?_); rintro e w3 ⟨rfl, bY⟩; have gb := bS gb bY; obtain ⟨s0, s1, s2, s3, s4, s5, s6⟩ := HT.out _ gb; obtain ⟨ae, af, ah, az, aA⟩ := aq.out _ gb; obtain ⟨ai, ak, al, aE, aF⟩ := cf.out _ gb; obtain z0 := cg.out _ gb))
        have HA3 : Hid (zbN c (more L x) (c.all.drop (k + 1)) = o) := by show _ = _; rw [← HA2.out, Hio.out, Bool.true_and]
        have hO3 := hO.drew.to bY
        have hgs := gb.size
        clear HA2 hO
        by_cases h10 : x.op = 10
        · have t : (x.op != 10) = false := by simp; exact h10
          have em : more L x = L := by unfold more; rw [if_pos h10]
          have HA4 : Hid (zbN c L (c.all.drop (k + 1)) = o) := by show _ = _; rw [← HA3.out, em]
          clear h10 em HA3
          go_wp2_with fail
          go_roundw
          case rel => exact ⟨k + 1, L, by omega, by go_num, gb, hO3, HA4, by omega⟩
          case measure => simp [intOf] <;> omega
        · have t : (x.op != 10) = true := by simp; exact h10
          have em : more L x = L ++ [x.to] := by unfold more; rw [if_neg h10]
          have HA4 : Hid (zbN c (L ++ [x.to]) (c.all.drop (k + 1)) = o) := by show _ = _; rw [← HA3.out, em]
          clear h10 em HA3
          go_wp2_with (at_builtin; refine wp_appendV _ rfl (.tmp 71) (.tmp 78) 67 3 rfl Tryz.underlying67 (.int .i64 0) 8 (by kernel_rfl) (by decide) (by decide) W0.heap.size _ (L.map (Value.int .i64)) (.int .i64 x.to) w3.heap.size 1 rfl rfl (hO3.alloc _) (by simp [go_sem]) rfl (by simp; omega) (by simp; omega) ?_; intro v4 w4 hO4 di)
          have gb4 : Below W0.heap.size W0 w4 := (gb.alloc hgs _).trans di
          have hO5 : zaR 3 W0.heap.size w4 v4 ((L ++ [x.to]).map (Value.int .i64)) := by rw [List.map_append]; exact hO4
          go_wp2_with fail
          go_roundw
          case rel => exact ⟨k + 1, L ++ [x.to], by omega, by go_num, gb4, hO5, HA4, by simp; omega⟩
          case measure => simp [intOf] <;> omega
    · obtain rfl : k = n0 := by omega
      have ho : true = o := by
        have := HA.out
        rw [← H0.out, List.drop_length] at this
        exact this
      subst ho
      go_wp2_with fail
      go_ret
      exact ⟨rfl, bS zb gb⟩

theorem ref25_right (c : Cd) (v : Value) (w : World) (hc : IsC w c v) (hs : zbA 1000 c.all) (o : Bool) (ho : zU c = o) :
    Calls Tryz.prog 15 #[aggC c v] w (fun e w' => e = .returned (.bool o) ∧ Below w.heap.size w w') := by
  unfold zU at ho
  cases h0 : zda c with
  | false => rw [h0] at ho; obtain rfl : false = o := ho; exact ref25_right_hdr c v w hc hs h0
  | true => rw [h0, Bool.true_and] at ho; exact ref25_right_all c v w hc hs h0 o ho

end Go.Proofs.YtkjcdnlpjldhaaaGreat

