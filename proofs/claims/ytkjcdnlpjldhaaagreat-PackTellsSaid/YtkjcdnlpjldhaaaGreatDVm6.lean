/-
  The document's answer for code: whether it is few.
-/
import Derived.Test.YtkjcdnlpjldhaaaGreatK21
import Derived.Test.YtkjcdnlpjldhaaaGreatK20
import Derived.Test.YtkjcdnlpjldhaaaGreatK18
import Derived.Test.YtkjcdnlpjldhaaaGreatK16
import Derived.Test.YtkjcdnlpjldhaaaGreatK13
import Derived.Test.YtkjcdnlpjldhaaaGreatK12
import Derived.Test.YtkjcdnlpjldhaaaGreatK10
import Derived.Test.YtkjcdnlpjldhaaaGreatK09
import Derived.Test.YtkjcdnlpjldhaaaGreatK08
import Derived.Test.YtkjcdnlpjldhaaaGreatK07
import Derived.Test.YtkjcdnlpjldhaaaGreatK02
import Derived.Test.YtkjcdnlpjldhaaaGreatK01
import Derived.Test.YtkjcdnlpjldhaaaGreatK06
import Derived.Test.YtkjcdnlpjldhaaaGreatK11
import Derived.Test.YtkjcdnlpjldhaaaGreatK03
import Derived.Test.YtkjcdnlpjldhaaaGreatK04
import Derived.Test.YtkjcdnlpjldhaaaGreatK15
import Derived.Test.YtkjcdnlpjldhaaaGreatK14
import Derived.Test.YtkjcdnlpjldhaaaGreatK17
import Derived.Test.YtkjcdnlpjldhaaaGreatDDeciMath
import Derived.Test.YtkjcdnlpjldhaaaGreatDRef6
import Derived.Test.YtkjcdnlpjldhaaaGreatDRef8
import Derived.Test.YtkjcdnlpjldhaaaGreatDVmRow
import Derived.Test.YtkjcdnlpjldhaaaGreatDVm1
import Derived.Test.YtkjcdnlpjldhaaaGreatDVm5
import Derived.Deep.RegionHeld3
namespace Go.Proofs.YtkjcdnlpjldhaaaGreat
open Go.RowKit Tw
set_option linter.unusedVariables false
set_option linter.unusedSimpArgs false
attribute [local go_sem ↓] Go.wp_at_zero Go.wp_at_succ

def shortL (m : Nat) (l : List Rt) : Bool := decide (∀ x ∈ l, x.n.length ≤ m ∧ x.d.length ≤ m)

def fewC (m : Nat) (c : Cd) : Bool := decide (c.all.length ≤ m) && decide (c.regs ≤ 1000) && shortL 6 (c.all.map Ins.q)

theorem maxLen_eq : maxLen = 9223372036854775807 := by unfold maxLen; rfl

theorem all_take {α : Type} {p : α → Prop} {l : List α} {k : Nat} (hk : k < l.length) (h : ∀ x ∈ l.take k, p x) (h' : p l[k]) : ∀ x ∈ l.take (k + 1), p x := by
  intro x hx
  rw [List.take_succ_eq_append_getElem hk, List.mem_append] at hx
  rcases hx with hx | hx
  · exact h x hx
  · rw [List.mem_singleton.1 hx]; exact h'

set_option maxRecDepth 100000 in
set_option maxHeartbeats 20000000 in
theorem ref8_few_l (v : Value) (l : List Rt) (m : Nat) (w : World) (h : RdR w v l) (o : Bool) (ho : shortL m l = o) :
    Calls Tryz.prog 18 #[v, .int .i64 m] w (fun e w' => e = .returned (.bool o) ∧ w = w') := by
  obtain ⟨a, n, cap, rfl, H0, hm⟩ := h.open
  have Ho := Lib.hid ho
  unfold maxLen at hm
  clear ho
  go_enter Tryz.func18, Tryz.ntmps18
  go_wp2_with fail
  go_loopw [5] (fun i ww => ∃ k : Nat, k ≤ n ∧ i = .int .i64 k ∧ ww = w ∧ Hid (∀ x ∈ l.take k, x.n.length ≤ m ∧ x.d.length ≤ m)) (fun i _ => n - (intOf i).toNat)
  case atStart => exact ⟨0, Nat.zero_le _, rfl, rfl, by intro x hx; simp at hx⟩
  case round =>
    obtain ⟨k, hk, rfl, rfl, HN⟩ := hrel
    by_cases hkn : k < n
    · have hki : (k : Int) < (n : Int) := by omega
      have hkl : k < l.length := by rw [H0.out]; exact hkn
      obtain ⟨b, off, rfl, h3⟩ := h.nth hkl
      obtain ⟨x, hx⟩ : ∃ x, l[k] = x := ⟨_, rfl⟩
      rw [hx] at h3
      obtain ⟨vn, vd, -, s1, s2, hn, hd⟩ := h3
      obtain ⟨a1, n1, c1, rfl, H1, hm1⟩ := hn.open
      obtain ⟨a2, n2, c2, rfl, H2, hm2⟩ := hd.open
      clear hn hd hm1 hm2
      by_cases g1 : n1 ≤ m
      · have t1 : decide (m < n1) = false := decide_eq_false (by omega)
        by_cases g2 : n2 ≤ m
        · have t2 : decide (m < n2) = false := decide_eq_false (by omega)
          have HN2 : Hid (∀ x ∈ l.take (k + 1), x.n.length ≤ m ∧ x.d.length ≤ m) := all_take hkl HN.out (by rw [hx, H1.out, H2.out]; exact ⟨g1, g2⟩)
          clear hx h g1 g2 H1 H2
          go_wp2_with fail
          go_roundw
          case rel => exact ⟨k + 1, by omega, by go_num, by first | exact rfl | trivial, HN2⟩
          case measure => simp [intOf] <;> omega
        · have t2 : decide (m < n2) = true := decide_eq_true (by omega)
          have : o = false := by
            rw [← Ho.out]
            refine decide_eq_false (fun k => g2 ?_)
            have := (k _ (List.getElem_mem hkl)).2
            rw [hx, H2.out] at this
            exact this
          subst this
          clear hx h g1 g2 H1 H2
          go_wp2_with fail
          go_ret
          exact ⟨rfl, rfl⟩
      · have t1 : decide (m < n1) = true := decide_eq_true (by omega)
        have : o = false := by
          rw [← Ho.out]
          refine decide_eq_false (fun k => g1 ?_)
          have := (k _ (List.getElem_mem hkl)).1
          rw [hx, H1.out] at this
          exact this
        subst this
        clear hx h g1 H1 H2
        go_wp2_with fail
        go_ret
        exact ⟨rfl, rfl⟩
    · obtain rfl : k = n := by omega
      have : o = true := by
        rw [← Ho.out]
        have := HN.out
        rw [← H0.out, List.take_length] at this
        exact decide_eq_true this
      subst this
      go_wp2_with fail
      go_ret
      exact ⟨rfl, rfl⟩

set_option maxRecDepth 100000 in
set_option maxHeartbeats 20000000 in
theorem ref25_few (c : Cd) (v : Value) (m : Nat) (w : World) (hc : IsC w c v) (o : Bool) (ho : fewC m c = o) (hm : m ≤ 100000)  :
    Calls Tryz.prog 13 #[aggC c v, .int .i64 m] w (fun e w' => e = .returned (.bool o) ∧ Below w.heap.size w w') := by
  obtain ⟨a0, n0, c0, rfl, H0, hm0⟩ := hc.1.open
  have Ho := Lib.hid ho
  clear ho
  by_cases g1 : c.all.length ≤ m
  case neg =>
    have t1 : decide (m < n0) = true := decide_eq_true (by have := H0.out; omega)
    have : false = o := by rw [← Ho.out]; unfold fewC; rw [decide_eq_false g1]; rfl
    subst this
    clear g1
    go_enter Tryz.func13, Tryz.ntmps13
    go_wp2_with fail
    obtain ⟨W0, ap⟩ : ∃ W0, w.alloc (.cells #[.int .i64 c.ins, .int .i64 c.rows, .int .i64 c.cols, .int .i64 c.regs, .slice a0 n0 c0] 24) = W0 := ⟨_, rfl⟩
    have aq := Lib.hid (show ∀ W', Below W0.heap.size W0 W' → (W'.cell? ⟨w.heap.size, 0, none⟩ = some (.int .i64 c.ins) ∧ W'.cell? ⟨w.heap.size, 1, none⟩ = some (.int .i64 c.rows) ∧ W'.cell? ⟨w.heap.size, 2, none⟩ = some (.int .i64 c.cols) ∧ W'.cell? ⟨w.heap.size, 3, none⟩ = some (.int .i64 c.regs) ∧ W'.cell? ⟨w.heap.size, 4, none⟩ = some (.slice a0 n0 c0)) from fun W' hb =>
      ⟨(hb.cell (p := ⟨w.heap.size, 0, none⟩) (by rw [← ap]; simp <;> omega)).trans (by rw [← ap]; simp [go_sem]), (hb.cell (p := ⟨w.heap.size, 1, none⟩) (by rw [← ap]; simp <;> omega)).trans (by rw [← ap]; simp [go_sem]), (hb.cell (p := ⟨w.heap.size, 2, none⟩) (by rw [← ap]; simp <;> omega)).trans (by rw [← ap]; simp [go_sem]), (hb.cell (p := ⟨w.heap.size, 3, none⟩) (by rw [← ap]; simp <;> omega)).trans (by rw [← ap]; simp [go_sem]), (hb.cell (p := ⟨w.heap.size, 4, none⟩) (by rw [← ap]; simp <;> omega)).trans (by rw [← ap]; simp [go_sem])⟩)
    have cf := Lib.hid (show ∀ W', Below W0.heap.size W0 W' → (W'.frozen? ⟨w.heap.size, 0, none⟩ = false ∧ W'.frozen? ⟨w.heap.size, 1, none⟩ = false ∧ W'.frozen? ⟨w.heap.size, 2, none⟩ = false ∧ W'.frozen? ⟨w.heap.size, 3, none⟩ = false ∧ W'.frozen? ⟨w.heap.size, 4, none⟩ = false) from fun W' hb =>
      ⟨(hb.frozen (p := ⟨w.heap.size, 0, none⟩) (by rw [← ap]; simp <;> omega)).trans (by rw [← ap]; simp [go_sem]), (hb.frozen (p := ⟨w.heap.size, 1, none⟩) (by rw [← ap]; simp <;> omega)).trans (by rw [← ap]; simp [go_sem]), (hb.frozen (p := ⟨w.heap.size, 2, none⟩) (by rw [← ap]; simp <;> omega)).trans (by rw [← ap]; simp [go_sem]), (hb.frozen (p := ⟨w.heap.size, 3, none⟩) (by rw [← ap]; simp <;> omega)).trans (by rw [← ap]; simp [go_sem]), (hb.frozen (p := ⟨w.heap.size, 4, none⟩) (by rw [← ap]; simp <;> omega)).trans (by rw [← ap]; simp [go_sem])⟩)
    have cg := Lib.hid (show ∀ W', Below W0.heap.size W0 W' → (w.heap.size < W'.heap.size) from fun W' hb =>
      Nat.lt_of_lt_of_le (by rw [← ap]; simp <;> omega) hb.size)
    have zb : Below w.heap.size w W0 := by rw [← ap]; exact bN _ _
    rw [ap]
    clear ap
    have i0 := hc.to zb
    have gb : Below W0.heap.size W0 W0 := Below.refl _ _
    obtain ⟨ae, af, ah, az, aA⟩ := aq.out _ gb
    obtain ⟨ai, ak, al, aE, aF⟩ := cf.out _ gb
    obtain z0 := cg.out _ gb
    go_wp2_with fail
    go_ret
    exact ⟨rfl, bS zb gb⟩
  have t1 : decide (m < n0) = false := decide_eq_false (by have := H0.out; omega)
  have hn0 : n0 ≤ 100000 := by have := H0.out; omega
  by_cases g2 : c.regs ≤ 1000
  case neg =>
    have t2 : decide (1000 < c.regs) = true := decide_eq_true (by omega)
    have : false = o := by rw [← Ho.out]; unfold fewC; rw [decide_eq_false g2, Bool.and_false]; rfl
    subst this
    clear g1 g2
    go_enter Tryz.func13, Tryz.ntmps13
    go_wp2_with fail
    obtain ⟨W0, ap⟩ : ∃ W0, w.alloc (.cells #[.int .i64 c.ins, .int .i64 c.rows, .int .i64 c.cols, .int .i64 c.regs, .slice a0 n0 c0] 24) = W0 := ⟨_, rfl⟩
    have aq := Lib.hid (show ∀ W', Below W0.heap.size W0 W' → (W'.cell? ⟨w.heap.size, 0, none⟩ = some (.int .i64 c.ins) ∧ W'.cell? ⟨w.heap.size, 1, none⟩ = some (.int .i64 c.rows) ∧ W'.cell? ⟨w.heap.size, 2, none⟩ = some (.int .i64 c.cols) ∧ W'.cell? ⟨w.heap.size, 3, none⟩ = some (.int .i64 c.regs) ∧ W'.cell? ⟨w.heap.size, 4, none⟩ = some (.slice a0 n0 c0)) from fun W' hb =>
      ⟨(hb.cell (p := ⟨w.heap.size, 0, none⟩) (by rw [← ap]; simp <;> omega)).trans (by rw [← ap]; simp [go_sem]), (hb.cell (p := ⟨w.heap.size, 1, none⟩) (by rw [← ap]; simp <;> omega)).trans (by rw [← ap]; simp [go_sem]), (hb.cell (p := ⟨w.heap.size, 2, none⟩) (by rw [← ap]; simp <;> omega)).trans (by rw [← ap]; simp [go_sem]), (hb.cell (p := ⟨w.heap.size, 3, none⟩) (by rw [← ap]; simp <;> omega)).trans (by rw [← ap]; simp [go_sem]), (hb.cell (p := ⟨w.heap.size, 4, none⟩) (by rw [← ap]; simp <;> omega)).trans (by rw [← ap]; simp [go_sem])⟩)
    have cf := Lib.hid (show ∀ W', Below W0.heap.size W0 W' → (W'.frozen? ⟨w.heap.size, 0, none⟩ = false ∧ W'.frozen? ⟨w.heap.size, 1, none⟩ = false ∧ W'.frozen? ⟨w.heap.size, 2, none⟩ = false ∧ W'.frozen? ⟨w.heap.size, 3, none⟩ = false ∧ W'.frozen? ⟨w.heap.size, 4, none⟩ = false) from fun W' hb =>
      ⟨(hb.frozen (p := ⟨w.heap.size, 0, none⟩) (by rw [← ap]; simp <;> omega)).trans (by rw [← ap]; simp [go_sem]), (hb.frozen (p := ⟨w.heap.size, 1, none⟩) (by rw [← ap]; simp <;> omega)).trans (by rw [← ap]; simp [go_sem]), (hb.frozen (p := ⟨w.heap.size, 2, none⟩) (by rw [← ap]; simp <;> omega)).trans (by rw [← ap]; simp [go_sem]), (hb.frozen (p := ⟨w.heap.size, 3, none⟩) (by rw [← ap]; simp <;> omega)).trans (by rw [← ap]; simp [go_sem]), (hb.frozen (p := ⟨w.heap.size, 4, none⟩) (by rw [← ap]; simp <;> omega)).trans (by rw [← ap]; simp [go_sem])⟩)
    have cg := Lib.hid (show ∀ W', Below W0.heap.size W0 W' → (w.heap.size < W'.heap.size) from fun W' hb =>
      Nat.lt_of_lt_of_le (by rw [← ap]; simp <;> omega) hb.size)
    have zb : Below w.heap.size w W0 := by rw [← ap]; exact bN _ _
    rw [ap]
    clear ap
    have i0 := hc.to zb
    have gb : Below W0.heap.size W0 W0 := Below.refl _ _
    obtain ⟨ae, af, ah, az, aA⟩ := aq.out _ gb
    obtain ⟨ai, ak, al, aE, aF⟩ := cf.out _ gb
    obtain z0 := cg.out _ gb
    go_wp2_with fail
    go_ret
    exact ⟨rfl, bS zb gb⟩
  have t2 : decide (1000 < c.regs) = false := decide_eq_false (by omega)
  have Ho1 : Hid (shortL 6 (c.all.map Ins.q) = o) := by show _ = _; rw [← Ho.out]; unfold fewC; rw [decide_eq_true g1, decide_eq_true g2]; rfl
  clear g1 g2 Ho
  go_enter Tryz.func13, Tryz.ntmps13
  go_wp2_with fail
  obtain ⟨W0, ap⟩ : ∃ W0, w.alloc (.cells #[.int .i64 c.ins, .int .i64 c.rows, .int .i64 c.cols, .int .i64 c.regs, .slice a0 n0 c0] 24) = W0 := ⟨_, rfl⟩
  have aq := Lib.hid (show ∀ W', Below W0.heap.size W0 W' → (W'.cell? ⟨w.heap.size, 0, none⟩ = some (.int .i64 c.ins) ∧ W'.cell? ⟨w.heap.size, 1, none⟩ = some (.int .i64 c.rows) ∧ W'.cell? ⟨w.heap.size, 2, none⟩ = some (.int .i64 c.cols) ∧ W'.cell? ⟨w.heap.size, 3, none⟩ = some (.int .i64 c.regs) ∧ W'.cell? ⟨w.heap.size, 4, none⟩ = some (.slice a0 n0 c0)) from fun W' hb =>
    ⟨(hb.cell (p := ⟨w.heap.size, 0, none⟩) (by rw [← ap]; simp <;> omega)).trans (by rw [← ap]; simp [go_sem]), (hb.cell (p := ⟨w.heap.size, 1, none⟩) (by rw [← ap]; simp <;> omega)).trans (by rw [← ap]; simp [go_sem]), (hb.cell (p := ⟨w.heap.size, 2, none⟩) (by rw [← ap]; simp <;> omega)).trans (by rw [← ap]; simp [go_sem]), (hb.cell (p := ⟨w.heap.size, 3, none⟩) (by rw [← ap]; simp <;> omega)).trans (by rw [← ap]; simp [go_sem]), (hb.cell (p := ⟨w.heap.size, 4, none⟩) (by rw [← ap]; simp <;> omega)).trans (by rw [← ap]; simp [go_sem])⟩)
  have cf := Lib.hid (show ∀ W', Below W0.heap.size W0 W' → (W'.frozen? ⟨w.heap.size, 0, none⟩ = false ∧ W'.frozen? ⟨w.heap.size, 1, none⟩ = false ∧ W'.frozen? ⟨w.heap.size, 2, none⟩ = false ∧ W'.frozen? ⟨w.heap.size, 3, none⟩ = false ∧ W'.frozen? ⟨w.heap.size, 4, none⟩ = false) from fun W' hb =>
    ⟨(hb.frozen (p := ⟨w.heap.size, 0, none⟩) (by rw [← ap]; simp <;> omega)).trans (by rw [← ap]; simp [go_sem]), (hb.frozen (p := ⟨w.heap.size, 1, none⟩) (by rw [← ap]; simp <;> omega)).trans (by rw [← ap]; simp [go_sem]), (hb.frozen (p := ⟨w.heap.size, 2, none⟩) (by rw [← ap]; simp <;> omega)).trans (by rw [← ap]; simp [go_sem]), (hb.frozen (p := ⟨w.heap.size, 3, none⟩) (by rw [← ap]; simp <;> omega)).trans (by rw [← ap]; simp [go_sem]), (hb.frozen (p := ⟨w.heap.size, 4, none⟩) (by rw [← ap]; simp <;> omega)).trans (by rw [← ap]; simp [go_sem])⟩)
  have cg := Lib.hid (show ∀ W', Below W0.heap.size W0 W' → (w.heap.size < W'.heap.size) from fun W' hb =>
    Nat.lt_of_lt_of_le (by rw [← ap]; simp <;> omega) hb.size)
  have zb : Below w.heap.size w W0 := by rw [← ap]; exact bN _ _
  rw [ap]
  clear ap
  have i0 := hc.to zb
  have gb : Below W0.heap.size W0 W0 := Below.refl _ _
  obtain ⟨ae, af, ah, az, aA⟩ := aq.out _ gb
  obtain ⟨ai, ak, al, aE, aF⟩ := cf.out _ gb
  obtain z0 := cg.out _ gb
  go_wp2_with fail
  go_loopw [5] (fun i ww => ∃ k : Nat, k ≤ n0 ∧ i = .int .i64 k ∧ Below W0.heap.size W0 ww ∧ Hid (∀ x ∈ (c.all.map Ins.q).take k, x.n.length ≤ 6 ∧ x.d.length ≤ 6)) (fun i _ => n0 - (intOf i).toNat)
  case atStart => exact ⟨0, Nat.zero_le _, rfl, gb, by intro x hx; simp at hx⟩
  case round =>
    clear gb ae ai af ak ah al az aE aA aF
    obtain ⟨k, hk, rfl, gb, HN⟩ := hrel
    obtain ⟨ae, af, ah, az, aA⟩ := aq.out _ gb
    obtain ⟨ai, ak, al, aE, aF⟩ := cf.out _ gb
    obtain z0 := cg.out _ gb
    by_cases hkn : k < n0
    · have hki : (k : Int) < (n0 : Int) := by omega
      have hkl : k < c.all.length := by rw [H0.out]; exact hkn
      have hkm : k < (c.all.map Ins.q).length := by rw [List.length_map]; exact hkl
      obtain ⟨b, off, rfl, h7⟩ := (i0.to gb).1.nth hkl
      obtain ⟨x, hx⟩ : ∃ x, c.all[k] = x := ⟨_, rfl⟩
      have hxq : (c.all.map Ins.q)[k] = x.q := by rw [List.getElem_map, hx]
      rw [hx] at h7
      obtain ⟨s0, s1, s2, s3, ⟨vn, vd, s4, s5, s6, hn, hd⟩, -⟩ := h7
      obtain ⟨a1, n1, c1, rfl, H1, hm1⟩ := hn.open
      obtain ⟨a2, n2, c2, rfl, H2, hm2⟩ := hd.open
      have hl3 : RdR (wr.alloc (.cells #[.bool x.q.ng, .slice a1 n1 c1, .slice a2 n2 c2] 47)) (.slice (some ⟨wr.heap.size, 0, none⟩) 1 1) [x.q] := by
        refine ⟨_, 1, rfl, Nat.le_refl _, by rw [maxLen_eq]; decide, fun i hi => ?_⟩
        have : i = 0 := by simpa using hi
        subst this
        exact ⟨_, 0, rfl, _, _, by simp [go_sem], by simp [go_sem], by simp [go_sem], hn.alloc _, hd.alloc _⟩
      have Hl3 := Lib.hid hl3
      clear hn hd hm1 hm2 hx hl3
      have gb2 := bS gb (bN wr (.cells #[.bool x.q.ng, .slice a1 n1 c1, .slice a2 n2 c2] 47))
      by_cases g : x.q.n.length ≤ 6 ∧ x.q.d.length ≤ 6
      · have HN2 : Hid (∀ x ∈ (c.all.map Ins.q).take (k + 1), x.n.length ≤ 6 ∧ x.d.length ≤ 6) := all_take hkm HN.out (by rw [hxq]; exact g)
        have HS : Hid (shortL 6 [x.q] = true) := decide_eq_true (by intro y hy; rw [List.mem_singleton.1 hy]; exact g)
        clear g hxq
        go_wp2_with fail
        refine (ref8_few_l _ [x.q] 6 _ Hl3.out true HS.out).mono ?_
        rintro e w3 ⟨rfl, rfl⟩
        go_wp2_with fail
        go_roundw
        case rel => exact ⟨k + 1, by omega, by go_num, gb2, HN2⟩
        case measure => simp [intOf] <;> omega
      · have HS : Hid (shortL 6 [x.q] = false) := decide_eq_false (fun k => g (k _ (List.mem_singleton.2 rfl)))
        have : false = o := by
          rw [← Ho1.out]
          refine (decide_eq_false (fun k => g ?_)).symm
          have := k _ (List.getElem_mem hkm)
          rw [hxq] at this
          exact this
        subst this
        clear g hxq
        go_wp2_with fail
        refine (ref8_few_l _ [x.q] 6 _ Hl3.out false HS.out).mono ?_
        rintro e w3 ⟨rfl, rfl⟩
        go_wp2_with fail
        go_ret
        exact ⟨rfl, bS zb gb2⟩
    · obtain rfl : k = n0 := by omega
      have : true = o := by
        rw [← Ho1.out]
        have := HN.out
        rw [show k = (c.all.map Ins.q).length by rw [List.length_map, H0.out], List.take_length] at this
        exact (decide_eq_true this).symm
      subst this
      go_wp2_with fail
      go_ret
      exact ⟨rfl, bS zb gb⟩

end Go.Proofs.YtkjcdnlpjldhaaaGreat

