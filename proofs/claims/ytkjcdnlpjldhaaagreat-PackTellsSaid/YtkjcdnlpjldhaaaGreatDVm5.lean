/-
  The document's answer for code: how many registers, whether one is in a list, weights.
-/
import Derived.Test.YtkjcdnlpjldhaaaGreatK20
import Derived.Test.YtkjcdnlpjldhaaaGreatK18
import Derived.Test.YtkjcdnlpjldhaaaGreatK16
import Derived.Test.YtkjcdnlpjldhaaaGreatK13
import Derived.Test.YtkjcdnlpjldhaaaGreatK12
import Derived.Test.YtkjcdnlpjldhaaaGreatK10
import Derived.Test.YtkjcdnlpjldhaaaGreatK09
import Derived.Test.YtkjcdnlpjldhaaaGreatK08
import Derived.Test.YtkjcdnlpjldhaaaGreatK07
import Derived.Test.YtkjcdnlpjldhaaaGreatK02
import Derived.Test.YtkjcdnlpjldhaaaGreatK01
import Derived.Test.YtkjcdnlpjldhaaaGreatK06
import Derived.Test.YtkjcdnlpjldhaaaGreatK11
import Derived.Test.YtkjcdnlpjldhaaaGreatK03
import Derived.Test.YtkjcdnlpjldhaaaGreatK04
import Derived.Test.YtkjcdnlpjldhaaaGreatK15
import Derived.Test.YtkjcdnlpjldhaaaGreatK14
import Derived.Test.YtkjcdnlpjldhaaaGreatK17
import Derived.Test.YtkjcdnlpjldhaaaGreatK21
import Derived.Test.YtkjcdnlpjldhaaaGreatDDeciMath
import Derived.Test.YtkjcdnlpjldhaaaGreatDRef6
import Derived.Test.YtkjcdnlpjldhaaaGreatDRef8
import Derived.Test.YtkjcdnlpjldhaaaGreatDVmRow
import Derived.Test.YtkjcdnlpjldhaaaGreatDVm1
import Derived.Deep.RegionHeld3
namespace Go.Proofs.YtkjcdnlpjldhaaaGreat
open Go.RowKit Tw
set_option linter.unusedVariables false
set_option linter.unusedSimpArgs false
attribute [local go_sem ↓] Go.wp_at_zero Go.wp_at_succ

set_option maxRecDepth 100000 in
set_option maxHeartbeats 20000000 in
theorem ref25_regs (op : Int) (w : World) : Calls Tryz.prog 36 #[.int .i64 op] w (fun e w' => e = .returned (.int .i64 (zi op)) ∧ w = w') := by
  by_cases h : 0 ≤ op ∧ op ≤ 10
  · have h' : op = 0 ∨ op = 1 ∨ op = 2 ∨ op = 3 ∨ op = 4 ∨ op = 5 ∨ op = 6 ∨ op = 7 ∨ op = 8 ∨ op = 9 ∨ op = 10 := by omega
    clear h
    rcases h' with rfl | rfl | rfl | rfl | rfl | rfl | rfl | rfl | rfl | rfl | rfl
    all_goals
      go_enter Tryz.func36, Tryz.ntmps36
      go_wp2_with fail
      go_ret
      exact ⟨rfl, rfl⟩
  · rw [zjR h]
    have t0 : (op == 0) = false := by simp; omega
    have t1 : (op == 1) = false := by simp; omega
    have t6 : (op == 6) = false := by simp; omega
    have t7 : (op == 7) = false := by simp; omega
    have t8 : (op == 8) = false := by simp; omega
    have t9 : (op == 9) = false := by simp; omega
    have t10 : (op == 10) = false := by simp; omega
    by_cases h2 : 2 ≤ op
    · have q2 : decide (2 ≤ op) = true := decide_eq_true h2
      have q5 : decide (op ≤ 5) = false := decide_eq_false (by omega)
      clear h h2
      go_enter Tryz.func36, Tryz.ntmps36
      go_wp2_with fail
      go_ret
      exact ⟨rfl, rfl⟩
    · have q2 : decide (2 ≤ op) = false := decide_eq_false h2
      clear h h2
      go_enter Tryz.func36, Tryz.ntmps36
      go_wp2_with fail
      go_ret
      exact ⟨rfl, rfl⟩

set_option maxRecDepth 100000 in
set_option maxHeartbeats 20000000 in
theorem ref25_in (v : Value) (xs : List Int) (z : Int) (w : World) (h : RdI w v xs) (hs : xs.length ≤ 100000) (o : Bool) (ho : decide (z ∈ xs) = o) :
    Calls Tryz.prog 58 #[v, .int .i64 z] w (fun e w' => e = .returned (.bool o) ∧ w = w') := by
  obtain ⟨a, n, cap, rfl, H0, hm⟩ := h.open
  have hn : n ≤ 100000 := by have := H0.out; omega
  have Ho := Lib.hid ho
  clear ho hs
  go_enter Tryz.func58, Tryz.ntmps58
  go_wp2_with fail
  go_loopw [5] (fun i ww => ∃ k : Nat, k ≤ n ∧ i = .int .i64 k ∧ ww = w ∧ Hid (z ∉ xs.take k)) (fun i _ => n - (intOf i).toNat)
  case atStart => exact ⟨0, Nat.zero_le _, rfl, rfl, by show z ∉ _; simp⟩
  case round =>
    obtain ⟨k, hk, rfl, rfl, HN⟩ := hrel
    by_cases hkn : k < n
    · have hki : (k : Int) < (n : Int) := by omega
      have hkl : k < xs.length := by rw [H0.out]; exact hkn
      obtain ⟨b, rfl, hc⟩ := h.nth hkl
      obtain ⟨y, hy⟩ : ∃ y, xs[k] = y := ⟨_, rfl⟩
      rw [hy] at hc
      by_cases hz : y = z
      · have t : (y == z) = true := by simp; exact hz
        have : o = true := by rw [← Ho.out, ← hz, ← hy]; exact decide_eq_true (List.getElem_mem hkl)
        subst this
        clear hz h
        go_wp2_with fail
        go_ret
        exact ⟨rfl, rfl⟩
      · have t : (y == z) = false := by simp; exact hz
        have HN2 : Hid (z ∉ xs.take (k + 1)) := by
          show z ∉ _
          rw [List.take_succ_eq_append_getElem hkl, List.mem_append, hy]
          rintro (g | g)
          · exact HN.out g
          · exact hz (List.mem_singleton.1 g).symm
        clear hz h
        go_wp2_with fail
        go_roundw
        case rel => exact ⟨k + 1, by omega, by go_num, by first | exact rfl | trivial, HN2⟩
        case measure => simp [intOf] <;> omega
    · obtain rfl : k = n := by omega
      have : o = false := by
        rw [← Ho.out]
        have := HN.out
        rw [← H0.out, List.take_length] at this
        exact decide_eq_false this
      subst this
      go_wp2_with fail
      go_ret
      exact ⟨rfl, rfl⟩

end Go.Proofs.YtkjcdnlpjldhaaaGreat

