/-
  Code as bytes, written by the program: the whole.
-/
import Derived.Test.YtkjcdnlpjldhaaaGreatK25
import Derived.Test.YtkjcdnlpjldhaaaGreatK04
import Derived.Test.YtkjcdnlpjldhaaaGreatK02
import Derived.Test.YtkjcdnlpjldhaaaGreatK01
import Derived.Test.YtkjcdnlpjldhaaaGreatK03
import Derived.Test.YtkjcdnlpjldhaaaGreatK21
import Derived.Test.YtkjcdnlpjldhaaaGreatK20
import Derived.Test.YtkjcdnlpjldhaaaGreatK18
import Derived.Test.YtkjcdnlpjldhaaaGreatK16
import Derived.Test.YtkjcdnlpjldhaaaGreatK13
import Derived.Test.YtkjcdnlpjldhaaaGreatK12
import Derived.Test.YtkjcdnlpjldhaaaGreatK10
import Derived.Test.YtkjcdnlpjldhaaaGreatK09
import Derived.Test.YtkjcdnlpjldhaaaGreatK08
import Derived.Test.YtkjcdnlpjldhaaaGreatK07
import Derived.Test.YtkjcdnlpjldhaaaGreatK06
import Derived.Test.YtkjcdnlpjldhaaaGreatK11
import Derived.Test.YtkjcdnlpjldhaaaGreatK15
import Derived.Test.YtkjcdnlpjldhaaaGreatK14
import Derived.Test.YtkjcdnlpjldhaaaGreatK17
import Derived.Test.YtkjcdnlpjldhaaaGreatK22
import Derived.Test.YtkjcdnlpjldhaaaGreatK28
import Derived.Test.YtkjcdnlpjldhaaaGreatDDeciMath
import Derived.Test.YtkjcdnlpjldhaaaGreatDRef6
import Derived.Test.YtkjcdnlpjldhaaaGreatDRef8
import Derived.Test.YtkjcdnlpjldhaaaGreatDVmRow
import Derived.Test.YtkjcdnlpjldhaaaGreatDPackRow
import Derived.Test.YtkjcdnlpjldhaaaGreatDVm1
import Derived.Test.YtkjcdnlpjldhaaaGreatDVm5
import Derived.Deep.RegionHeld3
import Derived.RegionTactic
namespace Go.Proofs.YtkjcdnlpjldhaaaGreat
open Go.RowKit Tw
set_option linter.unusedVariables false
set_option linter.unusedSimpArgs false
attribute [local go_sem ↓] Go.wp_at_zero Go.wp_at_succ

section

variable {w w' ww w2 w0 ww0 : World} {v v' v2 v0 : Value} {l l2 l0 : List Nat} {e : Ending} {row : Option Nat}

end

set_option maxRecDepth 100000 in
set_option maxHeartbeats 40000000 in
theorem pack_encode_no (c : Cd) (v : Value) (w : World) (hc : IsC w c v) (hs : zbA 1000 c.all) (h0 : zU c = false) :
    Calls Tryz.prog 27 #[aggC c v] w (fun e w' => e = .returned (.tuple #[.slice none 0 0, .int .i64 11]) ∧ Below w.heap.size w w') := by
  have Hs := Lib.hid hs
  have Hr0 := Lib.hid h0
  clear hs h0
  obtain ⟨a0, n0, c0, rfl, H0, hm0⟩ := hc.1.open
  go_enter Tryz.func27, Tryz.ntmps27
  go_wp2_with fail
  obtain ⟨W0, ap⟩ : ∃ W0, w.alloc (.cells #[.int .i64 c.ins, .int .i64 c.rows, .int .i64 c.cols, .int .i64 c.regs, .slice a0 n0 c0] 24) = W0 := ⟨_, rfl⟩
  have zb : Below w.heap.size w W0 := by rw [← ap]; exact bN _ _
  have hC : B5 W0 w.heap.size (.int .i64 c.ins) (.int .i64 c.rows) (.int .i64 c.cols) (.int .i64 c.regs) (.slice a0 n0 c0) := by
    rw [← ap]
    unfold B5
    and_intros <;> first | (simp [go_sem]; done) | (simp [go_sem]; omega)
  rw [ap]
  clear ap
  have i0 := hc.to zb
  obtain ⟨cz, c0_, c1_, c2_, c3_, c4_, cf0, cf1, cf2, cf3, cf4⟩ := id hC
  go_wp2_with fail
  refine (zcs c _ _ i0 Hs.out false Hr0.out).mono ?_
  rintro e w1 ⟨rfl, aS⟩
  clear cz c0_ c1_ c2_ c3_ c4_ cf0 cf1 cf2 cf3 cf4
  go_wp2_with fail
  refine bodyPost_ret (results_tmp2 rfl _ _ _) rfl ?_
  exact ⟨rfl, bS zb aS⟩

end Go.Proofs.YtkjcdnlpjldhaaaGreat

