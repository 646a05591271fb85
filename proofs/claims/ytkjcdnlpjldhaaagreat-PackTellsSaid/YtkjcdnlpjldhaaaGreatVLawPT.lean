/-
  The walk of PackTells.
-/
import Derived.Test.YtkjcdnlpjldhaaaGreatK29
import Derived.Test.YtkjcdnlpjldhaaaGreatK24
import Derived.Test.YtkjcdnlpjldhaaaGreatK23
import Derived.Test.YtkjcdnlpjldhaaaGreatK19
import Derived.Test.YtkjcdnlpjldhaaaGreatK05
import Derived.Test.YtkjcdnlpjldhaaaGreatK04
import Derived.Test.YtkjcdnlpjldhaaaGreatK02
import Derived.Test.YtkjcdnlpjldhaaaGreatK01
import Derived.Test.YtkjcdnlpjldhaaaGreatK03
import Derived.Test.YtkjcdnlpjldhaaaGreatK18
import Derived.Test.YtkjcdnlpjldhaaaGreatK16
import Derived.Test.YtkjcdnlpjldhaaaGreatK13
import Derived.Test.YtkjcdnlpjldhaaaGreatK12
import Derived.Test.YtkjcdnlpjldhaaaGreatK10
import Derived.Test.YtkjcdnlpjldhaaaGreatK09
import Derived.Test.YtkjcdnlpjldhaaaGreatK08
import Derived.Test.YtkjcdnlpjldhaaaGreatK07
import Derived.Test.YtkjcdnlpjldhaaaGreatK06
import Derived.Test.YtkjcdnlpjldhaaaGreatK11
import Derived.Test.YtkjcdnlpjldhaaaGreatK15
import Derived.Test.YtkjcdnlpjldhaaaGreatK14
import Derived.Test.YtkjcdnlpjldhaaaGreatK17
import Derived.Test.YtkjcdnlpjldhaaaGreatK22
import Derived.Test.YtkjcdnlpjldhaaaGreatK21
import Derived.Test.YtkjcdnlpjldhaaaGreatK20
import Derived.Test.YtkjcdnlpjldhaaaGreatK27
import Derived.Test.YtkjcdnlpjldhaaaGreatK26
import Derived.Test.YtkjcdnlpjldhaaaGreatK25
import Derived.Test.YtkjcdnlpjldhaaaGreatK28
import Derived.Test.YtkjcdnlpjldhaaaGreatK30
import Derived.Test.YtkjcdnlpjldhaaaGreatDDeciMath
import Derived.Test.YtkjcdnlpjldhaaaGreatDRef6
import Derived.Test.YtkjcdnlpjldhaaaGreatDRef8
import Derived.Test.YtkjcdnlpjldhaaaGreatDVmRow
import Derived.Test.YtkjcdnlpjldhaaaGreatDVm1
import Derived.Test.YtkjcdnlpjldhaaaGreatDVm5
import Derived.Test.YtkjcdnlpjldhaaaGreatDPackRow
import Derived.Test.YtkjcdnlpjldhaaaGreatDPackEnc
import Derived.Test.YtkjcdnlpjldhaaaGreatDPackRef
import Derived.Test.YtkjcdnlpjldhaaaGreatDVm7
import Derived.Test.YtkjcdnlpjldhaaaGreatDRef25
import Derived.Test.YtkjcdnlpjldhaaaGreatDPackRefI
import Derived.Test.YtkjcdnlpjldhaaaGreatDPackRefE
import Derived.Test.YtkjcdnlpjldhaaaGreatDVm6
namespace Go.Proofs.YtkjcdnlpjldhaaaGreat
open Go.RowKit Tw
set_option linter.unusedVariables false
set_option linter.unusedSimpArgs false
attribute [local go_sem ↓] Go.wp_at_zero Go.wp_at_succ

theorem few_shortT {m : Nat} {c : Cd} (h : fewC m c = true) : zbA 1000 c.all ∧ c.all.length ≤ m := by
  unfold fewC shortL at h
  simp only [Bool.and_eq_true, decide_eq_true_eq] at h
  exact ⟨fun x hx => by have := h.2 x.q (List.mem_map_of_mem hx); exact ⟨Nat.le_trans this.1 (by decide), Nat.le_trans this.2 (by decide)⟩, h.1.1⟩

theorem run_nilB (w : World) : (convert 54 9 (.slice none 0 0)).run Tryz.prog w = .ok (.string (ba [])) w := by
  rw [run_convert_bytes_string w 54 9 5 _ _ _ Tryz.underlying54 Tryz.underlying5 Tryz.underlying9]
  rfl

set_option maxRecDepth 100000 in
set_option maxHeartbeats 100000000 in
theorem walk_PackTells (c : Cd) (v : Value) (w : World) (hc : IsC w c v) :
    Calls Tryz.prog 7 #[aggC c v] w (Holds w) := by
  obtain ⟨a0, n0, c0, rfl, H0, hm0⟩ := hc.1.open
  cases hf : fewC 16 c
  case false =>
    have Hf := Lib.hid hf
    clear hf
    go_enter Tryz.func7, Tryz.ntmps7
    go_wp2_with fail
    obtain ⟨W0, ap⟩ : ∃ W0, w.alloc (.cells #[.int .i64 c.ins, .int .i64 c.rows, .int .i64 c.cols, .int .i64 c.regs, .slice a0 n0 c0] 24) = W0 := ⟨_, rfl⟩
    have zb : Below w.heap.size w W0 := by rw [← ap]; exact bN _ _
    have hC : B5 W0 w.heap.size (.int .i64 c.ins) (.int .i64 c.rows) (.int .i64 c.cols) (.int .i64 c.regs) (.slice a0 n0 c0) := by
      rw [← ap]
      unfold B5
      and_intros <;> first | (simp [go_sem]; done) | (simp [go_sem]; omega)
    rw [ap]
    clear ap
    have i0 := hc.to zb
    refine (zabl _).mono ?_
    rintro e w1 ⟨rfl, gb⟩
    obtain ⟨cz, c0_, c1_, c2_, c3_, c4_, cf0, cf1, cf2, cf3, cf4⟩ := hC.to gb
    go_wp2_with fail
    refine (ref25_few c _ 16 _ (i0.to gb) false Hf.out (by decide)).mono ?_
    rintro e w2 ⟨rfl, aM⟩
    clear cz c0_ c1_ c2_ c3_ c4_ cf0 cf1 cf2 cf3 cf4
    replace gb := bS gb aM
    obtain ⟨cz, c0_, c1_, c2_, c3_, c4_, cf0, cf1, cf2, cf3, cf4⟩ := hC.to gb
    go_wp2_with fail
    go_ret
    exact ⟨rfl, bS zb gb⟩
  case true =>
    have Hs := Lib.hid (few_shortT hf).1
    have Hl := Lib.hid (Nat.le_trans (few_shortT hf).2 (show 16 ≤ 1000 by decide))
    have Hf := Lib.hid hf
    clear hf
    cases hr : zU c
    case false =>
      have Hr := Lib.hid hr
      clear hr
      go_enter Tryz.func7, Tryz.ntmps7
      go_wp2_with fail
      obtain ⟨W0, ap⟩ : ∃ W0, w.alloc (.cells #[.int .i64 c.ins, .int .i64 c.rows, .int .i64 c.cols, .int .i64 c.regs, .slice a0 n0 c0] 24) = W0 := ⟨_, rfl⟩
      have zb : Below w.heap.size w W0 := by rw [← ap]; exact bN _ _
      have hC : B5 W0 w.heap.size (.int .i64 c.ins) (.int .i64 c.rows) (.int .i64 c.cols) (.int .i64 c.regs) (.slice a0 n0 c0) := by
        rw [← ap]
        unfold B5
        and_intros <;> first | (simp [go_sem]; done) | (simp [go_sem]; omega)
      rw [ap]
      clear ap
      have i0 := hc.to zb
      refine (zabl _).mono ?_
      rintro e w1 ⟨rfl, gb⟩
      obtain ⟨cz, c0_, c1_, c2_, c3_, c4_, cf0, cf1, cf2, cf3, cf4⟩ := hC.to gb
      go_wp2_with fail
      refine (ref25_few c _ 16 _ (i0.to gb) true Hf.out (by decide)).mono ?_
      rintro e w2 ⟨rfl, aM⟩
      clear cz c0_ c1_ c2_ c3_ c4_ cf0 cf1 cf2 cf3 cf4
      replace gb := bS gb aM
      obtain ⟨cz, c0_, c1_, c2_, c3_, c4_, cf0, cf1, cf2, cf3, cf4⟩ := hC.to gb
      go_wp2_with fail
      refine (pack_encode_no c _ _ (i0.to gb) Hs.out Hr.out).mono ?_
      rintro e w3 ⟨rfl, bY⟩
      clear cz c0_ c1_ c2_ c3_ c4_ cf0 cf1 cf2 cf3 cf4
      replace gb := bS gb bY
      obtain ⟨cz, c0_, c1_, c2_, c3_, c4_, cf0, cf1, cf2, cf3, cf4⟩ := hC.to gb
      go_wp2_with fail
      refine (ref28_encode_no c _ _ (i0.to gb) Hs.out Hr.out).mono ?_
      rintro e w4 ⟨rfl, di⟩
      clear cz c0_ c1_ c2_ c3_ c4_ cf0 cf1 cf2 cf3 cf4
      replace gb := bS gb di
      have hconv := run_nilB w4
      obtain ⟨S, hS⟩ : ∃ S, ba [] = S := ⟨_, rfl⟩
      rw [hS] at hconv
      clear hS
      go_wp2_with fail
      go_ret
      exact ⟨rfl, bS zb gb⟩
    case true =>
      have Hr := Lib.hid hr
      clear hr
      go_enter Tryz.func7, Tryz.ntmps7
      go_wp2_with fail
      obtain ⟨W0, ap⟩ : ∃ W0, w.alloc (.cells #[.int .i64 c.ins, .int .i64 c.rows, .int .i64 c.cols, .int .i64 c.regs, .slice a0 n0 c0] 24) = W0 := ⟨_, rfl⟩
      have zb : Below w.heap.size w W0 := by rw [← ap]; exact bN _ _
      have hC : B5 W0 w.heap.size (.int .i64 c.ins) (.int .i64 c.rows) (.int .i64 c.cols) (.int .i64 c.regs) (.slice a0 n0 c0) := by
        rw [← ap]
        unfold B5
        and_intros <;> first | (simp [go_sem]; done) | (simp [go_sem]; omega)
      rw [ap]
      clear ap
      have i0 := hc.to zb
      refine (zabl _).mono ?_
      rintro e w1 ⟨rfl, gb⟩
      obtain ⟨cz, c0_, c1_, c2_, c3_, c4_, cf0, cf1, cf2, cf3, cf4⟩ := hC.to gb
      go_wp2_with fail
      refine (ref25_few c _ 16 _ (i0.to gb) true Hf.out (by decide)).mono ?_
      rintro e w2 ⟨rfl, aM⟩
      clear cz c0_ c1_ c2_ c3_ c4_ cf0 cf1 cf2 cf3 cf4
      replace gb := bS gb aM
      obtain ⟨cz, c0_, c1_, c2_, c3_, c4_, cf0, cf1, cf2, cf3, cf4⟩ := hC.to gb
      go_wp2_with fail
      refine (zcz c _ _ (i0.to gb) Hs.out Hl.out Hr.out).mono ?_
      rintro e w3 ⟨g, n, cp, rfl, hO, hg1, hg2, bY⟩
      clear cz c0_ c1_ c2_ c3_ c4_ cf0 cf1 cf2 cf3 cf4
      replace gb := bS gb bY
      obtain ⟨cz, c0_, c1_, c2_, c3_, c4_, cf0, cf1, cf2, cf3, cf4⟩ := hC.to gb
      go_wp2_with fail
      refine (ref28_encode_yes c _ _ (i0.to gb) Hs.out Hl.out Hr.out).mono ?_
      rintro e w4 ⟨g', n', cp', rfl, hO', hg1', hg2', di⟩
      clear cz c0_ c1_ c2_ c3_ c4_ cf0 cf1 cf2 cf3 cf4
      replace gb := bS gb di
      have hconv := (hO.to di).conv
      have hconv' := hO'.conv
      clear hO hO'
      obtain ⟨S, hS⟩ : ∃ S, ba (zbm c) = S := ⟨_, rfl⟩
      rw [hS] at hconv hconv'
      clear hS
      go_wp2_with fail
      go_ret
      exact ⟨rfl, bS zb gb⟩

end Go.Proofs.YtkjcdnlpjldhaaaGreat

