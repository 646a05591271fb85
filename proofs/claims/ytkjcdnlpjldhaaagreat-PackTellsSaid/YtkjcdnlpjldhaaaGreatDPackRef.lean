/-
  The document's counts and words as bytes.
-/
import Derived.Test.YtkjcdnlpjldhaaaGreatK25
import Derived.Test.YtkjcdnlpjldhaaaGreatK04
import Derived.Test.YtkjcdnlpjldhaaaGreatK02
import Derived.Test.YtkjcdnlpjldhaaaGreatK01
import Derived.Test.YtkjcdnlpjldhaaaGreatK03
import Derived.Test.YtkjcdnlpjldhaaaGreatK21
import Derived.Test.YtkjcdnlpjldhaaaGreatK20
import Derived.Test.YtkjcdnlpjldhaaaGreatK18
import Derived.Test.YtkjcdnlpjldhaaaGreatK16
import Derived.Test.YtkjcdnlpjldhaaaGreatK13
import Derived.Test.YtkjcdnlpjldhaaaGreatK12
import Derived.Test.YtkjcdnlpjldhaaaGreatK10
import Derived.Test.YtkjcdnlpjldhaaaGreatK09
import Derived.Test.YtkjcdnlpjldhaaaGreatK08
import Derived.Test.YtkjcdnlpjldhaaaGreatK07
import Derived.Test.YtkjcdnlpjldhaaaGreatK06
import Derived.Test.YtkjcdnlpjldhaaaGreatK11
import Derived.Test.YtkjcdnlpjldhaaaGreatK15
import Derived.Test.YtkjcdnlpjldhaaaGreatK14
import Derived.Test.YtkjcdnlpjldhaaaGreatK17
import Derived.Test.YtkjcdnlpjldhaaaGreatDDeciMath
import Derived.Test.YtkjcdnlpjldhaaaGreatDRef6
import Derived.Test.YtkjcdnlpjldhaaaGreatDRef8
import Derived.Test.YtkjcdnlpjldhaaaGreatDVmRow
import Derived.Test.YtkjcdnlpjldhaaaGreatDPackRow
namespace Go.Proofs.YtkjcdnlpjldhaaaGreat
open Go.RowKit Tw
set_option linter.unusedVariables false
set_option linter.unusedSimpArgs false

theorem lit_own {w : World} {x : Nat} (h : x < 256) : zR 0 (w.alloc (.cells #[.int .u8 (x : Int)] 5)) (.slice (some ⟨w.heap.size, 0, none⟩) 1 1) [x] := by
  refine ⟨fun y hy => by rw [List.mem_singleton.1 hy]; exact h, rfl, .inr ⟨w.heap.size, 1, _, rfl, Nat.zero_le _, heap_alloc_new _ _, Nat.le_refl _, by decide, rfl, rfl⟩⟩

set_option maxRecDepth 100000 in
set_option maxHeartbeats 8000000 in
theorem ref28_count : ∀ (n : Nat) (w : World) (hn : n < 268435456), Calls Tryz.prog 51 #[.int .i64 n] w (GivesB w (cnt n)) := by
  intro n
  induction n using Nat.strongRecOn with
  | ind n ih =>
    intro w hn
    by_cases hb : n < 128
    · have hki : (n : Int) < 128 := by omega
      have e1 : IntKind.u8.wrap (n : Int) = (n : Int) := zjr (by omega)
      have HB := Lib.hid hb
      clear ih
      go_enter Tryz.func51, Tryz.ntmps51
      go_wp2_with fail
      go_ret
      exact ⟨w.heap.size, 1, 1, rfl, by rw [zdd HB.out]; exact lit_own (by have := HB.out; omega), Nat.le_refl _, by simp, bN _ _⟩
    · have hki : ¬ ((n : Int) < 128) := by omega
      have hx : (n % 128 + 128) < 256 := by omega
      have e1 : IntKind.u8.wrap ((n : Int) % 128 + 128) = ((n % 128 + 128 : Nat) : Int) := by rw [← zjr hx]; congr 1
      have HX := Lib.hid hx
      have HB := Lib.hid hb
      have IH := Lib.hid (ih (n / 128) (by omega))
      have Hlen := Lib.hid (zdm (n / 128))
      have E2 := Lib.hid (show (n : Int) / 128 = ((n / 128 : Nat) : Int) by omega)
      clear ih hx hb
      go_enter Tryz.func51, Tryz.ntmps51
      go_wp2_with fail
      rw [E2.out]
      refine (IH.out _ (by omega)).mono ?_
      rintro e w2 ⟨g2, n2, c2, rfl, hO2, hg2, hlt2, aM⟩
      have hL2 := (lit_own HX.out (w := w)).to aM
      have Hn2 := Lib.hid (zcn hO2)
      have hn2 : 0 < n2 := by have := Hn2.out; have := Hlen.out; omega
      have Hc := Lib.hid (cnt_bytes (n / 128))
      have Hcell := Lib.hid (fun j (hj : j < (cnt (n / 128)).length) => (zcQ hO2 hj).1)
      have Hln := Lib.hid (show [n % 128 + 128].length + n2 ≤ 1099511627776 by show 1 + n2 ≤ _; have := Hn2.out; have := Hlen.out; omega)
      go_wp2_with (at_builtin; refine zcN _ rfl (.tmp 12) (.tmp 15) rfl _ [n % 128 + 128] (cnt (n / 128)) g2 n2 c2 rfl rfl hL2 Hn2.out.symm hn2 Hc.out Hcell.out Hln.out _ rfl ?_; intro g4 c4 w4 hO4 hg4 hat4 hlt4)
      go_ret
      refine ⟨g4, _, c4, rfl, by rw [zeK HB.out]; exact hO4, ?_, hlt4, ?_⟩
      · have hz := aM.size
        rcases hat4 with e | e
        · have e : w.heap.size = g4 := Option.some.inj e
          omega
        · simp at hz; omega
      · exact ((bN _ _).trans (aM.mono (by simp))).grown hg4 (by have := aM.size; simp at this; omega) (fun k e => by have e : w.heap.size = k := Option.some.inj e; omega)

theorem GivesB.longer {w w' : World} {v : Value} {l : List Nat} {e : Ending} (h : GivesB w l e w') : zfX w v l e w' := by
  obtain ⟨g, n, c, h1, h2, h3, h4, h5⟩ := h
  exact ⟨g, n, c, h1, h2, .inr h3, h4, Below.grows h5 _⟩

set_option maxRecDepth 100000 in
set_option maxHeartbeats 8000000 in
theorem ref28_nat (sv : Value) (ws : List Nat) (w : World) (hs : Rd w sv ws) (hw : zcB ws) (hwl : ws.length ≤ 1000000) :
    Calls Tryz.prog 77 #[sv] w (GivesB w (zaQ ws)) := by
  obtain ⟨a, n, cap, rfl, Hn, hm⟩ := hs.open
  have hn : n ≤ 1000000 := by have := Hn.out; omega
  have Hs := Lib.hid hs
  clear hs hw hm hwl
  go_enter Tryz.func77, Tryz.ntmps77
  go_wp2_with fail
  refine (ref28_count n _ (by omega)).mono ?_
  rintro e w1 ⟨g1, n1, c1, rfl, hO1, hat1, hlt1, hg1⟩
  have Hlen := Lib.hid (zdm n)
  go_wp2_with fail
  go_loopw [3, 4] (fun v' i ww => ∃ (k : Nat) (l' : List Nat), k ≤ n ∧ i = .int .i64 k ∧ zR 0 ww v' l' ∧ Hid (l' ++ (ws.drop k).flatMap zat = zaQ ws) ∧ Below w.heap.size w ww ∧ Hid (l'.length ≤ 200000000 + 4 * k) ∧ Hid (∃ g n' c', v' = .slice (some ⟨g, 0, none⟩) n' c' ∧ g < ww.heap.size ∧ w.heap.size ≤ g)) (fun _ i _ => n - (intOf i).toNat)
  case atStart => exact ⟨0, cnt n, Nat.zero_le _, rfl, hO1, by rw [List.drop_zero]; show _ = cnt ws.length ++ _; rw [Hn.out], hg1, by show (cnt n).length ≤ _; have := Hlen.out; omega, ⟨g1, _, _, rfl, hlt1, hat1⟩⟩
  case round =>
    obtain ⟨k, l', hk, rfl, hO, HE, hg, HL, HX⟩ := hrel
    by_cases hkn : k < n
    · have hki : (k : Int) < (n : Int) := by omega
      have hkl : k < ws.length := by rw [Hn.out]; exact hkn
      have hR := Hs.out.to hg
      obtain ⟨b, off, rfl, hcell⟩ := hR.cells (by omega)
      have hc := hcell k hkl
      have hxB := hR.1 (nth ws k) (by rw [zaf hkl]; exact List.getElem_mem hkl)
      obtain ⟨x, hx⟩ : ∃ x, nth ws k = x := ⟨_, rfl⟩
      rw [hx] at hc hxB
      clear hcell
      obtain ⟨g, n', c', rfl, hglt, hgge⟩ := HX.out
      have HB := Lib.hid (zjt hxB)
      have Hx := Lib.hid hx
      have HxB := Lib.hid hxB
      have Hln := Lib.hid (show l'.length + 4 ≤ 1099511627776 by have := HL.out; omega)
      clear hx hxB
      go_wp2_with (at_builtin; refine zcN _ rfl (.tmp 19) (.tmp 34) rfl _ l' (zat x) wr.heap.size 4 4 rfl rfl (hO.alloc _) rfl (by decide) HB.out (zjL HxB.out) Hln.out _ rfl ?_; intro g4 c4 w4 hO4 hg4 hat4 hlt4)
      go_roundw
      case rel =>
        have hgs := hg.size
        refine ⟨k + 1, l' ++ zat x, by omega, by go_num, hO4, ?_, (bS hg (bN _ _)).grown hg4 (by simp; omega) (fun j e => by have e : g = j := Option.some.inj e; omega), ?_, ⟨g4, _, c4, rfl, hlt4, ?_⟩⟩
        · show (l' ++ zat x) ++ _ = _
          rw [← HE.out, List.drop_eq_getElem_cons hkl, List.flatMap_cons, ← zaf hkl, Hx.out, List.append_assoc]
        · show (l' ++ zat x).length ≤ _
          rw [List.length_append]
          have := HL.out
          have h4 : (zat x).length = 4 := rfl
          omega
        · rcases hat4 with e | e
          · have e : g = g4 := Option.some.inj e
            omega
          · simp at e; omega
      case measure => simp [intOf] <;> omega
    · obtain rfl : k = n := by omega
      have hki : ¬ ((k : Int) < (k : Int)) := by omega
      obtain ⟨g, n', c', rfl, hglt, hgge⟩ := HX.out
      go_wp2_with fail
      go_ret
      exact ⟨g, n', c', rfl, by
        have := HE.out
        rw [← Hn.out, List.drop_length] at this
        rw [← this]
        simpa using hO, hgge, hglt, hg⟩

end Go.Proofs.YtkjcdnlpjldhaaaGreat

