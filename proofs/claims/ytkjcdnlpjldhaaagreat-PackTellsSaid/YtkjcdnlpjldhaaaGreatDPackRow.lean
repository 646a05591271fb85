/-
  Rows of bytes that are lengthened by rows of bytes; counts and words as bytes, written by the program and by the document.
-/
import Derived.Test.YtkjcdnlpjldhaaaGreatK04
import Derived.Test.YtkjcdnlpjldhaaaGreatK02
import Derived.Test.YtkjcdnlpjldhaaaGreatK01
import Derived.Test.YtkjcdnlpjldhaaaGreatK03
import Derived.Test.YtkjcdnlpjldhaaaGreatK21
import Derived.Test.YtkjcdnlpjldhaaaGreatK20
import Derived.Test.YtkjcdnlpjldhaaaGreatK18
import Derived.Test.YtkjcdnlpjldhaaaGreatK16
import Derived.Test.YtkjcdnlpjldhaaaGreatK13
import Derived.Test.YtkjcdnlpjldhaaaGreatK12
import Derived.Test.YtkjcdnlpjldhaaaGreatK10
import Derived.Test.YtkjcdnlpjldhaaaGreatK09
import Derived.Test.YtkjcdnlpjldhaaaGreatK08
import Derived.Test.YtkjcdnlpjldhaaaGreatK07
import Derived.Test.YtkjcdnlpjldhaaaGreatK06
import Derived.Test.YtkjcdnlpjldhaaaGreatK11
import Derived.Test.YtkjcdnlpjldhaaaGreatK15
import Derived.Test.YtkjcdnlpjldhaaaGreatK14
import Derived.Test.YtkjcdnlpjldhaaaGreatK17
import Derived.Test.YtkjcdnlpjldhaaaGreatK25
import Derived.Test.YtkjcdnlpjldhaaaGreatDDeciMath
import Derived.Test.YtkjcdnlpjldhaaaGreatDRef6
import Derived.Test.YtkjcdnlpjldhaaaGreatDRef8
import Derived.Test.YtkjcdnlpjldhaaaGreatDVmRow
import Derived.Deep.AppendLies
namespace Go.Proofs.YtkjcdnlpjldhaaaGreat
open Go.RowKit Tw
set_option linter.unusedVariables false
set_option linter.unusedSimpArgs false

theorem cnt_bytes : ∀ n : Nat, ∀ x ∈ cnt n, x < 256
  | n => by
    by_cases h : n < 128
    · rw [zdd h]; intro x hx; rw [List.mem_singleton.1 hx]; omega
    · rw [zeK h]
      intro x hx
      rcases List.mem_cons.1 hx with hx | hx
      · omega
      · exact cnt_bytes (n / 128) x hx

section

variable {w w' w2 : World} {v : Value} {l l2 : List Nat} {base : Nat} {row row' : Option Nat}

theorem step_appendBs (w : World) {ops : Array Oper} {o : Oper} {a : Act} {K : Act → World → Prop} {Q : Exit → Act → World → Prop} {E : Prop} (hg : o.guard = none)
    (s x : Operand) (ho : o.op = Op.call { callee := Callee.builtin Builtin.append, args := #[s, x], argTypes := #[54, 54] })
    (v : Value) (l l2 : List Nat) (b2 n2 c2 : Nat) (hs : a.eval s = v) (hx : a.eval x = .slice (some ⟨b2, 0, none⟩) n2 c2) (hown : zR 0 w v l)
    (hl2 : l2.length = n2) (h0 : 0 < n2) (h256 : ∀ x ∈ l2, x < 256) (hcell : ∀ j, j < l2.length → w.cell? ⟨b2, j, none⟩ = some (u8v (nth l2 j))) (hn : l.length + n2 ≤ 1099511627776) (H : Nat) (hH : w.heap.size = H)
    (hK : ∀ g c w', zR 0 w' (.slice (some ⟨g, 0, none⟩) (l.length + n2) c) (l ++ l2) → w.grownBy w' v.ownBlock → (v.ownBlock = some g ∨ g = H) → g < w'.heap.size → K (a.put o.dst (.slice (some ⟨g, 0, none⟩) (l.length + n2) c)) w') :
    if Region.wanted o (yielded ops a.tmps) = true then Oper.wp Tryz.prog o a w K Q else E := by
  obtain ⟨i0, hi, hz0, hz1, hz2⟩ := info_parts info8
  refine step_append_lies w hg s x 54 ho 0 5 i0 (.int .u8 0) 1 1 Tryz.underlying54 hi hz0 hz1 hz2 rfl (by decide) v l.length (l.map u8v) hs hown.2 ⟨b2, 0, none⟩ n2 c2 (l2.map u8v)
    hx (by simp [hl2]) (fun j u hj => ?_) (fun u hu => ?_) h0 (by simp [maxLen]; omega) (by omega) (Nat.zero_le _) H hH ?_
  · by_cases hjl : j < l2.length
    · rw [List.getElem?_map, List.getElem?_eq_getElem hjl] at hj
      have hj := Option.some.inj hj
      subst hj
      rw [zaS, Nat.zero_add, hcell j hjl, zaf hjl]
    · rw [List.getElem?_eq_none (by simp; omega)] at hj; cases hj
  · obtain ⟨y, _, rfl⟩ := List.mem_map.1 hu; rfl
  · intro g c w' hown' hgrow hat hlt
    refine hK g c w' ⟨fun y hy => ?_, ?_⟩ hgrow hat hlt
    · rcases List.mem_append.1 hy with hy | hy
      · exact hown.1 y hy
      · exact h256 y hy
    · rw [List.length_append, List.map_append, hl2]; exact hown'

def GivesB (w : World) (l : List Nat) (e : Ending) (w' : World) : Prop :=
  ∃ g n c, e = .returned (.slice (some ⟨g, 0, none⟩) n c) ∧ zR 0 w' (.slice (some ⟨g, 0, none⟩) n c) l ∧ w.heap.size ≤ g ∧ g < w'.heap.size ∧ Below w.heap.size w w'

end

end Go.Proofs.YtkjcdnlpjldhaaaGreat

