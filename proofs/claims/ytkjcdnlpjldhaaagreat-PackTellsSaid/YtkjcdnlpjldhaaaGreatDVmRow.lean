/-
  Rows of a call's own, by what their cells hold: made, read, written.
-/
import Derived.Test.YtkjcdnlpjldhaaaGreatK18
import Derived.Test.YtkjcdnlpjldhaaaGreatK16
import Derived.Test.YtkjcdnlpjldhaaaGreatK13
import Derived.Test.YtkjcdnlpjldhaaaGreatK12
import Derived.Test.YtkjcdnlpjldhaaaGreatK10
import Derived.Test.YtkjcdnlpjldhaaaGreatK09
import Derived.Test.YtkjcdnlpjldhaaaGreatK08
import Derived.Test.YtkjcdnlpjldhaaaGreatK07
import Derived.Test.YtkjcdnlpjldhaaaGreatK02
import Derived.Test.YtkjcdnlpjldhaaaGreatK01
import Derived.Test.YtkjcdnlpjldhaaaGreatK06
import Derived.Test.YtkjcdnlpjldhaaaGreatK11
import Derived.Test.YtkjcdnlpjldhaaaGreatK03
import Derived.Test.YtkjcdnlpjldhaaaGreatK04
import Derived.Test.YtkjcdnlpjldhaaaGreatK15
import Derived.Test.YtkjcdnlpjldhaaaGreatK14
import Derived.Test.YtkjcdnlpjldhaaaGreatK17
import Derived.Test.YtkjcdnlpjldhaaaGreatK20
import Derived.Test.YtkjcdnlpjldhaaaGreatDDeciMath
import Derived.Test.YtkjcdnlpjldhaaaGreatDRef6
import Derived.Test.YtkjcdnlpjldhaaaGreatDRef8
import Derived.Deep.AppendLies
namespace Go.Proofs.YtkjcdnlpjldhaaaGreat
open Go.RowKit Tw
set_option linter.unusedVariables false
set_option linter.unusedSimpArgs false

section

variable {w w' : World} {g n : Nat} {F G : Nat → Value}

end

section

variable {e : TypeId} {base : Nat} {w w' : World} {v : Value} {xs : List Value}

end

theorem wp_appendV (w : World) {ops : Array Oper} {rest : List Oper} {o : Oper} {a : Act} {Q : Exit → Act → World → Prop} (hg : o.guard = none)
    (s x : Operand) (t e : TypeId) (ho : o.op = Op.call { callee := Callee.builtin Builtin.append, args := #[s, x], argTypes := #[t, t] })
    (hu : Tryz.prog.underlying t = some (.slice e)) (z : Value) (bytes : Nat) (hi : (Tryz.prog.info? e).map (fun i => (i.zero, i.size, i.bytes)) = some (some z, 1, bytes)) (hz : z.cells.size = 1) (hB : bytes ≤ 100)
    (base : Nat) (v : Value) (xs : List Value) (u : Value) (b c : Nat) (hs : a.eval s = v) (hx : a.eval x = .slice (some ⟨b, 0, none⟩) 1 c) (hown : zaR e base w v xs) (dG : w.cell? ⟨b, 0, none⟩ = some u) (h1 : u.oneCell' = true) (hbase : base ≤ w.heap.size)
    (hn : xs.length ≤ 1000000)
    (hK : ∀ v' w', zaR e base w' v' (xs ++ [u]) → Below base w w' → wpList Tryz.prog ops Q rest (a.put o.dst v') w') :
    wpList Tryz.prog ops Q (o :: rest) a w := by
  obtain ⟨i0, hi0, hz0, hz1, hz2⟩ := info_parts hi
  refine wpList_append_own w hg s x t ho base e i0 z 1 bytes hu hi0 hz0 hz1 hz2 hz (by decide) v xs.length xs hs hown ⟨b, 0, none⟩ 1 c [u] hx rfl ?_ ?_ (by simp [maxLen]; omega) ?_ hbase ?_
  · intro j q hj
    rcases j with _ | j
    · simp only [List.getElem?_cons_zero, Option.some.injEq] at hj
      subst hj; exact dG
    · simp at hj
  · intro q hq; rw [List.mem_singleton.1 hq]; exact h1
  · exact Nat.le_trans (Nat.mul_le_mul (show xs.length + 1 ≤ 1000001 by omega) hB) (by omega)
  · intro v' w' ho' hg' _
    refine hK v' w' ?_ ((Below.refl _ _).grown hg' hbase (fun k hk => (hown.lt k hk).1))
    have : (xs ++ [u]).length = xs.length + 1 := by simp
    unfold zaR; rw [this]; exact ho'

end Go.Proofs.YtkjcdnlpjldhaaaGreat

