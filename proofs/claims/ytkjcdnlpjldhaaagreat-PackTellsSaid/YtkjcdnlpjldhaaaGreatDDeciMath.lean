/-
  Digits, in plain Lean: a number as decimal digits (their bytes), and bytes as a number. No program in sight.
-/
import Derived.Test.YtkjcdnlpjldhaaaGreatK01
import Derived.Test.YtkjcdnlpjldhaaaGreatK03
import Derived.Laws.Concat
namespace Go.Proofs.YtkjcdnlpjldhaaaGreat
open Tw
set_option linter.unusedVariables false
set_option linter.unusedSimpArgs false

def TellsN (N X : Nat) (E : List Nat) : Prop := zbZ N = (if X = 0 then E else zbZ X ++ E)

theorem tells_start {N : Nat} (h : N ≠ 0) : TellsN N N [] := by unfold TellsN; rw [if_neg h]; simp

theorem tells_step {N X : Nat} {E : List Nat} (h : TellsN N X E) (hx : X ≠ 0) : TellsN N (X / 10) ((48 + X % 10) :: E) := by
  unfold TellsN at h ⊢
  rw [if_neg hx] at h
  by_cases h1 : X < 10
  · rw [if_pos (by omega), h, zbQ h1, show X % 10 = X by omega]; rfl
  · rw [if_neg (by omega), h, zcD (by omega)]; simp

theorem tells_end {N : Nat} {E : List Nat} (h : TellsN N 0 E) : E = zbZ N := by
  unfold TellsN at h; rw [if_pos rfl] at h; exact h.symm

theorem tells_len {N X : Nat} {E : List Nat} (h : TellsN N X E) : E.length ≤ zds N := by
  unfold TellsN at h
  unfold zds
  split at h <;> rw [h] <;> simp

theorem ba_append (l m : List Nat) : ba l ++ ba m = ba (l ++ m) := by
  unfold ba
  rw [ByteArray.mk_append_mk, List.map_append]

end Go.Proofs.YtkjcdnlpjldhaaaGreat

