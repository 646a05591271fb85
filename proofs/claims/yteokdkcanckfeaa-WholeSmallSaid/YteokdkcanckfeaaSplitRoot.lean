/-
  The walks of split.Half and split.Root.
-/
import Derived.Test.YteokdkcanckfeaaSplitDiv
namespace Go.Proofs.Yteokdkcanckfeaa
open Go.RowKit Tw
set_option linter.unusedVariables false
set_option linter.unusedSimpArgs false

/-- The number that a slice of words reads as. -/
def rdWord (w : World) (b o : Nat) : Nat := match w.cell? ⟨b, o, none⟩ with
  | some (.int _ n) => n.toNat
  | _ => 0
def rdVal (w : World) : Value → Nat
  | .slice (some ⟨b, off, none⟩) n _ => val ((List.range n).map fun i => rdWord w b (off + i))
  | _ => 0

theorem rdVal_rd {w : World} {v : Value} {l : List Nat} (h : Rd w v l) : rdVal w v = val l := by
  rcases h.2 with ⟨rfl, a, cap, rfl, _⟩ | ⟨b, off, cap, rfl, hl, hc, hm, hcell⟩
  · rcases a with _ | ⟨b, off, _ | s⟩ <;> rfl
  · show val _ = val l
    congr 1
    apply List.ext_getElem
    · simp
    · intro i h1 h2
      simp only [List.getElem_map, List.getElem_range]
      unfold rdWord
      rw [hcell i h2]
      simp [nth_of h2]

theorem val_one1 : val [1] = 1 := by decide

theorem sz_pow2 (j : Nat) : sz (2 ^ j) ≤ j / 32 + 1 := by
  apply sz_le
  rw [show B = 2 ^ 32 from rfl, ← Nat.pow_mul]
  exact Nat.pow_lt_pow_right (by omega) (by omega)

theorem newton_start {n : Nat} (h : n ≠ 0) : n < (2 ^ ((nbits n + 1) / 2) + 1) * (2 ^ ((nbits n + 1) / 2) + 1) := by
  have h1 := nbits_lt n
  have h2 : 2 ^ nbits n ≤ 2 ^ ((nbits n + 1) / 2) * 2 ^ ((nbits n + 1) / 2) := by
    rw [← Nat.pow_add]
    exact Nat.pow_le_pow_right (by omega) (by omega)
  have h3 : 2 ^ ((nbits n + 1) / 2) * 2 ^ ((nbits n + 1) / 2) ≤ (2 ^ ((nbits n + 1) / 2) + 1) * (2 ^ ((nbits n + 1) / 2) + 1) := Nat.mul_le_mul (by omega) (by omega)
  omega

theorem newton_pos {n x : Nat} (hn : n ≠ 0) (hx : 0 < x) : 0 < (x + n / x) / 2 := by
  have h : 2 ≤ x + n / x := by
    rcases Nat.lt_or_ge x 2 with h | h
    · obtain rfl : x = 1 := by omega
      rw [Nat.div_one]; omega
    · exact Nat.le_trans h (Nat.le_add_right _ _)
  omega

end Go.Proofs.Yteokdkcanckfeaa
