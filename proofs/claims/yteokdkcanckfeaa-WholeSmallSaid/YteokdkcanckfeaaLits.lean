/-
  What a statement's call comes to, and the literals that it lays.
-/
import Derived.Test.YteokdkcanckfeaaRef2b
namespace Go.Proofs.Yteokdkcanckfeaa
open Go.RowKit Tw
set_option linter.unusedVariables false
set_option linter.unusedSimpArgs false

/-- What a statement's call comes to. -/
def Holds (w : World) (e : Ending) (w' : World) : Prop := e = .returned (.bool true) ∧ Below w.heap.size w w'

theorem lit2 (w : World) {a b : Nat} (ha : a < 4294967296) (hb : b < 4294967296) : Rd (w.alloc (.cells #[u32v a, u32v b] 38)) (.slice (some ⟨w.heap.size, 0, none⟩) 2 2) [a, b] :=
  (own_lit w [a, b] (small2 ha hb) (by simp [maxLen])).rd
theorem lit1 (w : World) {a : Nat} (ha : a < 4294967296) : Rd (w.alloc (.cells #[u32v a] 38)) (.slice (some ⟨w.heap.size, 0, none⟩) 1 1) [a] :=
  (own_lit w [a] (small1 ha) (by simp [maxLen])).rd
theorem lit1_at (w : World) {n a : Nat} (hn : n = w.heap.size) (ha : a < 4294967296) : Rd (w.alloc (.cells #[u32v a] 38)) (.slice (some ⟨n, 0, none⟩) 1 1) [a] := by
  subst hn; exact lit1 w ha

theorem below_new2 {w w1 : World} (o : Obj) (h : Below (w.alloc o).heap.size (w.alloc o) w1) : Below w.heap.size w w1 := below_step (below_new _ _) h

end Go.Proofs.Yteokdkcanckfeaa
