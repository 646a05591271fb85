/-
  Integers in boxes of the caller's own: a box that is laid ahead of, between, or behind the calls whose answer it takes.
-/
import Derived.Test.YteokdkcanckfeaaWholeZ
namespace Go.Proofs.Yteokdkcanckfeaa
open Go.RowKit Tw
set_option linter.unusedVariables false

/-- GivesZ, and the words are rows of the call's own. -/
def GivesO (w : World) (z : Int) (e : Ending) (w' : World) : Prop :=
  ∃ ng a n c, e = .returned (aggI ng (.slice a n c)) ∧ Hid (decide (z < 0) = ng) ∧ Own w.heap.size w' (.slice a n c) (limbs z.natAbs) ∧ IsI w' ng (.slice a n c) (limbs z.natAbs) z ∧ Below w.heap.size w w'
theorem givesO {w : World} {z z' : Int} {e : Ending} {w' : World} (hz : z = z') (hs : szi z' ≤ 90000) (h : GivesI w z e w') : GivesO w z' e w' := by
  subst hz
  obtain ⟨v, rfl, hv, hb⟩ := h
  obtain ⟨a, n, c, rfl, _, _⟩ := hv.rd.open
  exact ⟨_, a, n, c, rfl, rfl, hv, ⟨hv.rd, sgn_back z, by rw [sz_def]; exact hs⟩, hb⟩

section
variable {b c : Bool} {va vb : Value} {la lb : List Nat} {x y : Int}
theorem sub_o (w : World) (g0 : IsI w b va la x) (g1 : IsI w c vb lb y) (z : Int) (hz : x - y = z) (hs : Hid (szi z ≤ 90000)) :
    Calls Try.prog 38 #[aggI b va, aggI c vb] w (GivesO w z) :=
  (whole_sub b c va vb la lb w g0.1 g1.1 (Nat.le_trans g0.2.2 (by omega)) (Nat.le_trans g1.2.2 (by omega))).mono fun e w' h => givesO (by rw [g0.2.1, g1.2.1, hz]) hs h

end

theorem cell_alloc {w : World} {b o : Nat} {v : Value} (h : w.cell? ⟨b, o, none⟩ = some v) (obj : Obj) : (w.alloc obj).cell? ⟨b, o, none⟩ = some v :=
  ((below_new w obj).cell (p := ⟨b, o, none⟩) (block_lt h)).trans h
theorem cell_set {w : World} {b o : Nat} {v : Value} (h : w.cell? ⟨b, o, none⟩ = some v) {b' o' : Nat} (hne : b ≠ b') (x : Value) : (w.setCell ⟨b', o', none⟩ x).cell? ⟨b, o, none⟩ = some v := by
  have e : (⟨b', o', none⟩ : Addr) ≠ ⟨b, o, none⟩ := fun k => hne (by injection k with k1; exact k1.symm)
  rw [World.cell?_setCell_other (h := by first | exact e | exact e.symm), h]

/-- The address s is that of a new box, laid since W, that holds the integer z. -/
def BoxI (W : World) (z : Int) (s : Value) (wx : World) : Prop :=
  ∃ B ng a n c, s = .pointer (some ⟨B, 0, none⟩) ∧ W.heap.size ≤ B ∧ B < wx.heap.size ∧ wx.cell? ⟨B, 0, none⟩ = some (.bool ng) ∧ wx.cell? ⟨B, 1, none⟩ = some (.slice a n c) ∧
    wx.frozen? ⟨B, 0, none⟩ = false ∧ wx.frozen? ⟨B, 1, none⟩ = false ∧ Hid (decide (z < 0) = ng) ∧ IsI wx ng (.slice a n c) (limbs z.natAbs) z ∧ Below W.heap.size W wx
theorem boxI_new {W w : World} {z : Int} {ng : Bool} {a : Option Addr} {n c : Nat} (hb : Below W.heap.size W w) (hng : Hid (decide (z < 0) = ng)) (g : IsI w ng (.slice a n c) (limbs z.natAbs) z) :
    BoxI W z (.pointer (some ⟨w.heap.size, 0, none⟩)) (w.alloc (.cells #[.bool ng, .slice a n c] 41)) := by
  refine ⟨w.heap.size, ng, a, n, c, rfl, hb.size, by simp, by simp [go_sem], by simp [go_sem], by simp [go_sem], by simp [go_sem], hng, g.to (below_new _ _), below_step hb (below_new _ _)⟩
theorem boxI_set {W w : World} {z : Int} {ng : Bool} {a : Option Addr} {n c B base : Nat} {x0 y0 : Value} (hb : Below W.heap.size W w) (hng : Hid (decide (z < 0) = ng)) (o : Own base w (.slice a n c) (limbs z.natAbs))
    (g : IsI w ng (.slice a n c) (limbs z.natAbs) z) (hB : W.heap.size ≤ B) (hl : B < base) (h0 : w.cell? ⟨B, 0, none⟩ = some x0) (h1 : w.cell? ⟨B, 1, none⟩ = some y0) (f0 : w.frozen? ⟨B, 0, none⟩ = false) (f1 : w.frozen? ⟨B, 1, none⟩ = false) :
    BoxI W z (.pointer (some ⟨B, 0, none⟩)) ((w.setCell ⟨B, 0, none⟩ (.bool ng)).setCell ⟨B, 1, none⟩ (.slice a n c)) := by
  obtain ⟨k0, k1⟩ := two_cells (x := .bool ng) (y := .slice a n c) h0 h1
  refine ⟨B, ng, a, n, c, rfl, hB, ?_, k0, k1, by simp [go_sem, f0], by simp [go_sem, f1], hng, ⟨((o.setOther (by exact hl) _).setOther (by exact hl) _).rd, g.2⟩, (hb.setCell (by exact hB) _).setCell (by exact hB) _⟩
  have := block_lt h0
  simpa using this

end Go.Proofs.Yteokdkcanckfeaa
