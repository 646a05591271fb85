/-
  The walks of package whole.
-/
import Derived.Test.YteokdkcanckfeaaNatSub
import Derived.Test.YteokdkcanckfeaaSplitDiv
import Derived.Test.YteokdkcanckfeaaWholeMath
namespace Go.Proofs.Yteokdkcanckfeaa
open Go.RowKit Tw
set_option linter.unusedVariables false
set_option linter.unusedSimpArgs false

/-- An integer as a value. -/
abbrev aggI (b : Bool) (v : Value) : Value := .agg #[.bool b, v]

/-- What a call that answers an integer leaves: the right one, in words of its own. -/
def GivesI (w : World) (z : Int) (e : Ending) (w' : World) : Prop :=
  ∃ v, e = .returned (aggI (decide (z < 0)) v) ∧ Own w.heap.size w' v (limbs z.natAbs) ∧ Below w.heap.size w w'

theorem bcell {W w1 : World} (hb : Below W.heap.size W w1) : (∀ b o, b < W.heap.size → w1.cell? ⟨b, o, none⟩ = W.cell? ⟨b, o, none⟩) ∧ (∀ b o, b < W.heap.size → w1.frozen? ⟨b, o, none⟩ = W.frozen? ⟨b, o, none⟩) :=
  ⟨fun b o h => hb.cell (p := ⟨b, o, none⟩) h, fun b o h => hb.frozen (p := ⟨b, o, none⟩) h⟩

theorem loadI (w : World) (b : Nat) (x y : Value) (c0 : w.cell? ⟨b, 0, none⟩ = some x) (c1 : w.cell? ⟨b, 1, none⟩ = some y) :
    (loadVar 41 ⟨b, 0, none⟩).run Try.prog w = .ok (.agg #[x, y]) w := by
  simp [go_sem, c0, c1]

theorem results_I {fn : Func} {k : Tmp} (h : fn.results = #[.cell k 41]) (tmps : Array Value) (w : World) (b : Nat) (x y : Value) (hk : tmps.getD k undef = .pointer (some ⟨b, 0, none⟩))
    (c0 : w.cell? ⟨b, 0, none⟩ = some x) (c1 : w.cell? ⟨b, 1, none⟩ = some y) : (results fn tmps).run Try.prog w = .ok (.agg #[x, y]) w := by
  have hl := loadI w b x y c0 c1
  have hk' : tmps[k]?.getD undef = .pointer (some ⟨b, 0, none⟩) := by simpa using hk
  simp [results, h, asAddr, Sem.run_bind, hl, Result.andThen, hk']

theorem results_It {fn : Func} {k j : Tmp} (h : fn.results = #[.cell k 41, .tmp j]) (tmps : Array Value) (w : World) (b : Nat) (x y : Value) (hk : tmps.getD k undef = .pointer (some ⟨b, 0, none⟩))
    (c0 : w.cell? ⟨b, 0, none⟩ = some x) (c1 : w.cell? ⟨b, 1, none⟩ = some y) : (results fn tmps).run Try.prog w = .ok (.tuple #[.agg #[x, y], tmps.getD j undef]) w := by
  have hl := loadI w b x y c0 c1
  have hk' : tmps[k]?.getD undef = .pointer (some ⟨b, 0, none⟩) := by simpa using hk
  simp [results, h, asAddr, Sem.run_bind, hl, Result.andThen, hk']

/-- Two cells just written. -/
theorem two_cells {w : World} {b : Nat} {x y x0 y0 : Value} (h0 : w.cell? ⟨b, 0, none⟩ = some x0) (h1 : w.cell? ⟨b, 1, none⟩ = some y0) :
    ((w.setCell ⟨b, 0, none⟩ x).setCell ⟨b, 1, none⟩ y).cell? ⟨b, 0, none⟩ = some x ∧ ((w.setCell ⟨b, 0, none⟩ x).setCell ⟨b, 1, none⟩ y).cell? ⟨b, 1, none⟩ = some y := by
  have e1 : (⟨b, 1, none⟩ : Addr) ≠ ⟨b, 0, none⟩ := by simp
  constructor
  · rw [World.cell?_setCell_other (h := e1)]
    exact World.cell?_setCell_same' _ _ _ (by rw [h0]; rfl)
  · apply World.cell?_setCell_same'
    rw [World.cell?_setCell_other (h := Ne.symm e1), h1]; rfl

theorem sgn_test {b : Bool} {n nt : Nat} (h : (limbs n).length = nt) : decide (sgn b n < 0) = (b && decide (0 < nt)) := by
  rw [sgn_neg]
  congr 1
  rw [decide_eq_decide, ← h, sz_def]
  have := @sz_eq_zero n
  omega

set_option maxHeartbeats 1000000 in
theorem whole_signed (b : Bool) (v : Value) (l : List Nat) (w : World) (h : Rd w v l) (hl : l.length ≤ 1000000) :
    Calls Try.prog 67 #[.bool b, v] w (GivesI w (sgn b (val l))) := by
  have H2 := Lib.hid (sgn_abs b (val l))
  go_enter Try.func67, Try.ntmps67
  go_wp2_with fail
  refine (nat_trim v l _ (h.alloc _) (by omega)).mono ?_
  rintro e w1 ⟨t, rfl, ht, hb1⟩
  obtain ⟨at1, nt, ct, rfl, Hnt, _⟩ := ht.rd.open
  have H1 := Lib.hid (sgn_test (b := b) Hnt.out)
  obtain ⟨hc, hf⟩ := bcell hb1
  have h0 : w1.cell? ⟨w.heap.size, 0, none⟩ = some (.bool false) := by rw [hc _ _ (by simp)]; simp [go_sem]
  have h1 : w1.cell? ⟨w.heap.size, 1, none⟩ = some (.slice none 0 0) := by rw [hc _ _ (by simp)]; simp [go_sem]
  have hown : ∀ (x y : Value), Own w.heap.size ((w1.setCell ⟨w.heap.size, 0, none⟩ x).setCell ⟨w.heap.size, 1, none⟩ y) (.slice at1 nt ct) (limbs (sgn b (val l)).natAbs) := fun x y => by
    rw [H2.out]; exact ((ht.setOther (by simp) _).setOther (by simp) _).mono (by simp)
  have hbel : ∀ (x y : Value), Below w.heap.size w ((w1.setCell ⟨w.heap.size, 0, none⟩ x).setCell ⟨w.heap.size, 1, none⟩ y) := fun x y =>
    ((below_step (below_new _ _) hb1).setCell (Nat.le_refl _) _).setCell (Nat.le_refl _) _
  cases b
  · go_wp2_with fail
    obtain ⟨k0, k1⟩ := two_cells (x := .bool false) (y := .slice at1 nt ct) h0 h1
    exact bodyPost_ret (results_I Try.results67 _ _ _ _ _ rfl k0 k1) rfl ⟨_, by rw [H1.out]; rfl, hown _ _, hbel _ _⟩
  · go_wp2_with fail
    obtain ⟨k0, k1⟩ := two_cells (x := .bool (decide (0 < nt))) (y := .slice at1 nt ct) h0 h1
    exact bodyPost_ret (results_I Try.results67 _ _ _ _ _ rfl k0 k1) rfl ⟨_, by rw [H1.out]; rfl, hown _ _, hbel _ _⟩

/-- An integer that a callee has answered, laid into the call's own result. -/
theorem finI {w w1 w2 : World} {rb : Nat} {z : Int} {v : Value} (hb0 : Below w.heap.size w w1) (hrb : w.heap.size ≤ rb) (hrb1 : rb < w1.heap.size) (hv : Own w1.heap.size w2 v (limbs z.natAbs)) (hb : Below w1.heap.size w1 w2) :
    GivesI w z (.returned (aggI (decide (z < 0)) v)) ((w2.setCell ⟨rb, 0, none⟩ (.bool (decide (z < 0)))).setCell ⟨rb, 1, none⟩ v) :=
  ⟨v, rfl, ((hv.setOther (p := ⟨rb, 0, none⟩) hrb1 _).setOther (p := ⟨rb, 1, none⟩) hrb1 _).mono hb0.size, ((below_step hb0 hb).setCell (p := ⟨rb, 0, none⟩) hrb _).setCell (p := ⟨rb, 1, none⟩) hrb _⟩

set_option maxRecDepth 100000 in
set_option maxHeartbeats 1000000 in
theorem whole_fix (b : Bool) (v : Value) (l : List Nat) (w : World) (h : Rd w v l) (hl : l.length ≤ 1000000) :
    Calls Try.prog 40 #[aggI b v] w (GivesI w (sgn b (val l))) := by
  obtain ⟨av, nv, cv, rfl, _, _⟩ := h.open
  go_enter Try.func40, Try.ntmps40
  go_wp2_with fail
  refine (whole_signed b _ l _ ((h.alloc _).alloc _) hl).mono ?_
  rintro e w2 ⟨t, rfl, ht, hb⟩
  obtain ⟨at1, nt, ct, rfl, _, _⟩ := ht.rd.open
  generalize hng : decide (sgn b (val l) < 0) = ng
  have Hng := Lib.hid hng
  clear hng
  obtain ⟨hc, hf⟩ := bcell hb
  have h0 : w2.cell? ⟨w.heap.size + 1, 0, none⟩ = some (.bool false) := by rw [hc _ _ (by simp)]; simp [go_sem]
  have h1 : w2.cell? ⟨w.heap.size + 1, 1, none⟩ = some (.slice none 0 0) := by rw [hc _ _ (by simp)]; simp [go_sem]
  go_wp2_with fail
  have e := Hng.out
  subst e
  obtain ⟨k0, k1⟩ := two_cells (x := .bool (decide (sgn b (val l) < 0))) (y := .slice at1 nt ct) h0 h1
  exact bodyPost_ret (results_I Try.results40 _ _ _ _ _ rfl k0 k1) rfl (finI (below_step (below_new _ _) (below_new _ _)) (by omega) (by simp) ht hb)

set_option maxRecDepth 100000 in
set_option maxHeartbeats 1000000 in
theorem whole_neg (b : Bool) (v : Value) (l : List Nat) (w : World) (h : Rd w v l) (hl : l.length ≤ 1000000) :
    Calls Try.prog 41 #[aggI b v] w (GivesI w (- sgn b (val l))) := by
  rw [← sgn_not]
  obtain ⟨av, nv, cv, rfl, _, _⟩ := h.open
  go_enter Try.func41, Try.ntmps41
  go_wp2_with fail
  refine (whole_signed (!b) _ l _ ((h.alloc _).alloc _) hl).mono ?_
  rintro e w2 ⟨t, rfl, ht, hb⟩
  obtain ⟨at1, nt, ct, rfl, _, _⟩ := ht.rd.open
  generalize hng : decide (sgn (!b) (val l) < 0) = ng
  have Hng := Lib.hid hng
  clear hng
  obtain ⟨hc, hf⟩ := bcell hb
  have h0 : w2.cell? ⟨w.heap.size + 1, 0, none⟩ = some (.bool false) := by rw [hc _ _ (by simp)]; simp [go_sem]
  have h1 : w2.cell? ⟨w.heap.size + 1, 1, none⟩ = some (.slice none 0 0) := by rw [hc _ _ (by simp)]; simp [go_sem]
  go_wp2_with fail
  have e := Hng.out
  subst e
  obtain ⟨k0, k1⟩ := two_cells (x := .bool (decide (sgn (!b) (val l) < 0))) (y := .slice at1 nt ct) h0 h1
  exact bodyPost_ret (results_I Try.results41 _ _ _ _ _ rfl k0 k1) rfl (finI (below_step (below_new _ _) (below_new _ _)) (by omega) (by simp) ht hb)

end Go.Proofs.Yteokdkcanckfeaa
