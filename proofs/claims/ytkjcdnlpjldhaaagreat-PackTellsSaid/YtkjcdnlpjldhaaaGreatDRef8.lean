/-
  The walks of package ratio.
-/
import Derived.Test.YtkjcdnlpjldhaaaGreatK13
import Derived.Test.YtkjcdnlpjldhaaaGreatK12
import Derived.Test.YtkjcdnlpjldhaaaGreatK10
import Derived.Test.YtkjcdnlpjldhaaaGreatK09
import Derived.Test.YtkjcdnlpjldhaaaGreatK08
import Derived.Test.YtkjcdnlpjldhaaaGreatK07
import Derived.Test.YtkjcdnlpjldhaaaGreatK02
import Derived.Test.YtkjcdnlpjldhaaaGreatK01
import Derived.Test.YtkjcdnlpjldhaaaGreatK06
import Derived.Test.YtkjcdnlpjldhaaaGreatK11
import Derived.Test.YtkjcdnlpjldhaaaGreatK03
import Derived.Test.YtkjcdnlpjldhaaaGreatK04
import Derived.Test.YtkjcdnlpjldhaaaGreatK16
import Derived.Test.YtkjcdnlpjldhaaaGreatK15
import Derived.Test.YtkjcdnlpjldhaaaGreatK14
import Derived.Test.YtkjcdnlpjldhaaaGreatDDeciMath
import Derived.Test.YtkjcdnlpjldhaaaGreatDRef6
import Derived.Deep.RegionHeld3
import Derived.Deep.Cut
import Derived.Deep.DrawnRows
import Derived.Laws.EntriesVeiled
namespace Go.Proofs.YtkjcdnlpjldhaaaGreat
open Go.RowKit Tw
set_option linter.unusedVariables false
set_option linter.unusedSimpArgs false
attribute [local go_sem ↓] Go.wp_at_zero Go.wp_at_succ

set_option maxRecDepth 100000 in
set_option maxHeartbeats 4000000 in
theorem ref8_fix {x : Rat} (b : Bool) (v u : Value) (ln ld : List Nat) (w : World) (h : IsQ w b v u ln ld x) (q : Rat) (hq : x = q) (hs : Hid (szq q ≤ 1000)) :
    Calls Tryz.prog 67 #[aggR b v u] w (zan w q) := by
  have H9 := Lib.hid (show rat b (val ln) (val ld) = q by rw [h.2.2.1, hq])
  obtain ⟨a0, n0, c0, rfl, H0, hm0⟩ := h.1.open
  obtain ⟨a1, n1, c1, rfl, H1, hm1⟩ := h.2.1.open
  clear hq
  go_enter Tryz.func67, Tryz.ntmps67
  go_wp2_with fail
  obtain ⟨W0, ap⟩ : ∃ W0, (w.alloc (.cells #[.bool b, .slice a0 n0 c0, .slice a1 n1 c1] 47)).alloc (.cells #[.bool false, .slice none 0 0, .slice none 0 0] 47) = W0 := ⟨_, rfl⟩
  have aq := Lib.hid (show ∀ W', Below W0.heap.size W0 W' → (W'.cell? ⟨w.heap.size, 0, none⟩ = some (.bool b) ∧ W'.cell? ⟨w.heap.size, 1, none⟩ = some (.slice a0 n0 c0) ∧ W'.cell? ⟨w.heap.size, 2, none⟩ = some (.slice a1 n1 c1) ∧ W'.cell? ⟨w.heap.size + 1, 0, none⟩ = some (.bool false) ∧ W'.cell? ⟨w.heap.size + 1, 1, none⟩ = some (.slice none 0 0) ∧ W'.cell? ⟨w.heap.size + 1, 2, none⟩ = some (.slice none 0 0)) from fun W' hb =>
    ⟨(hb.cell (p := ⟨w.heap.size, 0, none⟩) (by rw [← ap]; simp <;> omega)).trans (by rw [← ap]; simp [go_sem]), (hb.cell (p := ⟨w.heap.size, 1, none⟩) (by rw [← ap]; simp <;> omega)).trans (by rw [← ap]; simp [go_sem]), (hb.cell (p := ⟨w.heap.size, 2, none⟩) (by rw [← ap]; simp <;> omega)).trans (by rw [← ap]; simp [go_sem]), (hb.cell (p := ⟨w.heap.size + 1, 0, none⟩) (by rw [← ap]; simp <;> omega)).trans (by rw [← ap]; simp [go_sem]), (hb.cell (p := ⟨w.heap.size + 1, 1, none⟩) (by rw [← ap]; simp <;> omega)).trans (by rw [← ap]; simp [go_sem]), (hb.cell (p := ⟨w.heap.size + 1, 2, none⟩) (by rw [← ap]; simp <;> omega)).trans (by rw [← ap]; simp [go_sem])⟩)
  have cf := Lib.hid (show ∀ W', Below W0.heap.size W0 W' → (W'.frozen? ⟨w.heap.size, 0, none⟩ = false ∧ W'.frozen? ⟨w.heap.size, 1, none⟩ = false ∧ W'.frozen? ⟨w.heap.size, 2, none⟩ = false ∧ W'.frozen? ⟨w.heap.size + 1, 0, none⟩ = false ∧ W'.frozen? ⟨w.heap.size + 1, 1, none⟩ = false ∧ W'.frozen? ⟨w.heap.size + 1, 2, none⟩ = false) from fun W' hb =>
    ⟨(hb.frozen (p := ⟨w.heap.size, 0, none⟩) (by rw [← ap]; simp <;> omega)).trans (by rw [← ap]; simp [go_sem]), (hb.frozen (p := ⟨w.heap.size, 1, none⟩) (by rw [← ap]; simp <;> omega)).trans (by rw [← ap]; simp [go_sem]), (hb.frozen (p := ⟨w.heap.size, 2, none⟩) (by rw [← ap]; simp <;> omega)).trans (by rw [← ap]; simp [go_sem]), (hb.frozen (p := ⟨w.heap.size + 1, 0, none⟩) (by rw [← ap]; simp <;> omega)).trans (by rw [← ap]; simp [go_sem]), (hb.frozen (p := ⟨w.heap.size + 1, 1, none⟩) (by rw [← ap]; simp <;> omega)).trans (by rw [← ap]; simp [go_sem]), (hb.frozen (p := ⟨w.heap.size + 1, 2, none⟩) (by rw [← ap]; simp <;> omega)).trans (by rw [← ap]; simp [go_sem])⟩)
  have cg := Lib.hid (show ∀ W', Below W0.heap.size W0 W' → (w.heap.size < W'.heap.size ∧ w.heap.size + 1 < W'.heap.size) from fun W' hb =>
    ⟨Nat.lt_of_lt_of_le (by rw [← ap]; simp <;> omega) hb.size, Nat.lt_of_lt_of_le (by rw [← ap]; simp <;> omega) hb.size⟩)
  have zb : Below w.heap.size w W0 := by rw [← ap]; exact bS (bN _ _) (bN _ _)
  rw [ap]
  clear ap
  have i0 := h.to zb
  have gb : Below W0.heap.size W0 W0 := Below.refl _ _
  obtain ⟨ae, af, ah, am, an, aw⟩ := aq.out _ gb
  obtain ⟨ai, ak, al, aB, aC, aD⟩ := cf.out _ gb
  obtain ⟨z0, z1⟩ := cg.out _ gb
  refine (zhy b _ _ ln ld _ (i0.to gb).1 (i0.to gb).2.1 (Nat.le_trans h.2.2.2.1 (by omega)) (Nat.le_trans h.2.2.2.2 (by omega)) q H9.out hs).mono ?_
  clear ae ai af ak ah al am aB an aC aw aD
  rintro e w1 ⟨ng1, a1_, n1_, c1_, p1_, m1_, k1_, rfl, g1, aS⟩
  replace gb := bS gb aS
  obtain ⟨ae, af, ah, am, an, aw⟩ := aq.out _ gb
  obtain ⟨ai, ak, al, aB, aC, aD⟩ := cf.out _ gb
  obtain ⟨z0, z1⟩ := cg.out _ gb
  go_wp2_with fail
  refine bodyPost_ret (zZ Tryz.results67 _ _ _ _ _ _ rfl (Tri.set (x0 := .bool false) (y0 := .slice none 0 0) (z0 := .slice none 0 0) ⟨am, an, aw, aB, aC, aD⟩ _ _ _)) rfl (zdH (bS zb gb) (by omega) ?_ g1)
  omega

set_option maxRecDepth 100000 in
set_option maxHeartbeats 4000000 in
theorem ref8_right {x : Rat} (b : Bool) (v u : Value) (ln ld : List Nat) (w : World) (h : IsQ w b v u ln ld x) (o : Bool) (ho : zdQ b ln ld x = o) :
    Calls Tryz.prog 59 #[aggR b v u] w (fun e w' => e = .returned (.bool o) ∧ Below w.heap.size w w') := by
  have Hx := zaG h
  have HO := Lib.hid ho
  clear ho
  obtain ⟨a0, n0, c0, rfl, H0, hm0⟩ := h.1.open
  obtain ⟨a1, n1, c1, rfl, H1, hm1⟩ := h.2.1.open
  go_enter Tryz.func59, Tryz.ntmps59
  go_wp2_with fail
  obtain ⟨W0, ap⟩ : ∃ W0, w.alloc (.cells #[.bool b, .slice a0 n0 c0, .slice a1 n1 c1] 47) = W0 := ⟨_, rfl⟩
  have aq := Lib.hid (show ∀ W', Below W0.heap.size W0 W' → (W'.cell? ⟨w.heap.size, 0, none⟩ = some (.bool b) ∧ W'.cell? ⟨w.heap.size, 1, none⟩ = some (.slice a0 n0 c0) ∧ W'.cell? ⟨w.heap.size, 2, none⟩ = some (.slice a1 n1 c1)) from fun W' hb =>
    ⟨(hb.cell (p := ⟨w.heap.size, 0, none⟩) (by rw [← ap]; simp <;> omega)).trans (by rw [← ap]; simp [go_sem]), (hb.cell (p := ⟨w.heap.size, 1, none⟩) (by rw [← ap]; simp <;> omega)).trans (by rw [← ap]; simp [go_sem]), (hb.cell (p := ⟨w.heap.size, 2, none⟩) (by rw [← ap]; simp <;> omega)).trans (by rw [← ap]; simp [go_sem])⟩)
  have cf := Lib.hid (show ∀ W', Below W0.heap.size W0 W' → (W'.frozen? ⟨w.heap.size, 0, none⟩ = false ∧ W'.frozen? ⟨w.heap.size, 1, none⟩ = false ∧ W'.frozen? ⟨w.heap.size, 2, none⟩ = false) from fun W' hb =>
    ⟨(hb.frozen (p := ⟨w.heap.size, 0, none⟩) (by rw [← ap]; simp <;> omega)).trans (by rw [← ap]; simp [go_sem]), (hb.frozen (p := ⟨w.heap.size, 1, none⟩) (by rw [← ap]; simp <;> omega)).trans (by rw [← ap]; simp [go_sem]), (hb.frozen (p := ⟨w.heap.size, 2, none⟩) (by rw [← ap]; simp <;> omega)).trans (by rw [← ap]; simp [go_sem])⟩)
  have cg := Lib.hid (show ∀ W', Below W0.heap.size W0 W' → (w.heap.size < W'.heap.size) from fun W' hb =>
    Nat.lt_of_lt_of_le (by rw [← ap]; simp <;> omega) hb.size)
  have zb : Below w.heap.size w W0 := by rw [← ap]; exact bN _ _
  rw [ap]
  clear ap
  have i0 := h.to zb
  have gb : Below W0.heap.size W0 W0 := Below.refl _ _
  obtain ⟨ae, af, ah⟩ := aq.out _ gb
  obtain ⟨ai, ak, al⟩ := cf.out _ gb
  obtain z0 := cg.out _ gb
  have HH := Lib.hid (show ∀ ng, decide (x < 0) = ng → (ng == b && decide (za x.num.natAbs = ln) && decide (za x.den = ld)) = o from fun ng e => by rw [← HO.out, ← e]; rfl)
  go_region_held3 (fun W' => W'.cell? ⟨w.heap.size, 0, none⟩ = some (.bool b) ∧ W'.cell? ⟨w.heap.size, 1, none⟩ = some (.slice a0 n0 c0) ∧ W'.cell? ⟨w.heap.size, 2, none⟩ = some (.slice a1 n1 c1)) (first | (with_reducible exact ⟨ae, af, ah⟩) | exact ⟨ae, af, ah⟩) (first
    | (go_at_call 24; (with_reducible refine (ziy ng1 _ _ _ _ b _ _ _ _ _ g1.isF (i0.to gb).isF o (HH.out ng1 g1.ng)).mono ?_); rintro e w2 ⟨rfl, aM⟩; have g1 := g1.to aM; have gb := bS gb aM; obtain ⟨ae, af, ah⟩ := aq.out _ gb; obtain ⟨ai, ak, al⟩ := cf.out _ gb; obtain z0 := cg.out _ gb)
    | (go_at_call 67; have gb := gb.drew; (with_reducible refine (ref8_fix b _ _ ln ld _ (i0.to gb) x rfl Hx).mono ?_); rintro e w1 ⟨ng1, a1_, n1_, c1_, p1_, m1_, k1_, rfl, g1, aS⟩; have gb := bS gb aS; obtain ⟨ae, af, ah⟩ := aq.out _ gb; obtain ⟨ai, ak, al⟩ := cf.out _ gb; obtain z0 := cg.out _ gb))
  go_wp2_with fail
  go_ret
  exact ⟨rfl, bS zb gb⟩

end Go.Proofs.YtkjcdnlpjldhaaaGreat

