/-
  The texts Ref8, Ref8b, merged.
-/
import Derived.Test.YtmjnlpanlgmdmaaGreatG12
import Derived.Test.YtmjnlpanlgmdmaaGreatG15
import Derived.Test.YtmjnlpanlgmdmaaGreatG07
import Derived.Test.YtmjnlpanlgmdmaaGreatG05
import Derived.Deep.RegionHeld3
import Derived.Deep.Cut
import Derived.Deep.DrawnRows
import Derived.Laws.EntriesVeiled
namespace Go.Proofs.YtmjnlpanlgmdmaaGreat
open Go.RowKit Tw
set_option linter.unusedVariables false
set_option linter.unusedSimpArgs false
attribute [local go_sem ↓] Go.wp_at_zero Go.wp_at_succ

theorem finZ1 {w w1 : World} {rb : Nat} (hb : Below w.heap.size w w1) (hrb : w.heap.size ≤ rb) (hlt : rb < w1.heap.size) :
    GivesQ w 0 (.returned (aggR false (.slice none 0 0) (.slice (some ⟨w1.heap.size, 0, none⟩) 1 1))) ((set3 w1 rb (.bool false) (.slice none 0 0) (.slice (some ⟨w1.heap.size, 0, none⟩) 1 1)).alloc (.cells #[u32v 1] 72)) := by
  have hb3 := below_set3 hb hrb (.bool false) (.slice none 0 0) (.slice (some ⟨w1.heap.size, 0, none⟩) 1 1)
  refine ⟨false, none, 0, 0, _, _, _, rfl, canQ_mk (by rw [show limbs (0 : Rat).num.natAbs = [] by decide +kernel]; exact Own.nil _ _) ?_ (by decide +kernel) (by decide +kernel), below_step hb3 (below_new _ _)⟩
  rw [show limbs (0 : Rat).den = [1] by decide +kernel]
  exact (own_lit_at (set3 w1 rb (.bool false) (.slice none 0 0) (.slice (some ⟨w1.heap.size, 0, none⟩) 1 1)) w1.heap.size [1] (by simp) (small1 (by omega)) (by simp [maxLen])).mono hb3.size

theorem words_o (va vb : Value) (la lb : List Nat) (o : Bool) (w : World) (ha : Rd w va la) (hb : Rd w vb lb) (ho : Hid (decide (la = lb) = o)) :
    Calls Tryz.prog 33 #[va, vb] w fun e w' => e = .returned (.bool o) ∧ Below w.heap.size w w' := by
  by_cases h : la = lb
  · subst h
    rw [← ho.out, decide_eq_true rfl]
    exact words_same va vb la w ha hb
  · rw [← ho.out, decide_eq_false h]
    exact words_diff va vb la lb w ha hb h

def IsF (w : World) (v u : Value) (ln ld : List Nat) : Prop := Rd w v ln ∧ Rd w u ld

theorem IsF.to {w w' : World} {v u : Value} {ln ld : List Nat} (h : IsF w v u ln ld) (hb : Below w.heap.size w w') : IsF w' v u ln ld := ⟨h.1.to hb, h.2.to hb⟩

theorem IsF.drew {w : World} {v u : Value} {ln ld : List Nat} (h : IsF w v u ln ld) : IsF w.drew v u ln ld := ⟨h.1.drew, h.2.drew⟩

theorem IsQ.isF {w : World} {b : Bool} {v u : Value} {ln ld : List Nat} {q : Rat} (h : IsQ w b v u ln ld q) : IsF w v u ln ld := ⟨h.1, h.2.1⟩

theorem CanQ.isF {lo hi : Nat} {w : World} {b : Bool} {v u : Value} {q : Rat} (h : CanQ lo hi w b v u q) : IsF w v u (limbs q.num.natAbs) (limbs q.den) := ⟨h.1.rd, h.2.1.rd⟩

theorem CanQ.ng {lo hi : Nat} {w : World} {b : Bool} {v u : Value} {q : Rat} (h : CanQ lo hi w b v u q) : decide (q < 0) = b := h.2.2.1

set_option maxRecDepth 100000 in
set_option maxHeartbeats 4000000 in
theorem ref8_lowest_no (b : Bool) (v u : Value) (ln ld : List Nat) (w : World) (hv : Rd w v ln) (hu : Rd w u ld) (h1 : ln.length ≤ 3000) (h2 : ld.length ≤ 3000) (h0 : val ld = 0) :
    Calls Tryz.prog 37 #[aggI b v, u] w (GivesQ w (rat b (val ln) (val ld))) := by
  rw [h0, rat_zero_den]
  have Z0 := Lib.hid h0
  clear h0
  obtain ⟨a0, n0, c0, rfl, H0, hm0⟩ := hv.open
  obtain ⟨a1, n1, c1, rfl, H1, hm1⟩ := hu.open
  go_enter Tryz.func37, Tryz.ntmps37
  go_wp2_with fail
  obtain ⟨W0, hW0⟩ : ∃ W0, (w.alloc (.cells #[.bool b, .slice a0 n0 c0] 46)).alloc (.cells #[.bool false, .slice none 0 0, .slice none 0 0] 24) = W0 := ⟨_, rfl⟩
  have HXW0 := Lib.hid (show ∀ W', Below W0.heap.size W0 W' → (W'.cell? ⟨w.heap.size, 0, none⟩ = some (.bool b) ∧ W'.cell? ⟨w.heap.size, 1, none⟩ = some (.slice a0 n0 c0) ∧ W'.cell? ⟨w.heap.size + 1, 0, none⟩ = some (.bool false) ∧ W'.cell? ⟨w.heap.size + 1, 1, none⟩ = some (.slice none 0 0) ∧ W'.cell? ⟨w.heap.size + 1, 2, none⟩ = some (.slice none 0 0)) from fun W' hb =>
    ⟨(hb.cell (p := ⟨w.heap.size, 0, none⟩) (by rw [← hW0]; simp <;> omega)).trans (by rw [← hW0]; simp [go_sem]), (hb.cell (p := ⟨w.heap.size, 1, none⟩) (by rw [← hW0]; simp <;> omega)).trans (by rw [← hW0]; simp [go_sem]), (hb.cell (p := ⟨w.heap.size + 1, 0, none⟩) (by rw [← hW0]; simp <;> omega)).trans (by rw [← hW0]; simp [go_sem]), (hb.cell (p := ⟨w.heap.size + 1, 1, none⟩) (by rw [← hW0]; simp <;> omega)).trans (by rw [← hW0]; simp [go_sem]), (hb.cell (p := ⟨w.heap.size + 1, 2, none⟩) (by rw [← hW0]; simp <;> omega)).trans (by rw [← hW0]; simp [go_sem])⟩)
  have HYW0 := Lib.hid (show ∀ W', Below W0.heap.size W0 W' → (W'.frozen? ⟨w.heap.size, 0, none⟩ = false ∧ W'.frozen? ⟨w.heap.size, 1, none⟩ = false ∧ W'.frozen? ⟨w.heap.size + 1, 0, none⟩ = false ∧ W'.frozen? ⟨w.heap.size + 1, 1, none⟩ = false ∧ W'.frozen? ⟨w.heap.size + 1, 2, none⟩ = false) from fun W' hb =>
    ⟨(hb.frozen (p := ⟨w.heap.size, 0, none⟩) (by rw [← hW0]; simp <;> omega)).trans (by rw [← hW0]; simp [go_sem]), (hb.frozen (p := ⟨w.heap.size, 1, none⟩) (by rw [← hW0]; simp <;> omega)).trans (by rw [← hW0]; simp [go_sem]), (hb.frozen (p := ⟨w.heap.size + 1, 0, none⟩) (by rw [← hW0]; simp <;> omega)).trans (by rw [← hW0]; simp [go_sem]), (hb.frozen (p := ⟨w.heap.size + 1, 1, none⟩) (by rw [← hW0]; simp <;> omega)).trans (by rw [← hW0]; simp [go_sem]), (hb.frozen (p := ⟨w.heap.size + 1, 2, none⟩) (by rw [← hW0]; simp <;> omega)).trans (by rw [← hW0]; simp [go_sem])⟩)
  have HZW0 := Lib.hid (show ∀ W', Below W0.heap.size W0 W' → (w.heap.size < W'.heap.size ∧ w.heap.size + 1 < W'.heap.size) from fun W' hb =>
    ⟨Nat.lt_of_lt_of_le (by rw [← hW0]; simp <;> omega) hb.size, Nat.lt_of_lt_of_le (by rw [← hW0]; simp <;> omega) hb.size⟩)
  have zb : Below w.heap.size w W0 := by rw [← hW0]; exact below_step (below_new _ _) (below_new _ _)
  rw [hW0]
  clear hW0
  have i0 := hv.to zb
  have i1 := hu.to zb
  have gb : Below W0.heap.size W0 W0 := Below.refl _ _
  obtain ⟨x0_0, x0_1, x1_0, x1_1, x1_2⟩ := HXW0.out _ gb
  obtain ⟨y0_0, y0_1, y1_0, y1_1, y1_2⟩ := HYW0.out _ gb
  obtain ⟨z0, z1⟩ := HZW0.out _ gb
  refine (ref5_lowest_no _ _ ln ld _ (i0.to gb) (i1.to gb) (by omega) Z0.out).mono ?_
  clear x0_0 y0_0 x0_1 y0_1 x1_0 y1_0 x1_1 y1_1 x1_2 y1_2
  rintro e w1 ⟨rfl, hb1⟩
  replace gb := below_step gb hb1
  obtain ⟨x0_0, x0_1, x1_0, x1_1, x1_2⟩ := HXW0.out _ gb
  obtain ⟨y0_0, y0_1, y1_0, y1_1, y1_2⟩ := HYW0.out _ gb
  obtain ⟨z0, z1⟩ := HZW0.out _ gb
  go_wp2_with fail
  refine bodyPost_ret (results_R Tryz.results37 _ _ _ _ _ _ rfl (Tri.alloc (Tri.set (x0 := .bool false) (y0 := .slice none 0 0) (z0 := .slice none 0 0) ⟨x1_0, x1_1, x1_2, y1_0, y1_1, y1_2⟩ _ _ _) _)) rfl (finZ1 (below_step zb gb) (by omega) (by omega))

set_option maxRecDepth 100000 in
set_option maxHeartbeats 4000000 in
theorem ref8_lowest_zero (b : Bool) (v u : Value) (ln ld : List Nat) (w : World) (hv : Rd w v ln) (hu : Rd w u ld) (h1 : ln.length ≤ 3000) (h2 : ld.length ≤ 3000) (h0 : 0 < val ld) (h3 : val ln = 0) :
    Calls Tryz.prog 37 #[aggI b v, u] w (GivesQ w (rat b (val ln) (val ld))) := by
  rw [h3, rat_zero_num]
  have Z0 := Lib.hid h0
  have Z3 := Lib.hid (show limbs (val ln / Nat.gcd (val ln) (val ld)) = [] by rw [h3, Nat.zero_div]; rfl)
  clear h0 h3
  obtain ⟨a0, n0, c0, rfl, H0, hm0⟩ := hv.open
  obtain ⟨a1, n1, c1, rfl, H1, hm1⟩ := hu.open
  go_enter Tryz.func37, Tryz.ntmps37
  go_wp2_with fail
  obtain ⟨W0, hW0⟩ : ∃ W0, (w.alloc (.cells #[.bool b, .slice a0 n0 c0] 46)).alloc (.cells #[.bool false, .slice none 0 0, .slice none 0 0] 24) = W0 := ⟨_, rfl⟩
  have HXW0 := Lib.hid (show ∀ W', Below W0.heap.size W0 W' → (W'.cell? ⟨w.heap.size, 0, none⟩ = some (.bool b) ∧ W'.cell? ⟨w.heap.size, 1, none⟩ = some (.slice a0 n0 c0) ∧ W'.cell? ⟨w.heap.size + 1, 0, none⟩ = some (.bool false) ∧ W'.cell? ⟨w.heap.size + 1, 1, none⟩ = some (.slice none 0 0) ∧ W'.cell? ⟨w.heap.size + 1, 2, none⟩ = some (.slice none 0 0)) from fun W' hb =>
    ⟨(hb.cell (p := ⟨w.heap.size, 0, none⟩) (by rw [← hW0]; simp <;> omega)).trans (by rw [← hW0]; simp [go_sem]), (hb.cell (p := ⟨w.heap.size, 1, none⟩) (by rw [← hW0]; simp <;> omega)).trans (by rw [← hW0]; simp [go_sem]), (hb.cell (p := ⟨w.heap.size + 1, 0, none⟩) (by rw [← hW0]; simp <;> omega)).trans (by rw [← hW0]; simp [go_sem]), (hb.cell (p := ⟨w.heap.size + 1, 1, none⟩) (by rw [← hW0]; simp <;> omega)).trans (by rw [← hW0]; simp [go_sem]), (hb.cell (p := ⟨w.heap.size + 1, 2, none⟩) (by rw [← hW0]; simp <;> omega)).trans (by rw [← hW0]; simp [go_sem])⟩)
  have HYW0 := Lib.hid (show ∀ W', Below W0.heap.size W0 W' → (W'.frozen? ⟨w.heap.size, 0, none⟩ = false ∧ W'.frozen? ⟨w.heap.size, 1, none⟩ = false ∧ W'.frozen? ⟨w.heap.size + 1, 0, none⟩ = false ∧ W'.frozen? ⟨w.heap.size + 1, 1, none⟩ = false ∧ W'.frozen? ⟨w.heap.size + 1, 2, none⟩ = false) from fun W' hb =>
    ⟨(hb.frozen (p := ⟨w.heap.size, 0, none⟩) (by rw [← hW0]; simp <;> omega)).trans (by rw [← hW0]; simp [go_sem]), (hb.frozen (p := ⟨w.heap.size, 1, none⟩) (by rw [← hW0]; simp <;> omega)).trans (by rw [← hW0]; simp [go_sem]), (hb.frozen (p := ⟨w.heap.size + 1, 0, none⟩) (by rw [← hW0]; simp <;> omega)).trans (by rw [← hW0]; simp [go_sem]), (hb.frozen (p := ⟨w.heap.size + 1, 1, none⟩) (by rw [← hW0]; simp <;> omega)).trans (by rw [← hW0]; simp [go_sem]), (hb.frozen (p := ⟨w.heap.size + 1, 2, none⟩) (by rw [← hW0]; simp <;> omega)).trans (by rw [← hW0]; simp [go_sem])⟩)
  have HZW0 := Lib.hid (show ∀ W', Below W0.heap.size W0 W' → (w.heap.size < W'.heap.size ∧ w.heap.size + 1 < W'.heap.size) from fun W' hb =>
    ⟨Nat.lt_of_lt_of_le (by rw [← hW0]; simp <;> omega) hb.size, Nat.lt_of_lt_of_le (by rw [← hW0]; simp <;> omega) hb.size⟩)
  have zb : Below w.heap.size w W0 := by rw [← hW0]; exact below_step (below_new _ _) (below_new _ _)
  rw [hW0]
  clear hW0
  have i0 := hv.to zb
  have i1 := hu.to zb
  have gb : Below W0.heap.size W0 W0 := Below.refl _ _
  obtain ⟨x0_0, x0_1, x1_0, x1_1, x1_2⟩ := HXW0.out _ gb
  obtain ⟨y0_0, y0_1, y1_0, y1_1, y1_2⟩ := HYW0.out _ gb
  obtain ⟨z0, z1⟩ := HZW0.out _ gb
  refine (ref5_lowest _ _ ln ld _ (i0.to gb) (i1.to gb) (by omega) (by omega) Z0.out).mono ?_
  clear x0_0 y0_0 x0_1 y0_1 x1_0 y1_0 x1_1 y1_1 x1_2 y1_2
  rintro e w1 ⟨v1, u1, rfl, g1, d1, hb1⟩
  obtain ⟨a1_, n1_, c1_, rfl, H1, hm1⟩ := g1.rd.open
  obtain ⟨p1_, m1_, k1_, rfl, J1, jm1⟩ := d1.rd.open
  replace gb := below_step gb hb1
  obtain ⟨x0_0, x0_1, x1_0, x1_1, x1_2⟩ := HXW0.out _ gb
  obtain ⟨y0_0, y0_1, y1_0, y1_1, y1_2⟩ := HYW0.out _ gb
  obtain ⟨z0, z1⟩ := HZW0.out _ gb
  obtain rfl : n1_ = 0 := by rw [← H1.out, Z3.out]; rfl
  go_wp2_with fail
  refine bodyPost_ret (results_R Tryz.results37 _ _ _ _ _ _ rfl (Tri.alloc (Tri.set (x0 := .bool false) (y0 := .slice none 0 0) (z0 := .slice none 0 0) ⟨x1_0, x1_1, x1_2, y1_0, y1_1, y1_2⟩ _ _ _) _)) rfl (finZ1 (below_step zb gb) (by omega) (by omega))

set_option maxRecDepth 100000 in
set_option maxHeartbeats 4000000 in
theorem ref8_lowest_some (b : Bool) (v u : Value) (ln ld : List Nat) (w : World) (hv : Rd w v ln) (hu : Rd w u ld) (h1 : ln.length ≤ 3000) (h2 : ld.length ≤ 3000) (h0 : 0 < val ld) (h3 : 0 < val ln) (hs : szq (rat b (val ln) (val ld)) ≤ 1000) :
    Calls Tryz.prog 37 #[aggI b v, u] w (GivesQ w (rat b (val ln) (val ld))) := by
  have Z0 := Lib.hid h0
  have Z3 := Lib.hid h3
  have Hs := Lib.hid hs
  have H4 := Lib.hid (Nat.ne_of_gt (lowest_pos h3 h0))
  clear h0 h3 hs
  obtain ⟨a0, n0, c0, rfl, H0, hm0⟩ := hv.open
  obtain ⟨a1, n1, c1, rfl, H1, hm1⟩ := hu.open
  go_enter Tryz.func37, Tryz.ntmps37
  go_wp2_with fail
  obtain ⟨W0, hW0⟩ : ∃ W0, (w.alloc (.cells #[.bool b, .slice a0 n0 c0] 46)).alloc (.cells #[.bool false, .slice none 0 0, .slice none 0 0] 24) = W0 := ⟨_, rfl⟩
  have HXW0 := Lib.hid (show ∀ W', Below W0.heap.size W0 W' → (W'.cell? ⟨w.heap.size, 0, none⟩ = some (.bool b) ∧ W'.cell? ⟨w.heap.size, 1, none⟩ = some (.slice a0 n0 c0) ∧ W'.cell? ⟨w.heap.size + 1, 0, none⟩ = some (.bool false) ∧ W'.cell? ⟨w.heap.size + 1, 1, none⟩ = some (.slice none 0 0) ∧ W'.cell? ⟨w.heap.size + 1, 2, none⟩ = some (.slice none 0 0)) from fun W' hb =>
    ⟨(hb.cell (p := ⟨w.heap.size, 0, none⟩) (by rw [← hW0]; simp <;> omega)).trans (by rw [← hW0]; simp [go_sem]), (hb.cell (p := ⟨w.heap.size, 1, none⟩) (by rw [← hW0]; simp <;> omega)).trans (by rw [← hW0]; simp [go_sem]), (hb.cell (p := ⟨w.heap.size + 1, 0, none⟩) (by rw [← hW0]; simp <;> omega)).trans (by rw [← hW0]; simp [go_sem]), (hb.cell (p := ⟨w.heap.size + 1, 1, none⟩) (by rw [← hW0]; simp <;> omega)).trans (by rw [← hW0]; simp [go_sem]), (hb.cell (p := ⟨w.heap.size + 1, 2, none⟩) (by rw [← hW0]; simp <;> omega)).trans (by rw [← hW0]; simp [go_sem])⟩)
  have HYW0 := Lib.hid (show ∀ W', Below W0.heap.size W0 W' → (W'.frozen? ⟨w.heap.size, 0, none⟩ = false ∧ W'.frozen? ⟨w.heap.size, 1, none⟩ = false ∧ W'.frozen? ⟨w.heap.size + 1, 0, none⟩ = false ∧ W'.frozen? ⟨w.heap.size + 1, 1, none⟩ = false ∧ W'.frozen? ⟨w.heap.size + 1, 2, none⟩ = false) from fun W' hb =>
    ⟨(hb.frozen (p := ⟨w.heap.size, 0, none⟩) (by rw [← hW0]; simp <;> omega)).trans (by rw [← hW0]; simp [go_sem]), (hb.frozen (p := ⟨w.heap.size, 1, none⟩) (by rw [← hW0]; simp <;> omega)).trans (by rw [← hW0]; simp [go_sem]), (hb.frozen (p := ⟨w.heap.size + 1, 0, none⟩) (by rw [← hW0]; simp <;> omega)).trans (by rw [← hW0]; simp [go_sem]), (hb.frozen (p := ⟨w.heap.size + 1, 1, none⟩) (by rw [← hW0]; simp <;> omega)).trans (by rw [← hW0]; simp [go_sem]), (hb.frozen (p := ⟨w.heap.size + 1, 2, none⟩) (by rw [← hW0]; simp <;> omega)).trans (by rw [← hW0]; simp [go_sem])⟩)
  have HZW0 := Lib.hid (show ∀ W', Below W0.heap.size W0 W' → (w.heap.size < W'.heap.size ∧ w.heap.size + 1 < W'.heap.size) from fun W' hb =>
    ⟨Nat.lt_of_lt_of_le (by rw [← hW0]; simp <;> omega) hb.size, Nat.lt_of_lt_of_le (by rw [← hW0]; simp <;> omega) hb.size⟩)
  have zb : Below w.heap.size w W0 := by rw [← hW0]; exact below_step (below_new _ _) (below_new _ _)
  rw [hW0]
  clear hW0
  have i0 := hv.to zb
  have i1 := hu.to zb
  have gb : Below W0.heap.size W0 W0 := Below.refl _ _
  obtain ⟨x0_0, x0_1, x1_0, x1_1, x1_2⟩ := HXW0.out _ gb
  obtain ⟨y0_0, y0_1, y1_0, y1_1, y1_2⟩ := HYW0.out _ gb
  obtain ⟨z0, z1⟩ := HZW0.out _ gb
  refine (ref5_lowest _ _ ln ld _ (i0.to gb) (i1.to gb) (by omega) (by omega) Z0.out).mono ?_
  clear x0_0 y0_0 x0_1 y0_1 x1_0 y1_0 x1_1 y1_1 x1_2 y1_2
  rintro e w1 ⟨v1, u1, rfl, g1, d1, hb1⟩
  obtain ⟨a1_, n1_, c1_, rfl, H1, hm1⟩ := g1.rd.open
  obtain ⟨p1_, m1_, k1_, rfl, J1, jm1⟩ := d1.rd.open
  replace gb := below_step gb hb1
  obtain ⟨x0_0, x0_1, x1_0, x1_1, x1_2⟩ := HXW0.out _ gb
  obtain ⟨y0_0, y0_1, y1_0, y1_1, y1_2⟩ := HYW0.out _ gb
  obtain ⟨z0, z1⟩ := HZW0.out _ gb
  have hn1 : 0 < n1_ := by rw [← H1.out]; have := H4.out; rw [sz_def]; exact Nat.pos_of_ne_zero fun e => this (sz_eq_zero.1 e)
  go_wp2_with fail
  have gg := canR g1 d1 Z0.out Z3.out Hs.out
  refine bodyPost_ret (results_R Tryz.results37 _ _ _ _ _ _ rfl (Tri.set (x0 := .bool false) (y0 := .slice none 0 0) (z0 := .slice none 0 0) (⟨x1_0, x1_1, x1_2, y1_0, y1_1, y1_2⟩) _ _ _)) rfl (finR (below_step zb gb) (by omega) ?_ gg)
  omega

theorem ref8_lowest (b : Bool) (v u : Value) (ln ld : List Nat) (w : World) (hv : Rd w v ln) (hu : Rd w u ld) (h1 : ln.length ≤ 3000) (h2 : ld.length ≤ 3000) (q : Rat) (hq : rat b (val ln) (val ld) = q) (hs : Hid (szq q ≤ 1000)) :
    Calls Tryz.prog 37 #[aggI b v, u] w (GivesQ w q) := by
  subst hq
  rcases Nat.eq_zero_or_pos (val ld) with h0 | h0
  · exact ref8_lowest_no b v u ln ld w hv hu h1 h2 h0
  rcases Nat.eq_zero_or_pos (val ln) with h3 | h3
  · exact ref8_lowest_zero b v u ln ld w hv hu h1 h2 h0 h3
  · exact ref8_lowest_some b v u ln ld w hv hu h1 h2 h0 h3 hs.out

set_option maxRecDepth 100000 in
set_option maxHeartbeats 4000000 in
theorem ref8_fix {x : Rat} (b : Bool) (v u : Value) (ln ld : List Nat) (w : World) (h : IsQ w b v u ln ld x) (q : Rat) (hq : x = q) (hs : Hid (szq q ≤ 1000)) :
    Calls Tryz.prog 30 #[aggR b v u] w (GivesQ w q) := by
  have H9 := Lib.hid (show rat b (val ln) (val ld) = q by rw [h.2.2.1, hq])
  obtain ⟨a0, n0, c0, rfl, H0, hm0⟩ := h.1.open
  obtain ⟨a1, n1, c1, rfl, H1, hm1⟩ := h.2.1.open
  clear hq
  go_enter Tryz.func30, Tryz.ntmps30
  go_wp2_with fail
  obtain ⟨W0, hW0⟩ : ∃ W0, (w.alloc (.cells #[.bool b, .slice a0 n0 c0, .slice a1 n1 c1] 24)).alloc (.cells #[.bool false, .slice none 0 0, .slice none 0 0] 24) = W0 := ⟨_, rfl⟩
  have HXW0 := Lib.hid (show ∀ W', Below W0.heap.size W0 W' → (W'.cell? ⟨w.heap.size, 0, none⟩ = some (.bool b) ∧ W'.cell? ⟨w.heap.size, 1, none⟩ = some (.slice a0 n0 c0) ∧ W'.cell? ⟨w.heap.size, 2, none⟩ = some (.slice a1 n1 c1) ∧ W'.cell? ⟨w.heap.size + 1, 0, none⟩ = some (.bool false) ∧ W'.cell? ⟨w.heap.size + 1, 1, none⟩ = some (.slice none 0 0) ∧ W'.cell? ⟨w.heap.size + 1, 2, none⟩ = some (.slice none 0 0)) from fun W' hb =>
    ⟨(hb.cell (p := ⟨w.heap.size, 0, none⟩) (by rw [← hW0]; simp <;> omega)).trans (by rw [← hW0]; simp [go_sem]), (hb.cell (p := ⟨w.heap.size, 1, none⟩) (by rw [← hW0]; simp <;> omega)).trans (by rw [← hW0]; simp [go_sem]), (hb.cell (p := ⟨w.heap.size, 2, none⟩) (by rw [← hW0]; simp <;> omega)).trans (by rw [← hW0]; simp [go_sem]), (hb.cell (p := ⟨w.heap.size + 1, 0, none⟩) (by rw [← hW0]; simp <;> omega)).trans (by rw [← hW0]; simp [go_sem]), (hb.cell (p := ⟨w.heap.size + 1, 1, none⟩) (by rw [← hW0]; simp <;> omega)).trans (by rw [← hW0]; simp [go_sem]), (hb.cell (p := ⟨w.heap.size + 1, 2, none⟩) (by rw [← hW0]; simp <;> omega)).trans (by rw [← hW0]; simp [go_sem])⟩)
  have HYW0 := Lib.hid (show ∀ W', Below W0.heap.size W0 W' → (W'.frozen? ⟨w.heap.size, 0, none⟩ = false ∧ W'.frozen? ⟨w.heap.size, 1, none⟩ = false ∧ W'.frozen? ⟨w.heap.size, 2, none⟩ = false ∧ W'.frozen? ⟨w.heap.size + 1, 0, none⟩ = false ∧ W'.frozen? ⟨w.heap.size + 1, 1, none⟩ = false ∧ W'.frozen? ⟨w.heap.size + 1, 2, none⟩ = false) from fun W' hb =>
    ⟨(hb.frozen (p := ⟨w.heap.size, 0, none⟩) (by rw [← hW0]; simp <;> omega)).trans (by rw [← hW0]; simp [go_sem]), (hb.frozen (p := ⟨w.heap.size, 1, none⟩) (by rw [← hW0]; simp <;> omega)).trans (by rw [← hW0]; simp [go_sem]), (hb.frozen (p := ⟨w.heap.size, 2, none⟩) (by rw [← hW0]; simp <;> omega)).trans (by rw [← hW0]; simp [go_sem]), (hb.frozen (p := ⟨w.heap.size + 1, 0, none⟩) (by rw [← hW0]; simp <;> omega)).trans (by rw [← hW0]; simp [go_sem]), (hb.frozen (p := ⟨w.heap.size + 1, 1, none⟩) (by rw [← hW0]; simp <;> omega)).trans (by rw [← hW0]; simp [go_sem]), (hb.frozen (p := ⟨w.heap.size + 1, 2, none⟩) (by rw [← hW0]; simp <;> omega)).trans (by rw [← hW0]; simp [go_sem])⟩)
  have HZW0 := Lib.hid (show ∀ W', Below W0.heap.size W0 W' → (w.heap.size < W'.heap.size ∧ w.heap.size + 1 < W'.heap.size) from fun W' hb =>
    ⟨Nat.lt_of_lt_of_le (by rw [← hW0]; simp <;> omega) hb.size, Nat.lt_of_lt_of_le (by rw [← hW0]; simp <;> omega) hb.size⟩)
  have zb : Below w.heap.size w W0 := by rw [← hW0]; exact below_step (below_new _ _) (below_new _ _)
  rw [hW0]
  clear hW0
  have i0 := h.to zb
  have gb : Below W0.heap.size W0 W0 := Below.refl _ _
  obtain ⟨x0_0, x0_1, x0_2, x1_0, x1_1, x1_2⟩ := HXW0.out _ gb
  obtain ⟨y0_0, y0_1, y0_2, y1_0, y1_1, y1_2⟩ := HYW0.out _ gb
  obtain ⟨z0, z1⟩ := HZW0.out _ gb
  refine (ref8_lowest b _ _ ln ld _ (i0.to gb).1 (i0.to gb).2.1 (Nat.le_trans h.2.2.2.1 (by omega)) (Nat.le_trans h.2.2.2.2 (by omega)) q H9.out hs).mono ?_
  clear x0_0 y0_0 x0_1 y0_1 x0_2 y0_2 x1_0 y1_0 x1_1 y1_1 x1_2 y1_2
  rintro e w1 ⟨ng1, a1_, n1_, c1_, p1_, m1_, k1_, rfl, g1, hb1⟩
  replace gb := below_step gb hb1
  obtain ⟨x0_0, x0_1, x0_2, x1_0, x1_1, x1_2⟩ := HXW0.out _ gb
  obtain ⟨y0_0, y0_1, y0_2, y1_0, y1_1, y1_2⟩ := HYW0.out _ gb
  obtain ⟨z0, z1⟩ := HZW0.out _ gb
  go_wp2_with fail
  refine bodyPost_ret (results_R Tryz.results30 _ _ _ _ _ _ rfl (Tri.set (x0 := .bool false) (y0 := .slice none 0 0) (z0 := .slice none 0 0) ⟨x1_0, x1_1, x1_2, y1_0, y1_1, y1_2⟩ _ _ _)) rfl (finR (below_step zb gb) (by omega) ?_ g1)
  omega

set_option maxRecDepth 100000 in
set_option maxHeartbeats 4000000 in
theorem ref8_equal (b : Bool) (v u : Value) (ln ld : List Nat) (c : Bool) (v' u' : Value) (ln' ld' : List Nat) (w : World) (h : IsF w v u ln ld) (h' : IsF w v' u' ln' ld') (o : Bool) (ho : (b == c && decide (ln = ln') && decide (ld = ld')) = o) :
    Calls Tryz.prog 9 #[aggR b v u, aggR c v' u'] w (fun e w' => e = .returned (.bool o) ∧ Below w.heap.size w w') := by
  obtain ⟨o1, ho1⟩ : ∃ o, decide (ln = ln') = o := ⟨_, rfl⟩
  obtain ⟨o2, ho2⟩ : ∃ o, decide (ld = ld') = o := ⟨_, rfl⟩
  have O1 := Lib.hid ho1
  have O2 := Lib.hid ho2
  rw [ho1, ho2] at ho
  clear ho1 ho2
  obtain ⟨a0, n0, c0, rfl, H0, hm0⟩ := h.1.open
  obtain ⟨a1, n1, c1, rfl, H1, hm1⟩ := h.2.open
  obtain ⟨a2, n2, c2, rfl, H2, hm2⟩ := h'.1.open
  obtain ⟨a3, n3, c3, rfl, H3, hm3⟩ := h'.2.open
  have ho' := Lib.hid ho
  clear ho
  rcases Bool.eq_false_or_eq_true (b == c) with e1 | e1
  rotate_left
  · rw [e1] at ho'
    go_enter Tryz.func9, Tryz.ntmps9
    go_wp2_with fail
    obtain ⟨W0, hW0⟩ : ∃ W0, (w.alloc (.cells #[.bool b, .slice a0 n0 c0, .slice a1 n1 c1] 24)).alloc (.cells #[.bool c, .slice a2 n2 c2, .slice a3 n3 c3] 24) = W0 := ⟨_, rfl⟩
    have HXW0 := Lib.hid (show ∀ W', Below W0.heap.size W0 W' → (W'.cell? ⟨w.heap.size, 0, none⟩ = some (.bool b) ∧ W'.cell? ⟨w.heap.size, 1, none⟩ = some (.slice a0 n0 c0) ∧ W'.cell? ⟨w.heap.size, 2, none⟩ = some (.slice a1 n1 c1) ∧ W'.cell? ⟨w.heap.size + 1, 0, none⟩ = some (.bool c) ∧ W'.cell? ⟨w.heap.size + 1, 1, none⟩ = some (.slice a2 n2 c2) ∧ W'.cell? ⟨w.heap.size + 1, 2, none⟩ = some (.slice a3 n3 c3)) from fun W' hb =>
      ⟨(hb.cell (p := ⟨w.heap.size, 0, none⟩) (by rw [← hW0]; simp <;> omega)).trans (by rw [← hW0]; simp [go_sem]), (hb.cell (p := ⟨w.heap.size, 1, none⟩) (by rw [← hW0]; simp <;> omega)).trans (by rw [← hW0]; simp [go_sem]), (hb.cell (p := ⟨w.heap.size, 2, none⟩) (by rw [← hW0]; simp <;> omega)).trans (by rw [← hW0]; simp [go_sem]), (hb.cell (p := ⟨w.heap.size + 1, 0, none⟩) (by rw [← hW0]; simp <;> omega)).trans (by rw [← hW0]; simp [go_sem]), (hb.cell (p := ⟨w.heap.size + 1, 1, none⟩) (by rw [← hW0]; simp <;> omega)).trans (by rw [← hW0]; simp [go_sem]), (hb.cell (p := ⟨w.heap.size + 1, 2, none⟩) (by rw [← hW0]; simp <;> omega)).trans (by rw [← hW0]; simp [go_sem])⟩)
    have HYW0 := Lib.hid (show ∀ W', Below W0.heap.size W0 W' → (W'.frozen? ⟨w.heap.size, 0, none⟩ = false ∧ W'.frozen? ⟨w.heap.size, 1, none⟩ = false ∧ W'.frozen? ⟨w.heap.size, 2, none⟩ = false ∧ W'.frozen? ⟨w.heap.size + 1, 0, none⟩ = false ∧ W'.frozen? ⟨w.heap.size + 1, 1, none⟩ = false ∧ W'.frozen? ⟨w.heap.size + 1, 2, none⟩ = false) from fun W' hb =>
      ⟨(hb.frozen (p := ⟨w.heap.size, 0, none⟩) (by rw [← hW0]; simp <;> omega)).trans (by rw [← hW0]; simp [go_sem]), (hb.frozen (p := ⟨w.heap.size, 1, none⟩) (by rw [← hW0]; simp <;> omega)).trans (by rw [← hW0]; simp [go_sem]), (hb.frozen (p := ⟨w.heap.size, 2, none⟩) (by rw [← hW0]; simp <;> omega)).trans (by rw [← hW0]; simp [go_sem]), (hb.frozen (p := ⟨w.heap.size + 1, 0, none⟩) (by rw [← hW0]; simp <;> omega)).trans (by rw [← hW0]; simp [go_sem]), (hb.frozen (p := ⟨w.heap.size + 1, 1, none⟩) (by rw [← hW0]; simp <;> omega)).trans (by rw [← hW0]; simp [go_sem]), (hb.frozen (p := ⟨w.heap.size + 1, 2, none⟩) (by rw [← hW0]; simp <;> omega)).trans (by rw [← hW0]; simp [go_sem])⟩)
    have HZW0 := Lib.hid (show ∀ W', Below W0.heap.size W0 W' → (w.heap.size < W'.heap.size ∧ w.heap.size + 1 < W'.heap.size) from fun W' hb =>
      ⟨Nat.lt_of_lt_of_le (by rw [← hW0]; simp <;> omega) hb.size, Nat.lt_of_lt_of_le (by rw [← hW0]; simp <;> omega) hb.size⟩)
    have zb : Below w.heap.size w W0 := by rw [← hW0]; exact below_step (below_new _ _) (below_new _ _)
    rw [hW0]
    clear hW0
    have i0 := h.to zb
    have i1 := h'.to zb
    have gb : Below W0.heap.size W0 W0 := Below.refl _ _
    obtain ⟨x0_0, x0_1, x0_2, x1_0, x1_1, x1_2⟩ := HXW0.out _ gb
    obtain ⟨y0_0, y0_1, y0_2, y1_0, y1_1, y1_2⟩ := HYW0.out _ gb
    obtain ⟨z0, z1⟩ := HZW0.out _ gb
    go_ret
    exact ⟨ret_one (congrArg Value.bool (by have k := ho'.out; simpa using k)), below_step zb gb⟩
  rcases Bool.eq_false_or_eq_true o1 with e2 | e2
  rotate_left
  · rw [e1] at ho'
    go_enter Tryz.func9, Tryz.ntmps9
    go_wp2_with fail
    obtain ⟨W0, hW0⟩ : ∃ W0, (w.alloc (.cells #[.bool b, .slice a0 n0 c0, .slice a1 n1 c1] 24)).alloc (.cells #[.bool c, .slice a2 n2 c2, .slice a3 n3 c3] 24) = W0 := ⟨_, rfl⟩
    have HXW0 := Lib.hid (show ∀ W', Below W0.heap.size W0 W' → (W'.cell? ⟨w.heap.size, 0, none⟩ = some (.bool b) ∧ W'.cell? ⟨w.heap.size, 1, none⟩ = some (.slice a0 n0 c0) ∧ W'.cell? ⟨w.heap.size, 2, none⟩ = some (.slice a1 n1 c1) ∧ W'.cell? ⟨w.heap.size + 1, 0, none⟩ = some (.bool c) ∧ W'.cell? ⟨w.heap.size + 1, 1, none⟩ = some (.slice a2 n2 c2) ∧ W'.cell? ⟨w.heap.size + 1, 2, none⟩ = some (.slice a3 n3 c3)) from fun W' hb =>
      ⟨(hb.cell (p := ⟨w.heap.size, 0, none⟩) (by rw [← hW0]; simp <;> omega)).trans (by rw [← hW0]; simp [go_sem]), (hb.cell (p := ⟨w.heap.size, 1, none⟩) (by rw [← hW0]; simp <;> omega)).trans (by rw [← hW0]; simp [go_sem]), (hb.cell (p := ⟨w.heap.size, 2, none⟩) (by rw [← hW0]; simp <;> omega)).trans (by rw [← hW0]; simp [go_sem]), (hb.cell (p := ⟨w.heap.size + 1, 0, none⟩) (by rw [← hW0]; simp <;> omega)).trans (by rw [← hW0]; simp [go_sem]), (hb.cell (p := ⟨w.heap.size + 1, 1, none⟩) (by rw [← hW0]; simp <;> omega)).trans (by rw [← hW0]; simp [go_sem]), (hb.cell (p := ⟨w.heap.size + 1, 2, none⟩) (by rw [← hW0]; simp <;> omega)).trans (by rw [← hW0]; simp [go_sem])⟩)
    have HYW0 := Lib.hid (show ∀ W', Below W0.heap.size W0 W' → (W'.frozen? ⟨w.heap.size, 0, none⟩ = false ∧ W'.frozen? ⟨w.heap.size, 1, none⟩ = false ∧ W'.frozen? ⟨w.heap.size, 2, none⟩ = false ∧ W'.frozen? ⟨w.heap.size + 1, 0, none⟩ = false ∧ W'.frozen? ⟨w.heap.size + 1, 1, none⟩ = false ∧ W'.frozen? ⟨w.heap.size + 1, 2, none⟩ = false) from fun W' hb =>
      ⟨(hb.frozen (p := ⟨w.heap.size, 0, none⟩) (by rw [← hW0]; simp <;> omega)).trans (by rw [← hW0]; simp [go_sem]), (hb.frozen (p := ⟨w.heap.size, 1, none⟩) (by rw [← hW0]; simp <;> omega)).trans (by rw [← hW0]; simp [go_sem]), (hb.frozen (p := ⟨w.heap.size, 2, none⟩) (by rw [← hW0]; simp <;> omega)).trans (by rw [← hW0]; simp [go_sem]), (hb.frozen (p := ⟨w.heap.size + 1, 0, none⟩) (by rw [← hW0]; simp <;> omega)).trans (by rw [← hW0]; simp [go_sem]), (hb.frozen (p := ⟨w.heap.size + 1, 1, none⟩) (by rw [← hW0]; simp <;> omega)).trans (by rw [← hW0]; simp [go_sem]), (hb.frozen (p := ⟨w.heap.size + 1, 2, none⟩) (by rw [← hW0]; simp <;> omega)).trans (by rw [← hW0]; simp [go_sem])⟩)
    have HZW0 := Lib.hid (show ∀ W', Below W0.heap.size W0 W' → (w.heap.size < W'.heap.size ∧ w.heap.size + 1 < W'.heap.size) from fun W' hb =>
      ⟨Nat.lt_of_lt_of_le (by rw [← hW0]; simp <;> omega) hb.size, Nat.lt_of_lt_of_le (by rw [← hW0]; simp <;> omega) hb.size⟩)
    have zb : Below w.heap.size w W0 := by rw [← hW0]; exact below_step (below_new _ _) (below_new _ _)
    rw [hW0]
    clear hW0
    have i0 := h.to zb
    have i1 := h'.to zb
    have gb : Below W0.heap.size W0 W0 := Below.refl _ _
    obtain ⟨x0_0, x0_1, x0_2, x1_0, x1_1, x1_2⟩ := HXW0.out _ gb
    obtain ⟨y0_0, y0_1, y0_2, y1_0, y1_1, y1_2⟩ := HYW0.out _ gb
    obtain ⟨z0, z1⟩ := HZW0.out _ gb
    refine (words_o _ _ _ _ o1 _ (i0.to gb).1 (i1.to gb).1 O1).mono ?_
    clear x0_0 y0_0 x0_1 y0_1 x0_2 y0_2 x1_0 y1_0 x1_1 y1_1 x1_2 y1_2
    rintro e w1 ⟨rfl, hb1⟩
    replace gb := below_step gb hb1
    obtain ⟨x0_0, x0_1, x0_2, x1_0, x1_1, x1_2⟩ := HXW0.out _ gb
    obtain ⟨y0_0, y0_1, y0_2, y1_0, y1_1, y1_2⟩ := HYW0.out _ gb
    obtain ⟨z0, z1⟩ := HZW0.out _ gb
    obtain rfl := e2
    go_wp2_with fail
    go_ret
    exact ⟨ret_one (congrArg Value.bool (by have k := ho'.out; simpa using k)), below_step zb gb⟩
  · rw [e1] at ho'
    go_enter Tryz.func9, Tryz.ntmps9
    go_wp2_with fail
    obtain ⟨W0, hW0⟩ : ∃ W0, (w.alloc (.cells #[.bool b, .slice a0 n0 c0, .slice a1 n1 c1] 24)).alloc (.cells #[.bool c, .slice a2 n2 c2, .slice a3 n3 c3] 24) = W0 := ⟨_, rfl⟩
    have HXW0 := Lib.hid (show ∀ W', Below W0.heap.size W0 W' → (W'.cell? ⟨w.heap.size, 0, none⟩ = some (.bool b) ∧ W'.cell? ⟨w.heap.size, 1, none⟩ = some (.slice a0 n0 c0) ∧ W'.cell? ⟨w.heap.size, 2, none⟩ = some (.slice a1 n1 c1) ∧ W'.cell? ⟨w.heap.size + 1, 0, none⟩ = some (.bool c) ∧ W'.cell? ⟨w.heap.size + 1, 1, none⟩ = some (.slice a2 n2 c2) ∧ W'.cell? ⟨w.heap.size + 1, 2, none⟩ = some (.slice a3 n3 c3)) from fun W' hb =>
      ⟨(hb.cell (p := ⟨w.heap.size, 0, none⟩) (by rw [← hW0]; simp <;> omega)).trans (by rw [← hW0]; simp [go_sem]), (hb.cell (p := ⟨w.heap.size, 1, none⟩) (by rw [← hW0]; simp <;> omega)).trans (by rw [← hW0]; simp [go_sem]), (hb.cell (p := ⟨w.heap.size, 2, none⟩) (by rw [← hW0]; simp <;> omega)).trans (by rw [← hW0]; simp [go_sem]), (hb.cell (p := ⟨w.heap.size + 1, 0, none⟩) (by rw [← hW0]; simp <;> omega)).trans (by rw [← hW0]; simp [go_sem]), (hb.cell (p := ⟨w.heap.size + 1, 1, none⟩) (by rw [← hW0]; simp <;> omega)).trans (by rw [← hW0]; simp [go_sem]), (hb.cell (p := ⟨w.heap.size + 1, 2, none⟩) (by rw [← hW0]; simp <;> omega)).trans (by rw [← hW0]; simp [go_sem])⟩)
    have HYW0 := Lib.hid (show ∀ W', Below W0.heap.size W0 W' → (W'.frozen? ⟨w.heap.size, 0, none⟩ = false ∧ W'.frozen? ⟨w.heap.size, 1, none⟩ = false ∧ W'.frozen? ⟨w.heap.size, 2, none⟩ = false ∧ W'.frozen? ⟨w.heap.size + 1, 0, none⟩ = false ∧ W'.frozen? ⟨w.heap.size + 1, 1, none⟩ = false ∧ W'.frozen? ⟨w.heap.size + 1, 2, none⟩ = false) from fun W' hb =>
      ⟨(hb.frozen (p := ⟨w.heap.size, 0, none⟩) (by rw [← hW0]; simp <;> omega)).trans (by rw [← hW0]; simp [go_sem]), (hb.frozen (p := ⟨w.heap.size, 1, none⟩) (by rw [← hW0]; simp <;> omega)).trans (by rw [← hW0]; simp [go_sem]), (hb.frozen (p := ⟨w.heap.size, 2, none⟩) (by rw [← hW0]; simp <;> omega)).trans (by rw [← hW0]; simp [go_sem]), (hb.frozen (p := ⟨w.heap.size + 1, 0, none⟩) (by rw [← hW0]; simp <;> omega)).trans (by rw [← hW0]; simp [go_sem]), (hb.frozen (p := ⟨w.heap.size + 1, 1, none⟩) (by rw [← hW0]; simp <;> omega)).trans (by rw [← hW0]; simp [go_sem]), (hb.frozen (p := ⟨w.heap.size + 1, 2, none⟩) (by rw [← hW0]; simp <;> omega)).trans (by rw [← hW0]; simp [go_sem])⟩)
    have HZW0 := Lib.hid (show ∀ W', Below W0.heap.size W0 W' → (w.heap.size < W'.heap.size ∧ w.heap.size + 1 < W'.heap.size) from fun W' hb =>
      ⟨Nat.lt_of_lt_of_le (by rw [← hW0]; simp <;> omega) hb.size, Nat.lt_of_lt_of_le (by rw [← hW0]; simp <;> omega) hb.size⟩)
    have zb : Below w.heap.size w W0 := by rw [← hW0]; exact below_step (below_new _ _) (below_new _ _)
    rw [hW0]
    clear hW0
    have i0 := h.to zb
    have i1 := h'.to zb
    have gb : Below W0.heap.size W0 W0 := Below.refl _ _
    obtain ⟨x0_0, x0_1, x0_2, x1_0, x1_1, x1_2⟩ := HXW0.out _ gb
    obtain ⟨y0_0, y0_1, y0_2, y1_0, y1_1, y1_2⟩ := HYW0.out _ gb
    obtain ⟨z0, z1⟩ := HZW0.out _ gb
    refine (words_o _ _ _ _ o1 _ (i0.to gb).1 (i1.to gb).1 O1).mono ?_
    clear x0_0 y0_0 x0_1 y0_1 x0_2 y0_2 x1_0 y1_0 x1_1 y1_1 x1_2 y1_2
    rintro e w1 ⟨rfl, hb1⟩
    replace gb := below_step gb hb1
    obtain ⟨x0_0, x0_1, x0_2, x1_0, x1_1, x1_2⟩ := HXW0.out _ gb
    obtain ⟨y0_0, y0_1, y0_2, y1_0, y1_1, y1_2⟩ := HYW0.out _ gb
    obtain ⟨z0, z1⟩ := HZW0.out _ gb
    obtain rfl := e2
    go_wp2_with fail
    refine (words_o _ _ _ _ o2 _ (i0.to gb).2 (i1.to gb).2 O2).mono ?_
    clear x0_0 y0_0 x0_1 y0_1 x0_2 y0_2 x1_0 y1_0 x1_1 y1_1 x1_2 y1_2
    rintro e w2 ⟨rfl, hb2⟩
    replace gb := below_step gb hb2
    obtain ⟨x0_0, x0_1, x0_2, x1_0, x1_1, x1_2⟩ := HXW0.out _ gb
    obtain ⟨y0_0, y0_1, y0_2, y1_0, y1_1, y1_2⟩ := HYW0.out _ gb
    obtain ⟨z0, z1⟩ := HZW0.out _ gb
    go_wp2_with fail
    go_ret
    exact ⟨ret_one (congrArg Value.bool (by have k := ho'.out; simpa using k)), below_step zb gb⟩

end Go.Proofs.YtmjnlpanlgmdmaaGreat


namespace Go.Proofs.YtmjnlpanlgmdmaaGreat
open Go.RowKit Tw
set_option linter.unusedVariables false
set_option linter.unusedSimpArgs false
attribute [local go_sem ↓] Go.wp_at_zero Go.wp_at_succ

theorem int_eq0 (n : Nat) : ((n : Int) == 0) = decide (n = 0) := by
  rw [Bool.eq_iff_iff]; simp

theorem GivesQ.more {w w' : World} {q : Rat} {e : Ending} (h : GivesQ w q e w') (o : Obj) : GivesQ w q e (w'.alloc o) := by
  obtain ⟨ng, a, n, c, a', n', c', rfl, g, hb⟩ := h
  exact ⟨_, _, _, _, _, _, _, rfl, (g.alloc o).mono (Nat.le_refl _) (by simp), below_step hb (below_new _ _)⟩

theorem negQ_neg (x : Rat) : decide (-x < 0) = (!decide (x < 0) && decide (0 < (limbs x.num.natAbs).length)) := by
  rw [num_neg, num_neg, Rat.neg_num, sz_def]
  have h := @sz_eq_zero x.num.natAbs
  by_cases h1 : x.num < 0
  · simp [h1]; omega
  · by_cases h2 : x.num = 0
    · simp [h2, sz_zero]
    · have : 0 < sz x.num.natAbs := Nat.pos_of_ne_zero fun e => h2 (by have := h.1 e; omega)
      simp [h1, this]; omega

theorem neg_sign {lo hi : Nat} {w : World} {ng : Bool} {a : Option Addr} {n c : Nat} {u : Value} {x : Rat} (g : CanQ lo hi w ng (.slice a n c) u x) : decide (-x < 0) = (!ng && decide (0 < n)) := by
  obtain ⟨_, _, e⟩ := g.1.rd.shape
  injection e with _ e _
  rw [negQ_neg, g.2.2.1, e]

theorem CanQ.negQ {lo hi : Nat} {w : World} {ng o : Bool} {v u : Value} {x : Rat} (g : CanQ lo hi w ng v u x) (h : decide (-x < 0) = o) : CanQ lo hi w o v u (-x) :=
  ⟨by rw [Rat.neg_num, Int.natAbs_neg]; exact g.1, g.2.1, h, by rw [szq_neg]; exact g.2.2.2.1, g.2.2.2.2⟩

theorem num_ne {x : Rat} (h : x ≠ 0) : x.num ≠ 0 := fun e => h (Rat.num_eq_zero.1 e)

theorem CanQ.invQ {lo hi : Nat} {w : World} {ng : Bool} {v u : Value} {x : Rat} (g : CanQ lo hi w ng v u x) (h : x ≠ 0) : CanQ lo hi w ng u v x⁻¹ := by
  have h1 := num_ne h
  refine ⟨?_, ?_, ?_, Nat.le_trans (szq_inv x) g.2.2.2.1, g.2.2.2.2.2, g.2.2.2.2.1⟩
  · rw [Rat.num_inv, Int.natAbs_mul, Int.natAbs_sign_of_ne_zero h1, Nat.one_mul, Int.natAbs_natCast]; exact g.2.1
  · rw [Rat.den_inv, if_neg h1]; exact g.1
  · rw [← g.2.2.1, num_neg, num_neg, Rat.num_inv, decide_eq_decide]
    have h2 := x.den_pos
    rcases Int.lt_trichotomy x.num 0 with k | k | k
    · rw [Int.sign_eq_neg_one_of_neg k]; omega
    · exact absurd k h1
    · rw [Int.sign_eq_one_of_pos k]; omega

theorem CanQ.zeroQ {lo hi : Nat} {w : World} {ng o : Bool} {a : Option Addr} {n c : Nat} {u : Value} {x : Rat} (g : CanQ lo hi w ng (.slice a n c) u x) (h : decide (x = 0) = o) : decide (n = 0) = o := by
  obtain ⟨_, _, e⟩ := g.1.rd.shape
  injection e with _ e _
  rw [← h, e, sz_def, decide_eq_decide, sz_eq_zero, Int.natAbs_eq_zero]
  exact Rat.num_eq_zero

set_option maxRecDepth 100000 in
set_option maxHeartbeats 4000000 in
theorem ref8_neg {x : Rat} (b : Bool) (v u : Value) (ln ld : List Nat) (w : World) (h : IsQ w b v u ln ld x) :
    Calls Tryz.prog 40 #[aggR b v u] w (GivesQ w (-x)) := by
  have Hx := isQ_sz h
  obtain ⟨a0, n0, c0, rfl, H0, hm0⟩ := h.1.open
  obtain ⟨a1, n1, c1, rfl, H1, hm1⟩ := h.2.1.open
  go_enter Tryz.func40, Tryz.ntmps40
  go_wp2_with fail
  obtain ⟨W0, hW0⟩ : ∃ W0, (w.alloc (.cells #[.bool b, .slice a0 n0 c0, .slice a1 n1 c1] 24)).alloc (.cells #[.bool false, .slice none 0 0, .slice none 0 0] 24) = W0 := ⟨_, rfl⟩
  have HXW0 := Lib.hid (show ∀ W', Below W0.heap.size W0 W' → (W'.cell? ⟨w.heap.size, 0, none⟩ = some (.bool b) ∧ W'.cell? ⟨w.heap.size, 1, none⟩ = some (.slice a0 n0 c0) ∧ W'.cell? ⟨w.heap.size, 2, none⟩ = some (.slice a1 n1 c1) ∧ W'.cell? ⟨w.heap.size + 1, 0, none⟩ = some (.bool false) ∧ W'.cell? ⟨w.heap.size + 1, 1, none⟩ = some (.slice none 0 0) ∧ W'.cell? ⟨w.heap.size + 1, 2, none⟩ = some (.slice none 0 0)) from fun W' hb =>
    ⟨(hb.cell (p := ⟨w.heap.size, 0, none⟩) (by rw [← hW0]; simp <;> omega)).trans (by rw [← hW0]; simp [go_sem]), (hb.cell (p := ⟨w.heap.size, 1, none⟩) (by rw [← hW0]; simp <;> omega)).trans (by rw [← hW0]; simp [go_sem]), (hb.cell (p := ⟨w.heap.size, 2, none⟩) (by rw [← hW0]; simp <;> omega)).trans (by rw [← hW0]; simp [go_sem]), (hb.cell (p := ⟨w.heap.size + 1, 0, none⟩) (by rw [← hW0]; simp <;> omega)).trans (by rw [← hW0]; simp [go_sem]), (hb.cell (p := ⟨w.heap.size + 1, 1, none⟩) (by rw [← hW0]; simp <;> omega)).trans (by rw [← hW0]; simp [go_sem]), (hb.cell (p := ⟨w.heap.size + 1, 2, none⟩) (by rw [← hW0]; simp <;> omega)).trans (by rw [← hW0]; simp [go_sem])⟩)
  have HYW0 := Lib.hid (show ∀ W', Below W0.heap.size W0 W' → (W'.frozen? ⟨w.heap.size, 0, none⟩ = false ∧ W'.frozen? ⟨w.heap.size, 1, none⟩ = false ∧ W'.frozen? ⟨w.heap.size, 2, none⟩ = false ∧ W'.frozen? ⟨w.heap.size + 1, 0, none⟩ = false ∧ W'.frozen? ⟨w.heap.size + 1, 1, none⟩ = false ∧ W'.frozen? ⟨w.heap.size + 1, 2, none⟩ = false) from fun W' hb =>
    ⟨(hb.frozen (p := ⟨w.heap.size, 0, none⟩) (by rw [← hW0]; simp <;> omega)).trans (by rw [← hW0]; simp [go_sem]), (hb.frozen (p := ⟨w.heap.size, 1, none⟩) (by rw [← hW0]; simp <;> omega)).trans (by rw [← hW0]; simp [go_sem]), (hb.frozen (p := ⟨w.heap.size, 2, none⟩) (by rw [← hW0]; simp <;> omega)).trans (by rw [← hW0]; simp [go_sem]), (hb.frozen (p := ⟨w.heap.size + 1, 0, none⟩) (by rw [← hW0]; simp <;> omega)).trans (by rw [← hW0]; simp [go_sem]), (hb.frozen (p := ⟨w.heap.size + 1, 1, none⟩) (by rw [← hW0]; simp <;> omega)).trans (by rw [← hW0]; simp [go_sem]), (hb.frozen (p := ⟨w.heap.size + 1, 2, none⟩) (by rw [← hW0]; simp <;> omega)).trans (by rw [← hW0]; simp [go_sem])⟩)
  have HZW0 := Lib.hid (show ∀ W', Below W0.heap.size W0 W' → (w.heap.size < W'.heap.size ∧ w.heap.size + 1 < W'.heap.size) from fun W' hb =>
    ⟨Nat.lt_of_lt_of_le (by rw [← hW0]; simp <;> omega) hb.size, Nat.lt_of_lt_of_le (by rw [← hW0]; simp <;> omega) hb.size⟩)
  have zb : Below w.heap.size w W0 := by rw [← hW0]; exact below_step (below_new _ _) (below_new _ _)
  rw [hW0]
  clear hW0
  have i0 := h.to zb
  have gb : Below W0.heap.size W0 W0 := Below.refl _ _
  obtain ⟨x0_0, x0_1, x0_2, x1_0, x1_1, x1_2⟩ := HXW0.out _ gb
  obtain ⟨y0_0, y0_1, y0_2, y1_0, y1_1, y1_2⟩ := HYW0.out _ gb
  obtain ⟨z0, z1⟩ := HZW0.out _ gb
  refine (ref8_fix b _ _ ln ld _ (i0.to gb) x rfl Hx).mono ?_
  clear x0_0 y0_0 x0_1 y0_1 x0_2 y0_2 x1_0 y1_0 x1_1 y1_1 x1_2 y1_2
  rintro e w1 ⟨ng1, a1_, n1_, c1_, p1_, m1_, k1_, rfl, g1, hb1⟩
  replace gb := below_step gb hb1
  obtain ⟨x0_0, x0_1, x0_2, x1_0, x1_1, x1_2⟩ := HXW0.out _ gb
  obtain ⟨y0_0, y0_1, y0_2, y1_0, y1_1, y1_2⟩ := HYW0.out _ gb
  obtain ⟨z0, z1⟩ := HZW0.out _ gb
  have HN := Lib.hid (neg_sign g1)
  cases ng1
  · have hN := HN.out
    clear HN
    rw [Bool.not_false, Bool.true_and] at hN
    go_wp2_with fail
    refine bodyPost_ret (results_R Tryz.results40 _ _ _ _ _ _ rfl (Tri.alloc (Tri.set (x0 := .bool false) (y0 := .slice none 0 0) (z0 := .slice none 0 0) ⟨x1_0, x1_1, x1_2, y1_0, y1_1, y1_2⟩ _ _ _) _)) rfl (GivesQ.more (finR (below_step zb gb) (by omega) ?_ (g1.negQ hN)) _)
    omega
  · have hN := HN.out
    clear HN
    rw [Bool.not_true, Bool.false_and] at hN
    go_wp2_with fail
    refine bodyPost_ret (results_R Tryz.results40 _ _ _ _ _ _ rfl (Tri.alloc (Tri.set (x0 := .bool false) (y0 := .slice none 0 0) (z0 := .slice none 0 0) ⟨x1_0, x1_1, x1_2, y1_0, y1_1, y1_2⟩ _ _ _) _)) rfl (GivesQ.more (finR (below_step zb gb) (by omega) ?_ (g1.negQ hN)) _)
    omega

set_option maxRecDepth 100000 in
set_option maxHeartbeats 4000000 in
theorem ref8_turned {x : Rat} (b : Bool) (v u : Value) (ln ld : List Nat) (w : World) (h : IsQ w b v u ln ld x) (h0 : x ≠ 0) :
    Calls Tryz.prog 29 #[aggR b v u] w (GivesQ w x⁻¹) := by
  have Hx := isQ_sz h
  have HX0 := Lib.hid h0
  clear h0
  obtain ⟨a0, n0, c0, rfl, H0, hm0⟩ := h.1.open
  obtain ⟨a1, n1, c1, rfl, H1, hm1⟩ := h.2.1.open
  go_enter Tryz.func29, Tryz.ntmps29
  go_wp2_with fail
  obtain ⟨W0, hW0⟩ : ∃ W0, (w.alloc (.cells #[.bool b, .slice a0 n0 c0, .slice a1 n1 c1] 24)).alloc (.cells #[.bool false, .slice none 0 0, .slice none 0 0] 24) = W0 := ⟨_, rfl⟩
  have HXW0 := Lib.hid (show ∀ W', Below W0.heap.size W0 W' → (W'.cell? ⟨w.heap.size, 0, none⟩ = some (.bool b) ∧ W'.cell? ⟨w.heap.size, 1, none⟩ = some (.slice a0 n0 c0) ∧ W'.cell? ⟨w.heap.size, 2, none⟩ = some (.slice a1 n1 c1) ∧ W'.cell? ⟨w.heap.size + 1, 0, none⟩ = some (.bool false) ∧ W'.cell? ⟨w.heap.size + 1, 1, none⟩ = some (.slice none 0 0) ∧ W'.cell? ⟨w.heap.size + 1, 2, none⟩ = some (.slice none 0 0)) from fun W' hb =>
    ⟨(hb.cell (p := ⟨w.heap.size, 0, none⟩) (by rw [← hW0]; simp <;> omega)).trans (by rw [← hW0]; simp [go_sem]), (hb.cell (p := ⟨w.heap.size, 1, none⟩) (by rw [← hW0]; simp <;> omega)).trans (by rw [← hW0]; simp [go_sem]), (hb.cell (p := ⟨w.heap.size, 2, none⟩) (by rw [← hW0]; simp <;> omega)).trans (by rw [← hW0]; simp [go_sem]), (hb.cell (p := ⟨w.heap.size + 1, 0, none⟩) (by rw [← hW0]; simp <;> omega)).trans (by rw [← hW0]; simp [go_sem]), (hb.cell (p := ⟨w.heap.size + 1, 1, none⟩) (by rw [← hW0]; simp <;> omega)).trans (by rw [← hW0]; simp [go_sem]), (hb.cell (p := ⟨w.heap.size + 1, 2, none⟩) (by rw [← hW0]; simp <;> omega)).trans (by rw [← hW0]; simp [go_sem])⟩)
  have HYW0 := Lib.hid (show ∀ W', Below W0.heap.size W0 W' → (W'.frozen? ⟨w.heap.size, 0, none⟩ = false ∧ W'.frozen? ⟨w.heap.size, 1, none⟩ = false ∧ W'.frozen? ⟨w.heap.size, 2, none⟩ = false ∧ W'.frozen? ⟨w.heap.size + 1, 0, none⟩ = false ∧ W'.frozen? ⟨w.heap.size + 1, 1, none⟩ = false ∧ W'.frozen? ⟨w.heap.size + 1, 2, none⟩ = false) from fun W' hb =>
    ⟨(hb.frozen (p := ⟨w.heap.size, 0, none⟩) (by rw [← hW0]; simp <;> omega)).trans (by rw [← hW0]; simp [go_sem]), (hb.frozen (p := ⟨w.heap.size, 1, none⟩) (by rw [← hW0]; simp <;> omega)).trans (by rw [← hW0]; simp [go_sem]), (hb.frozen (p := ⟨w.heap.size, 2, none⟩) (by rw [← hW0]; simp <;> omega)).trans (by rw [← hW0]; simp [go_sem]), (hb.frozen (p := ⟨w.heap.size + 1, 0, none⟩) (by rw [← hW0]; simp <;> omega)).trans (by rw [← hW0]; simp [go_sem]), (hb.frozen (p := ⟨w.heap.size + 1, 1, none⟩) (by rw [← hW0]; simp <;> omega)).trans (by rw [← hW0]; simp [go_sem]), (hb.frozen (p := ⟨w.heap.size + 1, 2, none⟩) (by rw [← hW0]; simp <;> omega)).trans (by rw [← hW0]; simp [go_sem])⟩)
  have HZW0 := Lib.hid (show ∀ W', Below W0.heap.size W0 W' → (w.heap.size < W'.heap.size ∧ w.heap.size + 1 < W'.heap.size) from fun W' hb =>
    ⟨Nat.lt_of_lt_of_le (by rw [← hW0]; simp <;> omega) hb.size, Nat.lt_of_lt_of_le (by rw [← hW0]; simp <;> omega) hb.size⟩)
  have zb : Below w.heap.size w W0 := by rw [← hW0]; exact below_step (below_new _ _) (below_new _ _)
  rw [hW0]
  clear hW0
  have i0 := h.to zb
  have gb : Below W0.heap.size W0 W0 := Below.refl _ _
  obtain ⟨x0_0, x0_1, x0_2, x1_0, x1_1, x1_2⟩ := HXW0.out _ gb
  obtain ⟨y0_0, y0_1, y0_2, y1_0, y1_1, y1_2⟩ := HYW0.out _ gb
  obtain ⟨z0, z1⟩ := HZW0.out _ gb
  refine (ref8_fix b _ _ ln ld _ (i0.to gb) x rfl Hx).mono ?_
  clear x0_0 y0_0 x0_1 y0_1 x0_2 y0_2 x1_0 y1_0 x1_1 y1_1 x1_2 y1_2
  rintro e w1 ⟨ng1, a1_, n1_, c1_, p1_, m1_, k1_, rfl, g1, hb1⟩
  replace gb := below_step gb hb1
  obtain ⟨x0_0, x0_1, x0_2, x1_0, x1_1, x1_2⟩ := HXW0.out _ gb
  obtain ⟨y0_0, y0_1, y0_2, y1_0, y1_1, y1_2⟩ := HYW0.out _ gb
  obtain ⟨z0, z1⟩ := HZW0.out _ gb
  go_wp2_with fail
  refine bodyPost_ret (results_R Tryz.results29 _ _ _ _ _ _ rfl (Tri.alloc (Tri.set (x0 := .bool false) (y0 := .slice none 0 0) (z0 := .slice none 0 0) ⟨x1_0, x1_1, x1_2, y1_0, y1_1, y1_2⟩ _ _ _) _)) rfl (GivesQ.more (finR (below_step zb gb) (by omega) ?_ (g1.invQ HX0.out)) _)
  omega

set_option maxRecDepth 100000 in
set_option maxHeartbeats 4000000 in
theorem ref8_zero {x : Rat} (b : Bool) (v u : Value) (ln ld : List Nat) (w : World) (h : IsQ w b v u ln ld x) (o : Bool) (ho : decide (x = 0) = o) :
    Calls Tryz.prog 28 #[aggR b v u] w (fun e w' => e = .returned (.bool o) ∧ Below w.heap.size w w') := by
  have Hx := isQ_sz h
  have HO := Lib.hid ho
  clear ho
  obtain ⟨a0, n0, c0, rfl, H0, hm0⟩ := h.1.open
  obtain ⟨a1, n1, c1, rfl, H1, hm1⟩ := h.2.1.open
  go_enter Tryz.func28, Tryz.ntmps28
  go_wp2_with fail
  obtain ⟨W0, hW0⟩ : ∃ W0, w.alloc (.cells #[.bool b, .slice a0 n0 c0, .slice a1 n1 c1] 24) = W0 := ⟨_, rfl⟩
  have HXW0 := Lib.hid (show ∀ W', Below W0.heap.size W0 W' → (W'.cell? ⟨w.heap.size, 0, none⟩ = some (.bool b) ∧ W'.cell? ⟨w.heap.size, 1, none⟩ = some (.slice a0 n0 c0) ∧ W'.cell? ⟨w.heap.size, 2, none⟩ = some (.slice a1 n1 c1)) from fun W' hb =>
    ⟨(hb.cell (p := ⟨w.heap.size, 0, none⟩) (by rw [← hW0]; simp <;> omega)).trans (by rw [← hW0]; simp [go_sem]), (hb.cell (p := ⟨w.heap.size, 1, none⟩) (by rw [← hW0]; simp <;> omega)).trans (by rw [← hW0]; simp [go_sem]), (hb.cell (p := ⟨w.heap.size, 2, none⟩) (by rw [← hW0]; simp <;> omega)).trans (by rw [← hW0]; simp [go_sem])⟩)
  have HYW0 := Lib.hid (show ∀ W', Below W0.heap.size W0 W' → (W'.frozen? ⟨w.heap.size, 0, none⟩ = false ∧ W'.frozen? ⟨w.heap.size, 1, none⟩ = false ∧ W'.frozen? ⟨w.heap.size, 2, none⟩ = false) from fun W' hb =>
    ⟨(hb.frozen (p := ⟨w.heap.size, 0, none⟩) (by rw [← hW0]; simp <;> omega)).trans (by rw [← hW0]; simp [go_sem]), (hb.frozen (p := ⟨w.heap.size, 1, none⟩) (by rw [← hW0]; simp <;> omega)).trans (by rw [← hW0]; simp [go_sem]), (hb.frozen (p := ⟨w.heap.size, 2, none⟩) (by rw [← hW0]; simp <;> omega)).trans (by rw [← hW0]; simp [go_sem])⟩)
  have HZW0 := Lib.hid (show ∀ W', Below W0.heap.size W0 W' → (w.heap.size < W'.heap.size) from fun W' hb =>
    Nat.lt_of_lt_of_le (by rw [← hW0]; simp <;> omega) hb.size)
  have zb : Below w.heap.size w W0 := by rw [← hW0]; exact below_new _ _
  rw [hW0]
  clear hW0
  have i0 := h.to zb
  have gb : Below W0.heap.size W0 W0 := Below.refl _ _
  obtain ⟨x0_0, x0_1, x0_2⟩ := HXW0.out _ gb
  obtain ⟨y0_0, y0_1, y0_2⟩ := HYW0.out _ gb
  obtain z0 := HZW0.out _ gb
  refine (ref8_fix b _ _ ln ld _ (i0.to gb) x rfl Hx).mono ?_
  clear x0_0 y0_0 x0_1 y0_1 x0_2 y0_2
  rintro e w1 ⟨ng1, a1_, n1_, c1_, p1_, m1_, k1_, rfl, g1, hb1⟩
  replace gb := below_step gb hb1
  obtain ⟨x0_0, x0_1, x0_2⟩ := HXW0.out _ gb
  obtain ⟨y0_0, y0_1, y0_2⟩ := HYW0.out _ gb
  obtain z0 := HZW0.out _ gb
  go_wp2_with fail
  have HZ := Lib.hid (g1.zeroQ HO.out)
  go_ret
  exact ⟨ret_one (congrArg Value.bool (by have k := HZ.out; simpa [int_eq0] using k)), below_step (below_step zb gb) (below_new _ _)⟩

set_option maxRecDepth 100000 in
set_option maxHeartbeats 4000000 in
theorem ref8_mul {x y : Rat} (b : Bool) (v u : Value) (ln ld : List Nat) (c : Bool) (v' u' : Value) (ln' ld' : List Nat) (w : World) (h : IsQ w b v u ln ld x) (h' : IsQ w c v' u' ln' ld' y) (q : Rat) (hq : x * y = q) (hs : Hid (szq q ≤ 1000)) :
    Calls Tryz.prog 15 #[aggR b v u, aggR c v' u'] w (GivesQ w q) := by
  have Hx := isQ_sz h
  have Hy := isQ_sz h'
  have K1 := Lib.hid (show (limbs (val (limbs x.num.natAbs) * val (limbs y.num.natAbs))).length ≤ 3000 by
    rw [sz_def, val_limbs, val_limbs]; have := sz_mul x.num.natAbs y.num.natAbs; have := szq_num x; have := szq_num y; have := Hx.out; have := Hy.out; omega)
  have K2 := Lib.hid (show (limbs (val (limbs x.den) * val (limbs y.den))).length ≤ 3000 by
    rw [sz_def, val_limbs, val_limbs]; have := sz_mul x.den y.den; have := szq_den x; have := szq_den y; have := Hx.out; have := Hy.out; omega)
  have H9 := Lib.hid (show ∀ ng ng', decide (x < 0) = ng → decide (y < 0) = ng' → rat (!ng == ng') (val (limbs (val (limbs x.num.natAbs) * val (limbs y.num.natAbs)))) (val (limbs (val (limbs x.den) * val (limbs y.den)))) = q from fun ng ng' e e' => by
    show rat (ng != ng') _ _ = q
    rw [val_limbs, val_limbs, val_limbs, val_limbs, val_limbs, val_limbs, ← rat_mul, ← e, ← e', rat_self, rat_self, hq])
  obtain ⟨a0, n0, c0, rfl, H0, hm0⟩ := h.1.open
  obtain ⟨a1, n1, c1, rfl, H1, hm1⟩ := h.2.1.open
  obtain ⟨a2, n2, c2, rfl, H2, hm2⟩ := h'.1.open
  obtain ⟨a3, n3, c3, rfl, H3, hm3⟩ := h'.2.1.open
  clear hq
  go_enter Tryz.func15, Tryz.ntmps15
  go_wp2_with fail
  obtain ⟨W0, hW0⟩ : ∃ W0, ((w.alloc (.cells #[.bool b, .slice a0 n0 c0, .slice a1 n1 c1] 24)).alloc (.cells #[.bool c, .slice a2 n2 c2, .slice a3 n3 c3] 24)).alloc (.cells #[.bool false, .slice none 0 0, .slice none 0 0] 24) = W0 := ⟨_, rfl⟩
  have HXW0 := Lib.hid (show ∀ W', Below W0.heap.size W0 W' → (W'.cell? ⟨w.heap.size, 0, none⟩ = some (.bool b) ∧ W'.cell? ⟨w.heap.size, 1, none⟩ = some (.slice a0 n0 c0) ∧ W'.cell? ⟨w.heap.size, 2, none⟩ = some (.slice a1 n1 c1) ∧ W'.cell? ⟨w.heap.size + 1, 0, none⟩ = some (.bool c) ∧ W'.cell? ⟨w.heap.size + 1, 1, none⟩ = some (.slice a2 n2 c2) ∧ W'.cell? ⟨w.heap.size + 1, 2, none⟩ = some (.slice a3 n3 c3) ∧ W'.cell? ⟨w.heap.size + 1 + 1, 0, none⟩ = some (.bool false) ∧ W'.cell? ⟨w.heap.size + 1 + 1, 1, none⟩ = some (.slice none 0 0) ∧ W'.cell? ⟨w.heap.size + 1 + 1, 2, none⟩ = some (.slice none 0 0)) from fun W' hb =>
    ⟨(hb.cell (p := ⟨w.heap.size, 0, none⟩) (by rw [← hW0]; simp <;> omega)).trans (by rw [← hW0]; simp [go_sem]), (hb.cell (p := ⟨w.heap.size, 1, none⟩) (by rw [← hW0]; simp <;> omega)).trans (by rw [← hW0]; simp [go_sem]), (hb.cell (p := ⟨w.heap.size, 2, none⟩) (by rw [← hW0]; simp <;> omega)).trans (by rw [← hW0]; simp [go_sem]), (hb.cell (p := ⟨w.heap.size + 1, 0, none⟩) (by rw [← hW0]; simp <;> omega)).trans (by rw [← hW0]; simp [go_sem]), (hb.cell (p := ⟨w.heap.size + 1, 1, none⟩) (by rw [← hW0]; simp <;> omega)).trans (by rw [← hW0]; simp [go_sem]), (hb.cell (p := ⟨w.heap.size + 1, 2, none⟩) (by rw [← hW0]; simp <;> omega)).trans (by rw [← hW0]; simp [go_sem]), (hb.cell (p := ⟨w.heap.size + 1 + 1, 0, none⟩) (by rw [← hW0]; simp <;> omega)).trans (by rw [← hW0]; simp [go_sem]), (hb.cell (p := ⟨w.heap.size + 1 + 1, 1, none⟩) (by rw [← hW0]; simp <;> omega)).trans (by rw [← hW0]; simp [go_sem]), (hb.cell (p := ⟨w.heap.size + 1 + 1, 2, none⟩) (by rw [← hW0]; simp <;> omega)).trans (by rw [← hW0]; simp [go_sem])⟩)
  have HYW0 := Lib.hid (show ∀ W', Below W0.heap.size W0 W' → (W'.frozen? ⟨w.heap.size, 0, none⟩ = false ∧ W'.frozen? ⟨w.heap.size, 1, none⟩ = false ∧ W'.frozen? ⟨w.heap.size, 2, none⟩ = false ∧ W'.frozen? ⟨w.heap.size + 1, 0, none⟩ = false ∧ W'.frozen? ⟨w.heap.size + 1, 1, none⟩ = false ∧ W'.frozen? ⟨w.heap.size + 1, 2, none⟩ = false ∧ W'.frozen? ⟨w.heap.size + 1 + 1, 0, none⟩ = false ∧ W'.frozen? ⟨w.heap.size + 1 + 1, 1, none⟩ = false ∧ W'.frozen? ⟨w.heap.size + 1 + 1, 2, none⟩ = false) from fun W' hb =>
    ⟨(hb.frozen (p := ⟨w.heap.size, 0, none⟩) (by rw [← hW0]; simp <;> omega)).trans (by rw [← hW0]; simp [go_sem]), (hb.frozen (p := ⟨w.heap.size, 1, none⟩) (by rw [← hW0]; simp <;> omega)).trans (by rw [← hW0]; simp [go_sem]), (hb.frozen (p := ⟨w.heap.size, 2, none⟩) (by rw [← hW0]; simp <;> omega)).trans (by rw [← hW0]; simp [go_sem]), (hb.frozen (p := ⟨w.heap.size + 1, 0, none⟩) (by rw [← hW0]; simp <;> omega)).trans (by rw [← hW0]; simp [go_sem]), (hb.frozen (p := ⟨w.heap.size + 1, 1, none⟩) (by rw [← hW0]; simp <;> omega)).trans (by rw [← hW0]; simp [go_sem]), (hb.frozen (p := ⟨w.heap.size + 1, 2, none⟩) (by rw [← hW0]; simp <;> omega)).trans (by rw [← hW0]; simp [go_sem]), (hb.frozen (p := ⟨w.heap.size + 1 + 1, 0, none⟩) (by rw [← hW0]; simp <;> omega)).trans (by rw [← hW0]; simp [go_sem]), (hb.frozen (p := ⟨w.heap.size + 1 + 1, 1, none⟩) (by rw [← hW0]; simp <;> omega)).trans (by rw [← hW0]; simp [go_sem]), (hb.frozen (p := ⟨w.heap.size + 1 + 1, 2, none⟩) (by rw [← hW0]; simp <;> omega)).trans (by rw [← hW0]; simp [go_sem])⟩)
  have HZW0 := Lib.hid (show ∀ W', Below W0.heap.size W0 W' → (w.heap.size < W'.heap.size ∧ w.heap.size + 1 < W'.heap.size ∧ w.heap.size + 1 + 1 < W'.heap.size) from fun W' hb =>
    ⟨Nat.lt_of_lt_of_le (by rw [← hW0]; simp <;> omega) hb.size, Nat.lt_of_lt_of_le (by rw [← hW0]; simp <;> omega) hb.size, Nat.lt_of_lt_of_le (by rw [← hW0]; simp <;> omega) hb.size⟩)
  have zb : Below w.heap.size w W0 := by rw [← hW0]; exact below_step (below_step (below_new _ _) (below_new _ _)) (below_new _ _)
  rw [hW0]
  clear hW0
  have i0 := h.to zb
  have i1 := h'.to zb
  have gb : Below W0.heap.size W0 W0 := Below.refl _ _
  obtain ⟨x0_0, x0_1, x0_2, x1_0, x1_1, x1_2, x2_0, x2_1, x2_2⟩ := HXW0.out _ gb
  obtain ⟨y0_0, y0_1, y0_2, y1_0, y1_1, y1_2, y2_0, y2_1, y2_2⟩ := HYW0.out _ gb
  obtain ⟨z0, z1, z2⟩ := HZW0.out _ gb
  refine (ref8_fix b _ _ ln ld _ (i0.to gb) x rfl Hx).mono ?_
  clear x0_0 y0_0 x0_1 y0_1 x0_2 y0_2 x1_0 y1_0 x1_1 y1_1 x1_2 y1_2 x2_0 y2_0 x2_1 y2_1 x2_2 y2_2
  rintro e w1 ⟨ng1, a1_, n1_, c1_, p1_, m1_, k1_, rfl, g1, hb1⟩
  replace gb := below_step gb hb1
  obtain ⟨x0_0, x0_1, x0_2, x1_0, x1_1, x1_2, x2_0, x2_1, x2_2⟩ := HXW0.out _ gb
  obtain ⟨y0_0, y0_1, y0_2, y1_0, y1_1, y1_2, y2_0, y2_1, y2_2⟩ := HYW0.out _ gb
  obtain ⟨z0, z1, z2⟩ := HZW0.out _ gb
  go_wp2_with fail
  obtain ⟨W1, hW1⟩ : ∃ W1, w1.alloc (.cells #[.bool ng1, .slice a1_ n1_ c1_, .slice p1_ m1_ k1_] 24) = W1 := ⟨_, rfl⟩
  have hb_W1 : Below w1.heap.size w1 W1 := by rw [← hW1]; exact below_new _ _
  clear x0_0 y0_0 x0_1 y0_1 x0_2 y0_2 x1_0 y1_0 x1_1 y1_1 x1_2 y1_2 x2_0 y2_0 x2_1 y2_1 x2_2 y2_2
  replace g1 := g1.to hb_W1
  replace gb := below_step gb hb_W1
  obtain ⟨x0_0, x0_1, x0_2, x1_0, x1_1, x1_2, x2_0, x2_1, x2_2⟩ := HXW0.out _ gb
  obtain ⟨y0_0, y0_1, y0_2, y1_0, y1_1, y1_2, y2_0, y2_1, y2_2⟩ := HYW0.out _ gb
  obtain ⟨z0, z1, z2⟩ := HZW0.out _ gb
  have x5_0 : W1.cell? ⟨w1.heap.size, 0, none⟩ = some (.bool ng1) := by rw [← hW1]; simp [go_sem]
  have y5_0 : W1.frozen? ⟨w1.heap.size, 0, none⟩ = false := by rw [← hW1]; simp [go_sem]
  have x5_1 : W1.cell? ⟨w1.heap.size, 1, none⟩ = some (.slice a1_ n1_ c1_) := by rw [← hW1]; simp [go_sem]
  have y5_1 : W1.frozen? ⟨w1.heap.size, 1, none⟩ = false := by rw [← hW1]; simp [go_sem]
  have x5_2 : W1.cell? ⟨w1.heap.size, 2, none⟩ = some (.slice p1_ m1_ k1_) := by rw [← hW1]; simp [go_sem]
  have y5_2 : W1.frozen? ⟨w1.heap.size, 2, none⟩ = false := by rw [← hW1]; simp [go_sem]
  have z5 : w1.heap.size < W1.heap.size := by rw [← hW1]; simp
  rw [hW1]
  clear hW1
  replace i0 := i0.to gb
  replace i1 := i1.to gb
  replace zb := below_step zb gb
  have HXW1 := Lib.hid (show ∀ W', Below W1.heap.size W1 W' → (W'.cell? ⟨w.heap.size, 0, none⟩ = some (.bool b) ∧ W'.cell? ⟨w.heap.size, 1, none⟩ = some (.slice a0 n0 c0) ∧ W'.cell? ⟨w.heap.size, 2, none⟩ = some (.slice a1 n1 c1) ∧ W'.cell? ⟨w.heap.size + 1, 0, none⟩ = some (.bool c) ∧ W'.cell? ⟨w.heap.size + 1, 1, none⟩ = some (.slice a2 n2 c2) ∧ W'.cell? ⟨w.heap.size + 1, 2, none⟩ = some (.slice a3 n3 c3) ∧ W'.cell? ⟨w.heap.size + 1 + 1, 0, none⟩ = some (.bool false) ∧ W'.cell? ⟨w.heap.size + 1 + 1, 1, none⟩ = some (.slice none 0 0) ∧ W'.cell? ⟨w.heap.size + 1 + 1, 2, none⟩ = some (.slice none 0 0) ∧ W'.cell? ⟨w1.heap.size, 0, none⟩ = some (.bool ng1) ∧ W'.cell? ⟨w1.heap.size, 1, none⟩ = some (.slice a1_ n1_ c1_) ∧ W'.cell? ⟨w1.heap.size, 2, none⟩ = some (.slice p1_ m1_ k1_)) from fun W' hb =>
    ⟨(hb.cell (p := ⟨w.heap.size, 0, none⟩) z0).trans x0_0, (hb.cell (p := ⟨w.heap.size, 1, none⟩) z0).trans x0_1, (hb.cell (p := ⟨w.heap.size, 2, none⟩) z0).trans x0_2, (hb.cell (p := ⟨w.heap.size + 1, 0, none⟩) z1).trans x1_0, (hb.cell (p := ⟨w.heap.size + 1, 1, none⟩) z1).trans x1_1, (hb.cell (p := ⟨w.heap.size + 1, 2, none⟩) z1).trans x1_2, (hb.cell (p := ⟨w.heap.size + 1 + 1, 0, none⟩) z2).trans x2_0, (hb.cell (p := ⟨w.heap.size + 1 + 1, 1, none⟩) z2).trans x2_1, (hb.cell (p := ⟨w.heap.size + 1 + 1, 2, none⟩) z2).trans x2_2, (hb.cell (p := ⟨w1.heap.size, 0, none⟩) z5).trans x5_0, (hb.cell (p := ⟨w1.heap.size, 1, none⟩) z5).trans x5_1, (hb.cell (p := ⟨w1.heap.size, 2, none⟩) z5).trans x5_2⟩)
  have HYW1 := Lib.hid (show ∀ W', Below W1.heap.size W1 W' → (W'.frozen? ⟨w.heap.size, 0, none⟩ = false ∧ W'.frozen? ⟨w.heap.size, 1, none⟩ = false ∧ W'.frozen? ⟨w.heap.size, 2, none⟩ = false ∧ W'.frozen? ⟨w.heap.size + 1, 0, none⟩ = false ∧ W'.frozen? ⟨w.heap.size + 1, 1, none⟩ = false ∧ W'.frozen? ⟨w.heap.size + 1, 2, none⟩ = false ∧ W'.frozen? ⟨w.heap.size + 1 + 1, 0, none⟩ = false ∧ W'.frozen? ⟨w.heap.size + 1 + 1, 1, none⟩ = false ∧ W'.frozen? ⟨w.heap.size + 1 + 1, 2, none⟩ = false ∧ W'.frozen? ⟨w1.heap.size, 0, none⟩ = false ∧ W'.frozen? ⟨w1.heap.size, 1, none⟩ = false ∧ W'.frozen? ⟨w1.heap.size, 2, none⟩ = false) from fun W' hb =>
    ⟨(hb.frozen (p := ⟨w.heap.size, 0, none⟩) z0).trans y0_0, (hb.frozen (p := ⟨w.heap.size, 1, none⟩) z0).trans y0_1, (hb.frozen (p := ⟨w.heap.size, 2, none⟩) z0).trans y0_2, (hb.frozen (p := ⟨w.heap.size + 1, 0, none⟩) z1).trans y1_0, (hb.frozen (p := ⟨w.heap.size + 1, 1, none⟩) z1).trans y1_1, (hb.frozen (p := ⟨w.heap.size + 1, 2, none⟩) z1).trans y1_2, (hb.frozen (p := ⟨w.heap.size + 1 + 1, 0, none⟩) z2).trans y2_0, (hb.frozen (p := ⟨w.heap.size + 1 + 1, 1, none⟩) z2).trans y2_1, (hb.frozen (p := ⟨w.heap.size + 1 + 1, 2, none⟩) z2).trans y2_2, (hb.frozen (p := ⟨w1.heap.size, 0, none⟩) z5).trans y5_0, (hb.frozen (p := ⟨w1.heap.size, 1, none⟩) z5).trans y5_1, (hb.frozen (p := ⟨w1.heap.size, 2, none⟩) z5).trans y5_2⟩)
  have HZW1 := Lib.hid (show ∀ W', Below W1.heap.size W1 W' → (w.heap.size < W'.heap.size ∧ w.heap.size + 1 < W'.heap.size ∧ w.heap.size + 1 + 1 < W'.heap.size ∧ w1.heap.size < W'.heap.size) from fun W' hb =>
    ⟨Nat.lt_of_lt_of_le z0 hb.size, Nat.lt_of_lt_of_le z1 hb.size, Nat.lt_of_lt_of_le z2 hb.size, Nat.lt_of_lt_of_le z5 hb.size⟩)
  replace gb := Below.refl W1.heap.size W1
  go_wp2_with fail
  refine (ref8_fix c _ _ ln' ld' _ (i1.to gb) y rfl Hy).mono ?_
  clear x0_0 y0_0 x0_1 y0_1 x0_2 y0_2 x1_0 y1_0 x1_1 y1_1 x1_2 y1_2 x2_0 y2_0 x2_1 y2_1 x2_2 y2_2 x5_0 y5_0 x5_1 y5_1 x5_2 y5_2
  rintro e w2 ⟨ng2, a2_, n2_, c2_, p2_, m2_, k2_, rfl, g2, hb2⟩
  replace gb := below_step gb hb2
  obtain ⟨x0_0, x0_1, x0_2, x1_0, x1_1, x1_2, x2_0, x2_1, x2_2, x5_0, x5_1, x5_2⟩ := HXW1.out _ gb
  obtain ⟨y0_0, y0_1, y0_2, y1_0, y1_1, y1_2, y2_0, y2_1, y2_2, y5_0, y5_1, y5_2⟩ := HYW1.out _ gb
  obtain ⟨z0, z1, z2, z5⟩ := HZW1.out _ gb
  go_wp2_with fail
  obtain ⟨W2, hW2⟩ : ∃ W2, w2.alloc (.cells #[.bool ng2, .slice a2_ n2_ c2_, .slice p2_ m2_ k2_] 24) = W2 := ⟨_, rfl⟩
  have hb_W2 : Below w2.heap.size w2 W2 := by rw [← hW2]; exact below_new _ _
  clear x0_0 y0_0 x0_1 y0_1 x0_2 y0_2 x1_0 y1_0 x1_1 y1_1 x1_2 y1_2 x2_0 y2_0 x2_1 y2_1 x2_2 y2_2 x5_0 y5_0 x5_1 y5_1 x5_2 y5_2
  replace g2 := g2.to hb_W2
  replace gb := below_step gb hb_W2
  obtain ⟨x0_0, x0_1, x0_2, x1_0, x1_1, x1_2, x2_0, x2_1, x2_2, x5_0, x5_1, x5_2⟩ := HXW1.out _ gb
  obtain ⟨y0_0, y0_1, y0_2, y1_0, y1_1, y1_2, y2_0, y2_1, y2_2, y5_0, y5_1, y5_2⟩ := HYW1.out _ gb
  obtain ⟨z0, z1, z2, z5⟩ := HZW1.out _ gb
  have x6_0 : W2.cell? ⟨w2.heap.size, 0, none⟩ = some (.bool ng2) := by rw [← hW2]; simp [go_sem]
  have y6_0 : W2.frozen? ⟨w2.heap.size, 0, none⟩ = false := by rw [← hW2]; simp [go_sem]
  have x6_1 : W2.cell? ⟨w2.heap.size, 1, none⟩ = some (.slice a2_ n2_ c2_) := by rw [← hW2]; simp [go_sem]
  have y6_1 : W2.frozen? ⟨w2.heap.size, 1, none⟩ = false := by rw [← hW2]; simp [go_sem]
  have x6_2 : W2.cell? ⟨w2.heap.size, 2, none⟩ = some (.slice p2_ m2_ k2_) := by rw [← hW2]; simp [go_sem]
  have y6_2 : W2.frozen? ⟨w2.heap.size, 2, none⟩ = false := by rw [← hW2]; simp [go_sem]
  have z6 : w2.heap.size < W2.heap.size := by rw [← hW2]; simp
  rw [hW2]
  clear hW2
  replace i0 := i0.to gb
  replace i1 := i1.to gb
  replace g1 := g1.to gb
  replace zb := below_step zb gb
  have HXW2 := Lib.hid (show ∀ W', Below W2.heap.size W2 W' → (W'.cell? ⟨w.heap.size, 0, none⟩ = some (.bool b) ∧ W'.cell? ⟨w.heap.size, 1, none⟩ = some (.slice a0 n0 c0) ∧ W'.cell? ⟨w.heap.size, 2, none⟩ = some (.slice a1 n1 c1) ∧ W'.cell? ⟨w.heap.size + 1, 0, none⟩ = some (.bool c) ∧ W'.cell? ⟨w.heap.size + 1, 1, none⟩ = some (.slice a2 n2 c2) ∧ W'.cell? ⟨w.heap.size + 1, 2, none⟩ = some (.slice a3 n3 c3) ∧ W'.cell? ⟨w.heap.size + 1 + 1, 0, none⟩ = some (.bool false) ∧ W'.cell? ⟨w.heap.size + 1 + 1, 1, none⟩ = some (.slice none 0 0) ∧ W'.cell? ⟨w.heap.size + 1 + 1, 2, none⟩ = some (.slice none 0 0) ∧ W'.cell? ⟨w1.heap.size, 0, none⟩ = some (.bool ng1) ∧ W'.cell? ⟨w1.heap.size, 1, none⟩ = some (.slice a1_ n1_ c1_) ∧ W'.cell? ⟨w1.heap.size, 2, none⟩ = some (.slice p1_ m1_ k1_) ∧ W'.cell? ⟨w2.heap.size, 0, none⟩ = some (.bool ng2) ∧ W'.cell? ⟨w2.heap.size, 1, none⟩ = some (.slice a2_ n2_ c2_) ∧ W'.cell? ⟨w2.heap.size, 2, none⟩ = some (.slice p2_ m2_ k2_)) from fun W' hb =>
    ⟨(hb.cell (p := ⟨w.heap.size, 0, none⟩) z0).trans x0_0, (hb.cell (p := ⟨w.heap.size, 1, none⟩) z0).trans x0_1, (hb.cell (p := ⟨w.heap.size, 2, none⟩) z0).trans x0_2, (hb.cell (p := ⟨w.heap.size + 1, 0, none⟩) z1).trans x1_0, (hb.cell (p := ⟨w.heap.size + 1, 1, none⟩) z1).trans x1_1, (hb.cell (p := ⟨w.heap.size + 1, 2, none⟩) z1).trans x1_2, (hb.cell (p := ⟨w.heap.size + 1 + 1, 0, none⟩) z2).trans x2_0, (hb.cell (p := ⟨w.heap.size + 1 + 1, 1, none⟩) z2).trans x2_1, (hb.cell (p := ⟨w.heap.size + 1 + 1, 2, none⟩) z2).trans x2_2, (hb.cell (p := ⟨w1.heap.size, 0, none⟩) z5).trans x5_0, (hb.cell (p := ⟨w1.heap.size, 1, none⟩) z5).trans x5_1, (hb.cell (p := ⟨w1.heap.size, 2, none⟩) z5).trans x5_2, (hb.cell (p := ⟨w2.heap.size, 0, none⟩) z6).trans x6_0, (hb.cell (p := ⟨w2.heap.size, 1, none⟩) z6).trans x6_1, (hb.cell (p := ⟨w2.heap.size, 2, none⟩) z6).trans x6_2⟩)
  have HYW2 := Lib.hid (show ∀ W', Below W2.heap.size W2 W' → (W'.frozen? ⟨w.heap.size, 0, none⟩ = false ∧ W'.frozen? ⟨w.heap.size, 1, none⟩ = false ∧ W'.frozen? ⟨w.heap.size, 2, none⟩ = false ∧ W'.frozen? ⟨w.heap.size + 1, 0, none⟩ = false ∧ W'.frozen? ⟨w.heap.size + 1, 1, none⟩ = false ∧ W'.frozen? ⟨w.heap.size + 1, 2, none⟩ = false ∧ W'.frozen? ⟨w.heap.size + 1 + 1, 0, none⟩ = false ∧ W'.frozen? ⟨w.heap.size + 1 + 1, 1, none⟩ = false ∧ W'.frozen? ⟨w.heap.size + 1 + 1, 2, none⟩ = false ∧ W'.frozen? ⟨w1.heap.size, 0, none⟩ = false ∧ W'.frozen? ⟨w1.heap.size, 1, none⟩ = false ∧ W'.frozen? ⟨w1.heap.size, 2, none⟩ = false ∧ W'.frozen? ⟨w2.heap.size, 0, none⟩ = false ∧ W'.frozen? ⟨w2.heap.size, 1, none⟩ = false ∧ W'.frozen? ⟨w2.heap.size, 2, none⟩ = false) from fun W' hb =>
    ⟨(hb.frozen (p := ⟨w.heap.size, 0, none⟩) z0).trans y0_0, (hb.frozen (p := ⟨w.heap.size, 1, none⟩) z0).trans y0_1, (hb.frozen (p := ⟨w.heap.size, 2, none⟩) z0).trans y0_2, (hb.frozen (p := ⟨w.heap.size + 1, 0, none⟩) z1).trans y1_0, (hb.frozen (p := ⟨w.heap.size + 1, 1, none⟩) z1).trans y1_1, (hb.frozen (p := ⟨w.heap.size + 1, 2, none⟩) z1).trans y1_2, (hb.frozen (p := ⟨w.heap.size + 1 + 1, 0, none⟩) z2).trans y2_0, (hb.frozen (p := ⟨w.heap.size + 1 + 1, 1, none⟩) z2).trans y2_1, (hb.frozen (p := ⟨w.heap.size + 1 + 1, 2, none⟩) z2).trans y2_2, (hb.frozen (p := ⟨w1.heap.size, 0, none⟩) z5).trans y5_0, (hb.frozen (p := ⟨w1.heap.size, 1, none⟩) z5).trans y5_1, (hb.frozen (p := ⟨w1.heap.size, 2, none⟩) z5).trans y5_2, (hb.frozen (p := ⟨w2.heap.size, 0, none⟩) z6).trans y6_0, (hb.frozen (p := ⟨w2.heap.size, 1, none⟩) z6).trans y6_1, (hb.frozen (p := ⟨w2.heap.size, 2, none⟩) z6).trans y6_2⟩)
  have HZW2 := Lib.hid (show ∀ W', Below W2.heap.size W2 W' → (w.heap.size < W'.heap.size ∧ w.heap.size + 1 < W'.heap.size ∧ w.heap.size + 1 + 1 < W'.heap.size ∧ w1.heap.size < W'.heap.size ∧ w2.heap.size < W'.heap.size) from fun W' hb =>
    ⟨Nat.lt_of_lt_of_le z0 hb.size, Nat.lt_of_lt_of_le z1 hb.size, Nat.lt_of_lt_of_le z2 hb.size, Nat.lt_of_lt_of_le z5 hb.size, Nat.lt_of_lt_of_le z6 hb.size⟩)
  replace gb := Below.refl W2.heap.size W2
  go_wp2_with fail
  have H8 := Lib.hid (H9.out ng1 ng2 g1.ng g2.ng)
  have nz0 : w.heap.size ≠ w.heap.size + 1 + 1 := by omega
  have nz1 : w.heap.size + 1 ≠ w.heap.size + 1 + 1 := by omega
  have nz5 : w1.heap.size ≠ w.heap.size + 1 + 1 := by omega
  have nz6 : w2.heap.size ≠ w.heap.size + 1 + 1 := by omega
  go_region_held3 (fun W' => W'.cell? ⟨w.heap.size, 0, none⟩ = some (.bool b) ∧ W'.cell? ⟨w.heap.size, 1, none⟩ = some (.slice a0 n0 c0) ∧ W'.cell? ⟨w.heap.size, 2, none⟩ = some (.slice a1 n1 c1) ∧ W'.cell? ⟨w.heap.size + 1, 0, none⟩ = some (.bool c) ∧ W'.cell? ⟨w.heap.size + 1, 1, none⟩ = some (.slice a2 n2 c2) ∧ W'.cell? ⟨w.heap.size + 1, 2, none⟩ = some (.slice a3 n3 c3) ∧ W'.cell? ⟨w1.heap.size, 0, none⟩ = some (.bool ng1) ∧ W'.cell? ⟨w1.heap.size, 1, none⟩ = some (.slice a1_ n1_ c1_) ∧ W'.cell? ⟨w1.heap.size, 2, none⟩ = some (.slice p1_ m1_ k1_) ∧ W'.cell? ⟨w2.heap.size, 0, none⟩ = some (.bool ng2) ∧ W'.cell? ⟨w2.heap.size, 1, none⟩ = some (.slice a2_ n2_ c2_) ∧ W'.cell? ⟨w2.heap.size, 2, none⟩ = some (.slice p2_ m2_ k2_)) (first | (with_reducible exact ⟨x0_0, x0_1, x0_2, x1_0, x1_1, x1_2, x5_0, x5_1, x5_2, x6_0, x6_1, x6_2⟩) | (with_reducible exact ⟨cell_put (cell_put (cell_put (x0_0) (.inl nz0) _) (.inl nz0) _) (.inl nz0) _, cell_put (cell_put (cell_put (x0_1) (.inl nz0) _) (.inl nz0) _) (.inl nz0) _, cell_put (cell_put (cell_put (x0_2) (.inl nz0) _) (.inl nz0) _) (.inl nz0) _, cell_put (cell_put (cell_put (x1_0) (.inl nz1) _) (.inl nz1) _) (.inl nz1) _, cell_put (cell_put (cell_put (x1_1) (.inl nz1) _) (.inl nz1) _) (.inl nz1) _, cell_put (cell_put (cell_put (x1_2) (.inl nz1) _) (.inl nz1) _) (.inl nz1) _, cell_put (cell_put (cell_put (x5_0) (.inl nz5) _) (.inl nz5) _) (.inl nz5) _, cell_put (cell_put (cell_put (x5_1) (.inl nz5) _) (.inl nz5) _) (.inl nz5) _, cell_put (cell_put (cell_put (x5_2) (.inl nz5) _) (.inl nz5) _) (.inl nz5) _, cell_put (cell_put (cell_put (x6_0) (.inl nz6) _) (.inl nz6) _) (.inl nz6) _, cell_put (cell_put (cell_put (x6_1) (.inl nz6) _) (.inl nz6) _) (.inl nz6) _, cell_put (cell_put (cell_put (x6_2) (.inl nz6) _) (.inl nz6) _) (.inl nz6) _⟩) | exact ⟨x0_0, x0_1, x0_2, x1_0, x1_1, x1_2, x5_0, x5_1, x5_2, x6_0, x6_1, x6_2⟩) (first
    | (go_at_call 37; (with_reducible refine (ref8_lowest (!ng1 == ng2) _ _ _ _ _ g3.rd g4.rd K1.out K2.out q H8.out hs).mono ?_); rintro e w5 ⟨ng5, a5_, n5_, c5_, p5_, m5_, k5_, rfl, g5, hb5⟩; have g3 := g3.to hb5; have g4 := g4.to hb5; have gb := below_step gb hb5; obtain ⟨x0_0, x0_1, x0_2, x1_0, x1_1, x1_2, x2_0, x2_1, x2_2, x5_0, x5_1, x5_2, x6_0, x6_1, x6_2⟩ := HXW2.out _ gb; obtain ⟨y0_0, y0_1, y0_2, y1_0, y1_1, y1_2, y2_0, y2_1, y2_2, y5_0, y5_1, y5_2, y6_0, y6_1, y6_2⟩ := HYW2.out _ gb; obtain ⟨z0, z1, z2, z5, z6⟩ := HZW2.out _ gb)
    | (go_at_call 39; (with_reducible refine (ref3_mul _ _ _ _ _ (g1.to gb).isQ.dn (g2.to gb).isQ.dn (Nat.le_trans (g1.to gb).isQ.ldn (by omega)) (Nat.le_trans (g2.to gb).isQ.ldn (by omega))).mono ?_); rintro e w4 ⟨v4, rfl, g4, hb4⟩; obtain ⟨a4_, n4_, c4_, rfl, H4, hm4⟩ := g4.rd.open; have g3 := g3.to hb4; have gb := below_step gb hb4; obtain ⟨x0_0, x0_1, x0_2, x1_0, x1_1, x1_2, x2_0, x2_1, x2_2, x5_0, x5_1, x5_2, x6_0, x6_1, x6_2⟩ := HXW2.out _ gb; obtain ⟨y0_0, y0_1, y0_2, y1_0, y1_1, y1_2, y2_0, y2_1, y2_2, y5_0, y5_1, y5_2, y6_0, y6_1, y6_2⟩ := HYW2.out _ gb; obtain ⟨z0, z1, z2, z5, z6⟩ := HZW2.out _ gb)
    | (go_at_call 39; have gb := gb.drew; (with_reducible refine (ref3_mul _ _ _ _ _ (g1.to gb).isQ.up (g2.to gb).isQ.up (Nat.le_trans (g1.to gb).isQ.lup (by omega)) (Nat.le_trans (g2.to gb).isQ.lup (by omega))).mono ?_); rintro e w3 ⟨v3, rfl, g3, hb3⟩; obtain ⟨a3_, n3_, c3_, rfl, H3, hm3⟩ := g3.rd.open; have gb := below_step gb hb3; obtain ⟨x0_0, x0_1, x0_2, x1_0, x1_1, x1_2, x2_0, x2_1, x2_2, x5_0, x5_1, x5_2, x6_0, x6_1, x6_2⟩ := HXW2.out _ gb; obtain ⟨y0_0, y0_1, y0_2, y1_0, y1_1, y1_2, y2_0, y2_1, y2_2, y5_0, y5_1, y5_2, y6_0, y6_1, y6_2⟩ := HYW2.out _ gb; obtain ⟨z0, z1, z2, z5, z6⟩ := HZW2.out _ gb))
  go_wp2_with fail
  refine bodyPost_ret (results_R Tryz.results15 _ _ _ _ _ _ rfl (Tri.set (x0 := .bool false) (y0 := .slice none 0 0) (z0 := .slice none 0 0) ⟨x2_0, x2_1, x2_2, y2_0, y2_1, y2_2⟩ _ _ _)) rfl (finR (below_step zb gb) (by omega) ?_ g5)
  omega

end Go.Proofs.YtmjnlpanlgmdmaaGreat

