/-
  The texts VmRow, Vm8, Vm8b, merged.
-/
import Derived.Test.YtkjcdnlpjldhaaaGreatG18
import Derived.Deep.AppendLies
import Derived.Test.YtkjcdnlpjldhaaaGreatG10
import Derived.Deep.RegionHeld3
namespace Go.Proofs.YtkjcdnlpjldhaaaGreat
open Go.RowKit Tw
set_option linter.unusedVariables false
set_option linter.unusedSimpArgs false

def RowF (w : World) (g n : Nat) (F : Nat → Value) : Prop := g < w.heap.size ∧ ∀ i, i < n → w.cell? ⟨g, i, none⟩ = some (F i) ∧ w.frozen? ⟨g, i, none⟩ = false
section
variable {w w' : World} {g n : Nat} {F G : Nat → Value}

theorem RowF.lt (h : RowF w g n F) : g < w.heap.size := h.1

theorem RowF.to (h : RowF w g n F) (hb : Below w.heap.size w w') : RowF w' g n F :=
  ⟨Nat.lt_of_lt_of_le h.1 hb.size, fun i hi => ⟨(hb.cell (p := ⟨g, i, none⟩) h.1).trans (h.2 i hi).1, (hb.frozen (p := ⟨g, i, none⟩) h.1).trans (h.2 i hi).2⟩⟩

theorem RowF.drew (h : RowF w g n F) : RowF w.drew g n F := h.to (Below.refl _ _).drew

theorem RowF.alloc (h : RowF w g n F) (o : Obj) : RowF (w.alloc o) g n F := h.to (below_new _ _)

theorem RowF.cast (h : RowF w g n F) (e : ∀ i, i < n → F i = G i) : RowF w g n G := ⟨h.1, fun i hi => ⟨(h.2 i hi).1.trans (by rw [e i hi]), (h.2 i hi).2⟩⟩

theorem RowF.set (h : RowF w g n F) (i : Nat) (x : Value) : RowF (w.setCell ⟨g, i, none⟩ x) g n (fun j => if j = i then x else F j) := by
  refine ⟨by simpa using h.1, fun j hj => ⟨?_, by simp [go_sem, (h.2 j hj).2]⟩⟩
  by_cases e : j = i
  · subst e; show _ = some (if j = j then x else F j); rw [if_pos rfl]; exact cell_same (h.2 j hj).1 x
  · show _ = some (if j = i then x else F j); rw [if_neg e]; exact cell_put (h.2 j hj).1 (.inr e) x

theorem RowF.other (h : RowF w g n F) {b : Nat} (hb : g ≠ b) (o : Nat) (x : Value) : RowF (w.setCell ⟨b, o, none⟩ x) g n F :=
  ⟨by simpa using h.1, fun j hj => ⟨cell_put (h.2 j hj).1 (.inl hb) x, by simp [go_sem, (h.2 j hj).2]⟩⟩

end

theorem wp_makeF (w : World) {ops : Array Oper} {rest : List Oper} {o : Oper} {a : Act} {Q : Exit → Act → World → Prop} (hg : o.guard = none)
    (l c : Operand) (t e : TypeId) (hop : o.op = Op.makeSlice t l c) (hu : Tryz.prog.underlying t = some (.slice e)) (z : Value) (k bytes : Nat)
    (hi : (Tryz.prog.info? e).map (fun i => (i.zero, i.size, i.bytes)) = some (some z, k, bytes)) (hk : z.cells.size = k) (hB : bytes ≤ 100)
    (kl kc : IntKind) (L C : Int) (n : Nat) (hl : a.eval l = Value.int kl L) (hc : a.eval c = Value.int kc C) (hL : L = ↑n) (hC : C = ↑n) (hn : n ≤ 1000000)
    (hK : ∀ w', RowF w' w.heap.size (n * k) (fun j => z.cells[j % k]!) → Below w.heap.size w w' →
      wpList Tryz.prog ops Q rest (a.put o.dst (.slice (some ⟨w.heap.size, 0, none⟩) n n)) w') :
    wpList Tryz.prog ops Q (o :: rest) a w := by
  obtain ⟨i0, hi0, hz0, hz1, hz2⟩ := info_parts hi
  refine wpList_make_full w hg l c t hop w.heap.size e i0 z k hu hi0 hz0 hz1 kl kc L C n hl hc hL hC ?_ (by simp [maxLen]; omega) (Nat.le_refl _) ?_
  · rw [hz2]; exact Nat.le_trans (Nat.mul_le_mul hB hn) (by omega)
  intro w' hown hgrow
  have hb : Below w.heap.size w w' := (Below.refl _ _).grown hgrow (Nat.le_refl _) (fun k hk => by cases hk)
  refine hK w' ⟨(hown.lt w.heap.size rfl).2, fun j hj => ⟨?_, World.ownsRow.frozenAt hown j⟩⟩ hb
  rw [World.ownsRow.cellAt hown j hj]
  simp [madeCells, hj, hk]

def OwnV (e : TypeId) (base : Nat) (w : World) (v : Value) (xs : List Value) : Prop := w.ownsRow base e 1 v xs.length xs
section
variable {e : TypeId} {base : Nat} {w w' : World} {v : Value} {xs : List Value}

theorem OwnV.nil (e : TypeId) (base : Nat) (w : World) : OwnV e base w (.slice none 0 0) [] := World.ownsRow_nil w base e 1

theorem OwnV.lt (h : OwnV e base w v xs) : ∀ k, v.ownBlock = some k → base ≤ k ∧ k < w.heap.size := World.ownsRow.lt h

theorem OwnV.to (h : OwnV e base w v xs) (hb : Below w.heap.size w w') : OwnV e base w' v xs := by
  refine ⟨h.1, ?_⟩
  rcases h.2 with h2 | ⟨g, cap, cur, hv, hg, hh, r⟩
  · exact .inl h2
  · refine .inr ⟨g, cap, cur, hv, hg, ?_, r⟩
    have hlt : g < w.heap.size := by
      rcases Nat.lt_or_ge g w.heap.size with h | h
      · exact h
      · rw [Array.getElem?_eq_none h] at hh; cases hh
    rw [hb.block g hlt]; exact hh

theorem OwnV.alloc (h : OwnV e base w v xs) (o : Obj) : OwnV e base (w.alloc o) v xs := h.to (below_new _ _)

theorem OwnV.drew (h : OwnV e base w v xs) : OwnV e base w.drew v xs := h.to (Below.refl _ _).drew

theorem OwnV.open (h : OwnV e base w v xs) : ∃ a cap, v = .slice a xs.length cap ∧ xs.length ≤ maxLen ∧
    ∀ i, i < xs.length → ∃ b, a = some ⟨b, 0, none⟩ ∧ w.cell? ⟨b, i, none⟩ = xs[i]? ∧ base ≤ b := by
  rcases h.2 with ⟨hv, h0⟩ | ⟨g, cap, cur, hv, hg, hh, hn, hm, hs, hx⟩
  · exact ⟨none, 0, by rw [hv, h0], by rw [h0]; simp, fun i hi => absurd hi (by omega)⟩
  · subst hv
    exact ⟨_, cap, rfl, by omega, fun i hi => ⟨g, rfl, World.ownsRow.cellAt h i (by omega), hg⟩⟩

end

theorem wp_appendV (w : World) {ops : Array Oper} {rest : List Oper} {o : Oper} {a : Act} {Q : Exit → Act → World → Prop} (hg : o.guard = none)
    (s x : Operand) (t e : TypeId) (ho : o.op = Op.call { callee := Callee.builtin Builtin.append, args := #[s, x], argTypes := #[t, t] })
    (hu : Tryz.prog.underlying t = some (.slice e)) (z : Value) (bytes : Nat) (hi : (Tryz.prog.info? e).map (fun i => (i.zero, i.size, i.bytes)) = some (some z, 1, bytes)) (hz : z.cells.size = 1) (hB : bytes ≤ 100)
    (base : Nat) (v : Value) (xs : List Value) (u : Value) (b c : Nat) (hs : a.eval s = v) (hx : a.eval x = .slice (some ⟨b, 0, none⟩) 1 c) (hown : OwnV e base w v xs) (hu1 : w.cell? ⟨b, 0, none⟩ = some u) (h1 : u.oneCell' = true) (hbase : base ≤ w.heap.size)
    (hn : xs.length ≤ 1000000)
    (hK : ∀ v' w', OwnV e base w' v' (xs ++ [u]) → Below base w w' → wpList Tryz.prog ops Q rest (a.put o.dst v') w') :
    wpList Tryz.prog ops Q (o :: rest) a w := by
  obtain ⟨i0, hi0, hz0, hz1, hz2⟩ := info_parts hi
  refine wpList_append_own w hg s x t ho base e i0 z 1 bytes hu hi0 hz0 hz1 hz2 hz (by decide) v xs.length xs hs hown ⟨b, 0, none⟩ 1 c [u] hx rfl ?_ ?_ (by simp [maxLen]; omega) ?_ hbase ?_
  · intro j q hj
    rcases j with _ | j
    · simp only [List.getElem?_cons_zero, Option.some.injEq] at hj
      subst hj; exact hu1
    · simp at hj
  · intro q hq; rw [List.mem_singleton.1 hq]; exact h1
  · exact Nat.le_trans (Nat.mul_le_mul (show xs.length + 1 ≤ 1000001 by omega) hB) (by omega)
  · intro v' w' ho' hg' _
    refine hK v' w' ?_ ((Below.refl _ _).grown hg' hbase (fun k hk => (hown.lt k hk).1))
    have : (xs ++ [u]).length = xs.length + 1 := by simp
    unfold OwnV; rw [this]; exact ho'

end Go.Proofs.YtkjcdnlpjldhaaaGreat


namespace Go.Proofs.YtkjcdnlpjldhaaaGreat
open Go.RowKit Tw
set_option linter.unusedVariables false
set_option linter.unusedSimpArgs false
attribute [local go_sem ↓] Go.wp_at_zero Go.wp_at_succ

def Mach (w : World) (B g N : Nat) (u vJ : Value) (rows cols : Int) : Prop :=
  w.cell? ⟨B, 0, none⟩ = some u ∧ w.cell? ⟨B, 1, none⟩ = some (.slice (some ⟨g, 0, none⟩) N N) ∧ w.cell? ⟨B, 2, none⟩ = some (.int .i64 rows) ∧ w.cell? ⟨B, 3, none⟩ = some (.int .i64 cols) ∧ w.cell? ⟨B, 4, none⟩ = some vJ

theorem Mach.lt {w : World} {B g N : Nat} {u vJ : Value} {rows cols : Int} (h : Mach w B g N u vJ rows cols) : B < w.heap.size := block_lt h.1

theorem Mach.to {w w' : World} {B g N : Nat} {u vJ : Value} {rows cols : Int} (h : Mach w B g N u vJ rows cols) (hb : Below w.heap.size w w') : Mach w' B g N u vJ rows cols :=
  ⟨(hb.cell (p := ⟨B, 0, none⟩) h.lt).trans h.1, (hb.cell (p := ⟨B, 1, none⟩) h.lt).trans h.2.1, (hb.cell (p := ⟨B, 2, none⟩) h.lt).trans h.2.2.1, (hb.cell (p := ⟨B, 3, none⟩) h.lt).trans h.2.2.2.1, (hb.cell (p := ⟨B, 4, none⟩) h.lt).trans h.2.2.2.2⟩

def Tri3 (w : World) (b o : Nat) (x y z : Value) : Prop := w.cell? ⟨b, o, none⟩ = some x ∧ w.cell? ⟨b, o + 1, none⟩ = some y ∧ w.cell? ⟨b, o + 2, none⟩ = some z

theorem Tri3.lt {w : World} {b o : Nat} {x y z : Value} (h : Tri3 w b o x y z) : b < w.heap.size := block_lt h.1

theorem Tri3.to {w w' : World} {b o : Nat} {x y z : Value} (h : Tri3 w b o x y z) (hb : Below w.heap.size w w') : Tri3 w' b o x y z :=
  ⟨(hb.cell (p := ⟨b, o, none⟩) h.lt).trans h.1, (hb.cell (p := ⟨b, o + 1, none⟩) h.lt).trans h.2.1, (hb.cell (p := ⟨b, o + 2, none⟩) h.lt).trans h.2.2⟩

set_option maxRecDepth 100000 in
set_option maxHeartbeats 20000000 in
theorem mach_add (mB g N : Nat) (u vJ : Value) (rows cols : Int) (op to : Int) (ng : Bool) (vn vd : Value) (lw1 lw2 : List Nat) (R1 : Nat) (nr1 : Bool) (vr1 ur1 : Value) (lr1 kr1 : List Nat) (R2 : Nat) (nr2 : Bool) (vr2 ur2 : Value) (lr2 kr2 : List Nat) {x y : Rat}  (w : World) (hw : IsF w vn vd lw1 lw2) (hm : Mach w mB g N u vJ rows cols) (hN : N ≤ 100000) (hr1 : R1 < N) (tr1 : Tri3 w g (R1 * 3) (.bool nr1) vr1 ur1) (qr1 : IsQ w nr1 vr1 ur1 lr1 kr1 x) (hr2 : R2 < N) (tr2 : Tri3 w g (R2 * 3) (.bool nr2) vr2 ur2) (qr2 : IsQ w nr2 vr2 ur2 lr2 kr2 y) (q : Rat) (hq : x + y = q) (hs : Hid (szq q ≤ 1000))  :
    Calls Tryz.prog 93 #[.pointer (some ⟨mB, 0, none⟩), .agg #[.int .i64 op, .int .i64 to, .int .i64 (R1 : Int), .int .i64 (R2 : Int), .bool ng, vn, vd]] w (GivesQK w q) := by
  have Hq := Lib.hid hq
  clear hq
  obtain ⟨a0, n0, c0, rfl, H0, hm0⟩ := hw.1.open
  obtain ⟨a1, n1, c1, rfl, H1, hm1⟩ := hw.2.open
  obtain ⟨ra1, rn1, rc1, rfl, RH1, rm1⟩ := qr1.1.open
  obtain ⟨sa1, sn1, sc1, rfl, SH1, sm1⟩ := qr1.2.1.open
  have ri1 : (R1 : Int) < (N : Int) := by omega
  obtain ⟨ra2, rn2, rc2, rfl, RH2, rm2⟩ := qr2.1.open
  obtain ⟨sa2, sn2, sc2, rfl, SH2, sm2⟩ := qr2.2.1.open
  have ri2 : (R2 : Int) < (N : Int) := by omega
  have lm := hm.lt
  have lt1 := tr1.lt
  have lt2 := tr2.lt
  go_enter Tryz.func93, Tryz.ntmps93
  go_wp2_with fail
  obtain ⟨W0, hW0⟩ : ∃ W0, (w.alloc (.cells #[.int .i64 op, .int .i64 to, .int .i64 (R1 : Int), .int .i64 (R2 : Int), .bool ng, .slice a0 n0 c0, .slice a1 n1 c1] 49)).alloc (.cells #[.bool false, .slice none 0 0, .slice none 0 0] 47) = W0 := ⟨_, rfl⟩
  have HXW0 := Lib.hid (show ∀ W', Below W0.heap.size W0 W' → (Bx7 W' w.heap.size (.int .i64 op) (.int .i64 to) (.int .i64 (R1 : Int)) (.int .i64 (R2 : Int)) (.bool ng) (.slice a0 n0 c0) (.slice a1 n1 c1) ∧ Bx3 W' (w.heap.size + 1) (.bool false) (.slice none 0 0) (.slice none 0 0)) from fun W' hb => by
      refine ⟨bx7 hb ?_ ?_ ?_ ?_ ?_ ?_ ?_ ?_ ?_ ?_ ?_ ?_ ?_ ?_, bx3 hb ?_ ?_ ?_ ?_ ?_ ?_⟩
      all_goals first | assumption | (rw [← hW0]; simp [go_sem]))
  have zb : Below w.heap.size w W0 := by rw [← hW0]; exact below_step (below_new _ _) (below_new _ _)
  rw [hW0]
  clear hW0
  have i0 := hw.to zb
  have i1 := hm.to zb
  have i2 := tr1.to zb
  have i3 := tr2.to zb
  have i4 := qr1.to zb
  have i5 := qr2.to zb
  have gb : Below W0.heap.size W0 W0 := Below.refl _ _
  obtain ⟨⟨z0, x0_0, x0_1, x0_2, x0_3, x0_4, x0_5, x0_6, y0_0, y0_1, y0_2, y0_3, y0_4, y0_5, y0_6⟩, ⟨z1, x1_0, x1_1, x1_2, y1_0, y1_1, y1_2⟩⟩ := HXW0.out _ gb
  obtain ⟨e0, e1, e2, e3, e4⟩ := (i1.to gb)
  obtain ⟨t10, t11, t12⟩ := (i2.to gb)
  obtain ⟨t20, t21, t22⟩ := (i3.to gb)
  go_wp2_with fail
  have nzx_e0 : mB ≠ w.heap.size + 1 := by omega
  have nzx_e1 : mB ≠ w.heap.size + 1 := by omega
  have nzx_t10 : g ≠ w.heap.size + 1 := by omega
  have nzx_t11 : g ≠ w.heap.size + 1 := by omega
  have nzx_t12 : g ≠ w.heap.size + 1 := by omega
  have nzx_t20 : g ≠ w.heap.size + 1 := by omega
  have nzx_t21 : g ≠ w.heap.size + 1 := by omega
  have nzx_t22 : g ≠ w.heap.size + 1 := by omega
  have nz0 : w.heap.size ≠ w.heap.size + 1 := by omega
  go_region_held3 (fun W' => W'.cell? ⟨w.heap.size, 0, none⟩ = some (.int .i64 op) ∧ W'.cell? ⟨w.heap.size, 1, none⟩ = some (.int .i64 to) ∧ W'.cell? ⟨w.heap.size, 2, none⟩ = some (.int .i64 (R1 : Int)) ∧ W'.cell? ⟨w.heap.size, 3, none⟩ = some (.int .i64 (R2 : Int)) ∧ W'.cell? ⟨w.heap.size, 4, none⟩ = some (.bool ng) ∧ W'.cell? ⟨w.heap.size, 5, none⟩ = some (.slice a0 n0 c0) ∧ W'.cell? ⟨w.heap.size, 6, none⟩ = some (.slice a1 n1 c1) ∧ W'.cell? ⟨mB, 0, none⟩ = some (u) ∧ W'.cell? ⟨mB, 1, none⟩ = some (.slice (some ⟨g, 0, none⟩) N N) ∧ W'.cell? ⟨g, R1 * 3, none⟩ = some (.bool nr1) ∧ W'.cell? ⟨g, R1 * 3 + 1, none⟩ = some (.slice ra1 rn1 rc1) ∧ W'.cell? ⟨g, R1 * 3 + 2, none⟩ = some (.slice sa1 sn1 sc1) ∧ W'.cell? ⟨g, R2 * 3, none⟩ = some (.bool nr2) ∧ W'.cell? ⟨g, R2 * 3 + 1, none⟩ = some (.slice ra2 rn2 rc2) ∧ W'.cell? ⟨g, R2 * 3 + 2, none⟩ = some (.slice sa2 sn2 sc2)) (first | (with_reducible exact ⟨x0_0, x0_1, x0_2, x0_3, x0_4, x0_5, x0_6, e0, e1, t10, t11, t12, t20, t21, t22⟩) | (with_reducible exact ⟨cell_put (cell_put (cell_put (x0_0) (.inl nz0) _) (.inl nz0) _) (.inl nz0) _, cell_put (cell_put (cell_put (x0_1) (.inl nz0) _) (.inl nz0) _) (.inl nz0) _, cell_put (cell_put (cell_put (x0_2) (.inl nz0) _) (.inl nz0) _) (.inl nz0) _, cell_put (cell_put (cell_put (x0_3) (.inl nz0) _) (.inl nz0) _) (.inl nz0) _, cell_put (cell_put (cell_put (x0_4) (.inl nz0) _) (.inl nz0) _) (.inl nz0) _, cell_put (cell_put (cell_put (x0_5) (.inl nz0) _) (.inl nz0) _) (.inl nz0) _, cell_put (cell_put (cell_put (x0_6) (.inl nz0) _) (.inl nz0) _) (.inl nz0) _, cell_put (cell_put (cell_put (e0) (.inl nzx_e0) _) (.inl nzx_e0) _) (.inl nzx_e0) _, cell_put (cell_put (cell_put (e1) (.inl nzx_e1) _) (.inl nzx_e1) _) (.inl nzx_e1) _, cell_put (cell_put (cell_put (t10) (.inl nzx_t10) _) (.inl nzx_t10) _) (.inl nzx_t10) _, cell_put (cell_put (cell_put (t11) (.inl nzx_t11) _) (.inl nzx_t11) _) (.inl nzx_t11) _, cell_put (cell_put (cell_put (t12) (.inl nzx_t12) _) (.inl nzx_t12) _) (.inl nzx_t12) _, cell_put (cell_put (cell_put (t20) (.inl nzx_t20) _) (.inl nzx_t20) _) (.inl nzx_t20) _, cell_put (cell_put (cell_put (t21) (.inl nzx_t21) _) (.inl nzx_t21) _) (.inl nzx_t21) _, cell_put (cell_put (cell_put (t22) (.inl nzx_t22) _) (.inl nzx_t22) _) (.inl nzx_t22) _⟩) | exact ⟨x0_0, x0_1, x0_2, x0_3, x0_4, x0_5, x0_6, e0, e1, t10, t11, t12, t20, t21, t22⟩) (first
    | (go_at_call 117; have gb := gb.drew; (with_reducible refine (ratio_add nr1 _ _ lr1 kr1 nr2 _ _ lr2 kr2 _ (i4.to gb) (i5.to gb) q Hq.out hs).mono ?_); rintro e w1 ⟨ng1, a1_, n1_, c1_, p1_, m1_, k1_, rfl, g1, hb1⟩; have gb := below_step gb hb1; obtain ⟨⟨z0, x0_0, x0_1, x0_2, x0_3, x0_4, x0_5, x0_6, y0_0, y0_1, y0_2, y0_3, y0_4, y0_5, y0_6⟩, ⟨z1, x1_0, x1_1, x1_2, y1_0, y1_1, y1_2⟩⟩ := HXW0.out _ gb; obtain ⟨e0, e1, e2, e3, e4⟩ := (i1.to gb); obtain ⟨t10, t11, t12⟩ := (i2.to gb); obtain ⟨t20, t21, t22⟩ := (i3.to gb)))
  go_wp2_with fail
  refine bodyPost_ret (results_Rt Tryz.results93 _ _ _ _ _ _ rfl (Tri.set (x0 := .bool false) (y0 := .slice none 0 0) (z0 := .slice none 0 0) ⟨x1_0, x1_1, x1_2, y1_0, y1_1, y1_2⟩ _ _ _)) rfl (finRK (below_step zb gb) (by omega) ?_ g1)
  first | omega | (simp; omega)

set_option maxRecDepth 100000 in
set_option maxHeartbeats 20000000 in
theorem mach_sub (mB g N : Nat) (u vJ : Value) (rows cols : Int) (op to : Int) (ng : Bool) (vn vd : Value) (lw1 lw2 : List Nat) (R1 : Nat) (nr1 : Bool) (vr1 ur1 : Value) (lr1 kr1 : List Nat) (R2 : Nat) (nr2 : Bool) (vr2 ur2 : Value) (lr2 kr2 : List Nat) {x y : Rat}  (w : World) (hw : IsF w vn vd lw1 lw2) (hm : Mach w mB g N u vJ rows cols) (hN : N ≤ 100000) (hr1 : R1 < N) (tr1 : Tri3 w g (R1 * 3) (.bool nr1) vr1 ur1) (qr1 : IsQ w nr1 vr1 ur1 lr1 kr1 x) (hr2 : R2 < N) (tr2 : Tri3 w g (R2 * 3) (.bool nr2) vr2 ur2) (qr2 : IsQ w nr2 vr2 ur2 lr2 kr2 y) (q : Rat) (hq : x - y = q) (hs : Hid (szq q ≤ 1000))  :
    Calls Tryz.prog 94 #[.pointer (some ⟨mB, 0, none⟩), .agg #[.int .i64 op, .int .i64 to, .int .i64 (R1 : Int), .int .i64 (R2 : Int), .bool ng, vn, vd]] w (GivesQK w q) := by
  have Hq := Lib.hid hq
  clear hq
  obtain ⟨a0, n0, c0, rfl, H0, hm0⟩ := hw.1.open
  obtain ⟨a1, n1, c1, rfl, H1, hm1⟩ := hw.2.open
  obtain ⟨ra1, rn1, rc1, rfl, RH1, rm1⟩ := qr1.1.open
  obtain ⟨sa1, sn1, sc1, rfl, SH1, sm1⟩ := qr1.2.1.open
  have ri1 : (R1 : Int) < (N : Int) := by omega
  obtain ⟨ra2, rn2, rc2, rfl, RH2, rm2⟩ := qr2.1.open
  obtain ⟨sa2, sn2, sc2, rfl, SH2, sm2⟩ := qr2.2.1.open
  have ri2 : (R2 : Int) < (N : Int) := by omega
  have lm := hm.lt
  have lt1 := tr1.lt
  have lt2 := tr2.lt
  go_enter Tryz.func94, Tryz.ntmps94
  go_wp2_with fail
  obtain ⟨W0, hW0⟩ : ∃ W0, (w.alloc (.cells #[.int .i64 op, .int .i64 to, .int .i64 (R1 : Int), .int .i64 (R2 : Int), .bool ng, .slice a0 n0 c0, .slice a1 n1 c1] 49)).alloc (.cells #[.bool false, .slice none 0 0, .slice none 0 0] 47) = W0 := ⟨_, rfl⟩
  have HXW0 := Lib.hid (show ∀ W', Below W0.heap.size W0 W' → (Bx7 W' w.heap.size (.int .i64 op) (.int .i64 to) (.int .i64 (R1 : Int)) (.int .i64 (R2 : Int)) (.bool ng) (.slice a0 n0 c0) (.slice a1 n1 c1) ∧ Bx3 W' (w.heap.size + 1) (.bool false) (.slice none 0 0) (.slice none 0 0)) from fun W' hb => by
      refine ⟨bx7 hb ?_ ?_ ?_ ?_ ?_ ?_ ?_ ?_ ?_ ?_ ?_ ?_ ?_ ?_, bx3 hb ?_ ?_ ?_ ?_ ?_ ?_⟩
      all_goals first | assumption | (rw [← hW0]; simp [go_sem]))
  have zb : Below w.heap.size w W0 := by rw [← hW0]; exact below_step (below_new _ _) (below_new _ _)
  rw [hW0]
  clear hW0
  have i0 := hw.to zb
  have i1 := hm.to zb
  have i2 := tr1.to zb
  have i3 := tr2.to zb
  have i4 := qr1.to zb
  have i5 := qr2.to zb
  have gb : Below W0.heap.size W0 W0 := Below.refl _ _
  obtain ⟨⟨z0, x0_0, x0_1, x0_2, x0_3, x0_4, x0_5, x0_6, y0_0, y0_1, y0_2, y0_3, y0_4, y0_5, y0_6⟩, ⟨z1, x1_0, x1_1, x1_2, y1_0, y1_1, y1_2⟩⟩ := HXW0.out _ gb
  obtain ⟨e0, e1, e2, e3, e4⟩ := (i1.to gb)
  obtain ⟨t10, t11, t12⟩ := (i2.to gb)
  obtain ⟨t20, t21, t22⟩ := (i3.to gb)
  go_wp2_with fail
  have nzx_e0 : mB ≠ w.heap.size + 1 := by omega
  have nzx_e1 : mB ≠ w.heap.size + 1 := by omega
  have nzx_t10 : g ≠ w.heap.size + 1 := by omega
  have nzx_t11 : g ≠ w.heap.size + 1 := by omega
  have nzx_t12 : g ≠ w.heap.size + 1 := by omega
  have nzx_t20 : g ≠ w.heap.size + 1 := by omega
  have nzx_t21 : g ≠ w.heap.size + 1 := by omega
  have nzx_t22 : g ≠ w.heap.size + 1 := by omega
  have nz0 : w.heap.size ≠ w.heap.size + 1 := by omega
  go_region_held3 (fun W' => W'.cell? ⟨w.heap.size, 0, none⟩ = some (.int .i64 op) ∧ W'.cell? ⟨w.heap.size, 1, none⟩ = some (.int .i64 to) ∧ W'.cell? ⟨w.heap.size, 2, none⟩ = some (.int .i64 (R1 : Int)) ∧ W'.cell? ⟨w.heap.size, 3, none⟩ = some (.int .i64 (R2 : Int)) ∧ W'.cell? ⟨w.heap.size, 4, none⟩ = some (.bool ng) ∧ W'.cell? ⟨w.heap.size, 5, none⟩ = some (.slice a0 n0 c0) ∧ W'.cell? ⟨w.heap.size, 6, none⟩ = some (.slice a1 n1 c1) ∧ W'.cell? ⟨mB, 0, none⟩ = some (u) ∧ W'.cell? ⟨mB, 1, none⟩ = some (.slice (some ⟨g, 0, none⟩) N N) ∧ W'.cell? ⟨g, R1 * 3, none⟩ = some (.bool nr1) ∧ W'.cell? ⟨g, R1 * 3 + 1, none⟩ = some (.slice ra1 rn1 rc1) ∧ W'.cell? ⟨g, R1 * 3 + 2, none⟩ = some (.slice sa1 sn1 sc1) ∧ W'.cell? ⟨g, R2 * 3, none⟩ = some (.bool nr2) ∧ W'.cell? ⟨g, R2 * 3 + 1, none⟩ = some (.slice ra2 rn2 rc2) ∧ W'.cell? ⟨g, R2 * 3 + 2, none⟩ = some (.slice sa2 sn2 sc2)) (first | (with_reducible exact ⟨x0_0, x0_1, x0_2, x0_3, x0_4, x0_5, x0_6, e0, e1, t10, t11, t12, t20, t21, t22⟩) | (with_reducible exact ⟨cell_put (cell_put (cell_put (x0_0) (.inl nz0) _) (.inl nz0) _) (.inl nz0) _, cell_put (cell_put (cell_put (x0_1) (.inl nz0) _) (.inl nz0) _) (.inl nz0) _, cell_put (cell_put (cell_put (x0_2) (.inl nz0) _) (.inl nz0) _) (.inl nz0) _, cell_put (cell_put (cell_put (x0_3) (.inl nz0) _) (.inl nz0) _) (.inl nz0) _, cell_put (cell_put (cell_put (x0_4) (.inl nz0) _) (.inl nz0) _) (.inl nz0) _, cell_put (cell_put (cell_put (x0_5) (.inl nz0) _) (.inl nz0) _) (.inl nz0) _, cell_put (cell_put (cell_put (x0_6) (.inl nz0) _) (.inl nz0) _) (.inl nz0) _, cell_put (cell_put (cell_put (e0) (.inl nzx_e0) _) (.inl nzx_e0) _) (.inl nzx_e0) _, cell_put (cell_put (cell_put (e1) (.inl nzx_e1) _) (.inl nzx_e1) _) (.inl nzx_e1) _, cell_put (cell_put (cell_put (t10) (.inl nzx_t10) _) (.inl nzx_t10) _) (.inl nzx_t10) _, cell_put (cell_put (cell_put (t11) (.inl nzx_t11) _) (.inl nzx_t11) _) (.inl nzx_t11) _, cell_put (cell_put (cell_put (t12) (.inl nzx_t12) _) (.inl nzx_t12) _) (.inl nzx_t12) _, cell_put (cell_put (cell_put (t20) (.inl nzx_t20) _) (.inl nzx_t20) _) (.inl nzx_t20) _, cell_put (cell_put (cell_put (t21) (.inl nzx_t21) _) (.inl nzx_t21) _) (.inl nzx_t21) _, cell_put (cell_put (cell_put (t22) (.inl nzx_t22) _) (.inl nzx_t22) _) (.inl nzx_t22) _⟩) | exact ⟨x0_0, x0_1, x0_2, x0_3, x0_4, x0_5, x0_6, e0, e1, t10, t11, t12, t20, t21, t22⟩) (first
    | (go_at_call 118; have gb := gb.drew; (with_reducible refine (ratio_sub nr1 _ _ lr1 kr1 nr2 _ _ lr2 kr2 _ (i4.to gb) (i5.to gb) q Hq.out hs).mono ?_); rintro e w1 ⟨ng1, a1_, n1_, c1_, p1_, m1_, k1_, rfl, g1, hb1⟩; have gb := below_step gb hb1; obtain ⟨⟨z0, x0_0, x0_1, x0_2, x0_3, x0_4, x0_5, x0_6, y0_0, y0_1, y0_2, y0_3, y0_4, y0_5, y0_6⟩, ⟨z1, x1_0, x1_1, x1_2, y1_0, y1_1, y1_2⟩⟩ := HXW0.out _ gb; obtain ⟨e0, e1, e2, e3, e4⟩ := (i1.to gb); obtain ⟨t10, t11, t12⟩ := (i2.to gb); obtain ⟨t20, t21, t22⟩ := (i3.to gb)))
  go_wp2_with fail
  refine bodyPost_ret (results_Rt Tryz.results94 _ _ _ _ _ _ rfl (Tri.set (x0 := .bool false) (y0 := .slice none 0 0) (z0 := .slice none 0 0) ⟨x1_0, x1_1, x1_2, y1_0, y1_1, y1_2⟩ _ _ _)) rfl (finRK (below_step zb gb) (by omega) ?_ g1)
  first | omega | (simp; omega)

set_option maxRecDepth 100000 in
set_option maxHeartbeats 20000000 in
theorem mach_mul (mB g N : Nat) (u vJ : Value) (rows cols : Int) (op to : Int) (ng : Bool) (vn vd : Value) (lw1 lw2 : List Nat) (R1 : Nat) (nr1 : Bool) (vr1 ur1 : Value) (lr1 kr1 : List Nat) (R2 : Nat) (nr2 : Bool) (vr2 ur2 : Value) (lr2 kr2 : List Nat) {x y : Rat}  (w : World) (hw : IsF w vn vd lw1 lw2) (hm : Mach w mB g N u vJ rows cols) (hN : N ≤ 100000) (hr1 : R1 < N) (tr1 : Tri3 w g (R1 * 3) (.bool nr1) vr1 ur1) (qr1 : IsQ w nr1 vr1 ur1 lr1 kr1 x) (hr2 : R2 < N) (tr2 : Tri3 w g (R2 * 3) (.bool nr2) vr2 ur2) (qr2 : IsQ w nr2 vr2 ur2 lr2 kr2 y) (q : Rat) (hq : x * y = q) (hs : Hid (szq q ≤ 1000))  :
    Calls Tryz.prog 95 #[.pointer (some ⟨mB, 0, none⟩), .agg #[.int .i64 op, .int .i64 to, .int .i64 (R1 : Int), .int .i64 (R2 : Int), .bool ng, vn, vd]] w (GivesQK w q) := by
  have Hq := Lib.hid hq
  clear hq
  obtain ⟨a0, n0, c0, rfl, H0, hm0⟩ := hw.1.open
  obtain ⟨a1, n1, c1, rfl, H1, hm1⟩ := hw.2.open
  obtain ⟨ra1, rn1, rc1, rfl, RH1, rm1⟩ := qr1.1.open
  obtain ⟨sa1, sn1, sc1, rfl, SH1, sm1⟩ := qr1.2.1.open
  have ri1 : (R1 : Int) < (N : Int) := by omega
  obtain ⟨ra2, rn2, rc2, rfl, RH2, rm2⟩ := qr2.1.open
  obtain ⟨sa2, sn2, sc2, rfl, SH2, sm2⟩ := qr2.2.1.open
  have ri2 : (R2 : Int) < (N : Int) := by omega
  have lm := hm.lt
  have lt1 := tr1.lt
  have lt2 := tr2.lt
  go_enter Tryz.func95, Tryz.ntmps95
  go_wp2_with fail
  obtain ⟨W0, hW0⟩ : ∃ W0, (w.alloc (.cells #[.int .i64 op, .int .i64 to, .int .i64 (R1 : Int), .int .i64 (R2 : Int), .bool ng, .slice a0 n0 c0, .slice a1 n1 c1] 49)).alloc (.cells #[.bool false, .slice none 0 0, .slice none 0 0] 47) = W0 := ⟨_, rfl⟩
  have HXW0 := Lib.hid (show ∀ W', Below W0.heap.size W0 W' → (Bx7 W' w.heap.size (.int .i64 op) (.int .i64 to) (.int .i64 (R1 : Int)) (.int .i64 (R2 : Int)) (.bool ng) (.slice a0 n0 c0) (.slice a1 n1 c1) ∧ Bx3 W' (w.heap.size + 1) (.bool false) (.slice none 0 0) (.slice none 0 0)) from fun W' hb => by
      refine ⟨bx7 hb ?_ ?_ ?_ ?_ ?_ ?_ ?_ ?_ ?_ ?_ ?_ ?_ ?_ ?_, bx3 hb ?_ ?_ ?_ ?_ ?_ ?_⟩
      all_goals first | assumption | (rw [← hW0]; simp [go_sem]))
  have zb : Below w.heap.size w W0 := by rw [← hW0]; exact below_step (below_new _ _) (below_new _ _)
  rw [hW0]
  clear hW0
  have i0 := hw.to zb
  have i1 := hm.to zb
  have i2 := tr1.to zb
  have i3 := tr2.to zb
  have i4 := qr1.to zb
  have i5 := qr2.to zb
  have gb : Below W0.heap.size W0 W0 := Below.refl _ _
  obtain ⟨⟨z0, x0_0, x0_1, x0_2, x0_3, x0_4, x0_5, x0_6, y0_0, y0_1, y0_2, y0_3, y0_4, y0_5, y0_6⟩, ⟨z1, x1_0, x1_1, x1_2, y1_0, y1_1, y1_2⟩⟩ := HXW0.out _ gb
  obtain ⟨e0, e1, e2, e3, e4⟩ := (i1.to gb)
  obtain ⟨t10, t11, t12⟩ := (i2.to gb)
  obtain ⟨t20, t21, t22⟩ := (i3.to gb)
  go_wp2_with fail
  have nzx_e0 : mB ≠ w.heap.size + 1 := by omega
  have nzx_e1 : mB ≠ w.heap.size + 1 := by omega
  have nzx_t10 : g ≠ w.heap.size + 1 := by omega
  have nzx_t11 : g ≠ w.heap.size + 1 := by omega
  have nzx_t12 : g ≠ w.heap.size + 1 := by omega
  have nzx_t20 : g ≠ w.heap.size + 1 := by omega
  have nzx_t21 : g ≠ w.heap.size + 1 := by omega
  have nzx_t22 : g ≠ w.heap.size + 1 := by omega
  have nz0 : w.heap.size ≠ w.heap.size + 1 := by omega
  go_region_held3 (fun W' => W'.cell? ⟨w.heap.size, 0, none⟩ = some (.int .i64 op) ∧ W'.cell? ⟨w.heap.size, 1, none⟩ = some (.int .i64 to) ∧ W'.cell? ⟨w.heap.size, 2, none⟩ = some (.int .i64 (R1 : Int)) ∧ W'.cell? ⟨w.heap.size, 3, none⟩ = some (.int .i64 (R2 : Int)) ∧ W'.cell? ⟨w.heap.size, 4, none⟩ = some (.bool ng) ∧ W'.cell? ⟨w.heap.size, 5, none⟩ = some (.slice a0 n0 c0) ∧ W'.cell? ⟨w.heap.size, 6, none⟩ = some (.slice a1 n1 c1) ∧ W'.cell? ⟨mB, 0, none⟩ = some (u) ∧ W'.cell? ⟨mB, 1, none⟩ = some (.slice (some ⟨g, 0, none⟩) N N) ∧ W'.cell? ⟨g, R1 * 3, none⟩ = some (.bool nr1) ∧ W'.cell? ⟨g, R1 * 3 + 1, none⟩ = some (.slice ra1 rn1 rc1) ∧ W'.cell? ⟨g, R1 * 3 + 2, none⟩ = some (.slice sa1 sn1 sc1) ∧ W'.cell? ⟨g, R2 * 3, none⟩ = some (.bool nr2) ∧ W'.cell? ⟨g, R2 * 3 + 1, none⟩ = some (.slice ra2 rn2 rc2) ∧ W'.cell? ⟨g, R2 * 3 + 2, none⟩ = some (.slice sa2 sn2 sc2)) (first | (with_reducible exact ⟨x0_0, x0_1, x0_2, x0_3, x0_4, x0_5, x0_6, e0, e1, t10, t11, t12, t20, t21, t22⟩) | (with_reducible exact ⟨cell_put (cell_put (cell_put (x0_0) (.inl nz0) _) (.inl nz0) _) (.inl nz0) _, cell_put (cell_put (cell_put (x0_1) (.inl nz0) _) (.inl nz0) _) (.inl nz0) _, cell_put (cell_put (cell_put (x0_2) (.inl nz0) _) (.inl nz0) _) (.inl nz0) _, cell_put (cell_put (cell_put (x0_3) (.inl nz0) _) (.inl nz0) _) (.inl nz0) _, cell_put (cell_put (cell_put (x0_4) (.inl nz0) _) (.inl nz0) _) (.inl nz0) _, cell_put (cell_put (cell_put (x0_5) (.inl nz0) _) (.inl nz0) _) (.inl nz0) _, cell_put (cell_put (cell_put (x0_6) (.inl nz0) _) (.inl nz0) _) (.inl nz0) _, cell_put (cell_put (cell_put (e0) (.inl nzx_e0) _) (.inl nzx_e0) _) (.inl nzx_e0) _, cell_put (cell_put (cell_put (e1) (.inl nzx_e1) _) (.inl nzx_e1) _) (.inl nzx_e1) _, cell_put (cell_put (cell_put (t10) (.inl nzx_t10) _) (.inl nzx_t10) _) (.inl nzx_t10) _, cell_put (cell_put (cell_put (t11) (.inl nzx_t11) _) (.inl nzx_t11) _) (.inl nzx_t11) _, cell_put (cell_put (cell_put (t12) (.inl nzx_t12) _) (.inl nzx_t12) _) (.inl nzx_t12) _, cell_put (cell_put (cell_put (t20) (.inl nzx_t20) _) (.inl nzx_t20) _) (.inl nzx_t20) _, cell_put (cell_put (cell_put (t21) (.inl nzx_t21) _) (.inl nzx_t21) _) (.inl nzx_t21) _, cell_put (cell_put (cell_put (t22) (.inl nzx_t22) _) (.inl nzx_t22) _) (.inl nzx_t22) _⟩) | exact ⟨x0_0, x0_1, x0_2, x0_3, x0_4, x0_5, x0_6, e0, e1, t10, t11, t12, t20, t21, t22⟩) (first
    | (go_at_call 119; have gb := gb.drew; (with_reducible refine (ratio_mul nr1 _ _ lr1 kr1 nr2 _ _ lr2 kr2 _ (i4.to gb) (i5.to gb) q Hq.out hs).mono ?_); rintro e w1 ⟨ng1, a1_, n1_, c1_, p1_, m1_, k1_, rfl, g1, hb1⟩; have gb := below_step gb hb1; obtain ⟨⟨z0, x0_0, x0_1, x0_2, x0_3, x0_4, x0_5, x0_6, y0_0, y0_1, y0_2, y0_3, y0_4, y0_5, y0_6⟩, ⟨z1, x1_0, x1_1, x1_2, y1_0, y1_1, y1_2⟩⟩ := HXW0.out _ gb; obtain ⟨e0, e1, e2, e3, e4⟩ := (i1.to gb); obtain ⟨t10, t11, t12⟩ := (i2.to gb); obtain ⟨t20, t21, t22⟩ := (i3.to gb)))
  go_wp2_with fail
  refine bodyPost_ret (results_Rt Tryz.results95 _ _ _ _ _ _ rfl (Tri.set (x0 := .bool false) (y0 := .slice none 0 0) (z0 := .slice none 0 0) ⟨x1_0, x1_1, x1_2, y1_0, y1_1, y1_2⟩ _ _ _)) rfl (finRK (below_step zb gb) (by omega) ?_ g1)
  first | omega | (simp; omega)

set_option maxRecDepth 100000 in
set_option maxHeartbeats 20000000 in
theorem mach_div (mB g N : Nat) (u vJ : Value) (rows cols : Int) (op to : Int) (ng : Bool) (vn vd : Value) (lw1 lw2 : List Nat) (R1 : Nat) (nr1 : Bool) (vr1 ur1 : Value) (lr1 kr1 : List Nat) (R2 : Nat) (nr2 : Bool) (vr2 ur2 : Value) (lr2 kr2 : List Nat) {x y : Rat}  (w : World) (hw : IsF w vn vd lw1 lw2) (hm : Mach w mB g N u vJ rows cols) (hN : N ≤ 100000) (hr1 : R1 < N) (tr1 : Tri3 w g (R1 * 3) (.bool nr1) vr1 ur1) (qr1 : IsQ w nr1 vr1 ur1 lr1 kr1 x) (hr2 : R2 < N) (tr2 : Tri3 w g (R2 * 3) (.bool nr2) vr2 ur2) (qr2 : IsQ w nr2 vr2 ur2 lr2 kr2 y) (q : Rat) (hq : x / y = q) (hs : Hid (szq q ≤ 1000)) (h0 : y ≠ 0)  :
    Calls Tryz.prog 96 #[.pointer (some ⟨mB, 0, none⟩), .agg #[.int .i64 op, .int .i64 to, .int .i64 (R1 : Int), .int .i64 (R2 : Int), .bool ng, vn, vd]] w (GivesQK w q) := by
  have Hq := Lib.hid hq
  have H00 := Lib.hid h0
  clear hq h0
  obtain ⟨a0, n0, c0, rfl, H0, hm0⟩ := hw.1.open
  obtain ⟨a1, n1, c1, rfl, H1, hm1⟩ := hw.2.open
  obtain ⟨ra1, rn1, rc1, rfl, RH1, rm1⟩ := qr1.1.open
  obtain ⟨sa1, sn1, sc1, rfl, SH1, sm1⟩ := qr1.2.1.open
  have ri1 : (R1 : Int) < (N : Int) := by omega
  obtain ⟨ra2, rn2, rc2, rfl, RH2, rm2⟩ := qr2.1.open
  obtain ⟨sa2, sn2, sc2, rfl, SH2, sm2⟩ := qr2.2.1.open
  have ri2 : (R2 : Int) < (N : Int) := by omega
  have lm := hm.lt
  have lt1 := tr1.lt
  have lt2 := tr2.lt
  go_enter Tryz.func96, Tryz.ntmps96
  go_wp2_with fail
  obtain ⟨W0, hW0⟩ : ∃ W0, (w.alloc (.cells #[.int .i64 op, .int .i64 to, .int .i64 (R1 : Int), .int .i64 (R2 : Int), .bool ng, .slice a0 n0 c0, .slice a1 n1 c1] 49)).alloc (.cells #[.bool false, .slice none 0 0, .slice none 0 0] 47) = W0 := ⟨_, rfl⟩
  have HXW0 := Lib.hid (show ∀ W', Below W0.heap.size W0 W' → (Bx7 W' w.heap.size (.int .i64 op) (.int .i64 to) (.int .i64 (R1 : Int)) (.int .i64 (R2 : Int)) (.bool ng) (.slice a0 n0 c0) (.slice a1 n1 c1) ∧ Bx3 W' (w.heap.size + 1) (.bool false) (.slice none 0 0) (.slice none 0 0)) from fun W' hb => by
      refine ⟨bx7 hb ?_ ?_ ?_ ?_ ?_ ?_ ?_ ?_ ?_ ?_ ?_ ?_ ?_ ?_, bx3 hb ?_ ?_ ?_ ?_ ?_ ?_⟩
      all_goals first | assumption | (rw [← hW0]; simp [go_sem]))
  have zb : Below w.heap.size w W0 := by rw [← hW0]; exact below_step (below_new _ _) (below_new _ _)
  rw [hW0]
  clear hW0
  have i0 := hw.to zb
  have i1 := hm.to zb
  have i2 := tr1.to zb
  have i3 := tr2.to zb
  have i4 := qr1.to zb
  have i5 := qr2.to zb
  have gb : Below W0.heap.size W0 W0 := Below.refl _ _
  obtain ⟨⟨z0, x0_0, x0_1, x0_2, x0_3, x0_4, x0_5, x0_6, y0_0, y0_1, y0_2, y0_3, y0_4, y0_5, y0_6⟩, ⟨z1, x1_0, x1_1, x1_2, y1_0, y1_1, y1_2⟩⟩ := HXW0.out _ gb
  obtain ⟨e0, e1, e2, e3, e4⟩ := (i1.to gb)
  obtain ⟨t10, t11, t12⟩ := (i2.to gb)
  obtain ⟨t20, t21, t22⟩ := (i3.to gb)
  go_wp2_with fail
  have nzx_e0 : mB ≠ w.heap.size + 1 := by omega
  have nzx_e1 : mB ≠ w.heap.size + 1 := by omega
  have nzx_t10 : g ≠ w.heap.size + 1 := by omega
  have nzx_t11 : g ≠ w.heap.size + 1 := by omega
  have nzx_t12 : g ≠ w.heap.size + 1 := by omega
  have nzx_t20 : g ≠ w.heap.size + 1 := by omega
  have nzx_t21 : g ≠ w.heap.size + 1 := by omega
  have nzx_t22 : g ≠ w.heap.size + 1 := by omega
  have nz0 : w.heap.size ≠ w.heap.size + 1 := by omega
  go_region_held3 (fun W' => W'.cell? ⟨w.heap.size, 0, none⟩ = some (.int .i64 op) ∧ W'.cell? ⟨w.heap.size, 1, none⟩ = some (.int .i64 to) ∧ W'.cell? ⟨w.heap.size, 2, none⟩ = some (.int .i64 (R1 : Int)) ∧ W'.cell? ⟨w.heap.size, 3, none⟩ = some (.int .i64 (R2 : Int)) ∧ W'.cell? ⟨w.heap.size, 4, none⟩ = some (.bool ng) ∧ W'.cell? ⟨w.heap.size, 5, none⟩ = some (.slice a0 n0 c0) ∧ W'.cell? ⟨w.heap.size, 6, none⟩ = some (.slice a1 n1 c1) ∧ W'.cell? ⟨mB, 0, none⟩ = some (u) ∧ W'.cell? ⟨mB, 1, none⟩ = some (.slice (some ⟨g, 0, none⟩) N N) ∧ W'.cell? ⟨g, R1 * 3, none⟩ = some (.bool nr1) ∧ W'.cell? ⟨g, R1 * 3 + 1, none⟩ = some (.slice ra1 rn1 rc1) ∧ W'.cell? ⟨g, R1 * 3 + 2, none⟩ = some (.slice sa1 sn1 sc1) ∧ W'.cell? ⟨g, R2 * 3, none⟩ = some (.bool nr2) ∧ W'.cell? ⟨g, R2 * 3 + 1, none⟩ = some (.slice ra2 rn2 rc2) ∧ W'.cell? ⟨g, R2 * 3 + 2, none⟩ = some (.slice sa2 sn2 sc2)) (first | (with_reducible exact ⟨x0_0, x0_1, x0_2, x0_3, x0_4, x0_5, x0_6, e0, e1, t10, t11, t12, t20, t21, t22⟩) | (with_reducible exact ⟨cell_put (cell_put (cell_put (x0_0) (.inl nz0) _) (.inl nz0) _) (.inl nz0) _, cell_put (cell_put (cell_put (x0_1) (.inl nz0) _) (.inl nz0) _) (.inl nz0) _, cell_put (cell_put (cell_put (x0_2) (.inl nz0) _) (.inl nz0) _) (.inl nz0) _, cell_put (cell_put (cell_put (x0_3) (.inl nz0) _) (.inl nz0) _) (.inl nz0) _, cell_put (cell_put (cell_put (x0_4) (.inl nz0) _) (.inl nz0) _) (.inl nz0) _, cell_put (cell_put (cell_put (x0_5) (.inl nz0) _) (.inl nz0) _) (.inl nz0) _, cell_put (cell_put (cell_put (x0_6) (.inl nz0) _) (.inl nz0) _) (.inl nz0) _, cell_put (cell_put (cell_put (e0) (.inl nzx_e0) _) (.inl nzx_e0) _) (.inl nzx_e0) _, cell_put (cell_put (cell_put (e1) (.inl nzx_e1) _) (.inl nzx_e1) _) (.inl nzx_e1) _, cell_put (cell_put (cell_put (t10) (.inl nzx_t10) _) (.inl nzx_t10) _) (.inl nzx_t10) _, cell_put (cell_put (cell_put (t11) (.inl nzx_t11) _) (.inl nzx_t11) _) (.inl nzx_t11) _, cell_put (cell_put (cell_put (t12) (.inl nzx_t12) _) (.inl nzx_t12) _) (.inl nzx_t12) _, cell_put (cell_put (cell_put (t20) (.inl nzx_t20) _) (.inl nzx_t20) _) (.inl nzx_t20) _, cell_put (cell_put (cell_put (t21) (.inl nzx_t21) _) (.inl nzx_t21) _) (.inl nzx_t21) _, cell_put (cell_put (cell_put (t22) (.inl nzx_t22) _) (.inl nzx_t22) _) (.inl nzx_t22) _⟩) | exact ⟨x0_0, x0_1, x0_2, x0_3, x0_4, x0_5, x0_6, e0, e1, t10, t11, t12, t20, t21, t22⟩) (first
    | (go_at_call 120; have gb := gb.drew; (with_reducible refine (ratio_div nr1 _ _ lr1 kr1 nr2 _ _ lr2 kr2 _ (i4.to gb) (i5.to gb) H00.out q Hq.out hs).mono ?_); rintro e w1 ⟨ng1, a1_, n1_, c1_, p1_, m1_, k1_, rfl, g1, hb1⟩; have gb := below_step gb hb1; obtain ⟨⟨z0, x0_0, x0_1, x0_2, x0_3, x0_4, x0_5, x0_6, y0_0, y0_1, y0_2, y0_3, y0_4, y0_5, y0_6⟩, ⟨z1, x1_0, x1_1, x1_2, y1_0, y1_1, y1_2⟩⟩ := HXW0.out _ gb; obtain ⟨e0, e1, e2, e3, e4⟩ := (i1.to gb); obtain ⟨t10, t11, t12⟩ := (i2.to gb); obtain ⟨t20, t21, t22⟩ := (i3.to gb)))
  go_wp2_with fail
  refine bodyPost_ret (results_Rt Tryz.results96 _ _ _ _ _ _ rfl (Tri.set (x0 := .bool false) (y0 := .slice none 0 0) (z0 := .slice none 0 0) ⟨x1_0, x1_1, x1_2, y1_0, y1_1, y1_2⟩ _ _ _)) rfl (finRK (below_step zb gb) (by omega) ?_ g1)
  first | omega | (simp; omega)

set_option maxRecDepth 100000 in
set_option maxHeartbeats 20000000 in
theorem mach_div_no (mB g N : Nat) (u vJ : Value) (rows cols : Int) (op to : Int) (ng : Bool) (vn vd : Value) (lw1 lw2 : List Nat) (R1 : Nat) (nr1 : Bool) (vr1 ur1 : Value) (lr1 kr1 : List Nat) (R2 : Nat) (nr2 : Bool) (vr2 ur2 : Value) (lr2 kr2 : List Nat) {x y : Rat}  (w : World) (hw : IsF w vn vd lw1 lw2) (hm : Mach w mB g N u vJ rows cols) (hN : N ≤ 100000) (hr1 : R1 < N) (tr1 : Tri3 w g (R1 * 3) (.bool nr1) vr1 ur1) (qr1 : IsQ w nr1 vr1 ur1 lr1 kr1 x) (hr2 : R2 < N) (tr2 : Tri3 w g (R2 * 3) (.bool nr2) vr2 ur2) (qr2 : IsQ w nr2 vr2 ur2 lr2 kr2 y) (h0 : y = 0)  :
    Calls Tryz.prog 96 #[.pointer (some ⟨mB, 0, none⟩), .agg #[.int .i64 op, .int .i64 to, .int .i64 (R1 : Int), .int .i64 (R2 : Int), .bool ng, vn, vd]] w (fun e w' => e = .returned (.tuple #[aggR false (.slice none 0 0) (.slice none 0 0), .int .i64 3]) ∧ Below w.heap.size w w') := by
  have H00 := Lib.hid h0
  clear h0
  obtain ⟨a0, n0, c0, rfl, H0, hm0⟩ := hw.1.open
  obtain ⟨a1, n1, c1, rfl, H1, hm1⟩ := hw.2.open
  obtain ⟨ra1, rn1, rc1, rfl, RH1, rm1⟩ := qr1.1.open
  obtain ⟨sa1, sn1, sc1, rfl, SH1, sm1⟩ := qr1.2.1.open
  have ri1 : (R1 : Int) < (N : Int) := by omega
  obtain ⟨ra2, rn2, rc2, rfl, RH2, rm2⟩ := qr2.1.open
  obtain ⟨sa2, sn2, sc2, rfl, SH2, sm2⟩ := qr2.2.1.open
  have ri2 : (R2 : Int) < (N : Int) := by omega
  have lm := hm.lt
  have lt1 := tr1.lt
  have lt2 := tr2.lt
  go_enter Tryz.func96, Tryz.ntmps96
  go_wp2_with fail
  obtain ⟨W0, hW0⟩ : ∃ W0, (w.alloc (.cells #[.int .i64 op, .int .i64 to, .int .i64 (R1 : Int), .int .i64 (R2 : Int), .bool ng, .slice a0 n0 c0, .slice a1 n1 c1] 49)).alloc (.cells #[.bool false, .slice none 0 0, .slice none 0 0] 47) = W0 := ⟨_, rfl⟩
  have HXW0 := Lib.hid (show ∀ W', Below W0.heap.size W0 W' → (Bx7 W' w.heap.size (.int .i64 op) (.int .i64 to) (.int .i64 (R1 : Int)) (.int .i64 (R2 : Int)) (.bool ng) (.slice a0 n0 c0) (.slice a1 n1 c1) ∧ Bx3 W' (w.heap.size + 1) (.bool false) (.slice none 0 0) (.slice none 0 0)) from fun W' hb => by
      refine ⟨bx7 hb ?_ ?_ ?_ ?_ ?_ ?_ ?_ ?_ ?_ ?_ ?_ ?_ ?_ ?_, bx3 hb ?_ ?_ ?_ ?_ ?_ ?_⟩
      all_goals first | assumption | (rw [← hW0]; simp [go_sem]))
  have zb : Below w.heap.size w W0 := by rw [← hW0]; exact below_step (below_new _ _) (below_new _ _)
  rw [hW0]
  clear hW0
  have i0 := hw.to zb
  have i1 := hm.to zb
  have i2 := tr1.to zb
  have i3 := tr2.to zb
  have i4 := qr1.to zb
  have i5 := qr2.to zb
  have gb : Below W0.heap.size W0 W0 := Below.refl _ _
  obtain ⟨⟨z0, x0_0, x0_1, x0_2, x0_3, x0_4, x0_5, x0_6, y0_0, y0_1, y0_2, y0_3, y0_4, y0_5, y0_6⟩, ⟨z1, x1_0, x1_1, x1_2, y1_0, y1_1, y1_2⟩⟩ := HXW0.out _ gb
  obtain ⟨e0, e1, e2, e3, e4⟩ := (i1.to gb)
  obtain ⟨t10, t11, t12⟩ := (i2.to gb)
  obtain ⟨t20, t21, t22⟩ := (i3.to gb)
  go_wp2_with fail
  have nzx_e0 : mB ≠ w.heap.size + 1 := by omega
  have nzx_e1 : mB ≠ w.heap.size + 1 := by omega
  have nzx_t10 : g ≠ w.heap.size + 1 := by omega
  have nzx_t11 : g ≠ w.heap.size + 1 := by omega
  have nzx_t12 : g ≠ w.heap.size + 1 := by omega
  have nzx_t20 : g ≠ w.heap.size + 1 := by omega
  have nzx_t21 : g ≠ w.heap.size + 1 := by omega
  have nzx_t22 : g ≠ w.heap.size + 1 := by omega
  have nz0 : w.heap.size ≠ w.heap.size + 1 := by omega
  go_region_held3 (fun W' => W'.cell? ⟨w.heap.size, 0, none⟩ = some (.int .i64 op) ∧ W'.cell? ⟨w.heap.size, 1, none⟩ = some (.int .i64 to) ∧ W'.cell? ⟨w.heap.size, 2, none⟩ = some (.int .i64 (R1 : Int)) ∧ W'.cell? ⟨w.heap.size, 3, none⟩ = some (.int .i64 (R2 : Int)) ∧ W'.cell? ⟨w.heap.size, 4, none⟩ = some (.bool ng) ∧ W'.cell? ⟨w.heap.size, 5, none⟩ = some (.slice a0 n0 c0) ∧ W'.cell? ⟨w.heap.size, 6, none⟩ = some (.slice a1 n1 c1) ∧ W'.cell? ⟨mB, 0, none⟩ = some (u) ∧ W'.cell? ⟨mB, 1, none⟩ = some (.slice (some ⟨g, 0, none⟩) N N) ∧ W'.cell? ⟨g, R1 * 3, none⟩ = some (.bool nr1) ∧ W'.cell? ⟨g, R1 * 3 + 1, none⟩ = some (.slice ra1 rn1 rc1) ∧ W'.cell? ⟨g, R1 * 3 + 2, none⟩ = some (.slice sa1 sn1 sc1) ∧ W'.cell? ⟨g, R2 * 3, none⟩ = some (.bool nr2) ∧ W'.cell? ⟨g, R2 * 3 + 1, none⟩ = some (.slice ra2 rn2 rc2) ∧ W'.cell? ⟨g, R2 * 3 + 2, none⟩ = some (.slice sa2 sn2 sc2)) (first | (with_reducible exact ⟨x0_0, x0_1, x0_2, x0_3, x0_4, x0_5, x0_6, e0, e1, t10, t11, t12, t20, t21, t22⟩) | (with_reducible exact ⟨cell_put (cell_put (cell_put (x0_0) (.inl nz0) _) (.inl nz0) _) (.inl nz0) _, cell_put (cell_put (cell_put (x0_1) (.inl nz0) _) (.inl nz0) _) (.inl nz0) _, cell_put (cell_put (cell_put (x0_2) (.inl nz0) _) (.inl nz0) _) (.inl nz0) _, cell_put (cell_put (cell_put (x0_3) (.inl nz0) _) (.inl nz0) _) (.inl nz0) _, cell_put (cell_put (cell_put (x0_4) (.inl nz0) _) (.inl nz0) _) (.inl nz0) _, cell_put (cell_put (cell_put (x0_5) (.inl nz0) _) (.inl nz0) _) (.inl nz0) _, cell_put (cell_put (cell_put (x0_6) (.inl nz0) _) (.inl nz0) _) (.inl nz0) _, cell_put (cell_put (cell_put (e0) (.inl nzx_e0) _) (.inl nzx_e0) _) (.inl nzx_e0) _, cell_put (cell_put (cell_put (e1) (.inl nzx_e1) _) (.inl nzx_e1) _) (.inl nzx_e1) _, cell_put (cell_put (cell_put (t10) (.inl nzx_t10) _) (.inl nzx_t10) _) (.inl nzx_t10) _, cell_put (cell_put (cell_put (t11) (.inl nzx_t11) _) (.inl nzx_t11) _) (.inl nzx_t11) _, cell_put (cell_put (cell_put (t12) (.inl nzx_t12) _) (.inl nzx_t12) _) (.inl nzx_t12) _, cell_put (cell_put (cell_put (t20) (.inl nzx_t20) _) (.inl nzx_t20) _) (.inl nzx_t20) _, cell_put (cell_put (cell_put (t21) (.inl nzx_t21) _) (.inl nzx_t21) _) (.inl nzx_t21) _, cell_put (cell_put (cell_put (t22) (.inl nzx_t22) _) (.inl nzx_t22) _) (.inl nzx_t22) _⟩) | exact ⟨x0_0, x0_1, x0_2, x0_3, x0_4, x0_5, x0_6, e0, e1, t10, t11, t12, t20, t21, t22⟩) (first
    | (go_at_call 120; have gb := gb.drew; (with_reducible refine (ratio_div_no nr1 _ _ lr1 kr1 nr2 _ _ lr2 kr2 _ (i4.to gb) (i5.to gb) H00.out).mono ?_); rintro e w1 ⟨rfl, hb1⟩; have gb := below_step gb hb1; obtain ⟨⟨z0, x0_0, x0_1, x0_2, x0_3, x0_4, x0_5, x0_6, y0_0, y0_1, y0_2, y0_3, y0_4, y0_5, y0_6⟩, ⟨z1, x1_0, x1_1, x1_2, y1_0, y1_1, y1_2⟩⟩ := HXW0.out _ gb; obtain ⟨e0, e1, e2, e3, e4⟩ := (i1.to gb); obtain ⟨t10, t11, t12⟩ := (i2.to gb); obtain ⟨t20, t21, t22⟩ := (i3.to gb)))
  go_wp2_with fail
  exact bodyPost_ret (results_Rt Tryz.results96 _ _ _ _ _ _ rfl (Tri.set (x0 := .bool false) (y0 := .slice none 0 0) (z0 := .slice none 0 0) ⟨x1_0, x1_1, x1_2, y1_0, y1_1, y1_2⟩ _ _ _)) rfl ⟨rfl, below_set3 (below_step zb gb) (by omega) _ _ _⟩

set_option maxRecDepth 100000 in
set_option maxHeartbeats 20000000 in
theorem mach_neg (mB g N : Nat) (u vJ : Value) (rows cols : Int) (op to xb : Int) (ng : Bool) (vn vd : Value) (lw1 lw2 : List Nat) (R1 : Nat) (nr1 : Bool) (vr1 ur1 : Value) (lr1 kr1 : List Nat) {x : Rat}  (w : World) (hw : IsF w vn vd lw1 lw2) (hm : Mach w mB g N u vJ rows cols) (hN : N ≤ 100000) (hr1 : R1 < N) (tr1 : Tri3 w g (R1 * 3) (.bool nr1) vr1 ur1) (qr1 : IsQ w nr1 vr1 ur1 lr1 kr1 x) (q : Rat) (hq : -x = q) (hs : Hid (szq q ≤ 1000)) :
    Calls Tryz.prog 97 #[.pointer (some ⟨mB, 0, none⟩), .agg #[.int .i64 op, .int .i64 to, .int .i64 (R1 : Int), .int .i64 xb, .bool ng, vn, vd]] w (GivesQK w q) := by
  have Hq := Lib.hid hq
  clear hq
  obtain ⟨a0, n0, c0, rfl, H0, hm0⟩ := hw.1.open
  obtain ⟨a1, n1, c1, rfl, H1, hm1⟩ := hw.2.open
  obtain ⟨ra1, rn1, rc1, rfl, RH1, rm1⟩ := qr1.1.open
  obtain ⟨sa1, sn1, sc1, rfl, SH1, sm1⟩ := qr1.2.1.open
  have ri1 : (R1 : Int) < (N : Int) := by omega
  have lm := hm.lt
  have lt1 := tr1.lt
  go_enter Tryz.func97, Tryz.ntmps97
  go_wp2_with fail
  obtain ⟨W0, hW0⟩ : ∃ W0, (w.alloc (.cells #[.int .i64 op, .int .i64 to, .int .i64 (R1 : Int), .int .i64 xb, .bool ng, .slice a0 n0 c0, .slice a1 n1 c1] 49)).alloc (.cells #[.bool false, .slice none 0 0, .slice none 0 0] 47) = W0 := ⟨_, rfl⟩
  have HXW0 := Lib.hid (show ∀ W', Below W0.heap.size W0 W' → (Bx7 W' w.heap.size (.int .i64 op) (.int .i64 to) (.int .i64 (R1 : Int)) (.int .i64 xb) (.bool ng) (.slice a0 n0 c0) (.slice a1 n1 c1) ∧ Bx3 W' (w.heap.size + 1) (.bool false) (.slice none 0 0) (.slice none 0 0)) from fun W' hb => by
      refine ⟨bx7 hb ?_ ?_ ?_ ?_ ?_ ?_ ?_ ?_ ?_ ?_ ?_ ?_ ?_ ?_, bx3 hb ?_ ?_ ?_ ?_ ?_ ?_⟩
      all_goals first | assumption | (rw [← hW0]; simp [go_sem]))
  have zb : Below w.heap.size w W0 := by rw [← hW0]; exact below_step (below_new _ _) (below_new _ _)
  rw [hW0]
  clear hW0
  have i0 := hw.to zb
  have i1 := hm.to zb
  have i2 := tr1.to zb
  have i3 := qr1.to zb
  have gb : Below W0.heap.size W0 W0 := Below.refl _ _
  obtain ⟨⟨z0, x0_0, x0_1, x0_2, x0_3, x0_4, x0_5, x0_6, y0_0, y0_1, y0_2, y0_3, y0_4, y0_5, y0_6⟩, ⟨z1, x1_0, x1_1, x1_2, y1_0, y1_1, y1_2⟩⟩ := HXW0.out _ gb
  obtain ⟨e0, e1, e2, e3, e4⟩ := (i1.to gb)
  obtain ⟨t10, t11, t12⟩ := (i2.to gb)
  go_wp2_with fail
  have nzx_e0 : mB ≠ w.heap.size + 1 := by omega
  have nzx_e1 : mB ≠ w.heap.size + 1 := by omega
  have nzx_t10 : g ≠ w.heap.size + 1 := by omega
  have nzx_t11 : g ≠ w.heap.size + 1 := by omega
  have nzx_t12 : g ≠ w.heap.size + 1 := by omega
  have nz0 : w.heap.size ≠ w.heap.size + 1 := by omega
  go_region_held3 (fun W' => W'.cell? ⟨w.heap.size, 0, none⟩ = some (.int .i64 op) ∧ W'.cell? ⟨w.heap.size, 1, none⟩ = some (.int .i64 to) ∧ W'.cell? ⟨w.heap.size, 2, none⟩ = some (.int .i64 (R1 : Int)) ∧ W'.cell? ⟨w.heap.size, 3, none⟩ = some (.int .i64 xb) ∧ W'.cell? ⟨w.heap.size, 4, none⟩ = some (.bool ng) ∧ W'.cell? ⟨w.heap.size, 5, none⟩ = some (.slice a0 n0 c0) ∧ W'.cell? ⟨w.heap.size, 6, none⟩ = some (.slice a1 n1 c1) ∧ W'.cell? ⟨mB, 0, none⟩ = some (u) ∧ W'.cell? ⟨mB, 1, none⟩ = some (.slice (some ⟨g, 0, none⟩) N N) ∧ W'.cell? ⟨g, R1 * 3, none⟩ = some (.bool nr1) ∧ W'.cell? ⟨g, R1 * 3 + 1, none⟩ = some (.slice ra1 rn1 rc1) ∧ W'.cell? ⟨g, R1 * 3 + 2, none⟩ = some (.slice sa1 sn1 sc1)) (first | (with_reducible exact ⟨x0_0, x0_1, x0_2, x0_3, x0_4, x0_5, x0_6, e0, e1, t10, t11, t12⟩) | (with_reducible exact ⟨cell_put (cell_put (cell_put (x0_0) (.inl nz0) _) (.inl nz0) _) (.inl nz0) _, cell_put (cell_put (cell_put (x0_1) (.inl nz0) _) (.inl nz0) _) (.inl nz0) _, cell_put (cell_put (cell_put (x0_2) (.inl nz0) _) (.inl nz0) _) (.inl nz0) _, cell_put (cell_put (cell_put (x0_3) (.inl nz0) _) (.inl nz0) _) (.inl nz0) _, cell_put (cell_put (cell_put (x0_4) (.inl nz0) _) (.inl nz0) _) (.inl nz0) _, cell_put (cell_put (cell_put (x0_5) (.inl nz0) _) (.inl nz0) _) (.inl nz0) _, cell_put (cell_put (cell_put (x0_6) (.inl nz0) _) (.inl nz0) _) (.inl nz0) _, cell_put (cell_put (cell_put (e0) (.inl nzx_e0) _) (.inl nzx_e0) _) (.inl nzx_e0) _, cell_put (cell_put (cell_put (e1) (.inl nzx_e1) _) (.inl nzx_e1) _) (.inl nzx_e1) _, cell_put (cell_put (cell_put (t10) (.inl nzx_t10) _) (.inl nzx_t10) _) (.inl nzx_t10) _, cell_put (cell_put (cell_put (t11) (.inl nzx_t11) _) (.inl nzx_t11) _) (.inl nzx_t11) _, cell_put (cell_put (cell_put (t12) (.inl nzx_t12) _) (.inl nzx_t12) _) (.inl nzx_t12) _⟩) | exact ⟨x0_0, x0_1, x0_2, x0_3, x0_4, x0_5, x0_6, e0, e1, t10, t11, t12⟩) (first
    | (go_at_call 121; have gb := gb.drew; (with_reducible refine (ratio_neg nr1 _ _ lr1 kr1 _ (i3.to gb) q Hq.out hs).mono ?_); rintro e w1 ⟨ng1, a1_, n1_, c1_, p1_, m1_, k1_, rfl, g1, hb1⟩; have gb := below_step gb hb1; obtain ⟨⟨z0, x0_0, x0_1, x0_2, x0_3, x0_4, x0_5, x0_6, y0_0, y0_1, y0_2, y0_3, y0_4, y0_5, y0_6⟩, ⟨z1, x1_0, x1_1, x1_2, y1_0, y1_1, y1_2⟩⟩ := HXW0.out _ gb; obtain ⟨e0, e1, e2, e3, e4⟩ := (i1.to gb); obtain ⟨t10, t11, t12⟩ := (i2.to gb)))
  go_wp2_with fail
  refine bodyPost_ret (results_Rt Tryz.results97 _ _ _ _ _ _ rfl (Tri.set (x0 := .bool false) (y0 := .slice none 0 0) (z0 := .slice none 0 0) ⟨x1_0, x1_1, x1_2, y1_0, y1_1, y1_2⟩ _ _ _)) rfl (finRK (below_step zb gb) (by omega) ?_ g1)
  first | omega | (simp; omega)

set_option maxRecDepth 100000 in
set_option maxHeartbeats 20000000 in
theorem mach_const (p0 : Value) (op to xa xb : Int) (ng : Bool) (vn vd : Value) (lw1 lw2 : List Nat) {x : Rat}  (w : World) (hw : IsQ w ng vn vd lw1 lw2 x) (hs : Hid (szq x ≤ 1000)) :
    Calls Tryz.prog 92 #[p0, .agg #[.int .i64 op, .int .i64 to, .int .i64 xa, .int .i64 xb, .bool ng, vn, vd]] w (GivesQK w x) := by
  obtain ⟨a0, n0, c0, rfl, H0, hm0⟩ := hw.1.open
  obtain ⟨a1, n1, c1, rfl, H1, hm1⟩ := hw.2.1.open
  go_enter Tryz.func92, Tryz.ntmps92
  go_wp2_with fail
  obtain ⟨W0, hW0⟩ : ∃ W0, (w.alloc (.cells #[.int .i64 op, .int .i64 to, .int .i64 xa, .int .i64 xb, .bool ng, .slice a0 n0 c0, .slice a1 n1 c1] 49)).alloc (.cells #[.bool false, .slice none 0 0, .slice none 0 0] 47) = W0 := ⟨_, rfl⟩
  have HXW0 := Lib.hid (show ∀ W', Below W0.heap.size W0 W' → (Bx7 W' w.heap.size (.int .i64 op) (.int .i64 to) (.int .i64 xa) (.int .i64 xb) (.bool ng) (.slice a0 n0 c0) (.slice a1 n1 c1) ∧ Bx3 W' (w.heap.size + 1) (.bool false) (.slice none 0 0) (.slice none 0 0)) from fun W' hb => by
      refine ⟨bx7 hb ?_ ?_ ?_ ?_ ?_ ?_ ?_ ?_ ?_ ?_ ?_ ?_ ?_ ?_, bx3 hb ?_ ?_ ?_ ?_ ?_ ?_⟩
      all_goals first | assumption | (rw [← hW0]; simp [go_sem]))
  have zb : Below w.heap.size w W0 := by rw [← hW0]; exact below_step (below_new _ _) (below_new _ _)
  rw [hW0]
  clear hW0
  have i0 := hw.to zb
  have gb : Below W0.heap.size W0 W0 := Below.refl _ _
  obtain ⟨⟨z0, x0_0, x0_1, x0_2, x0_3, x0_4, x0_5, x0_6, y0_0, y0_1, y0_2, y0_3, y0_4, y0_5, y0_6⟩, ⟨z1, x1_0, x1_1, x1_2, y1_0, y1_1, y1_2⟩⟩ := HXW0.out _ gb
  go_wp2_with fail
  refine (ratio_fix ng _ _ lw1 lw2 _ (i0.to gb) x rfl hs).mono ?_
  clear x0_0 y0_0 x0_1 y0_1 x0_2 y0_2 x0_3 y0_3 x0_4 y0_4 x0_5 y0_5 x0_6 y0_6 x1_0 y1_0 x1_1 y1_1 x1_2 y1_2
  rintro e w1 ⟨ng1, a1_, n1_, c1_, p1_, m1_, k1_, rfl, g1, hb1⟩
  replace gb := below_step gb hb1
  obtain ⟨⟨z0, x0_0, x0_1, x0_2, x0_3, x0_4, x0_5, x0_6, y0_0, y0_1, y0_2, y0_3, y0_4, y0_5, y0_6⟩, ⟨z1, x1_0, x1_1, x1_2, y1_0, y1_1, y1_2⟩⟩ := HXW0.out _ gb
  go_wp2_with fail
  refine bodyPost_ret (results_Rt Tryz.results92 _ _ _ _ _ _ rfl (Tri.set (x0 := .bool false) (y0 := .slice none 0 0) (z0 := .slice none 0 0) ⟨x1_0, x1_1, x1_2, y1_0, y1_1, y1_2⟩ _ _ _)) rfl (finRK (below_step zb gb) (by omega) ?_ g1)
  first | omega | (simp; omega)

set_option maxRecDepth 100000 in
set_option maxHeartbeats 20000000 in
theorem mach_input (mB g N : Nat) (vJ : Value) (rows cols : Int) (b off n cap A : Nat) (op to xb : Int) (ng : Bool) (vn vd : Value) (lw1 lw2 : List Nat) (nr1 : Bool) (vr1 ur1 : Value) (lr1 kr1 : List Nat) {x : Rat}  (w : World) (hw : IsF w vn vd lw1 lw2) (hm : Mach w mB g N (.slice (some ⟨b, off, none⟩) n cap) vJ rows cols) (hn : n ≤ maxLen) (hA : A < n) (tr1 : Tri3 w b (off + A * 3) (.bool nr1) vr1 ur1) (qr1 : IsQ w nr1 vr1 ur1 lr1 kr1 x) (hs : Hid (szq x ≤ 1000)) :
    Calls Tryz.prog 91 #[.pointer (some ⟨mB, 0, none⟩), .agg #[.int .i64 op, .int .i64 to, .int .i64 (A : Int), .int .i64 xb, .bool ng, vn, vd]] w (GivesQK w x) := by
  unfold maxLen at hn
  obtain ⟨a0, n0, c0, rfl, H0, hm0⟩ := hw.1.open
  obtain ⟨a1, n1, c1, rfl, H1, hm1⟩ := hw.2.open
  obtain ⟨ra1, rn1, rc1, rfl, RH1, rm1⟩ := qr1.1.open
  obtain ⟨sa1, sn1, sc1, rfl, SH1, sm1⟩ := qr1.2.1.open
  have hi1 : (A : Int) < (n : Int) := by omega
  have lm := hm.lt
  have lt1 := tr1.lt
  go_enter Tryz.func91, Tryz.ntmps91
  go_wp2_with fail
  obtain ⟨W0, hW0⟩ : ∃ W0, (w.alloc (.cells #[.int .i64 op, .int .i64 to, .int .i64 (A : Int), .int .i64 xb, .bool ng, .slice a0 n0 c0, .slice a1 n1 c1] 49)).alloc (.cells #[.bool false, .slice none 0 0, .slice none 0 0] 47) = W0 := ⟨_, rfl⟩
  have HXW0 := Lib.hid (show ∀ W', Below W0.heap.size W0 W' → (Bx7 W' w.heap.size (.int .i64 op) (.int .i64 to) (.int .i64 (A : Int)) (.int .i64 xb) (.bool ng) (.slice a0 n0 c0) (.slice a1 n1 c1) ∧ Bx3 W' (w.heap.size + 1) (.bool false) (.slice none 0 0) (.slice none 0 0)) from fun W' hb => by
      refine ⟨bx7 hb ?_ ?_ ?_ ?_ ?_ ?_ ?_ ?_ ?_ ?_ ?_ ?_ ?_ ?_, bx3 hb ?_ ?_ ?_ ?_ ?_ ?_⟩
      all_goals first | assumption | (rw [← hW0]; simp [go_sem]))
  have zb : Below w.heap.size w W0 := by rw [← hW0]; exact below_step (below_new _ _) (below_new _ _)
  rw [hW0]
  clear hW0
  have i0 := hw.to zb
  have i1 := hm.to zb
  have i2 := tr1.to zb
  have i3 := qr1.to zb
  have gb : Below W0.heap.size W0 W0 := Below.refl _ _
  obtain ⟨⟨z0, x0_0, x0_1, x0_2, x0_3, x0_4, x0_5, x0_6, y0_0, y0_1, y0_2, y0_3, y0_4, y0_5, y0_6⟩, ⟨z1, x1_0, x1_1, x1_2, y1_0, y1_1, y1_2⟩⟩ := HXW0.out _ gb
  obtain ⟨e0, e1, e2, e3, e4⟩ := (i1.to gb)
  obtain ⟨t10, t11, t12⟩ := (i2.to gb)
  go_wp2_with fail
  have nzx_e0 : mB ≠ w.heap.size + 1 := by omega
  have nzx_e1 : mB ≠ w.heap.size + 1 := by omega
  have nzx_t10 : b ≠ w.heap.size + 1 := by omega
  have nzx_t11 : b ≠ w.heap.size + 1 := by omega
  have nzx_t12 : b ≠ w.heap.size + 1 := by omega
  have nz0 : w.heap.size ≠ w.heap.size + 1 := by omega
  go_region_held3 (fun W' => W'.cell? ⟨w.heap.size, 0, none⟩ = some (.int .i64 op) ∧ W'.cell? ⟨w.heap.size, 1, none⟩ = some (.int .i64 to) ∧ W'.cell? ⟨w.heap.size, 2, none⟩ = some (.int .i64 (A : Int)) ∧ W'.cell? ⟨w.heap.size, 3, none⟩ = some (.int .i64 xb) ∧ W'.cell? ⟨w.heap.size, 4, none⟩ = some (.bool ng) ∧ W'.cell? ⟨w.heap.size, 5, none⟩ = some (.slice a0 n0 c0) ∧ W'.cell? ⟨w.heap.size, 6, none⟩ = some (.slice a1 n1 c1) ∧ W'.cell? ⟨mB, 0, none⟩ = some (.slice (some ⟨b, off, none⟩) n cap) ∧ W'.cell? ⟨mB, 1, none⟩ = some (.slice (some ⟨g, 0, none⟩) N N) ∧ W'.cell? ⟨b, off + A * 3, none⟩ = some (.bool nr1) ∧ W'.cell? ⟨b, off + A * 3 + 1, none⟩ = some (.slice ra1 rn1 rc1) ∧ W'.cell? ⟨b, off + A * 3 + 2, none⟩ = some (.slice sa1 sn1 sc1)) (first | (with_reducible exact ⟨x0_0, x0_1, x0_2, x0_3, x0_4, x0_5, x0_6, e0, e1, t10, t11, t12⟩) | (with_reducible exact ⟨cell_put (cell_put (cell_put (x0_0) (.inl nz0) _) (.inl nz0) _) (.inl nz0) _, cell_put (cell_put (cell_put (x0_1) (.inl nz0) _) (.inl nz0) _) (.inl nz0) _, cell_put (cell_put (cell_put (x0_2) (.inl nz0) _) (.inl nz0) _) (.inl nz0) _, cell_put (cell_put (cell_put (x0_3) (.inl nz0) _) (.inl nz0) _) (.inl nz0) _, cell_put (cell_put (cell_put (x0_4) (.inl nz0) _) (.inl nz0) _) (.inl nz0) _, cell_put (cell_put (cell_put (x0_5) (.inl nz0) _) (.inl nz0) _) (.inl nz0) _, cell_put (cell_put (cell_put (x0_6) (.inl nz0) _) (.inl nz0) _) (.inl nz0) _, cell_put (cell_put (cell_put (e0) (.inl nzx_e0) _) (.inl nzx_e0) _) (.inl nzx_e0) _, cell_put (cell_put (cell_put (e1) (.inl nzx_e1) _) (.inl nzx_e1) _) (.inl nzx_e1) _, cell_put (cell_put (cell_put (t10) (.inl nzx_t10) _) (.inl nzx_t10) _) (.inl nzx_t10) _, cell_put (cell_put (cell_put (t11) (.inl nzx_t11) _) (.inl nzx_t11) _) (.inl nzx_t11) _, cell_put (cell_put (cell_put (t12) (.inl nzx_t12) _) (.inl nzx_t12) _) (.inl nzx_t12) _⟩) | exact ⟨x0_0, x0_1, x0_2, x0_3, x0_4, x0_5, x0_6, e0, e1, t10, t11, t12⟩) (first
    | (go_at_call 64; have gb := gb.drew; (with_reducible refine (ratio_fix nr1 _ _ lr1 kr1 _ (i3.to gb) x rfl hs).mono ?_); rintro e w1 ⟨ng1, a1_, n1_, c1_, p1_, m1_, k1_, rfl, g1, hb1⟩; have gb := below_step gb hb1; obtain ⟨⟨z0, x0_0, x0_1, x0_2, x0_3, x0_4, x0_5, x0_6, y0_0, y0_1, y0_2, y0_3, y0_4, y0_5, y0_6⟩, ⟨z1, x1_0, x1_1, x1_2, y1_0, y1_1, y1_2⟩⟩ := HXW0.out _ gb; obtain ⟨e0, e1, e2, e3, e4⟩ := (i1.to gb); obtain ⟨t10, t11, t12⟩ := (i2.to gb)))
  go_wp2_with fail
  refine bodyPost_ret (results_Rt Tryz.results91 _ _ _ _ _ _ rfl (Tri.set (x0 := .bool false) (y0 := .slice none 0 0) (z0 := .slice none 0 0) ⟨x1_0, x1_1, x1_2, y1_0, y1_1, y1_2⟩ _ _ _)) rfl (finRK (below_step zb gb) (by omega) ?_ g1)
  first | omega | (simp; omega)

set_option maxRecDepth 100000 in
set_option maxHeartbeats 20000000 in
theorem vm_words (b : Bool) (v u : Value) (ln ld : List Nat)  (w : World) (h : IsF w v u ln ld) (o : Int) (ho : ((max ln.length ld.length : Nat) : Int) = o)  :
    Calls Tryz.prog 66 #[aggR b v u] w (fun e w' => e = .returned (.int .i64 o) ∧ Below w.heap.size w w') := by
  have Ho := Lib.hid ho
  clear ho
  obtain ⟨a0, n0, c0, rfl, H0, hm0⟩ := h.1.open
  obtain ⟨a1, n1, c1, rfl, H1, hm1⟩ := h.2.open
  obtain ⟨m, hm⟩ : ∃ m : Nat, max n0 n1 = m := ⟨_, rfl⟩
  have HM : max (n0 : Int) (n1 : Int) = (m : Int) := by omega
  have ho : (m : Int) = o := by rw [← Ho.out, H0.out, H1.out, hm]
  clear Ho hm
  subst ho
  go_enter Tryz.func66, Tryz.ntmps66
  go_wp2_with fail
  obtain ⟨W0, hW0⟩ : ∃ W0, w.alloc (.cells #[.bool b, .slice a0 n0 c0, .slice a1 n1 c1] 47) = W0 := ⟨_, rfl⟩
  have HXW0 := Lib.hid (show ∀ W', Below W0.heap.size W0 W' → (Bx3 W' w.heap.size (.bool b) (.slice a0 n0 c0) (.slice a1 n1 c1)) from fun W' hb => by
      apply bx3 hb
      all_goals first | assumption | (rw [← hW0]; simp [go_sem]))
  have zb : Below w.heap.size w W0 := by rw [← hW0]; exact below_new _ _
  rw [hW0]
  clear hW0
  have i0 := h.to zb
  have gb : Below W0.heap.size W0 W0 := Below.refl _ _
  obtain ⟨z0, x0_0, x0_1, x0_2, y0_0, y0_1, y0_2⟩ := HXW0.out _ gb
  go_wp2_with fail
  go_ret
  exact ⟨rfl, below_step zb gb⟩

end Go.Proofs.YtkjcdnlpjldhaaaGreat


namespace Go.Proofs.YtkjcdnlpjldhaaaGreat
open Go.RowKit Tw
set_option linter.unusedVariables false
set_option linter.unusedSimpArgs false
attribute [local go_sem ↓] Go.wp_at_zero Go.wp_at_succ

def IsK (w : World) (ng : Bool) (v u : Value) (q : Rat) : Prop := IsQ w ng v u (limbs q.num.natAbs) (limbs q.den) q ∧ decide (q < 0) = ng

theorem IsK.to {w w' : World} {ng : Bool} {v u : Value} {q : Rat} (h : IsK w ng v u q) (hb : Below w.heap.size w w') : IsK w' ng v u q := ⟨h.1.to hb, h.2⟩

theorem CanQ.isK {lo hi : Nat} {w : World} {ng : Bool} {v u : Value} {q : Rat} (h : CanQ lo hi w ng v u q) : IsK w ng v u q := ⟨h.isQ, h.2.2.1⟩

theorem limbs_zero {x : Rat} {n : Nat} (h : (limbs x.num.natAbs).length = n) : n = 0 ↔ x = 0 := by
  rw [sz_def] at h
  rw [← h, sz_eq_zero, Int.natAbs_eq_zero, Rat.num_eq_zero]

theorem szq_len {x : Rat} {n m : Nat} (h : (limbs x.num.natAbs).length = n) (h' : (limbs x.den).length = m) : szq x = max n m := by
  rw [sz_def] at h h'
  unfold szq
  rw [h, h']

set_option maxRecDepth 100000 in
set_option maxHeartbeats 40000000 in
theorem mach_pow_zero (mB g N : Nat) (u vJ : Value) (rows cols : Int) (op to xb : Int) (ng : Bool) (vn vd : Value) (lw1 lw2 : List Nat) (R1 : Nat) (nr1 : Bool) (vr1 ur1 : Value) {x : Rat}  (w : World) (hw : IsF w vn vd lw1 lw2) (hm : Mach w mB g N u vJ rows cols) (hN : N ≤ 100000) (hr1 : R1 < N) (tr1 : Tri3 w g (R1 * 3) (.bool nr1) vr1 ur1) (qr1 : IsK w nr1 vr1 ur1 x) (hb : -21 ≤ xb ∧ xb ≤ 21) (h0 : x = 0) (hn : xb < 0)  :
    Calls Tryz.prog 98 #[.pointer (some ⟨mB, 0, none⟩), .agg #[.int .i64 op, .int .i64 to, .int .i64 (R1 : Int), .int .i64 xb, .bool ng, vn, vd]] w (fun e w' => e = .returned (.tuple #[aggR false (.slice none 0 0) (.slice none 0 0), .int .i64 3]) ∧ Below w.heap.size w w') := by
  obtain ⟨a0, n0, c0, rfl, H0, hm0⟩ := hw.1.open
  obtain ⟨a1, n1, c1, rfl, H1, hm1⟩ := hw.2.open
  have qq := qr1.1
  have Hx1 := isQ_sz qq
  obtain ⟨ra1, rn1, rc1, rfl, RH1, rm1⟩ := qr1.1.1.open
  obtain ⟨sa1, sn1, sc1, rfl, SH1, sm1⟩ := qr1.1.2.1.open
  have ri1 : (R1 : Int) < (N : Int) := by omega
  have lm := hm.lt
  have lt1 := tr1.lt
  have Hz := Lib.hid (limbs_zero RH1.out)
  have Hq := Lib.hid (szq_len RH1.out SH1.out)
  have t0 : ((rn1 : Int) == 0) = true := by simp; exact Hz.out.2 h0
  clear h0
  go_enter Tryz.func98, Tryz.ntmps98
  go_wp2_with fail
  obtain ⟨W0, hW0⟩ : ∃ W0, (w.alloc (.cells #[.int .i64 op, .int .i64 to, .int .i64 (R1 : Int), .int .i64 xb, .bool ng, .slice a0 n0 c0, .slice a1 n1 c1] 49)).alloc (.cells #[.bool false, .slice none 0 0, .slice none 0 0] 47) = W0 := ⟨_, rfl⟩
  have HXW0 := Lib.hid (show ∀ W', Below W0.heap.size W0 W' → (Bx7 W' w.heap.size (.int .i64 op) (.int .i64 to) (.int .i64 (R1 : Int)) (.int .i64 xb) (.bool ng) (.slice a0 n0 c0) (.slice a1 n1 c1) ∧ Bx3 W' (w.heap.size + 1) (.bool false) (.slice none 0 0) (.slice none 0 0)) from fun W' hb => by
      refine ⟨bx7 hb ?_ ?_ ?_ ?_ ?_ ?_ ?_ ?_ ?_ ?_ ?_ ?_ ?_ ?_, bx3 hb ?_ ?_ ?_ ?_ ?_ ?_⟩
      all_goals first | assumption | (rw [← hW0]; simp [go_sem]))
  have zb : Below w.heap.size w W0 := by rw [← hW0]; exact below_step (below_new _ _) (below_new _ _)
  rw [hW0]
  clear hW0
  have i0 := hw.to zb
  have i1 := hm.to zb
  have i2 := tr1.to zb
  have i3 := qq.to zb
  have gb : Below W0.heap.size W0 W0 := Below.refl _ _
  obtain ⟨⟨z0, x0_0, x0_1, x0_2, x0_3, x0_4, x0_5, x0_6, y0_0, y0_1, y0_2, y0_3, y0_4, y0_5, y0_6⟩, ⟨z1, x1_0, x1_1, x1_2, y1_0, y1_1, y1_2⟩⟩ := HXW0.out _ gb
  obtain ⟨e0, e1, e2, e3, e4⟩ := (i1.to gb)
  obtain ⟨t10, t11, t12⟩ := (i2.to gb)
  go_wp2_with fail
  have gba : Below W0.heap.size W0 (W0.alloc (.cells #[.bool false, .slice none 0 0, .slice none 0 0] 47)) := below_step gb (below_new _ _)
  obtain ⟨⟨az0, ax0_0, ax0_1, ax0_2, ax0_3, ax0_4, ax0_5, ax0_6, ay0_0, ay0_1, ay0_2, ay0_3, ay0_4, ay0_5, ay0_6⟩, ⟨az1, ax1_0, ax1_1, ax1_2, ay1_0, ay1_1, ay1_2⟩⟩ := HXW0.out _ gba
  obtain ⟨ae0, ae1, ae2, ae3, ae4⟩ := (i1.to gba)
  obtain ⟨at10, at11, at12⟩ := (i2.to gba)
  go_region
  clear gba ax0_0 ay0_0 ax0_1 ay0_1 ax0_2 ay0_2 ax0_3 ay0_3 ax0_4 ay0_4 ax0_5 ay0_5 ax0_6 ay0_6 ax1_0 ay1_0 ax1_1 ay1_1 ax1_2 ay1_2 az0 az1 ae0 ae1 ae2 ae3 ae4 at10 at11 at12
  obtain ⟨W1, hW1⟩ : ∃ W1, (W0.alloc (.cells #[.bool nr1, .slice ra1 rn1 rc1, .slice sa1 sn1 sc1] 47)).drew = W1 := ⟨_, rfl⟩
  have hb_W1 : Below W0.heap.size W0 W1 := by rw [← hW1]; exact (below_new _ _).drew
  have hs_W1 : Hid (W1.heap.size = W0.heap.size + 1) := by show _ = _; rw [← hW1]; simp
  clear x0_0 y0_0 x0_1 y0_1 x0_2 y0_2 x0_3 y0_3 x0_4 y0_4 x0_5 y0_5 x0_6 y0_6 x1_0 y1_0 x1_1 y1_1 x1_2 y1_2 e0 e1 e2 e3 e4 t10 t11 t12
  replace gb := below_step gb hb_W1
  obtain ⟨⟨z0, x0_0, x0_1, x0_2, x0_3, x0_4, x0_5, x0_6, y0_0, y0_1, y0_2, y0_3, y0_4, y0_5, y0_6⟩, ⟨z1, x1_0, x1_1, x1_2, y1_0, y1_1, y1_2⟩⟩ := HXW0.out _ gb
  obtain ⟨e0, e1, e2, e3, e4⟩ := (i1.to gb)
  obtain ⟨t10, t11, t12⟩ := (i2.to gb)
  have x2_0 : W1.cell? ⟨W0.heap.size, 0, none⟩ = some (.bool nr1) := by rw [← hW1]; simp [go_sem]
  have y2_0 : W1.frozen? ⟨W0.heap.size, 0, none⟩ = false := by rw [← hW1]; simp [go_sem]
  have x2_1 : W1.cell? ⟨W0.heap.size, 1, none⟩ = some (.slice ra1 rn1 rc1) := by rw [← hW1]; simp [go_sem]
  have y2_1 : W1.frozen? ⟨W0.heap.size, 1, none⟩ = false := by rw [← hW1]; simp [go_sem]
  have x2_2 : W1.cell? ⟨W0.heap.size, 2, none⟩ = some (.slice sa1 sn1 sc1) := by rw [← hW1]; simp [go_sem]
  have y2_2 : W1.frozen? ⟨W0.heap.size, 2, none⟩ = false := by rw [← hW1]; simp [go_sem]
  have z2 : W0.heap.size < W1.heap.size := by rw [← hW1]; simp
  rw [hW1]
  clear hW1
  replace i0 := i0.to gb
  replace i1 := i1.to gb
  replace i2 := i2.to gb
  replace i3 := i3.to gb
  replace zb := below_step zb gb
  have HXW1 := Lib.hid (show ∀ W', Below W1.heap.size W1 W' → (Bx7 W' w.heap.size (.int .i64 op) (.int .i64 to) (.int .i64 (R1 : Int)) (.int .i64 xb) (.bool ng) (.slice a0 n0 c0) (.slice a1 n1 c1) ∧ Bx3 W' (w.heap.size + 1) (.bool false) (.slice none 0 0) (.slice none 0 0) ∧ Bx3 W' W0.heap.size (.bool nr1) (.slice ra1 rn1 rc1) (.slice sa1 sn1 sc1)) from fun W' hb => by
      refine ⟨bx7 hb ?_ ?_ ?_ ?_ ?_ ?_ ?_ ?_ ?_ ?_ ?_ ?_ ?_ ?_, bx3 hb ?_ ?_ ?_ ?_ ?_ ?_, bx3 hb ?_ ?_ ?_ ?_ ?_ ?_⟩
      all_goals first | assumption | assumption)
  replace gb := Below.refl W1.heap.size W1
  go_wp2_with fail
  exact bodyPost_ret (results_Rt Tryz.results98 _ _ _ _ _ _ rfl (Tri.set (x0 := .bool false) (y0 := .slice none 0 0) (z0 := .slice none 0 0) ⟨x1_0, x1_1, x1_2, y1_0, y1_1, y1_2⟩ _ _ _)) rfl ⟨rfl, below_set3 (below_step zb gb) (by omega) _ _ _⟩

set_option maxRecDepth 100000 in
set_option maxHeartbeats 40000000 in
theorem mach_pow_long_a (mB g N : Nat) (u vJ : Value) (rows cols : Int) (op to xb : Int) (ng : Bool) (vn vd : Value) (lw1 lw2 : List Nat) (R1 : Nat) (nr1 : Bool) (vr1 ur1 : Value) {x : Rat}  (w : World) (hw : IsF w vn vd lw1 lw2) (hm : Mach w mB g N u vJ rows cols) (hN : N ≤ 100000) (hr1 : R1 < N) (tr1 : Tri3 w g (R1 * 3) (.bool nr1) vr1 ur1) (qr1 : IsK w nr1 vr1 ur1 x) (hb : -21 ≤ xb ∧ xb ≤ 21) (hg : x ≠ 0) (hl : 4096 < szq x * xb.natAbs)  :
    Calls Tryz.prog 98 #[.pointer (some ⟨mB, 0, none⟩), .agg #[.int .i64 op, .int .i64 to, .int .i64 (R1 : Int), .int .i64 xb, .bool ng, vn, vd]] w (fun e w' => e = .returned (.tuple #[aggR false (.slice none 0 0) (.slice none 0 0), .int .i64 4]) ∧ Below w.heap.size w w') := by
  obtain ⟨a0, n0, c0, rfl, H0, hm0⟩ := hw.1.open
  obtain ⟨a1, n1, c1, rfl, H1, hm1⟩ := hw.2.open
  have qq := qr1.1
  have Hx1 := isQ_sz qq
  obtain ⟨ra1, rn1, rc1, rfl, RH1, rm1⟩ := qr1.1.1.open
  obtain ⟨sa1, sn1, sc1, rfl, SH1, sm1⟩ := qr1.1.2.1.open
  have ri1 : (R1 : Int) < (N : Int) := by omega
  have lm := hm.lt
  have lt1 := tr1.lt
  have Hz := Lib.hid (limbs_zero RH1.out)
  have Hq := Lib.hid (szq_len RH1.out SH1.out)
  have t0 : ((rn1 : Int) == 0) = false := by simp; exact fun e => hg (Hz.out.1 e)
  clear hg
  obtain ⟨m, hm9⟩ : ∃ m : Nat, max rn1 sn1 = m := ⟨_, rfl⟩
  have HM := Lib.hid (show ((max (limbs x.num.natAbs).length (limbs x.den).length : Nat) : Int) = (m : Int) by rw [RH1.out, SH1.out, hm9])
  have Hm := Lib.hid (show szq x = m by rw [Hq.out, hm9])
  have hm10 : m ≤ 1000 := by have := Hx1.out; have := Hm.out; omega
  obtain ⟨k, hk⟩ : ∃ k : Nat, xb.natAbs = k := ⟨_, rfl⟩
  have hk21 : k ≤ 21 := by omega
  have hneg : IntKind.i64.wrap (-xb) = -xb := IntWalk.i64_in _ (by omega)
  have hmax : max xb (-xb) = (k : Int) := by omega
  have hmk : m * k ≤ 1000 * 21 := Nat.mul_le_mul hm10 hk21
  obtain ⟨P, hP⟩ : ∃ P : Nat, m * k = P := ⟨_, rfl⟩
  have hmul : IntKind.i64.wrap ((m : Int) * (k : Int)) = (P : Int) := by
    rw [← Int.natCast_mul, hP]
    exact IntWalk.i64_in _ (by omega)
  rw [hk, Hm.out, hP] at hl
  have t4 : decide (4096 < P) = true := decide_eq_true hl
  have t5 : decide ((4096 : Int) < (P : Int)) = true := decide_eq_true (by omega)
  clear hl hm9 hP hk hmk
  go_enter Tryz.func98, Tryz.ntmps98
  go_wp2_with fail
  obtain ⟨W0, hW0⟩ : ∃ W0, (w.alloc (.cells #[.int .i64 op, .int .i64 to, .int .i64 (R1 : Int), .int .i64 xb, .bool ng, .slice a0 n0 c0, .slice a1 n1 c1] 49)).alloc (.cells #[.bool false, .slice none 0 0, .slice none 0 0] 47) = W0 := ⟨_, rfl⟩
  have HXW0 := Lib.hid (show ∀ W', Below W0.heap.size W0 W' → (Bx7 W' w.heap.size (.int .i64 op) (.int .i64 to) (.int .i64 (R1 : Int)) (.int .i64 xb) (.bool ng) (.slice a0 n0 c0) (.slice a1 n1 c1) ∧ Bx3 W' (w.heap.size + 1) (.bool false) (.slice none 0 0) (.slice none 0 0)) from fun W' hb => by
      refine ⟨bx7 hb ?_ ?_ ?_ ?_ ?_ ?_ ?_ ?_ ?_ ?_ ?_ ?_ ?_ ?_, bx3 hb ?_ ?_ ?_ ?_ ?_ ?_⟩
      all_goals first | assumption | (rw [← hW0]; simp [go_sem]))
  have zb : Below w.heap.size w W0 := by rw [← hW0]; exact below_step (below_new _ _) (below_new _ _)
  rw [hW0]
  clear hW0
  have i0 := hw.to zb
  have i1 := hm.to zb
  have i2 := tr1.to zb
  have i3 := qq.to zb
  have gb : Below W0.heap.size W0 W0 := Below.refl _ _
  obtain ⟨⟨z0, x0_0, x0_1, x0_2, x0_3, x0_4, x0_5, x0_6, y0_0, y0_1, y0_2, y0_3, y0_4, y0_5, y0_6⟩, ⟨z1, x1_0, x1_1, x1_2, y1_0, y1_1, y1_2⟩⟩ := HXW0.out _ gb
  obtain ⟨e0, e1, e2, e3, e4⟩ := (i1.to gb)
  obtain ⟨t10, t11, t12⟩ := (i2.to gb)
  go_wp2_with fail
  have gba : Below W0.heap.size W0 (W0.alloc (.cells #[.bool false, .slice none 0 0, .slice none 0 0] 47)) := below_step gb (below_new _ _)
  obtain ⟨⟨az0, ax0_0, ax0_1, ax0_2, ax0_3, ax0_4, ax0_5, ax0_6, ay0_0, ay0_1, ay0_2, ay0_3, ay0_4, ay0_5, ay0_6⟩, ⟨az1, ax1_0, ax1_1, ax1_2, ay1_0, ay1_1, ay1_2⟩⟩ := HXW0.out _ gba
  obtain ⟨ae0, ae1, ae2, ae3, ae4⟩ := (i1.to gba)
  obtain ⟨at10, at11, at12⟩ := (i2.to gba)
  go_region
  clear gba ax0_0 ay0_0 ax0_1 ay0_1 ax0_2 ay0_2 ax0_3 ay0_3 ax0_4 ay0_4 ax0_5 ay0_5 ax0_6 ay0_6 ax1_0 ay1_0 ax1_1 ay1_1 ax1_2 ay1_2 az0 az1 ae0 ae1 ae2 ae3 ae4 at10 at11 at12
  obtain ⟨W1, hW1⟩ : ∃ W1, (W0.alloc (.cells #[.bool nr1, .slice ra1 rn1 rc1, .slice sa1 sn1 sc1] 47)).drew = W1 := ⟨_, rfl⟩
  have hb_W1 : Below W0.heap.size W0 W1 := by rw [← hW1]; exact (below_new _ _).drew
  have hs_W1 : Hid (W1.heap.size = W0.heap.size + 1) := by show _ = _; rw [← hW1]; simp
  clear x0_0 y0_0 x0_1 y0_1 x0_2 y0_2 x0_3 y0_3 x0_4 y0_4 x0_5 y0_5 x0_6 y0_6 x1_0 y1_0 x1_1 y1_1 x1_2 y1_2 e0 e1 e2 e3 e4 t10 t11 t12
  replace gb := below_step gb hb_W1
  obtain ⟨⟨z0, x0_0, x0_1, x0_2, x0_3, x0_4, x0_5, x0_6, y0_0, y0_1, y0_2, y0_3, y0_4, y0_5, y0_6⟩, ⟨z1, x1_0, x1_1, x1_2, y1_0, y1_1, y1_2⟩⟩ := HXW0.out _ gb
  obtain ⟨e0, e1, e2, e3, e4⟩ := (i1.to gb)
  obtain ⟨t10, t11, t12⟩ := (i2.to gb)
  have x2_0 : W1.cell? ⟨W0.heap.size, 0, none⟩ = some (.bool nr1) := by rw [← hW1]; simp [go_sem]
  have y2_0 : W1.frozen? ⟨W0.heap.size, 0, none⟩ = false := by rw [← hW1]; simp [go_sem]
  have x2_1 : W1.cell? ⟨W0.heap.size, 1, none⟩ = some (.slice ra1 rn1 rc1) := by rw [← hW1]; simp [go_sem]
  have y2_1 : W1.frozen? ⟨W0.heap.size, 1, none⟩ = false := by rw [← hW1]; simp [go_sem]
  have x2_2 : W1.cell? ⟨W0.heap.size, 2, none⟩ = some (.slice sa1 sn1 sc1) := by rw [← hW1]; simp [go_sem]
  have y2_2 : W1.frozen? ⟨W0.heap.size, 2, none⟩ = false := by rw [← hW1]; simp [go_sem]
  have z2 : W0.heap.size < W1.heap.size := by rw [← hW1]; simp
  rw [hW1]
  clear hW1
  replace i0 := i0.to gb
  replace i1 := i1.to gb
  replace i2 := i2.to gb
  replace i3 := i3.to gb
  replace zb := below_step zb gb
  have HXW1 := Lib.hid (show ∀ W', Below W1.heap.size W1 W' → (Bx7 W' w.heap.size (.int .i64 op) (.int .i64 to) (.int .i64 (R1 : Int)) (.int .i64 xb) (.bool ng) (.slice a0 n0 c0) (.slice a1 n1 c1) ∧ Bx3 W' (w.heap.size + 1) (.bool false) (.slice none 0 0) (.slice none 0 0) ∧ Bx3 W' W0.heap.size (.bool nr1) (.slice ra1 rn1 rc1) (.slice sa1 sn1 sc1)) from fun W' hb => by
      refine ⟨bx7 hb ?_ ?_ ?_ ?_ ?_ ?_ ?_ ?_ ?_ ?_ ?_ ?_ ?_ ?_, bx3 hb ?_ ?_ ?_ ?_ ?_ ?_, bx3 hb ?_ ?_ ?_ ?_ ?_ ?_⟩
      all_goals first | assumption | assumption)
  replace gb := Below.refl W1.heap.size W1
  go_wp2_with fail
  have nzx_e0 : mB ≠ w.heap.size + 1 := by omega
  have nzx_e1 : mB ≠ w.heap.size + 1 := by omega
  have nzx_t10 : g ≠ w.heap.size + 1 := by omega
  have nzx_t11 : g ≠ w.heap.size + 1 := by omega
  have nzx_t12 : g ≠ w.heap.size + 1 := by omega
  have nz0 : w.heap.size ≠ w.heap.size + 1 := by omega
  have nz2 : W0.heap.size ≠ w.heap.size + 1 := by omega
  go_region_held3 (fun W' => W'.cell? ⟨w.heap.size, 0, none⟩ = some (.int .i64 op) ∧ W'.cell? ⟨w.heap.size, 1, none⟩ = some (.int .i64 to) ∧ W'.cell? ⟨w.heap.size, 2, none⟩ = some (.int .i64 (R1 : Int)) ∧ W'.cell? ⟨w.heap.size, 3, none⟩ = some (.int .i64 xb) ∧ W'.cell? ⟨w.heap.size, 4, none⟩ = some (.bool ng) ∧ W'.cell? ⟨w.heap.size, 5, none⟩ = some (.slice a0 n0 c0) ∧ W'.cell? ⟨w.heap.size, 6, none⟩ = some (.slice a1 n1 c1) ∧ W'.cell? ⟨W0.heap.size, 0, none⟩ = some (.bool nr1) ∧ W'.cell? ⟨W0.heap.size, 1, none⟩ = some (.slice ra1 rn1 rc1) ∧ W'.cell? ⟨W0.heap.size, 2, none⟩ = some (.slice sa1 sn1 sc1) ∧ W'.cell? ⟨mB, 0, none⟩ = some (u) ∧ W'.cell? ⟨mB, 1, none⟩ = some (.slice (some ⟨g, 0, none⟩) N N) ∧ W'.cell? ⟨g, R1 * 3, none⟩ = some (.bool nr1) ∧ W'.cell? ⟨g, R1 * 3 + 1, none⟩ = some (.slice ra1 rn1 rc1) ∧ W'.cell? ⟨g, R1 * 3 + 2, none⟩ = some (.slice sa1 sn1 sc1)) (first | (with_reducible exact ⟨x0_0, x0_1, x0_2, x0_3, x0_4, x0_5, x0_6, x2_0, x2_1, x2_2, e0, e1, t10, t11, t12⟩) | (with_reducible exact ⟨cell_put (cell_put (cell_put (x0_0) (.inl nz0) _) (.inl nz0) _) (.inl nz0) _, cell_put (cell_put (cell_put (x0_1) (.inl nz0) _) (.inl nz0) _) (.inl nz0) _, cell_put (cell_put (cell_put (x0_2) (.inl nz0) _) (.inl nz0) _) (.inl nz0) _, cell_put (cell_put (cell_put (x0_3) (.inl nz0) _) (.inl nz0) _) (.inl nz0) _, cell_put (cell_put (cell_put (x0_4) (.inl nz0) _) (.inl nz0) _) (.inl nz0) _, cell_put (cell_put (cell_put (x0_5) (.inl nz0) _) (.inl nz0) _) (.inl nz0) _, cell_put (cell_put (cell_put (x0_6) (.inl nz0) _) (.inl nz0) _) (.inl nz0) _, cell_put (cell_put (cell_put (x2_0) (.inl nz2) _) (.inl nz2) _) (.inl nz2) _, cell_put (cell_put (cell_put (x2_1) (.inl nz2) _) (.inl nz2) _) (.inl nz2) _, cell_put (cell_put (cell_put (x2_2) (.inl nz2) _) (.inl nz2) _) (.inl nz2) _, cell_put (cell_put (cell_put (e0) (.inl nzx_e0) _) (.inl nzx_e0) _) (.inl nzx_e0) _, cell_put (cell_put (cell_put (e1) (.inl nzx_e1) _) (.inl nzx_e1) _) (.inl nzx_e1) _, cell_put (cell_put (cell_put (t10) (.inl nzx_t10) _) (.inl nzx_t10) _) (.inl nzx_t10) _, cell_put (cell_put (cell_put (t11) (.inl nzx_t11) _) (.inl nzx_t11) _) (.inl nzx_t11) _, cell_put (cell_put (cell_put (t12) (.inl nzx_t12) _) (.inl nzx_t12) _) (.inl nzx_t12) _⟩) | exact ⟨x0_0, x0_1, x0_2, x0_3, x0_4, x0_5, x0_6, x2_0, x2_1, x2_2, e0, e1, t10, t11, t12⟩) (first
    | (go_at_call 66; have gb := gb.drew; (with_reducible refine (vm_words nr1 _ _ _ _ _ (i3.to gb).isF (m : Int) HM.out).mono ?_); rintro e w1 ⟨rfl, hb1⟩; have gb := below_step gb hb1; obtain ⟨⟨z0, x0_0, x0_1, x0_2, x0_3, x0_4, x0_5, x0_6, y0_0, y0_1, y0_2, y0_3, y0_4, y0_5, y0_6⟩, ⟨z1, x1_0, x1_1, x1_2, y1_0, y1_1, y1_2⟩, ⟨z2, x2_0, x2_1, x2_2, y2_0, y2_1, y2_2⟩⟩ := HXW1.out _ gb; obtain ⟨e0, e1, e2, e3, e4⟩ := (i1.to gb); obtain ⟨t10, t11, t12⟩ := (i2.to gb)))
  all_goals
    clear hmul hneg hmax
    go_wp2_with fail
    exact bodyPost_ret (results_Rt Tryz.results98 _ _ _ _ _ _ rfl (Tri.set (x0 := .bool false) (y0 := .slice none 0 0) (z0 := .slice none 0 0) ⟨x1_0, x1_1, x1_2, y1_0, y1_1, y1_2⟩ _ _ _)) rfl ⟨rfl, below_set3 (below_step zb gb) (by omega) _ _ _⟩

set_option maxRecDepth 100000 in
set_option maxHeartbeats 40000000 in
theorem mach_pow_a_p (mB g N : Nat) (u vJ : Value) (rows cols : Int) (op to xb : Int) (ng : Bool) (vn vd : Value) (lw1 lw2 : List Nat) (R1 : Nat) (nr1 : Bool) (vr1 ur1 : Value) {x : Rat}  (w : World) (hw : IsF w vn vd lw1 lw2) (hm : Mach w mB g N u vJ rows cols) (hN : N ≤ 100000) (hr1 : R1 < N) (tr1 : Tri3 w g (R1 * 3) (.bool nr1) vr1 ur1) (qr1 : IsK w nr1 vr1 ur1 x) (hb : -21 ≤ xb ∧ xb ≤ 21) (hg : x ≠ 0) (hsn : 0 ≤ xb) (hl : szq x * xb.toNat ≤ 999)  :
    Calls Tryz.prog 98 #[.pointer (some ⟨mB, 0, none⟩), .agg #[.int .i64 op, .int .i64 to, .int .i64 (R1 : Int), .int .i64 xb, .bool ng, vn, vd]] w (GivesQK w (x ^ xb.toNat)) := by
  obtain ⟨a0, n0, c0, rfl, H0, hm0⟩ := hw.1.open
  obtain ⟨a1, n1, c1, rfl, H1, hm1⟩ := hw.2.open
  have qq := qr1.1
  have Hx1 := isQ_sz qq
  obtain ⟨ra1, rn1, rc1, rfl, RH1, rm1⟩ := qr1.1.1.open
  obtain ⟨sa1, sn1, sc1, rfl, SH1, sm1⟩ := qr1.1.2.1.open
  have ri1 : (R1 : Int) < (N : Int) := by omega
  have lm := hm.lt
  have lt1 := tr1.lt
  have Hz := Lib.hid (limbs_zero RH1.out)
  have Hq := Lib.hid (szq_len RH1.out SH1.out)
  have t0 : ((rn1 : Int) == 0) = false := by simp; exact fun e => hg (Hz.out.1 e)
  clear hg
  have Hs9 := Lib.hid hl
  obtain ⟨m, hm9⟩ : ∃ m : Nat, max rn1 sn1 = m := ⟨_, rfl⟩
  have HM := Lib.hid (show ((max (limbs x.num.natAbs).length (limbs x.den).length : Nat) : Int) = (m : Int) by rw [RH1.out, SH1.out, hm9])
  have Hm := Lib.hid (show szq x = m by rw [Hq.out, hm9])
  have hm10 : m ≤ 1000 := by have := Hx1.out; have := Hm.out; omega
  obtain ⟨k, hk⟩ : ∃ k : Nat, xb.natAbs = k := ⟨_, rfl⟩
  have hk21 : k ≤ 21 := by omega
  have hneg : IntKind.i64.wrap (-xb) = -xb := IntWalk.i64_in _ (by omega)
  have hmax : max xb (-xb) = (k : Int) := by omega
  have hmk : m * k ≤ 1000 * 21 := Nat.mul_le_mul hm10 hk21
  obtain ⟨P, hP⟩ : ∃ P : Nat, m * k = P := ⟨_, rfl⟩
  have hmul : IntKind.i64.wrap ((m : Int) * (k : Int)) = (P : Int) := by
    rw [← Int.natCast_mul, hP]
    exact IntWalk.i64_in _ (by omega)
  rw [show xb.toNat = k by omega, Hm.out, hP] at hl
  have t4 : decide (4096 < P) = false := decide_eq_false (by omega)
  have t5 : decide ((4096 : Int) < (P : Int)) = false := decide_eq_false (by omega)
  clear hl hm9 hP hk hmk
  go_enter Tryz.func98, Tryz.ntmps98
  go_wp2_with fail
  obtain ⟨W0, hW0⟩ : ∃ W0, (w.alloc (.cells #[.int .i64 op, .int .i64 to, .int .i64 (R1 : Int), .int .i64 xb, .bool ng, .slice a0 n0 c0, .slice a1 n1 c1] 49)).alloc (.cells #[.bool false, .slice none 0 0, .slice none 0 0] 47) = W0 := ⟨_, rfl⟩
  have HXW0 := Lib.hid (show ∀ W', Below W0.heap.size W0 W' → (Bx7 W' w.heap.size (.int .i64 op) (.int .i64 to) (.int .i64 (R1 : Int)) (.int .i64 xb) (.bool ng) (.slice a0 n0 c0) (.slice a1 n1 c1) ∧ Bx3 W' (w.heap.size + 1) (.bool false) (.slice none 0 0) (.slice none 0 0)) from fun W' hb => by
      refine ⟨bx7 hb ?_ ?_ ?_ ?_ ?_ ?_ ?_ ?_ ?_ ?_ ?_ ?_ ?_ ?_, bx3 hb ?_ ?_ ?_ ?_ ?_ ?_⟩
      all_goals first | assumption | (rw [← hW0]; simp [go_sem]))
  have zb : Below w.heap.size w W0 := by rw [← hW0]; exact below_step (below_new _ _) (below_new _ _)
  rw [hW0]
  clear hW0
  have i0 := hw.to zb
  have i1 := hm.to zb
  have i2 := tr1.to zb
  have i3 := qq.to zb
  have gb : Below W0.heap.size W0 W0 := Below.refl _ _
  obtain ⟨⟨z0, x0_0, x0_1, x0_2, x0_3, x0_4, x0_5, x0_6, y0_0, y0_1, y0_2, y0_3, y0_4, y0_5, y0_6⟩, ⟨z1, x1_0, x1_1, x1_2, y1_0, y1_1, y1_2⟩⟩ := HXW0.out _ gb
  obtain ⟨e0, e1, e2, e3, e4⟩ := (i1.to gb)
  obtain ⟨t10, t11, t12⟩ := (i2.to gb)
  go_wp2_with fail
  have gba : Below W0.heap.size W0 (W0.alloc (.cells #[.bool false, .slice none 0 0, .slice none 0 0] 47)) := below_step gb (below_new _ _)
  obtain ⟨⟨az0, ax0_0, ax0_1, ax0_2, ax0_3, ax0_4, ax0_5, ax0_6, ay0_0, ay0_1, ay0_2, ay0_3, ay0_4, ay0_5, ay0_6⟩, ⟨az1, ax1_0, ax1_1, ax1_2, ay1_0, ay1_1, ay1_2⟩⟩ := HXW0.out _ gba
  obtain ⟨ae0, ae1, ae2, ae3, ae4⟩ := (i1.to gba)
  obtain ⟨at10, at11, at12⟩ := (i2.to gba)
  go_region
  clear gba ax0_0 ay0_0 ax0_1 ay0_1 ax0_2 ay0_2 ax0_3 ay0_3 ax0_4 ay0_4 ax0_5 ay0_5 ax0_6 ay0_6 ax1_0 ay1_0 ax1_1 ay1_1 ax1_2 ay1_2 az0 az1 ae0 ae1 ae2 ae3 ae4 at10 at11 at12
  obtain ⟨W1, hW1⟩ : ∃ W1, (W0.alloc (.cells #[.bool nr1, .slice ra1 rn1 rc1, .slice sa1 sn1 sc1] 47)).drew = W1 := ⟨_, rfl⟩
  have hb_W1 : Below W0.heap.size W0 W1 := by rw [← hW1]; exact (below_new _ _).drew
  have hs_W1 : Hid (W1.heap.size = W0.heap.size + 1) := by show _ = _; rw [← hW1]; simp
  clear x0_0 y0_0 x0_1 y0_1 x0_2 y0_2 x0_3 y0_3 x0_4 y0_4 x0_5 y0_5 x0_6 y0_6 x1_0 y1_0 x1_1 y1_1 x1_2 y1_2 e0 e1 e2 e3 e4 t10 t11 t12
  replace gb := below_step gb hb_W1
  obtain ⟨⟨z0, x0_0, x0_1, x0_2, x0_3, x0_4, x0_5, x0_6, y0_0, y0_1, y0_2, y0_3, y0_4, y0_5, y0_6⟩, ⟨z1, x1_0, x1_1, x1_2, y1_0, y1_1, y1_2⟩⟩ := HXW0.out _ gb
  obtain ⟨e0, e1, e2, e3, e4⟩ := (i1.to gb)
  obtain ⟨t10, t11, t12⟩ := (i2.to gb)
  have x2_0 : W1.cell? ⟨W0.heap.size, 0, none⟩ = some (.bool nr1) := by rw [← hW1]; simp [go_sem]
  have y2_0 : W1.frozen? ⟨W0.heap.size, 0, none⟩ = false := by rw [← hW1]; simp [go_sem]
  have x2_1 : W1.cell? ⟨W0.heap.size, 1, none⟩ = some (.slice ra1 rn1 rc1) := by rw [← hW1]; simp [go_sem]
  have y2_1 : W1.frozen? ⟨W0.heap.size, 1, none⟩ = false := by rw [← hW1]; simp [go_sem]
  have x2_2 : W1.cell? ⟨W0.heap.size, 2, none⟩ = some (.slice sa1 sn1 sc1) := by rw [← hW1]; simp [go_sem]
  have y2_2 : W1.frozen? ⟨W0.heap.size, 2, none⟩ = false := by rw [← hW1]; simp [go_sem]
  have z2 : W0.heap.size < W1.heap.size := by rw [← hW1]; simp
  rw [hW1]
  clear hW1
  replace i0 := i0.to gb
  replace i1 := i1.to gb
  replace i2 := i2.to gb
  replace i3 := i3.to gb
  replace zb := below_step zb gb
  have HXW1 := Lib.hid (show ∀ W', Below W1.heap.size W1 W' → (Bx7 W' w.heap.size (.int .i64 op) (.int .i64 to) (.int .i64 (R1 : Int)) (.int .i64 xb) (.bool ng) (.slice a0 n0 c0) (.slice a1 n1 c1) ∧ Bx3 W' (w.heap.size + 1) (.bool false) (.slice none 0 0) (.slice none 0 0) ∧ Bx3 W' W0.heap.size (.bool nr1) (.slice ra1 rn1 rc1) (.slice sa1 sn1 sc1)) from fun W' hb => by
      refine ⟨bx7 hb ?_ ?_ ?_ ?_ ?_ ?_ ?_ ?_ ?_ ?_ ?_ ?_ ?_ ?_, bx3 hb ?_ ?_ ?_ ?_ ?_ ?_, bx3 hb ?_ ?_ ?_ ?_ ?_ ?_⟩
      all_goals first | assumption | assumption)
  replace gb := Below.refl W1.heap.size W1
  go_wp2_with fail
  have nzx_e0 : mB ≠ w.heap.size + 1 := by omega
  have nzx_e1 : mB ≠ w.heap.size + 1 := by omega
  have nzx_t10 : g ≠ w.heap.size + 1 := by omega
  have nzx_t11 : g ≠ w.heap.size + 1 := by omega
  have nzx_t12 : g ≠ w.heap.size + 1 := by omega
  have nz0 : w.heap.size ≠ w.heap.size + 1 := by omega
  have nz2 : W0.heap.size ≠ w.heap.size + 1 := by omega
  go_region_held3 (fun W' => W'.cell? ⟨w.heap.size, 0, none⟩ = some (.int .i64 op) ∧ W'.cell? ⟨w.heap.size, 1, none⟩ = some (.int .i64 to) ∧ W'.cell? ⟨w.heap.size, 2, none⟩ = some (.int .i64 (R1 : Int)) ∧ W'.cell? ⟨w.heap.size, 3, none⟩ = some (.int .i64 xb) ∧ W'.cell? ⟨w.heap.size, 4, none⟩ = some (.bool ng) ∧ W'.cell? ⟨w.heap.size, 5, none⟩ = some (.slice a0 n0 c0) ∧ W'.cell? ⟨w.heap.size, 6, none⟩ = some (.slice a1 n1 c1) ∧ W'.cell? ⟨W0.heap.size, 0, none⟩ = some (.bool nr1) ∧ W'.cell? ⟨W0.heap.size, 1, none⟩ = some (.slice ra1 rn1 rc1) ∧ W'.cell? ⟨W0.heap.size, 2, none⟩ = some (.slice sa1 sn1 sc1) ∧ W'.cell? ⟨mB, 0, none⟩ = some (u) ∧ W'.cell? ⟨mB, 1, none⟩ = some (.slice (some ⟨g, 0, none⟩) N N) ∧ W'.cell? ⟨g, R1 * 3, none⟩ = some (.bool nr1) ∧ W'.cell? ⟨g, R1 * 3 + 1, none⟩ = some (.slice ra1 rn1 rc1) ∧ W'.cell? ⟨g, R1 * 3 + 2, none⟩ = some (.slice sa1 sn1 sc1)) (first | (with_reducible exact ⟨x0_0, x0_1, x0_2, x0_3, x0_4, x0_5, x0_6, x2_0, x2_1, x2_2, e0, e1, t10, t11, t12⟩) | (with_reducible exact ⟨cell_put (cell_put (cell_put (x0_0) (.inl nz0) _) (.inl nz0) _) (.inl nz0) _, cell_put (cell_put (cell_put (x0_1) (.inl nz0) _) (.inl nz0) _) (.inl nz0) _, cell_put (cell_put (cell_put (x0_2) (.inl nz0) _) (.inl nz0) _) (.inl nz0) _, cell_put (cell_put (cell_put (x0_3) (.inl nz0) _) (.inl nz0) _) (.inl nz0) _, cell_put (cell_put (cell_put (x0_4) (.inl nz0) _) (.inl nz0) _) (.inl nz0) _, cell_put (cell_put (cell_put (x0_5) (.inl nz0) _) (.inl nz0) _) (.inl nz0) _, cell_put (cell_put (cell_put (x0_6) (.inl nz0) _) (.inl nz0) _) (.inl nz0) _, cell_put (cell_put (cell_put (x2_0) (.inl nz2) _) (.inl nz2) _) (.inl nz2) _, cell_put (cell_put (cell_put (x2_1) (.inl nz2) _) (.inl nz2) _) (.inl nz2) _, cell_put (cell_put (cell_put (x2_2) (.inl nz2) _) (.inl nz2) _) (.inl nz2) _, cell_put (cell_put (cell_put (e0) (.inl nzx_e0) _) (.inl nzx_e0) _) (.inl nzx_e0) _, cell_put (cell_put (cell_put (e1) (.inl nzx_e1) _) (.inl nzx_e1) _) (.inl nzx_e1) _, cell_put (cell_put (cell_put (t10) (.inl nzx_t10) _) (.inl nzx_t10) _) (.inl nzx_t10) _, cell_put (cell_put (cell_put (t11) (.inl nzx_t11) _) (.inl nzx_t11) _) (.inl nzx_t11) _, cell_put (cell_put (cell_put (t12) (.inl nzx_t12) _) (.inl nzx_t12) _) (.inl nzx_t12) _⟩) | exact ⟨x0_0, x0_1, x0_2, x0_3, x0_4, x0_5, x0_6, x2_0, x2_1, x2_2, e0, e1, t10, t11, t12⟩) (first
    | (go_at_call 66; have gb := gb.drew; (with_reducible refine (vm_words nr1 _ _ _ _ _ (i3.to gb).isF (m : Int) HM.out).mono ?_); rintro e w1 ⟨rfl, hb1⟩; have gb := below_step gb hb1; obtain ⟨⟨z0, x0_0, x0_1, x0_2, x0_3, x0_4, x0_5, x0_6, y0_0, y0_1, y0_2, y0_3, y0_4, y0_5, y0_6⟩, ⟨z1, x1_0, x1_1, x1_2, y1_0, y1_1, y1_2⟩, ⟨z2, x2_0, x2_1, x2_2, y2_0, y2_1, y2_2⟩⟩ := HXW1.out _ gb; obtain ⟨e0, e1, e2, e3, e4⟩ := (i1.to gb); obtain ⟨t10, t11, t12⟩ := (i2.to gb)))
  all_goals
    clear hmul hneg hmax
    go_wp2_with fail
    refine (pow_pos nr1 _ _ _ _ xb _ (i3.to gb) hsn (by omega) Hs9.out).mono ?_
    clear x0_0 y0_0 x0_1 y0_1 x0_2 y0_2 x0_3 y0_3 x0_4 y0_4 x0_5 y0_5 x0_6 y0_6 x1_0 y1_0 x1_1 y1_1 x1_2 y1_2 x2_0 y2_0 x2_1 y2_1 x2_2 y2_2 e0 e1 e2 e3 e4 t10 t11 t12
    rintro e w2 ⟨ng2, a2_, n2_, c2_, p2_, m2_, k2_, rfl, g2, hb2⟩
    replace gb := below_step gb hb2
    obtain ⟨⟨z0, x0_0, x0_1, x0_2, x0_3, x0_4, x0_5, x0_6, y0_0, y0_1, y0_2, y0_3, y0_4, y0_5, y0_6⟩, ⟨z1, x1_0, x1_1, x1_2, y1_0, y1_1, y1_2⟩, ⟨z2, x2_0, x2_1, x2_2, y2_0, y2_1, y2_2⟩⟩ := HXW1.out _ gb
    obtain ⟨e0, e1, e2, e3, e4⟩ := (i1.to gb)
    obtain ⟨t10, t11, t12⟩ := (i2.to gb)
    go_wp2_with fail
    refine bodyPost_ret (results_Rt Tryz.results98 _ _ _ _ _ _ rfl (Tri.set (x0 := .bool false) (y0 := .slice none 0 0) (z0 := .slice none 0 0) ⟨x1_0, x1_1, x1_2, y1_0, y1_1, y1_2⟩ _ _ _)) rfl (finRK (below_step zb gb) (by omega) ?_ g2)
    first | omega | (simp; omega)

set_option maxRecDepth 100000 in
set_option maxHeartbeats 40000000 in
theorem mach_pow_a_n (mB g N : Nat) (u vJ : Value) (rows cols : Int) (op to xb : Int) (ng : Bool) (vn vd : Value) (lw1 lw2 : List Nat) (R1 : Nat) (nr1 : Bool) (vr1 ur1 : Value) {x : Rat}  (w : World) (hw : IsF w vn vd lw1 lw2) (hm : Mach w mB g N u vJ rows cols) (hN : N ≤ 100000) (hr1 : R1 < N) (tr1 : Tri3 w g (R1 * 3) (.bool nr1) vr1 ur1) (qr1 : IsK w nr1 vr1 ur1 x) (hb : -21 ≤ xb ∧ xb ≤ 21) (hg : x ≠ 0) (hsn : xb < 0) (hx0 : x ≠ 0) (hl : szq x * (-xb).toNat ≤ 999)  :
    Calls Tryz.prog 98 #[.pointer (some ⟨mB, 0, none⟩), .agg #[.int .i64 op, .int .i64 to, .int .i64 (R1 : Int), .int .i64 xb, .bool ng, vn, vd]] w (GivesQK w ((x ^ (-xb).toNat)⁻¹)) := by
  obtain ⟨a0, n0, c0, rfl, H0, hm0⟩ := hw.1.open
  obtain ⟨a1, n1, c1, rfl, H1, hm1⟩ := hw.2.open
  have qq := qr1.1
  have Hx1 := isQ_sz qq
  obtain ⟨ra1, rn1, rc1, rfl, RH1, rm1⟩ := qr1.1.1.open
  obtain ⟨sa1, sn1, sc1, rfl, SH1, sm1⟩ := qr1.1.2.1.open
  have ri1 : (R1 : Int) < (N : Int) := by omega
  have lm := hm.lt
  have lt1 := tr1.lt
  have Hz := Lib.hid (limbs_zero RH1.out)
  have Hq := Lib.hid (szq_len RH1.out SH1.out)
  have t0 : ((rn1 : Int) == 0) = false := by simp; exact fun e => hg (Hz.out.1 e)
  clear hg
  have Hx0 := Lib.hid hx0
  clear hx0
  have Hs9 := Lib.hid hl
  obtain ⟨m, hm9⟩ : ∃ m : Nat, max rn1 sn1 = m := ⟨_, rfl⟩
  have HM := Lib.hid (show ((max (limbs x.num.natAbs).length (limbs x.den).length : Nat) : Int) = (m : Int) by rw [RH1.out, SH1.out, hm9])
  have Hm := Lib.hid (show szq x = m by rw [Hq.out, hm9])
  have hm10 : m ≤ 1000 := by have := Hx1.out; have := Hm.out; omega
  obtain ⟨k, hk⟩ : ∃ k : Nat, xb.natAbs = k := ⟨_, rfl⟩
  have hk21 : k ≤ 21 := by omega
  have hneg : IntKind.i64.wrap (-xb) = -xb := IntWalk.i64_in _ (by omega)
  have hmax : max xb (-xb) = (k : Int) := by omega
  have hmk : m * k ≤ 1000 * 21 := Nat.mul_le_mul hm10 hk21
  obtain ⟨P, hP⟩ : ∃ P : Nat, m * k = P := ⟨_, rfl⟩
  have hmul : IntKind.i64.wrap ((m : Int) * (k : Int)) = (P : Int) := by
    rw [← Int.natCast_mul, hP]
    exact IntWalk.i64_in _ (by omega)
  rw [show (-xb).toNat = k by omega, Hm.out, hP] at hl
  have t4 : decide (4096 < P) = false := decide_eq_false (by omega)
  have t5 : decide ((4096 : Int) < (P : Int)) = false := decide_eq_false (by omega)
  clear hl hm9 hP hk hmk
  go_enter Tryz.func98, Tryz.ntmps98
  go_wp2_with fail
  obtain ⟨W0, hW0⟩ : ∃ W0, (w.alloc (.cells #[.int .i64 op, .int .i64 to, .int .i64 (R1 : Int), .int .i64 xb, .bool ng, .slice a0 n0 c0, .slice a1 n1 c1] 49)).alloc (.cells #[.bool false, .slice none 0 0, .slice none 0 0] 47) = W0 := ⟨_, rfl⟩
  have HXW0 := Lib.hid (show ∀ W', Below W0.heap.size W0 W' → (Bx7 W' w.heap.size (.int .i64 op) (.int .i64 to) (.int .i64 (R1 : Int)) (.int .i64 xb) (.bool ng) (.slice a0 n0 c0) (.slice a1 n1 c1) ∧ Bx3 W' (w.heap.size + 1) (.bool false) (.slice none 0 0) (.slice none 0 0)) from fun W' hb => by
      refine ⟨bx7 hb ?_ ?_ ?_ ?_ ?_ ?_ ?_ ?_ ?_ ?_ ?_ ?_ ?_ ?_, bx3 hb ?_ ?_ ?_ ?_ ?_ ?_⟩
      all_goals first | assumption | (rw [← hW0]; simp [go_sem]))
  have zb : Below w.heap.size w W0 := by rw [← hW0]; exact below_step (below_new _ _) (below_new _ _)
  rw [hW0]
  clear hW0
  have i0 := hw.to zb
  have i1 := hm.to zb
  have i2 := tr1.to zb
  have i3 := qq.to zb
  have gb : Below W0.heap.size W0 W0 := Below.refl _ _
  obtain ⟨⟨z0, x0_0, x0_1, x0_2, x0_3, x0_4, x0_5, x0_6, y0_0, y0_1, y0_2, y0_3, y0_4, y0_5, y0_6⟩, ⟨z1, x1_0, x1_1, x1_2, y1_0, y1_1, y1_2⟩⟩ := HXW0.out _ gb
  obtain ⟨e0, e1, e2, e3, e4⟩ := (i1.to gb)
  obtain ⟨t10, t11, t12⟩ := (i2.to gb)
  go_wp2_with fail
  have gba : Below W0.heap.size W0 (W0.alloc (.cells #[.bool false, .slice none 0 0, .slice none 0 0] 47)) := below_step gb (below_new _ _)
  obtain ⟨⟨az0, ax0_0, ax0_1, ax0_2, ax0_3, ax0_4, ax0_5, ax0_6, ay0_0, ay0_1, ay0_2, ay0_3, ay0_4, ay0_5, ay0_6⟩, ⟨az1, ax1_0, ax1_1, ax1_2, ay1_0, ay1_1, ay1_2⟩⟩ := HXW0.out _ gba
  obtain ⟨ae0, ae1, ae2, ae3, ae4⟩ := (i1.to gba)
  obtain ⟨at10, at11, at12⟩ := (i2.to gba)
  go_region
  clear gba ax0_0 ay0_0 ax0_1 ay0_1 ax0_2 ay0_2 ax0_3 ay0_3 ax0_4 ay0_4 ax0_5 ay0_5 ax0_6 ay0_6 ax1_0 ay1_0 ax1_1 ay1_1 ax1_2 ay1_2 az0 az1 ae0 ae1 ae2 ae3 ae4 at10 at11 at12
  obtain ⟨W1, hW1⟩ : ∃ W1, (W0.alloc (.cells #[.bool nr1, .slice ra1 rn1 rc1, .slice sa1 sn1 sc1] 47)).drew = W1 := ⟨_, rfl⟩
  have hb_W1 : Below W0.heap.size W0 W1 := by rw [← hW1]; exact (below_new _ _).drew
  have hs_W1 : Hid (W1.heap.size = W0.heap.size + 1) := by show _ = _; rw [← hW1]; simp
  clear x0_0 y0_0 x0_1 y0_1 x0_2 y0_2 x0_3 y0_3 x0_4 y0_4 x0_5 y0_5 x0_6 y0_6 x1_0 y1_0 x1_1 y1_1 x1_2 y1_2 e0 e1 e2 e3 e4 t10 t11 t12
  replace gb := below_step gb hb_W1
  obtain ⟨⟨z0, x0_0, x0_1, x0_2, x0_3, x0_4, x0_5, x0_6, y0_0, y0_1, y0_2, y0_3, y0_4, y0_5, y0_6⟩, ⟨z1, x1_0, x1_1, x1_2, y1_0, y1_1, y1_2⟩⟩ := HXW0.out _ gb
  obtain ⟨e0, e1, e2, e3, e4⟩ := (i1.to gb)
  obtain ⟨t10, t11, t12⟩ := (i2.to gb)
  have x2_0 : W1.cell? ⟨W0.heap.size, 0, none⟩ = some (.bool nr1) := by rw [← hW1]; simp [go_sem]
  have y2_0 : W1.frozen? ⟨W0.heap.size, 0, none⟩ = false := by rw [← hW1]; simp [go_sem]
  have x2_1 : W1.cell? ⟨W0.heap.size, 1, none⟩ = some (.slice ra1 rn1 rc1) := by rw [← hW1]; simp [go_sem]
  have y2_1 : W1.frozen? ⟨W0.heap.size, 1, none⟩ = false := by rw [← hW1]; simp [go_sem]
  have x2_2 : W1.cell? ⟨W0.heap.size, 2, none⟩ = some (.slice sa1 sn1 sc1) := by rw [← hW1]; simp [go_sem]
  have y2_2 : W1.frozen? ⟨W0.heap.size, 2, none⟩ = false := by rw [← hW1]; simp [go_sem]
  have z2 : W0.heap.size < W1.heap.size := by rw [← hW1]; simp
  rw [hW1]
  clear hW1
  replace i0 := i0.to gb
  replace i1 := i1.to gb
  replace i2 := i2.to gb
  replace i3 := i3.to gb
  replace zb := below_step zb gb
  have HXW1 := Lib.hid (show ∀ W', Below W1.heap.size W1 W' → (Bx7 W' w.heap.size (.int .i64 op) (.int .i64 to) (.int .i64 (R1 : Int)) (.int .i64 xb) (.bool ng) (.slice a0 n0 c0) (.slice a1 n1 c1) ∧ Bx3 W' (w.heap.size + 1) (.bool false) (.slice none 0 0) (.slice none 0 0) ∧ Bx3 W' W0.heap.size (.bool nr1) (.slice ra1 rn1 rc1) (.slice sa1 sn1 sc1)) from fun W' hb => by
      refine ⟨bx7 hb ?_ ?_ ?_ ?_ ?_ ?_ ?_ ?_ ?_ ?_ ?_ ?_ ?_ ?_, bx3 hb ?_ ?_ ?_ ?_ ?_ ?_, bx3 hb ?_ ?_ ?_ ?_ ?_ ?_⟩
      all_goals first | assumption | assumption)
  replace gb := Below.refl W1.heap.size W1
  go_wp2_with fail
  have nzx_e0 : mB ≠ w.heap.size + 1 := by omega
  have nzx_e1 : mB ≠ w.heap.size + 1 := by omega
  have nzx_t10 : g ≠ w.heap.size + 1 := by omega
  have nzx_t11 : g ≠ w.heap.size + 1 := by omega
  have nzx_t12 : g ≠ w.heap.size + 1 := by omega
  have nz0 : w.heap.size ≠ w.heap.size + 1 := by omega
  have nz2 : W0.heap.size ≠ w.heap.size + 1 := by omega
  go_region_held3 (fun W' => W'.cell? ⟨w.heap.size, 0, none⟩ = some (.int .i64 op) ∧ W'.cell? ⟨w.heap.size, 1, none⟩ = some (.int .i64 to) ∧ W'.cell? ⟨w.heap.size, 2, none⟩ = some (.int .i64 (R1 : Int)) ∧ W'.cell? ⟨w.heap.size, 3, none⟩ = some (.int .i64 xb) ∧ W'.cell? ⟨w.heap.size, 4, none⟩ = some (.bool ng) ∧ W'.cell? ⟨w.heap.size, 5, none⟩ = some (.slice a0 n0 c0) ∧ W'.cell? ⟨w.heap.size, 6, none⟩ = some (.slice a1 n1 c1) ∧ W'.cell? ⟨W0.heap.size, 0, none⟩ = some (.bool nr1) ∧ W'.cell? ⟨W0.heap.size, 1, none⟩ = some (.slice ra1 rn1 rc1) ∧ W'.cell? ⟨W0.heap.size, 2, none⟩ = some (.slice sa1 sn1 sc1) ∧ W'.cell? ⟨mB, 0, none⟩ = some (u) ∧ W'.cell? ⟨mB, 1, none⟩ = some (.slice (some ⟨g, 0, none⟩) N N) ∧ W'.cell? ⟨g, R1 * 3, none⟩ = some (.bool nr1) ∧ W'.cell? ⟨g, R1 * 3 + 1, none⟩ = some (.slice ra1 rn1 rc1) ∧ W'.cell? ⟨g, R1 * 3 + 2, none⟩ = some (.slice sa1 sn1 sc1)) (first | (with_reducible exact ⟨x0_0, x0_1, x0_2, x0_3, x0_4, x0_5, x0_6, x2_0, x2_1, x2_2, e0, e1, t10, t11, t12⟩) | (with_reducible exact ⟨cell_put (cell_put (cell_put (x0_0) (.inl nz0) _) (.inl nz0) _) (.inl nz0) _, cell_put (cell_put (cell_put (x0_1) (.inl nz0) _) (.inl nz0) _) (.inl nz0) _, cell_put (cell_put (cell_put (x0_2) (.inl nz0) _) (.inl nz0) _) (.inl nz0) _, cell_put (cell_put (cell_put (x0_3) (.inl nz0) _) (.inl nz0) _) (.inl nz0) _, cell_put (cell_put (cell_put (x0_4) (.inl nz0) _) (.inl nz0) _) (.inl nz0) _, cell_put (cell_put (cell_put (x0_5) (.inl nz0) _) (.inl nz0) _) (.inl nz0) _, cell_put (cell_put (cell_put (x0_6) (.inl nz0) _) (.inl nz0) _) (.inl nz0) _, cell_put (cell_put (cell_put (x2_0) (.inl nz2) _) (.inl nz2) _) (.inl nz2) _, cell_put (cell_put (cell_put (x2_1) (.inl nz2) _) (.inl nz2) _) (.inl nz2) _, cell_put (cell_put (cell_put (x2_2) (.inl nz2) _) (.inl nz2) _) (.inl nz2) _, cell_put (cell_put (cell_put (e0) (.inl nzx_e0) _) (.inl nzx_e0) _) (.inl nzx_e0) _, cell_put (cell_put (cell_put (e1) (.inl nzx_e1) _) (.inl nzx_e1) _) (.inl nzx_e1) _, cell_put (cell_put (cell_put (t10) (.inl nzx_t10) _) (.inl nzx_t10) _) (.inl nzx_t10) _, cell_put (cell_put (cell_put (t11) (.inl nzx_t11) _) (.inl nzx_t11) _) (.inl nzx_t11) _, cell_put (cell_put (cell_put (t12) (.inl nzx_t12) _) (.inl nzx_t12) _) (.inl nzx_t12) _⟩) | exact ⟨x0_0, x0_1, x0_2, x0_3, x0_4, x0_5, x0_6, x2_0, x2_1, x2_2, e0, e1, t10, t11, t12⟩) (first
    | (go_at_call 66; have gb := gb.drew; (with_reducible refine (vm_words nr1 _ _ _ _ _ (i3.to gb).isF (m : Int) HM.out).mono ?_); rintro e w1 ⟨rfl, hb1⟩; have gb := below_step gb hb1; obtain ⟨⟨z0, x0_0, x0_1, x0_2, x0_3, x0_4, x0_5, x0_6, y0_0, y0_1, y0_2, y0_3, y0_4, y0_5, y0_6⟩, ⟨z1, x1_0, x1_1, x1_2, y1_0, y1_1, y1_2⟩, ⟨z2, x2_0, x2_1, x2_2, y2_0, y2_1, y2_2⟩⟩ := HXW1.out _ gb; obtain ⟨e0, e1, e2, e3, e4⟩ := (i1.to gb); obtain ⟨t10, t11, t12⟩ := (i2.to gb)))
  all_goals
    clear hmul hneg hmax
    go_wp2_with fail
    refine (pow_neg nr1 _ _ _ _ xb _ (i3.to gb) (by omega) hsn Hx0.out Hs9.out).mono ?_
    clear x0_0 y0_0 x0_1 y0_1 x0_2 y0_2 x0_3 y0_3 x0_4 y0_4 x0_5 y0_5 x0_6 y0_6 x1_0 y1_0 x1_1 y1_1 x1_2 y1_2 x2_0 y2_0 x2_1 y2_1 x2_2 y2_2 e0 e1 e2 e3 e4 t10 t11 t12
    rintro e w2 ⟨ng2, a2_, n2_, c2_, p2_, m2_, k2_, rfl, g2, hb2⟩
    replace gb := below_step gb hb2
    obtain ⟨⟨z0, x0_0, x0_1, x0_2, x0_3, x0_4, x0_5, x0_6, y0_0, y0_1, y0_2, y0_3, y0_4, y0_5, y0_6⟩, ⟨z1, x1_0, x1_1, x1_2, y1_0, y1_1, y1_2⟩, ⟨z2, x2_0, x2_1, x2_2, y2_0, y2_1, y2_2⟩⟩ := HXW1.out _ gb
    obtain ⟨e0, e1, e2, e3, e4⟩ := (i1.to gb)
    obtain ⟨t10, t11, t12⟩ := (i2.to gb)
    go_wp2_with fail
    refine bodyPost_ret (results_Rt Tryz.results98 _ _ _ _ _ _ rfl (Tri.set (x0 := .bool false) (y0 := .slice none 0 0) (z0 := .slice none 0 0) ⟨x1_0, x1_1, x1_2, y1_0, y1_1, y1_2⟩ _ _ _)) rfl (finRK (below_step zb gb) (by omega) ?_ g2)
    first | omega | (simp; omega)

set_option maxRecDepth 100000 in
set_option maxHeartbeats 40000000 in
theorem mach_pow_long_b (mB g N : Nat) (u vJ : Value) (rows cols : Int) (op to xb : Int) (ng : Bool) (vn vd : Value) (lw1 lw2 : List Nat) (R1 : Nat) (nr1 : Bool) (vr1 ur1 : Value) {x : Rat}  (w : World) (hw : IsF w vn vd lw1 lw2) (hm : Mach w mB g N u vJ rows cols) (hN : N ≤ 100000) (hr1 : R1 < N) (tr1 : Tri3 w g (R1 * 3) (.bool nr1) vr1 ur1) (qr1 : IsK w nr1 vr1 ur1 x) (hb : -21 ≤ xb ∧ xb ≤ 21) (hg : ¬ xb < 0) (hg0 : x = 0) (hl : 4096 < szq x * xb.natAbs)  :
    Calls Tryz.prog 98 #[.pointer (some ⟨mB, 0, none⟩), .agg #[.int .i64 op, .int .i64 to, .int .i64 (R1 : Int), .int .i64 xb, .bool ng, vn, vd]] w (fun e w' => e = .returned (.tuple #[aggR false (.slice none 0 0) (.slice none 0 0), .int .i64 4]) ∧ Below w.heap.size w w') := by
  obtain ⟨a0, n0, c0, rfl, H0, hm0⟩ := hw.1.open
  obtain ⟨a1, n1, c1, rfl, H1, hm1⟩ := hw.2.open
  have qq := qr1.1
  have Hx1 := isQ_sz qq
  obtain ⟨ra1, rn1, rc1, rfl, RH1, rm1⟩ := qr1.1.1.open
  obtain ⟨sa1, sn1, sc1, rfl, SH1, sm1⟩ := qr1.1.2.1.open
  have ri1 : (R1 : Int) < (N : Int) := by omega
  have lm := hm.lt
  have lt1 := tr1.lt
  have Hz := Lib.hid (limbs_zero RH1.out)
  have Hq := Lib.hid (szq_len RH1.out SH1.out)
  have t0 : ((rn1 : Int) == 0) = true := by simp; exact Hz.out.2 hg0
  have tb : decide (xb < 0) = false := decide_eq_false hg
  clear hg hg0
  obtain ⟨m, hm9⟩ : ∃ m : Nat, max rn1 sn1 = m := ⟨_, rfl⟩
  have HM := Lib.hid (show ((max (limbs x.num.natAbs).length (limbs x.den).length : Nat) : Int) = (m : Int) by rw [RH1.out, SH1.out, hm9])
  have Hm := Lib.hid (show szq x = m by rw [Hq.out, hm9])
  have hm10 : m ≤ 1000 := by have := Hx1.out; have := Hm.out; omega
  obtain ⟨k, hk⟩ : ∃ k : Nat, xb.natAbs = k := ⟨_, rfl⟩
  have hk21 : k ≤ 21 := by omega
  have hneg : IntKind.i64.wrap (-xb) = -xb := IntWalk.i64_in _ (by omega)
  have hmax : max xb (-xb) = (k : Int) := by omega
  have hmk : m * k ≤ 1000 * 21 := Nat.mul_le_mul hm10 hk21
  obtain ⟨P, hP⟩ : ∃ P : Nat, m * k = P := ⟨_, rfl⟩
  have hmul : IntKind.i64.wrap ((m : Int) * (k : Int)) = (P : Int) := by
    rw [← Int.natCast_mul, hP]
    exact IntWalk.i64_in _ (by omega)
  rw [hk, Hm.out, hP] at hl
  have t4 : decide (4096 < P) = true := decide_eq_true hl
  have t5 : decide ((4096 : Int) < (P : Int)) = true := decide_eq_true (by omega)
  clear hl hm9 hP hk hmk
  go_enter Tryz.func98, Tryz.ntmps98
  go_wp2_with fail
  obtain ⟨W0, hW0⟩ : ∃ W0, (w.alloc (.cells #[.int .i64 op, .int .i64 to, .int .i64 (R1 : Int), .int .i64 xb, .bool ng, .slice a0 n0 c0, .slice a1 n1 c1] 49)).alloc (.cells #[.bool false, .slice none 0 0, .slice none 0 0] 47) = W0 := ⟨_, rfl⟩
  have HXW0 := Lib.hid (show ∀ W', Below W0.heap.size W0 W' → (Bx7 W' w.heap.size (.int .i64 op) (.int .i64 to) (.int .i64 (R1 : Int)) (.int .i64 xb) (.bool ng) (.slice a0 n0 c0) (.slice a1 n1 c1) ∧ Bx3 W' (w.heap.size + 1) (.bool false) (.slice none 0 0) (.slice none 0 0)) from fun W' hb => by
      refine ⟨bx7 hb ?_ ?_ ?_ ?_ ?_ ?_ ?_ ?_ ?_ ?_ ?_ ?_ ?_ ?_, bx3 hb ?_ ?_ ?_ ?_ ?_ ?_⟩
      all_goals first | assumption | (rw [← hW0]; simp [go_sem]))
  have zb : Below w.heap.size w W0 := by rw [← hW0]; exact below_step (below_new _ _) (below_new _ _)
  rw [hW0]
  clear hW0
  have i0 := hw.to zb
  have i1 := hm.to zb
  have i2 := tr1.to zb
  have i3 := qq.to zb
  have gb : Below W0.heap.size W0 W0 := Below.refl _ _
  obtain ⟨⟨z0, x0_0, x0_1, x0_2, x0_3, x0_4, x0_5, x0_6, y0_0, y0_1, y0_2, y0_3, y0_4, y0_5, y0_6⟩, ⟨z1, x1_0, x1_1, x1_2, y1_0, y1_1, y1_2⟩⟩ := HXW0.out _ gb
  obtain ⟨e0, e1, e2, e3, e4⟩ := (i1.to gb)
  obtain ⟨t10, t11, t12⟩ := (i2.to gb)
  go_wp2_with fail
  have gba : Below W0.heap.size W0 (W0.alloc (.cells #[.bool false, .slice none 0 0, .slice none 0 0] 47)) := below_step gb (below_new _ _)
  obtain ⟨⟨az0, ax0_0, ax0_1, ax0_2, ax0_3, ax0_4, ax0_5, ax0_6, ay0_0, ay0_1, ay0_2, ay0_3, ay0_4, ay0_5, ay0_6⟩, ⟨az1, ax1_0, ax1_1, ax1_2, ay1_0, ay1_1, ay1_2⟩⟩ := HXW0.out _ gba
  obtain ⟨ae0, ae1, ae2, ae3, ae4⟩ := (i1.to gba)
  obtain ⟨at10, at11, at12⟩ := (i2.to gba)
  go_region
  clear gba ax0_0 ay0_0 ax0_1 ay0_1 ax0_2 ay0_2 ax0_3 ay0_3 ax0_4 ay0_4 ax0_5 ay0_5 ax0_6 ay0_6 ax1_0 ay1_0 ax1_1 ay1_1 ax1_2 ay1_2 az0 az1 ae0 ae1 ae2 ae3 ae4 at10 at11 at12
  obtain ⟨W1, hW1⟩ : ∃ W1, (W0.alloc (.cells #[.bool nr1, .slice ra1 rn1 rc1, .slice sa1 sn1 sc1] 47)).drew = W1 := ⟨_, rfl⟩
  have hb_W1 : Below W0.heap.size W0 W1 := by rw [← hW1]; exact (below_new _ _).drew
  have hs_W1 : Hid (W1.heap.size = W0.heap.size + 1) := by show _ = _; rw [← hW1]; simp
  clear x0_0 y0_0 x0_1 y0_1 x0_2 y0_2 x0_3 y0_3 x0_4 y0_4 x0_5 y0_5 x0_6 y0_6 x1_0 y1_0 x1_1 y1_1 x1_2 y1_2 e0 e1 e2 e3 e4 t10 t11 t12
  replace gb := below_step gb hb_W1
  obtain ⟨⟨z0, x0_0, x0_1, x0_2, x0_3, x0_4, x0_5, x0_6, y0_0, y0_1, y0_2, y0_3, y0_4, y0_5, y0_6⟩, ⟨z1, x1_0, x1_1, x1_2, y1_0, y1_1, y1_2⟩⟩ := HXW0.out _ gb
  obtain ⟨e0, e1, e2, e3, e4⟩ := (i1.to gb)
  obtain ⟨t10, t11, t12⟩ := (i2.to gb)
  have x2_0 : W1.cell? ⟨W0.heap.size, 0, none⟩ = some (.bool nr1) := by rw [← hW1]; simp [go_sem]
  have y2_0 : W1.frozen? ⟨W0.heap.size, 0, none⟩ = false := by rw [← hW1]; simp [go_sem]
  have x2_1 : W1.cell? ⟨W0.heap.size, 1, none⟩ = some (.slice ra1 rn1 rc1) := by rw [← hW1]; simp [go_sem]
  have y2_1 : W1.frozen? ⟨W0.heap.size, 1, none⟩ = false := by rw [← hW1]; simp [go_sem]
  have x2_2 : W1.cell? ⟨W0.heap.size, 2, none⟩ = some (.slice sa1 sn1 sc1) := by rw [← hW1]; simp [go_sem]
  have y2_2 : W1.frozen? ⟨W0.heap.size, 2, none⟩ = false := by rw [← hW1]; simp [go_sem]
  have z2 : W0.heap.size < W1.heap.size := by rw [← hW1]; simp
  rw [hW1]
  clear hW1
  replace i0 := i0.to gb
  replace i1 := i1.to gb
  replace i2 := i2.to gb
  replace i3 := i3.to gb
  replace zb := below_step zb gb
  have HXW1 := Lib.hid (show ∀ W', Below W1.heap.size W1 W' → (Bx7 W' w.heap.size (.int .i64 op) (.int .i64 to) (.int .i64 (R1 : Int)) (.int .i64 xb) (.bool ng) (.slice a0 n0 c0) (.slice a1 n1 c1) ∧ Bx3 W' (w.heap.size + 1) (.bool false) (.slice none 0 0) (.slice none 0 0) ∧ Bx3 W' W0.heap.size (.bool nr1) (.slice ra1 rn1 rc1) (.slice sa1 sn1 sc1)) from fun W' hb => by
      refine ⟨bx7 hb ?_ ?_ ?_ ?_ ?_ ?_ ?_ ?_ ?_ ?_ ?_ ?_ ?_ ?_, bx3 hb ?_ ?_ ?_ ?_ ?_ ?_, bx3 hb ?_ ?_ ?_ ?_ ?_ ?_⟩
      all_goals first | assumption | assumption)
  replace gb := Below.refl W1.heap.size W1
  go_wp2_with fail
  have nzx_e0 : mB ≠ w.heap.size + 1 := by omega
  have nzx_e1 : mB ≠ w.heap.size + 1 := by omega
  have nzx_t10 : g ≠ w.heap.size + 1 := by omega
  have nzx_t11 : g ≠ w.heap.size + 1 := by omega
  have nzx_t12 : g ≠ w.heap.size + 1 := by omega
  have nz0 : w.heap.size ≠ w.heap.size + 1 := by omega
  have nz2 : W0.heap.size ≠ w.heap.size + 1 := by omega
  go_region_held3 (fun W' => W'.cell? ⟨w.heap.size, 0, none⟩ = some (.int .i64 op) ∧ W'.cell? ⟨w.heap.size, 1, none⟩ = some (.int .i64 to) ∧ W'.cell? ⟨w.heap.size, 2, none⟩ = some (.int .i64 (R1 : Int)) ∧ W'.cell? ⟨w.heap.size, 3, none⟩ = some (.int .i64 xb) ∧ W'.cell? ⟨w.heap.size, 4, none⟩ = some (.bool ng) ∧ W'.cell? ⟨w.heap.size, 5, none⟩ = some (.slice a0 n0 c0) ∧ W'.cell? ⟨w.heap.size, 6, none⟩ = some (.slice a1 n1 c1) ∧ W'.cell? ⟨W0.heap.size, 0, none⟩ = some (.bool nr1) ∧ W'.cell? ⟨W0.heap.size, 1, none⟩ = some (.slice ra1 rn1 rc1) ∧ W'.cell? ⟨W0.heap.size, 2, none⟩ = some (.slice sa1 sn1 sc1) ∧ W'.cell? ⟨mB, 0, none⟩ = some (u) ∧ W'.cell? ⟨mB, 1, none⟩ = some (.slice (some ⟨g, 0, none⟩) N N) ∧ W'.cell? ⟨g, R1 * 3, none⟩ = some (.bool nr1) ∧ W'.cell? ⟨g, R1 * 3 + 1, none⟩ = some (.slice ra1 rn1 rc1) ∧ W'.cell? ⟨g, R1 * 3 + 2, none⟩ = some (.slice sa1 sn1 sc1)) (first | (with_reducible exact ⟨x0_0, x0_1, x0_2, x0_3, x0_4, x0_5, x0_6, x2_0, x2_1, x2_2, e0, e1, t10, t11, t12⟩) | (with_reducible exact ⟨cell_put (cell_put (cell_put (x0_0) (.inl nz0) _) (.inl nz0) _) (.inl nz0) _, cell_put (cell_put (cell_put (x0_1) (.inl nz0) _) (.inl nz0) _) (.inl nz0) _, cell_put (cell_put (cell_put (x0_2) (.inl nz0) _) (.inl nz0) _) (.inl nz0) _, cell_put (cell_put (cell_put (x0_3) (.inl nz0) _) (.inl nz0) _) (.inl nz0) _, cell_put (cell_put (cell_put (x0_4) (.inl nz0) _) (.inl nz0) _) (.inl nz0) _, cell_put (cell_put (cell_put (x0_5) (.inl nz0) _) (.inl nz0) _) (.inl nz0) _, cell_put (cell_put (cell_put (x0_6) (.inl nz0) _) (.inl nz0) _) (.inl nz0) _, cell_put (cell_put (cell_put (x2_0) (.inl nz2) _) (.inl nz2) _) (.inl nz2) _, cell_put (cell_put (cell_put (x2_1) (.inl nz2) _) (.inl nz2) _) (.inl nz2) _, cell_put (cell_put (cell_put (x2_2) (.inl nz2) _) (.inl nz2) _) (.inl nz2) _, cell_put (cell_put (cell_put (e0) (.inl nzx_e0) _) (.inl nzx_e0) _) (.inl nzx_e0) _, cell_put (cell_put (cell_put (e1) (.inl nzx_e1) _) (.inl nzx_e1) _) (.inl nzx_e1) _, cell_put (cell_put (cell_put (t10) (.inl nzx_t10) _) (.inl nzx_t10) _) (.inl nzx_t10) _, cell_put (cell_put (cell_put (t11) (.inl nzx_t11) _) (.inl nzx_t11) _) (.inl nzx_t11) _, cell_put (cell_put (cell_put (t12) (.inl nzx_t12) _) (.inl nzx_t12) _) (.inl nzx_t12) _⟩) | exact ⟨x0_0, x0_1, x0_2, x0_3, x0_4, x0_5, x0_6, x2_0, x2_1, x2_2, e0, e1, t10, t11, t12⟩) (first
    | (go_at_call 66; have gb := gb.drew; (with_reducible refine (vm_words nr1 _ _ _ _ _ (i3.to gb).isF (m : Int) HM.out).mono ?_); rintro e w1 ⟨rfl, hb1⟩; have gb := below_step gb hb1; obtain ⟨⟨z0, x0_0, x0_1, x0_2, x0_3, x0_4, x0_5, x0_6, y0_0, y0_1, y0_2, y0_3, y0_4, y0_5, y0_6⟩, ⟨z1, x1_0, x1_1, x1_2, y1_0, y1_1, y1_2⟩, ⟨z2, x2_0, x2_1, x2_2, y2_0, y2_1, y2_2⟩⟩ := HXW1.out _ gb; obtain ⟨e0, e1, e2, e3, e4⟩ := (i1.to gb); obtain ⟨t10, t11, t12⟩ := (i2.to gb)))
  all_goals
    clear hmul hneg hmax
    go_wp2_with fail
    exact bodyPost_ret (results_Rt Tryz.results98 _ _ _ _ _ _ rfl (Tri.set (x0 := .bool false) (y0 := .slice none 0 0) (z0 := .slice none 0 0) ⟨x1_0, x1_1, x1_2, y1_0, y1_1, y1_2⟩ _ _ _)) rfl ⟨rfl, below_set3 (below_step zb gb) (by omega) _ _ _⟩

set_option maxRecDepth 100000 in
set_option maxHeartbeats 40000000 in
theorem mach_pow_b_p (mB g N : Nat) (u vJ : Value) (rows cols : Int) (op to xb : Int) (ng : Bool) (vn vd : Value) (lw1 lw2 : List Nat) (R1 : Nat) (nr1 : Bool) (vr1 ur1 : Value) {x : Rat}  (w : World) (hw : IsF w vn vd lw1 lw2) (hm : Mach w mB g N u vJ rows cols) (hN : N ≤ 100000) (hr1 : R1 < N) (tr1 : Tri3 w g (R1 * 3) (.bool nr1) vr1 ur1) (qr1 : IsK w nr1 vr1 ur1 x) (hb : -21 ≤ xb ∧ xb ≤ 21) (hg : ¬ xb < 0) (hg0 : x = 0) (hsn : 0 ≤ xb) (hl : szq x * xb.toNat ≤ 999)  :
    Calls Tryz.prog 98 #[.pointer (some ⟨mB, 0, none⟩), .agg #[.int .i64 op, .int .i64 to, .int .i64 (R1 : Int), .int .i64 xb, .bool ng, vn, vd]] w (GivesQK w (x ^ xb.toNat)) := by
  obtain ⟨a0, n0, c0, rfl, H0, hm0⟩ := hw.1.open
  obtain ⟨a1, n1, c1, rfl, H1, hm1⟩ := hw.2.open
  have qq := qr1.1
  have Hx1 := isQ_sz qq
  obtain ⟨ra1, rn1, rc1, rfl, RH1, rm1⟩ := qr1.1.1.open
  obtain ⟨sa1, sn1, sc1, rfl, SH1, sm1⟩ := qr1.1.2.1.open
  have ri1 : (R1 : Int) < (N : Int) := by omega
  have lm := hm.lt
  have lt1 := tr1.lt
  have Hz := Lib.hid (limbs_zero RH1.out)
  have Hq := Lib.hid (szq_len RH1.out SH1.out)
  have t0 : ((rn1 : Int) == 0) = true := by simp; exact Hz.out.2 hg0
  have tb : decide (xb < 0) = false := decide_eq_false hg
  clear hg hg0
  have Hs9 := Lib.hid hl
  obtain ⟨m, hm9⟩ : ∃ m : Nat, max rn1 sn1 = m := ⟨_, rfl⟩
  have HM := Lib.hid (show ((max (limbs x.num.natAbs).length (limbs x.den).length : Nat) : Int) = (m : Int) by rw [RH1.out, SH1.out, hm9])
  have Hm := Lib.hid (show szq x = m by rw [Hq.out, hm9])
  have hm10 : m ≤ 1000 := by have := Hx1.out; have := Hm.out; omega
  obtain ⟨k, hk⟩ : ∃ k : Nat, xb.natAbs = k := ⟨_, rfl⟩
  have hk21 : k ≤ 21 := by omega
  have hneg : IntKind.i64.wrap (-xb) = -xb := IntWalk.i64_in _ (by omega)
  have hmax : max xb (-xb) = (k : Int) := by omega
  have hmk : m * k ≤ 1000 * 21 := Nat.mul_le_mul hm10 hk21
  obtain ⟨P, hP⟩ : ∃ P : Nat, m * k = P := ⟨_, rfl⟩
  have hmul : IntKind.i64.wrap ((m : Int) * (k : Int)) = (P : Int) := by
    rw [← Int.natCast_mul, hP]
    exact IntWalk.i64_in _ (by omega)
  rw [show xb.toNat = k by omega, Hm.out, hP] at hl
  have t4 : decide (4096 < P) = false := decide_eq_false (by omega)
  have t5 : decide ((4096 : Int) < (P : Int)) = false := decide_eq_false (by omega)
  clear hl hm9 hP hk hmk
  go_enter Tryz.func98, Tryz.ntmps98
  go_wp2_with fail
  obtain ⟨W0, hW0⟩ : ∃ W0, (w.alloc (.cells #[.int .i64 op, .int .i64 to, .int .i64 (R1 : Int), .int .i64 xb, .bool ng, .slice a0 n0 c0, .slice a1 n1 c1] 49)).alloc (.cells #[.bool false, .slice none 0 0, .slice none 0 0] 47) = W0 := ⟨_, rfl⟩
  have HXW0 := Lib.hid (show ∀ W', Below W0.heap.size W0 W' → (Bx7 W' w.heap.size (.int .i64 op) (.int .i64 to) (.int .i64 (R1 : Int)) (.int .i64 xb) (.bool ng) (.slice a0 n0 c0) (.slice a1 n1 c1) ∧ Bx3 W' (w.heap.size + 1) (.bool false) (.slice none 0 0) (.slice none 0 0)) from fun W' hb => by
      refine ⟨bx7 hb ?_ ?_ ?_ ?_ ?_ ?_ ?_ ?_ ?_ ?_ ?_ ?_ ?_ ?_, bx3 hb ?_ ?_ ?_ ?_ ?_ ?_⟩
      all_goals first | assumption | (rw [← hW0]; simp [go_sem]))
  have zb : Below w.heap.size w W0 := by rw [← hW0]; exact below_step (below_new _ _) (below_new _ _)
  rw [hW0]
  clear hW0
  have i0 := hw.to zb
  have i1 := hm.to zb
  have i2 := tr1.to zb
  have i3 := qq.to zb
  have gb : Below W0.heap.size W0 W0 := Below.refl _ _
  obtain ⟨⟨z0, x0_0, x0_1, x0_2, x0_3, x0_4, x0_5, x0_6, y0_0, y0_1, y0_2, y0_3, y0_4, y0_5, y0_6⟩, ⟨z1, x1_0, x1_1, x1_2, y1_0, y1_1, y1_2⟩⟩ := HXW0.out _ gb
  obtain ⟨e0, e1, e2, e3, e4⟩ := (i1.to gb)
  obtain ⟨t10, t11, t12⟩ := (i2.to gb)
  go_wp2_with fail
  have gba : Below W0.heap.size W0 (W0.alloc (.cells #[.bool false, .slice none 0 0, .slice none 0 0] 47)) := below_step gb (below_new _ _)
  obtain ⟨⟨az0, ax0_0, ax0_1, ax0_2, ax0_3, ax0_4, ax0_5, ax0_6, ay0_0, ay0_1, ay0_2, ay0_3, ay0_4, ay0_5, ay0_6⟩, ⟨az1, ax1_0, ax1_1, ax1_2, ay1_0, ay1_1, ay1_2⟩⟩ := HXW0.out _ gba
  obtain ⟨ae0, ae1, ae2, ae3, ae4⟩ := (i1.to gba)
  obtain ⟨at10, at11, at12⟩ := (i2.to gba)
  go_region
  clear gba ax0_0 ay0_0 ax0_1 ay0_1 ax0_2 ay0_2 ax0_3 ay0_3 ax0_4 ay0_4 ax0_5 ay0_5 ax0_6 ay0_6 ax1_0 ay1_0 ax1_1 ay1_1 ax1_2 ay1_2 az0 az1 ae0 ae1 ae2 ae3 ae4 at10 at11 at12
  obtain ⟨W1, hW1⟩ : ∃ W1, (W0.alloc (.cells #[.bool nr1, .slice ra1 rn1 rc1, .slice sa1 sn1 sc1] 47)).drew = W1 := ⟨_, rfl⟩
  have hb_W1 : Below W0.heap.size W0 W1 := by rw [← hW1]; exact (below_new _ _).drew
  have hs_W1 : Hid (W1.heap.size = W0.heap.size + 1) := by show _ = _; rw [← hW1]; simp
  clear x0_0 y0_0 x0_1 y0_1 x0_2 y0_2 x0_3 y0_3 x0_4 y0_4 x0_5 y0_5 x0_6 y0_6 x1_0 y1_0 x1_1 y1_1 x1_2 y1_2 e0 e1 e2 e3 e4 t10 t11 t12
  replace gb := below_step gb hb_W1
  obtain ⟨⟨z0, x0_0, x0_1, x0_2, x0_3, x0_4, x0_5, x0_6, y0_0, y0_1, y0_2, y0_3, y0_4, y0_5, y0_6⟩, ⟨z1, x1_0, x1_1, x1_2, y1_0, y1_1, y1_2⟩⟩ := HXW0.out _ gb
  obtain ⟨e0, e1, e2, e3, e4⟩ := (i1.to gb)
  obtain ⟨t10, t11, t12⟩ := (i2.to gb)
  have x2_0 : W1.cell? ⟨W0.heap.size, 0, none⟩ = some (.bool nr1) := by rw [← hW1]; simp [go_sem]
  have y2_0 : W1.frozen? ⟨W0.heap.size, 0, none⟩ = false := by rw [← hW1]; simp [go_sem]
  have x2_1 : W1.cell? ⟨W0.heap.size, 1, none⟩ = some (.slice ra1 rn1 rc1) := by rw [← hW1]; simp [go_sem]
  have y2_1 : W1.frozen? ⟨W0.heap.size, 1, none⟩ = false := by rw [← hW1]; simp [go_sem]
  have x2_2 : W1.cell? ⟨W0.heap.size, 2, none⟩ = some (.slice sa1 sn1 sc1) := by rw [← hW1]; simp [go_sem]
  have y2_2 : W1.frozen? ⟨W0.heap.size, 2, none⟩ = false := by rw [← hW1]; simp [go_sem]
  have z2 : W0.heap.size < W1.heap.size := by rw [← hW1]; simp
  rw [hW1]
  clear hW1
  replace i0 := i0.to gb
  replace i1 := i1.to gb
  replace i2 := i2.to gb
  replace i3 := i3.to gb
  replace zb := below_step zb gb
  have HXW1 := Lib.hid (show ∀ W', Below W1.heap.size W1 W' → (Bx7 W' w.heap.size (.int .i64 op) (.int .i64 to) (.int .i64 (R1 : Int)) (.int .i64 xb) (.bool ng) (.slice a0 n0 c0) (.slice a1 n1 c1) ∧ Bx3 W' (w.heap.size + 1) (.bool false) (.slice none 0 0) (.slice none 0 0) ∧ Bx3 W' W0.heap.size (.bool nr1) (.slice ra1 rn1 rc1) (.slice sa1 sn1 sc1)) from fun W' hb => by
      refine ⟨bx7 hb ?_ ?_ ?_ ?_ ?_ ?_ ?_ ?_ ?_ ?_ ?_ ?_ ?_ ?_, bx3 hb ?_ ?_ ?_ ?_ ?_ ?_, bx3 hb ?_ ?_ ?_ ?_ ?_ ?_⟩
      all_goals first | assumption | assumption)
  replace gb := Below.refl W1.heap.size W1
  go_wp2_with fail
  have nzx_e0 : mB ≠ w.heap.size + 1 := by omega
  have nzx_e1 : mB ≠ w.heap.size + 1 := by omega
  have nzx_t10 : g ≠ w.heap.size + 1 := by omega
  have nzx_t11 : g ≠ w.heap.size + 1 := by omega
  have nzx_t12 : g ≠ w.heap.size + 1 := by omega
  have nz0 : w.heap.size ≠ w.heap.size + 1 := by omega
  have nz2 : W0.heap.size ≠ w.heap.size + 1 := by omega
  go_region_held3 (fun W' => W'.cell? ⟨w.heap.size, 0, none⟩ = some (.int .i64 op) ∧ W'.cell? ⟨w.heap.size, 1, none⟩ = some (.int .i64 to) ∧ W'.cell? ⟨w.heap.size, 2, none⟩ = some (.int .i64 (R1 : Int)) ∧ W'.cell? ⟨w.heap.size, 3, none⟩ = some (.int .i64 xb) ∧ W'.cell? ⟨w.heap.size, 4, none⟩ = some (.bool ng) ∧ W'.cell? ⟨w.heap.size, 5, none⟩ = some (.slice a0 n0 c0) ∧ W'.cell? ⟨w.heap.size, 6, none⟩ = some (.slice a1 n1 c1) ∧ W'.cell? ⟨W0.heap.size, 0, none⟩ = some (.bool nr1) ∧ W'.cell? ⟨W0.heap.size, 1, none⟩ = some (.slice ra1 rn1 rc1) ∧ W'.cell? ⟨W0.heap.size, 2, none⟩ = some (.slice sa1 sn1 sc1) ∧ W'.cell? ⟨mB, 0, none⟩ = some (u) ∧ W'.cell? ⟨mB, 1, none⟩ = some (.slice (some ⟨g, 0, none⟩) N N) ∧ W'.cell? ⟨g, R1 * 3, none⟩ = some (.bool nr1) ∧ W'.cell? ⟨g, R1 * 3 + 1, none⟩ = some (.slice ra1 rn1 rc1) ∧ W'.cell? ⟨g, R1 * 3 + 2, none⟩ = some (.slice sa1 sn1 sc1)) (first | (with_reducible exact ⟨x0_0, x0_1, x0_2, x0_3, x0_4, x0_5, x0_6, x2_0, x2_1, x2_2, e0, e1, t10, t11, t12⟩) | (with_reducible exact ⟨cell_put (cell_put (cell_put (x0_0) (.inl nz0) _) (.inl nz0) _) (.inl nz0) _, cell_put (cell_put (cell_put (x0_1) (.inl nz0) _) (.inl nz0) _) (.inl nz0) _, cell_put (cell_put (cell_put (x0_2) (.inl nz0) _) (.inl nz0) _) (.inl nz0) _, cell_put (cell_put (cell_put (x0_3) (.inl nz0) _) (.inl nz0) _) (.inl nz0) _, cell_put (cell_put (cell_put (x0_4) (.inl nz0) _) (.inl nz0) _) (.inl nz0) _, cell_put (cell_put (cell_put (x0_5) (.inl nz0) _) (.inl nz0) _) (.inl nz0) _, cell_put (cell_put (cell_put (x0_6) (.inl nz0) _) (.inl nz0) _) (.inl nz0) _, cell_put (cell_put (cell_put (x2_0) (.inl nz2) _) (.inl nz2) _) (.inl nz2) _, cell_put (cell_put (cell_put (x2_1) (.inl nz2) _) (.inl nz2) _) (.inl nz2) _, cell_put (cell_put (cell_put (x2_2) (.inl nz2) _) (.inl nz2) _) (.inl nz2) _, cell_put (cell_put (cell_put (e0) (.inl nzx_e0) _) (.inl nzx_e0) _) (.inl nzx_e0) _, cell_put (cell_put (cell_put (e1) (.inl nzx_e1) _) (.inl nzx_e1) _) (.inl nzx_e1) _, cell_put (cell_put (cell_put (t10) (.inl nzx_t10) _) (.inl nzx_t10) _) (.inl nzx_t10) _, cell_put (cell_put (cell_put (t11) (.inl nzx_t11) _) (.inl nzx_t11) _) (.inl nzx_t11) _, cell_put (cell_put (cell_put (t12) (.inl nzx_t12) _) (.inl nzx_t12) _) (.inl nzx_t12) _⟩) | exact ⟨x0_0, x0_1, x0_2, x0_3, x0_4, x0_5, x0_6, x2_0, x2_1, x2_2, e0, e1, t10, t11, t12⟩) (first
    | (go_at_call 66; have gb := gb.drew; (with_reducible refine (vm_words nr1 _ _ _ _ _ (i3.to gb).isF (m : Int) HM.out).mono ?_); rintro e w1 ⟨rfl, hb1⟩; have gb := below_step gb hb1; obtain ⟨⟨z0, x0_0, x0_1, x0_2, x0_3, x0_4, x0_5, x0_6, y0_0, y0_1, y0_2, y0_3, y0_4, y0_5, y0_6⟩, ⟨z1, x1_0, x1_1, x1_2, y1_0, y1_1, y1_2⟩, ⟨z2, x2_0, x2_1, x2_2, y2_0, y2_1, y2_2⟩⟩ := HXW1.out _ gb; obtain ⟨e0, e1, e2, e3, e4⟩ := (i1.to gb); obtain ⟨t10, t11, t12⟩ := (i2.to gb)))
  all_goals
    clear hmul hneg hmax
    go_wp2_with fail
    refine (pow_pos nr1 _ _ _ _ xb _ (i3.to gb) hsn (by omega) Hs9.out).mono ?_
    clear x0_0 y0_0 x0_1 y0_1 x0_2 y0_2 x0_3 y0_3 x0_4 y0_4 x0_5 y0_5 x0_6 y0_6 x1_0 y1_0 x1_1 y1_1 x1_2 y1_2 x2_0 y2_0 x2_1 y2_1 x2_2 y2_2 e0 e1 e2 e3 e4 t10 t11 t12
    rintro e w2 ⟨ng2, a2_, n2_, c2_, p2_, m2_, k2_, rfl, g2, hb2⟩
    replace gb := below_step gb hb2
    obtain ⟨⟨z0, x0_0, x0_1, x0_2, x0_3, x0_4, x0_5, x0_6, y0_0, y0_1, y0_2, y0_3, y0_4, y0_5, y0_6⟩, ⟨z1, x1_0, x1_1, x1_2, y1_0, y1_1, y1_2⟩, ⟨z2, x2_0, x2_1, x2_2, y2_0, y2_1, y2_2⟩⟩ := HXW1.out _ gb
    obtain ⟨e0, e1, e2, e3, e4⟩ := (i1.to gb)
    obtain ⟨t10, t11, t12⟩ := (i2.to gb)
    go_wp2_with fail
    refine bodyPost_ret (results_Rt Tryz.results98 _ _ _ _ _ _ rfl (Tri.set (x0 := .bool false) (y0 := .slice none 0 0) (z0 := .slice none 0 0) ⟨x1_0, x1_1, x1_2, y1_0, y1_1, y1_2⟩ _ _ _)) rfl (finRK (below_step zb gb) (by omega) ?_ g2)
    first | omega | (simp; omega)

end Go.Proofs.YtkjcdnlpjldhaaaGreat

