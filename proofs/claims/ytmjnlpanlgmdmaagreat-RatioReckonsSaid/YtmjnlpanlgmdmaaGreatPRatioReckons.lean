/-
  RatioReckons of the given program is true for every input, and leaves its arguments as they were (the statement Rows.RatioReckonsSaid, no condition added). The frame is our own, after the kit's proof-skeleton; the walk is in the texts that are imported.
-/
import Derived.Test.YtmjnlpanlgmdmaaGreatWLaw8g
import Derived.Test.YtmjnlpanlgmdmaaGreatWFrame
import Derived.WalkKit
import Derived.ProofKit
import Derived.OpenShut
import Derived.ShutString
import Derived.ChangeOld
import Derived.Below
import Derived.Lib.SmallJoins
namespace Go.Proofs.YtmjnlpanlgmdmaaGreat.ratioReckons
open Go.ChangeShapes Go.WideShapes Go.ChangeAt Go.RowKit
open Go.ChangeMaps (open_string shut_string)
set_option linter.unusedVariables false
set_option linter.unusedSimpArgs false

theorem own : ownKnob Tryz.prog.godebug = none := by kernel_rfl
theorem laidOut : laidOutB Tryz.prog = true := by kernel_rfl

/-- What the walk is told of a slice of integers that came in: it is nil; or it leads to a row of 'cap' cells, the numbers 'zs', each fitting its kind. -/
def IsRow (k : IntKind) (w : World) (a : Option Addr) (len cap : Nat) (zs : List Int) : Prop :=
  (a = none ∧ len = 0 ∧ cap = 0 ∧ zs = []) ∨
  ∃ x, a = some x ∧ len ≤ cap ∧ cap ≤ maxLen ∧ zs.length = cap ∧ (∀ i, i < zs.length → w.cell? (x.add i) = some (.int k (zs.getD i 0))) ∧ ∀ n ∈ zs, (Lit.int k n).wf = true

theorem walk (b0 : Bool) (a0_1 : Option Addr) (len0_1 cap0_1 : Nat) (z0_1 : List Int) (a0_2 : Option Addr) (len0_2 cap0_2 : Nat) (z0_2 : List Int) (b1 : Bool) (a1_1 : Option Addr) (len1_1 cap1_1 : Nat) (z1_1 : List Int) (a1_2 : Option Addr) (len1_2 cap1_2 : Nat) (z1_2 : List Int) (w : World) (w0_1 : IsRow .u32 w a0_1 len0_1 cap0_1 z0_1) (w0_2 : IsRow .u32 w a0_2 len0_2 cap0_2 z0_2) (w1_1 : IsRow .u32 w a1_1 len1_1 cap1_1 z1_1) (w1_2 : IsRow .u32 w a1_2 len1_2 cap1_2 z1_2) :
    Calls Tryz.prog 3 #[.agg #[.bool b0, .slice a0_1 len0_1 cap0_1, .slice a0_2 len0_2 cap0_2], .agg #[.bool b1, .slice a1_1 len1_1 cap1_1, .slice a1_2 len1_2 cap1_2]] w fun e w' => e = .returned (.bool true) ∧ Below w.heap.size w w' := by
  obtain ⟨l0_1, hl0_1⟩ := rd_of_row w0_1
  obtain ⟨l0_2, hl0_2⟩ := rd_of_row w0_2
  obtain ⟨l1_1, hl1_1⟩ := rd_of_row w1_1
  obtain ⟨l1_2, hl1_2⟩ := rd_of_row w1_2
  exact walk_RatioReckons b0 (.slice a0_1 len0_1 cap0_1) l0_1 (.slice a0_2 len0_2 cap0_2) l0_2 b1 (.slice a1_1 len1_1 cap1_1) l1_1 (.slice a1_2 len1_2 cap1_2) l1_2 w hl0_1 hl0_2 hl1_1 hl1_2

set_option maxRecDepth 100000 in
theorem lifted (os : Os) (started : os.Started) (H : Type) (enc : TypeId × Value → H) :
    ReturnsInHanded {} Tryz.checked os 3 .any (Rows.ratioReckonsSpec.pre6 enc Tryz.prog Tryz.f3 Rows.ratioReckonsRow.domain false) (Rows.ratioReckonsSpec.post enc Tryz.prog Tryz.f3 false true false false) := by
  refine returnsInHanded_of_change (C := Tryz.checked) own started (by kernel_rfl) Tryz.func3
    (ChangeSpec.witness6 (enc := enc) (C := Tryz.checked) false ⟨#[], #[.agg #[.bool false, .slice none 0 0, .slice none 0 0], .agg #[.bool false, .slice none 0 0, .slice none 0 0]], []⟩ 8 (by kernel_rfl) (by kernel_rfl) (by kernel_rfl) (by kernel_rfl)) ?_
  intro W base args ds gs before hval0 hW hcnd _
  have hval : ∀ (j : Nat) t v, Tryz.f3.params[j]? = some t → args[j]? = some v → Value.okWide Tryz.prog W .any base t v := hval0
  have hW' := hW
  obtain ⟨p, q, hA0, hV, rfl, hfz, hnd⟩ := hW
  have hA : DataW.TrodAll enc Tryz.prog W 0 (fun _ => true) true Tryz.f3.params.toList args.toList ds p := hA0
  rw [Tryz.params3] at hA hval
  obtain ⟨v0, vs0, d0, ds0, p0, q0, hargs, rfl, rfl, h0, r0⟩ := trodAll_cons hA
  obtain ⟨v1, vs1, d1, ds1, p1, q1, rfl, rfl, rfl, h1, r1⟩ := trodAll_cons r0
  obtain ⟨rfl, rfl, rfl⟩ := trodAll_nil r1
  obtain rfl : args = #[v0, v1] := by cases args; simp_all
  obtain ⟨rfl, rfl⟩ := trodVars_none hV
  have k0 := h0
  have lt0 : ∀ x ∈ p0, x.block < W.heap.size := by obtain ⟨m, hm⟩ := k0; exact DataW.trod_lt m _ _ _ hm
  obtain ⟨c0_0, c0_1, c0_2, y0_0, y0_1, y0_2, m0, rfl, rfl, hp0, hy0_0, hy0_1, hy0_2⟩ := Go.Joins.open_agg3 Tryz.underlying24 (by kernel_rfl) (by kernel_rfl) (hval 0 24 v0 rfl rfl) h0
  obtain ⟨b0, hb0, _⟩ := DataW.trod_bool Tryz.underlying4 hy0_0
  obtain rfl : c0_0 = .bool b0 := by simpa using hb0
  obtain ⟨a0_1, len0_1, cap0_1, hs0_1⟩ := Go.Joins.slice_form Tryz.underlying22 hy0_1
  obtain rfl : c0_1 = .slice a0_1 len0_1 cap0_1 := by simpa using hs0_1
  obtain ⟨z0_1, w0_1⟩ : ∃ zs, IsRow .u32 W a0_1 len0_1 cap0_1 zs := by
    rcases open_ints Tryz.underlying22 Tryz.underlying72 (by kernel_rfl) hy0_1 with ⟨hcs, _⟩ | ⟨x, l, c, zs, hcs, _, hl, hm, hz, _, hcell, hwz⟩
    · simp [Value.cells] at hcs
      obtain ⟨rfl, rfl, rfl⟩ := hcs
      exact ⟨[], .inl ⟨rfl, rfl, rfl, rfl⟩⟩
    · simp [Value.cells] at hcs
      obtain ⟨rfl, rfl, rfl⟩ := hcs
      exact ⟨zs, .inr ⟨_, rfl, hl, hm, by simpa using hz, hcell, hwz⟩⟩
  obtain ⟨a0_2, len0_2, cap0_2, hs0_2⟩ := Go.Joins.slice_form Tryz.underlying22 hy0_2
  obtain rfl : c0_2 = .slice a0_2 len0_2 cap0_2 := by simpa using hs0_2
  obtain ⟨z0_2, w0_2⟩ : ∃ zs, IsRow .u32 W a0_2 len0_2 cap0_2 zs := by
    rcases open_ints Tryz.underlying22 Tryz.underlying72 (by kernel_rfl) hy0_2 with ⟨hcs, _⟩ | ⟨x, l, c, zs, hcs, _, hl, hm, hz, _, hcell, hwz⟩
    · simp [Value.cells] at hcs
      obtain ⟨rfl, rfl, rfl⟩ := hcs
      exact ⟨[], .inl ⟨rfl, rfl, rfl, rfl⟩⟩
    · simp [Value.cells] at hcs
      obtain ⟨rfl, rfl, rfl⟩ := hcs
      exact ⟨zs, .inr ⟨_, rfl, hl, hm, by simpa using hz, hcell, hwz⟩⟩
  have k1 := h1
  have lt1 : ∀ x ∈ p1, x.block < W.heap.size := by obtain ⟨m, hm⟩ := k1; exact DataW.trod_lt m _ _ _ hm
  obtain ⟨c1_0, c1_1, c1_2, y1_0, y1_1, y1_2, m1, rfl, rfl, hp1, hy1_0, hy1_1, hy1_2⟩ := Go.Joins.open_agg3 Tryz.underlying24 (by kernel_rfl) (by kernel_rfl) (hval 1 24 v1 rfl rfl) h1
  obtain ⟨b1, hb1, _⟩ := DataW.trod_bool Tryz.underlying4 hy1_0
  obtain rfl : c1_0 = .bool b1 := by simpa using hb1
  obtain ⟨a1_1, len1_1, cap1_1, hs1_1⟩ := Go.Joins.slice_form Tryz.underlying22 hy1_1
  obtain rfl : c1_1 = .slice a1_1 len1_1 cap1_1 := by simpa using hs1_1
  obtain ⟨z1_1, w1_1⟩ : ∃ zs, IsRow .u32 W a1_1 len1_1 cap1_1 zs := by
    rcases open_ints Tryz.underlying22 Tryz.underlying72 (by kernel_rfl) hy1_1 with ⟨hcs, _⟩ | ⟨x, l, c, zs, hcs, _, hl, hm, hz, _, hcell, hwz⟩
    · simp [Value.cells] at hcs
      obtain ⟨rfl, rfl, rfl⟩ := hcs
      exact ⟨[], .inl ⟨rfl, rfl, rfl, rfl⟩⟩
    · simp [Value.cells] at hcs
      obtain ⟨rfl, rfl, rfl⟩ := hcs
      exact ⟨zs, .inr ⟨_, rfl, hl, hm, by simpa using hz, hcell, hwz⟩⟩
  obtain ⟨a1_2, len1_2, cap1_2, hs1_2⟩ := Go.Joins.slice_form Tryz.underlying22 hy1_2
  obtain rfl : c1_2 = .slice a1_2 len1_2 cap1_2 := by simpa using hs1_2
  obtain ⟨z1_2, w1_2⟩ : ∃ zs, IsRow .u32 W a1_2 len1_2 cap1_2 zs := by
    rcases open_ints Tryz.underlying22 Tryz.underlying72 (by kernel_rfl) hy1_2 with ⟨hcs, _⟩ | ⟨x, l, c, zs, hcs, _, hl, hm, hz, _, hcell, hwz⟩
    · simp [Value.cells] at hcs
      obtain ⟨rfl, rfl, rfl⟩ := hcs
      exact ⟨[], .inl ⟨rfl, rfl, rfl, rfl⟩⟩
    · simp [Value.cells] at hcs
      obtain ⟨rfl, rfl, rfl⟩ := hcs
      exact ⟨zs, .inr ⟨_, rfl, hl, hm, by simpa using hz, hcell, hwz⟩⟩
  clear hA0 hval0
  refine (walk b0 a0_1 len0_1 cap0_1 z0_1 a0_2 len0_2 cap0_2 z0_2 b1 a1_1 len1_1 cap1_1 z1_1 a1_2 len1_2 cap1_2 z1_2 W w0_1 w0_2 w1_1 w1_2).mono fun e W' ⟨he, bel⟩ => ?_
  subst he
  exact ⟨_, rfl, _, _, _, [], _, [], hW', trodAll_mk1 (shut_bool Tryz.underlying4 _), (trodAll_cons_mk (Below.trod laidOut (by kernel_rfl) (of_decide_eq_true (by kernel_rfl)) k0 bel lt0) (trodAll_cons_mk (Below.trod laidOut (by kernel_rfl) (of_decide_eq_true (by kernel_rfl)) k1 bel lt1) trodAll_mk0)), rfl, bel.frame _, fun h => by cases h⟩

theorem over : Rows.ratioReckonsRow.holds Tryz.pinned (OpenSpec.ofChange Rows.ratioReckonsSpec) :=
  OpenClaim.holds_of_wide 3 Tryz.f3 rfl rfl rfl rfl rfl rfl rfl ⟨rfl, rfl, rfl, rfl, rfl⟩ rfl rfl rfl rfl rfl (by kernel_rfl) Tryz.func3 (by kernel_rfl)
    (of_decide_eq_true (by kernel_rfl)) (by unfold Func.isWrapper; first | (rw [if_pos (by decide +kernel)]; kernel_rfl) | (rw [if_neg (by decide +kernel)]; exact ⟨rfl, rfl⟩))
    (fun os started H enc _ => lifted os started H enc)

/-- THE STATEMENT -/
theorem proved : Rows.RatioReckonsSaid := over
#print axioms proved
end Go.Proofs.YtmjnlpanlgmdmaaGreat.ratioReckons
