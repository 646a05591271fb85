/-
  The text of an integer, in plain Lean; and the library's CutPrefix at the minus, walked.
-/
import Derived.Test.YteokdkcanckfeaaWhole4
import Derived.Test.YteokdkcanckfeaaDeciPrint
import Derived.Test.YteokdkcanckfeaaRef6
import Derived.Lib.Strings
import Derived.Lib.Slices
import Derived.Lib.Walk
namespace Go.Proofs.Yteokdkcanckfeaa
open Go.RowKit Tw
set_option linter.unusedVariables false
set_option linter.unusedSimpArgs false

/-- Does a text begin with a minus; and what is behind it. -/
def neg1 (l : List Nat) : Bool := decide (l.head? = some 45)
def body (l : List Nat) : List Nat := if neg1 l then l.tail else l
/-- The text of an integer. -/
def itext (z : Int) : List Nat := if z < 0 then 45 :: digs z.natAbs else digs z.natAbs

theorem digs_nohead (n : Nat) : (digs n).head? ≠ some 45 := by
  intro h
  have hm : 45 ∈ digs n := by
    cases hd : digs n with
    | nil => rw [hd] at h; simp at h
    | cons a t => rw [hd] at h; simp at h; subst h; simp
  have := (digs_dig n) 45 hm
  have h2 := this.1
  omega
theorem neg1_itext (z : Int) : neg1 (itext z) = decide (z < 0) := by
  unfold neg1 itext
  by_cases h : z < 0
  · simp [h]
  · rw [if_neg h, decide_eq_false h, decide_eq_false (digs_nohead _)]
theorem body_itext (z : Int) : body (itext z) = digs z.natAbs := by
  unfold body
  rw [neg1_itext]
  unfold itext
  by_cases h : z < 0 <;> simp [h]
theorem itext_lt (z : Int) : ∀ x, x ∈ itext z → x < 256 := by
  intro x hx
  unfold itext at hx
  split at hx
  · rcases List.mem_cons.1 hx with h | h
    · omega
    · exact dig_lt (digs_dig _) x h
  · exact dig_lt (digs_dig _) x hx
theorem body_size (s : ByteArray) : (ba (body (bs s))).size ≤ s.size := by
  rw [ba_size]
  unfold body
  split
  · rw [List.length_tail, bs_length]; omega
  · rw [bs_length]; exact Nat.le_refl _
theorem body_lt (s : ByteArray) : ∀ x, x ∈ body (bs s) → x < 256 := by
  intro x hx
  unfold body at hx
  split at hx
  · exact bs_lt s x (List.mem_of_mem_tail hx)
  · exact bs_lt s x hx
theorem bs_body (s : ByteArray) : bs (ba (body (bs s))) = body (bs s) := bs_ba (body_lt s)

theorem cut_has (l : List UInt8) : Lib.hasPrefix l [45] = neg1 (l.map UInt8.toNat) := by
  unfold Lib.hasPrefix neg1
  cases l with
  | nil => rfl
  | cons u r =>
    simp only [List.isPrefixOf, List.map_cons, List.head?_cons, Option.some.injEq, Bool.and_true]
    rw [eq_comm, show ((45 : UInt8) == u) = decide ((45 : UInt8) = u) from rfl, decide_eq_decide]
    constructor
    · intro h; exact (UInt8.toNat_inj.1 (show (45 : UInt8).toNat = u.toNat from h.symm))
    · rintro rfl; rfl

theorem cut_rest (s : ByteArray) : (⟨(Lib.trimPrefix s.data.toList [45]).toArray⟩ : ByteArray) = ba (body (bs s)) := by
  unfold Lib.trimPrefix
  rw [cut_has]
  unfold body
  rw [show bs s = s.data.toList.map UInt8.toNat from rfl]
  have hm : ∀ l : List UInt8, ba (l.map UInt8.toNat) = ⟨l.toArray⟩ := fun l => by
    have := ba_bs ⟨l.toArray⟩
    unfold bs at this
    simpa using this
  by_cases h : neg1 (s.data.toList.map UInt8.toNat) = true
  · rw [if_pos h, if_pos h, ← List.map_tail, hm]
    simp
  · rw [if_neg h, if_neg h, hm]

set_option maxHeartbeats 1000000 in
/-- strings.CutPrefix, as the kit's shelf has it: laid off its template. -/
theorem cut_shelf (s p : ByteArray) (w : World) :
    Calls Try.prog 66 #[.string s, .string p] w fun e w' => e = .returned (.tuple #[.string ⟨(Lib.trimPrefix s.data.toList p.data.toList).toArray⟩, .bool (Lib.hasPrefix s.data.toList p.data.toList)]) ∧ w' = w := by
  go_enter Try.func66, Try.ntmps66
  go_wp2
  · have h2 : (!((s.extract 0 p.size).toList == p.toList)) = true := by assumption
    have h3 : (decide (p.size ≤ s.size) && ((s.extract 0 p.size).toList == p.toList)) = false := by
      have : ((s.extract 0 p.size).toList == p.toList) = false := by simpa using h2
      rw [this]
      simp
    go_ret2
    refine ⟨?_, rfl⟩
    rw [Lib.trimPrefix_miss s p h3, ← Lib.hasPrefix_raw, h3]
    rfl
  · have h1 : p.size ≤ s.size := by assumption
    have h2 : (!((s.extract 0 p.size).toList == p.toList)) = false := by assumption
    have h2' : ((s.extract 0 p.size).toList == p.toList) = true := by simpa using h2
    go_ret2
    refine ⟨?_, rfl⟩
    rw [Lib.trimPrefix_hit s p h1 h2', ← Lib.hasPrefix_raw, h2', decide_eq_true h1]
    rfl
  · have h1 : ¬ p.size ≤ s.size := by assumption
    have h3 : (decide (p.size ≤ s.size) && ((s.extract 0 p.size).toList == p.toList)) = false := by simp [h1]
    go_ret2
    refine ⟨?_, rfl⟩
    rw [Lib.trimPrefix_miss s p h3, ← Lib.hasPrefix_raw, h3]
    rfl

theorem cut1 (s : ByteArray) (w : World) :
    Calls Try.prog 66 #[.string s, .string ⟨#[45]⟩] w fun e w' => e = .returned (.tuple #[.string (ba (body (bs s))), .bool (neg1 (bs s))]) ∧ w = w' := by
  refine (cut_shelf s ⟨#[45]⟩ w).mono ?_
  rintro e w' ⟨rfl, rfl⟩
  refine ⟨?_, rfl⟩
  rw [show (⟨#[45]⟩ : ByteArray).data.toList = [45] from rfl, cut_rest, cut_has]
  rfl

/-- What a call leaves that answers an integer and no error. -/
def GivesP (w : World) (z : Int) (e : Ending) (w' : World) : Prop :=
  ∃ v, e = .returned (.tuple #[aggI (decide (z < 0)) v, .int .i64 0]) ∧ Own w.heap.size w' v (limbs z.natAbs) ∧ Below w.heap.size w w'

theorem finP {w w2 : World} {B rb : Nat} {z : Int} {v : Value} (hb0 : Below w.heap.size w w2) (hrb : w.heap.size ≤ rb) (hrb1 : rb < B) (hB : w.heap.size ≤ B) (hv : Own B w2 v (limbs z.natAbs)) :
    GivesP w z (.returned (.tuple #[aggI (decide (z < 0)) v, .int .i64 0])) ((w2.setCell ⟨rb, 0, none⟩ (.bool (decide (z < 0)))).setCell ⟨rb, 1, none⟩ v) :=
  ⟨v, rfl, ((hv.setOther (p := ⟨rb, 0, none⟩) hrb1 _).setOther (p := ⟨rb, 1, none⟩) hrb1 _).mono hB, (hb0.setCell (p := ⟨rb, 0, none⟩) hrb _).setCell (p := ⟨rb, 1, none⟩) hrb _⟩

/-- What a call leaves that answers no integer, but why. -/
def NoP (w : World) (k : Int) (e : Ending) (w' : World) : Prop :=
  e = .returned (.tuple #[aggI false (.slice none 0 0), .int .i64 k]) ∧ Below w.heap.size w w'

end Go.Proofs.Yteokdkcanckfeaa
