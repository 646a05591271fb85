/-
  No cell of these rows narrows 'for every input' (looked for: loops, veiled, ifaces, maps, wideKeys, modest, calm, conditions, laid).
  DERIVED. THE GIVEN ROWS OF THIS SEAT. 7 by the template 'for every input the law returns true; each argument reads behind the call as it read before'; 0 by the template 'total and deterministic' (their statements: YtpnnpfaohdcckaaTotals.lean).
  GIVEN WITH THE SEED: the statements are not yours to turn. If you find one false, say at which input.
  Laid BY PROGRAM, IN A SANDBOX (cutbox-rows.mjs): the forced cells as the released guide's own fill.sh prints them over the translation 89a0a0ca43721582… (all of the seat's roots in one cut). By AI agents, Wed Nov 11 2026. No macro, syntax, notation, axiom, sorry.
-/
import Derived.Test.YtpnnpfaohdcckaaChecked
import GoSem.Claim
import GoSem.ClaimJoined
import GoSem.ClaimMapViews
import Derived.JoinedTies
import Derived.KernelRfl
namespace Go.Proofs.Ytpnnpfaohdcckaa
/- THE CELL 'sum', in the pinned program and in every row, IS THE sha256 OF THE DUMP (.gsa) THAT YtpnnpfaohdcckaaProg.lean LOADS. Nothing in Lean hashes anything: it is a label: what it is worth is what the hold of that sum in a sandbox is worth. -/
noncomputable def Try.pinned : Pinned := { name := "ytpnnpfaohdcckaa", sum := "89a0a0ca43721582bb271299cb21982b1fdca807e9e2d3fe77eb75596fdd5910", checked := Try.checked }
namespace Rows
def none {H : Type} : Left H := { results := [], args := [] }

/-- 'talweglaw01.LimbAdds': WHATEVER THE INPUT: true; the input reads as it did. -/
def limbAddsSpec : ChangeSpec := { name := "limbAdds", fn := fun _ => fun
  | [d1, d2, d3] => { results := [.lit (.bool true)], args := [d1, d2, d3] }
  | _ => none }
def limbAddsRow : OpenClaim := { program := "ytpnnpfaohdcckaa", sum := "89a0a0ca43721582bb271299cb21982b1fdca807e9e2d3fe77eb75596fdd5910", func := "talweg/talweglaw01.LimbAdds", spec := "limbAdds", apart := false }
def LimbAddsSaid : Prop := limbAddsRow.holds Try.pinned (OpenSpec.ofChange limbAddsSpec)

/-- ITS FALSE NEIGHBOUR: 'it returns false'. Refute it at one input. -/
def limbAddsWrong : ChangeSpec := { name := "limbAdds", fn := fun _ => fun
  | [d1, d2, d3] => { results := [.lit (.bool false)], args := [d1, d2, d3] }
  | _ => none }
def LimbAddsWrongFalsely : Prop := limbAddsRow.holds Try.pinned (OpenSpec.ofChange limbAddsWrong)

/-- 'talweglaw01.LimbMuls': WHATEVER THE INPUT: true; the input reads as it did. -/
def limbMulsSpec : ChangeSpec := { name := "limbMuls", fn := fun _ => fun
  | [d1, d2, d3, d4] => { results := [.lit (.bool true)], args := [d1, d2, d3, d4] }
  | _ => none }
def limbMulsRow : OpenClaim := { program := "ytpnnpfaohdcckaa", sum := "89a0a0ca43721582bb271299cb21982b1fdca807e9e2d3fe77eb75596fdd5910", func := "talweg/talweglaw01.LimbMuls", spec := "limbMuls", apart := false }
def LimbMulsSaid : Prop := limbMulsRow.holds Try.pinned (OpenSpec.ofChange limbMulsSpec)

/-- ITS FALSE NEIGHBOUR: 'it returns false'. Refute it at one input. -/
def limbMulsWrong : ChangeSpec := { name := "limbMuls", fn := fun _ => fun
  | [d1, d2, d3, d4] => { results := [.lit (.bool false)], args := [d1, d2, d3, d4] }
  | _ => none }
def LimbMulsWrongFalsely : Prop := limbMulsRow.holds Try.pinned (OpenSpec.ofChange limbMulsWrong)

/-- 'talweglaw01.LimbDivs': WHATEVER THE INPUT: true; the input reads as it did. -/
def limbDivsSpec : ChangeSpec := { name := "limbDivs", fn := fun _ => fun
  | [d1, d2, d3] => { results := [.lit (.bool true)], args := [d1, d2, d3] }
  | _ => none }
def limbDivsRow : OpenClaim := { program := "ytpnnpfaohdcckaa", sum := "89a0a0ca43721582bb271299cb21982b1fdca807e9e2d3fe77eb75596fdd5910", func := "talweg/talweglaw01.LimbDivs", spec := "limbDivs", apart := false }
def LimbDivsSaid : Prop := limbDivsRow.holds Try.pinned (OpenSpec.ofChange limbDivsSpec)

/-- ITS FALSE NEIGHBOUR: 'it returns false'. Refute it at one input. -/
def limbDivsWrong : ChangeSpec := { name := "limbDivs", fn := fun _ => fun
  | [d1, d2, d3] => { results := [.lit (.bool false)], args := [d1, d2, d3] }
  | _ => none }
def LimbDivsWrongFalsely : Prop := limbDivsRow.holds Try.pinned (OpenSpec.ofChange limbDivsWrong)

/-- 'talweglaw01.LimbLow': WHATEVER THE INPUT: true; the input reads as it did. -/
def limbLowSpec : ChangeSpec := { name := "limbLow", fn := fun _ => fun
  | [d1, d2] => { results := [.lit (.bool true)], args := [d1, d2] }
  | _ => none }
def limbLowRow : OpenClaim := { program := "ytpnnpfaohdcckaa", sum := "89a0a0ca43721582bb271299cb21982b1fdca807e9e2d3fe77eb75596fdd5910", func := "talweg/talweglaw01.LimbLow", spec := "limbLow", apart := false }
def LimbLowSaid : Prop := limbLowRow.holds Try.pinned (OpenSpec.ofChange limbLowSpec)

/-- ITS FALSE NEIGHBOUR: 'it returns false'. Refute it at one input. -/
def limbLowWrong : ChangeSpec := { name := "limbLow", fn := fun _ => fun
  | [d1, d2] => { results := [.lit (.bool false)], args := [d1, d2] }
  | _ => none }
def LimbLowWrongFalsely : Prop := limbLowRow.holds Try.pinned (OpenSpec.ofChange limbLowWrong)

/-- 'talweglaw01.LimbBack': WHATEVER THE INPUT: true; the input reads as it did. -/
def limbBackSpec : ChangeSpec := { name := "limbBack", fn := fun _ => fun
  | [d1, d2, d3] => { results := [.lit (.bool true)], args := [d1, d2, d3] }
  | _ => none }
def limbBackRow : OpenClaim := { program := "ytpnnpfaohdcckaa", sum := "89a0a0ca43721582bb271299cb21982b1fdca807e9e2d3fe77eb75596fdd5910", func := "talweg/talweglaw01.LimbBack", spec := "limbBack", apart := false }
def LimbBackSaid : Prop := limbBackRow.holds Try.pinned (OpenSpec.ofChange limbBackSpec)

/-- ITS FALSE NEIGHBOUR: 'it returns false'. Refute it at one input. -/
def limbBackWrong : ChangeSpec := { name := "limbBack", fn := fun _ => fun
  | [d1, d2, d3] => { results := [.lit (.bool false)], args := [d1, d2, d3] }
  | _ => none }
def LimbBackWrongFalsely : Prop := limbBackRow.holds Try.pinned (OpenSpec.ofChange limbBackWrong)

/-- 'talweglaw01.LimbWhole': WHATEVER THE INPUT: true; the input reads as it did. -/
def limbWholeSpec : ChangeSpec := { name := "limbWhole", fn := fun _ => fun
  | [d1, d2, d3, d4] => { results := [.lit (.bool true)], args := [d1, d2, d3, d4] }
  | _ => none }
def limbWholeRow : OpenClaim := { program := "ytpnnpfaohdcckaa", sum := "89a0a0ca43721582bb271299cb21982b1fdca807e9e2d3fe77eb75596fdd5910", func := "talweg/talweglaw01.LimbWhole", spec := "limbWhole", apart := false }
def LimbWholeSaid : Prop := limbWholeRow.holds Try.pinned (OpenSpec.ofChange limbWholeSpec)

/-- ITS FALSE NEIGHBOUR: 'it returns false'. Refute it at one input. -/
def limbWholeWrong : ChangeSpec := { name := "limbWhole", fn := fun _ => fun
  | [d1, d2, d3, d4] => { results := [.lit (.bool false)], args := [d1, d2, d3, d4] }
  | _ => none }
def LimbWholeWrongFalsely : Prop := limbWholeRow.holds Try.pinned (OpenSpec.ofChange limbWholeWrong)

/-- 'talweglaw01.LimbHigh': WHATEVER THE INPUT: true; the input reads as it did. -/
def limbHighSpec : ChangeSpec := { name := "limbHigh", fn := fun _ => fun
  | [d1, d2, d3] => { results := [.lit (.bool true)], args := [d1, d2, d3] }
  | _ => none }
def limbHighRow : OpenClaim := { program := "ytpnnpfaohdcckaa", sum := "89a0a0ca43721582bb271299cb21982b1fdca807e9e2d3fe77eb75596fdd5910", func := "talweg/talweglaw01.LimbHigh", spec := "limbHigh", apart := false }
def LimbHighSaid : Prop := limbHighRow.holds Try.pinned (OpenSpec.ofChange limbHighSpec)

/-- ITS FALSE NEIGHBOUR: 'it returns false'. Refute it at one input. -/
def limbHighWrong : ChangeSpec := { name := "limbHigh", fn := fun _ => fun
  | [d1, d2, d3] => { results := [.lit (.bool false)], args := [d1, d2, d3] }
  | _ => none }
def LimbHighWrongFalsely : Prop := limbHighRow.holds Try.pinned (OpenSpec.ofChange limbHighWrong)

/- THE SECOND FORM. 'bulk': how many values and letters a reading holds, each counted each time it is reached (what is shared counts as often as it is met; a slice's spare places count too). A statement '..UptoSaid' is the law's where the arguments, and the package variables that the reading takes, are together of bulk at most 1048576: NARROWER than '..Said'. Prove '..Said' where nothing that the law and all that it calls make is longer than what came in: it says more and counts as full. Else prove '..UptoSaid'. A law counts once. -/
mutual
def uptoBulk {H : Type} : DataW H → Nat
  | .lit (.string bytes) => bytes.length + 1
  | .lit _ => 1
  | .nil => 1
  | .ptr d => uptoBulk d + 1
  | .slice elems spare => uptoBulkAll elems + uptoBulkAll spare + 1
  | .agg parts => uptoBulkAll parts + 1
  | .iface _ d => uptoBulk d + 1
  | .map entries => uptoBulkEntries entries + 1
  | .held _ => 1
def uptoBulkAll {H : Type} : List (DataW H) → Nat
  | [] => 0
  | d :: r => uptoBulk d + uptoBulkAll r
def uptoBulkEntries {H : Type} : List (Lit × DataW H) → Nat
  | [] => 0
  | x :: r => uptoBulkEntry x + uptoBulkEntries r
def uptoBulkEntry {H : Type} : Lit × DataW H → Nat
  | (.string bytes, d) => bytes.length + uptoBulk d + 1
  | (_, d) => uptoBulk d + 1
 end
def uptoSmall : (H : Type) → List (DataW H) → Bool := fun _ ds => decide (uptoBulkAll ds ≤ 1048576)
def OpenSpec.upto (s : _root_.Go.ChangeSpec) : _root_.Go.OpenSpec := { _root_.Go.OpenSpec.ofChange s with cond := some uptoSmall }

/-- 'talweglaw01.LimbAdds', WHERE WHAT IT READS IS OF BULK AT MOST 1048576: true; the input reads as it did. -/
def limbAddsUptoRow : OpenClaim := { program := "ytpnnpfaohdcckaa", sum := "89a0a0ca43721582bb271299cb21982b1fdca807e9e2d3fe77eb75596fdd5910", func := "talweg/talweglaw01.LimbAdds", spec := "limbAdds", apart := false, narrowed := true }
def LimbAddsUptoSaid : Prop := limbAddsUptoRow.holds Try.pinned (OpenSpec.upto limbAddsSpec)

/-- 'talweglaw01.LimbMuls', WHERE WHAT IT READS IS OF BULK AT MOST 1048576: true; the input reads as it did. -/
def limbMulsUptoRow : OpenClaim := { program := "ytpnnpfaohdcckaa", sum := "89a0a0ca43721582bb271299cb21982b1fdca807e9e2d3fe77eb75596fdd5910", func := "talweg/talweglaw01.LimbMuls", spec := "limbMuls", apart := false, narrowed := true }
def LimbMulsUptoSaid : Prop := limbMulsUptoRow.holds Try.pinned (OpenSpec.upto limbMulsSpec)

/-- 'talweglaw01.LimbDivs', WHERE WHAT IT READS IS OF BULK AT MOST 1048576: true; the input reads as it did. -/
def limbDivsUptoRow : OpenClaim := { program := "ytpnnpfaohdcckaa", sum := "89a0a0ca43721582bb271299cb21982b1fdca807e9e2d3fe77eb75596fdd5910", func := "talweg/talweglaw01.LimbDivs", spec := "limbDivs", apart := false, narrowed := true }
def LimbDivsUptoSaid : Prop := limbDivsUptoRow.holds Try.pinned (OpenSpec.upto limbDivsSpec)

/-- 'talweglaw01.LimbLow', WHERE WHAT IT READS IS OF BULK AT MOST 1048576: true; the input reads as it did. -/
def limbLowUptoRow : OpenClaim := { program := "ytpnnpfaohdcckaa", sum := "89a0a0ca43721582bb271299cb21982b1fdca807e9e2d3fe77eb75596fdd5910", func := "talweg/talweglaw01.LimbLow", spec := "limbLow", apart := false, narrowed := true }
def LimbLowUptoSaid : Prop := limbLowUptoRow.holds Try.pinned (OpenSpec.upto limbLowSpec)

/-- 'talweglaw01.LimbBack', WHERE WHAT IT READS IS OF BULK AT MOST 1048576: true; the input reads as it did. -/
def limbBackUptoRow : OpenClaim := { program := "ytpnnpfaohdcckaa", sum := "89a0a0ca43721582bb271299cb21982b1fdca807e9e2d3fe77eb75596fdd5910", func := "talweg/talweglaw01.LimbBack", spec := "limbBack", apart := false, narrowed := true }
def LimbBackUptoSaid : Prop := limbBackUptoRow.holds Try.pinned (OpenSpec.upto limbBackSpec)

/-- 'talweglaw01.LimbWhole', WHERE WHAT IT READS IS OF BULK AT MOST 1048576: true; the input reads as it did. -/
def limbWholeUptoRow : OpenClaim := { program := "ytpnnpfaohdcckaa", sum := "89a0a0ca43721582bb271299cb21982b1fdca807e9e2d3fe77eb75596fdd5910", func := "talweg/talweglaw01.LimbWhole", spec := "limbWhole", apart := false, narrowed := true }
def LimbWholeUptoSaid : Prop := limbWholeUptoRow.holds Try.pinned (OpenSpec.upto limbWholeSpec)

/-- 'talweglaw01.LimbHigh', WHERE WHAT IT READS IS OF BULK AT MOST 1048576: true; the input reads as it did. -/
def limbHighUptoRow : OpenClaim := { program := "ytpnnpfaohdcckaa", sum := "89a0a0ca43721582bb271299cb21982b1fdca807e9e2d3fe77eb75596fdd5910", func := "talweg/talweglaw01.LimbHigh", spec := "limbHigh", apart := false, narrowed := true }
def LimbHighUptoSaid : Prop := limbHighUptoRow.holds Try.pinned (OpenSpec.upto limbHighSpec)

end Rows
end Go.Proofs.Ytpnnpfaohdcckaa
