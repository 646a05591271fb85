/-
  No cell of these rows narrows 'for every input' (looked for: loops, veiled, ifaces, maps, wideKeys, modest, calm, conditions, laid).
  DERIVED. THE GIVEN ROWS OF THIS SEAT. 11 by the template 'for every input the law returns true; each argument reads behind the call as it read before'; 0 by the template 'total and deterministic' (their statements: YteokdkcanckfeaaTotals.lean).
  GIVEN WITH THE SEED: the statements are not yours to turn. If you find one false, say at which input.
  Laid BY PROGRAM, IN A SANDBOX (cutbox-rows.mjs): the forced cells as the released guide's own fill.sh prints them over the translation 3cdabcff7e1491ae… (all of the seat's roots in one cut). By AI agents, Wed Nov 11 2026. No macro, syntax, notation, axiom, sorry.
-/
import Derived.Test.YteokdkcanckfeaaChecked
import GoSem.Claim
import GoSem.ClaimJoined
import GoSem.ClaimMapViews
import Derived.JoinedTies
import Derived.KernelRfl
namespace Go.Proofs.Yteokdkcanckfeaa
/- THE CELL 'sum', in the pinned program and in every row, IS THE sha256 OF THE DUMP (.gsa) THAT YteokdkcanckfeaaProg.lean LOADS. Nothing in Lean hashes anything: it is a label: what it is worth is what the hold of that sum in a sandbox is worth. -/
noncomputable def Try.pinned : Pinned := { name := "yteokdkcanckfeaa", sum := "3cdabcff7e1491aed629a97010e12e607dc384c23e06125afb8b5d363f693ae1", checked := Try.checked }
namespace Rows
def none {H : Type} : Left H := { results := [], args := [] }

/-- 'talweglaw06.DeciParses': WHATEVER THE INPUT: true; the input reads as it did. -/
def deciParsesSpec : ChangeSpec := { name := "deciParses", fn := fun _ => fun
  | [d] => { results := [.lit (.bool true)], args := [d] }
  | _ => none }
def deciParsesRow : OpenClaim := { program := "yteokdkcanckfeaa", sum := "3cdabcff7e1491aed629a97010e12e607dc384c23e06125afb8b5d363f693ae1", func := "talweg/talweglaw06.DeciParses", spec := "deciParses", apart := false }
def DeciParsesSaid : Prop := deciParsesRow.holds Try.pinned (OpenSpec.ofChange deciParsesSpec)

/-- ITS FALSE NEIGHBOUR: 'it returns false'. Refute it at one input. -/
def deciParsesWrong : ChangeSpec := { name := "deciParses", fn := fun _ => fun
  | [d] => { results := [.lit (.bool false)], args := [d] }
  | _ => none }
def DeciParsesWrongFalsely : Prop := deciParsesRow.holds Try.pinned (OpenSpec.ofChange deciParsesWrong)

/-- 'talweglaw06.DeciPrints': WHATEVER THE INPUT: true; the input reads as it did. -/
def deciPrintsSpec : ChangeSpec := { name := "deciPrints", fn := fun _ => fun
  | [d] => { results := [.lit (.bool true)], args := [d] }
  | _ => none }
def deciPrintsRow : OpenClaim := { program := "yteokdkcanckfeaa", sum := "3cdabcff7e1491aed629a97010e12e607dc384c23e06125afb8b5d363f693ae1", func := "talweg/talweglaw06.DeciPrints", spec := "deciPrints", apart := false }
def DeciPrintsSaid : Prop := deciPrintsRow.holds Try.pinned (OpenSpec.ofChange deciPrintsSpec)

/-- ITS FALSE NEIGHBOUR: 'it returns false'. Refute it at one input. -/
def deciPrintsWrong : ChangeSpec := { name := "deciPrints", fn := fun _ => fun
  | [d] => { results := [.lit (.bool false)], args := [d] }
  | _ => none }
def DeciPrintsWrongFalsely : Prop := deciPrintsRow.holds Try.pinned (OpenSpec.ofChange deciPrintsWrong)

/-- 'talweglaw06.DeciLong': WHATEVER THE INPUT: true; the input reads as it did. -/
def deciLongSpec : ChangeSpec := { name := "deciLong", fn := fun _ => fun
  | [d1, d2] => { results := [.lit (.bool true)], args := [d1, d2] }
  | _ => none }
def deciLongRow : OpenClaim := { program := "yteokdkcanckfeaa", sum := "3cdabcff7e1491aed629a97010e12e607dc384c23e06125afb8b5d363f693ae1", func := "talweg/talweglaw06.DeciLong", spec := "deciLong", apart := false }
def DeciLongSaid : Prop := deciLongRow.holds Try.pinned (OpenSpec.ofChange deciLongSpec)

/-- ITS FALSE NEIGHBOUR: 'it returns false'. Refute it at one input. -/
def deciLongWrong : ChangeSpec := { name := "deciLong", fn := fun _ => fun
  | [d1, d2] => { results := [.lit (.bool false)], args := [d1, d2] }
  | _ => none }
def DeciLongWrongFalsely : Prop := deciLongRow.holds Try.pinned (OpenSpec.ofChange deciLongWrong)

/-- 'talweglaw06.DeciBack': WHATEVER THE INPUT: true; the input reads as it did. -/
def deciBackSpec : ChangeSpec := { name := "deciBack", fn := fun _ => fun
  | [d1, d2] => { results := [.lit (.bool true)], args := [d1, d2] }
  | _ => none }
def deciBackRow : OpenClaim := { program := "yteokdkcanckfeaa", sum := "3cdabcff7e1491aed629a97010e12e607dc384c23e06125afb8b5d363f693ae1", func := "talweg/talweglaw06.DeciBack", spec := "deciBack", apart := false }
def DeciBackSaid : Prop := deciBackRow.holds Try.pinned (OpenSpec.ofChange deciBackSpec)

/-- ITS FALSE NEIGHBOUR: 'it returns false'. Refute it at one input. -/
def deciBackWrong : ChangeSpec := { name := "deciBack", fn := fun _ => fun
  | [d1, d2] => { results := [.lit (.bool false)], args := [d1, d2] }
  | _ => none }
def DeciBackWrongFalsely : Prop := deciBackRow.holds Try.pinned (OpenSpec.ofChange deciBackWrong)

/-- 'talweglaw06.DeciDigits': WHATEVER THE INPUT: true; the input reads as it did. -/
def deciDigitsSpec : ChangeSpec := { name := "deciDigits", fn := fun _ => fun
  | [d1, d2] => { results := [.lit (.bool true)], args := [d1, d2] }
  | _ => none }
def deciDigitsRow : OpenClaim := { program := "yteokdkcanckfeaa", sum := "3cdabcff7e1491aed629a97010e12e607dc384c23e06125afb8b5d363f693ae1", func := "talweg/talweglaw06.DeciDigits", spec := "deciDigits", apart := false }
def DeciDigitsSaid : Prop := deciDigitsRow.holds Try.pinned (OpenSpec.ofChange deciDigitsSpec)

/-- ITS FALSE NEIGHBOUR: 'it returns false'. Refute it at one input. -/
def deciDigitsWrong : ChangeSpec := { name := "deciDigits", fn := fun _ => fun
  | [d1, d2] => { results := [.lit (.bool false)], args := [d1, d2] }
  | _ => none }
def DeciDigitsWrongFalsely : Prop := deciDigitsRow.holds Try.pinned (OpenSpec.ofChange deciDigitsWrong)

/-- 'talweglaw06.DeciJoins': WHATEVER THE INPUT: true; the input reads as it did. -/
def deciJoinsSpec : ChangeSpec := { name := "deciJoins", fn := fun _ => fun
  | [d1, d2] => { results := [.lit (.bool true)], args := [d1, d2] }
  | _ => none }
def deciJoinsRow : OpenClaim := { program := "yteokdkcanckfeaa", sum := "3cdabcff7e1491aed629a97010e12e607dc384c23e06125afb8b5d363f693ae1", func := "talweg/talweglaw06.DeciJoins", spec := "deciJoins", apart := false }
def DeciJoinsSaid : Prop := deciJoinsRow.holds Try.pinned (OpenSpec.ofChange deciJoinsSpec)

/-- ITS FALSE NEIGHBOUR: 'it returns false'. Refute it at one input. -/
def deciJoinsWrong : ChangeSpec := { name := "deciJoins", fn := fun _ => fun
  | [d1, d2] => { results := [.lit (.bool false)], args := [d1, d2] }
  | _ => none }
def DeciJoinsWrongFalsely : Prop := deciJoinsRow.holds Try.pinned (OpenSpec.ofChange deciJoinsWrong)

/-- 'talweglaw07.WholeTexts': WHATEVER THE INPUT: true; the input reads as it did. -/
def wholeTextsSpec : ChangeSpec := { name := "wholeTexts", fn := fun _ => fun
  | [d1, d2] => { results := [.lit (.bool true)], args := [d1, d2] }
  | _ => none }
def wholeTextsRow : OpenClaim := { program := "yteokdkcanckfeaa", sum := "3cdabcff7e1491aed629a97010e12e607dc384c23e06125afb8b5d363f693ae1", func := "talweg/talweglaw07.WholeTexts", spec := "wholeTexts", unfollowed := true, recurses := true, apart := false }
def WholeTextsSaid : Prop := wholeTextsRow.holds Try.pinned (OpenSpec.ofChange wholeTextsSpec)

/-- ITS FALSE NEIGHBOUR: 'it returns false'. Refute it at one input. -/
def wholeTextsWrong : ChangeSpec := { name := "wholeTexts", fn := fun _ => fun
  | [d1, d2] => { results := [.lit (.bool false)], args := [d1, d2] }
  | _ => none }
def WholeTextsWrongFalsely : Prop := wholeTextsRow.holds Try.pinned (OpenSpec.ofChange wholeTextsWrong)

/-- 'talweglaw07.WholeOrder': WHATEVER THE INPUT: true; the input reads as it did. -/
def wholeOrderSpec : ChangeSpec := { name := "wholeOrder", fn := fun _ => fun
  | [d1, d2, d3] => { results := [.lit (.bool true)], args := [d1, d2, d3] }
  | _ => none }
def wholeOrderRow : OpenClaim := { program := "yteokdkcanckfeaa", sum := "3cdabcff7e1491aed629a97010e12e607dc384c23e06125afb8b5d363f693ae1", func := "talweg/talweglaw07.WholeOrder", spec := "wholeOrder", unfollowed := true, recurses := true, apart := false }
def WholeOrderSaid : Prop := wholeOrderRow.holds Try.pinned (OpenSpec.ofChange wholeOrderSpec)

/-- ITS FALSE NEIGHBOUR: 'it returns false'. Refute it at one input. -/
def wholeOrderWrong : ChangeSpec := { name := "wholeOrder", fn := fun _ => fun
  | [d1, d2, d3] => { results := [.lit (.bool false)], args := [d1, d2, d3] }
  | _ => none }
def WholeOrderWrongFalsely : Prop := wholeOrderRow.holds Try.pinned (OpenSpec.ofChange wholeOrderWrong)

/-- 'talweglaw07.WholeBack': WHATEVER THE INPUT: true; the input reads as it did. -/
def wholeBackSpec : ChangeSpec := { name := "wholeBack", fn := fun _ => fun
  | [d1, d2, d3] => { results := [.lit (.bool true)], args := [d1, d2, d3] }
  | _ => none }
def wholeBackRow : OpenClaim := { program := "yteokdkcanckfeaa", sum := "3cdabcff7e1491aed629a97010e12e607dc384c23e06125afb8b5d363f693ae1", func := "talweg/talweglaw07.WholeBack", spec := "wholeBack", unfollowed := true, recurses := true, apart := false }
def WholeBackSaid : Prop := wholeBackRow.holds Try.pinned (OpenSpec.ofChange wholeBackSpec)

/-- ITS FALSE NEIGHBOUR: 'it returns false'. Refute it at one input. -/
def wholeBackWrong : ChangeSpec := { name := "wholeBack", fn := fun _ => fun
  | [d1, d2, d3] => { results := [.lit (.bool false)], args := [d1, d2, d3] }
  | _ => none }
def WholeBackWrongFalsely : Prop := wholeBackRow.holds Try.pinned (OpenSpec.ofChange wholeBackWrong)

/-- 'talweglaw07.WholeTells': WHATEVER THE INPUT: true; the input reads as it did. -/
def wholeTellsSpec : ChangeSpec := { name := "wholeTells", fn := fun _ => fun
  | [d1, d2, d3] => { results := [.lit (.bool true)], args := [d1, d2, d3] }
  | _ => none }
def wholeTellsRow : OpenClaim := { program := "yteokdkcanckfeaa", sum := "3cdabcff7e1491aed629a97010e12e607dc384c23e06125afb8b5d363f693ae1", func := "talweg/talweglaw07.WholeTells", spec := "wholeTells", unfollowed := true, recurses := true, apart := false }
def WholeTellsSaid : Prop := wholeTellsRow.holds Try.pinned (OpenSpec.ofChange wholeTellsSpec)

/-- ITS FALSE NEIGHBOUR: 'it returns false'. Refute it at one input. -/
def wholeTellsWrong : ChangeSpec := { name := "wholeTells", fn := fun _ => fun
  | [d1, d2, d3] => { results := [.lit (.bool false)], args := [d1, d2, d3] }
  | _ => none }
def WholeTellsWrongFalsely : Prop := wholeTellsRow.holds Try.pinned (OpenSpec.ofChange wholeTellsWrong)

/-- 'talweglaw07.WholeSmall': WHATEVER THE INPUT: true; the input reads as it did. -/
def wholeSmallSpec : ChangeSpec := { name := "wholeSmall", fn := fun _ => fun
  | [d1, d2] => { results := [.lit (.bool true)], args := [d1, d2] }
  | _ => none }
def wholeSmallRow : OpenClaim := { program := "yteokdkcanckfeaa", sum := "3cdabcff7e1491aed629a97010e12e607dc384c23e06125afb8b5d363f693ae1", func := "talweg/talweglaw07.WholeSmall", spec := "wholeSmall", unfollowed := true, recurses := true, apart := false }
def WholeSmallSaid : Prop := wholeSmallRow.holds Try.pinned (OpenSpec.ofChange wholeSmallSpec)

/-- ITS FALSE NEIGHBOUR: 'it returns false'. Refute it at one input. -/
def wholeSmallWrong : ChangeSpec := { name := "wholeSmall", fn := fun _ => fun
  | [d1, d2] => { results := [.lit (.bool false)], args := [d1, d2] }
  | _ => none }
def WholeSmallWrongFalsely : Prop := wholeSmallRow.holds Try.pinned (OpenSpec.ofChange wholeSmallWrong)

/- THE SECOND FORM. 'bulk': how many values and letters a reading holds, each counted each time it is reached (what is shared counts as often as it is met; a slice's spare places count too). A statement '..UptoSaid' is the law's where the arguments, and the package variables that the reading takes, are together of bulk at most 1048576: NARROWER than '..Said'. Prove '..Said' where nothing that the law and all that it calls make is longer than what came in: it says more and counts as full. Else prove '..UptoSaid'. A law counts once. -/
mutual
def uptoBulk {H : Type} : DataW H → Nat
  | .lit (.string bytes) => bytes.length + 1
  | .lit _ => 1
  | .nil => 1
  | .ptr d => uptoBulk d + 1
  | .slice elems spare => uptoBulkAll elems + uptoBulkAll spare + 1
  | .agg parts => uptoBulkAll parts + 1
  | .iface _ d => uptoBulk d + 1
  | .map entries => uptoBulkEntries entries + 1
  | .held _ => 1
def uptoBulkAll {H : Type} : List (DataW H) → Nat
  | [] => 0
  | d :: r => uptoBulk d + uptoBulkAll r
def uptoBulkEntries {H : Type} : List (Lit × DataW H) → Nat
  | [] => 0
  | x :: r => uptoBulkEntry x + uptoBulkEntries r
def uptoBulkEntry {H : Type} : Lit × DataW H → Nat
  | (.string bytes, d) => bytes.length + uptoBulk d + 1
  | (_, d) => uptoBulk d + 1
 end
def uptoSmall : (H : Type) → List (DataW H) → Bool := fun _ ds => decide (uptoBulkAll ds ≤ 1048576)
def OpenSpec.upto (s : _root_.Go.ChangeSpec) : _root_.Go.OpenSpec := { _root_.Go.OpenSpec.ofChange s with cond := some uptoSmall }

/-- 'talweglaw06.DeciParses', WHERE WHAT IT READS IS OF BULK AT MOST 1048576: true; the input reads as it did. -/
def deciParsesUptoRow : OpenClaim := { program := "yteokdkcanckfeaa", sum := "3cdabcff7e1491aed629a97010e12e607dc384c23e06125afb8b5d363f693ae1", func := "talweg/talweglaw06.DeciParses", spec := "deciParses", apart := false, narrowed := true }
def DeciParsesUptoSaid : Prop := deciParsesUptoRow.holds Try.pinned (OpenSpec.upto deciParsesSpec)

/-- 'talweglaw06.DeciPrints', WHERE WHAT IT READS IS OF BULK AT MOST 1048576: true; the input reads as it did. -/
def deciPrintsUptoRow : OpenClaim := { program := "yteokdkcanckfeaa", sum := "3cdabcff7e1491aed629a97010e12e607dc384c23e06125afb8b5d363f693ae1", func := "talweg/talweglaw06.DeciPrints", spec := "deciPrints", apart := false, narrowed := true }
def DeciPrintsUptoSaid : Prop := deciPrintsUptoRow.holds Try.pinned (OpenSpec.upto deciPrintsSpec)

/-- 'talweglaw06.DeciLong', WHERE WHAT IT READS IS OF BULK AT MOST 1048576: true; the input reads as it did. -/
def deciLongUptoRow : OpenClaim := { program := "yteokdkcanckfeaa", sum := "3cdabcff7e1491aed629a97010e12e607dc384c23e06125afb8b5d363f693ae1", func := "talweg/talweglaw06.DeciLong", spec := "deciLong", apart := false, narrowed := true }
def DeciLongUptoSaid : Prop := deciLongUptoRow.holds Try.pinned (OpenSpec.upto deciLongSpec)

/-- 'talweglaw06.DeciBack', WHERE WHAT IT READS IS OF BULK AT MOST 1048576: true; the input reads as it did. -/
def deciBackUptoRow : OpenClaim := { program := "yteokdkcanckfeaa", sum := "3cdabcff7e1491aed629a97010e12e607dc384c23e06125afb8b5d363f693ae1", func := "talweg/talweglaw06.DeciBack", spec := "deciBack", apart := false, narrowed := true }
def DeciBackUptoSaid : Prop := deciBackUptoRow.holds Try.pinned (OpenSpec.upto deciBackSpec)

/-- 'talweglaw06.DeciDigits', WHERE WHAT IT READS IS OF BULK AT MOST 1048576: true; the input reads as it did. -/
def deciDigitsUptoRow : OpenClaim := { program := "yteokdkcanckfeaa", sum := "3cdabcff7e1491aed629a97010e12e607dc384c23e06125afb8b5d363f693ae1", func := "talweg/talweglaw06.DeciDigits", spec := "deciDigits", apart := false, narrowed := true }
def DeciDigitsUptoSaid : Prop := deciDigitsUptoRow.holds Try.pinned (OpenSpec.upto deciDigitsSpec)

/-- 'talweglaw06.DeciJoins', WHERE WHAT IT READS IS OF BULK AT MOST 1048576: true; the input reads as it did. -/
def deciJoinsUptoRow : OpenClaim := { program := "yteokdkcanckfeaa", sum := "3cdabcff7e1491aed629a97010e12e607dc384c23e06125afb8b5d363f693ae1", func := "talweg/talweglaw06.DeciJoins", spec := "deciJoins", apart := false, narrowed := true }
def DeciJoinsUptoSaid : Prop := deciJoinsUptoRow.holds Try.pinned (OpenSpec.upto deciJoinsSpec)

/-- 'talweglaw07.WholeTexts', WHERE WHAT IT READS IS OF BULK AT MOST 1048576: true; the input reads as it did. -/
def wholeTextsUptoRow : OpenClaim := { program := "yteokdkcanckfeaa", sum := "3cdabcff7e1491aed629a97010e12e607dc384c23e06125afb8b5d363f693ae1", func := "talweg/talweglaw07.WholeTexts", spec := "wholeTexts", unfollowed := true, recurses := true, apart := false, narrowed := true }
def WholeTextsUptoSaid : Prop := wholeTextsUptoRow.holds Try.pinned (OpenSpec.upto wholeTextsSpec)

/-- 'talweglaw07.WholeOrder', WHERE WHAT IT READS IS OF BULK AT MOST 1048576: true; the input reads as it did. -/
def wholeOrderUptoRow : OpenClaim := { program := "yteokdkcanckfeaa", sum := "3cdabcff7e1491aed629a97010e12e607dc384c23e06125afb8b5d363f693ae1", func := "talweg/talweglaw07.WholeOrder", spec := "wholeOrder", unfollowed := true, recurses := true, apart := false, narrowed := true }
def WholeOrderUptoSaid : Prop := wholeOrderUptoRow.holds Try.pinned (OpenSpec.upto wholeOrderSpec)

/-- 'talweglaw07.WholeBack', WHERE WHAT IT READS IS OF BULK AT MOST 1048576: true; the input reads as it did. -/
def wholeBackUptoRow : OpenClaim := { program := "yteokdkcanckfeaa", sum := "3cdabcff7e1491aed629a97010e12e607dc384c23e06125afb8b5d363f693ae1", func := "talweg/talweglaw07.WholeBack", spec := "wholeBack", unfollowed := true, recurses := true, apart := false, narrowed := true }
def WholeBackUptoSaid : Prop := wholeBackUptoRow.holds Try.pinned (OpenSpec.upto wholeBackSpec)

/-- 'talweglaw07.WholeTells', WHERE WHAT IT READS IS OF BULK AT MOST 1048576: true; the input reads as it did. -/
def wholeTellsUptoRow : OpenClaim := { program := "yteokdkcanckfeaa", sum := "3cdabcff7e1491aed629a97010e12e607dc384c23e06125afb8b5d363f693ae1", func := "talweg/talweglaw07.WholeTells", spec := "wholeTells", unfollowed := true, recurses := true, apart := false, narrowed := true }
def WholeTellsUptoSaid : Prop := wholeTellsUptoRow.holds Try.pinned (OpenSpec.upto wholeTellsSpec)

/-- 'talweglaw07.WholeSmall', WHERE WHAT IT READS IS OF BULK AT MOST 1048576: true; the input reads as it did. -/
def wholeSmallUptoRow : OpenClaim := { program := "yteokdkcanckfeaa", sum := "3cdabcff7e1491aed629a97010e12e607dc384c23e06125afb8b5d363f693ae1", func := "talweg/talweglaw07.WholeSmall", spec := "wholeSmall", unfollowed := true, recurses := true, apart := false, narrowed := true }
def WholeSmallUptoSaid : Prop := wholeSmallUptoRow.holds Try.pinned (OpenSpec.upto wholeSmallSpec)

end Rows
end Go.Proofs.Yteokdkcanckfeaa
