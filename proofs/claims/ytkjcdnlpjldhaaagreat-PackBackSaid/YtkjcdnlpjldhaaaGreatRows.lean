/-
  No cell of these rows narrows 'for every input' (looked for: loops, veiled, ifaces, maps, wideKeys, modest, calm, conditions, laid).
  DERIVED. THE GIVEN ROWS OF THIS SEAT. 9 by the template 'for every input the law returns true; each argument reads behind the call as it read before'; 0 by the template 'total and deterministic' (their statements: YtkjcdnlpjldhaaaGreatTotals.lean).
  GIVEN WITH THE SEED: the statements are not yours to turn. If you find one false, say at which input.
  Laid BY PROGRAM, IN A SANDBOX (cutbox-rows.mjs): the forced cells as the released guide's own fill.sh prints them over the translation 5eb414f66d54c95a… (all of the seat's roots in one cut). By AI agents, Wed Nov 11 2026. No macro, syntax, notation, axiom, sorry.
-/
import Derived.Test.YtkjcdnlpjldhaaaGreatChecked
import GoSem.Claim
import GoSem.ClaimJoined
import GoSem.ClaimMapViews
import Derived.JoinedTies
import Derived.KernelRfl
namespace Go.Proofs.YtkjcdnlpjldhaaaGreat
/- THE CELL 'sum', in the pinned program and in every row, IS THE sha256 OF THE DUMP (.gsa) THAT YtkjcdnlpjldhaaaGreatProg.lean LOADS. Nothing in Lean hashes anything: it is a label: what it is worth is what the hold of that sum in a sandbox is worth. -/
noncomputable def Tryz.pinned : Pinned := { name := "ytkjcdnlpjldhaaagreat", sum := "5eb414f66d54c95aaee3353bf5020795d06cd625ce19ab66fc7928f7f6224344", checked := Tryz.checked }
namespace Rows
def none {H : Type} : Left H := { results := [], args := [] }

/-- 'talweglaw25.VmRights': WHATEVER THE INPUT: true; the input reads as it did. -/
def vmRightsSpec : ChangeSpec := { name := "vmRights", fn := fun _ => fun
  | [d] => { results := [.lit (.bool true)], args := [d] }
  | _ => none }
def vmRightsRow : OpenClaim := { program := "ytkjcdnlpjldhaaagreat", sum := "5eb414f66d54c95aaee3353bf5020795d06cd625ce19ab66fc7928f7f6224344", func := "talweg/talweglaw25.VmRights", spec := "vmRights", unfollowed := true, recurses := true, apart := false }
def VmRightsSaid : Prop := vmRightsRow.holds Tryz.pinned (OpenSpec.ofChange vmRightsSpec)

/-- ITS FALSE NEIGHBOUR: 'it returns false'. Refute it at one input. -/
def vmRightsWrong : ChangeSpec := { name := "vmRights", fn := fun _ => fun
  | [d] => { results := [.lit (.bool false)], args := [d] }
  | _ => none }
def VmRightsWrongFalsely : Prop := vmRightsRow.holds Tryz.pinned (OpenSpec.ofChange vmRightsWrong)

/-- 'talweglaw25.VmRuns': WHATEVER THE INPUT: true; the input reads as it did. -/
def vmRunsSpec : ChangeSpec := { name := "vmRuns", fn := fun _ => fun
  | [d1, d2] => { results := [.lit (.bool true)], args := [d1, d2] }
  | _ => none }
def vmRunsRow : OpenClaim := { program := "ytkjcdnlpjldhaaagreat", sum := "5eb414f66d54c95aaee3353bf5020795d06cd625ce19ab66fc7928f7f6224344", func := "talweg/talweglaw25.VmRuns", spec := "vmRuns", unfollowed := true, recurses := true, apart := false }
def VmRunsSaid : Prop := vmRunsRow.holds Tryz.pinned (OpenSpec.ofChange vmRunsSpec)

/-- ITS FALSE NEIGHBOUR: 'it returns false'. Refute it at one input. -/
def vmRunsWrong : ChangeSpec := { name := "vmRuns", fn := fun _ => fun
  | [d1, d2] => { results := [.lit (.bool false)], args := [d1, d2] }
  | _ => none }
def VmRunsWrongFalsely : Prop := vmRunsRow.holds Tryz.pinned (OpenSpec.ofChange vmRunsWrong)

/-- 'talweglaw25.VmFront': WHATEVER THE INPUT: true; the input reads as it did. -/
def vmFrontSpec : ChangeSpec := { name := "vmFront", fn := fun _ => fun
  | [d1, d2, d3, d4, d5, d6] => { results := [.lit (.bool true)], args := [d1, d2, d3, d4, d5, d6] }
  | _ => none }
def vmFrontRow : OpenClaim := { program := "ytkjcdnlpjldhaaagreat", sum := "5eb414f66d54c95aaee3353bf5020795d06cd625ce19ab66fc7928f7f6224344", func := "talweg/talweglaw25.VmFront", spec := "vmFront", unfollowed := true, recurses := true, apart := false }
def VmFrontSaid : Prop := vmFrontRow.holds Tryz.pinned (OpenSpec.ofChange vmFrontSpec)

/-- ITS FALSE NEIGHBOUR: 'it returns false'. Refute it at one input. -/
def vmFrontWrong : ChangeSpec := { name := "vmFront", fn := fun _ => fun
  | [d1, d2, d3, d4, d5, d6] => { results := [.lit (.bool false)], args := [d1, d2, d3, d4, d5, d6] }
  | _ => none }
def VmFrontWrongFalsely : Prop := vmFrontRow.holds Tryz.pinned (OpenSpec.ofChange vmFrontWrong)

/-- 'talweglaw25.VmNames': WHATEVER THE INPUT: true; the input reads as it did. -/
def vmNamesSpec : ChangeSpec := { name := "vmNames", fn := fun _ => fun
  | [d1, d2, d3, d4, d5, d6, d7] => { results := [.lit (.bool true)], args := [d1, d2, d3, d4, d5, d6, d7] }
  | _ => none }
def vmNamesRow : OpenClaim := { program := "ytkjcdnlpjldhaaagreat", sum := "5eb414f66d54c95aaee3353bf5020795d06cd625ce19ab66fc7928f7f6224344", func := "talweg/talweglaw25.VmNames", spec := "vmNames", unfollowed := true, recurses := true, apart := false }
def VmNamesSaid : Prop := vmNamesRow.holds Tryz.pinned (OpenSpec.ofChange vmNamesSpec)

/-- ITS FALSE NEIGHBOUR: 'it returns false'. Refute it at one input. -/
def vmNamesWrong : ChangeSpec := { name := "vmNames", fn := fun _ => fun
  | [d1, d2, d3, d4, d5, d6, d7] => { results := [.lit (.bool false)], args := [d1, d2, d3, d4, d5, d6, d7] }
  | _ => none }
def VmNamesWrongFalsely : Prop := vmNamesRow.holds Tryz.pinned (OpenSpec.ofChange vmNamesWrong)

/-- 'talweglaw28.PackTells': WHATEVER THE INPUT: true; the input reads as it did. -/
def packTellsSpec : ChangeSpec := { name := "packTells", fn := fun _ => fun
  | [d] => { results := [.lit (.bool true)], args := [d] }
  | _ => none }
def packTellsRow : OpenClaim := { program := "ytkjcdnlpjldhaaagreat", sum := "5eb414f66d54c95aaee3353bf5020795d06cd625ce19ab66fc7928f7f6224344", func := "talweg/talweglaw28.PackTells", spec := "packTells", unfollowed := true, recurses := true, apart := false }
def PackTellsSaid : Prop := packTellsRow.holds Tryz.pinned (OpenSpec.ofChange packTellsSpec)

/-- ITS FALSE NEIGHBOUR: 'it returns false'. Refute it at one input. -/
def packTellsWrong : ChangeSpec := { name := "packTells", fn := fun _ => fun
  | [d] => { results := [.lit (.bool false)], args := [d] }
  | _ => none }
def PackTellsWrongFalsely : Prop := packTellsRow.holds Tryz.pinned (OpenSpec.ofChange packTellsWrong)

/-- 'talweglaw28.PackReads': WHATEVER THE INPUT: true; the input reads as it did. -/
def packReadsSpec : ChangeSpec := { name := "packReads", fn := fun _ => fun
  | [d] => { results := [.lit (.bool true)], args := [d] }
  | _ => none }
def packReadsRow : OpenClaim := { program := "ytkjcdnlpjldhaaagreat", sum := "5eb414f66d54c95aaee3353bf5020795d06cd625ce19ab66fc7928f7f6224344", func := "talweg/talweglaw28.PackReads", spec := "packReads", unfollowed := true, recurses := true, apart := false }
def PackReadsSaid : Prop := packReadsRow.holds Tryz.pinned (OpenSpec.ofChange packReadsSpec)

/-- ITS FALSE NEIGHBOUR: 'it returns false'. Refute it at one input. -/
def packReadsWrong : ChangeSpec := { name := "packReads", fn := fun _ => fun
  | [d] => { results := [.lit (.bool false)], args := [d] }
  | _ => none }
def PackReadsWrongFalsely : Prop := packReadsRow.holds Tryz.pinned (OpenSpec.ofChange packReadsWrong)

/-- 'talweglaw28.PackBack': WHATEVER THE INPUT: true; the input reads as it did. -/
def packBackSpec : ChangeSpec := { name := "packBack", fn := fun _ => fun
  | [d1, d2, d3, d4, d5] => { results := [.lit (.bool true)], args := [d1, d2, d3, d4, d5] }
  | _ => none }
def packBackRow : OpenClaim := { program := "ytkjcdnlpjldhaaagreat", sum := "5eb414f66d54c95aaee3353bf5020795d06cd625ce19ab66fc7928f7f6224344", func := "talweg/talweglaw28.PackBack", spec := "packBack", unfollowed := true, recurses := true, apart := false }
def PackBackSaid : Prop := packBackRow.holds Tryz.pinned (OpenSpec.ofChange packBackSpec)

/-- ITS FALSE NEIGHBOUR: 'it returns false'. Refute it at one input. -/
def packBackWrong : ChangeSpec := { name := "packBack", fn := fun _ => fun
  | [d1, d2, d3, d4, d5] => { results := [.lit (.bool false)], args := [d1, d2, d3, d4, d5] }
  | _ => none }
def PackBackWrongFalsely : Prop := packBackRow.holds Tryz.pinned (OpenSpec.ofChange packBackWrong)

/-- 'talweglaw28.PackOne': WHATEVER THE INPUT: true; the input reads as it did. -/
def packOneSpec : ChangeSpec := { name := "packOne", fn := fun _ => fun
  | [d1, d2, d3] => { results := [.lit (.bool true)], args := [d1, d2, d3] }
  | _ => none }
def packOneRow : OpenClaim := { program := "ytkjcdnlpjldhaaagreat", sum := "5eb414f66d54c95aaee3353bf5020795d06cd625ce19ab66fc7928f7f6224344", func := "talweg/talweglaw28.PackOne", spec := "packOne", unfollowed := true, recurses := true, apart := false }
def PackOneSaid : Prop := packOneRow.holds Tryz.pinned (OpenSpec.ofChange packOneSpec)

/-- ITS FALSE NEIGHBOUR: 'it returns false'. Refute it at one input. -/
def packOneWrong : ChangeSpec := { name := "packOne", fn := fun _ => fun
  | [d1, d2, d3] => { results := [.lit (.bool false)], args := [d1, d2, d3] }
  | _ => none }
def PackOneWrongFalsely : Prop := packOneRow.holds Tryz.pinned (OpenSpec.ofChange packOneWrong)

/-- 'talweglaw28.PackRuns': WHATEVER THE INPUT: true; the input reads as it did. -/
def packRunsSpec : ChangeSpec := { name := "packRuns", fn := fun _ => fun
  | [d1, d2, d3] => { results := [.lit (.bool true)], args := [d1, d2, d3] }
  | _ => none }
def packRunsRow : OpenClaim := { program := "ytkjcdnlpjldhaaagreat", sum := "5eb414f66d54c95aaee3353bf5020795d06cd625ce19ab66fc7928f7f6224344", func := "talweg/talweglaw28.PackRuns", spec := "packRuns", unfollowed := true, recurses := true, apart := false }
def PackRunsSaid : Prop := packRunsRow.holds Tryz.pinned (OpenSpec.ofChange packRunsSpec)

/-- ITS FALSE NEIGHBOUR: 'it returns false'. Refute it at one input. -/
def packRunsWrong : ChangeSpec := { name := "packRuns", fn := fun _ => fun
  | [d1, d2, d3] => { results := [.lit (.bool false)], args := [d1, d2, d3] }
  | _ => none }
def PackRunsWrongFalsely : Prop := packRunsRow.holds Tryz.pinned (OpenSpec.ofChange packRunsWrong)

/- THE SECOND FORM. 'bulk': how many values and letters a reading holds, each counted each time it is reached (what is shared counts as often as it is met; a slice's spare places count too). A statement '..UptoSaid' is the law's where the arguments, and the package variables that the reading takes, are together of bulk at most 1048576: NARROWER than '..Said'. Prove '..Said' where nothing that the law and all that it calls make is longer than what came in: it says more and counts as full. Else prove '..UptoSaid'. A law counts once. -/
mutual
def uptoBulk {H : Type} : DataW H → Nat
  | .lit (.string bytes) => bytes.length + 1
  | .lit _ => 1
  | .nil => 1
  | .ptr d => uptoBulk d + 1
  | .slice elems spare => uptoBulkAll elems + uptoBulkAll spare + 1
  | .agg parts => uptoBulkAll parts + 1
  | .iface _ d => uptoBulk d + 1
  | .map entries => uptoBulkEntries entries + 1
  | .held _ => 1
def uptoBulkAll {H : Type} : List (DataW H) → Nat
  | [] => 0
  | d :: r => uptoBulk d + uptoBulkAll r
def uptoBulkEntries {H : Type} : List (Lit × DataW H) → Nat
  | [] => 0
  | x :: r => uptoBulkEntry x + uptoBulkEntries r
def uptoBulkEntry {H : Type} : Lit × DataW H → Nat
  | (.string bytes, d) => bytes.length + uptoBulk d + 1
  | (_, d) => uptoBulk d + 1
 end
def uptoSmall : (H : Type) → List (DataW H) → Bool := fun _ ds => decide (uptoBulkAll ds ≤ 1048576)
def OpenSpec.upto (s : _root_.Go.ChangeSpec) : _root_.Go.OpenSpec := { _root_.Go.OpenSpec.ofChange s with cond := some uptoSmall }

/-- 'talweglaw25.VmRights', WHERE WHAT IT READS IS OF BULK AT MOST 1048576: true; the input reads as it did. -/
def vmRightsUptoRow : OpenClaim := { program := "ytkjcdnlpjldhaaagreat", sum := "5eb414f66d54c95aaee3353bf5020795d06cd625ce19ab66fc7928f7f6224344", func := "talweg/talweglaw25.VmRights", spec := "vmRights", unfollowed := true, recurses := true, apart := false, narrowed := true }
def VmRightsUptoSaid : Prop := vmRightsUptoRow.holds Tryz.pinned (OpenSpec.upto vmRightsSpec)

/-- 'talweglaw25.VmRuns', WHERE WHAT IT READS IS OF BULK AT MOST 1048576: true; the input reads as it did. -/
def vmRunsUptoRow : OpenClaim := { program := "ytkjcdnlpjldhaaagreat", sum := "5eb414f66d54c95aaee3353bf5020795d06cd625ce19ab66fc7928f7f6224344", func := "talweg/talweglaw25.VmRuns", spec := "vmRuns", unfollowed := true, recurses := true, apart := false, narrowed := true }
def VmRunsUptoSaid : Prop := vmRunsUptoRow.holds Tryz.pinned (OpenSpec.upto vmRunsSpec)

/-- 'talweglaw25.VmFront', WHERE WHAT IT READS IS OF BULK AT MOST 1048576: true; the input reads as it did. -/
def vmFrontUptoRow : OpenClaim := { program := "ytkjcdnlpjldhaaagreat", sum := "5eb414f66d54c95aaee3353bf5020795d06cd625ce19ab66fc7928f7f6224344", func := "talweg/talweglaw25.VmFront", spec := "vmFront", unfollowed := true, recurses := true, apart := false, narrowed := true }
def VmFrontUptoSaid : Prop := vmFrontUptoRow.holds Tryz.pinned (OpenSpec.upto vmFrontSpec)

/-- 'talweglaw25.VmNames', WHERE WHAT IT READS IS OF BULK AT MOST 1048576: true; the input reads as it did. -/
def vmNamesUptoRow : OpenClaim := { program := "ytkjcdnlpjldhaaagreat", sum := "5eb414f66d54c95aaee3353bf5020795d06cd625ce19ab66fc7928f7f6224344", func := "talweg/talweglaw25.VmNames", spec := "vmNames", unfollowed := true, recurses := true, apart := false, narrowed := true }
def VmNamesUptoSaid : Prop := vmNamesUptoRow.holds Tryz.pinned (OpenSpec.upto vmNamesSpec)

/-- 'talweglaw28.PackTells', WHERE WHAT IT READS IS OF BULK AT MOST 1048576: true; the input reads as it did. -/
def packTellsUptoRow : OpenClaim := { program := "ytkjcdnlpjldhaaagreat", sum := "5eb414f66d54c95aaee3353bf5020795d06cd625ce19ab66fc7928f7f6224344", func := "talweg/talweglaw28.PackTells", spec := "packTells", unfollowed := true, recurses := true, apart := false, narrowed := true }
def PackTellsUptoSaid : Prop := packTellsUptoRow.holds Tryz.pinned (OpenSpec.upto packTellsSpec)

/-- 'talweglaw28.PackReads', WHERE WHAT IT READS IS OF BULK AT MOST 1048576: true; the input reads as it did. -/
def packReadsUptoRow : OpenClaim := { program := "ytkjcdnlpjldhaaagreat", sum := "5eb414f66d54c95aaee3353bf5020795d06cd625ce19ab66fc7928f7f6224344", func := "talweg/talweglaw28.PackReads", spec := "packReads", unfollowed := true, recurses := true, apart := false, narrowed := true }
def PackReadsUptoSaid : Prop := packReadsUptoRow.holds Tryz.pinned (OpenSpec.upto packReadsSpec)

/-- 'talweglaw28.PackBack', WHERE WHAT IT READS IS OF BULK AT MOST 1048576: true; the input reads as it did. -/
def packBackUptoRow : OpenClaim := { program := "ytkjcdnlpjldhaaagreat", sum := "5eb414f66d54c95aaee3353bf5020795d06cd625ce19ab66fc7928f7f6224344", func := "talweg/talweglaw28.PackBack", spec := "packBack", unfollowed := true, recurses := true, apart := false, narrowed := true }
def PackBackUptoSaid : Prop := packBackUptoRow.holds Tryz.pinned (OpenSpec.upto packBackSpec)

/-- 'talweglaw28.PackOne', WHERE WHAT IT READS IS OF BULK AT MOST 1048576: true; the input reads as it did. -/
def packOneUptoRow : OpenClaim := { program := "ytkjcdnlpjldhaaagreat", sum := "5eb414f66d54c95aaee3353bf5020795d06cd625ce19ab66fc7928f7f6224344", func := "talweg/talweglaw28.PackOne", spec := "packOne", unfollowed := true, recurses := true, apart := false, narrowed := true }
def PackOneUptoSaid : Prop := packOneUptoRow.holds Tryz.pinned (OpenSpec.upto packOneSpec)

/-- 'talweglaw28.PackRuns', WHERE WHAT IT READS IS OF BULK AT MOST 1048576: true; the input reads as it did. -/
def packRunsUptoRow : OpenClaim := { program := "ytkjcdnlpjldhaaagreat", sum := "5eb414f66d54c95aaee3353bf5020795d06cd625ce19ab66fc7928f7f6224344", func := "talweg/talweglaw28.PackRuns", spec := "packRuns", unfollowed := true, recurses := true, apart := false, narrowed := true }
def PackRunsUptoSaid : Prop := packRunsUptoRow.holds Tryz.pinned (OpenSpec.upto packRunsSpec)

end Rows
end Go.Proofs.YtkjcdnlpjldhaaaGreat
