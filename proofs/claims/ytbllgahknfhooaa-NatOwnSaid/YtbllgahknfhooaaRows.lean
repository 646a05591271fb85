/-
  No cell of these rows narrows 'for every input' (looked for: loops, veiled, ifaces, maps, wideKeys, modest, calm, conditions, laid).
  DERIVED. THE GIVEN ROWS OF THIS SEAT. 12 by the template 'for every input the law returns true; each argument reads behind the call as it read before'; 0 by the template 'total and deterministic' (their statements: YtbllgahknfhooaaTotals.lean).
  GIVEN WITH THE SEED: the statements are not yours to turn. If you find one false, say at which input.
  Laid BY PROGRAM, IN A SANDBOX (cutbox-rows.mjs): the forced cells as the released guide's own fill.sh prints them over the translation 11026884a6ca21b0… (all of the seat's roots in one cut). By AI agents, Wed Nov 11 2026. No macro, syntax, notation, axiom, sorry.
-/
import Derived.Test.YtbllgahknfhooaaChecked
import GoSem.Claim
import GoSem.ClaimJoined
import GoSem.ClaimMapViews
import Derived.JoinedTies
import Derived.KernelRfl
namespace Go.Proofs.Ytbllgahknfhooaa
/- THE CELL 'sum', in the pinned program and in every row, IS THE sha256 OF THE DUMP (.gsa) THAT YtbllgahknfhooaaProg.lean LOADS. Nothing in Lean hashes anything: it is a label: what it is worth is what the hold of that sum in a sandbox is worth. -/
noncomputable def Try.pinned : Pinned := { name := "ytbllgahknfhooaa", sum := "11026884a6ca21b02fc4be7cc4fffad4c4d67f0015e358769ca2131f5ba35fa1", checked := Try.checked }
namespace Rows
def none {H : Type} : Left H := { results := [], args := [] }

/-- 'talweglaw03.TimesTells': WHATEVER THE INPUT: true; the input reads as it did. -/
def timesTellsSpec : ChangeSpec := { name := "timesTells", fn := fun _ => fun
  | [d1, d2, d3, d4] => { results := [.lit (.bool true)], args := [d1, d2, d3, d4] }
  | _ => none }
def timesTellsRow : OpenClaim := { program := "ytbllgahknfhooaa", sum := "11026884a6ca21b02fc4be7cc4fffad4c4d67f0015e358769ca2131f5ba35fa1", func := "talweg/talweglaw03.TimesTells", spec := "timesTells", apart := false }
def TimesTellsSaid : Prop := timesTellsRow.holds Try.pinned (OpenSpec.ofChange timesTellsSpec)

/-- ITS FALSE NEIGHBOUR: 'it returns false'. Refute it at one input. -/
def timesTellsWrong : ChangeSpec := { name := "timesTells", fn := fun _ => fun
  | [d1, d2, d3, d4] => { results := [.lit (.bool false)], args := [d1, d2, d3, d4] }
  | _ => none }
def TimesTellsWrongFalsely : Prop := timesTellsRow.holds Try.pinned (OpenSpec.ofChange timesTellsWrong)

/-- 'talweglaw03.TimesPowers': WHATEVER THE INPUT: true; the input reads as it did. -/
def timesPowersSpec : ChangeSpec := { name := "timesPowers", fn := fun _ => fun
  | [d1, d2, d3] => { results := [.lit (.bool true)], args := [d1, d2, d3] }
  | _ => none }
def timesPowersRow : OpenClaim := { program := "ytbllgahknfhooaa", sum := "11026884a6ca21b02fc4be7cc4fffad4c4d67f0015e358769ca2131f5ba35fa1", func := "talweg/talweglaw03.TimesPowers", spec := "timesPowers", apart := false }
def TimesPowersSaid : Prop := timesPowersRow.holds Try.pinned (OpenSpec.ofChange timesPowersSpec)

/-- ITS FALSE NEIGHBOUR: 'it returns false'. Refute it at one input. -/
def timesPowersWrong : ChangeSpec := { name := "timesPowers", fn := fun _ => fun
  | [d1, d2, d3] => { results := [.lit (.bool false)], args := [d1, d2, d3] }
  | _ => none }
def TimesPowersWrongFalsely : Prop := timesPowersRow.holds Try.pinned (OpenSpec.ofChange timesPowersWrong)

/-- 'talweglaw03.TimesBits': WHATEVER THE INPUT: true; the input reads as it did. -/
def timesBitsSpec : ChangeSpec := { name := "timesBits", fn := fun _ => fun
  | [d1, d2] => { results := [.lit (.bool true)], args := [d1, d2] }
  | _ => none }
def timesBitsRow : OpenClaim := { program := "ytbllgahknfhooaa", sum := "11026884a6ca21b02fc4be7cc4fffad4c4d67f0015e358769ca2131f5ba35fa1", func := "talweg/talweglaw03.TimesBits", spec := "timesBits", apart := false }
def TimesBitsSaid : Prop := timesBitsRow.holds Try.pinned (OpenSpec.ofChange timesBitsSpec)

/-- ITS FALSE NEIGHBOUR: 'it returns false'. Refute it at one input. -/
def timesBitsWrong : ChangeSpec := { name := "timesBits", fn := fun _ => fun
  | [d1, d2] => { results := [.lit (.bool false)], args := [d1, d2] }
  | _ => none }
def TimesBitsWrongFalsely : Prop := timesBitsRow.holds Try.pinned (OpenSpec.ofChange timesBitsWrong)

/-- 'talweglaw03.TimesAgain': WHATEVER THE INPUT: true; the input reads as it did. -/
def timesAgainSpec : ChangeSpec := { name := "timesAgain", fn := fun _ => fun
  | [d1, d2, d3, d4, d5] => { results := [.lit (.bool true)], args := [d1, d2, d3, d4, d5] }
  | _ => none }
def timesAgainRow : OpenClaim := { program := "ytbllgahknfhooaa", sum := "11026884a6ca21b02fc4be7cc4fffad4c4d67f0015e358769ca2131f5ba35fa1", func := "talweg/talweglaw03.TimesAgain", spec := "timesAgain", apart := false }
def TimesAgainSaid : Prop := timesAgainRow.holds Try.pinned (OpenSpec.ofChange timesAgainSpec)

/-- ITS FALSE NEIGHBOUR: 'it returns false'. Refute it at one input. -/
def timesAgainWrong : ChangeSpec := { name := "timesAgain", fn := fun _ => fun
  | [d1, d2, d3, d4, d5] => { results := [.lit (.bool false)], args := [d1, d2, d3, d4, d5] }
  | _ => none }
def TimesAgainWrongFalsely : Prop := timesAgainRow.holds Try.pinned (OpenSpec.ofChange timesAgainWrong)

/-- 'talweglaw03.TimesOrder': WHATEVER THE INPUT: true; the input reads as it did. -/
def timesOrderSpec : ChangeSpec := { name := "timesOrder", fn := fun _ => fun
  | [d1, d2, d3] => { results := [.lit (.bool true)], args := [d1, d2, d3] }
  | _ => none }
def timesOrderRow : OpenClaim := { program := "ytbllgahknfhooaa", sum := "11026884a6ca21b02fc4be7cc4fffad4c4d67f0015e358769ca2131f5ba35fa1", func := "talweg/talweglaw03.TimesOrder", spec := "timesOrder", apart := false }
def TimesOrderSaid : Prop := timesOrderRow.holds Try.pinned (OpenSpec.ofChange timesOrderSpec)

/-- ITS FALSE NEIGHBOUR: 'it returns false'. Refute it at one input. -/
def timesOrderWrong : ChangeSpec := { name := "timesOrder", fn := fun _ => fun
  | [d1, d2, d3] => { results := [.lit (.bool false)], args := [d1, d2, d3] }
  | _ => none }
def TimesOrderWrongFalsely : Prop := timesOrderRow.holds Try.pinned (OpenSpec.ofChange timesOrderWrong)

/-- 'talweglaw02.NatTells': WHATEVER THE INPUT: true; the input reads as it did. -/
def natTellsSpec : ChangeSpec := { name := "natTells", fn := fun _ => fun
  | [d1, d2] => { results := [.lit (.bool true)], args := [d1, d2] }
  | _ => none }
def natTellsRow : OpenClaim := { program := "ytbllgahknfhooaa", sum := "11026884a6ca21b02fc4be7cc4fffad4c4d67f0015e358769ca2131f5ba35fa1", func := "talweg/talweglaw02.NatTells", spec := "natTells", apart := false }
def NatTellsSaid : Prop := natTellsRow.holds Try.pinned (OpenSpec.ofChange natTellsSpec)

/-- ITS FALSE NEIGHBOUR: 'it returns false'. Refute it at one input. -/
def natTellsWrong : ChangeSpec := { name := "natTells", fn := fun _ => fun
  | [d1, d2] => { results := [.lit (.bool false)], args := [d1, d2] }
  | _ => none }
def NatTellsWrongFalsely : Prop := natTellsRow.holds Try.pinned (OpenSpec.ofChange natTellsWrong)

/-- 'talweglaw02.NatOrder': WHATEVER THE INPUT: true; the input reads as it did. -/
def natOrderSpec : ChangeSpec := { name := "natOrder", fn := fun _ => fun
  | [d1, d2, d3] => { results := [.lit (.bool true)], args := [d1, d2, d3] }
  | _ => none }
def natOrderRow : OpenClaim := { program := "ytbllgahknfhooaa", sum := "11026884a6ca21b02fc4be7cc4fffad4c4d67f0015e358769ca2131f5ba35fa1", func := "talweg/talweglaw02.NatOrder", spec := "natOrder", apart := false }
def NatOrderSaid : Prop := natOrderRow.holds Try.pinned (OpenSpec.ofChange natOrderSpec)

/-- ITS FALSE NEIGHBOUR: 'it returns false'. Refute it at one input. -/
def natOrderWrong : ChangeSpec := { name := "natOrder", fn := fun _ => fun
  | [d1, d2, d3] => { results := [.lit (.bool false)], args := [d1, d2, d3] }
  | _ => none }
def NatOrderWrongFalsely : Prop := natOrderRow.holds Try.pinned (OpenSpec.ofChange natOrderWrong)

/-- 'talweglaw02.NatReckons': WHATEVER THE INPUT: true; the input reads as it did. -/
def natReckonsSpec : ChangeSpec := { name := "natReckons", fn := fun _ => fun
  | [d1, d2] => { results := [.lit (.bool true)], args := [d1, d2] }
  | _ => none }
def natReckonsRow : OpenClaim := { program := "ytbllgahknfhooaa", sum := "11026884a6ca21b02fc4be7cc4fffad4c4d67f0015e358769ca2131f5ba35fa1", func := "talweg/talweglaw02.NatReckons", spec := "natReckons", apart := false }
def NatReckonsSaid : Prop := natReckonsRow.holds Try.pinned (OpenSpec.ofChange natReckonsSpec)

/-- ITS FALSE NEIGHBOUR: 'it returns false'. Refute it at one input. -/
def natReckonsWrong : ChangeSpec := { name := "natReckons", fn := fun _ => fun
  | [d1, d2] => { results := [.lit (.bool false)], args := [d1, d2] }
  | _ => none }
def NatReckonsWrongFalsely : Prop := natReckonsRow.holds Try.pinned (OpenSpec.ofChange natReckonsWrong)

/-- 'talweglaw02.NatBack': WHATEVER THE INPUT: true; the input reads as it did. -/
def natBackSpec : ChangeSpec := { name := "natBack", fn := fun _ => fun
  | [d1, d2] => { results := [.lit (.bool true)], args := [d1, d2] }
  | _ => none }
def natBackRow : OpenClaim := { program := "ytbllgahknfhooaa", sum := "11026884a6ca21b02fc4be7cc4fffad4c4d67f0015e358769ca2131f5ba35fa1", func := "talweg/talweglaw02.NatBack", spec := "natBack", apart := false }
def NatBackSaid : Prop := natBackRow.holds Try.pinned (OpenSpec.ofChange natBackSpec)

/-- ITS FALSE NEIGHBOUR: 'it returns false'. Refute it at one input. -/
def natBackWrong : ChangeSpec := { name := "natBack", fn := fun _ => fun
  | [d1, d2] => { results := [.lit (.bool false)], args := [d1, d2] }
  | _ => none }
def NatBackWrongFalsely : Prop := natBackRow.holds Try.pinned (OpenSpec.ofChange natBackWrong)

/-- 'talweglaw02.NatSmall': WHATEVER THE INPUT: true; the input reads as it did. -/
def natSmallSpec : ChangeSpec := { name := "natSmall", fn := fun _ => fun
  | [d1, d2] => { results := [.lit (.bool true)], args := [d1, d2] }
  | _ => none }
def natSmallRow : OpenClaim := { program := "ytbllgahknfhooaa", sum := "11026884a6ca21b02fc4be7cc4fffad4c4d67f0015e358769ca2131f5ba35fa1", func := "talweg/talweglaw02.NatSmall", spec := "natSmall", apart := false }
def NatSmallSaid : Prop := natSmallRow.holds Try.pinned (OpenSpec.ofChange natSmallSpec)

/-- ITS FALSE NEIGHBOUR: 'it returns false'. Refute it at one input. -/
def natSmallWrong : ChangeSpec := { name := "natSmall", fn := fun _ => fun
  | [d1, d2] => { results := [.lit (.bool false)], args := [d1, d2] }
  | _ => none }
def NatSmallWrongFalsely : Prop := natSmallRow.holds Try.pinned (OpenSpec.ofChange natSmallWrong)

/-- 'talweglaw02.NatOwn': WHATEVER THE INPUT: true; the input reads as it did. -/
def natOwnSpec : ChangeSpec := { name := "natOwn", fn := fun _ => fun
  | [d1, d2, d3] => { results := [.lit (.bool true)], args := [d1, d2, d3] }
  | _ => none }
def natOwnRow : OpenClaim := { program := "ytbllgahknfhooaa", sum := "11026884a6ca21b02fc4be7cc4fffad4c4d67f0015e358769ca2131f5ba35fa1", func := "talweg/talweglaw02.NatOwn", spec := "natOwn", apart := false }
def NatOwnSaid : Prop := natOwnRow.holds Try.pinned (OpenSpec.ofChange natOwnSpec)

/-- ITS FALSE NEIGHBOUR: 'it returns false'. Refute it at one input. -/
def natOwnWrong : ChangeSpec := { name := "natOwn", fn := fun _ => fun
  | [d1, d2, d3] => { results := [.lit (.bool false)], args := [d1, d2, d3] }
  | _ => none }
def NatOwnWrongFalsely : Prop := natOwnRow.holds Try.pinned (OpenSpec.ofChange natOwnWrong)

/-- 'talweglaw03.TimesSums': WHATEVER THE INPUT: true; the input reads as it did. -/
def timesSumsSpec : ChangeSpec := { name := "timesSums", fn := fun _ => fun
  | [d1, d2, d3] => { results := [.lit (.bool true)], args := [d1, d2, d3] }
  | _ => none }
def timesSumsRow : OpenClaim := { program := "ytbllgahknfhooaa", sum := "11026884a6ca21b02fc4be7cc4fffad4c4d67f0015e358769ca2131f5ba35fa1", func := "talweg/talweglaw03.TimesSums", spec := "timesSums", apart := false }
def TimesSumsSaid : Prop := timesSumsRow.holds Try.pinned (OpenSpec.ofChange timesSumsSpec)

/-- ITS FALSE NEIGHBOUR: 'it returns false'. Refute it at one input. -/
def timesSumsWrong : ChangeSpec := { name := "timesSums", fn := fun _ => fun
  | [d1, d2, d3] => { results := [.lit (.bool false)], args := [d1, d2, d3] }
  | _ => none }
def TimesSumsWrongFalsely : Prop := timesSumsRow.holds Try.pinned (OpenSpec.ofChange timesSumsWrong)

/- THE SECOND FORM. 'bulk': how many values and letters a reading holds, each counted each time it is reached (what is shared counts as often as it is met; a slice's spare places count too). A statement '..UptoSaid' is the law's where the arguments, and the package variables that the reading takes, are together of bulk at most 1048576: NARROWER than '..Said'. Prove '..Said' where nothing that the law and all that it calls make is longer than what came in: it says more and counts as full. Else prove '..UptoSaid'. A law counts once. -/
mutual
def uptoBulk {H : Type} : DataW H → Nat
  | .lit (.string bytes) => bytes.length + 1
  | .lit _ => 1
  | .nil => 1
  | .ptr d => uptoBulk d + 1
  | .slice elems spare => uptoBulkAll elems + uptoBulkAll spare + 1
  | .agg parts => uptoBulkAll parts + 1
  | .iface _ d => uptoBulk d + 1
  | .map entries => uptoBulkEntries entries + 1
  | .held _ => 1
def uptoBulkAll {H : Type} : List (DataW H) → Nat
  | [] => 0
  | d :: r => uptoBulk d + uptoBulkAll r
def uptoBulkEntries {H : Type} : List (Lit × DataW H) → Nat
  | [] => 0
  | x :: r => uptoBulkEntry x + uptoBulkEntries r
def uptoBulkEntry {H : Type} : Lit × DataW H → Nat
  | (.string bytes, d) => bytes.length + uptoBulk d + 1
  | (_, d) => uptoBulk d + 1
 end
def uptoSmall : (H : Type) → List (DataW H) → Bool := fun _ ds => decide (uptoBulkAll ds ≤ 1048576)
def OpenSpec.upto (s : _root_.Go.ChangeSpec) : _root_.Go.OpenSpec := { _root_.Go.OpenSpec.ofChange s with cond := some uptoSmall }

/-- 'talweglaw03.TimesTells', WHERE WHAT IT READS IS OF BULK AT MOST 1048576: true; the input reads as it did. -/
def timesTellsUptoRow : OpenClaim := { program := "ytbllgahknfhooaa", sum := "11026884a6ca21b02fc4be7cc4fffad4c4d67f0015e358769ca2131f5ba35fa1", func := "talweg/talweglaw03.TimesTells", spec := "timesTells", apart := false, narrowed := true }
def TimesTellsUptoSaid : Prop := timesTellsUptoRow.holds Try.pinned (OpenSpec.upto timesTellsSpec)

/-- 'talweglaw03.TimesPowers', WHERE WHAT IT READS IS OF BULK AT MOST 1048576: true; the input reads as it did. -/
def timesPowersUptoRow : OpenClaim := { program := "ytbllgahknfhooaa", sum := "11026884a6ca21b02fc4be7cc4fffad4c4d67f0015e358769ca2131f5ba35fa1", func := "talweg/talweglaw03.TimesPowers", spec := "timesPowers", apart := false, narrowed := true }
def TimesPowersUptoSaid : Prop := timesPowersUptoRow.holds Try.pinned (OpenSpec.upto timesPowersSpec)

/-- 'talweglaw03.TimesBits', WHERE WHAT IT READS IS OF BULK AT MOST 1048576: true; the input reads as it did. -/
def timesBitsUptoRow : OpenClaim := { program := "ytbllgahknfhooaa", sum := "11026884a6ca21b02fc4be7cc4fffad4c4d67f0015e358769ca2131f5ba35fa1", func := "talweg/talweglaw03.TimesBits", spec := "timesBits", apart := false, narrowed := true }
def TimesBitsUptoSaid : Prop := timesBitsUptoRow.holds Try.pinned (OpenSpec.upto timesBitsSpec)

/-- 'talweglaw03.TimesAgain', WHERE WHAT IT READS IS OF BULK AT MOST 1048576: true; the input reads as it did. -/
def timesAgainUptoRow : OpenClaim := { program := "ytbllgahknfhooaa", sum := "11026884a6ca21b02fc4be7cc4fffad4c4d67f0015e358769ca2131f5ba35fa1", func := "talweg/talweglaw03.TimesAgain", spec := "timesAgain", apart := false, narrowed := true }
def TimesAgainUptoSaid : Prop := timesAgainUptoRow.holds Try.pinned (OpenSpec.upto timesAgainSpec)

/-- 'talweglaw03.TimesOrder', WHERE WHAT IT READS IS OF BULK AT MOST 1048576: true; the input reads as it did. -/
def timesOrderUptoRow : OpenClaim := { program := "ytbllgahknfhooaa", sum := "11026884a6ca21b02fc4be7cc4fffad4c4d67f0015e358769ca2131f5ba35fa1", func := "talweg/talweglaw03.TimesOrder", spec := "timesOrder", apart := false, narrowed := true }
def TimesOrderUptoSaid : Prop := timesOrderUptoRow.holds Try.pinned (OpenSpec.upto timesOrderSpec)

/-- 'talweglaw02.NatTells', WHERE WHAT IT READS IS OF BULK AT MOST 1048576: true; the input reads as it did. -/
def natTellsUptoRow : OpenClaim := { program := "ytbllgahknfhooaa", sum := "11026884a6ca21b02fc4be7cc4fffad4c4d67f0015e358769ca2131f5ba35fa1", func := "talweg/talweglaw02.NatTells", spec := "natTells", apart := false, narrowed := true }
def NatTellsUptoSaid : Prop := natTellsUptoRow.holds Try.pinned (OpenSpec.upto natTellsSpec)

/-- 'talweglaw02.NatOrder', WHERE WHAT IT READS IS OF BULK AT MOST 1048576: true; the input reads as it did. -/
def natOrderUptoRow : OpenClaim := { program := "ytbllgahknfhooaa", sum := "11026884a6ca21b02fc4be7cc4fffad4c4d67f0015e358769ca2131f5ba35fa1", func := "talweg/talweglaw02.NatOrder", spec := "natOrder", apart := false, narrowed := true }
def NatOrderUptoSaid : Prop := natOrderUptoRow.holds Try.pinned (OpenSpec.upto natOrderSpec)

/-- 'talweglaw02.NatReckons', WHERE WHAT IT READS IS OF BULK AT MOST 1048576: true; the input reads as it did. -/
def natReckonsUptoRow : OpenClaim := { program := "ytbllgahknfhooaa", sum := "11026884a6ca21b02fc4be7cc4fffad4c4d67f0015e358769ca2131f5ba35fa1", func := "talweg/talweglaw02.NatReckons", spec := "natReckons", apart := false, narrowed := true }
def NatReckonsUptoSaid : Prop := natReckonsUptoRow.holds Try.pinned (OpenSpec.upto natReckonsSpec)

/-- 'talweglaw02.NatBack', WHERE WHAT IT READS IS OF BULK AT MOST 1048576: true; the input reads as it did. -/
def natBackUptoRow : OpenClaim := { program := "ytbllgahknfhooaa", sum := "11026884a6ca21b02fc4be7cc4fffad4c4d67f0015e358769ca2131f5ba35fa1", func := "talweg/talweglaw02.NatBack", spec := "natBack", apart := false, narrowed := true }
def NatBackUptoSaid : Prop := natBackUptoRow.holds Try.pinned (OpenSpec.upto natBackSpec)

/-- 'talweglaw02.NatSmall', WHERE WHAT IT READS IS OF BULK AT MOST 1048576: true; the input reads as it did. -/
def natSmallUptoRow : OpenClaim := { program := "ytbllgahknfhooaa", sum := "11026884a6ca21b02fc4be7cc4fffad4c4d67f0015e358769ca2131f5ba35fa1", func := "talweg/talweglaw02.NatSmall", spec := "natSmall", apart := false, narrowed := true }
def NatSmallUptoSaid : Prop := natSmallUptoRow.holds Try.pinned (OpenSpec.upto natSmallSpec)

/-- 'talweglaw02.NatOwn', WHERE WHAT IT READS IS OF BULK AT MOST 1048576: true; the input reads as it did. -/
def natOwnUptoRow : OpenClaim := { program := "ytbllgahknfhooaa", sum := "11026884a6ca21b02fc4be7cc4fffad4c4d67f0015e358769ca2131f5ba35fa1", func := "talweg/talweglaw02.NatOwn", spec := "natOwn", apart := false, narrowed := true }
def NatOwnUptoSaid : Prop := natOwnUptoRow.holds Try.pinned (OpenSpec.upto natOwnSpec)

/-- 'talweglaw03.TimesSums', WHERE WHAT IT READS IS OF BULK AT MOST 1048576: true; the input reads as it did. -/
def timesSumsUptoRow : OpenClaim := { program := "ytbllgahknfhooaa", sum := "11026884a6ca21b02fc4be7cc4fffad4c4d67f0015e358769ca2131f5ba35fa1", func := "talweg/talweglaw03.TimesSums", spec := "timesSums", apart := false, narrowed := true }
def TimesSumsUptoSaid : Prop := timesSumsUptoRow.holds Try.pinned (OpenSpec.upto timesSumsSpec)

end Rows
end Go.Proofs.Ytbllgahknfhooaa
