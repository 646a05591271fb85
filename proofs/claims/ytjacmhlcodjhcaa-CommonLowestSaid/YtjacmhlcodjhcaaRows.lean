/-
  No cell of these rows narrows 'for every input' (looked for: loops, veiled, ifaces, maps, wideKeys, modest, calm, conditions, laid).
  DERIVED. THE GIVEN ROWS OF THIS SEAT. 11 by the template 'for every input the law returns true; each argument reads behind the call as it read before'; 0 by the template 'total and deterministic' (their statements: YtjacmhlcodjhcaaTotals.lean).
  GIVEN WITH THE SEED: the statements are not yours to turn. If you find one false, say at which input.
  Laid BY PROGRAM, IN A SANDBOX (cutbox-rows.mjs): the forced cells as the released guide's own fill.sh prints them over the translation d89fa5267441f204… (all of the seat's roots in one cut). By AI agents, Wed Nov 11 2026. No macro, syntax, notation, axiom, sorry.
-/
import Derived.Test.YtjacmhlcodjhcaaChecked
import GoSem.Claim
import GoSem.ClaimJoined
import GoSem.ClaimMapViews
import Derived.JoinedTies
import Derived.KernelRfl
namespace Go.Proofs.Ytjacmhlcodjhcaa
/- THE CELL 'sum', in the pinned program and in every row, IS THE sha256 OF THE DUMP (.gsa) THAT YtjacmhlcodjhcaaProg.lean LOADS. Nothing in Lean hashes anything: it is a label: what it is worth is what the hold of that sum in a sandbox is worth. -/
noncomputable def Try.pinned : Pinned := { name := "ytjacmhlcodjhcaa", sum := "d89fa5267441f204d676187d9ddd04add25777f582a4c9223105cb7f0814f282", checked := Try.checked }
namespace Rows
def none {H : Type} : Left H := { results := [], args := [] }

/-- 'talweglaw04.SplitTells': WHATEVER THE INPUT: true; the input reads as it did. -/
def splitTellsSpec : ChangeSpec := { name := "splitTells", fn := fun _ => fun
  | [d1, d2, d3] => { results := [.lit (.bool true)], args := [d1, d2, d3] }
  | _ => none }
def splitTellsRow : OpenClaim := { program := "ytjacmhlcodjhcaa", sum := "d89fa5267441f204d676187d9ddd04add25777f582a4c9223105cb7f0814f282", func := "talweg/talweglaw04.SplitTells", spec := "splitTells", apart := false }
def SplitTellsSaid : Prop := splitTellsRow.holds Try.pinned (OpenSpec.ofChange splitTellsSpec)

/-- ITS FALSE NEIGHBOUR: 'it returns false'. Refute it at one input. -/
def splitTellsWrong : ChangeSpec := { name := "splitTells", fn := fun _ => fun
  | [d1, d2, d3] => { results := [.lit (.bool false)], args := [d1, d2, d3] }
  | _ => none }
def SplitTellsWrongFalsely : Prop := splitTellsRow.holds Try.pinned (OpenSpec.ofChange splitTellsWrong)

/-- 'talweglaw04.SplitWhole': WHATEVER THE INPUT: true; the input reads as it did. -/
def splitWholeSpec : ChangeSpec := { name := "splitWhole", fn := fun _ => fun
  | [d1, d2, d3] => { results := [.lit (.bool true)], args := [d1, d2, d3] }
  | _ => none }
def splitWholeRow : OpenClaim := { program := "ytjacmhlcodjhcaa", sum := "d89fa5267441f204d676187d9ddd04add25777f582a4c9223105cb7f0814f282", func := "talweg/talweglaw04.SplitWhole", spec := "splitWhole", apart := false }
def SplitWholeSaid : Prop := splitWholeRow.holds Try.pinned (OpenSpec.ofChange splitWholeSpec)

/-- ITS FALSE NEIGHBOUR: 'it returns false'. Refute it at one input. -/
def splitWholeWrong : ChangeSpec := { name := "splitWhole", fn := fun _ => fun
  | [d1, d2, d3] => { results := [.lit (.bool false)], args := [d1, d2, d3] }
  | _ => none }
def SplitWholeWrongFalsely : Prop := splitWholeRow.holds Try.pinned (OpenSpec.ofChange splitWholeWrong)

/-- 'talweglaw04.SplitTwice': WHATEVER THE INPUT: true; the input reads as it did. -/
def splitTwiceSpec : ChangeSpec := { name := "splitTwice", fn := fun _ => fun
  | [d1, d2, d3] => { results := [.lit (.bool true)], args := [d1, d2, d3] }
  | _ => none }
def splitTwiceRow : OpenClaim := { program := "ytjacmhlcodjhcaa", sum := "d89fa5267441f204d676187d9ddd04add25777f582a4c9223105cb7f0814f282", func := "talweg/talweglaw04.SplitTwice", spec := "splitTwice", apart := false }
def SplitTwiceSaid : Prop := splitTwiceRow.holds Try.pinned (OpenSpec.ofChange splitTwiceSpec)

/-- ITS FALSE NEIGHBOUR: 'it returns false'. Refute it at one input. -/
def splitTwiceWrong : ChangeSpec := { name := "splitTwice", fn := fun _ => fun
  | [d1, d2, d3] => { results := [.lit (.bool false)], args := [d1, d2, d3] }
  | _ => none }
def SplitTwiceWrongFalsely : Prop := splitTwiceRow.holds Try.pinned (OpenSpec.ofChange splitTwiceWrong)

/-- 'talweglaw04.SplitBack': WHATEVER THE INPUT: true; the input reads as it did. -/
def splitBackSpec : ChangeSpec := { name := "splitBack", fn := fun _ => fun
  | [d1, d2] => { results := [.lit (.bool true)], args := [d1, d2] }
  | _ => none }
def splitBackRow : OpenClaim := { program := "ytjacmhlcodjhcaa", sum := "d89fa5267441f204d676187d9ddd04add25777f582a4c9223105cb7f0814f282", func := "talweg/talweglaw04.SplitBack", spec := "splitBack", apart := false }
def SplitBackSaid : Prop := splitBackRow.holds Try.pinned (OpenSpec.ofChange splitBackSpec)

/-- ITS FALSE NEIGHBOUR: 'it returns false'. Refute it at one input. -/
def splitBackWrong : ChangeSpec := { name := "splitBack", fn := fun _ => fun
  | [d1, d2] => { results := [.lit (.bool false)], args := [d1, d2] }
  | _ => none }
def SplitBackWrongFalsely : Prop := splitBackRow.holds Try.pinned (OpenSpec.ofChange splitBackWrong)

/-- 'talweglaw04.SplitRoots': WHATEVER THE INPUT: true; the input reads as it did. -/
def splitRootsSpec : ChangeSpec := { name := "splitRoots", fn := fun _ => fun
  | [d] => { results := [.lit (.bool true)], args := [d] }
  | _ => none }
def splitRootsRow : OpenClaim := { program := "ytjacmhlcodjhcaa", sum := "d89fa5267441f204d676187d9ddd04add25777f582a4c9223105cb7f0814f282", func := "talweg/talweglaw04.SplitRoots", spec := "splitRoots", apart := false }
def SplitRootsSaid : Prop := splitRootsRow.holds Try.pinned (OpenSpec.ofChange splitRootsSpec)

/-- ITS FALSE NEIGHBOUR: 'it returns false'. Refute it at one input. -/
def splitRootsWrong : ChangeSpec := { name := "splitRoots", fn := fun _ => fun
  | [d] => { results := [.lit (.bool false)], args := [d] }
  | _ => none }
def SplitRootsWrongFalsely : Prop := splitRootsRow.holds Try.pinned (OpenSpec.ofChange splitRootsWrong)

/-- 'talweglaw05.CommonTells': WHATEVER THE INPUT: true; the input reads as it did. -/
def commonTellsSpec : ChangeSpec := { name := "commonTells", fn := fun _ => fun
  | [d1, d2] => { results := [.lit (.bool true)], args := [d1, d2] }
  | _ => none }
def commonTellsRow : OpenClaim := { program := "ytjacmhlcodjhcaa", sum := "d89fa5267441f204d676187d9ddd04add25777f582a4c9223105cb7f0814f282", func := "talweg/talweglaw05.CommonTells", spec := "commonTells", unfollowed := true, recurses := true, apart := false }
def CommonTellsSaid : Prop := commonTellsRow.holds Try.pinned (OpenSpec.ofChange commonTellsSpec)

/-- ITS FALSE NEIGHBOUR: 'it returns false'. Refute it at one input. -/
def commonTellsWrong : ChangeSpec := { name := "commonTells", fn := fun _ => fun
  | [d1, d2] => { results := [.lit (.bool false)], args := [d1, d2] }
  | _ => none }
def CommonTellsWrongFalsely : Prop := commonTellsRow.holds Try.pinned (OpenSpec.ofChange commonTellsWrong)

/-- 'talweglaw05.CommonDivides': WHATEVER THE INPUT: true; the input reads as it did. -/
def commonDividesSpec : ChangeSpec := { name := "commonDivides", fn := fun _ => fun
  | [d1, d2, d3] => { results := [.lit (.bool true)], args := [d1, d2, d3] }
  | _ => none }
def commonDividesRow : OpenClaim := { program := "ytjacmhlcodjhcaa", sum := "d89fa5267441f204d676187d9ddd04add25777f582a4c9223105cb7f0814f282", func := "talweg/talweglaw05.CommonDivides", spec := "commonDivides", unfollowed := true, recurses := true, apart := false }
def CommonDividesSaid : Prop := commonDividesRow.holds Try.pinned (OpenSpec.ofChange commonDividesSpec)

/-- ITS FALSE NEIGHBOUR: 'it returns false'. Refute it at one input. -/
def commonDividesWrong : ChangeSpec := { name := "commonDivides", fn := fun _ => fun
  | [d1, d2, d3] => { results := [.lit (.bool false)], args := [d1, d2, d3] }
  | _ => none }
def CommonDividesWrongFalsely : Prop := commonDividesRow.holds Try.pinned (OpenSpec.ofChange commonDividesWrong)

/-- 'talweglaw05.CommonProduct': WHATEVER THE INPUT: true; the input reads as it did. -/
def commonProductSpec : ChangeSpec := { name := "commonProduct", fn := fun _ => fun
  | [d1, d2] => { results := [.lit (.bool true)], args := [d1, d2] }
  | _ => none }
def commonProductRow : OpenClaim := { program := "ytjacmhlcodjhcaa", sum := "d89fa5267441f204d676187d9ddd04add25777f582a4c9223105cb7f0814f282", func := "talweg/talweglaw05.CommonProduct", spec := "commonProduct", unfollowed := true, recurses := true, apart := false }
def CommonProductSaid : Prop := commonProductRow.holds Try.pinned (OpenSpec.ofChange commonProductSpec)

/-- ITS FALSE NEIGHBOUR: 'it returns false'. Refute it at one input. -/
def commonProductWrong : ChangeSpec := { name := "commonProduct", fn := fun _ => fun
  | [d1, d2] => { results := [.lit (.bool false)], args := [d1, d2] }
  | _ => none }
def CommonProductWrongFalsely : Prop := commonProductRow.holds Try.pinned (OpenSpec.ofChange commonProductWrong)

/-- 'talweglaw05.CommonLowest': WHATEVER THE INPUT: true; the input reads as it did. -/
def commonLowestSpec : ChangeSpec := { name := "commonLowest", fn := fun _ => fun
  | [d1, d2, d3] => { results := [.lit (.bool true)], args := [d1, d2, d3] }
  | _ => none }
def commonLowestRow : OpenClaim := { program := "ytjacmhlcodjhcaa", sum := "d89fa5267441f204d676187d9ddd04add25777f582a4c9223105cb7f0814f282", func := "talweg/talweglaw05.CommonLowest", spec := "commonLowest", unfollowed := true, recurses := true, apart := false }
def CommonLowestSaid : Prop := commonLowestRow.holds Try.pinned (OpenSpec.ofChange commonLowestSpec)

/-- ITS FALSE NEIGHBOUR: 'it returns false'. Refute it at one input. -/
def commonLowestWrong : ChangeSpec := { name := "commonLowest", fn := fun _ => fun
  | [d1, d2, d3] => { results := [.lit (.bool false)], args := [d1, d2, d3] }
  | _ => none }
def CommonLowestWrongFalsely : Prop := commonLowestRow.holds Try.pinned (OpenSpec.ofChange commonLowestWrong)

/-- 'talweglaw04.SplitSmall': WHATEVER THE INPUT: true; the input reads as it did. -/
def splitSmallSpec : ChangeSpec := { name := "splitSmall", fn := fun _ => fun
  | [d1, d2, d3, d4] => { results := [.lit (.bool true)], args := [d1, d2, d3, d4] }
  | _ => none }
def splitSmallRow : OpenClaim := { program := "ytjacmhlcodjhcaa", sum := "d89fa5267441f204d676187d9ddd04add25777f582a4c9223105cb7f0814f282", func := "talweg/talweglaw04.SplitSmall", spec := "splitSmall", apart := false }
def SplitSmallSaid : Prop := splitSmallRow.holds Try.pinned (OpenSpec.ofChange splitSmallSpec)

/-- ITS FALSE NEIGHBOUR: 'it returns false'. Refute it at one input. -/
def splitSmallWrong : ChangeSpec := { name := "splitSmall", fn := fun _ => fun
  | [d1, d2, d3, d4] => { results := [.lit (.bool false)], args := [d1, d2, d3, d4] }
  | _ => none }
def SplitSmallWrongFalsely : Prop := splitSmallRow.holds Try.pinned (OpenSpec.ofChange splitSmallWrong)

/-- 'talweglaw05.CommonTimes': WHATEVER THE INPUT: true; the input reads as it did. -/
def commonTimesSpec : ChangeSpec := { name := "commonTimes", fn := fun _ => fun
  | [d1, d2, d3] => { results := [.lit (.bool true)], args := [d1, d2, d3] }
  | _ => none }
def commonTimesRow : OpenClaim := { program := "ytjacmhlcodjhcaa", sum := "d89fa5267441f204d676187d9ddd04add25777f582a4c9223105cb7f0814f282", func := "talweg/talweglaw05.CommonTimes", spec := "commonTimes", unfollowed := true, recurses := true, apart := false }
def CommonTimesSaid : Prop := commonTimesRow.holds Try.pinned (OpenSpec.ofChange commonTimesSpec)

/-- ITS FALSE NEIGHBOUR: 'it returns false'. Refute it at one input. -/
def commonTimesWrong : ChangeSpec := { name := "commonTimes", fn := fun _ => fun
  | [d1, d2, d3] => { results := [.lit (.bool false)], args := [d1, d2, d3] }
  | _ => none }
def CommonTimesWrongFalsely : Prop := commonTimesRow.holds Try.pinned (OpenSpec.ofChange commonTimesWrong)

/- THE SECOND FORM. 'bulk': how many values and letters a reading holds, each counted each time it is reached (what is shared counts as often as it is met; a slice's spare places count too). A statement '..UptoSaid' is the law's where the arguments, and the package variables that the reading takes, are together of bulk at most 1048576: NARROWER than '..Said'. Prove '..Said' where nothing that the law and all that it calls make is longer than what came in: it says more and counts as full. Else prove '..UptoSaid'. A law counts once. -/
mutual
def uptoBulk {H : Type} : DataW H → Nat
  | .lit (.string bytes) => bytes.length + 1
  | .lit _ => 1
  | .nil => 1
  | .ptr d => uptoBulk d + 1
  | .slice elems spare => uptoBulkAll elems + uptoBulkAll spare + 1
  | .agg parts => uptoBulkAll parts + 1
  | .iface _ d => uptoBulk d + 1
  | .map entries => uptoBulkEntries entries + 1
  | .held _ => 1
def uptoBulkAll {H : Type} : List (DataW H) → Nat
  | [] => 0
  | d :: r => uptoBulk d + uptoBulkAll r
def uptoBulkEntries {H : Type} : List (Lit × DataW H) → Nat
  | [] => 0
  | x :: r => uptoBulkEntry x + uptoBulkEntries r
def uptoBulkEntry {H : Type} : Lit × DataW H → Nat
  | (.string bytes, d) => bytes.length + uptoBulk d + 1
  | (_, d) => uptoBulk d + 1
 end
def uptoSmall : (H : Type) → List (DataW H) → Bool := fun _ ds => decide (uptoBulkAll ds ≤ 1048576)
def OpenSpec.upto (s : _root_.Go.ChangeSpec) : _root_.Go.OpenSpec := { _root_.Go.OpenSpec.ofChange s with cond := some uptoSmall }

/-- 'talweglaw04.SplitTells', WHERE WHAT IT READS IS OF BULK AT MOST 1048576: true; the input reads as it did. -/
def splitTellsUptoRow : OpenClaim := { program := "ytjacmhlcodjhcaa", sum := "d89fa5267441f204d676187d9ddd04add25777f582a4c9223105cb7f0814f282", func := "talweg/talweglaw04.SplitTells", spec := "splitTells", apart := false, narrowed := true }
def SplitTellsUptoSaid : Prop := splitTellsUptoRow.holds Try.pinned (OpenSpec.upto splitTellsSpec)

/-- 'talweglaw04.SplitWhole', WHERE WHAT IT READS IS OF BULK AT MOST 1048576: true; the input reads as it did. -/
def splitWholeUptoRow : OpenClaim := { program := "ytjacmhlcodjhcaa", sum := "d89fa5267441f204d676187d9ddd04add25777f582a4c9223105cb7f0814f282", func := "talweg/talweglaw04.SplitWhole", spec := "splitWhole", apart := false, narrowed := true }
def SplitWholeUptoSaid : Prop := splitWholeUptoRow.holds Try.pinned (OpenSpec.upto splitWholeSpec)

/-- 'talweglaw04.SplitTwice', WHERE WHAT IT READS IS OF BULK AT MOST 1048576: true; the input reads as it did. -/
def splitTwiceUptoRow : OpenClaim := { program := "ytjacmhlcodjhcaa", sum := "d89fa5267441f204d676187d9ddd04add25777f582a4c9223105cb7f0814f282", func := "talweg/talweglaw04.SplitTwice", spec := "splitTwice", apart := false, narrowed := true }
def SplitTwiceUptoSaid : Prop := splitTwiceUptoRow.holds Try.pinned (OpenSpec.upto splitTwiceSpec)

/-- 'talweglaw04.SplitBack', WHERE WHAT IT READS IS OF BULK AT MOST 1048576: true; the input reads as it did. -/
def splitBackUptoRow : OpenClaim := { program := "ytjacmhlcodjhcaa", sum := "d89fa5267441f204d676187d9ddd04add25777f582a4c9223105cb7f0814f282", func := "talweg/talweglaw04.SplitBack", spec := "splitBack", apart := false, narrowed := true }
def SplitBackUptoSaid : Prop := splitBackUptoRow.holds Try.pinned (OpenSpec.upto splitBackSpec)

/-- 'talweglaw04.SplitRoots', WHERE WHAT IT READS IS OF BULK AT MOST 1048576: true; the input reads as it did. -/
def splitRootsUptoRow : OpenClaim := { program := "ytjacmhlcodjhcaa", sum := "d89fa5267441f204d676187d9ddd04add25777f582a4c9223105cb7f0814f282", func := "talweg/talweglaw04.SplitRoots", spec := "splitRoots", apart := false, narrowed := true }
def SplitRootsUptoSaid : Prop := splitRootsUptoRow.holds Try.pinned (OpenSpec.upto splitRootsSpec)

/-- 'talweglaw05.CommonTells', WHERE WHAT IT READS IS OF BULK AT MOST 1048576: true; the input reads as it did. -/
def commonTellsUptoRow : OpenClaim := { program := "ytjacmhlcodjhcaa", sum := "d89fa5267441f204d676187d9ddd04add25777f582a4c9223105cb7f0814f282", func := "talweg/talweglaw05.CommonTells", spec := "commonTells", unfollowed := true, recurses := true, apart := false, narrowed := true }
def CommonTellsUptoSaid : Prop := commonTellsUptoRow.holds Try.pinned (OpenSpec.upto commonTellsSpec)

/-- 'talweglaw05.CommonDivides', WHERE WHAT IT READS IS OF BULK AT MOST 1048576: true; the input reads as it did. -/
def commonDividesUptoRow : OpenClaim := { program := "ytjacmhlcodjhcaa", sum := "d89fa5267441f204d676187d9ddd04add25777f582a4c9223105cb7f0814f282", func := "talweg/talweglaw05.CommonDivides", spec := "commonDivides", unfollowed := true, recurses := true, apart := false, narrowed := true }
def CommonDividesUptoSaid : Prop := commonDividesUptoRow.holds Try.pinned (OpenSpec.upto commonDividesSpec)

/-- 'talweglaw05.CommonProduct', WHERE WHAT IT READS IS OF BULK AT MOST 1048576: true; the input reads as it did. -/
def commonProductUptoRow : OpenClaim := { program := "ytjacmhlcodjhcaa", sum := "d89fa5267441f204d676187d9ddd04add25777f582a4c9223105cb7f0814f282", func := "talweg/talweglaw05.CommonProduct", spec := "commonProduct", unfollowed := true, recurses := true, apart := false, narrowed := true }
def CommonProductUptoSaid : Prop := commonProductUptoRow.holds Try.pinned (OpenSpec.upto commonProductSpec)

/-- 'talweglaw05.CommonLowest', WHERE WHAT IT READS IS OF BULK AT MOST 1048576: true; the input reads as it did. -/
def commonLowestUptoRow : OpenClaim := { program := "ytjacmhlcodjhcaa", sum := "d89fa5267441f204d676187d9ddd04add25777f582a4c9223105cb7f0814f282", func := "talweg/talweglaw05.CommonLowest", spec := "commonLowest", unfollowed := true, recurses := true, apart := false, narrowed := true }
def CommonLowestUptoSaid : Prop := commonLowestUptoRow.holds Try.pinned (OpenSpec.upto commonLowestSpec)

/-- 'talweglaw04.SplitSmall', WHERE WHAT IT READS IS OF BULK AT MOST 1048576: true; the input reads as it did. -/
def splitSmallUptoRow : OpenClaim := { program := "ytjacmhlcodjhcaa", sum := "d89fa5267441f204d676187d9ddd04add25777f582a4c9223105cb7f0814f282", func := "talweg/talweglaw04.SplitSmall", spec := "splitSmall", apart := false, narrowed := true }
def SplitSmallUptoSaid : Prop := splitSmallUptoRow.holds Try.pinned (OpenSpec.upto splitSmallSpec)

/-- 'talweglaw05.CommonTimes', WHERE WHAT IT READS IS OF BULK AT MOST 1048576: true; the input reads as it did. -/
def commonTimesUptoRow : OpenClaim := { program := "ytjacmhlcodjhcaa", sum := "d89fa5267441f204d676187d9ddd04add25777f582a4c9223105cb7f0814f282", func := "talweg/talweglaw05.CommonTimes", spec := "commonTimes", unfollowed := true, recurses := true, apart := false, narrowed := true }
def CommonTimesUptoSaid : Prop := commonTimesUptoRow.holds Try.pinned (OpenSpec.upto commonTimesSpec)

end Rows
end Go.Proofs.Ytjacmhlcodjhcaa
