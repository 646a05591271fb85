/-
  No cell of these rows narrows 'for every input' (looked for: loops, veiled, ifaces, maps, wideKeys, modest, calm, conditions, laid).
  DERIVED. THE GIVEN ROWS OF THIS SEAT. 7 by the template 'for every input the law returns true; each argument reads behind the call as it read before'; 0 by the template 'total and deterministic' (their statements: YtmjnlpanlgmdmaaTotals.lean).
  GIVEN WITH THE SEED: the statements are not yours to turn. If you find one false, say at which input.
  Laid BY PROGRAM, IN A SANDBOX (cutbox-rows.mjs): the forced cells as the released guide's own fill.sh prints them over the translation 62bcd1f3b2424ac5… (all of the seat's roots in one cut). By AI agents, Wed Nov 11 2026. No macro, syntax, notation, axiom, sorry.
-/
import Derived.Test.YtmjnlpanlgmdmaaChecked
import GoSem.Claim
import GoSem.ClaimJoined
import GoSem.ClaimMapViews
import Derived.JoinedTies
import Derived.KernelRfl
namespace Go.Proofs.Ytmjnlpanlgmdmaa
/- THE CELL 'sum', in the pinned program and in every row, IS THE sha256 OF THE DUMP (.gsa) THAT YtmjnlpanlgmdmaaProg.lean LOADS. Nothing in Lean hashes anything: it is a label: what it is worth is what the hold of that sum in a sandbox is worth. -/
noncomputable def Try.pinned : Pinned := { name := "ytmjnlpanlgmdmaa", sum := "62bcd1f3b2424ac5c99261c1f59794f6dae86a683146d0077f23829320dda90a", checked := Try.checked }
namespace Rows
def none {H : Type} : Left H := { results := [], args := [] }

/-- 'talweglaw08.RatioTexts': WHATEVER THE INPUT: true; the input reads as it did. -/
def ratioTextsSpec : ChangeSpec := { name := "ratioTexts", fn := fun _ => fun
  | [d1, d2] => { results := [.lit (.bool true)], args := [d1, d2] }
  | _ => none }
def ratioTextsRow : OpenClaim := { program := "ytmjnlpanlgmdmaa", sum := "62bcd1f3b2424ac5c99261c1f59794f6dae86a683146d0077f23829320dda90a", func := "talweg/talweglaw08.RatioTexts", spec := "ratioTexts", inPlace := ["internal/bytealg.IndexByteString", "internal/bytealg.IndexString"], unfollowed := true, recurses := true, named := ["internal/bytealg.MaxLen"], apart := false }
def RatioTextsSaid : Prop := ratioTextsRow.holds Try.pinned (OpenSpec.ofChange ratioTextsSpec)

/-- ITS FALSE NEIGHBOUR: 'it returns false'. Refute it at one input. -/
def ratioTextsWrong : ChangeSpec := { name := "ratioTexts", fn := fun _ => fun
  | [d1, d2] => { results := [.lit (.bool false)], args := [d1, d2] }
  | _ => none }
def RatioTextsWrongFalsely : Prop := ratioTextsRow.holds Try.pinned (OpenSpec.ofChange ratioTextsWrong)

/-- 'talweglaw08.RatioPowers': WHATEVER THE INPUT: true; the input reads as it did. -/
def ratioPowersSpec : ChangeSpec := { name := "ratioPowers", fn := fun _ => fun
  | [d1, d2, d3, d4] => { results := [.lit (.bool true)], args := [d1, d2, d3, d4] }
  | _ => none }
def ratioPowersRow : OpenClaim := { program := "ytmjnlpanlgmdmaa", sum := "62bcd1f3b2424ac5c99261c1f59794f6dae86a683146d0077f23829320dda90a", func := "talweg/talweglaw08.RatioPowers", spec := "ratioPowers", inPlace := ["internal/bytealg.IndexByteString", "internal/bytealg.IndexString"], unfollowed := true, recurses := true, named := ["internal/bytealg.MaxLen"], apart := false }
def RatioPowersSaid : Prop := ratioPowersRow.holds Try.pinned (OpenSpec.ofChange ratioPowersSpec)

/-- ITS FALSE NEIGHBOUR: 'it returns false'. Refute it at one input. -/
def ratioPowersWrong : ChangeSpec := { name := "ratioPowers", fn := fun _ => fun
  | [d1, d2, d3, d4] => { results := [.lit (.bool false)], args := [d1, d2, d3, d4] }
  | _ => none }
def RatioPowersWrongFalsely : Prop := ratioPowersRow.holds Try.pinned (OpenSpec.ofChange ratioPowersWrong)

/-- 'talweglaw08.RatioTerms': WHATEVER THE INPUT: true; the input reads as it did. -/
def ratioTermsSpec : ChangeSpec := { name := "ratioTerms", fn := fun _ => fun
  | [d1, d2] => { results := [.lit (.bool true)], args := [d1, d2] }
  | _ => none }
def ratioTermsRow : OpenClaim := { program := "ytmjnlpanlgmdmaa", sum := "62bcd1f3b2424ac5c99261c1f59794f6dae86a683146d0077f23829320dda90a", func := "talweg/talweglaw08.RatioTerms", spec := "ratioTerms", inPlace := ["internal/bytealg.IndexByteString", "internal/bytealg.IndexString"], unfollowed := true, recurses := true, named := ["internal/bytealg.MaxLen"], apart := false }
def RatioTermsSaid : Prop := ratioTermsRow.holds Try.pinned (OpenSpec.ofChange ratioTermsSpec)

/-- ITS FALSE NEIGHBOUR: 'it returns false'. Refute it at one input. -/
def ratioTermsWrong : ChangeSpec := { name := "ratioTerms", fn := fun _ => fun
  | [d1, d2] => { results := [.lit (.bool false)], args := [d1, d2] }
  | _ => none }
def RatioTermsWrongFalsely : Prop := ratioTermsRow.holds Try.pinned (OpenSpec.ofChange ratioTermsWrong)

/-- 'talweglaw08.RatioOrder': WHATEVER THE INPUT: true; the input reads as it did. -/
def ratioOrderSpec : ChangeSpec := { name := "ratioOrder", fn := fun _ => fun
  | [d1, d2, d3] => { results := [.lit (.bool true)], args := [d1, d2, d3] }
  | _ => none }
def ratioOrderRow : OpenClaim := { program := "ytmjnlpanlgmdmaa", sum := "62bcd1f3b2424ac5c99261c1f59794f6dae86a683146d0077f23829320dda90a", func := "talweg/talweglaw08.RatioOrder", spec := "ratioOrder", inPlace := ["internal/bytealg.IndexByteString", "internal/bytealg.IndexString"], unfollowed := true, recurses := true, named := ["internal/bytealg.MaxLen"], apart := false }
def RatioOrderSaid : Prop := ratioOrderRow.holds Try.pinned (OpenSpec.ofChange ratioOrderSpec)

/-- ITS FALSE NEIGHBOUR: 'it returns false'. Refute it at one input. -/
def ratioOrderWrong : ChangeSpec := { name := "ratioOrder", fn := fun _ => fun
  | [d1, d2, d3] => { results := [.lit (.bool false)], args := [d1, d2, d3] }
  | _ => none }
def RatioOrderWrongFalsely : Prop := ratioOrderRow.holds Try.pinned (OpenSpec.ofChange ratioOrderWrong)

/-- 'talweglaw08.RatioTells': WHATEVER THE INPUT: true; the input reads as it did. -/
def ratioTellsSpec : ChangeSpec := { name := "ratioTells", fn := fun _ => fun
  | [d1, d2, d3, d4] => { results := [.lit (.bool true)], args := [d1, d2, d3, d4] }
  | _ => none }
def ratioTellsRow : OpenClaim := { program := "ytmjnlpanlgmdmaa", sum := "62bcd1f3b2424ac5c99261c1f59794f6dae86a683146d0077f23829320dda90a", func := "talweg/talweglaw08.RatioTells", spec := "ratioTells", inPlace := ["internal/bytealg.IndexByteString", "internal/bytealg.IndexString"], unfollowed := true, recurses := true, named := ["internal/bytealg.MaxLen"], apart := false }
def RatioTellsSaid : Prop := ratioTellsRow.holds Try.pinned (OpenSpec.ofChange ratioTellsSpec)

/-- ITS FALSE NEIGHBOUR: 'it returns false'. Refute it at one input. -/
def ratioTellsWrong : ChangeSpec := { name := "ratioTells", fn := fun _ => fun
  | [d1, d2, d3, d4] => { results := [.lit (.bool false)], args := [d1, d2, d3, d4] }
  | _ => none }
def RatioTellsWrongFalsely : Prop := ratioTellsRow.holds Try.pinned (OpenSpec.ofChange ratioTellsWrong)

/-- 'talweglaw08.RatioBetween': WHATEVER THE INPUT: true; the input reads as it did. -/
def ratioBetweenSpec : ChangeSpec := { name := "ratioBetween", fn := fun _ => fun
  | [d1, d2, d3] => { results := [.lit (.bool true)], args := [d1, d2, d3] }
  | _ => none }
def ratioBetweenRow : OpenClaim := { program := "ytmjnlpanlgmdmaa", sum := "62bcd1f3b2424ac5c99261c1f59794f6dae86a683146d0077f23829320dda90a", func := "talweg/talweglaw08.RatioBetween", spec := "ratioBetween", inPlace := ["internal/bytealg.IndexByteString", "internal/bytealg.IndexString"], unfollowed := true, recurses := true, named := ["internal/bytealg.MaxLen"], apart := false }
def RatioBetweenSaid : Prop := ratioBetweenRow.holds Try.pinned (OpenSpec.ofChange ratioBetweenSpec)

/-- ITS FALSE NEIGHBOUR: 'it returns false'. Refute it at one input. -/
def ratioBetweenWrong : ChangeSpec := { name := "ratioBetween", fn := fun _ => fun
  | [d1, d2, d3] => { results := [.lit (.bool false)], args := [d1, d2, d3] }
  | _ => none }
def RatioBetweenWrongFalsely : Prop := ratioBetweenRow.holds Try.pinned (OpenSpec.ofChange ratioBetweenWrong)

/-- 'talweglaw08.RatioBack': WHATEVER THE INPUT: true; the input reads as it did. -/
def ratioBackSpec : ChangeSpec := { name := "ratioBack", fn := fun _ => fun
  | [d1, d2] => { results := [.lit (.bool true)], args := [d1, d2] }
  | _ => none }
def ratioBackRow : OpenClaim := { program := "ytmjnlpanlgmdmaa", sum := "62bcd1f3b2424ac5c99261c1f59794f6dae86a683146d0077f23829320dda90a", func := "talweg/talweglaw08.RatioBack", spec := "ratioBack", inPlace := ["internal/bytealg.IndexByteString", "internal/bytealg.IndexString"], unfollowed := true, recurses := true, named := ["internal/bytealg.MaxLen"], apart := false }
def RatioBackSaid : Prop := ratioBackRow.holds Try.pinned (OpenSpec.ofChange ratioBackSpec)

/-- ITS FALSE NEIGHBOUR: 'it returns false'. Refute it at one input. -/
def ratioBackWrong : ChangeSpec := { name := "ratioBack", fn := fun _ => fun
  | [d1, d2] => { results := [.lit (.bool false)], args := [d1, d2] }
  | _ => none }
def RatioBackWrongFalsely : Prop := ratioBackRow.holds Try.pinned (OpenSpec.ofChange ratioBackWrong)

/- THE SECOND FORM. 'bulk': how many values and letters a reading holds, each counted each time it is reached (what is shared counts as often as it is met; a slice's spare places count too). A statement '..UptoSaid' is the law's where the arguments, and the package variables that the reading takes, are together of bulk at most 1048576: NARROWER than '..Said'. Prove '..Said' where nothing that the law and all that it calls make is longer than what came in: it says more and counts as full. Else prove '..UptoSaid'. A law counts once. -/
mutual
def uptoBulk {H : Type} : DataW H → Nat
  | .lit (.string bytes) => bytes.length + 1
  | .lit _ => 1
  | .nil => 1
  | .ptr d => uptoBulk d + 1
  | .slice elems spare => uptoBulkAll elems + uptoBulkAll spare + 1
  | .agg parts => uptoBulkAll parts + 1
  | .iface _ d => uptoBulk d + 1
  | .map entries => uptoBulkEntries entries + 1
  | .held _ => 1
def uptoBulkAll {H : Type} : List (DataW H) → Nat
  | [] => 0
  | d :: r => uptoBulk d + uptoBulkAll r
def uptoBulkEntries {H : Type} : List (Lit × DataW H) → Nat
  | [] => 0
  | x :: r => uptoBulkEntry x + uptoBulkEntries r
def uptoBulkEntry {H : Type} : Lit × DataW H → Nat
  | (.string bytes, d) => bytes.length + uptoBulk d + 1
  | (_, d) => uptoBulk d + 1
 end
def uptoSmall : (H : Type) → List (DataW H) → Bool := fun _ ds => decide (uptoBulkAll ds ≤ 1048576)
def OpenSpec.upto (s : _root_.Go.ChangeSpec) : _root_.Go.OpenSpec := { _root_.Go.OpenSpec.ofChange s with cond := some uptoSmall }

/-- 'talweglaw08.RatioTexts', WHERE WHAT IT READS IS OF BULK AT MOST 1048576: true; the input reads as it did. -/
def ratioTextsUptoRow : OpenClaim := { program := "ytmjnlpanlgmdmaa", sum := "62bcd1f3b2424ac5c99261c1f59794f6dae86a683146d0077f23829320dda90a", func := "talweg/talweglaw08.RatioTexts", spec := "ratioTexts", inPlace := ["internal/bytealg.IndexByteString", "internal/bytealg.IndexString"], unfollowed := true, recurses := true, named := ["internal/bytealg.MaxLen"], apart := false, narrowed := true }
def RatioTextsUptoSaid : Prop := ratioTextsUptoRow.holds Try.pinned (OpenSpec.upto ratioTextsSpec)

/-- 'talweglaw08.RatioPowers', WHERE WHAT IT READS IS OF BULK AT MOST 1048576: true; the input reads as it did. -/
def ratioPowersUptoRow : OpenClaim := { program := "ytmjnlpanlgmdmaa", sum := "62bcd1f3b2424ac5c99261c1f59794f6dae86a683146d0077f23829320dda90a", func := "talweg/talweglaw08.RatioPowers", spec := "ratioPowers", inPlace := ["internal/bytealg.IndexByteString", "internal/bytealg.IndexString"], unfollowed := true, recurses := true, named := ["internal/bytealg.MaxLen"], apart := false, narrowed := true }
def RatioPowersUptoSaid : Prop := ratioPowersUptoRow.holds Try.pinned (OpenSpec.upto ratioPowersSpec)

/-- 'talweglaw08.RatioTerms', WHERE WHAT IT READS IS OF BULK AT MOST 1048576: true; the input reads as it did. -/
def ratioTermsUptoRow : OpenClaim := { program := "ytmjnlpanlgmdmaa", sum := "62bcd1f3b2424ac5c99261c1f59794f6dae86a683146d0077f23829320dda90a", func := "talweg/talweglaw08.RatioTerms", spec := "ratioTerms", inPlace := ["internal/bytealg.IndexByteString", "internal/bytealg.IndexString"], unfollowed := true, recurses := true, named := ["internal/bytealg.MaxLen"], apart := false, narrowed := true }
def RatioTermsUptoSaid : Prop := ratioTermsUptoRow.holds Try.pinned (OpenSpec.upto ratioTermsSpec)

/-- 'talweglaw08.RatioOrder', WHERE WHAT IT READS IS OF BULK AT MOST 1048576: true; the input reads as it did. -/
def ratioOrderUptoRow : OpenClaim := { program := "ytmjnlpanlgmdmaa", sum := "62bcd1f3b2424ac5c99261c1f59794f6dae86a683146d0077f23829320dda90a", func := "talweg/talweglaw08.RatioOrder", spec := "ratioOrder", inPlace := ["internal/bytealg.IndexByteString", "internal/bytealg.IndexString"], unfollowed := true, recurses := true, named := ["internal/bytealg.MaxLen"], apart := false, narrowed := true }
def RatioOrderUptoSaid : Prop := ratioOrderUptoRow.holds Try.pinned (OpenSpec.upto ratioOrderSpec)

/-- 'talweglaw08.RatioTells', WHERE WHAT IT READS IS OF BULK AT MOST 1048576: true; the input reads as it did. -/
def ratioTellsUptoRow : OpenClaim := { program := "ytmjnlpanlgmdmaa", sum := "62bcd1f3b2424ac5c99261c1f59794f6dae86a683146d0077f23829320dda90a", func := "talweg/talweglaw08.RatioTells", spec := "ratioTells", inPlace := ["internal/bytealg.IndexByteString", "internal/bytealg.IndexString"], unfollowed := true, recurses := true, named := ["internal/bytealg.MaxLen"], apart := false, narrowed := true }
def RatioTellsUptoSaid : Prop := ratioTellsUptoRow.holds Try.pinned (OpenSpec.upto ratioTellsSpec)

/-- 'talweglaw08.RatioBetween', WHERE WHAT IT READS IS OF BULK AT MOST 1048576: true; the input reads as it did. -/
def ratioBetweenUptoRow : OpenClaim := { program := "ytmjnlpanlgmdmaa", sum := "62bcd1f3b2424ac5c99261c1f59794f6dae86a683146d0077f23829320dda90a", func := "talweg/talweglaw08.RatioBetween", spec := "ratioBetween", inPlace := ["internal/bytealg.IndexByteString", "internal/bytealg.IndexString"], unfollowed := true, recurses := true, named := ["internal/bytealg.MaxLen"], apart := false, narrowed := true }
def RatioBetweenUptoSaid : Prop := ratioBetweenUptoRow.holds Try.pinned (OpenSpec.upto ratioBetweenSpec)

/-- 'talweglaw08.RatioBack', WHERE WHAT IT READS IS OF BULK AT MOST 1048576: true; the input reads as it did. -/
def ratioBackUptoRow : OpenClaim := { program := "ytmjnlpanlgmdmaa", sum := "62bcd1f3b2424ac5c99261c1f59794f6dae86a683146d0077f23829320dda90a", func := "talweg/talweglaw08.RatioBack", spec := "ratioBack", inPlace := ["internal/bytealg.IndexByteString", "internal/bytealg.IndexString"], unfollowed := true, recurses := true, named := ["internal/bytealg.MaxLen"], apart := false, narrowed := true }
def RatioBackUptoSaid : Prop := ratioBackUptoRow.holds Try.pinned (OpenSpec.upto ratioBackSpec)

end Rows
end Go.Proofs.Ytmjnlpanlgmdmaa
