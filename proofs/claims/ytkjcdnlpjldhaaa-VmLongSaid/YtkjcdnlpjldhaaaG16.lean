/-
  The texts Cut, merged.
-/
import Derived.Test.YtkjcdnlpjldhaaaG11
import Derived.Lib.Bytealg
import Derived.Lib.CutLaws
import Derived.Lib.IndexMore
import Derived.Shelf.RegionOpenPlain
import Derived.BigCall
import Derived.BigGuard
import Derived.Deep.Draws
import Derived.Laws.Strings3
set_option linter.unusedVariables false
set_option linter.unusedSimpArgs false
set_option maxRecDepth 100000
set_option maxHeartbeats 400000000
namespace Go.Proofs.Ytkjcdnlpjldhaaa
open Go.RowKit Tw

def hd1 (l:List Nat):List Nat:=l.takeWhile (fun x => x != 124)

end Go.Proofs.Ytkjcdnlpjldhaaa

