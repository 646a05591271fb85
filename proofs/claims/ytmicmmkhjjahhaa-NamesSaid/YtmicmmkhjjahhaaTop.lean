/-
  The walk of the statement Names: no input, no call.
-/
import Derived.Test.YtmicmmkhjjahhaaBase
namespace Go.Proofs.Ytmicmmkhjjahhaa
open Go.RowKit Tw
set_option linter.unusedVariables false
set_option linter.unusedSimpArgs false

set_option maxRecDepth 100000 in
set_option maxHeartbeats 4000000 in
theorem walk_Names (w : World) :
    Calls Try.prog 3 #[] w (fun e w' => e = .returned (.bool true) ∧ Below w.heap.size w w') := by
  go_enter Try.func3, Try.ntmps3
  go_wp2_with fail
  go_ret
  exact ⟨rfl, Below.refl _ _⟩

end Go.Proofs.Ytmicmmkhjjahhaa
