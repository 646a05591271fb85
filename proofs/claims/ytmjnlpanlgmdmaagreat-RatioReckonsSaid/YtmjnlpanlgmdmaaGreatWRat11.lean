/-
  Both packages' quotients beside each other.
-/
import Derived.Test.YtmjnlpanlgmdmaaGreatG19
import Derived.Test.YtmjnlpanlgmdmaaGreatWRef8c
namespace Go.Proofs.YtmjnlpanlgmdmaaGreat
open Go.RowKit Tw
set_option linter.unusedVariables false
set_option linter.unusedSimpArgs false

theorem div_both {x y : Rat} (b : Bool) (v u : Value) (ln ld : List Nat) (c : Bool) (v' u' : Value) (ln' ld' : List Nat) (hx : szq x ≤ 400) (hy : szq y ≤ 400) : ∃ ng l1 l2 k,
    (∀ w, IsQ w b v u ln ld x → IsQ w c v' u' ln' ld' y → Calls Tryz.prog 6 #[aggR b v u, aggR c v' u'] w (GivesF w ng l1 l2 k)) ∧
    (∀ w, IsQ w b v u ln ld x → IsQ w c v' u' ln' ld' y → Calls Tryz.prog 7 #[aggR b v u, aggR c v' u'] w (GivesF w ng l1 l2 k)) := by
  by_cases h0 : y = 0
  · exact ⟨false, [], [], 3, fun w h h' => (ratio_div_no b v u ln ld c v' u' ln' ld' w h h' h0).mono fun _ _ h => givesF_no h,
      fun w h h' => (ref8_div_no b v u ln ld c v' u' ln' ld' w h h' h0).mono fun _ _ h => givesF_no h⟩
  · have hs : Hid (szq (x / y) ≤ 1000) := by
      have := szq_div x y
      show _ ≤ _
      omega
    exact ⟨_, _, _, 0, fun w h h' => (ratio_div b v u ln ld c v' u' ln' ld' w h h' h0 _ rfl hs).mono fun _ _ h => givesF h,
      fun w h h' => (ref8_div b v u ln ld c v' u' ln' ld' w h h' h0 _ rfl hs).mono fun _ _ h => givesF h⟩

end Go.Proofs.YtmjnlpanlgmdmaaGreat

