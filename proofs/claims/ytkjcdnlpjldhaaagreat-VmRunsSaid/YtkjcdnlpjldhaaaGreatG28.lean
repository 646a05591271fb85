/-
  The texts Law25a, merged.
-/
import Derived.Test.YtkjcdnlpjldhaaaGreatG26
import Derived.Test.YtkjcdnlpjldhaaaGreatG24
import Derived.Test.YtkjcdnlpjldhaaaGreatG27
import Derived.Test.YtkjcdnlpjldhaaaGreatG10
import Derived.Deep.RegionHeld3
set_option linter.unusedVariables false
set_option linter.unusedSimpArgs false
set_option maxRecDepth 100000
set_option maxHeartbeats 400000000
namespace Go.Proofs.YtkjcdnlpjldhaaaGreat
open Go.RowKit Tw
attribute [local go_sem ↓] Go.wp_at_zero Go.wp_at_succ

theorem zgI {m:Nat} {c:Cd} (h:fewC m c=true):zW 6 c.all/\c.all.length<=m/\c.regs<=1000:=by
 unfold fewC zdz at h
 simp only [Bool.and_eq_true,decide_eq_true_eq] at h
 exact ⟨fun x hx => h.2 x.q (List.mem_map_of_mem hx),h.1.1,h.1.2⟩

theorem zW.up {a b:Nat} {l:List Ins} (h:zW a l) (hab:a<=b):zW b l:=fun x hx => ⟨Nat.le_trans (h x hx).1 hab,Nat.le_trans (h x hx).2 hab⟩

end Go.Proofs.YtkjcdnlpjldhaaaGreat

