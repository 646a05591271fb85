/-
  The texts WholeText, Whole5, Ref7p, WholeZ, WholeO, WholeR, merged.
-/
import Derived.Test.YtkjcdnlpjldhaaaG07
import Derived.Test.YtkjcdnlpjldhaaaG10
import Derived.Lib.Strings
import Derived.Lib.Slices
import Derived.Lib.Walk
import Derived.Deep.DrawnRows
import Derived.Laws.EntriesVeiled
set_option linter.unusedVariables false
set_option linter.unusedSimpArgs false
set_option maxRecDepth 100000
set_option maxHeartbeats 400000000
namespace Go.Proofs.Ytkjcdnlpjldhaaa
open Go.RowKit Tw

def neg1 (l:List Nat):Bool:=decide (l.head?=some 45)

def body (l:List Nat):List Nat:=if neg1 l then l.tail else l

end Go.Proofs.Ytkjcdnlpjldhaaa


namespace Go.Proofs.Ytkjcdnlpjldhaaa
open Go.RowKit Tw
attribute [local go_sem ↓] Go.wp_at_zero Go.wp_at_succ

end Go.Proofs.Ytkjcdnlpjldhaaa


namespace Go.Proofs.Ytkjcdnlpjldhaaa
open Go.RowKit Tw
attribute [local go_sem ↓] Go.wp_at_zero Go.wp_at_succ

end Go.Proofs.Ytkjcdnlpjldhaaa


namespace Go.Proofs.Ytkjcdnlpjldhaaa
open Go.RowKit Tw

theorem sgn_back (z:Int):sgn (decide (z<0)) (val (zc z.natAbs))=z:=by rw [vL,zdG]

def IsI (w:World) (b:Bool) (v:Value) (l:List Nat) (z:Int):Prop:=Rd w v l/\sgn b (val l)=z/\l.length<=90000

theorem IsI.to {w w':World} {b:Bool} {v:Value} {l:List Nat} {z:Int} (h:IsI w b v l z) (hb:Below w.heap.size w w'):IsI w' b v l z:=⟨h.1.to hb,h.2⟩

theorem IsI.drew {w:World} {b:Bool} {v:Value} {l:List Nat} {z:Int} (h:IsI w b v l z):IsI w.drew b v l z:=⟨h.1.drew,h.2⟩

section

variable {b c:Bool} {va vb:Value} {la lb:List Nat} {x y:Int}

end

end Go.Proofs.Ytkjcdnlpjldhaaa


namespace Go.Proofs.Ytkjcdnlpjldhaaa
open Go.RowKit Tw

section

variable {b c:Bool} {va vb:Value} {la lb:List Nat} {x y:Int}

end

end Go.Proofs.Ytkjcdnlpjldhaaa


namespace Go.Proofs.Ytkjcdnlpjldhaaa
open Go.RowKit Tw

section

variable {b c:Bool} {va vb:Value} {la lb:List Nat} {x y:Int}

end

end Go.Proofs.Ytkjcdnlpjldhaaa

