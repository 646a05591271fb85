/-
  The texts NamesP, merged.
-/
import Derived.Test.YtkjcdnlpjldhaaaGreatK21
import Derived.Test.YtkjcdnlpjldhaaaGreatK27
import Derived.Test.YtkjcdnlpjldhaaaGreatK22
import Derived.Test.YtkjcdnlpjldhaaaGreatK25
set_option linter.unusedVariables false
set_option linter.unusedSimpArgs false
set_option maxRecDepth 100000
set_option maxHeartbeats 400000000
namespace Go.Proofs.YtkjcdnlpjldhaaaGreat
open Go.RowKit Tw

section

variable {c:Cd} {b m:Int}

end

theorem zabx (l:List Sn) (i:Nat) (hl:∀ x ∈ l,-128<=x.n/\x.n<=127):szq (zaaa l i)<=1:=by
 unfold zaaa
 split
 ·rename_i x h
  have:=hl x (List.mem_of_getElem? h)
  exact zaax (by omega) (Nat.mod_lt _ (by decide))
 ·show szq ((0:Int):Rat)<=1
  have h:=zkr
  simpa using h

theorem zaaz (n:Nat) (l:List Sn) (hl:∀ x ∈ l,-128<=x.n/\x.n<=127):∀ x ∈ (zaag n l).map zaq,x.n.length<=6/\x.d.length<=6:=by
 intro x hx
 obtain ⟨q,hq,rfl⟩:=List.mem_map.1 hx
 obtain ⟨i,_,rfl⟩:=List.mem_map.1 hq
 have h:=zabx l i hl
 have h1:=zaE (zaaa l i)
 have h2:=zam (zaaa l i)
 constructor
 ·show (za _).length<=6
  rw [zc];omega
 ·show (za _).length<=6
  rw [zc];omega

theorem zabj (n:Nat) (l:List Sn):((zaag n l).map zaq).map Rt.num=zaag n l:=by
 rw [List.map_map]
 conv => rhs;rw [<- List.map_id (zaag n l)]
 exact List.map_congr_left fun q _ => zju q

theorem RdSn.rng {w:World} {v:Value} {l:List Sn} (h:RdSn w v l):∀ x ∈ l,-128<=x.n/\x.n<=127:=by
 intro x hx
 obtain ⟨i,hi,rfl⟩:=List.mem_iff_getElem.1 hx
 obtain ⟨a,cap,_,_,_,h3⟩:=h
 obtain ⟨b,off,_,k⟩:=h3 i hi
 exact k.2.2.1

end Go.Proofs.YtkjcdnlpjldhaaaGreat

