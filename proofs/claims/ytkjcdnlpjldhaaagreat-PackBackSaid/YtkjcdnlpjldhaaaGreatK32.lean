/-
  The texts TurnOpen, merged.
-/
import Derived.Test.YtkjcdnlpjldhaaaGreatK31
import Derived.Test.YtkjcdnlpjldhaaaGreatK22
set_option linter.unusedVariables false
set_option linter.unusedSimpArgs false
set_option maxRecDepth 100000
set_option maxHeartbeats 400000000
namespace Go.Proofs.YtkjcdnlpjldhaaaGreat
open Go.ChangeShapes Go.WideShapes Go.Deep Go.RowKit Go.Joins Tw

section

variable {H:Type} {enc:TypeId × Value->H} {W:World} {base:Nat}

theorem zeF {fuel:Nat} {v:Value} {x:DataW H × List MemPlace} (h:DataW.trod enc Tryz.prog W base (fun _ => true) true fuel 5 [v]=some x):∃ z:Nat,v=.int .u8 (z:Int)/\z<256:=by
 obtain ⟨n,hcs,_,hw⟩:=DataW.trod_int Tryz.underlying5 h
 simp only [List.cons.injEq,and_true] at hcs
 simp [Lit.wf,IntKind.min,IntKind.max,IntKind.signed,IntKind.bits] at hw
 refine ⟨n.toNat,?_,by omega⟩
 rw [hcs]
 congr 1
 omega

theorem open_i8 {fuel:Nat} {v:Value} {x:DataW H × List MemPlace} (h:DataW.trod enc Tryz.prog W base (fun _ => true) true fuel 87 [v]=some x):∃ z:Int,v=.int .i8 z/\-128<=z/\z<=127:=by
 obtain ⟨n,hcs,_,hw⟩:=DataW.trod_int Tryz.underlying87 h
 simp only [List.cons.injEq,and_true] at hcs
 simp [Lit.wf,IntKind.min,IntKind.max,IntKind.signed,IntKind.bits] at hw
 exact ⟨n,hcs,by omega,by omega⟩

theorem k_u8:Tryz.prog.cellsOf 5=1:=by kernel_rfl

theorem k_i8:Tryz.prog.cellsOf 87=1:=by kernel_rfl

theorem k_turn:Tryz.prog.cellsOf 85=4:=by kernel_rfl

theorem zlr:Tryz.prog.cellsOf 91=2:=by kernel_rfl

theorem len4 {α:Type} {l:List α} (h:l.length=4):∃ a b c d,l=[a,b,c,d]:=by
 match l,h with
 | [a,b,c,d],_ => exact ⟨a,b,c,d,rfl⟩

theorem len2 {α:Type} {l:List α} (h:l.length=2):∃ a b,l=[a,b]:=by
 match l,h with
 | [a,b],_ => exact ⟨a,b,rfl⟩

theorem zhJ {fuel:Nat} {cs:List Value} {x:DataW H × List MemPlace} (h:DataW.trod enc Tryz.prog W base (fun _ => true) true fuel 85 cs=some x) :
  ∃ p q r s:Nat,cs=[.int .u8 (p:Int),.int .u8 (q:Int),.int .u8 (r:Int),.int .u8 (s:Int)]/\p<256/\q<256/\r<256/\s<256:=by
 obtain ⟨xs,n,_,hx,hl,hlen,hg⟩:=DataW.trod_struct Tryz.underlying85 h
 rw [k_turn] at hl
 obtain ⟨c0,c1,c2,c3,rfl⟩:=len4 hl
 obtain ⟨y0,y1,y2,y3,rfl⟩:=len4 (show xs.length=4 from hlen)
 have e0:=hg 0 _ rfl
 have e1:=hg 1 _ rfl
 have e2:=hg 2 _ rfl
 have e3:=hg 3 _ rfl
 simp [k_u8] at e0 e1 e2 e3
 obtain ⟨p,rfl,hp⟩:=zeF e0
 obtain ⟨q,rfl,hq⟩:=zeF e1
 obtain ⟨r,rfl,hr⟩:=zeF e2
 obtain ⟨s,rfl,hs⟩:=zeF e3
 exact ⟨p,q,r,s,rfl,hp,hq,hr,hs⟩

theorem zgP {fuel:Nat} {cs:List Value} {x:DataW H × List MemPlace} (h:DataW.trod enc Tryz.prog W base (fun _ => true) true fuel 91 cs=some x) :
  ∃ (p:Int) (q:Nat),cs=[.int .i8 p,.int .u8 (q:Int)]/\(-128<=p/\p<=127)/\q<256:=by
 obtain ⟨xs,n,_,hx,hl,hlen,hg⟩:=DataW.trod_struct Tryz.underlying91 h
 rw [zlr] at hl
 obtain ⟨c0,c1,rfl⟩:=len2 hl
 obtain ⟨y0,y1,rfl⟩:=len2 (show xs.length=2 from hlen)
 have e0:=hg 0 _ rfl
 have e1:=hg 1 _ rfl
 simp [k_u8,k_i8] at e0 e1
 obtain ⟨p,rfl,hp⟩:=open_i8 e0
 obtain ⟨q,rfl,hq⟩:=zeF e1
 exact ⟨p,q,rfl,hp,hq⟩

theorem zkG {fuel:Nat} {v:Value} {x:DataW H × List MemPlace} (h:DataW.trod enc Tryz.prog W base (fun _ => true) true fuel 40 [v]=some x):∃ l,RdTn W v l:=by
 rcases open_slice Tryz.underlying40 h with ⟨hcs,_⟩|⟨a,len,cap,m,n,D,Pl,hcs,_,hl,hm,hmm,_,hi⟩
 ·simp only [List.cons.injEq,and_true] at hcs
  subst hcs
  exact ⟨[],none,0,rfl,Nat.le_refl _,Nat.zero_le _,fun i hi => absurd hi (by simp)⟩
 ·simp only [List.cons.injEq,and_true] at hcs
  subst hcs
  rw [k_turn] at hi
  have hsp:0<len->a.spot=none:=fun h0 => by
   obtain ⟨cs,hc,ht⟩:=hi 0 (by simp only [hmm,if_true];omega)
   obtain ⟨p,q,r,s,rfl,hp,hq,hr,hs⟩:=zhJ ht
   obtain ⟨_,hcl,hat⟩:=World.cells?_some hc
   have g0:=hat 0 (by simp)
   rw [show (a.add (0*4)).add 0=a by simp [Addr.add]] at g0
   exact World.cell?_spot g0
  have key:∀ i,i<len->∃ y:Tn,∃ b off,some a=some ⟨b,off,none⟩/\AtTn W b (off+i*4) y:=by
   intro i hil
   obtain ⟨cs,hc,ht⟩:=hi i (by simp only [hmm,if_true];omega)
   obtain ⟨p,q,r,s,rfl,hp,hq,hr,hs⟩:=zhJ ht
   obtain ⟨_,hcl,hat⟩:=World.cells?_some hc
   obtain ⟨b,off,spot⟩:=a
   have hspot:spot=none:=hsp (by omega)
   subst hspot
   have g0:=hat 0 (by simp)
   have g1:=hat 1 (by simp)
   have g2:=hat 2 (by simp)
   have g3:=hat 3 (by simp)
   simp only [zgb,Nat.add_zero,List.getElem?_cons_zero,List.getElem?_cons_succ] at g0 g1 g2 g3
   exact ⟨⟨p,q,r,s⟩,b,off,rfl,g0,g1,g2,g3,hp,hq,hr,hs⟩
  obtain ⟨l,hl1,hl2⟩:=zgm key
  subst hl1
  exact ⟨l,some a,cap,rfl,hl,hm,fun i hi => let ⟨b,off,e,k⟩:=hl2 i hi;⟨b,off,e,k⟩⟩

theorem open_turnsV {r:Reach} {b0:Nat} {v:Value} {d:DataW H} {p:List MemPlace} (hv:Value.okWide Tryz.prog W r b0 40 v) (h:DataW.Trod enc Tryz.prog W base (fun _ => true) true 40 v d p) :
  ∃ l,RdTn W v l:=by
 obtain ⟨a,len,cap,rfl⟩:=okWide_slice Tryz.underlying40 hv
 obtain ⟨fuel,hf⟩:=h
 exact zkG hf

theorem zjH {fuel:Nat} {v:Value} {x:DataW H × List MemPlace} (h:DataW.trod enc Tryz.prog W base (fun _ => true) true fuel 41 [v]=some x):∃ l,RdSn W v l:=by
 rcases open_slice Tryz.underlying41 h with ⟨hcs,_⟩|⟨a,len,cap,m,n,D,Pl,hcs,_,hl,hm,hmm,_,hi⟩
 ·simp only [List.cons.injEq,and_true] at hcs
  subst hcs
  exact ⟨[],none,0,rfl,Nat.le_refl _,Nat.zero_le _,fun i hi => absurd hi (by simp)⟩
 ·simp only [List.cons.injEq,and_true] at hcs
  subst hcs
  rw [zlr] at hi
  have hsp:0<len->a.spot=none:=fun h0 => by
   obtain ⟨cs,hc,ht⟩:=hi 0 (by simp only [hmm,if_true];omega)
   obtain ⟨p,q,rfl,hp,hq⟩:=zgP ht
   obtain ⟨_,hcl,hat⟩:=World.cells?_some hc
   have g0:=hat 0 (by simp)
   rw [show (a.add (0*2)).add 0=a by simp [Addr.add]] at g0
   exact World.cell?_spot g0
  have key:∀ i,i<len->∃ y:Sn,∃ b off,some a=some ⟨b,off,none⟩/\AtSn W b (off+i*2) y:=by
   intro i hil
   obtain ⟨cs,hc,ht⟩:=hi i (by simp only [hmm,if_true];omega)
   obtain ⟨p,q,rfl,hp,hq⟩:=zgP ht
   obtain ⟨_,hcl,hat⟩:=World.cells?_some hc
   obtain ⟨b,off,spot⟩:=a
   have hspot:spot=none:=hsp (by omega)
   subst hspot
   have g0:=hat 0 (by simp)
   have g1:=hat 1 (by simp)
   simp only [zgb,Nat.add_zero,List.getElem?_cons_zero,List.getElem?_cons_succ] at g0 g1
   exact ⟨⟨p,q⟩,b,off,rfl,g0,g1,hp,hq⟩
  obtain ⟨l,hl1,hl2⟩:=zgm key
  subst hl1
  exact ⟨l,some a,cap,rfl,hl,hm,fun i hi => let ⟨b,off,e,k⟩:=hl2 i hi;⟨b,off,e,k⟩⟩

theorem open_smallsV {r:Reach} {b0:Nat} {v:Value} {d:DataW H} {p:List MemPlace} (hv:Value.okWide Tryz.prog W r b0 41 v) (h:DataW.Trod enc Tryz.prog W base (fun _ => true) true 41 v d p) :
  ∃ l,RdSn W v l:=by
 obtain ⟨a,len,cap,rfl⟩:=okWide_slice Tryz.underlying41 hv
 obtain ⟨fuel,hf⟩:=h
 exact zjH hf

end

end Go.Proofs.YtkjcdnlpjldhaaaGreat

