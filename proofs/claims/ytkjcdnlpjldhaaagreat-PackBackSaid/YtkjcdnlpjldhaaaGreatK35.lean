/-
  The texts NamesP, BackP, merged.
-/
import Derived.Test.YtkjcdnlpjldhaaaGreatK20
import Derived.Test.YtkjcdnlpjldhaaaGreatK28
import Derived.Test.YtkjcdnlpjldhaaaGreatK22
import Derived.Test.YtkjcdnlpjldhaaaGreatK33
import Derived.Test.YtkjcdnlpjldhaaaGreatK26
set_option linter.unusedVariables false
set_option linter.unusedSimpArgs false
set_option maxRecDepth 100000
set_option maxHeartbeats 400000000
namespace Go.Proofs.YtkjcdnlpjldhaaaGreat
open Go.RowKit Tw

section

variable {c:Cd} {b m:Int}

theorem zjS (hr:zF c=true):zbX c=true/\zaq c [] c.all=true:=by
 unfold zF at hr
 rw [Bool.and_eq_true] at hr
 exact hr

end

def Tame (x:Ins):Prop:=0<=x.op/\x.op<=10/\0<=x.to/\x.to<10/\0<=x.a/\x.a<10/\-5<x.b/\x.b<10/\(x.op≠7->0<=x.b)

theorem zkz {I G RC:Nat} {rg sg:List Int} {t:Tn} (bI:0<I/\I<=3) (bG:0<G/\G<=6) (bRC:0<RC/\RC<=9) (h:MI G rg sg):Tame (zG I G RC rg sg t):=by
 obtain ⟨L,wt,h⟩:=h
 obtain ⟨o1,o2,o3⟩:=zbN rg t
 have key:∀ q,1<zaa rg t->0<=rg.getD (q % rg.length) 0/\rg.getD (q % rg.length) 0<10:=fun q hq => by
  have:=h.rng _ (zez (Nat.mod_lt q (o3 hq)))
  omega
 have m1:t.to % G<G:=Nat.mod_lt _ bG.1
 have m2:t.to % RC<RC:=Nat.mod_lt _ bRC.1
 have m3:t.a % I<I:=Nat.mod_lt _ bI.1
 obtain ⟨b9,eW⟩:∃ z,t.b % 9=z:=⟨_,rfl⟩
 have m4:b9<9:=by rw [<- eW];exact Nat.mod_lt _ (by decide)
 have hn:∀ n:Nat,n<10->(0:Int)<=(n:Int)/\(n:Int)<10:=fun n h => ⟨by omega,by omega⟩
 have n1:=hn _ (show t.to % G<10 by omega)
 have n2:=hn _ (show t.to % RC<10 by omega)
 have n3:=hn _ (show t.a % I<10 by omega)
 unfold zG
 split
 ·exact ⟨show (0:Int)<=1 by decide,show (1:Int)<=10 by decide,n1.1,n1.2,show (0:Int)<=0 by decide,show (0:Int)<10 by decide,show (-5:Int)<0 by decide,show (0:Int)<10 by decide,fun _ => show (0:Int)<=0 by decide⟩
 ·have kt:0<=(if zaa rg t=10 then ((t.to % RC:Nat):Int) else ((t.to % G:Nat):Int))/\(if zaa rg t=10 then ((t.to % RC:Nat):Int) else ((t.to % G:Nat):Int))<10:=by
   split
   ·exact n2
   ·exact n1
  have ka:0<=(if zaa rg t=0 then ((t.a % I:Nat):Int) else if 1<zaa rg t then rg.getD (t.a % rg.length) 0 else 0)/\(if zaa rg t=0 then ((t.a % I:Nat):Int) else if 1<zaa rg t then rg.getD (t.a % rg.length) 0 else 0)<10:=by
   split
   ·exact n3
   ·split
    ·rename_i k;exact key t.a k
    ·exact ⟨by decide,by decide⟩
  have kb:-5<(if zaa rg t=7 then ((t.b % 9:Nat):Int) - 4 else if zcb (zaa rg t) then rg.getD (t.b % rg.length) 0 else 0)/\(if zaa rg t=7 then ((t.b % 9:Nat):Int) - 4 else if zcb (zaa rg t) then rg.getD (t.b % rg.length) 0 else 0)<10/\(zaa rg t≠7->0<=(if zaa rg t=7 then ((t.b % 9:Nat):Int) - 4 else if zcb (zaa rg t) then rg.getD (t.b % rg.length) 0 else 0)):=by
   rw [eW]
   by_cases k7:zaa rg t=7
   ·rw [if_pos k7]
    have:∀ b:Nat,b<9->-5<(b:Int) - 4/\(b:Int) - 4<10:=fun b h => ⟨by omega,by omega⟩
    exact ⟨(this _ m4).1,(this _ m4).2,fun k => absurd k7 k⟩
   ·rw [if_neg k7]
    split
    ·rename_i k
     have:=key t.b k.1
     exact ⟨by omega,this.2,fun _ => this.1⟩
    ·exact ⟨by decide,by decide,fun _ => by decide⟩
  exact ⟨o1,o2,kt.1,kt.2,ka.1,ka.2,kb.1,kb.2.1,kb.2.2⟩

theorem zei {I G RC:Nat} (bI:0<I/\I<=3) (bG:0<G/\G<=6) (bRC:0<RC/\RC<=9):∀ (l:List Tn) (rg sg:List Int),MI G rg sg->∀ x ∈ zaI I G RC rg sg l,Tame x
 | [],_,_,_,x,h => by cases h
 | t :: l,rg,sg,hM,x,h => by
  unfold zaI at h
  rcases List.mem_cons.1 h with h|h
  ·rw [h];exact zkz bI bG bRC hM
  ·split at h
   ·exact zei bI bG bRC l _ _ hM x h
   ·rename_i k
    exact zei bI bG bRC l _ _ (hM.note bG.1 k) x h

theorem RdSn.rng {w:World} {v:Value} {l:List Sn} (h:RdSn w v l):∀ x ∈ l,-128<=x.n/\x.n<=127:=by
 intro x hx
 obtain ⟨i,hi,rfl⟩:=List.mem_iff_getElem.1 hx
 obtain ⟨a,cap,_,_,_,h3⟩:=h
 obtain ⟨b,off,_,k⟩:=h3 i hi
 exact k.2.2.1

theorem zbO {op:Int}:zd op=2 ↔ (2<=op/\op<=5)\/op=8\/op=9:=by
 unfold zd
 constructor
 ·intro h
  split at h
  ·exact absurd h (by decide)
  ·split at h
   ·assumption
   ·split at h <;> exact absurd h (by decide)
 ·intro h
  rw [if_neg (by omega),if_pos h]

end Go.Proofs.YtkjcdnlpjldhaaaGreat


namespace Go.Proofs.YtkjcdnlpjldhaaaGreat
open Go.RowKit Tw

def sB (b:Int) (x:Ins):Ins:=ren (fun r => r+b) x

def dB (c:Cd) (b:Int):Cd:=⟨c.ins,c.rows,c.cols,c.regs+b,c.all.map (sB b)⟩

def fS (b g:Int) (r:Int):Int:=if 0<=r/\r<g then r+b else 0

theorem zjm {b g r:Int} (h:0<=r/\r<g):fS b g r=r+b:=if_pos h

theorem fS_names {b g:Int} (hb:0<=b) (hg:0<g):zja (fS b g) g (g+b):=by
 refine ⟨fun r s r0 r1 s0 s1 h => ?_,fun r => ?_⟩
 ·rw [zjm ⟨r0,r1⟩,zjm ⟨s0,s1⟩] at h
  omega
 ·unfold fS
  split <;> omega

theorem zmi {c:Cd} {L:List Int} {x:Ins} (hL:∀ r ∈ L,0<=r/\r<c.regs) (h:zp c L x=true) :
  (x.op≠10->0<=x.to/\x.to<c.regs)/\(1<x.op->0<=x.a/\x.a<c.regs)/\(zd x.op=2->0<=x.b/\x.b<c.regs):=by
 have hto:=zag h
 have ha:=fun h1 => zaz (x:=x) h h1
 have hb:=fun h1 => zbh (x:=x) h h1
 have h1:0<=zd x.op:=by
  unfold zp at h
  simp only [Bool.and_eq_true,decide_eq_true_eq] at h
  exact h.1.1.1.1
 refine ⟨fun e => ?_,fun h2 => hL _ (ha (lt_one h1 h2)),fun h2 => hL _ (hb h2)⟩
 unfold zD at hto
 rw [if_neg e] at hto
 exact hto

theorem zhy {c:Cd}:∀ (l:List Ins) (L:List Int),(∀ r ∈ L,0<=r/\r<c.regs)->zaq c L l=true->∀ x ∈ l,
  (x.op≠10->0<=x.to/\x.to<c.regs)/\(1<x.op->0<=x.a/\x.a<c.regs)/\(zd x.op=2->0<=x.b/\x.b<c.regs)
 | [],_,_,_,x,h => by cases h
 | y :: t,L,hL,ha,x,h => by
  unfold zaq at ha
  rw [Bool.and_eq_true] at ha
  rcases List.mem_cons.1 h with h|h
  ·rw [h];exact zmi hL ha.1
  ·exact zhy t _ (zls hL ha.1) ha.2 x h

theorem sB_eq {c:Cd} {b:Int} {x:Ins} (k:(x.op≠10->0<=x.to/\x.to<c.regs)/\(1<x.op->0<=x.a/\x.a<c.regs)/\(zd x.op=2->0<=x.b/\x.b<c.regs)):sB b x=ren (fS b c.regs) x:=by
 have e1:(if x.op=10 then x.to else fS b c.regs x.to)=if x.op=10 then x.to else x.to+b:=by
  split
  ·rfl
  ·rename_i e;exact zjm (k.1 e)
 have e2:(if 1<x.op then fS b c.regs x.a else x.a)=if 1<x.op then x.a+b else x.a:=by
  split
  ·rename_i e;exact zjm (k.2.1 e)
  ·rfl
 have e3:(if zd x.op=2 then fS b c.regs x.b else x.b)=if zd x.op=2 then x.b+b else x.b:=by
  split
  ·rename_i e;exact zjm (k.2.2 e)
  ·rfl
 unfold sB ren
 rw [e1,e2,e3]

theorem dB_right {c:Cd} {b:Int} (hr:zF c=true) (hb:0<=b/\b<=65535) (hg:1<=c.regs/\c.regs<=10):zF (dB c b)=true:=by
 obtain ⟨h1,h2⟩:=zjS hr
 have hm:c.all.map (sB b)=c.all.map (ren (fS b c.regs)):=List.map_congr_left fun x hx => sB_eq (zhy c.all [] (fun r h => by cases h) h2 x hx)
 unfold zF
 rw [Bool.and_eq_true]
 constructor
 ·unfold zbX at h1 ⊢
  have h1:=of_decide_eq_true h1
  refine decide_eq_true ⟨h1.1,h1.2.1,h1.2.2.1,h1.2.2.2.1,h1.2.2.2.2.1,?_,?_,?_⟩
  ·show 0<=c.regs+b;omega
  ·show c.regs+b<=100000;omega
  ·show (c.all.map _).length<=100000;rw [List.length_map];exact h1.2.2.2.2.2.2.2
 ·show zaq (dB c b) [] (c.all.map (sB b))=true
  rw [hm]
  exact zhx (c:=c) (d:=dB c b) ⟨rfl,rfl,rfl⟩ (show zja (fS b c.regs) c.regs (c.regs+b) from fS_names (by omega) (by omega)) c.all [] [] (fun r h => by cases h) h2

theorem zkn {c:Cd} (h:zfA c) (hn:c.all.length<=16) (hs:∀ x ∈ c.all,x.q.n.length<=1/\x.q.d.length<=1):(zaX c).length<=4000:=by
 obtain ⟨h1,h2,h3,h4,h5,h6⟩:=h
 have k:=zhB (S:=1) c.all (fun x hx => ⟨h6 x hx,hs x hx⟩)
 have k1:=zJ (n:=c.ins.toNat) (by omega)
 have k2:=zJ (n:=c.rows.toNat) (by omega)
 have k3:=zJ (n:=c.cols.toNat) (by omega)
 have k4:=zJ (n:=c.regs.toNat) (by omega)
 have k5:=zJ (n:=c.all.length) (by omega)
 unfold zaX
 simp only [List.length_append]
 omega

end Go.Proofs.YtkjcdnlpjldhaaaGreat

