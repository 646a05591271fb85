/-
  The texts NamesP, FrontP, merged.
-/
import Derived.Test.YtkjcdnlpjldhaaaGreatG21
import Derived.Test.YtkjcdnlpjldhaaaGreatG22
import Derived.Test.YtkjcdnlpjldhaaaGreatG23
import Derived.Test.YtkjcdnlpjldhaaaGreatG25
set_option linter.unusedVariables false
set_option linter.unusedSimpArgs false
set_option maxRecDepth 100000
set_option maxHeartbeats 400000000
namespace Go.Proofs.YtkjcdnlpjldhaaaGreat
open Go.RowKit Tw

def fN (b N:Int) (r:Int):Int:=(r+b) % N

theorem zfz {b N g:Int} (hN:0<N) (hg:g<=N):zft (fN b N) g N:=by
 refine ⟨fun r s r0 r1 s0 s1 h => ?_,fun r => ⟨Int.emod_nonneg _ (by omega),Int.emod_lt_of_pos _ hN⟩⟩
 unfold fN at h
 rw [Int.emod_def,Int.emod_def] at h
 obtain ⟨q1,e1⟩:∃ z,(r+b) / N=z:=⟨_,rfl⟩
 obtain ⟨q2,e2⟩:∃ z,(s+b) / N=z:=⟨_,rfl⟩
 rw [e1,e2] at h
 rcases Int.lt_trichotomy q1 q2 with k|k|k
 ·have:=Int.mul_le_mul_of_nonneg_left (show q1+1<=q2 by omega) (show 0<=N by omega)
  rw [Int.mul_add,Int.mul_one] at this
  omega
 ·rw [k] at h;omega
 ·have:=Int.mul_le_mul_of_nonneg_left (show q2+1<=q1 by omega) (show 0<=N by omega)
  rw [Int.mul_add,Int.mul_one] at this
  omega

theorem zdK {b N r:Int} (h:0<=r+b):(r+b).tmod N=fN b N r:=Int.tmod_eq_emod_of_nonneg h

def dN (c:Cd) (b m:Int):Cd:=⟨c.ins,c.rows,c.cols,c.regs+m,c.all.map (ren (fN b (c.regs+m)))⟩

section

variable {c:Cd} {b m:Int}

theorem zbi (hr:zr c=true):zbo c=true/\zA c [] c.all=true:=by
 unfold zr at hr
 rw [Bool.and_eq_true] at hr
 exact hr

theorem zfy (hr:zr c=true) (hm:0<=m/\m<=255) (hg:1<=c.regs/\c.regs<=10):zr (dN c b m)=true:=by
 obtain ⟨h1,h2⟩:=zbi hr
 unfold zr
 rw [Bool.and_eq_true]
 refine ⟨?_,zgv (c:=c) (d:=dN c b m) ⟨rfl,rfl,rfl⟩ (show zft (fN b (c.regs+m)) c.regs (c.regs+m) from zfz (by omega) (by omega)) c.all [] [] (fun r h => by cases h) h2⟩
 unfold zbo at h1 ⊢
 have h1:=of_decide_eq_true h1
 refine decide_eq_true ⟨h1.1,h1.2.1,h1.2.2.1,h1.2.2.2.1,h1.2.2.2.2.1,?_,?_,?_⟩
 ·show 0<=c.regs+m;omega
 ·show c.regs+m<=100000;omega
 ·show (c.all.map _).length<=100000;rw [List.length_map];exact h1.2.2.2.2.2.2.2

theorem dN_heavy (hr:zr c=true) (hm:0<=m/\m<=255) (hg:1<=c.regs/\c.regs<=10):zU (dN c b m)=zU c:=by
 unfold zU
 rw [if_pos hr,if_pos (zfy hr hm hg)]
 exact zdv (c:=c) (zfz (N:=c.regs+m) (by omega) (by omega)) c.all [] _ _ 0 (fun r h => by cases h) (zbi hr).2 (fun r h => by cases h)

theorem dN_run {p:List Rat} {n:Nat} (hr:zr c=true) (hm:0<=m/\m<=255) (hg:1<=c.regs/\c.regs<=10):zcT (dN c b m) p n=zcT c p n /\
  ∀ o,zgB (dN c b m) o=zgB c o/\zgA (dN c b m) o=zgA c o/\zch (dN c b m) p o=zch c p o/\jK (dN c b m) p o=jK c p o/\jT (dN c b m) p o=jT c p o:=by
 have h:=zka (c:=c) (zfz (b:=b) (N:=c.regs+m) (by omega) (by omega)) (p:=p) c.all [] St.zero St.zero (fun r h => by cases h) (zbi hr).2 (fun r h => by cases h) rfl rfl rfl
 have hd:(dN c b m).all=c.all.map (ren (fN b (c.regs+m))):=rfl
 constructor
 ·unfold zcT
  rw [hr,zfy hr hm hg,hd,h.1]
  rfl
 ·intro o
  refine ⟨rfl,rfl,?_,?_,?_⟩
  ·unfold zch;rw [hd,h.2.1];rfl
  ·unfold jK;rw [hd,h.2.2.1]
  ·unfold jT;rw [hd,h.2.2.2]

end

def Tame (x:Ins):Prop:=0<=x.op/\x.op<=10/\0<=x.to/\x.to<10/\0<=x.a/\x.a<10/\-5<x.b/\x.b<10/\(x.op≠7->0<=x.b)

theorem zjb {I G RC:Nat} {rg sg:List Int} {t:Tn} (bI:0<I/\I<=3) (bG:0<G/\G<=6) (bRC:0<RC/\RC<=9) (h:MI G rg sg):Tame (zB I G RC rg sg t):=by
 obtain ⟨L,wt,h⟩:=h
 obtain ⟨o1,o2,o3⟩:=zbr rg t
 have key:∀ q,1<zS rg t->0<=rg.getD (q % rg.length) 0/\rg.getD (q % rg.length) 0<10:=fun q hq => by
  have:=h.rng _ (zdN (Nat.mod_lt q (o3 hq)))
  omega
 have m1:t.to % G<G:=Nat.mod_lt _ bG.1
 have m2:t.to % RC<RC:=Nat.mod_lt _ bRC.1
 have m3:t.a % I<I:=Nat.mod_lt _ bI.1
 obtain ⟨b9,fG⟩:∃ z,t.b % 9=z:=⟨_,rfl⟩
 have m4:b9<9:=by rw [<- fG];exact Nat.mod_lt _ (by decide)
 have hn:∀ n:Nat,n<10->(0:Int)<=(n:Int)/\(n:Int)<10:=fun n h => ⟨by omega,by omega⟩
 have n1:=hn _ (show t.to % G<10 by omega)
 have n2:=hn _ (show t.to % RC<10 by omega)
 have n3:=hn _ (show t.a % I<10 by omega)
 unfold zB
 split
 ·exact ⟨show (0:Int)<=1 by decide,show (1:Int)<=10 by decide,n1.1,n1.2,show (0:Int)<=0 by decide,show (0:Int)<10 by decide,show (-5:Int)<0 by decide,show (0:Int)<10 by decide,fun _ => show (0:Int)<=0 by decide⟩
 ·have kt:0<=(if zS rg t=10 then ((t.to % RC:Nat):Int) else ((t.to % G:Nat):Int))/\(if zS rg t=10 then ((t.to % RC:Nat):Int) else ((t.to % G:Nat):Int))<10:=by
   split
   ·exact n2
   ·exact n1
  have ka:0<=(if zS rg t=0 then ((t.a % I:Nat):Int) else if 1<zS rg t then rg.getD (t.a % rg.length) 0 else 0)/\(if zS rg t=0 then ((t.a % I:Nat):Int) else if 1<zS rg t then rg.getD (t.a % rg.length) 0 else 0)<10:=by
   split
   ·exact n3
   ·split
    ·rename_i k;exact key t.a k
    ·exact ⟨by decide,by decide⟩
  have kb:-5<(if zS rg t=7 then ((t.b % 9:Nat):Int) - 4 else if zbC (zS rg t) then rg.getD (t.b % rg.length) 0 else 0)/\(if zS rg t=7 then ((t.b % 9:Nat):Int) - 4 else if zbC (zS rg t) then rg.getD (t.b % rg.length) 0 else 0)<10/\(zS rg t≠7->0<=(if zS rg t=7 then ((t.b % 9:Nat):Int) - 4 else if zbC (zS rg t) then rg.getD (t.b % rg.length) 0 else 0)):=by
   rw [fG]
   by_cases k7:zS rg t=7
   ·rw [if_pos k7]
    have:∀ b:Nat,b<9->-5<(b:Int) - 4/\(b:Int) - 4<10:=fun b h => ⟨by omega,by omega⟩
    exact ⟨(this _ m4).1,(this _ m4).2,fun k => absurd k7 k⟩
   ·rw [if_neg k7]
    split
    ·rename_i k
     have:=key t.b k.1
     exact ⟨by omega,this.2,fun _ => this.1⟩
    ·exact ⟨by decide,by decide,fun _ => by decide⟩
  exact ⟨o1,o2,kt.1,kt.2,ka.1,ka.2,kb.1,kb.2.1,kb.2.2⟩

theorem zdw {I G RC:Nat} (bI:0<I/\I<=3) (bG:0<G/\G<=6) (bRC:0<RC/\RC<=9):∀ (l:List Tn) (rg sg:List Int),MI G rg sg->∀ x ∈ zao I G RC rg sg l,Tame x
 | [],_,_,_,x,h => by cases h
 | t :: l,rg,sg,hM,x,h => by
  unfold zao at h
  rcases List.mem_cons.1 h with h|h
  ·rw [h];exact zjb bI bG bRC hM
  ·split at h
   ·exact zdw bI bG bRC l _ _ hM x h
   ·rename_i k
    exact zdw bI bG bRC l _ _ (hM.note bG.1 k) x h

theorem zgG (l:List Sn) (i:Nat) (hl:∀ x ∈ l,-128<=x.n/\x.n<=127):szq (zbb l i)<=1:=by
 unfold zbb
 split
 ·rename_i x h
  have:=hl x (List.mem_of_getElem? h)
  exact zeC (by omega) (Nat.mod_lt _ (by decide))
 ·show szq ((0:Int):Rat)<=1
  have h:=zgQ
  simpa using h

theorem zcC (n:Nat) (l:List Sn) (hl:∀ x ∈ l,-128<=x.n/\x.n<=127):∀ x ∈ (zcB n l).map zi,x.n.length<=6/\x.d.length<=6:=by
 intro x hx
 obtain ⟨q,hq,rfl⟩:=List.mem_map.1 hx
 obtain ⟨i,_,rfl⟩:=List.mem_map.1 hq
 have h:=zgG l i hl
 have h1:=zak (zbb l i)
 have h2:=zX (zbb l i)
 constructor
 ·show (zc _).length<=6
  rw [zd];omega
 ·show (zc _).length<=6
  rw [zd];omega

theorem zdA (n:Nat) (l:List Sn):((zcB n l).map zi).map Rt.num=zcB n l:=by
 rw [List.map_map]
 conv => rhs;rw [<- List.map_id (zcB n l)]
 exact List.map_congr_left fun q _ => zdb q

theorem zdz (n:Nat) (l:List Sn):((zcB n l).map zi).length=n:=by
 unfold zcB
 rw [List.length_map,List.length_map,List.length_range]

theorem RdSn.rng {w:World} {v:Value} {l:List Sn} (h:RdSn w v l):∀ x ∈ l,-128<=x.n/\x.n<=127:=by
 intro x hx
 obtain ⟨i,hi,rfl⟩:=List.mem_iff_getElem.1 hx
 obtain ⟨a,cap,_,_,_,h3⟩:=h
 obtain ⟨b,off,_,k⟩:=h3 i hi
 exact k.2.2.1

theorem zbs {op:Int}:zg op=2 ↔ (2<=op/\op<=5)\/op=8\/op=9:=by
 unfold zg
 constructor
 ·intro h
  split at h
  ·exact absurd h (by decide)
  ·split at h
   ·assumption
   ·split at h <;> exact absurd h (by decide)
 ·intro h
  rw [if_neg (by omega),if_pos h]

end Go.Proofs.YtkjcdnlpjldhaaaGreat


namespace Go.Proofs.YtkjcdnlpjldhaaaGreat
open Go.RowKit Tw

def dF (c:Cd) (n:Nat):Cd:=⟨c.ins,c.rows,c.cols,c.regs,c.all.take n⟩

section

variable {c:Cd} {n:Nat} {p:List Rat}

theorem dF_all:∀ (l:List Ins) (L:List Int),zA (dF c n) L l=zA c L l
 | [],_ => rfl
 | x :: t,L => by
  show (zq (dF c n) L x && zA (dF c n) (more L x) t)=(zq c L x && zA c (more L x) t)
  rw [dF_all t]
  rfl

theorem zdJ (hr:zr c=true):zr (dF c n)=true:=by
 obtain ⟨h1,h2⟩:=zbi hr
 unfold zr
 rw [Bool.and_eq_true]
 refine ⟨?_,(dF_all (c.all.take n) []).trans (zfv c.all [] n h2)⟩
 unfold zbo at h1 ⊢
 have h1:=of_decide_eq_true h1
 refine decide_eq_true ⟨h1.1,h1.2.1,h1.2.2.1,h1.2.2.2.1,h1.2.2.2.2.1,h1.2.2.2.2.2.1,h1.2.2.2.2.2.2.1,?_⟩
 show (c.all.take n).length<=100000
 have:=h1.2.2.2.2.2.2.2
 rw [List.length_take]
 omega

theorem zhV (hr:zr c=true):zU (dF c n)<=zU c:=by
 unfold zU
 rw [if_pos hr,if_pos (zdJ hr)]
 exact zcM c.all _ 0 n

theorem zgd {L:List Int} {wt:Int->Int} {R:Int->Rat} {x:Ins} (hx:zq c L x=true) (h:Thin L wt R) (hp:∀ q ∈ p,szq q<=7) (hq:szq x.q.num<=7) (hw:x.op≠10->wOf wt x<=20):zL p R x=0\/zL p R x=3:=by
 by_cases h10:x.op=10
 ·have e0:opE R x=0:=by unfold opE;rw [if_neg (by omega),if_neg (by omega)]
  unfold zL
  rw [if_neg (by rw [e0];decide),if_neg (fun k => k.1 h10)]
  exact .inl rfl
 ·have hs:=zeH (p:=p) hx h hp hq h10 (hw h10)
  have hw:=hw h10
  have e1:opE R x=0\/opE R x=3:=by
   unfold opE
   by_cases h5:x.op=5
   ·rw [if_pos h5]
    split
    ·exact .inr rfl
    ·exact .inl rfl
   ·rw [if_neg h5]
    by_cases h7:x.op=7
    ·rw [if_pos h7]
     split
     ·exact .inr rfl
     ·have:=hs.2.2 h7
      rw [if_neg (by omega)]
      exact .inl rfl
    ·rw [if_neg h7]
     exact .inl rfl
  unfold zL
  rcases e1 with e|e
  ·rw [if_neg (by rw [e];decide),if_neg (fun k => by have:=k.2;omega)]
   exact .inl rfl
  ·rw [if_pos (by rw [e];decide)]
   exact .inr e

theorem zez (hp:∀ q ∈ p,szq q<=7):∀ (l:List Ins) (L:List Int) (wt:Int->Int) (m:Int) (s:St),(∀ x ∈ l,szq x.q.num<=7)->zA c L l=true->Thin L wt s.R->zam wt m l<=20->zbK p s l=0\/zbK p s l=3
 | [],_,_,_,_,_,_,_,_ => .inl rfl
 | x :: t,L,wt,m,s,hl,ha,hT,hh => by
  unfold zA at ha
  rw [Bool.and_eq_true] at ha
  have hlt:∀ y ∈ t,szq y.q.num<=7:=fun y hy => hl y (List.mem_cons_of_mem _ hy)
  unfold zam at hh
  unfold zbK
  by_cases h10:x.op=10
  ·rw [if_pos h10] at hh
   have hm:more L x=L:=by unfold more;rw [if_pos h10]
   rcases zgd (p:=p) ha.1 hT hp (hl x (List.mem_cons_self ..)) (fun k => absurd h10 k) with e|e
   ·rw [if_neg (by rw [e];decide)]
    refine zez hp t L wt m _ hlt (by rw [<- hm];exact ha.2) ?_ hh
    unfold St.next
    rw [if_pos h10]
    exact hT
   ·rw [if_pos (by rw [e];decide)]
    exact .inr e
  ·rw [if_neg h10] at hh
   have hw:wOf wt x<=20:=by have:=zcq t (upd wt x.to (wOf wt x)) (max m (wOf wt x));omega
   have hs:=zeH (p:=p) ha.1 hT hp (hl x (List.mem_cons_self ..)) h10 hw
   rcases zgd (p:=p) ha.1 hT hp (hl x (List.mem_cons_self ..)) (fun _ => hw) with e|e
   ·rw [if_neg (by rw [e];decide)]
    refine zez hp t (more L x) _ _ _ hlt ha.2 ?_ hh
    unfold St.next
    rw [if_neg h10]
    exact hT.next (c:=c) h10 hw ⟨hs.1,hs.2.1⟩
   ·rw [if_pos (by rw [e];decide)]
    exact .inr e

theorem zkW (hp:∀ q ∈ p,szq q<=7) (hl:∀ x ∈ c.all,szq x.q.num<=7) (hr:zr c=true) (hh:zU c<=20):zbK p St.zero c.all=0\/zbK p St.zero c.all=3:=by
 unfold zU at hh
 rw [if_pos hr] at hh
 exact zez hp c.all [] (fun _ => 0) 0 St.zero hl (zbi hr).2 (fun r h => by cases h) hh

theorem zgb (hr:zr c=true) {I:Nat} (hi:(I:Int)=c.ins):zcT c p I=zbK p St.zero c.all:=by
 unfold zcT
 rw [if_neg (by rw [hr];decide),if_neg (fun k => k hi)]

theorem front_no (hp:∀ q ∈ p,szq q<=7) (hl:∀ x ∈ c.all,szq x.q.num<=7) (hr:zr c=true) (hh:zU c<=20) {I:Nat} (hi:(I:Int)=c.ins) (h:zcT (dF c n) p I≠0):zcT (dF c n) p I=3/\zcT c p I=3:=by
 have h1:=zgb (p:=p) (zdJ (n:=n) hr) (show (I:Int)=(dF c n).ins from hi)
 have h2:=zgb (p:=p) hr hi
 have h3:=zkW hp (fun x hx => hl x (List.mem_of_mem_take hx)) (zdJ (n:=n) hr) (Int.le_trans (zhV hr) hh)
 rw [h1] at h ⊢
 rw [h2]
 have h4:=zgM c.all St.zero n h
 rcases h3 with h3|h3
 ·exact absurd h3 h
 ·exact ⟨h3,h4.trans h3⟩

theorem front_t:jT c p 0=zbv c.all:=by
 unfold jT
 rw [if_pos rfl,runS_t]
 show (0:Int)+_=_
 omega

theorem front_J {i:Nat} (hi:i<(zch c p 0).length) (h:¬ zck c.all (i:Int)):(zch c p 0)[i]=0:=by
 unfold zch at hi ⊢
 simp only [if_pos] at hi ⊢
 unfold zcx at hi ⊢
 rw [List.getElem_map,List.getElem_range]
 rw [runS_J c.all St.zero h]
 rfl

end

end Go.Proofs.YtkjcdnlpjldhaaaGreat

