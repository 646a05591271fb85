/-
  The texts VmRel, VmRun, VmRunJ, Awake25, LongP, merged.
-/
import Derived.Test.YtkjcdnlpjldhaaaG22
import Derived.Test.YtkjcdnlpjldhaaaG10
import Derived.Deep.RegionHeld3
import Derived.Test.YtkjcdnlpjldhaaaG19
import Derived.Test.YtkjcdnlpjldhaaaG21
import Derived.Test.YtkjcdnlpjldhaaaG17
import Derived.Test.YtkjcdnlpjldhaaaG05
set_option linter.unusedVariables false
set_option linter.unusedSimpArgs false
set_option maxRecDepth 100000
set_option maxHeartbeats 400000000
namespace Go.Proofs.Ytkjcdnlpjldhaaa
open Go.RowKit Tw

section

variable {w w':World} {v u:Value} {q:Rat}

theorem zE.setOne {b o B p:Nat} {c0 c1 c2:Value} (h:zE w b o c0 c1 c2) (hne:b≠B) (x:Value):zE (w.setCell ⟨B,p,none⟩ x) b o c0 c1 c2 :=
 ⟨cP h.1 (.inl hne) _,cP h.2.1 (.inl hne) _,cP h.2.2.1 (.inl hne) _,by simp [go_sem,h.2.2.2.1],by simp [go_sem,h.2.2.2.2.1],by simp [go_sem,h.2.2.2.2.2]⟩

theorem zL.setI {g N B p:Nat} {P:Nat->Prop} {R:Nat->Rat} (h:zL w g N P R) (hne:g≠B) {z:Int} (hc:w.cell? ⟨B,p,none⟩=some (.int .i64 z)) (x:Value):zL (w.setCell ⟨B,p,none⟩ x) g N P R:=fun r hr =>
 let ⟨b,a,n,c,a',n',c',h1,h2⟩:=h r hr
 ⟨b,a,n,c,a',n',c',h1.setOne hne x,fun hp => ⟨⟨(h2 hp).1.1.put hc (fun z e => by cases e) x,(h2 hp).1.2.1.put hc (fun z e => by cases e) x,(h2 hp).1.2.2⟩,(h2 hp).2⟩⟩

theorem zL.setP {g N B p:Nat} {P:Nat->Prop} {R:Nat->Rat} (h:zL w g N P R) (hne:g≠B) {c0:Value} (hc:w.cell? ⟨B,p,none⟩=some c0) (hn:∀ z,c0≠.int .u32 z) (x:Value):zL (w.setCell ⟨B,p,none⟩ x) g N P R:=fun r hr =>
 let ⟨b,a,n,c,a',n',c',h1,h2⟩:=h r hr
 ⟨b,a,n,c,a',n',c',h1.setOne hne x,fun hp => ⟨⟨(h2 hp).1.1.put hc hn x,(h2 hp).1.2.1.put hc hn x,(h2 hp).1.2.2⟩,(h2 hp).2⟩⟩

theorem zL.low {g N B:Nat} {R R':Nat->Rat} (h:zL w g N (fun _ => False) R) (hb:Below B w w') (hg:g<B):zL w' g N (fun _ => False) R':=fun r hr =>
 let ⟨b,a,n,c,a',n',c',h1,_⟩:=h r hr
 ⟨b,a,n,c,a',n',c',⟨(hb.cell (p:=⟨g,r*3,none⟩) hg).trans h1.1,(hb.cell (p:=⟨g,r*3+1,none⟩) hg).trans h1.2.1,(hb.cell (p:=⟨g,r*3+2,none⟩) hg).trans h1.2.2.1,
  (hb.frozen (p:=⟨g,r*3,none⟩) hg).trans h1.2.2.2.1,(hb.frozen (p:=⟨g,r*3+1,none⟩) hg).trans h1.2.2.2.2.1,(hb.frozen (p:=⟨g,r*3+2,none⟩) hg).trans h1.2.2.2.2.2⟩,fun hp => hp.elim⟩

theorem zy.setOne {B N g b o:Nat} {rows cols:Int} (h:zy w B g N u v rows cols) (hne:B≠b) (x:Value):zy (w.setCell ⟨b,o,none⟩ x) B g N u v rows cols :=
 ⟨cP h.1 (.inl hne) _,cP h.2.1 (.inl hne) _,cP h.2.2.1 (.inl hne) _,cP h.2.2.2.1 (.inl hne) _,cP h.2.2.2.2 (.inl hne) _⟩

theorem zy.put3 {B N g b o:Nat} {rows cols:Int} (h:zy w B g N u v rows cols) (hne:B≠b) (x y z:Value):zy (put3 w b o x y z) B g N u v rows cols :=
 ((h.setOne hne x).setOne hne y).setOne hne z

theorem Duo.put3 {B b o:Nat} {x y:Value} (h:Duo w B x y) (hne:B≠b) (x' y' z':Value):Duo (Go.Proofs.Ytkjcdnlpjldhaaa.put3 w b o x' y' z') B x y :=
 ⟨zbt h.1 (.inl hne) _ _ _,zbt h.2.1 (.inl hne) _ _ _,zbe h.2.2.1 _ _ _,zbe h.2.2.2 _ _ _⟩

theorem zew {n b o:Nat} (h:Below n w w') (hB:n<=b) (x y z:Value):Below n w (put3 w' b o x y z):=((h.setCell (by exact hB) _).setCell (by exact hB) _).setCell (by exact hB) _

def zbi (W0 ww:World) (g h nB N M cj:Nat) (u:Value) (rows cols:Int) (L:List Int) (s:St):Prop :=
 (Below W0.heap.size W0 ww/\zy ww (g+1) g N u (.slice (some ⟨h,0,none⟩) M cj) rows cols)/\zL ww g N (fun r => (r:Int) ∈ L) (fun r => s.R r)/\zL ww h M (fun _ => True) (fun i => s.J i) /\
  Duo ww nB (.int .i64 s.k) (.int .i64 s.t)/\W0.heap.size<=g/\g+1<h/\h<nB

variable {W0 ww:World} {g h nB N M cj:Nat} {rows cols:Int} {L:List Int} {s:St} {ng:Bool} {a a':Option Addr} {n c n' c' T:Nat}

theorem zbi.to (hr:zbi W0 ww g h nB N M cj u rows cols L s) (hb:Below ww.heap.size ww w'):zbi W0 w' g h nB N M cj u rows cols L s :=
 ⟨⟨bS hr.1.1 hb,hr.1.2.to hb⟩,hr.2.1.to hb,hr.2.2.1.to hb,hr.2.2.2.1.to hb,hr.2.2.2.2⟩

theorem zbi.reg (hr:zbi W0 ww g h nB N M cj u rows cols L s) (hT:T<N) (hk:IsK ww ng (.slice a n c) (.slice a' n' c') q) :
  zbi W0 (put3 ww g (T*3) (.bool ng) (.slice a n c) (.slice a' n' c')) g h nB N M cj u rows cols (L++[(T:Int)]) { s with R:=upd s.R (T:Int) q }:=by
 obtain ⟨⟨h1,h2⟩,h3,h4,h5,h6,h7,h8⟩:=hr
 obtain ⟨b0,a0,n0,c0,a0',n0',c0',o0,_⟩:=h3 T hT
 refine ⟨⟨zew h1 h6 _ _ _,h2.put3 (by omega) _ _ _⟩,(h3.put hT hk).cast (fun r hr hp => ?_),h4.other (by omega) o0 _ _ _,h5.put3 (by omega) _ _ _,h6,h7,h8⟩
 by_cases e:r=T
 ·subst e
  exact ⟨.inl rfl,by show (if r=r then q else _)=upd s.R (r:Int) q (r:Int);rw [if_pos rfl,zbh]⟩
 ·have hne:(r:Int)≠(T:Int):=by omega
  refine ⟨.inr ?_,by show (if r=T then q else s.R r)=upd s.R (T:Int) q (r:Int);rw [if_neg e,zby _ _ hne]⟩
  rcases List.mem_append.1 hp with hp|hp
  ·exact hp
  ·exact absurd (List.mem_singleton.1 hp) hne

theorem zbi.tell (hr:zbi W0 ww g h nB N M cj u rows cols L s) (hT:T<M) (hk:IsK ww ng (.slice a n c) (.slice a' n' c') q) :
  zbi W0 (put3 ww h (T*3) (.bool ng) (.slice a n c) (.slice a' n' c')) g h nB N M cj u rows cols L { s with J:=upd s.J (T:Int) q }:=by
 obtain ⟨⟨h1,h2⟩,h3,h4,h5,h6,h7,h8⟩:=hr
 obtain ⟨b0,a0,n0,c0,a0',n0',c0',o0,_⟩:=h4 T hT
 refine ⟨⟨zew h1 (by omega) _ _ _,h2.put3 (by omega) _ _ _⟩,h3.other (by omega) o0 _ _ _,(h4.put hT hk).cast (fun r hr hp => ?_),h5.put3 (by omega) _ _ _,h6,h7,h8⟩
 by_cases e:r=T
 ·subst e
  exact ⟨.inl rfl,by show (if r=r then q else _)=upd s.J (r:Int) q (r:Int);rw [if_pos rfl,zbh]⟩
 ·have hne:(r:Int)≠(T:Int):=by omega
  exact ⟨.inr trivial,by show (if r=T then q else s.J r)=upd s.J (T:Int) q (r:Int);rw [if_neg e,zby _ _ hne]⟩

theorem zbi.count (hr:zbi W0 ww g h nB N M cj u rows cols L s) (k:Int):zbi W0 (ww.setCell ⟨nB,0,none⟩ (.int .i64 k)) g h nB N M cj u rows cols L { s with k:=k }:=by
 obtain ⟨⟨h1,h2⟩,h3,h4,h5,h6,h7,h8⟩:=hr
 exact ⟨⟨h1.setCell (show W0.heap.size<=nB by omega) _,h2.setOne (by omega) _⟩,h3.setI (by omega) h5.1 _,h4.setI (by omega) h5.1 _,
  ⟨zH h5.1 _,cP h5.2.1 (.inr (by decide)) _,by simp [go_sem,h5.2.2.1],by simp [go_sem,h5.2.2.2]⟩,h6,h7,h8⟩

theorem zbi.times (hr:zbi W0 ww g h nB N M cj u rows cols L s) (t:Int):zbi W0 (ww.setCell ⟨nB,1,none⟩ (.int .i64 t)) g h nB N M cj u rows cols L { s with t:=t }:=by
 obtain ⟨⟨h1,h2⟩,h3,h4,h5,h6,h7,h8⟩:=hr
 exact ⟨⟨h1.setCell (show W0.heap.size<=nB by omega) _,h2.setOne (by omega) _⟩,h3.setI (by omega) h5.2.1 _,h4.setI (by omega) h5.2.1 _,
  ⟨cP h5.1 (.inr (by decide)) _,zH h5.2.1 _,by simp [go_sem,h5.2.2.1],by simp [go_sem,h5.2.2.2]⟩,h6,h7,h8⟩

theorem zbi.drew (hr:zbi W0 ww g h nB N M cj u rows cols L s):zbi W0 ww.drew g h nB N M cj u rows cols L s:=hr.to (Below.refl _ _).drew

theorem zbi.step {W3:World} {op to:Int} {e:Ending} {p:List Rat} {C:Cd} (x:Ins) (hop:x.op=op) (hto:x.to=to) (hr:zbi W0 W3 g h nB N M cj u rows cols L s) (hok:zw C L x=true) (hreg:C.regs=(N:Int)) (hMM:C.rows*C.cols=(M:Int))
  (hs:∃ T:Nat,to=(T:Int)/\zbU W3 (if op=10 then h else g) (T*3) (opV p s.R x) e w') :
  e=.returned (.int .i64 0)/\zbi W0 w' g h nB N M cj u rows cols (more L x) { s.next p x with k:=s.k,t:=s.t }/\(∀ B o v,W3.cell? ⟨B,o,none⟩=some v->B≠g->B≠h->w'.cell? ⟨B,o,none⟩=some v)/\W3.heap.size<=w'.heap.size:=by
 subst hop
 obtain ⟨T,rfl,w2,ng,v2,u2,rfl,aL,hk2,hw⟩:=hs
 have hr2:=hr.to aL
 obtain ⟨a1,n1,c1,rfl,_,_⟩:=hk2.1.1.open
 obtain ⟨a2,n2,c2,rfl,_,_⟩:=hk2.1.2.1.open
 have hTo:=zY hok
 rw [hto] at hTo
 have key:∀ w5,w5=put3 w2 (if x.op=10 then h else g) (T*3) (.bool ng) (.slice a1 n1 c1) (.slice a2 n2 c2) ->
   zbi W0 w5 g h nB N M cj u rows cols (more L x) { s.next p x with k:=s.k,t:=s.t }/\(∀ B o v,W3.cell? ⟨B,o,none⟩=some v->B≠g->B≠h->w5.cell? ⟨B,o,none⟩=some v)/\W3.heap.size<=w5.heap.size:=by
  intro w5 e5
  have hcell:∀ B o v,W3.cell? ⟨B,o,none⟩=some v->B≠g->B≠h->w5.cell? ⟨B,o,none⟩=some v:=by
   intro B o v hv h1 h2
   rw [e5]
   refine zbt ((aL.cell (p:=⟨B,o,none⟩) (zj hv)).trans hv) (.inl ?_) _ _ _
   split <;> assumption
  have hsize:W3.heap.size<=w5.heap.size:=by rw [e5];simp;exact aL.size
  by_cases e10:x.op=10
  ·unfold zJ at hTo
   rw [if_pos e10] at e5
   rw [if_pos e10,hMM] at hTo
   have hT:T<M:=by omega
   have hm:more L x=L:=by unfold more;rw [if_pos e10]
   have hn:({ s.next p x with k:=s.k,t:=s.t }:St)={ s with J:=upd s.J (T:Int) (opV p s.R x) }:=by unfold St.next;rw [if_pos e10,hto]
   refine ⟨?_,hcell,hsize⟩
   rw [hm,hn,e5]
   exact hr2.tell hT hk2
  ·unfold zJ at hTo
   rw [if_neg e10] at e5
   rw [if_neg e10,hreg] at hTo
   have hT:T<N:=by omega
   have hm:more L x=L++[(T:Int)]:=by unfold more;rw [if_neg e10,hto]
   have hn:({ s.next p x with k:=s.k,t:=s.t }:St)={ s with R:=upd s.R (T:Int) (opV p s.R x) }:=by unfold St.next;rw [if_neg e10,hto]
   refine ⟨?_,hcell,hsize⟩
   rw [hm,hn,e5]
   exact hr2.reg hT hk2
 rcases hw with hw|hw
 ·exact ⟨rfl,key _ hw⟩
 ·have k:=key _ rfl
  rw [hw]
  exact ⟨rfl,k.1.drew,fun B o v hv h1 h2 => k.2.1 B o v hv h1 h2,k.2.2⟩

theorem zcy {p:List Rat} {x:Ins}:(s.next p x).k=s.k+1/\(s.next p x).t=if x.op=8 then s.t+1 else s.t:=by
 unfold St.next
 by_cases e:x.op=10
 ·rw [if_pos e,if_neg (by omega)]
  exact ⟨rfl,rfl⟩
 ·rw [if_neg e]
  exact ⟨rfl,rfl⟩

theorem next_eq1 {p:List Rat} {x:Ins} {m:Int} (hk:s.k=m) (h8:x.op≠8):({ { s.next p x with k:=s.k,t:=s.t } with k:=m+1 }:St)=s.next p x:=by
 have h:=zcy (s:=s) (p:=p) (x:=x)
 cases hh:s.next p x with
 | mk R J k t =>
  rw [hh,if_neg h8] at h
  simp only at h
  show St.mk R J (m+1) s.t=St.mk R J k t
  rw [h.1,h.2,hk]

theorem next_eq2 {p:List Rat} {x:Ins} {m tt:Int} (hk:s.k=m) (ht:s.t=tt) (h8:x.op=8):({ { { s.next p x with k:=s.k,t:=s.t } with k:=m+1 } with t:=tt+1 }:St)=s.next p x:=by
 have h:=zcy (s:=s) (p:=p) (x:=x)
 cases hh:s.next p x with
 | mk R J k t =>
  rw [hh,if_pos h8] at h
  simp only at h
  show St.mk R J (m+1) (tt+1)=St.mk R J k t
  rw [h.1,h.2,hk,ht]

theorem zhI {w:World} {g N cap:Nat} {J:Int->Rat} {rows cols:Int} (h:zL w g N (fun _ => True) (fun i => J i)) (hN:rows*cols=(N:Int)) (h1:N<=cap) (h2:cap<=maxLen):RdR w (.slice (some ⟨g,0,none⟩) N cap) (((List.range (rows*cols).toNat).map fun (i:Nat) => J (i:Int)).map zI):=by
 have:=h.rdR (fun _ _ => trivial) h1 h2
 rw [hN,Int.toNat_natCast,List.map_map]
 exact this

end

theorem zjH {p:List Rat} {s:St} {l:List Ins} {k:Nat} (h:k<l.length):zci p s (l.drop k)=if zB p s.R l[k]≠0 then zB p s.R l[k] else zci p (s.next p l[k]) (l.drop (k+1)):=by
 rw [List.drop_eq_getElem_cons h];rfl

theorem zjI {p:List Rat} {s:St} {l:List Ins} {k:Nat} (h:k<l.length):zbg p s (l.drop k)=zbg p (s.next p l[k]) (l.drop (k+1)):=by
 rw [List.drop_eq_getElem_cons h];rfl

theorem zhJ {S:Nat} {p:List Rat} {s:St} {l:List Ins} {k:Nat} (h:k<l.length) (hf:zaL S p s (l.drop k)) :
  (opE s.R l[k]=0->szq (opV p s.R l[k])<=S/\(l[k].op=7->szq (s.R l[k].a)*l[k].b.natAbs<S))/\(zB p s.R l[k]=0->zaL S p (s.next p l[k]) (l.drop (k+1))):=by
 rw [List.drop_eq_getElem_cons h] at hf;exact hf

end Go.Proofs.Ytkjcdnlpjldhaaa


namespace Go.Proofs.Ytkjcdnlpjldhaaa
open Go.RowKit Tw
attribute [local go_sem ↓] Go.wp_at_zero Go.wp_at_succ

theorem zcd {fn:Func} {k j i:Tmp} (h:fn.results=#[.cell k 34,.cell j 36,.tmp i]) (tmps:Array Value) (w:World) (b b':Nat) (x y z p q:Value) (hk:tmps.getD k undef=.pointer (some ⟨b,0,none⟩)) (hj:tmps.getD j undef=.pointer (some ⟨b',0,none⟩))
  (t:Tri w b x y z) (d:Duo w b' p q):(results fn tmps).run Try.prog w=.ok (.tuple #[.agg #[x,y,z],.agg #[p,q],tmps.getD i undef]) w:=by
 have hl:(loadVar 34 ⟨b,0,none⟩).run Try.prog w=.ok (.agg #[x,y,z]) w:=by simp [go_sem,t.1,t.2.1,t.2.2.1]
 have hd:(loadVar 36 ⟨b',0,none⟩).run Try.prog w=.ok (.agg #[p,q]) w:=by simp [go_sem,d.1,d.2.1]
 have hk':tmps[k]?.getD undef=.pointer (some ⟨b,0,none⟩):=by simpa using hk
 have hj':tmps[j]?.getD undef=.pointer (some ⟨b',0,none⟩):=by simpa using hj
 simp [results,h,asAddr,Sem.run_bind,hl,hd,Result.andThen,hk',hj']

theorem zeR {w:World} {b b':Nat} {x0 y0 z0 p0 q0:Value} (t:Tri w b x0 y0 z0) (d:Duo w b' p0 q0) (hne:b≠b') (x y z p q:Value) :
  Tri (zeS (zbE w b x y z) b' p q) b x y z/\Duo (zeS (zbE w b x y z) b' p q) b' p q:=by
 have t1:=t.set x y z
 have d1:Duo (zbE w b x y z) b' p0 q0:=⟨cP (cP (cP d.1 (.inl (Ne.symm hne)) _) (.inl (Ne.symm hne)) _) (.inl (Ne.symm hne)) _,cP (cP (cP d.2.1 (.inl (Ne.symm hne)) _) (.inl (Ne.symm hne)) _) (.inl (Ne.symm hne)) _,
  by simp [go_sem,d.2.2.1],by simp [go_sem,d.2.2.2]⟩
 exact ⟨⟨cP (cP t1.1 (.inl hne) _) (.inl hne) _,cP (cP t1.2.1 (.inl hne) _) (.inl hne) _,cP (cP t1.2.2.1 (.inl hne) _) (.inl hne) _,
  by simp [go_sem,t.2.2.2.1],by simp [go_sem,t.2.2.2.2.1],by simp [go_sem,t.2.2.2.2.2]⟩,d1.set p q⟩

def GivesJ (w:World) (rows cols:Int) (qs:List Rat) (k t:Int) (e:Ending) (w':World):Prop :=
 ∃ a n c,e=.returned (.tuple #[.agg #[.int .i64 rows,.int .i64 cols,.slice a n c],.agg #[.int .i64 k,.int .i64 t],.int .i64 0])/\RdR w' (.slice a n c) (qs.map zI)/\(∀ b o,a=some ⟨b,o,none⟩->w.heap.size<=b)/\Below w.heap.size w w'

def NoJ (w:World) (o:Int) (e:Ending) (w':World):Prop :=
 e=.returned (.tuple #[.agg #[.int .i64 0,.int .i64 0,.slice none 0 0],.agg #[.int .i64 0,.int .i64 0],.int .i64 o])/\Below w.heap.size w w'

def zfH (rows cols:Int) (J:Int->Rat):List Rat:=(List.range (rows*cols).toNat).map fun (i:Nat) => J (i:Int)

def zef (w:World) (c:Cd) (p:List Rat) (o:Int) (e:Ending) (w':World):Prop :=
 (o≠0/\NoJ w o e w')\/(o=0/\GivesJ w c.rows c.cols (zfH c.rows c.cols (zbg p St.zero c.all).J) (zbg p St.zero c.all).k (zbg p St.zero c.all).t e w')

theorem zhp (c:Cd) (v u:Value) (xs:List Rt) (w:World) (hc:IsC w c v) (hs:zaV 4097 c.all) (hx:RdR w u xs) (h0:zS c=false) :
  Calls Try.prog 5 #[aggC c v,u] w (NoJ w 11):=by
 have Hs:=Lib.hid hs
 have Hr0:=Lib.hid h0
 clear hs h0
 obtain ⟨a0,n0,c0,rfl,H0,hm0⟩:=hc.1.open
 obtain ⟨a1,n1,c1,rfl,H1,hm1⟩:=hx.open
 go_enter Try.func5,Try.ntmps5
 go_wp2_with fail
 obtain ⟨W0,aq⟩:∃ W0,((w.alloc (.cells #[.int .i64 c.ins,.int .i64 c.rows,.int .i64 c.cols,.int .i64 c.regs,.slice a0 n0 c0] 30)).alloc (.cells #[.int .i64 0,.int .i64 0,.slice none 0 0] 34)).alloc (.cells #[.int .i64 0,.int .i64 0] 36)=W0:=⟨_,rfl⟩
 have al:=Lib.hid (show ∀ W',Below W0.heap.size W0 W'->(Bx5 W' w.heap.size (.int .i64 c.ins) (.int .i64 c.rows) (.int .i64 c.cols) (.int .i64 c.regs) (.slice a0 n0 c0)/\Bx3 W' (w.heap.size+1) (.int .i64 0) (.int .i64 0) (.slice none 0 0)/\Bx2 W' (w.heap.size+1+1) (.int .i64 0) (.int .i64 0)) from fun W' hb => by
   refine ⟨bx5 hb ?_ ?_ ?_ ?_ ?_ ?_ ?_ ?_ ?_ ?_,bx3 hb ?_ ?_ ?_ ?_ ?_ ?_,bx2 hb ?_ ?_ ?_ ?_⟩
   all_goals first|assumption|(rw [<- aq];simp [go_sem]))
 have zb:Below w.heap.size w W0:=by rw [<- aq];exact bS (bS (bN _ _) (bN _ _)) (bN _ _)
 rw [aq]
 clear aq
 have i0:=hc.to zb
 have i1:=hx.to zb
 have gb:Below W0.heap.size W0 W0:=Below.refl _ _
 obtain ⟨⟨z0,ae,af,ag,am,an,ah,ai,ak,au,aw⟩,⟨z1,aA,aB,aC,aD,aE,aF⟩,⟨z2,bt,bu,bG,bH⟩⟩:=al.out _ gb
 go_wp2_with fail
 refine (zbZ c _ _ (i0.to gb) Hs.out false Hr0.out).mono ?_
 clear ae ah af ai ag ak am au an aw aA aD aB aE aC aF bt bG bu bH
 rintro e w1 ⟨rfl,aT⟩
 replace gb:=bS gb aT
 obtain ⟨⟨z0,ae,af,ag,am,an,ah,ai,ak,au,aw⟩,⟨z1,aA,aB,aC,aD,aE,aF⟩,⟨z2,bt,bu,bG,bH⟩⟩:=al.out _ gb
 go_wp2_with fail
 have rt:=zeR ⟨aA,aB,aC,aD,aE,aF⟩ ⟨bt,bu,bG,bH⟩ (show w.heap.size+1≠w.heap.size+1+1 by omega) (.int .i64 0) (.int .i64 0) (.slice none 0 0) (.int .i64 0) (.int .i64 0)
 exact bodyPost_ret (zcd Try.results5 _ _ _ _ _ _ _ _ _ rfl rfl rt.1 rt.2) rfl ⟨rfl,bD (bT (bS zb gb) (by omega) _ _ _) (by omega) _ _⟩

theorem zgm (c:Cd) (v u:Value) (xs:List Rt) (w:World) (hc:IsC w c v) (hs:zaV 4097 c.all) (hx:RdR w u xs) (h1:zS c=true) (hl:(xs.length:Int)≠c.ins) :
  Calls Try.prog 5 #[aggC c v,u] w (NoJ w 8):=by
 have Hs:=Lib.hid hs
 have Hr0:=Lib.hid h1
 clear hs h1
 obtain ⟨a0,n0,c0,rfl,H0,hm0⟩:=hc.1.open
 obtain ⟨a1,n1,c1,rfl,H1,hm1⟩:=hx.open
 have hl1:(n1:Int)≠c.ins:=by rw [<- H1.out];exact hl
 have t0:((n1:Int) != c.ins)=true:=by simp;exact hl1
 clear hl hl1
 go_enter Try.func5,Try.ntmps5
 go_wp2_with fail
 obtain ⟨W0,aq⟩:∃ W0,((w.alloc (.cells #[.int .i64 c.ins,.int .i64 c.rows,.int .i64 c.cols,.int .i64 c.regs,.slice a0 n0 c0] 30)).alloc (.cells #[.int .i64 0,.int .i64 0,.slice none 0 0] 34)).alloc (.cells #[.int .i64 0,.int .i64 0] 36)=W0:=⟨_,rfl⟩
 have al:=Lib.hid (show ∀ W',Below W0.heap.size W0 W'->(Bx5 W' w.heap.size (.int .i64 c.ins) (.int .i64 c.rows) (.int .i64 c.cols) (.int .i64 c.regs) (.slice a0 n0 c0)/\Bx3 W' (w.heap.size+1) (.int .i64 0) (.int .i64 0) (.slice none 0 0)/\Bx2 W' (w.heap.size+1+1) (.int .i64 0) (.int .i64 0)) from fun W' hb => by
   refine ⟨bx5 hb ?_ ?_ ?_ ?_ ?_ ?_ ?_ ?_ ?_ ?_,bx3 hb ?_ ?_ ?_ ?_ ?_ ?_,bx2 hb ?_ ?_ ?_ ?_⟩
   all_goals first|assumption|(rw [<- aq];simp [go_sem]))
 have zb:Below w.heap.size w W0:=by rw [<- aq];exact bS (bS (bN _ _) (bN _ _)) (bN _ _)
 rw [aq]
 clear aq
 have i0:=hc.to zb
 have i1:=hx.to zb
 have gb:Below W0.heap.size W0 W0:=Below.refl _ _
 obtain ⟨⟨z0,ae,af,ag,am,an,ah,ai,ak,au,aw⟩,⟨z1,aA,aB,aC,aD,aE,aF⟩,⟨z2,bt,bu,bG,bH⟩⟩:=al.out _ gb
 go_wp2_with fail
 refine (zbZ c _ _ (i0.to gb) Hs.out true Hr0.out).mono ?_
 clear ae ah af ai ag ak am au an aw aA aD aB aE aC aF bt bG bu bH
 rintro e w1 ⟨rfl,aT⟩
 replace gb:=bS gb aT
 obtain ⟨⟨z0,ae,af,ag,am,an,ah,ai,ak,au,aw⟩,⟨z1,aA,aB,aC,aD,aE,aF⟩,⟨z2,bt,bu,bG,bH⟩⟩:=al.out _ gb
 go_wp2_with fail
 have rt:=zeR ⟨aA,aB,aC,aD,aE,aF⟩ ⟨bt,bu,bG,bH⟩ (show w.heap.size+1≠w.heap.size+1+1 by omega) (.int .i64 0) (.int .i64 0) (.slice none 0 0) (.int .i64 0) (.int .i64 0)
 exact bodyPost_ret (zcd Try.results5 _ _ _ _ _ _ _ _ _ rfl rfl rt.1 rt.2) rfl ⟨rfl,bD (bT (bS zb gb) (by omega) _ _ _) (by omega) _ _⟩

theorem vm_run (c:Cd) (v u:Value) (xs:List Rt) (w:World) (hc:IsC w c v) (hs:zaV 4097 c.all) (hx:RdR w u xs) (hxs:∀ x ∈ xs,x.n.length<=4097/\x.d.length<=4097) (h1:zS c=true) (hl:(xs.length:Int)=c.ins) (hf:zaL 4097 (xs.map Rt.num) St.zero c.all) (o:Int) (ho:zci (xs.map Rt.num) St.zero c.all=o) :
  Calls Try.prog 5 #[aggC c v,u] w (zef w c (xs.map Rt.num) o):=by
 obtain ⟨ins,rows,cols,regs,all⟩:=c
 have h0:zbV ⟨ins,rows,cols,regs,all⟩=true:=by unfold zS at h1;simp only [Bool.and_eq_true] at h1;exact h1.1
 have ha:zaj ⟨ins,rows,cols,regs,all⟩ [] all=true:=by unfold zS at h1;simp only [Bool.and_eq_true] at h1;exact h1.2
 have hh:=h0
 unfold zbV at hh
 simp only [decide_eq_true_eq] at hh
 obtain ⟨N,rfl⟩:=Int.eq_ofNat_of_zero_le hh.2.2.2.2.2.1
 have hN1:N<=100000:=by omega
 have hin:xs.length<=40:=by have:(xs.length:Int)=ins:=hl;omega
 have hr:1<=rows/\rows<=40:=by omega
 have hcl:1<=cols/\cols<=40:=by omega
 have hlen:all.length<=100000:=hh.2.2.2.2.2.2.2
 have pb:=zbd hr hcl
 obtain ⟨M,hM⟩:=Int.eq_ofNat_of_zero_le (show 0<=rows*cols by omega)
 have hM1:1<=M/\M<=1600:=by omega
 have HM:IntKind.i64.wrap (rows*cols)=(M:Int):=by rw [IntWalk.i64_in _ (by omega),hM]
 obtain ⟨a1,n1,c1,rfl,H1,hm1⟩:=hx.open
 obtain rfl:ins=(n1:Int):=by rw [<- H1.out];exact hl.symm
 have hn1:n1<=40:=by have:=H1.out;omega
 have hn1':1<=n1:=by omega
 obtain ⟨a0,n0,c0,rfl,H0,hm0⟩:=hc.1.open
 have hn0:n0<=100000:=by have:all.length=n0:=H0.out;omega
 have Hs:Hid (zaV 4097 all):=hs
 have Hxs:=Lib.hid hxs
 have Ho:Hid (zci (xs.map Rt.num) St.zero all=o):=ho
 have Hf:Hid (zaL 4097 (xs.map Rt.num) St.zero all):=hf
 have Ha:=Lib.hid ha
 have Hrt:=Lib.hid h1
 have HMM:=Lib.hid hM
 clear hs hxs ho hf ha h1 h0 hh hl hM hlen pb
 obtain ⟨CL,hCL⟩:∃ CL,madeCells #[.bool false,.slice none 0 0,.slice none 0 0] (N*3)=CL:=⟨_,rfl⟩
 have hmk:∀ w':World,(Instr.makeSlice 32 (.int .i64 (N:Int)) (.int .i64 (N:Int))).run Try.prog w'=.ok (.slice (some ⟨w'.heap.size,0,none⟩) N N) (w'.alloc (.cells CL 25)):=fun w' => by
  obtain ⟨i0,hi0,hz0,hz1,hz2⟩:=info_parts (show (Try.prog.info? 25).map (fun i => (i.zero,i.size,i.bytes))=some (some (.agg #[.bool false,.slice none 0 0,.slice none 0 0]),3,56) by kernel_rfl)
  have:=run_make (P:=Try.prog) w' 32 25 i0 _ Try.underlying32 hi0 hz0 .i64 .i64 (N:Int) (N:Int) (by omega) (Int.le_refl _) (by rw [hz2];omega) (by omega)
  rw [this,hz1,<- hCL,Int.toNat_natCast];rfl
 have HCL:=Lib.hid hCL
 clear hCL
 go_enter Try.func5,Try.ntmps5
 go_wp2_with fail
 obtain ⟨W0,aq⟩:∃ W0,((w.alloc (.cells #[.int .i64 (n1:Int),.int .i64 rows,.int .i64 cols,.int .i64 (N:Int),.slice a0 n0 c0] 30)).alloc (.cells #[.int .i64 0,.int .i64 0,.slice none 0 0] 34)).alloc (.cells #[.int .i64 0,.int .i64 0] 36)=W0:=⟨_,rfl⟩
 have al:=Lib.hid (show ∀ W',Below W0.heap.size W0 W'->(Bx5 W' w.heap.size (.int .i64 (n1:Int)) (.int .i64 rows) (.int .i64 cols) (.int .i64 (N:Int)) (.slice a0 n0 c0)/\Bx3 W' (w.heap.size+1) (.int .i64 0) (.int .i64 0) (.slice none 0 0)/\Bx2 W' (w.heap.size+1+1) (.int .i64 0) (.int .i64 0)) from fun W' hb => by
   refine ⟨bx5 hb ?_ ?_ ?_ ?_ ?_ ?_ ?_ ?_ ?_ ?_,bx3 hb ?_ ?_ ?_ ?_ ?_ ?_,bx2 hb ?_ ?_ ?_ ?_⟩
   all_goals first|assumption|(rw [<- aq];simp [go_sem]))
 have zb:Below w.heap.size w W0:=by rw [<- aq];exact bS (bS (bN _ _) (bN _ _)) (bN _ _)
 rw [aq]
 clear aq
 have i0:=hc.to zb
 have i1:=hx.to zb
 have gb:Below W0.heap.size W0 W0:=Below.refl _ _
 obtain ⟨⟨z0,ae,af,ag,am,an,ah,ai,ak,au,aw⟩,⟨z1,aA,aB,aC,aD,aE,aF⟩,⟨z2,bt,bu,bG,bH⟩⟩:=al.out _ gb
 go_wp2_with fail
 refine (zbZ _ _ _ (i0.to gb) Hs.out true Hrt.out).mono ?_
 clear ae ah af ai ag ak am au an aw aA aD aB aE aC aF bt bG bu bH
 rintro e w1 ⟨rfl,aT⟩
 replace gb:=bS gb aT
 obtain ⟨⟨z0,ae,af,ag,am,an,ah,ai,ak,au,aw⟩,⟨z1,aA,aB,aC,aD,aE,aF⟩,⟨z2,bt,bu,bG,bH⟩⟩:=al.out _ gb
 go_wp2_with fail
 have gba:Below W0.heap.size W0 (w1.alloc (.cells CL 25)):=bS gb (bN _ _)
 obtain ⟨⟨az0,ax0_0,ax0_1,ax0_2,ax0_3,ax0_4,ay0_0,ay0_1,ay0_2,ay0_3,ay0_4⟩,⟨az1,ax1_0,ax1_1,ax1_2,ay1_0,ay1_1,ay1_2⟩,⟨az2,ax2_0,ax2_1,ay2_0,ay2_1⟩⟩:=al.out _ gba
 go_region
 clear gba ax0_0 ay0_0 ax0_1 ay0_1 ax0_2 ay0_2 ax0_3 ay0_3 ax0_4 ay0_4 ax1_0 ay1_0 ax1_1 ay1_1 ax1_2 ay1_2 ax2_0 ay2_0 ax2_1 ay2_1 az0 az1 az2
 obtain ⟨g,hg⟩:∃ g,w1.heap.size=g:=⟨_,rfl⟩
 obtain ⟨W1,aK⟩:∃ W1,((w1.alloc (.cells CL 25)).alloc (.cells #[.slice a1 n1 c1,.slice (some ⟨w1.heap.size,0,none⟩) N N,.int .i64 rows,.int .i64 cols,.slice none 0 0] 47)).drew=W1:=⟨_,rfl⟩
 have hbW:Below w1.heap.size w1 W1:=by rw [<- aK];exact (bS (bN _ _) (bN _ _)).drew
 have hB1:Below (g+1) (w1.alloc (.cells CL 25)) W1:=by
  have:=(bN (w1.alloc (.cells CL 25)) (.cells #[.slice a1 n1 c1,.slice (some ⟨w1.heap.size,0,none⟩) N N,.int .i64 rows,.int .i64 cols,.slice none 0 0] 47)).drew
  rw [aK,show (w1.alloc (.cells CL 25)).heap.size=g+1 by rw [<- hg];simp] at this
  exact this
 have hM0:zy W1 (g+1) g N (.slice a1 n1 c1) (.slice none 0 0) rows cols:=by
  rw [<- aK,<- hg]
  refine ⟨?_,?_,?_,?_,?_⟩ <;> simp [go_sem]
 have hF0:W1.frozen? ⟨g+1,4,none⟩=false:=by rw [<- aK,<- hg];simp [go_sem]
 have hR0:zL W1 g N (fun _ => False) (fun _ => 0):=by
  refine row3_new (t:=25) (cs:=CL) ?_ (fun r hr => by rw [<- HCL.out];exact made3 hr _ _ _) _
  rw [hB1.block g (by omega),<- hg]
  exact heap_alloc_new _ _
 have hgw:W0.heap.size<=g:=by rw [<- hg];exact gb.size
 rw [aK,hg]
 clear aK hB1 hmk
 clear ae ah af ai ag ak am au an aw aA aD aB aE aC aF bt bG bu bH
 have gb:=bS gb hbW
 clear hbW hg
 obtain ⟨⟨z0,ae,af,ag,am,an,ah,ai,ak,au,aw⟩,⟨z1,aA,aB,aC,aD,aE,aF⟩,⟨z2,bt,bu,bG,bH⟩⟩:=al.out _ gb
 go_wp2_with fail
 go_loopw [42] (fun i ww => ∃ (k:Nat) (vJ:Value),k<=M/\i=.int .i64 k/\Below (g+1) W1 ww/\zy ww (g+1) g N (.slice a1 n1 c1) vJ rows cols/\ww.frozen? ⟨g+1,4,none⟩=false/\zaF (g+1+1) ww vJ (List.replicate k 0)) (fun i _ => M - (intOf i).toNat)
 case atStart => exact ⟨0,.slice none 0 0,Nat.zero_le _,rfl,Below.refl _ _,hM0,hF0,zaF.nil _ _⟩
 case round =>
  clear ae ah af ai ag ak am au an aw aA aD aB aE aC aF bt bG bu bH
  clear hM0 hF0
  obtain ⟨k,vJ,hk,rfl,hbk,hMk,hFk,hOk⟩:=hrel
  have gbw:=gb.trans (hbk.mono (show W0.heap.size<=g+1 by omega))
  obtain ⟨aj,cj,hvj,hvo⟩:=hOk.form
  rw [List.length_replicate] at hvj
  subst hvj
  have hlk:=hMk.lt
  have hne:(Value.slice aj k cj).ownBlock≠some (g+1):=fun e => by have:=(hOk.lt _ e).1;omega
  obtain ⟨⟨z0,ae,af,ag,am,an,ah,ai,ak,au,aw⟩,⟨z1,aA,aB,aC,aD,aE,aF⟩,⟨z2,bt,bu,bG,bH⟩⟩:=al.out _ gbw
  obtain ⟨e0,e1,e2,e3,e4⟩:=hMk
  by_cases hkM:k<M
  ·have hki:(k:Int)<(M:Int):=by omega
   have HMk:=Lib.hid (show zy wr (g+1) g N (.slice a1 n1 c1) (.slice aj k cj) rows cols from ⟨e0,e1,e2,e3,e4⟩)
   obtain ⟨xs9,hxs⟩:=hOk.drew.len
   rw [List.length_replicate] at hxs
   obtain ⟨i0',hi0,hq0,hq1,hq2⟩:=info_parts (show (Try.prog.info? 25).map (fun i => (i.zero,i.size,i.bytes))=some (some (.agg #[.bool false,.slice none 0 0,.slice none 0 0]),3,56) by kernel_rfl)
   go_wp2_with fail
   go_region_law (first|(go_simp;go_at_call 10;(with_reducible refine (zfT 0 0 _ rfl (by decide) (by decide)).mono ?_);rintro e w2 ⟨ng2,a2_,n2_,c2_,p2_,m2_,k2_,rfl,g2,aL⟩;have hM2:=HMk.out.drew.to aL;obtain ⟨e0,e1,e2,e3,e4⟩:=hM2;have HMa:=Lib.hid (HMk.out.drew.to (bS aL (bN w2 (.cells #[.bool ng2,.slice a2_ n2_ c2_,.slice p2_ m2_ k2_] 25))));obtain ⟨f0,f1,f2,f3,f4⟩:=HMa.out;have hz2:wr.heap.size<=w2.heap.size:=aL.size;have hFa:=((bS aL (bN w2 (.cells #[.bool ng2,.slice a2_ n2_ c2_,.slice p2_ m2_ k2_] 25))).frozen (p:=⟨g+1,4,none⟩) (show g+1<wr.drew.heap.size from hlk)).trans (show wr.drew.frozen? ⟨g+1,4,none⟩=false from hFk))|(refine step_append_lies _ rfl (.tmp 49) (.tmp 51) 32 rfl (g+1+1) 25 i0' (.agg #[.bool false,.slice none 0 0,.slice none 0 0]) 3 56 Try.underlying32 hi0 hq0 hq1 hq2 (by rfl) (by decide) (.slice aj k cj) k xs9 rfl (zbD (zbD hxs aL) (bN _ _)) ⟨w2.heap.size,0,none⟩ 1 1 _ rfl rfl zjx push_one (by decide) (by simp [maxLen];omega) (by omega) (by simp;omega) _ rfl ?_;intro g4 cj4 w4 hown4 hgrow4 hat4 hlt4;have hF4:=(hgrow4.frozen_far ⟨g+1,4,none⟩ (show g+1<_ from HMa.out.lt) (fun e => hne e.symm)).trans hFa;have HM4:=Lib.hid (HMa.out.grown hgrow4 hne);obtain ⟨e0,e1,e2,e3,e4⟩:=HM4.out))
   all_goals
    have hp:=zjw (List.length_replicate ..) hOk.drew hxs aL g2 (show g+1+1<=wr.heap.size by omega) hown4 hgrow4 hat4
    have hne4:(Value.slice (some ⟨g4,0,none⟩) (k+1) cj4).ownBlock≠some (g+1):=fun e => by have:=(World.ownsRow.lt hown4 _ e).1;omega
    have hO5:=hp.1.setB hne4 HM4.out.2.2.2.2 (.slice (some ⟨g4,0,none⟩) (k+1) cj4)
    have c9:Below (g+1) W1 (w4.setCell ⟨g+1,4,none⟩ (.slice (some ⟨g4,0,none⟩) (k+1) cj4)):=(hbk.drew.trans (hp.2.mono (by omega))).setCell (Nat.le_refl _) _
    have hM5:=HM4.out.setJ (.slice (some ⟨g4,0,none⟩) (k+1) cj4)
    have hF5:(w4.setCell ⟨g+1,4,none⟩ (.slice (some ⟨g4,0,none⟩) (k+1) cj4)).frozen? ⟨g+1,4,none⟩=false:=by simp [go_sem,hF4]
    have hO6:zaF (g+1+1) (w4.setCell ⟨g+1,4,none⟩ (.slice (some ⟨g4,0,none⟩) (k+1) cj4)) (.slice (some ⟨g4,0,none⟩) (k+1) cj4) (List.replicate (k+1) 0):=by rw [List.replicate_succ'];exact hO5
    clear e0 e1 e2 e3 e4 f0 f1 f2 f3 f4
    clear ae ah af ai ag ak am au an aw aA aD aB aE aC aF bt bG bu bH
    obtain ⟨w5,hw5⟩:∃ w5,w4.setCell ⟨g+1,4,none⟩ (.slice (some ⟨g4,0,none⟩) (k+1) cj4)=w5:=⟨_,rfl⟩
    rw [hw5] at c9 hM5 hF5 hO6
    rw [hw5]
    clear hw5 hO5 hp hF4 hFa
    go_wp2_with fail
    go_roundw
    case rel => exact ⟨k+1,_,by omega,by go_num,c9,hM5,hF5,hO6⟩
    case measure => simp [intOf] <;> omega
  ·obtain rfl:k=M:=by omega
   have hki:¬ ((k:Int)<(k:Int)):=by omega
   obtain ⟨h,rfl,hgh,hhs⟩:=hvo (by rw [List.length_replicate];omega)
   obtain ⟨nB,hnB⟩:∃ nB,wr.heap.size=nB:=⟨_,rfl⟩
   have hrow:zL wr g N (fun r => (r:Int) ∈ ([]:List Int)) (fun r => St.zero.R r):=(hR0.low (R':=fun r => St.zero.R r) hbk (by omega)).cast (fun r hr hp => by cases hp)
   have hOl:(List.replicate k (0:Rat)).length=k:=List.length_replicate
   have hrowJ:zL wr h k (fun _ => True) (fun i => St.zero.J i):=by
    have hO':zaF (g+1+1) wr (.slice (some ⟨h,0,none⟩) (List.replicate k (0:Rat)).length cj) (List.replicate k 0):=by rw [hOl];exact hOk
    have:=hO'.row3
    rw [hOl] at this
    exact this.cast (fun r hr _ => ⟨trivial,by simp [hr,St.zero]⟩)
   have hcjm:k<=cj/\cj<=maxLen:=by
    obtain ⟨xs9,h9,_⟩:=hOk
    rcases h9.2 with ⟨h9,_⟩|⟨_,_,_,h9,_,_,q1,q2,_⟩
    ·cases h9
    ·injection h9 with q3 q4 q5
     subst q5
     rw [hOl] at q1
     exact ⟨q1,q2⟩
   have hMW:zy wr (g+1) g N (.slice a1 n1 c1) (.slice (some ⟨h,0,none⟩) k cj) rows cols:=⟨e0,e1,e2,e3,e4⟩
   have hn2:Below wr.heap.size wr (wr.alloc (.cells #[.int .i64 0,.int .i64 0] 36)):=bN _ _
   have REL0:zbi W0 (wr.alloc (.cells #[.int .i64 0,.int .i64 0] 36)) g h nB N k cj (.slice a1 n1 c1) rows cols [] St.zero :=
    ⟨⟨bS gbw hn2,hMW.to hn2⟩,hrow.to hn2,hrowJ.to hn2,by rw [<- hnB];exact zC _ _ _ _,hgw,by omega,by omega⟩
   have HnB:=Lib.hid hnB
   clear hvo hrow hrowJ hMW hR0 hFk hne hbk hki hnB
   go_wp2_with fail
   obtain ⟨W2,dX⟩:∃ W2,wr.alloc (.cells #[.int .i64 0,.int .i64 0] 36)=W2:=⟨_,rfl⟩
   rw [dX] at REL0 hn2
   rw [HnB.out,dX]
   clear dX e0 e1 e2 e3 e4
   go_loopw [61] (fun i ww => ∃ (m:Nat) (L:List Int) (s:St),m<=n0/\i=.int .i64 m/\zbi W0 ww g h nB N k cj (.slice a1 n1 c1) rows cols L s/\Hid (zaj ⟨(n1:Int),rows,cols,(N:Int),all⟩ L (all.drop m)=true)/\Hid (zci (xs.map Rt.num) s (all.drop m)=o) /\
     Hid (zbg (xs.map Rt.num) s (all.drop m)=zbg (xs.map Rt.num) St.zero all)/\Hid (zaL 4097 (xs.map Rt.num) s (all.drop m))/\Hid (∀ x ∈ L,0<=x/\x<(N:Int))/\Hid (0<=s.t/\s.t<=(m:Int)/\s.k=(m:Int))) (fun i _ => n0 - (intOf i).toNat)
   case atStart => exact ⟨0,[],St.zero,Nat.zero_le _,rfl,REL0,by rw [List.drop_zero];exact Ha.out,by rw [List.drop_zero];exact Ho.out,by rw [List.drop_zero];rfl,by rw [List.drop_zero];exact Hf.out,fun x hx => (by cases hx),⟨by decide,by decide,rfl⟩⟩
   case round =>
    clear ae ah af ai ag ak am au an aw aA aD aB aE aC aF bt bG bu bH
    clear REL0 hn2 gbw
    obtain ⟨m,L,s,hm,rfl,REL,HA,HE,HS,HF,HL,HT⟩:=hrel
    have gbw:=REL.1.1
    obtain ⟨⟨z0,ae,af,ag,am,an,ah,ai,ak,au,aw⟩,⟨z1,aA,aB,aC,aD,aE,aF⟩,⟨z2,bt,bu,bG,bH⟩⟩:=al.out _ gbw
    by_cases hmn:m<n0
    ·have hmi:(m:Int)<(n0:Int):=by omega
     have hml:m<all.length:=by have:all.length=n0:=H0.out;omega
     obtain ⟨b,off,rfl,h7⟩:=(i0.to gbw).1.nth hml
     have HA1:=HA.out
     rw [zcL hml] at HA1
     have HE1:=HE.out
     rw [zjH hml] at HE1
     have HS1:=HS.out
     rw [zjI hml] at HS1
     have HF1:=zhJ hml HF.out
     have hsx:=Hs.out _ (List.getElem_mem hml)
     simp only at h7
     obtain ⟨x,hx9⟩:∃ x,all[m]=x:=⟨_,rfl⟩
     rw [hx9] at HA1 HE1 HS1 HF1 hsx h7
     obtain ⟨hok,hA1⟩:=(Bool.and_eq_true _ _).mp HA1
     obtain ⟨vn,vd,s0,s1,s2,s3,s4,s5,s6,hX⟩:=h7.isX hsx.1 hsx.2
     obtain ⟨a5,n5,c5,rfl,H5,hm5⟩:=hX.1.1.open
     obtain ⟨a6,n6,c6,rfl,H6,hm6⟩:=hX.1.2.1.open
     have HX1:=Lib.hid hX
     have Hok:=Lib.hid hok
     have HA2:=Lib.hid hA1
     have HE2:=Lib.hid HE1
     have HS2:=Lib.hid HS1
     have HF2:=Lib.hid HF1
     have HREL:=Lib.hid REL
     clear HA HA1 HE HE1 HS HS1 HF HF1 hok hA1 h7 hsx hx9 hX REL
     go_wp2_with fail
     clear s0 s1 s2 s3 s4 s5 s6
     obtain ⟨W3,iK⟩:∃ W3,wr.alloc (.cells #[.int .i64 x.op,.int .i64 x.to,.int .i64 x.a,.int .i64 x.b,.bool x.q.ng,.slice a5 n5 c5,.slice a6 n6 c6] 27)=W3:=⟨_,rfl⟩
     obtain ⟨xB,hxB⟩:∃ xB,wr.heap.size=xB:=⟨_,rfl⟩
     have bM:Below wr.heap.size wr W3:=by rw [<- iK];exact bN _ _
     have hq0:W3.cell? ⟨xB,0,none⟩=some (.int .i64 x.op):=by rw [<- iK,<- hxB];simp [go_sem]
     have hbn:nB<xB:=by rw [<- hxB];exact HREL.out.2.2.2.1.lt
     have hsz:xB<W3.heap.size:=by rw [<- iK,<- hxB];simp
     rw [iK,hxB]
     clear iK
     clear ae ah af ai ag ak am au an aw aA aD aB aE aC aF bt bG bu bH
     have gb3:=bS gbw bM
     clear hxB
     obtain ⟨z,hz9⟩:∃ z,zB (xs.map Rt.num) s.R x=z:=⟨_,rfl⟩
     have hrl:=HREL.out.2.2.2.2
     have hhg:h≠g:=by omega
     refine (vm_step ⟨(n1:Int),rows,cols,(N:Int),all⟩ L s.R s.J x.op x.to x.a x.b x.q.ng _ _ x.q.n x.q.d (g+1) g N h k cj n1 c1 a1 rows cols xs W3 (HX1.out.to bM) Hok.out HL.out rfl rfl HMM.out (HREL.out.to bM).1.2 hN1 (by omega) (HREL.out.to bM).2.1 (HREL.out.to bM).2.2.1 hhg (by omega) ((i1.to gbw).to bM) H1.out hm1 Hxs.out HF2.out.1).mono ?_
     intro e w6 hpost0
     have hpost:zai W3 g h x.op x.to z (opV (xs.map Rt.num) s.R x) e w6:=by rw [<- hz9];exact hpost0
     clear hpost0
     rcases hpost with ⟨hz0,rfl,ef⟩|⟨hz0,hT6⟩
     ·have gb6:=bS gb3 ef
      have t:(z != 0)=true:=by simp;exact hz0
      have HE3:=HE2.out
      rw [hz9,if_pos hz0] at HE3
      have Hz9:=Lib.hid hz0
      clear hz9 hz0
      obtain ⟨⟨z0,ae,af,ag,am,an,ah,ai,ak,au,aw⟩,⟨z1,aA,aB,aC,aD,aE,aF⟩,⟨z2,bt,bu,bG,bH⟩⟩:=al.out _ gb6
      subst HE3
      go_wp2_with fail
      have gb:=gb6
      have rt:=zeR ⟨aA,aB,aC,aD,aE,aF⟩ ⟨bt,bu,bG,bH⟩ (show w.heap.size+1≠w.heap.size+1+1 by omega) (.int .i64 0) (.int .i64 0) (.slice none 0 0) (.int .i64 0) (.int .i64 0)
      exact bodyPost_ret (zcd Try.results5 _ _ _ _ _ _ _ _ _ rfl rfl rt.1 rt.2) rfl (.inl ⟨Hz9.out,⟨rfl,bD (bT (bS zb gb) (by omega) _ _ _) (by omega) _ _⟩⟩)
     ·obtain ⟨rfl,REL6,hcells,hsize⟩:=zbi.step x rfl rfl (HREL.out.to bM) Hok.out (C:=⟨(n1:Int),rows,cols,(N:Int),all⟩) rfl HMM.out hT6
      have gb6:=REL6.1.1
      have hk9:s.k=(m:Int):=HT.out.2.2
      obtain ⟨tt,htt⟩:∃ tt,s.t=tt:=⟨_,rfl⟩
      have hD:Duo w6 nB (.int .i64 (m:Int)) (.int .i64 tt):=by rw [<- hk9,<- htt];exact REL6.2.2.2.1
      have hq6:=hcells xB 0 _ hq0 (by omega) (by omega)
      have htb:=HT.out.1
      have htc:=HT.out.2.1
      rw [htt] at htb htc
      have hne1:nB≠xB:=by omega
      have hne2:xB≠nB:=by omega
      obtain ⟨d0,d1,d2,d3⟩:=hD
      have HREL6:=Lib.hid REL6
      have hA2:=HA2.out
      have hz1:zB (xs.map Rt.num) s.R x=0:=by rw [hz9];exact hz0
      have HE3:Hid (zci (xs.map Rt.num) (s.next (xs.map Rt.num) x) (all.drop (m+1))=o):=by have:=HE2.out;rw [if_neg (by rw [hz1];decide)] at this;exact this
      have HF3:Hid (zaL 4097 (xs.map Rt.num) (s.next (xs.map Rt.num) x) (all.drop (m+1))):=HF2.out.2 hz1
      have HL3:Hid (∀ y ∈ more L x,0<=y/\y<(N:Int)):=more_in (c:=⟨(n1:Int),rows,cols,(N:Int),all⟩) HL.out Hok.out
      have HA3:=Lib.hid hA2
      have Hk9:=Lib.hid hk9
      have Htt:=Lib.hid htt
      have hsum:IntKind.i64.wrap (tt+1)=tt+1:=IntWalk.i64_in _ (by omega)
      clear REL6 hcells hT6 hz9 hz0 hz1 hA2 hk9 htt hq0
      by_cases h8:x.op=8
      ·have t:(x.op == 8)=true:=by simp;exact h8
       have H8:=Lib.hid h8
       have HT3:Hid (0<=(s.next (xs.map Rt.num) x).t/\(s.next (xs.map Rt.num) x).t<=((m+1:Nat):Int)/\(s.next (xs.map Rt.num) x).k=((m+1:Nat):Int)):=by
        show _/\_/\_
        rw [zcy.1,zcy.2,if_pos h8,Hk9.out,Htt.out];omega
       clear h8
       go_wp2_with fail
       go_roundw
       case rel => exact ⟨m+1,more L x,s.next (xs.map Rt.num) x,by omega,by go_num,by rw [<- next_eq2 (p:=xs.map Rt.num) Hk9.out Htt.out H8.out];exact (HREL6.out.count ((m:Int)+1)).times (tt+1),HA3,HE3,HS2,HF3,HL3,HT3⟩
       case measure => simp [intOf] <;> omega
      ·have t:(x.op == 8)=false:=by simp;exact h8
       have H8:=Lib.hid h8
       have HT3:Hid (0<=(s.next (xs.map Rt.num) x).t/\(s.next (xs.map Rt.num) x).t<=((m+1:Nat):Int)/\(s.next (xs.map Rt.num) x).k=((m+1:Nat):Int)):=by
        show _/\_/\_
        rw [zcy.1,zcy.2,if_neg h8,Hk9.out,Htt.out];omega
       clear h8
       go_wp2_with fail
       go_roundw
       case rel => exact ⟨m+1,more L x,s.next (xs.map Rt.num) x,by omega,by go_num,by rw [<- next_eq1 (p:=xs.map Rt.num) Hk9.out H8.out];exact HREL6.out.count ((m:Int)+1),HA3,HE3,HS2,HF3,HL3,HT3⟩
       case measure => simp [intOf] <;> omega
    ·obtain rfl:m=n0:=by omega
     have ho:0=o:=by
      have:=HE.out
      rw [<- show all.length=m from H0.out,List.drop_length] at this
      exact this
     subst ho
     have hS:s=zbg (xs.map Rt.num) St.zero all:=by
      have:=HS.out
      rw [<- show all.length=m from H0.out,List.drop_length] at this
      exact this
     have HREL:=Lib.hid REL
     have HSS:=Lib.hid hS
     obtain ⟨⟨_,e0,e1,e2,e3,e4⟩,_,_,⟨d0,d1,d2,d3⟩,_⟩:=REL
     obtain ⟨sk,hsk⟩:∃ z,s.k=z:=⟨_,rfl⟩
     obtain ⟨st,hst⟩:∃ z,s.t=z:=⟨_,rfl⟩
     rw [hsk] at d0
     rw [hst] at d1
     have Hsk:=Lib.hid hsk
     have Hst:=Lib.hid hst
     clear hS hsk hst
     go_wp2_with fail
     go_region
     have HR9:=Lib.hid (show zef w ⟨(n1:Int),rows,cols,(N:Int),all⟩ (xs.map Rt.num) 0 (.returned (.tuple #[.agg #[.int .i64 rows,.int .i64 cols,.slice (some ⟨h,0,none⟩) k cj],.agg #[.int .i64 sk,.int .i64 st],.int .i64 0]))
       (zeS (zbE wr (w.heap.size+1) (.int .i64 rows) (.int .i64 cols) (.slice (some ⟨h,0,none⟩) k cj)) (w.heap.size+1+1) (.int .i64 sk) (.int .i64 st)).drew from by
      refine .inr ⟨rfl,_,_,_,by rw [<- Hsk.out,<- Hst.out,HSS.out],?_,(fun b o e => by have hrl:=HREL.out.2.2.2.2;have hz:=zb.size;injection e with e;injection e with e1 e2;omega),(bD (bT (bS zb gbw) (by omega) _ _ _) (by omega) _ _).drew⟩
      have hrl:=HREL.out.2.2.2.2
      have r1:=HREL.out.2.2.1
      have r2:=(((r1.setP (B:=w.heap.size+1) (by omega) aA (fun z e => by cases e) (.int .i64 rows)).setP (B:=w.heap.size+1) (by omega) (cP aB (.inr (by decide)) _) (fun z e => by cases e) (.int .i64 cols)).setP (B:=w.heap.size+1) (by omega) (cP (cP aC (.inr (by decide)) _) (.inr (by decide)) _) (fun z e => by cases e) (.slice (some ⟨h,0,none⟩) k cj))
      have r3:=((r2.setP (B:=w.heap.size+1+1) (by omega) (cP (cP (cP bt (.inl (by omega)) _) (.inl (by omega)) _) (.inl (by omega)) _) (fun z e => by cases e) (.int .i64 sk)).setP (B:=w.heap.size+1+1) (by omega) (cP (cP (cP (cP bu (.inl (by omega)) _) (.inl (by omega)) _) (.inl (by omega)) _) (.inr (by decide)) _) (fun z e => by cases e) (.int .i64 st))
      have r4:=zhI (r3.to (Below.refl _ _).drew) HMM.out hcjm.1 hcjm.2
      have e9:(zbg (xs.map Rt.num) St.zero all).J=s.J:=by rw [<- HSS.out]
      show RdR _ _ ((zfH rows cols (zbg (xs.map Rt.num) St.zero all).J).map zI)
      rw [e9]
      exact r4)
     have rt:=zeR ⟨aA,aB,aC,aD,aE,aF⟩ ⟨bt,bu,bG,bH⟩ (show w.heap.size+1≠w.heap.size+1+1 by omega) (.int .i64 rows) (.int .i64 cols) (.slice (some ⟨h,0,none⟩) k cj) (.int .i64 sk) (.int .i64 st)
     go_wp2_with fail
     exact bodyPost_ret (zcd Try.results5 _ _ _ _ _ _ _ _ _ rfl rfl (rt.1.drew) (rt.2.drew)) rfl HR9.out

end Go.Proofs.Ytkjcdnlpjldhaaa


namespace Go.Proofs.Ytkjcdnlpjldhaaa
open Go.RowKit Tw

def RunJ (w:World) (rows cols:Int) (qs:List Rat) (k t o:Int) (e:Ending) (w':World):Prop :=
 ∃ a n c,e=.returned (.tuple #[.agg #[.int .i64 rows,.int .i64 cols,.slice a n c],.agg #[.int .i64 k,.int .i64 t],.int .i64 o])/\RdR w' (.slice a n c) (qs.map zI)/\(∀ b o,a=some ⟨b,o,none⟩->w.heap.size<=b)/\Below w.heap.size w w'

def runO (c:Cd) (p:List Rat) (n:Nat):Int:=if zS c=false then 11 else if (n:Int)≠c.ins then 8 else zci p St.zero c.all

def zeA (c:Cd) (o:Int):Int:=if o=0 then c.rows else 0

def zez (c:Cd) (o:Int):Int:=if o=0 then c.cols else 0

def jAll (c:Cd) (p:List Rat) (o:Int):List Rat:=if o=0 then zfH c.rows c.cols (zbg p St.zero c.all).J else []

def jK (c:Cd) (p:List Rat) (o:Int):Int:=if o=0 then (zbg p St.zero c.all).k else 0

def jT (c:Cd) (p:List Rat) (o:Int):Int:=if o=0 then (zbg p St.zero c.all).t else 0

abbrev zgs (w:World) (c:Cd) (p:List Rat) (o:Int):=RunJ w (zeA c o) (zez c o) (jAll c p o) (jK c p o) (jT c p o) o

theorem RdR.nil (w:World):RdR w (.slice none 0 0) []:=⟨none,0,rfl,Nat.le_refl _,Nat.zero_le _,fun i h => absurd h (by simp)⟩

theorem NoJ.runOf {w:World} {c:Cd} {p:List Rat} {o:Int} {e:Ending} {w':World} (h:NoJ w o e w') (ho:o≠0):zgs w c p o e w':=by
 unfold zgs zeA zez jAll jK jT
 rw [if_neg ho,if_neg ho,if_neg ho,if_neg ho,if_neg ho]
 exact ⟨none,0,0,h.1,RdR.nil _,(fun b o e => (by cases e)),h.2⟩

theorem zef.runOf {w:World} {c:Cd} {p:List Rat} {o:Int} {e:Ending} {w':World} (h:zef w c p o e w'):zgs w c p o e w':=by
 rcases h with ⟨ho,h⟩|⟨rfl,h⟩
 ·exact h.runOf ho
 ·obtain ⟨a,n,c',h1,h2,h3,h4⟩:=h
  exact ⟨a,n,c',h1,h2,h3,h4⟩

theorem zdl (c:Cd) (v u:Value) (xs:List Rt) (w:World) (hc:IsC w c v) (hs:zaV 4097 c.all) (hx:RdR w u xs)
  (hf:zS c=true->(xs.length:Int)=c.ins->(∀ x ∈ xs,x.n.length<=4097/\x.d.length<=4097)/\zaL 4097 (xs.map Rt.num) St.zero c.all) (o:Int) (ho:runO c (xs.map Rt.num) xs.length=o) :
  Calls Try.prog 5 #[aggC c v,u] w (zgs w c (xs.map Rt.num) o):=by
 unfold runO at ho
 cases h0:zS c with
 | false =>
  rw [if_pos h0] at ho
  subst ho
  exact (zhp c v u xs w hc hs hx h0).mono fun e w' h => h.runOf (by decide)
 | true =>
  rw [if_neg (by rw [h0];decide)] at ho
  by_cases hl:(xs.length:Int)=c.ins
  ·rw [if_neg (fun k => k hl)] at ho
   have:=hf h0 hl
   exact (vm_run c v u xs w hc hs hx this.1 h0 hl this.2 o ho).mono fun e w' h => h.runOf
  ·rw [if_pos hl] at ho
   subst ho
   exact (zgm c v u xs w hc hs hx h0 hl).mono fun e w' h => h.runOf (by decide)

theorem RdR.setP {w:World} {a:Option Addr} {n c:Nat} {l:List Rt} (h:RdR w (.slice a n c) l) {B p:Nat} (hne:∀ b o,a=some ⟨b,o,none⟩->b≠B) {c0:Value} (hc:w.cell? ⟨B,p,none⟩=some c0) (hn:∀ z,c0≠.int .u32 z) (x:Value):RdR (w.setCell ⟨B,p,none⟩ x) (.slice a n c) l:=by
 obtain ⟨a',cap,hv,h1,h2,h3⟩:=h
 injection hv with e1 e2 e3
 subst e1 e3
 refine ⟨a,c,by rw [e2],h1,h2,fun i hi => ?_⟩
 obtain ⟨b,off,e,vn,vd,s0,s1,s2,k1,k2⟩:=h3 i hi
 have hb:=hne b off e
 exact ⟨b,off,e,vn,vd,cP s0 (.inl hb) _,cP s1 (.inl hb) _,cP s2 (.inl hb) _,k1.put hc hn x,k2.put hc hn x⟩

theorem Duo.alloc0 {w:World} {B:Nat} {x y:Value} {o:Obj} (h:Duo w B x y):Duo (w.alloc o) B x y:=h.alloc o

def JK (W:World) (rows cols:Int) (qs:List Rat) (k t:Int) (s2 s3:Value) (wx:World):Prop :=
 ∃ BJ BK a n c,s2=.pointer (some ⟨BJ,0,none⟩)/\s3=.pointer (some ⟨BK,0,none⟩)/\W.heap.size<=BJ/\W.heap.size<=BK/\Tri wx BJ (.int .i64 rows) (.int .i64 cols) (.slice a n c)/\Duo wx BK (.int .i64 k) (.int .i64 t)/\RdR wx (.slice a n c) (qs.map zI)/\Below W.heap.size W wx

theorem zbl {W U:World} {BJ BK:Nat} {a:Option Addr} {n c:Nat} {rows cols k t:Int} {qs:List Rat} {lo hi:Nat} (t1:Tri U BJ (.int .i64 0) (.int .i64 0) (.slice none 0 0)) (t2:Duo U BK (.int .i64 0) (.int .i64 0)) (hne:BJ≠BK) (hr:RdR U (.slice a n c) (qs.map zI))
  (hlo:∀ b o,a=some ⟨b,o,none⟩->lo<=b) (hhi:∀ b o,a=some ⟨b,o,none⟩->0<n->b<hi) (h1:BJ<lo\/hi<=BJ) (h2:BK<lo\/hi<=BK) (hb:Below W.heap.size W U) (w1:W.heap.size<=BJ) (w2:W.heap.size<=BK) :
  JK W rows cols qs k t (.pointer (some ⟨BJ,0,none⟩)) (.pointer (some ⟨BK,0,none⟩)) (zeS (zbE U BJ (.int .i64 rows) (.int .i64 cols) (.slice a n c)) BK (.int .i64 k) (.int .i64 t)):=by
 have rt:=zeR t1 t2 hne (.int .i64 rows) (.int .i64 cols) (.slice a n c) (.int .i64 k) (.int .i64 t)
 refine ⟨BJ,BK,a,n,c,rfl,rfl,w1,w2,rt.1,rt.2,?_,bD (bT hb w1 _ _ _) w2 _ _⟩
 rcases Nat.eq_zero_or_pos n with h0|h0
 ·obtain ⟨a',cap,hv,q1,q2,q3⟩:=hr
  injection hv with e1 e2 e3
  exact ⟨a,c,by rw [e2],by rw [e3];exact q1,by rw [e3];exact q2,fun i hi => by omega⟩
 ·have nJ:∀ b o,a=some ⟨b,o,none⟩->b≠BJ:=fun b o e => by have:=hlo b o e;have:=hhi b o e h0;omega
  have nK:∀ b o,a=some ⟨b,o,none⟩->b≠BK:=fun b o e => by have:=hlo b o e;have:=hhi b o e h0;omega
  have r1:=((hr.setP nJ t1.1 (fun z e => by cases e) (.int .i64 rows)).setP nJ (cP t1.2.1 (.inr (by decide)) _) (fun z e => by cases e) (.int .i64 cols)).setP nJ (cP (cP t1.2.2.1 (.inr (by decide)) _) (.inr (by decide)) _) (fun z e => by cases e) (.slice a n c)
  have m:BK≠BJ:=Ne.symm hne
  exact (r1.setP nK (cP (cP (cP t2.1 (.inl m) _) (.inl m) _) (.inl m) _) (fun z e => by cases e) (.int .i64 k)).setP nK (cP (cP (cP (cP t2.2.1 (.inl m) _) (.inl m) _) (.inl m) _) (.inr (by decide)) _) (fun z e => by cases e) (.int .i64 t)

section

variable {W w2:World} {BJ BK:Nat} {a:Option Addr} {n c:Nat} {rows cols k t:Int} {qs:List Rat} {lo hi:Nat} {tj tk:TypeId}

theorem zfL (t1:Tri w2 BJ (.int .i64 0) (.int .i64 0) (.slice none 0 0)) (hr:RdR w2 (.slice a n c) (qs.map zI)) (hlo:∀ b o,a=some ⟨b,o,none⟩->lo<=b) (h1:BJ<lo) (hb:Below W.heap.size W w2) (w1:W.heap.size<=BJ) :
  JK W rows cols qs k t (.pointer (some ⟨BJ,0,none⟩)) (.pointer (some ⟨w2.heap.size,0,none⟩)) ((zbE w2 BJ (.int .i64 rows) (.int .i64 cols) (.slice a n c)).alloc (.cells #[.int .i64 k,.int .i64 t] tk)):=by
 have nJ:∀ b o,a=some ⟨b,o,none⟩->b≠BJ:=fun b o e => by have:=hlo b o e;omega
 have r1:=((hr.setP nJ t1.1 (fun z e => by cases e) (.int .i64 rows)).setP nJ (cP t1.2.1 (.inr (by decide)) _) (fun z e => by cases e) (.int .i64 cols)).setP nJ (cP (cP t1.2.2.1 (.inr (by decide)) _) (.inr (by decide)) _) (fun z e => by cases e) (.slice a n c)
 have d:=zC (zbE w2 BJ (.int .i64 rows) (.int .i64 cols) (.slice a n c)) (.int .i64 k) (.int .i64 t) tk
 rw [zfu] at d
 exact ⟨BJ,w2.heap.size,a,n,c,rfl,rfl,w1,hb.size,(t1.set _ _ _).alloc _,d,r1.to (bN _ _),bS (bT hb w1 _ _ _) (bN _ _)⟩

theorem zjL (w:World) (B:Nat) (x y:Value):(zeS w B x y).heap.size=w.heap.size:=by simp

theorem zfK (t2:Duo w2 BK (.int .i64 0) (.int .i64 0)) (hr:RdR w2 (.slice a n c) (qs.map zI)) (hlo:∀ b o,a=some ⟨b,o,none⟩->lo<=b) (h1:BK<lo) (hb:Below W.heap.size W w2) (w1:W.heap.size<=BK) :
  JK W rows cols qs k t (.pointer (some ⟨w2.heap.size,0,none⟩)) (.pointer (some ⟨BK,0,none⟩)) ((zeS w2 BK (.int .i64 k) (.int .i64 t)).alloc (.cells #[.int .i64 rows,.int .i64 cols,.slice a n c] tj)):=by
 have nK:∀ b o,a=some ⟨b,o,none⟩->b≠BK:=fun b o e => by have:=hlo b o e;omega
 have r1:=(hr.setP nK t2.1 (fun z e => by cases e) (.int .i64 k)).setP nK (cP t2.2.1 (.inr (by decide)) _) (fun z e => by cases e) (.int .i64 t)
 have d:=zd (zeS w2 BK (.int .i64 k) (.int .i64 t)) (.int .i64 rows) (.int .i64 cols) (.slice a n c) tj
 rw [zjL] at d
 exact ⟨w2.heap.size,BK,a,n,c,rfl,rfl,hb.size,w1,d,(t2.set _ _).alloc0,r1.to (bN _ _),bS (bD hb w1 _ _) (bN _ _)⟩

theorem jk_new2 (hr:RdR w2 (.slice a n c) (qs.map zI)) (hb:Below W.heap.size W w2) :
  JK W rows cols qs k t (.pointer (some ⟨w2.heap.size,0,none⟩)) (.pointer (some ⟨w2.heap.size+1,0,none⟩)) ((w2.alloc (.cells #[.int .i64 rows,.int .i64 cols,.slice a n c] tj)).alloc (.cells #[.int .i64 k,.int .i64 t] tk)) :=
 ⟨_,_,a,n,c,rfl,rfl,hb.size,Nat.le_succ_of_le hb.size,(zd _ _ _ _ _).alloc _,zaR _ _ _ _ _,hr.to (bS (bN _ _) (bN _ _)),bS (bS hb (bN _ _)) (bN _ _)⟩

theorem jk_new2' (hr:RdR w2 (.slice a n c) (qs.map zI)) (hb:Below W.heap.size W w2) :
  JK W rows cols qs k t (.pointer (some ⟨w2.heap.size+1,0,none⟩)) (.pointer (some ⟨w2.heap.size,0,none⟩)) ((w2.alloc (.cells #[.int .i64 k,.int .i64 t] tk)).alloc (.cells #[.int .i64 rows,.int .i64 cols,.slice a n c] tj)) :=
 ⟨_,_,a,n,c,rfl,rfl,Nat.le_succ_of_le hb.size,hb.size,zad _ _ _ _ _ _,(zC _ _ _ _).alloc0,hr.to (bS (bN _ _) (bN _ _)),bS (bS hb (bN _ _)) (bN _ _)⟩

end

theorem RdR.hi {w:World} {a:Option Addr} {n c:Nat} {l:List Rt} (h:RdR w (.slice a n c) l):∀ b o,a=some ⟨b,o,none⟩->0<n->b<w.heap.size:=fun b o e hn => by
 obtain ⟨a',cap,hv,q1,q2,q3⟩:=h
 injection hv with e1 e2 e3
 obtain ⟨b',off,e',k⟩:=q3 0 (by omega)
 rw [<- e1,e] at e'
 injection e' with e'
 injection e' with e' _
 obtain ⟨_,_,s0,_⟩:=k
 have:=zj s0
 omega

theorem zeo {w:World} {B:Nat} {ng:Bool} {v u:Value} {q:Rat} (h:Tri w B (.bool ng) v u) (hk:IsK w ng v u q):RdR w (.slice (some ⟨B,0,none⟩) 1 1) [zI q]:=by
 refine ⟨_,1,rfl,Nat.le_refl _,by decide,fun i hi => ?_⟩
 have:i=0:=by simp at hi;exact hi
 subst this
 refine ⟨B,0,rfl,v,u,?_,h.2.1,h.2.2.1,hk.1.1,hk.1.2.1⟩
 rw [show ([zI q][0]).ng=ng from hk.2]
 exact h.1

theorem zeV (w:World) (o o':Obj) (x y z:Value) (t:TypeId):Tri (((w.alloc o).alloc o').alloc (.cells #[x,y,z] t)) (w.heap.size+1+1) x y z:=by
 have h:=zd ((w.alloc o).alloc o') x y z t
 rwa [show ((w.alloc o).alloc o').heap.size=w.heap.size+1+1 by simp] at h

theorem zgA (w:World) (o o':Obj) (x y:Value) (t:TypeId):Duo (((w.alloc o).alloc o').alloc (.cells #[x,y] t)) (w.heap.size+1+1) x y:=by
 have h:=zC ((w.alloc o).alloc o') x y t
 rwa [show ((w.alloc o).alloc o').heap.size=w.heap.size+1+1 by simp] at h

end Go.Proofs.Ytkjcdnlpjldhaaa


namespace Go.Proofs.Ytkjcdnlpjldhaaa
open Go.RowKit Tw
attribute [local go_sem ↓] Go.wp_at_zero Go.wp_at_succ

def zM:Cd:=⟨1,1,1,2,[⟨0,0,0,0,⟨false,[],[]⟩⟩,⟨8,1,0,0,⟨false,[],[]⟩⟩,⟨10,0,1,0,⟨false,[],[]⟩⟩]⟩

theorem zcQ:zS zM=true:=by decide +kernel

theorem zcP:zey zM=2:=by decide +kernel

theorem cAwake_o:runO zM [3] 1=0:=by decide +kernel

theorem zhC:jAll zM [3] 0=[9]:=by decide +kernel

theorem zcw:jK zM [3] 0=3/\jT zM [3] 0=1/\zeA zM 0=1/\zez zM 0=1:=by decide +kernel

theorem zhD:zaL 4097 [3] St.zero zM.all:=zjh (c:=zM) (p:=[3]) (by decide +kernel) (by decide +kernel) zcQ (by rw [zcP];decide)

theorem zca:zaV 4097 zM.all:=by
 intro x hx
 simp only [zM,List.mem_cons,List.not_mem_nil,or_false] at hx
 rcases hx with rfl|rfl|rfl <;> exact ⟨by decide,by decide⟩

theorem zhE:∀ x ∈ zM.all,I64 x.op/\I64 x.to/\I64 x.a/\I64 x.b:=by
 intro x hx
 simp only [zM,List.mem_cons,List.not_mem_nil,or_false] at hx
 rcases hx with rfl|rfl|rfl <;> (unfold I64;decide)

theorem ziY (v u:Value) (w:World) (hc:IsC w zM v) (hx:RdR w u [zI ((3:Int):Rat)]) :
  Calls Try.prog 5 #[.agg #[.int .i64 1,.int .i64 1,.int .i64 1,.int .i64 2,v],u] w (RunJ w 1 1 [9] 3 1 0):=by
 have hm:[zI ((3:Int):Rat)].map Rt.num=[3]:=by simp only [List.map_cons,List.map_nil,ziZ];rfl
 have:=zdl zM v u [zI ((3:Int):Rat)] w hc zca hx (fun _ _ => ⟨by
  intro x hx
  rw [List.mem_singleton.1 hx]
  decide +kernel,by rw [hm];exact zhD⟩) 0 (by rw [hm];exact cAwake_o)
 unfold zgs at this
 rw [hm,zhC,zcw.1,zcw.2.1,zcw.2.2.1,zcw.2.2.2] at this
 exact this

theorem zgv (v:Value) (w:World) (hc:IsC w zM v) :
  Calls Try.prog 8 #[.agg #[.int .i64 1,.int .i64 1,.int .i64 1,.int .i64 2,v]] w (fun e w' => e=.returned (.bool true)/\Below w.heap.size w w') :=
 zbZ zM v w hc zca true zcQ

theorem zgu (v:Value) (w:World) (hc:IsC w zM v) :
  Calls Try.prog 9 #[.agg #[.int .i64 1,.int .i64 1,.int .i64 1,.int .i64 2,v]] w (fun e w' => e=.returned (.int .i64 2)/\Below w.heap.size w w') :=
 vm_heavy zM v w hc zca 2 zcP

abbrev zdp (op to a b:Int):List Value:=[.int .i64 op,.int .i64 to,.int .i64 a,.int .i64 b,.bool false,.slice none 0 0,.slice none 0 0]

theorem lit_code {w:World} {t:TypeId} {fr:Nat × Nat} {B:Nat} (h:w.heap[B]?=some (.cells (zdp 0 0 0 0++zdp 8 1 0 0++zdp 10 0 1 0).toArray t fr)):RdC w (.slice (some ⟨B,0,none⟩) 3 3) zM.all:=by
 have hc:∀ o,w.cell? ⟨B,o,none⟩=(zdp 0 0 0 0++zdp 8 1 0 0++zdp 10 0 1 0).toArray[o]?:=fun o => cell_of_row w B o _ t fr h
 refine ⟨_,3,rfl,Nat.le_refl _,by decide,fun i hi => ⟨B,0,rfl,?_⟩⟩
 have i64:=zhE _ (List.getElem_mem hi)
 have hi':i<3:=hi
 have hi3:i=0\/i=1\/i=2:=by omega
 rcases hi3 with rfl|rfl|rfl
 all_goals exact ⟨hc _,hc _,hc _,hc _,⟨.slice none 0 0,.slice none 0 0,hc _,hc _,hc _,Rd.nil _,Rd.nil _⟩,i64⟩

theorem awake25  (w:World)  :
  Calls Try.prog 4 #[] w (Holds w):=by
 go_enter Try.func4,Try.ntmps4
 go_wp2_with fail
 obtain ⟨W0,aq⟩:∃ W0,w=W0:=⟨_,rfl⟩
 have zb:Below w.heap.size w W0:=by rw [<- aq];exact Below.refl _ _
 subst aq
 
 have gb:Below w.heap.size w w:=Below.refl _ _
 
 obtain ⟨W00,ff⟩:∃ W00,w.alloc (.cells #[.int .i64 0,.int .i64 0,.int .i64 0,.int .i64 0,.bool false,.slice none 0 0,.slice none 0 0,.int .i64 8,.int .i64 1,.int .i64 0,.int .i64 0,.bool false,.slice none 0 0,.slice none 0 0,.int .i64 10,.int .i64 0,.int .i64 1,.int .i64 0,.bool false,.slice none 0 0,.slice none 0 0] 27)=W00:=⟨_,rfl⟩
 have hc00:RdC W00 (.slice (some ⟨w.heap.size,0,none⟩) 3 3) zM.all:=lit_code (t:=27) (fr:=(0,0)) (by rw [<- ff];exact heap_alloc_new _ _)
 have g0:IsC W00 zM (.slice (some ⟨w.heap.size,0,none⟩) 3 3):=⟨hc00,by unfold I64 zM;decide,by unfold I64 zM;decide,by unfold I64 zM;decide,by unfold I64 zM;decide⟩
 have iL:Below w.heap.size w W00:=by rw [<- ff];exact bN _ _
 obtain ⟨B0,hB0⟩:∃ B0,w.heap.size=B0:=⟨_,rfl⟩
 have HB0:=Lib.hid hB0
 rw [hB0] at g0
 have gb:=iL
 have c8:w.heap.size+1=W00.heap.size:=by rw [<- ff];simp
 rw [ff,c8,hB0]
 clear ff hc00 iL hB0 c8
 obtain ⟨W1,aK⟩:∃ W1,W00.alloc (.cells #[.int .i64 1,.int .i64 1,.int .i64 1,.int .i64 2,.slice (some ⟨B0,0,none⟩) 3 3] 30)=W1:=⟨_,rfl⟩
 have hb_W1:Below W00.heap.size W00 W1:=by rw [<- aK];exact bN _ _
 have cw:Hid (W1.heap.size=W00.heap.size+1):=by show _=_;rw [<- aK];simp
 replace g0:=g0.to hb_W1
 replace gb:=bS gb hb_W1
 have aA:W1.cell? ⟨W00.heap.size,0,none⟩=some (.int .i64 1):=by rw [<- aK];simp [go_sem]
 have aD:W1.frozen? ⟨W00.heap.size,0,none⟩=false:=by rw [<- aK];simp [go_sem]
 have aB:W1.cell? ⟨W00.heap.size,1,none⟩=some (.int .i64 1):=by rw [<- aK];simp [go_sem]
 have aE:W1.frozen? ⟨W00.heap.size,1,none⟩=false:=by rw [<- aK];simp [go_sem]
 have aC:W1.cell? ⟨W00.heap.size,2,none⟩=some (.int .i64 1):=by rw [<- aK];simp [go_sem]
 have aF:W1.frozen? ⟨W00.heap.size,2,none⟩=false:=by rw [<- aK];simp [go_sem]
 have a7:W1.cell? ⟨W00.heap.size,3,none⟩=some (.int .i64 2):=by rw [<- aK];simp [go_sem]
 have a9:W1.frozen? ⟨W00.heap.size,3,none⟩=false:=by rw [<- aK];simp [go_sem]
 have a8:W1.cell? ⟨W00.heap.size,4,none⟩=some (.slice (some ⟨B0,0,none⟩) 3 3):=by rw [<- aK];simp [go_sem]
 have bc:W1.frozen? ⟨W00.heap.size,4,none⟩=false:=by rw [<- aK];simp [go_sem]
 have z1:W00.heap.size<W1.heap.size:=by rw [<- aK];simp
 rw [aK]
 clear aK
 replace zb:=bS zb gb
 have b7:=Lib.hid (show ∀ W',Below W1.heap.size W1 W'->(W'.cell? ⟨W00.heap.size,0,none⟩=some (.int .i64 1)/\W'.cell? ⟨W00.heap.size,1,none⟩=some (.int .i64 1)/\W'.cell? ⟨W00.heap.size,2,none⟩=some (.int .i64 1)/\W'.cell? ⟨W00.heap.size,3,none⟩=some (.int .i64 2)/\W'.cell? ⟨W00.heap.size,4,none⟩=some (.slice (some ⟨B0,0,none⟩) 3 3)) from fun W' hb =>
  by and_intros <;> exact kc hb (by first|assumption|assumption))
 have jw:=Lib.hid (show ∀ W',Below W1.heap.size W1 W'->(W'.frozen? ⟨W00.heap.size,0,none⟩=false/\W'.frozen? ⟨W00.heap.size,1,none⟩=false/\W'.frozen? ⟨W00.heap.size,2,none⟩=false/\W'.frozen? ⟨W00.heap.size,3,none⟩=false/\W'.frozen? ⟨W00.heap.size,4,none⟩=false) from fun W' hb =>
  by and_intros <;> refine (hb.frozen ?_).trans ?_ <;> first|assumption|assumption)
 have jx:=Lib.hid (show ∀ W',Below W1.heap.size W1 W'->(W00.heap.size<W'.heap.size) from fun W' hb =>
  Nat.lt_of_lt_of_le z1 hb.size)
 replace gb:=Below.refl W1.heap.size W1
 have hgb:=gb
 go_upto_region 2 with fail
 go_cut [2,3,4] from 10 (fun s2 s3 s4 wx => JK W1 (1) (1) ([9]) (3) (1) s2 s3 wx/\s4=.int .i64 (0))
 case first =>
  go_region_held3 (fun W' => W'.cell? ⟨W00.heap.size,0,none⟩=some (.int .i64 1)/\W'.cell? ⟨W00.heap.size,1,none⟩=some (.int .i64 1)/\W'.cell? ⟨W00.heap.size,2,none⟩=some (.int .i64 1)/\W'.cell? ⟨W00.heap.size,3,none⟩=some (.int .i64 2)/\W'.cell? ⟨W00.heap.size,4,none⟩=some (.slice (some ⟨B0,0,none⟩) 3 3)) (first|(with_reducible exact b7.out _ gb)|((with_reducible refine b7.out _ ?_);first|((with_reducible refine Below.drew ?_);first|(with_reducible exact gb)|((with_reducible refine bT ?_ ?_ _ _ _);rotate_left;omega;first|(with_reducible exact gb)|((with_reducible refine bT ?_ ?_ _ _ _);rotate_left;omega;first|(with_reducible exact gb)|((with_reducible refine bT ?_ ?_ _ _ _);rotate_left;omega;with_reducible exact gb)|((with_reducible refine bD ?_ ?_ _ _);rotate_left;omega;with_reducible exact gb)|((with_reducible refine bS ?_ (bN _ _));with_reducible exact gb))|((with_reducible refine bD ?_ ?_ _ _);rotate_left;omega;first|(with_reducible exact gb)|((with_reducible refine bT ?_ ?_ _ _ _);rotate_left;omega;with_reducible exact gb)|((with_reducible refine bD ?_ ?_ _ _);rotate_left;omega;with_reducible exact gb)|((with_reducible refine bS ?_ (bN _ _));with_reducible exact gb))|((with_reducible refine bS ?_ (bN _ _));first|(with_reducible exact gb)|((with_reducible refine bT ?_ ?_ _ _ _);rotate_left;omega;with_reducible exact gb)|((with_reducible refine bD ?_ ?_ _ _);rotate_left;omega;with_reducible exact gb)|((with_reducible refine bS ?_ (bN _ _));with_reducible exact gb)))|((with_reducible refine bD ?_ ?_ _ _);rotate_left;omega;first|(with_reducible exact gb)|((with_reducible refine bT ?_ ?_ _ _ _);rotate_left;omega;first|(with_reducible exact gb)|((with_reducible refine bT ?_ ?_ _ _ _);rotate_left;omega;with_reducible exact gb)|((with_reducible refine bD ?_ ?_ _ _);rotate_left;omega;with_reducible exact gb)|((with_reducible refine bS ?_ (bN _ _));with_reducible exact gb))|((with_reducible refine bD ?_ ?_ _ _);rotate_left;omega;first|(with_reducible exact gb)|((with_reducible refine bT ?_ ?_ _ _ _);rotate_left;omega;with_reducible exact gb)|((with_reducible refine bD ?_ ?_ _ _);rotate_left;omega;with_reducible exact gb)|((with_reducible refine bS ?_ (bN _ _));with_reducible exact gb))|((with_reducible refine bS ?_ (bN _ _));first|(with_reducible exact gb)|((with_reducible refine bT ?_ ?_ _ _ _);rotate_left;omega;with_reducible exact gb)|((with_reducible refine bD ?_ ?_ _ _);rotate_left;omega;with_reducible exact gb)|((with_reducible refine bS ?_ (bN _ _));with_reducible exact gb)))|((with_reducible refine bS ?_ (bN _ _));first|(with_reducible exact gb)|((with_reducible refine bT ?_ ?_ _ _ _);rotate_left;omega;first|(with_reducible exact gb)|((with_reducible refine bT ?_ ?_ _ _ _);rotate_left;omega;with_reducible exact gb)|((with_reducible refine bD ?_ ?_ _ _);rotate_left;omega;with_reducible exact gb)|((with_reducible refine bS ?_ (bN _ _));with_reducible exact gb))|((with_reducible refine bD ?_ ?_ _ _);rotate_left;omega;first|(with_reducible exact gb)|((with_reducible refine bT ?_ ?_ _ _ _);rotate_left;omega;with_reducible exact gb)|((with_reducible refine bD ?_ ?_ _ _);rotate_left;omega;with_reducible exact gb)|((with_reducible refine bS ?_ (bN _ _));with_reducible exact gb))|((with_reducible refine bS ?_ (bN _ _));first|(with_reducible exact gb)|((with_reducible refine bT ?_ ?_ _ _ _);rotate_left;omega;with_reducible exact gb)|((with_reducible refine bD ?_ ?_ _ _);rotate_left;omega;with_reducible exact gb)|((with_reducible refine bS ?_ (bN _ _));with_reducible exact gb))))|(first|(with_reducible exact gb)|((with_reducible refine bT ?_ ?_ _ _ _);rotate_left;omega;first|(with_reducible exact gb)|((with_reducible refine bT ?_ ?_ _ _ _);rotate_left;omega;first|(with_reducible exact gb)|((with_reducible refine bT ?_ ?_ _ _ _);rotate_left;omega;first|(with_reducible exact gb)|((with_reducible refine bT ?_ ?_ _ _ _);rotate_left;omega;first|(with_reducible exact gb)|((with_reducible refine bT ?_ ?_ _ _ _);rotate_left;omega;with_reducible exact gb)|((with_reducible refine bD ?_ ?_ _ _);rotate_left;omega;with_reducible exact gb)|((with_reducible refine bS ?_ (bN _ _));with_reducible exact gb))|((with_reducible refine bD ?_ ?_ _ _);rotate_left;omega;first|(with_reducible exact gb)|((with_reducible refine bT ?_ ?_ _ _ _);rotate_left;omega;with_reducible exact gb)|((with_reducible refine bD ?_ ?_ _ _);rotate_left;omega;with_reducible exact gb)|((with_reducible refine bS ?_ (bN _ _));with_reducible exact gb))|((with_reducible refine bS ?_ (bN _ _));first|(with_reducible exact gb)|((with_reducible refine bT ?_ ?_ _ _ _);rotate_left;omega;with_reducible exact gb)|((with_reducible refine bD ?_ ?_ _ _);rotate_left;omega;with_reducible exact gb)|((with_reducible refine bS ?_ (bN _ _));with_reducible exact gb)))|((with_reducible refine bD ?_ ?_ _ _);rotate_left;omega;first|(with_reducible exact gb)|((with_reducible refine bT ?_ ?_ _ _ _);rotate_left;omega;first|(with_reducible exact gb)|((with_reducible refine bT ?_ ?_ _ _ _);rotate_left;omega;with_reducible exact gb)|((with_reducible refine bD ?_ ?_ _ _);rotate_left;omega;with_reducible exact gb)|((with_reducible refine bS ?_ (bN _ _));with_reducible exact gb))|((with_reducible refine bD ?_ ?_ _ _);rotate_left;omega;first|(with_reducible exact gb)|((with_reducible refine bT ?_ ?_ _ _ _);rotate_left;omega;with_reducible exact gb)|((with_reducible refine bD ?_ ?_ _ _);rotate_left;omega;with_reducible exact gb)|((with_reducible refine bS ?_ (bN _ _));with_reducible exact gb))|((with_reducible refine bS ?_ (bN _ _));first|(with_reducible exact gb)|((with_reducible refine bT ?_ ?_ _ _ _);rotate_left;omega;with_reducible exact gb)|((with_reducible refine bD ?_ ?_ _ _);rotate_left;omega;with_reducible exact gb)|((with_reducible refine bS ?_ (bN _ _));with_reducible exact gb)))|((with_reducible refine bS ?_ (bN _ _));first|(with_reducible exact gb)|((with_reducible refine bT ?_ ?_ _ _ _);rotate_left;omega;first|(with_reducible exact gb)|((with_reducible refine bT ?_ ?_ _ _ _);rotate_left;omega;with_reducible exact gb)|((with_reducible refine bD ?_ ?_ _ _);rotate_left;omega;with_reducible exact gb)|((with_reducible refine bS ?_ (bN _ _));with_reducible exact gb))|((with_reducible refine bD ?_ ?_ _ _);rotate_left;omega;first|(with_reducible exact gb)|((with_reducible refine bT ?_ ?_ _ _ _);rotate_left;omega;with_reducible exact gb)|((with_reducible refine bD ?_ ?_ _ _);rotate_left;omega;with_reducible exact gb)|((with_reducible refine bS ?_ (bN _ _));with_reducible exact gb))|((with_reducible refine bS ?_ (bN _ _));first|(with_reducible exact gb)|((with_reducible refine bT ?_ ?_ _ _ _);rotate_left;omega;with_reducible exact gb)|((with_reducible refine bD ?_ ?_ _ _);rotate_left;omega;with_reducible exact gb)|((with_reducible refine bS ?_ (bN _ _));with_reducible exact gb))))|((with_reducible refine bD ?_ ?_ _ _);rotate_left;omega;first|(with_reducible exact gb)|((with_reducible refine bT ?_ ?_ _ _ _);rotate_left;omega;first|(with_reducible exact gb)|((with_reducible refine bT ?_ ?_ _ _ _);rotate_left;omega;first|(with_reducible exact gb)|((with_reducible refine bT ?_ ?_ _ _ _);rotate_left;omega;with_reducible exact gb)|((with_reducible refine bD ?_ ?_ _ _);rotate_left;omega;with_reducible exact gb)|((with_reducible refine bS ?_ (bN _ _));with_reducible exact gb))|((with_reducible refine bD ?_ ?_ _ _);rotate_left;omega;first|(with_reducible exact gb)|((with_reducible refine bT ?_ ?_ _ _ _);rotate_left;omega;with_reducible exact gb)|((with_reducible refine bD ?_ ?_ _ _);rotate_left;omega;with_reducible exact gb)|((with_reducible refine bS ?_ (bN _ _));with_reducible exact gb))|((with_reducible refine bS ?_ (bN _ _));first|(with_reducible exact gb)|((with_reducible refine bT ?_ ?_ _ _ _);rotate_left;omega;with_reducible exact gb)|((with_reducible refine bD ?_ ?_ _ _);rotate_left;omega;with_reducible exact gb)|((with_reducible refine bS ?_ (bN _ _));with_reducible exact gb)))|((with_reducible refine bD ?_ ?_ _ _);rotate_left;omega;first|(with_reducible exact gb)|((with_reducible refine bT ?_ ?_ _ _ _);rotate_left;omega;first|(with_reducible exact gb)|((with_reducible refine bT ?_ ?_ _ _ _);rotate_left;omega;with_reducible exact gb)|((with_reducible refine bD ?_ ?_ _ _);rotate_left;omega;with_reducible exact gb)|((with_reducible refine bS ?_ (bN _ _));with_reducible exact gb))|((with_reducible refine bD ?_ ?_ _ _);rotate_left;omega;first|(with_reducible exact gb)|((with_reducible refine bT ?_ ?_ _ _ _);rotate_left;omega;with_reducible exact gb)|((with_reducible refine bD ?_ ?_ _ _);rotate_left;omega;with_reducible exact gb)|((with_reducible refine bS ?_ (bN _ _));with_reducible exact gb))|((with_reducible refine bS ?_ (bN _ _));first|(with_reducible exact gb)|((with_reducible refine bT ?_ ?_ _ _ _);rotate_left;omega;with_reducible exact gb)|((with_reducible refine bD ?_ ?_ _ _);rotate_left;omega;with_reducible exact gb)|((with_reducible refine bS ?_ (bN _ _));with_reducible exact gb)))|((with_reducible refine bS ?_ (bN _ _));first|(with_reducible exact gb)|((with_reducible refine bT ?_ ?_ _ _ _);rotate_left;omega;first|(with_reducible exact gb)|((with_reducible refine bT ?_ ?_ _ _ _);rotate_left;omega;with_reducible exact gb)|((with_reducible refine bD ?_ ?_ _ _);rotate_left;omega;with_reducible exact gb)|((with_reducible refine bS ?_ (bN _ _));with_reducible exact gb))|((with_reducible refine bD ?_ ?_ _ _);rotate_left;omega;first|(with_reducible exact gb)|((with_reducible refine bT ?_ ?_ _ _ _);rotate_left;omega;with_reducible exact gb)|((with_reducible refine bD ?_ ?_ _ _);rotate_left;omega;with_reducible exact gb)|((with_reducible refine bS ?_ (bN _ _));with_reducible exact gb))|((with_reducible refine bS ?_ (bN _ _));first|(with_reducible exact gb)|((with_reducible refine bT ?_ ?_ _ _ _);rotate_left;omega;with_reducible exact gb)|((with_reducible refine bD ?_ ?_ _ _);rotate_left;omega;with_reducible exact gb)|((with_reducible refine bS ?_ (bN _ _));with_reducible exact gb))))|((with_reducible refine bS ?_ (bN _ _));first|(with_reducible exact gb)|((with_reducible refine bT ?_ ?_ _ _ _);rotate_left;omega;first|(with_reducible exact gb)|((with_reducible refine bT ?_ ?_ _ _ _);rotate_left;omega;first|(with_reducible exact gb)|((with_reducible refine bT ?_ ?_ _ _ _);rotate_left;omega;with_reducible exact gb)|((with_reducible refine bD ?_ ?_ _ _);rotate_left;omega;with_reducible exact gb)|((with_reducible refine bS ?_ (bN _ _));with_reducible exact gb))|((with_reducible refine bD ?_ ?_ _ _);rotate_left;omega;first|(with_reducible exact gb)|((with_reducible refine bT ?_ ?_ _ _ _);rotate_left;omega;with_reducible exact gb)|((with_reducible refine bD ?_ ?_ _ _);rotate_left;omega;with_reducible exact gb)|((with_reducible refine bS ?_ (bN _ _));with_reducible exact gb))|((with_reducible refine bS ?_ (bN _ _));first|(with_reducible exact gb)|((with_reducible refine bT ?_ ?_ _ _ _);rotate_left;omega;with_reducible exact gb)|((with_reducible refine bD ?_ ?_ _ _);rotate_left;omega;with_reducible exact gb)|((with_reducible refine bS ?_ (bN _ _));with_reducible exact gb)))|((with_reducible refine bD ?_ ?_ _ _);rotate_left;omega;first|(with_reducible exact gb)|((with_reducible refine bT ?_ ?_ _ _ _);rotate_left;omega;first|(with_reducible exact gb)|((with_reducible refine bT ?_ ?_ _ _ _);rotate_left;omega;with_reducible exact gb)|((with_reducible refine bD ?_ ?_ _ _);rotate_left;omega;with_reducible exact gb)|((with_reducible refine bS ?_ (bN _ _));with_reducible exact gb))|((with_reducible refine bD ?_ ?_ _ _);rotate_left;omega;first|(with_reducible exact gb)|((with_reducible refine bT ?_ ?_ _ _ _);rotate_left;omega;with_reducible exact gb)|((with_reducible refine bD ?_ ?_ _ _);rotate_left;omega;with_reducible exact gb)|((with_reducible refine bS ?_ (bN _ _));with_reducible exact gb))|((with_reducible refine bS ?_ (bN _ _));first|(with_reducible exact gb)|((with_reducible refine bT ?_ ?_ _ _ _);rotate_left;omega;with_reducible exact gb)|((with_reducible refine bD ?_ ?_ _ _);rotate_left;omega;with_reducible exact gb)|((with_reducible refine bS ?_ (bN _ _));with_reducible exact gb)))|((with_reducible refine bS ?_ (bN _ _));first|(with_reducible exact gb)|((with_reducible refine bT ?_ ?_ _ _ _);rotate_left;omega;first|(with_reducible exact gb)|((with_reducible refine bT ?_ ?_ _ _ _);rotate_left;omega;with_reducible exact gb)|((with_reducible refine bD ?_ ?_ _ _);rotate_left;omega;with_reducible exact gb)|((with_reducible refine bS ?_ (bN _ _));with_reducible exact gb))|((with_reducible refine bD ?_ ?_ _ _);rotate_left;omega;first|(with_reducible exact gb)|((with_reducible refine bT ?_ ?_ _ _ _);rotate_left;omega;with_reducible exact gb)|((with_reducible refine bD ?_ ?_ _ _);rotate_left;omega;with_reducible exact gb)|((with_reducible refine bS ?_ (bN _ _));with_reducible exact gb))|((with_reducible refine bS ?_ (bN _ _));first|(with_reducible exact gb)|((with_reducible refine bT ?_ ?_ _ _ _);rotate_left;omega;with_reducible exact gb)|((with_reducible refine bD ?_ ?_ _ _);rotate_left;omega;with_reducible exact gb)|((with_reducible refine bS ?_ (bN _ _));with_reducible exact gb)))))|((with_reducible refine bD ?_ ?_ _ _);rotate_left;omega;first|(with_reducible exact gb)|((with_reducible refine bT ?_ ?_ _ _ _);rotate_left;omega;first|(with_reducible exact gb)|((with_reducible refine bT ?_ ?_ _ _ _);rotate_left;omega;first|(with_reducible exact gb)|((with_reducible refine bT ?_ ?_ _ _ _);rotate_left;omega;first|(with_reducible exact gb)|((with_reducible refine bT ?_ ?_ _ _ _);rotate_left;omega;with_reducible exact gb)|((with_reducible refine bD ?_ ?_ _ _);rotate_left;omega;with_reducible exact gb)|((with_reducible refine bS ?_ (bN _ _));with_reducible exact gb))|((with_reducible refine bD ?_ ?_ _ _);rotate_left;omega;first|(with_reducible exact gb)|((with_reducible refine bT ?_ ?_ _ _ _);rotate_left;omega;with_reducible exact gb)|((with_reducible refine bD ?_ ?_ _ _);rotate_left;omega;with_reducible exact gb)|((with_reducible refine bS ?_ (bN _ _));with_reducible exact gb))|((with_reducible refine bS ?_ (bN _ _));first|(with_reducible exact gb)|((with_reducible refine bT ?_ ?_ _ _ _);rotate_left;omega;with_reducible exact gb)|((with_reducible refine bD ?_ ?_ _ _);rotate_left;omega;with_reducible exact gb)|((with_reducible refine bS ?_ (bN _ _));with_reducible exact gb)))|((with_reducible refine bD ?_ ?_ _ _);rotate_left;omega;first|(with_reducible exact gb)|((with_reducible refine bT ?_ ?_ _ _ _);rotate_left;omega;first|(with_reducible exact gb)|((with_reducible refine bT ?_ ?_ _ _ _);rotate_left;omega;with_reducible exact gb)|((with_reducible refine bD ?_ ?_ _ _);rotate_left;omega;with_reducible exact gb)|((with_reducible refine bS ?_ (bN _ _));with_reducible exact gb))|((with_reducible refine bD ?_ ?_ _ _);rotate_left;omega;first|(with_reducible exact gb)|((with_reducible refine bT ?_ ?_ _ _ _);rotate_left;omega;with_reducible exact gb)|((with_reducible refine bD ?_ ?_ _ _);rotate_left;omega;with_reducible exact gb)|((with_reducible refine bS ?_ (bN _ _));with_reducible exact gb))|((with_reducible refine bS ?_ (bN _ _));first|(with_reducible exact gb)|((with_reducible refine bT ?_ ?_ _ _ _);rotate_left;omega;with_reducible exact gb)|((with_reducible refine bD ?_ ?_ _ _);rotate_left;omega;with_reducible exact gb)|((with_reducible refine bS ?_ (bN _ _));with_reducible exact gb)))|((with_reducible refine bS ?_ (bN _ _));first|(with_reducible exact gb)|((with_reducible refine bT ?_ ?_ _ _ _);rotate_left;omega;first|(with_reducible exact gb)|((with_reducible refine bT ?_ ?_ _ _ _);rotate_left;omega;with_reducible exact gb)|((with_reducible refine bD ?_ ?_ _ _);rotate_left;omega;with_reducible exact gb)|((with_reducible refine bS ?_ (bN _ _));with_reducible exact gb))|((with_reducible refine bD ?_ ?_ _ _);rotate_left;omega;first|(with_reducible exact gb)|((with_reducible refine bT ?_ ?_ _ _ _);rotate_left;omega;with_reducible exact gb)|((with_reducible refine bD ?_ ?_ _ _);rotate_left;omega;with_reducible exact gb)|((with_reducible refine bS ?_ (bN _ _));with_reducible exact gb))|((with_reducible refine bS ?_ (bN _ _));first|(with_reducible exact gb)|((with_reducible refine bT ?_ ?_ _ _ _);rotate_left;omega;with_reducible exact gb)|((with_reducible refine bD ?_ ?_ _ _);rotate_left;omega;with_reducible exact gb)|((with_reducible refine bS ?_ (bN _ _));with_reducible exact gb))))|((with_reducible refine bD ?_ ?_ _ _);rotate_left;omega;first|(with_reducible exact gb)|((with_reducible refine bT ?_ ?_ _ _ _);rotate_left;omega;first|(with_reducible exact gb)|((with_reducible refine bT ?_ ?_ _ _ _);rotate_left;omega;first|(with_reducible exact gb)|((with_reducible refine bT ?_ ?_ _ _ _);rotate_left;omega;with_reducible exact gb)|((with_reducible refine bD ?_ ?_ _ _);rotate_left;omega;with_reducible exact gb)|((with_reducible refine bS ?_ (bN _ _));with_reducible exact gb))|((with_reducible refine bD ?_ ?_ _ _);rotate_left;omega;first|(with_reducible exact gb)|((with_reducible refine bT ?_ ?_ _ _ _);rotate_left;omega;with_reducible exact gb)|((with_reducible refine bD ?_ ?_ _ _);rotate_left;omega;with_reducible exact gb)|((with_reducible refine bS ?_ (bN _ _));with_reducible exact gb))|((with_reducible refine bS ?_ (bN _ _));first|(with_reducible exact gb)|((with_reducible refine bT ?_ ?_ _ _ _);rotate_left;omega;with_reducible exact gb)|((with_reducible refine bD ?_ ?_ _ _);rotate_left;omega;with_reducible exact gb)|((with_reducible refine bS ?_ (bN _ _));with_reducible exact gb)))|((with_reducible refine bD ?_ ?_ _ _);rotate_left;omega;first|(with_reducible exact gb)|((with_reducible refine bT ?_ ?_ _ _ _);rotate_left;omega;first|(with_reducible exact gb)|((with_reducible refine bT ?_ ?_ _ _ _);rotate_left;omega;with_reducible exact gb)|((with_reducible refine bD ?_ ?_ _ _);rotate_left;omega;with_reducible exact gb)|((with_reducible refine bS ?_ (bN _ _));with_reducible exact gb))|((with_reducible refine bD ?_ ?_ _ _);rotate_left;omega;first|(with_reducible exact gb)|((with_reducible refine bT ?_ ?_ _ _ _);rotate_left;omega;with_reducible exact gb)|((with_reducible refine bD ?_ ?_ _ _);rotate_left;omega;with_reducible exact gb)|((with_reducible refine bS ?_ (bN _ _));with_reducible exact gb))|((with_reducible refine bS ?_ (bN _ _));first|(with_reducible exact gb)|((with_reducible refine bT ?_ ?_ _ _ _);rotate_left;omega;with_reducible exact gb)|((with_reducible refine bD ?_ ?_ _ _);rotate_left;omega;with_reducible exact gb)|((with_reducible refine bS ?_ (bN _ _));with_reducible exact gb)))|((with_reducible refine bS ?_ (bN _ _));first|(with_reducible exact gb)|((with_reducible refine bT ?_ ?_ _ _ _);rotate_left;omega;first|(with_reducible exact gb)|((with_reducible refine bT ?_ ?_ _ _ _);rotate_left;omega;with_reducible exact gb)|((with_reducible refine bD ?_ ?_ _ _);rotate_left;omega;with_reducible exact gb)|((with_reducible refine bS ?_ (bN _ _));with_reducible exact gb))|((with_reducible refine bD ?_ ?_ _ _);rotate_left;omega;first|(with_reducible exact gb)|((with_reducible refine bT ?_ ?_ _ _ _);rotate_left;omega;with_reducible exact gb)|((with_reducible refine bD ?_ ?_ _ _);rotate_left;omega;with_reducible exact gb)|((with_reducible refine bS ?_ (bN _ _));with_reducible exact gb))|((with_reducible refine bS ?_ (bN _ _));first|(with_reducible exact gb)|((with_reducible refine bT ?_ ?_ _ _ _);rotate_left;omega;with_reducible exact gb)|((with_reducible refine bD ?_ ?_ _ _);rotate_left;omega;with_reducible exact gb)|((with_reducible refine bS ?_ (bN _ _));with_reducible exact gb))))|((with_reducible refine bS ?_ (bN _ _));first|(with_reducible exact gb)|((with_reducible refine bT ?_ ?_ _ _ _);rotate_left;omega;first|(with_reducible exact gb)|((with_reducible refine bT ?_ ?_ _ _ _);rotate_left;omega;first|(with_reducible exact gb)|((with_reducible refine bT ?_ ?_ _ _ _);rotate_left;omega;with_reducible exact gb)|((with_reducible refine bD ?_ ?_ _ _);rotate_left;omega;with_reducible exact gb)|((with_reducible refine bS ?_ (bN _ _));with_reducible exact gb))|((with_reducible refine bD ?_ ?_ _ _);rotate_left;omega;first|(with_reducible exact gb)|((with_reducible refine bT ?_ ?_ _ _ _);rotate_left;omega;with_reducible exact gb)|((with_reducible refine bD ?_ ?_ _ _);rotate_left;omega;with_reducible exact gb)|((with_reducible refine bS ?_ (bN _ _));with_reducible exact gb))|((with_reducible refine bS ?_ (bN _ _));first|(with_reducible exact gb)|((with_reducible refine bT ?_ ?_ _ _ _);rotate_left;omega;with_reducible exact gb)|((with_reducible refine bD ?_ ?_ _ _);rotate_left;omega;with_reducible exact gb)|((with_reducible refine bS ?_ (bN _ _));with_reducible exact gb)))|((with_reducible refine bD ?_ ?_ _ _);rotate_left;omega;first|(with_reducible exact gb)|((with_reducible refine bT ?_ ?_ _ _ _);rotate_left;omega;first|(with_reducible exact gb)|((with_reducible refine bT ?_ ?_ _ _ _);rotate_left;omega;with_reducible exact gb)|((with_reducible refine bD ?_ ?_ _ _);rotate_left;omega;with_reducible exact gb)|((with_reducible refine bS ?_ (bN _ _));with_reducible exact gb))|((with_reducible refine bD ?_ ?_ _ _);rotate_left;omega;first|(with_reducible exact gb)|((with_reducible refine bT ?_ ?_ _ _ _);rotate_left;omega;with_reducible exact gb)|((with_reducible refine bD ?_ ?_ _ _);rotate_left;omega;with_reducible exact gb)|((with_reducible refine bS ?_ (bN _ _));with_reducible exact gb))|((with_reducible refine bS ?_ (bN _ _));first|(with_reducible exact gb)|((with_reducible refine bT ?_ ?_ _ _ _);rotate_left;omega;with_reducible exact gb)|((with_reducible refine bD ?_ ?_ _ _);rotate_left;omega;with_reducible exact gb)|((with_reducible refine bS ?_ (bN _ _));with_reducible exact gb)))|((with_reducible refine bS ?_ (bN _ _));first|(with_reducible exact gb)|((with_reducible refine bT ?_ ?_ _ _ _);rotate_left;omega;first|(with_reducible exact gb)|((with_reducible refine bT ?_ ?_ _ _ _);rotate_left;omega;with_reducible exact gb)|((with_reducible refine bD ?_ ?_ _ _);rotate_left;omega;with_reducible exact gb)|((with_reducible refine bS ?_ (bN _ _));with_reducible exact gb))|((with_reducible refine bD ?_ ?_ _ _);rotate_left;omega;first|(with_reducible exact gb)|((with_reducible refine bT ?_ ?_ _ _ _);rotate_left;omega;with_reducible exact gb)|((with_reducible refine bD ?_ ?_ _ _);rotate_left;omega;with_reducible exact gb)|((with_reducible refine bS ?_ (bN _ _));with_reducible exact gb))|((with_reducible refine bS ?_ (bN _ _));first|(with_reducible exact gb)|((with_reducible refine bT ?_ ?_ _ _ _);rotate_left;omega;with_reducible exact gb)|((with_reducible refine bD ?_ ?_ _ _);rotate_left;omega;with_reducible exact gb)|((with_reducible refine bS ?_ (bN _ _));with_reducible exact gb)))))|((with_reducible refine bS ?_ (bN _ _));first|(with_reducible exact gb)|((with_reducible refine bT ?_ ?_ _ _ _);rotate_left;omega;first|(with_reducible exact gb)|((with_reducible refine bT ?_ ?_ _ _ _);rotate_left;omega;first|(with_reducible exact gb)|((with_reducible refine bT ?_ ?_ _ _ _);rotate_left;omega;first|(with_reducible exact gb)|((with_reducible refine bT ?_ ?_ _ _ _);rotate_left;omega;with_reducible exact gb)|((with_reducible refine bD ?_ ?_ _ _);rotate_left;omega;with_reducible exact gb)|((with_reducible refine bS ?_ (bN _ _));with_reducible exact gb))|((with_reducible refine bD ?_ ?_ _ _);rotate_left;omega;first|(with_reducible exact gb)|((with_reducible refine bT ?_ ?_ _ _ _);rotate_left;omega;with_reducible exact gb)|((with_reducible refine bD ?_ ?_ _ _);rotate_left;omega;with_reducible exact gb)|((with_reducible refine bS ?_ (bN _ _));with_reducible exact gb))|((with_reducible refine bS ?_ (bN _ _));first|(with_reducible exact gb)|((with_reducible refine bT ?_ ?_ _ _ _);rotate_left;omega;with_reducible exact gb)|((with_reducible refine bD ?_ ?_ _ _);rotate_left;omega;with_reducible exact gb)|((with_reducible refine bS ?_ (bN _ _));with_reducible exact gb)))|((with_reducible refine bD ?_ ?_ _ _);rotate_left;omega;first|(with_reducible exact gb)|((with_reducible refine bT ?_ ?_ _ _ _);rotate_left;omega;first|(with_reducible exact gb)|((with_reducible refine bT ?_ ?_ _ _ _);rotate_left;omega;with_reducible exact gb)|((with_reducible refine bD ?_ ?_ _ _);rotate_left;omega;with_reducible exact gb)|((with_reducible refine bS ?_ (bN _ _));with_reducible exact gb))|((with_reducible refine bD ?_ ?_ _ _);rotate_left;omega;first|(with_reducible exact gb)|((with_reducible refine bT ?_ ?_ _ _ _);rotate_left;omega;with_reducible exact gb)|((with_reducible refine bD ?_ ?_ _ _);rotate_left;omega;with_reducible exact gb)|((with_reducible refine bS ?_ (bN _ _));with_reducible exact gb))|((with_reducible refine bS ?_ (bN _ _));first|(with_reducible exact gb)|((with_reducible refine bT ?_ ?_ _ _ _);rotate_left;omega;with_reducible exact gb)|((with_reducible refine bD ?_ ?_ _ _);rotate_left;omega;with_reducible exact gb)|((with_reducible refine bS ?_ (bN _ _));with_reducible exact gb)))|((with_reducible refine bS ?_ (bN _ _));first|(with_reducible exact gb)|((with_reducible refine bT ?_ ?_ _ _ _);rotate_left;omega;first|(with_reducible exact gb)|((with_reducible refine bT ?_ ?_ _ _ _);rotate_left;omega;with_reducible exact gb)|((with_reducible refine bD ?_ ?_ _ _);rotate_left;omega;with_reducible exact gb)|((with_reducible refine bS ?_ (bN _ _));with_reducible exact gb))|((with_reducible refine bD ?_ ?_ _ _);rotate_left;omega;first|(with_reducible exact gb)|((with_reducible refine bT ?_ ?_ _ _ _);rotate_left;omega;with_reducible exact gb)|((with_reducible refine bD ?_ ?_ _ _);rotate_left;omega;with_reducible exact gb)|((with_reducible refine bS ?_ (bN _ _));with_reducible exact gb))|((with_reducible refine bS ?_ (bN _ _));first|(with_reducible exact gb)|((with_reducible refine bT ?_ ?_ _ _ _);rotate_left;omega;with_reducible exact gb)|((with_reducible refine bD ?_ ?_ _ _);rotate_left;omega;with_reducible exact gb)|((with_reducible refine bS ?_ (bN _ _));with_reducible exact gb))))|((with_reducible refine bD ?_ ?_ _ _);rotate_left;omega;first|(with_reducible exact gb)|((with_reducible refine bT ?_ ?_ _ _ _);rotate_left;omega;first|(with_reducible exact gb)|((with_reducible refine bT ?_ ?_ _ _ _);rotate_left;omega;first|(with_reducible exact gb)|((with_reducible refine bT ?_ ?_ _ _ _);rotate_left;omega;with_reducible exact gb)|((with_reducible refine bD ?_ ?_ _ _);rotate_left;omega;with_reducible exact gb)|((with_reducible refine bS ?_ (bN _ _));with_reducible exact gb))|((with_reducible refine bD ?_ ?_ _ _);rotate_left;omega;first|(with_reducible exact gb)|((with_reducible refine bT ?_ ?_ _ _ _);rotate_left;omega;with_reducible exact gb)|((with_reducible refine bD ?_ ?_ _ _);rotate_left;omega;with_reducible exact gb)|((with_reducible refine bS ?_ (bN _ _));with_reducible exact gb))|((with_reducible refine bS ?_ (bN _ _));first|(with_reducible exact gb)|((with_reducible refine bT ?_ ?_ _ _ _);rotate_left;omega;with_reducible exact gb)|((with_reducible refine bD ?_ ?_ _ _);rotate_left;omega;with_reducible exact gb)|((with_reducible refine bS ?_ (bN _ _));with_reducible exact gb)))|((with_reducible refine bD ?_ ?_ _ _);rotate_left;omega;first|(with_reducible exact gb)|((with_reducible refine bT ?_ ?_ _ _ _);rotate_left;omega;first|(with_reducible exact gb)|((with_reducible refine bT ?_ ?_ _ _ _);rotate_left;omega;with_reducible exact gb)|((with_reducible refine bD ?_ ?_ _ _);rotate_left;omega;with_reducible exact gb)|((with_reducible refine bS ?_ (bN _ _));with_reducible exact gb))|((with_reducible refine bD ?_ ?_ _ _);rotate_left;omega;first|(with_reducible exact gb)|((with_reducible refine bT ?_ ?_ _ _ _);rotate_left;omega;with_reducible exact gb)|((with_reducible refine bD ?_ ?_ _ _);rotate_left;omega;with_reducible exact gb)|((with_reducible refine bS ?_ (bN _ _));with_reducible exact gb))|((with_reducible refine bS ?_ (bN _ _));first|(with_reducible exact gb)|((with_reducible refine bT ?_ ?_ _ _ _);rotate_left;omega;with_reducible exact gb)|((with_reducible refine bD ?_ ?_ _ _);rotate_left;omega;with_reducible exact gb)|((with_reducible refine bS ?_ (bN _ _));with_reducible exact gb)))|((with_reducible refine bS ?_ (bN _ _));first|(with_reducible exact gb)|((with_reducible refine bT ?_ ?_ _ _ _);rotate_left;omega;first|(with_reducible exact gb)|((with_reducible refine bT ?_ ?_ _ _ _);rotate_left;omega;with_reducible exact gb)|((with_reducible refine bD ?_ ?_ _ _);rotate_left;omega;with_reducible exact gb)|((with_reducible refine bS ?_ (bN _ _));with_reducible exact gb))|((with_reducible refine bD ?_ ?_ _ _);rotate_left;omega;first|(with_reducible exact gb)|((with_reducible refine bT ?_ ?_ _ _ _);rotate_left;omega;with_reducible exact gb)|((with_reducible refine bD ?_ ?_ _ _);rotate_left;omega;with_reducible exact gb)|((with_reducible refine bS ?_ (bN _ _));with_reducible exact gb))|((with_reducible refine bS ?_ (bN _ _));first|(with_reducible exact gb)|((with_reducible refine bT ?_ ?_ _ _ _);rotate_left;omega;with_reducible exact gb)|((with_reducible refine bD ?_ ?_ _ _);rotate_left;omega;with_reducible exact gb)|((with_reducible refine bS ?_ (bN _ _));with_reducible exact gb))))|((with_reducible refine bS ?_ (bN _ _));first|(with_reducible exact gb)|((with_reducible refine bT ?_ ?_ _ _ _);rotate_left;omega;first|(with_reducible exact gb)|((with_reducible refine bT ?_ ?_ _ _ _);rotate_left;omega;first|(with_reducible exact gb)|((with_reducible refine bT ?_ ?_ _ _ _);rotate_left;omega;with_reducible exact gb)|((with_reducible refine bD ?_ ?_ _ _);rotate_left;omega;with_reducible exact gb)|((with_reducible refine bS ?_ (bN _ _));with_reducible exact gb))|((with_reducible refine bD ?_ ?_ _ _);rotate_left;omega;first|(with_reducible exact gb)|((with_reducible refine bT ?_ ?_ _ _ _);rotate_left;omega;with_reducible exact gb)|((with_reducible refine bD ?_ ?_ _ _);rotate_left;omega;with_reducible exact gb)|((with_reducible refine bS ?_ (bN _ _));with_reducible exact gb))|((with_reducible refine bS ?_ (bN _ _));first|(with_reducible exact gb)|((with_reducible refine bT ?_ ?_ _ _ _);rotate_left;omega;with_reducible exact gb)|((with_reducible refine bD ?_ ?_ _ _);rotate_left;omega;with_reducible exact gb)|((with_reducible refine bS ?_ (bN _ _));with_reducible exact gb)))|((with_reducible refine bD ?_ ?_ _ _);rotate_left;omega;first|(with_reducible exact gb)|((with_reducible refine bT ?_ ?_ _ _ _);rotate_left;omega;first|(with_reducible exact gb)|((with_reducible refine bT ?_ ?_ _ _ _);rotate_left;omega;with_reducible exact gb)|((with_reducible refine bD ?_ ?_ _ _);rotate_left;omega;with_reducible exact gb)|((with_reducible refine bS ?_ (bN _ _));with_reducible exact gb))|((with_reducible refine bD ?_ ?_ _ _);rotate_left;omega;first|(with_reducible exact gb)|((with_reducible refine bT ?_ ?_ _ _ _);rotate_left;omega;with_reducible exact gb)|((with_reducible refine bD ?_ ?_ _ _);rotate_left;omega;with_reducible exact gb)|((with_reducible refine bS ?_ (bN _ _));with_reducible exact gb))|((with_reducible refine bS ?_ (bN _ _));first|(with_reducible exact gb)|((with_reducible refine bT ?_ ?_ _ _ _);rotate_left;omega;with_reducible exact gb)|((with_reducible refine bD ?_ ?_ _ _);rotate_left;omega;with_reducible exact gb)|((with_reducible refine bS ?_ (bN _ _));with_reducible exact gb)))|((with_reducible refine bS ?_ (bN _ _));first|(with_reducible exact gb)|((with_reducible refine bT ?_ ?_ _ _ _);rotate_left;omega;first|(with_reducible exact gb)|((with_reducible refine bT ?_ ?_ _ _ _);rotate_left;omega;with_reducible exact gb)|((with_reducible refine bD ?_ ?_ _ _);rotate_left;omega;with_reducible exact gb)|((with_reducible refine bS ?_ (bN _ _));with_reducible exact gb))|((with_reducible refine bD ?_ ?_ _ _);rotate_left;omega;first|(with_reducible exact gb)|((with_reducible refine bT ?_ ?_ _ _ _);rotate_left;omega;with_reducible exact gb)|((with_reducible refine bD ?_ ?_ _ _);rotate_left;omega;with_reducible exact gb)|((with_reducible refine bS ?_ (bN _ _));with_reducible exact gb))|((with_reducible refine bS ?_ (bN _ _));first|(with_reducible exact gb)|((with_reducible refine bT ?_ ?_ _ _ _);rotate_left;omega;with_reducible exact gb)|((with_reducible refine bD ?_ ?_ _ _);rotate_left;omega;with_reducible exact gb)|((with_reducible refine bS ?_ (bN _ _));with_reducible exact gb)))))))) (first
   | (go_at_call 5;(refine zf w1 (by with_reducible first|exact Below.refl _ _|exact bN _ _|exact bS (bN _ _) (bN _ _)|exact bS (bS (bN _ _) (bN _ _)) (bN _ _)) ?_);intro V2 cH bn;have cS:=bn.size;have g1:=g1.to bn;have gb:=bS gb bn;(try have cF:=cF.to bn);(try have cO:=cO.to bn);(try have cU:=cU.to bn);(try have cG:=cG.to bn);(try have cQ:=cQ.to bn);(try have cV:=cV.to bn);(try have dg:Tri V2 (w1.heap.size) (.int .i64 0) (.int .i64 0) (.slice none 0 0):=(by rw [cH];with_reducible first|exact zd _ (.int .i64 0) (.int .i64 0) (.slice none 0 0) _|exact (zd _ (.int .i64 0) (.int .i64 0) (.slice none 0 0) _).alloc _|exact ((zd _ (.int .i64 0) (.int .i64 0) (.slice none 0 0) _).alloc _).alloc _));(try have dh:Tri V2 (w1.heap.size+1) (.int .i64 0) (.int .i64 0) (.slice none 0 0):=(by rw [cH];with_reducible first|exact zad _ _ (.int .i64 0) (.int .i64 0) (.slice none 0 0) _|exact (zad _ _ (.int .i64 0) (.int .i64 0) (.slice none 0 0) _).alloc _));(try have dV:Tri V2 (w1.heap.size+1+1) (.int .i64 0) (.int .i64 0) (.slice none 0 0):=(by rw [cH];first|with_reducible exact zeV _ _ _ (.int .i64 0) (.int .i64 0) (.slice none 0 0) _));(try have di:Duo V2 (w1.heap.size) (.int .i64 0) (.int .i64 0):=(by rw [cH];with_reducible first|exact zC _ (.int .i64 0) (.int .i64 0) _|exact (zC _ (.int .i64 0) (.int .i64 0) _).alloc _|exact ((zC _ (.int .i64 0) (.int .i64 0) _).alloc _).alloc _));(try have dj:Duo V2 (w1.heap.size+1) (.int .i64 0) (.int .i64 0):=(by rw [cH];with_reducible first|exact zaR _ _ (.int .i64 0) (.int .i64 0) _|exact (zaR _ _ (.int .i64 0) (.int .i64 0) _).alloc _));(try have dW:Duo V2 (w1.heap.size+1+1) (.int .i64 0) (.int .i64 0):=(by rw [cH];first|with_reducible exact zgA _ _ _ (.int .i64 0) (.int .i64 0) _));(try have hF:Tri V2 (w1.heap.size) (.bool ng1) (.slice a1_ n1_ c1_) (.slice p1_ m1_ k1_):=(by rw [cH];with_reducible first|exact zd _ (.bool ng1) (.slice a1_ n1_ c1_) (.slice p1_ m1_ k1_) _|exact (zd _ (.bool ng1) (.slice a1_ n1_ c1_) (.slice p1_ m1_ k1_) _).alloc _|exact ((zd _ (.bool ng1) (.slice a1_ n1_ c1_) (.slice p1_ m1_ k1_) _).alloc _).alloc _));(try have hI:Tri V2 (w1.heap.size+1) (.bool ng1) (.slice a1_ n1_ c1_) (.slice p1_ m1_ k1_):=(by rw [cH];with_reducible first|exact zad _ _ (.bool ng1) (.slice a1_ n1_ c1_) (.slice p1_ m1_ k1_) _|exact (zad _ _ (.bool ng1) (.slice a1_ n1_ c1_) (.slice p1_ m1_ k1_) _).alloc _));(try have hU:Tri V2 (w1.heap.size+1+1) (.bool ng1) (.slice a1_ n1_ c1_) (.slice p1_ m1_ k1_):=(by rw [cH];first|with_reducible exact zeV _ _ _ (.bool ng1) (.slice a1_ n1_ c1_) (.slice p1_ m1_ k1_) _));(try have dG:=cF.lt);(try have fd:=cO.lt);(try have vt1_J_2_2:=cU.lt);(try have dH:=cG.lt);(try have fe:=cQ.lt);(try have vt1_K_2_2:=cV.lt);(try have dI:=dg.lt);(try have dJ:=dh.lt);(try have et:=dV.lt);(try have dK:=di.lt);(try have dL:=dj.lt);(try have eu:=dW.lt);(with_reducible refine (ziY _ _ _ (g0.to gb) (by first|exact zeo hF g1.isK|exact zeo hI g1.isK|exact zeo hU g1.isK)).mono ?_);rintro e w2 ⟨a2_,n2_,c2_,rfl,g2,hlo2,aL⟩;have g1:=g1.to aL;have gb:=bS gb aL;have da:=aL.size;have cN:W1.heap.size<=w2.heap.size:=gb.size;(try have cF:=cF.to aL);(try have cO:=cO.to aL);(try have cU:=cU.to aL);(try have cG:=cG.to aL);(try have cQ:=cQ.to aL);(try have cV:=cV.to aL);(try have dg:=dg.to aL);(try have dh:=dh.to aL);(try have dV:=dV.to aL);(try have di:=di.to aL);(try have dj:=dj.to aL);(try have dW:=dW.to aL);(try have lt1_J_0_2:=cF.lt);(try have lt1_J_1_2:=cO.lt);(try have lt1_J_2_2:=cU.lt);(try have lt1_K_0_2:=cG.lt);(try have lt1_K_1_2:=cQ.lt);(try have lt1_K_2_2:=cV.lt);(try have lt2_J_0_2:=dg.lt);(try have lt2_J_1_2:=dh.lt);(try have lt2_J_2_2:=dV.lt);(try have lt2_K_0_2:=di.lt);(try have lt2_K_1_2:=dj.lt);(try have lt2_K_2_2:=dW.lt);(try (have ew:=cF;obtain ⟨fj,fk,fl,fB,fC,fD⟩:=ew));(try (have ey:=cO;obtain ⟨fm,fo,fp,fE,fF,fG⟩:=ey));(try (have ez:=cU;obtain ⟨fq,fs,ft,fH,fI,fJ⟩:=ez));(try (have eA:=cG;obtain ⟨fu,fw,fK,fL⟩:=eA));(try (have eB:=cQ;obtain ⟨fx,fy,fM,fN⟩:=eB));(try (have eC:=cV;obtain ⟨fz,fA,fO,fP⟩:=eC));(try (have fV:=dg;obtain ⟨rt2_J_00,rt2_J_01,rt2_J_02,st2_J_00,st2_J_01,st2_J_02⟩:=fV));(try (have fW:=dh;obtain ⟨rt2_J_10,rt2_J_11,rt2_J_12,st2_J_10,st2_J_11,st2_J_12⟩:=fW));(try (have fX:=dV;obtain ⟨rt2_J_20,rt2_J_21,rt2_J_22,st2_J_20,st2_J_21,st2_J_22⟩:=fX));(try (have fY:=di;obtain ⟨rt2_K_00,rt2_K_01,st2_K_00,st2_K_01⟩:=fY));(try (have fZ:=dj;obtain ⟨rt2_K_10,rt2_K_11,st2_K_10,st2_K_11⟩:=fZ));(try (have f8:=dW;obtain ⟨rt2_K_20,rt2_K_21,st2_K_20,st2_K_21⟩:=f8)))
   | (go_at_call 6;(refine zf W1 (by with_reducible first|exact (Below.refl _ _).drew|exact (bN _ _).drew|exact (bS (bN _ _) (bN _ _)).drew|exact (bS (bS (bN _ _) (bN _ _)) (bN _ _)).drew) ?_);intro V1 cI bP;have cR:=bP.size;have hsw1:=gb.size;have gb:=bS gb bP;(try have cF:Tri V1 (W1.heap.size) (.int .i64 0) (.int .i64 0) (.slice none 0 0):=(by rw [cI];with_reducible first|exact (zd _ (.int .i64 0) (.int .i64 0) (.slice none 0 0) _).drew|exact ((zd _ (.int .i64 0) (.int .i64 0) (.slice none 0 0) _).alloc _).drew|exact (((zd _ (.int .i64 0) (.int .i64 0) (.slice none 0 0) _).alloc _).alloc _).drew));(try have cO:Tri V1 (W1.heap.size+1) (.int .i64 0) (.int .i64 0) (.slice none 0 0):=(by rw [cI];with_reducible first|exact (zad _ _ (.int .i64 0) (.int .i64 0) (.slice none 0 0) _).drew|exact ((zad _ _ (.int .i64 0) (.int .i64 0) (.slice none 0 0) _).alloc _).drew));(try have cU:Tri V1 (W1.heap.size+1+1) (.int .i64 0) (.int .i64 0) (.slice none 0 0):=(by rw [cI];first|with_reducible exact (zeV _ _ _ (.int .i64 0) (.int .i64 0) (.slice none 0 0) _).drew));(try have cG:Duo V1 (W1.heap.size) (.int .i64 0) (.int .i64 0):=(by rw [cI];with_reducible first|exact (zC _ (.int .i64 0) (.int .i64 0) _).drew|exact ((zC _ (.int .i64 0) (.int .i64 0) _).alloc _).drew|exact (((zC _ (.int .i64 0) (.int .i64 0) _).alloc _).alloc _).drew));(try have cQ:Duo V1 (W1.heap.size+1) (.int .i64 0) (.int .i64 0):=(by rw [cI];with_reducible first|exact (zaR _ _ (.int .i64 0) (.int .i64 0) _).drew|exact ((zaR _ _ (.int .i64 0) (.int .i64 0) _).alloc _).drew));(try have cV:Duo V1 (W1.heap.size+1+1) (.int .i64 0) (.int .i64 0):=(by rw [cI];first|with_reducible exact (zgA _ _ _ (.int .i64 0) (.int .i64 0) _).drew));(try have vt1_J_0_1:=cF.lt);(try have vt1_J_1_1:=cO.lt);(try have vt1_J_2_1:=cU.lt);(try have vt1_K_0_1:=cG.lt);(try have vt1_K_1_1:=cQ.lt);(try have vt1_K_2_1:=cV.lt);(with_reducible refine (ziK 3 3 _ rfl (by omega) (by omega)).mono ?_);rintro e w1 ⟨ng1,a1_,n1_,c1_,p1_,m1_,k1_,rfl,g1,aT⟩;have gb:=bS gb aT;have c8:=aT.size;have cC:W1.heap.size<=w1.heap.size:=gb.size;(try have cF:=cF.to aT);(try have cO:=cO.to aT);(try have cU:=cU.to aT);(try have cG:=cG.to aT);(try have cQ:=cQ.to aT);(try have cV:=cV.to aT);(try have ej:=cF.lt);(try have lt1_J_1_1:=cO.lt);(try have lt1_J_2_1:=cU.lt);(try have ek:=cG.lt);(try have lt1_K_1_1:=cQ.lt);(try have lt1_K_2_1:=cV.lt);(try (have ew:=cF;obtain ⟨fj,fk,fl,fB,fC,fD⟩:=ew));(try (have ey:=cO;obtain ⟨fm,fo,fp,fE,fF,fG⟩:=ey));(try (have ez:=cU;obtain ⟨fq,fs,ft,fH,fI,fJ⟩:=ez));(try (have eA:=cG;obtain ⟨fu,fw,fK,fL⟩:=eA));(try (have eB:=cQ;obtain ⟨fx,fy,fM,fN⟩:=eB));(try (have eC:=cV;obtain ⟨fz,fA,fO,fP⟩:=eC))))
  all_goals (go_wp2_with fail;go_meet)
  all_goals refine ⟨?_,rfl⟩
  all_goals first
   | (with_reducible show JK _ _ _ _ _ _ (.pointer (some ⟨W1.heap.size,0,none⟩)) (.pointer (some ⟨W1.heap.size+1,0,none⟩)) _;with_reducible exact zbl (cF) (cQ) (Nat.ne_of_lt (Nat.lt_succ_self _)) g2 hlo2 g2.hi (.inl dG) (.inl fe) gb (Nat.le_refl _) (Nat.le_succ_of_le (Nat.le_refl _)))
   | (with_reducible show JK _ _ _ _ _ _ (.pointer (some ⟨W1.heap.size+1,0,none⟩)) (.pointer (some ⟨W1.heap.size,0,none⟩)) _;with_reducible exact zbl (cO) (cG) (Ne.symm (Nat.ne_of_lt (Nat.lt_succ_self _))) g2 hlo2 g2.hi (.inl fd) (.inl dH) gb (Nat.le_succ_of_le (Nat.le_refl _)) (Nat.le_refl _))
   | (with_reducible show JK _ _ _ _ _ _ (.pointer (some ⟨W1.heap.size,0,none⟩)) (.pointer (some ⟨w1.heap.size,0,none⟩)) _;with_reducible exact zbl (cF) (di) (Nat.ne_of_lt (ej)) g2 hlo2 g2.hi (.inl dG) (.inl dK) gb (Nat.le_refl _) (cC))
   | (with_reducible show JK _ _ _ _ _ _ (.pointer (some ⟨W1.heap.size,0,none⟩)) (.pointer (some ⟨w1.heap.size+1,0,none⟩)) _;with_reducible exact zbl (cF) (dj) (Nat.ne_of_lt (Nat.lt_succ_of_lt (ej))) g2 hlo2 g2.hi (.inl dG) (.inl dL) gb (Nat.le_refl _) (Nat.le_succ_of_le (cC)))
   | (with_reducible show JK _ _ _ _ _ _ (.pointer (some ⟨W1.heap.size,0,none⟩)) (.pointer (some ⟨w2.heap.size,0,none⟩)) _;with_reducible exact zfL cF g2 hlo2 dG gb (Nat.le_refl _))
   | (with_reducible show JK _ _ _ _ _ _ (.pointer (some ⟨w1.heap.size,0,none⟩)) (.pointer (some ⟨W1.heap.size,0,none⟩)) _;with_reducible exact zbl (dg) (cG) (Ne.symm (Nat.ne_of_lt (ek))) g2 hlo2 g2.hi (.inl dI) (.inl dH) gb (cC) (Nat.le_refl _))
   | (with_reducible show JK _ _ _ _ _ _ (.pointer (some ⟨w1.heap.size+1,0,none⟩)) (.pointer (some ⟨W1.heap.size,0,none⟩)) _;with_reducible exact zbl (dh) (cG) (Ne.symm (Nat.ne_of_lt (Nat.lt_succ_of_lt (ek)))) g2 hlo2 g2.hi (.inl dJ) (.inl dH) gb (Nat.le_succ_of_le (cC)) (Nat.le_refl _))
   | (with_reducible show JK _ _ _ _ _ _ (.pointer (some ⟨w1.heap.size,0,none⟩)) (.pointer (some ⟨w1.heap.size+1,0,none⟩)) _;with_reducible exact zbl (dg) (dj) (Nat.ne_of_lt (Nat.lt_succ_self _)) g2 hlo2 g2.hi (.inl dI) (.inl dL) gb (cC) (Nat.le_succ_of_le (cC)))
   | (with_reducible show JK _ _ _ _ _ _ (.pointer (some ⟨w1.heap.size,0,none⟩)) (.pointer (some ⟨w1.heap.size+1+1,0,none⟩)) _;with_reducible exact zbl (dg) (dW) (Nat.ne_of_lt (Nat.lt_succ_of_lt (Nat.lt_succ_self _))) g2 hlo2 g2.hi (.inl dI) (.inl eu) gb (cC) (Nat.le_succ_of_le (Nat.le_succ_of_le (cC))))
   | (with_reducible show JK _ _ _ _ _ _ (.pointer (some ⟨w1.heap.size+1,0,none⟩)) (.pointer (some ⟨w1.heap.size,0,none⟩)) _;with_reducible exact zbl (dh) (di) (Ne.symm (Nat.ne_of_lt (Nat.lt_succ_self _))) g2 hlo2 g2.hi (.inl dJ) (.inl dK) gb (Nat.le_succ_of_le (cC)) (cC))
   | (with_reducible show JK _ _ _ _ _ _ (.pointer (some ⟨w1.heap.size+1,0,none⟩)) (.pointer (some ⟨w1.heap.size+1+1,0,none⟩)) _;with_reducible exact zbl (dh) (dW) (Nat.ne_of_lt (Nat.lt_succ_self _)) g2 hlo2 g2.hi (.inl dJ) (.inl eu) gb (Nat.le_succ_of_le (cC)) (Nat.le_succ_of_le (Nat.le_succ_of_le (cC))))
   | (with_reducible show JK _ _ _ _ _ _ (.pointer (some ⟨w1.heap.size+1+1,0,none⟩)) (.pointer (some ⟨w1.heap.size,0,none⟩)) _;with_reducible exact zbl (dV) (di) (Ne.symm (Nat.ne_of_lt (Nat.lt_succ_of_lt (Nat.lt_succ_self _)))) g2 hlo2 g2.hi (.inl et) (.inl dK) gb (Nat.le_succ_of_le (Nat.le_succ_of_le (cC))) (cC))
   | (with_reducible show JK _ _ _ _ _ _ (.pointer (some ⟨w1.heap.size+1+1,0,none⟩)) (.pointer (some ⟨w1.heap.size+1,0,none⟩)) _;with_reducible exact zbl (dV) (dj) (Ne.symm (Nat.ne_of_lt (Nat.lt_succ_self _))) g2 hlo2 g2.hi (.inl et) (.inl dL) gb (Nat.le_succ_of_le (Nat.le_succ_of_le (cC))) (Nat.le_succ_of_le (cC)))
   | (with_reducible show JK _ _ _ _ _ _ (.pointer (some ⟨w1.heap.size,0,none⟩)) (.pointer (some ⟨w2.heap.size,0,none⟩)) _;with_reducible exact zfL dg g2 hlo2 dI gb (cC))
   | (with_reducible show JK _ _ _ _ _ _ (.pointer (some ⟨w1.heap.size+1,0,none⟩)) (.pointer (some ⟨w2.heap.size,0,none⟩)) _;with_reducible exact zfL dh g2 hlo2 dJ gb (Nat.le_succ_of_le (cC)))
   | (with_reducible show JK _ _ _ _ _ _ (.pointer (some ⟨w2.heap.size,0,none⟩)) (.pointer (some ⟨W1.heap.size,0,none⟩)) _;with_reducible exact zfK cG g2 hlo2 dH gb (Nat.le_refl _))
   | (with_reducible show JK _ _ _ _ _ _ (.pointer (some ⟨w2.heap.size,0,none⟩)) (.pointer (some ⟨w1.heap.size,0,none⟩)) _;with_reducible exact zfK di g2 hlo2 dK gb (cC))
   | (with_reducible show JK _ _ _ _ _ _ (.pointer (some ⟨w2.heap.size,0,none⟩)) (.pointer (some ⟨w1.heap.size+1,0,none⟩)) _;with_reducible exact zfK dj g2 hlo2 dL gb (Nat.le_succ_of_le (cC)))
   | (with_reducible show JK _ _ _ _ _ _ (.pointer (some ⟨w2.heap.size,0,none⟩)) (.pointer (some ⟨w2.heap.size+1,0,none⟩)) _;with_reducible exact jk_new2 g2 gb)
   | (with_reducible show JK _ _ _ _ _ _ (.pointer (some ⟨w2.heap.size+1,0,none⟩)) (.pointer (some ⟨w2.heap.size,0,none⟩)) _;with_reducible exact jk_new2' g2 gb)
 case rest =>
 obtain ⟨⟨B5,B6,aJ,nJ,cJ,rfl,rfl,hB5,hB6,T5,T6,gJ,hcJ⟩,rfl⟩:=hcut
 clear aA aD aB aE aC aF a7 a9 a8 bc
 have gb:=hcJ
 obtain ⟨aA,aB,aC,a7,a8⟩:=b7.out _ gb
 obtain ⟨aD,aE,aF,a9,bc⟩:=jw.out _ gb
 obtain z1:=jx.out _ gb
 have z5:=T5.lt
 have z6:=T6.lt
 obtain ⟨bv,bw,bx,bJ,bK,bL⟩:=T5
 obtain ⟨ck,cm,cx,cy⟩:=T6
 clear hgb
 replace g0:=g0.to gb
 replace zb:=bS zb gb
 have HXwc:=Lib.hid (show ∀ W',Below wc.heap.size wc W'->(W'.cell? ⟨W00.heap.size,0,none⟩=some (.int .i64 1)/\W'.cell? ⟨W00.heap.size,1,none⟩=some (.int .i64 1)/\W'.cell? ⟨W00.heap.size,2,none⟩=some (.int .i64 1)/\W'.cell? ⟨W00.heap.size,3,none⟩=some (.int .i64 2)/\W'.cell? ⟨W00.heap.size,4,none⟩=some (.slice (some ⟨B0,0,none⟩) 3 3)/\W'.cell? ⟨B5,0,none⟩=some (.int .i64 (1))/\W'.cell? ⟨B5,1,none⟩=some (.int .i64 (1))/\W'.cell? ⟨B5,2,none⟩=some (.slice aJ nJ cJ)/\W'.cell? ⟨B6,0,none⟩=some (.int .i64 (3))/\W'.cell? ⟨B6,1,none⟩=some (.int .i64 (1))) from fun W' hb =>
  by and_intros <;> exact kc hb (by first|assumption|assumption))
 have HYwc:=Lib.hid (show ∀ W',Below wc.heap.size wc W'->(W'.frozen? ⟨W00.heap.size,0,none⟩=false/\W'.frozen? ⟨W00.heap.size,1,none⟩=false/\W'.frozen? ⟨W00.heap.size,2,none⟩=false/\W'.frozen? ⟨W00.heap.size,3,none⟩=false/\W'.frozen? ⟨W00.heap.size,4,none⟩=false/\W'.frozen? ⟨B5,0,none⟩=false/\W'.frozen? ⟨B5,1,none⟩=false/\W'.frozen? ⟨B5,2,none⟩=false/\W'.frozen? ⟨B6,0,none⟩=false/\W'.frozen? ⟨B6,1,none⟩=false) from fun W' hb =>
  by and_intros <;> refine (hb.frozen ?_).trans ?_ <;> first|assumption|assumption)
 have HZwc:=Lib.hid (show ∀ W',Below wc.heap.size wc W'->(W00.heap.size<W'.heap.size/\B5<W'.heap.size/\B6<W'.heap.size) from fun W' hb =>
  by and_intros <;> refine Nat.lt_of_lt_of_le ?_ hb.size <;> first|assumption)
 replace gb:=Below.refl wc.heap.size wc
 go_wp2_with fail
 have gK:RdR wc (.slice aJ nJ cJ) [zI ((9:Int):Rat)]:=gJ
 have HL9:=Lib.hid (show [zI ((9:Int):Rat)].length<=100000 by show 1<=100000;decide)
 go_region_held3 (fun W' => W'.cell? ⟨W00.heap.size,0,none⟩=some (.int .i64 1)/\W'.cell? ⟨W00.heap.size,1,none⟩=some (.int .i64 1)/\W'.cell? ⟨W00.heap.size,2,none⟩=some (.int .i64 1)/\W'.cell? ⟨W00.heap.size,3,none⟩=some (.int .i64 2)/\W'.cell? ⟨W00.heap.size,4,none⟩=some (.slice (some ⟨B0,0,none⟩) 3 3)/\W'.cell? ⟨B5,0,none⟩=some (.int .i64 (1))/\W'.cell? ⟨B5,1,none⟩=some (.int .i64 (1))/\W'.cell? ⟨B5,2,none⟩=some (.slice aJ nJ cJ)/\W'.cell? ⟨B6,0,none⟩=some (.int .i64 (3))/\W'.cell? ⟨B6,1,none⟩=some (.int .i64 (1))) (with_reducible first|(exact HXwc.out _ gb)|((refine HXwc.out _ ?_);first|((refine Below.drew ?_);first|(exact gb)|((refine bS ?_ (bN _ _));first|(exact gb)|((refine bS ?_ (bN _ _));exact gb)))|(first|(exact gb)|((refine bS ?_ (bN _ _));first|(exact gb)|((refine bS ?_ (bN _ _));exact gb))))) (first
  | (go_at_call 9;(refine zf w5 (by with_reducible first|exact Below.refl _ _|exact bN _ _) ?_);intro V6 hV6 iP;have g3:=g3.to iP;have gb:=bS gb iP;(with_reducible refine (zgu _ _ (g0.to gb)).mono ?_);rintro e w6 ⟨rfl,ef⟩;have g3:=g3.to ef;have gb:=bS gb ef;obtain ⟨aA,aB,aC,a7,a8,bv,bw,bx,ck,cm⟩:=HXwc.out _ gb;obtain ⟨aD,aE,aF,a9,bc,bJ,bK,bL,cx,cy⟩:=HYwc.out _ gb;obtain ⟨z1,z5,z6⟩:=HZwc.out _ gb)
  | (go_at_call 8;(refine zf w4 (by with_reducible first|exact Below.refl _ _|exact bN _ _) ?_);intro V5 hV5 iO;have g3:=g3.to iO;have gb:=bS gb iO;(with_reducible refine (zgv _ _ (g0.to gb)).mono ?_);rintro e w5 ⟨rfl,c9⟩;have g3:=g3.to c9;have gb:=bS gb c9;obtain ⟨aA,aB,aC,a7,a8,bv,bw,bx,ck,cm⟩:=HXwc.out _ gb;obtain ⟨aD,aE,aF,a9,bc,bJ,bK,bL,cx,cy⟩:=HYwc.out _ gb;obtain ⟨z1,z5,z6⟩:=HZwc.out _ gb)
  | (go_at_call 7;(refine zf w3 (by with_reducible first|exact Below.refl _ _|exact bN _ _) ?_);intro V4 j8 iN;have g3:=g3.to iN;have gb:=bS gb iN;have ia:Tri V4 (w3.heap.size) (.bool ng3) (.slice a3_ n3_ c3_) (.slice p3_ m3_ k3_):=(by rw [j8];with_reducible exact zd _ _ _ _ _);(with_reducible refine (zec 1 1 _ _ _ _ (gK.to gb) (zeo ia g3.isK) HL9.out).mono ?_);rintro e w4 ⟨rfl,dA⟩;have g3:=g3.to dA;have gb:=bS gb dA;obtain ⟨aA,aB,aC,a7,a8,bv,bw,bx,ck,cm⟩:=HXwc.out _ gb;obtain ⟨aD,aE,aF,a9,bc,bJ,bK,bL,cx,cy⟩:=HYwc.out _ gb;obtain ⟨z1,z5,z6⟩:=HZwc.out _ gb)
  | (go_at_call 6;(refine zf wc (by with_reducible first|exact (Below.refl _ _).drew|exact (bN _ _).drew) ?_);intro V3 hV3 jG;have gb:=bS gb jG;(with_reducible refine (ziK 9 9 _ rfl (by omega) (by omega)).mono ?_);rintro e w3 ⟨ng3,a3_,n3_,c3_,p3_,m3_,k3_,rfl,g3,bM⟩;have gb:=bS gb bM;obtain ⟨aA,aB,aC,a7,a8,bv,bw,bx,ck,cm⟩:=HXwc.out _ gb;obtain ⟨aD,aE,aF,a9,bc,bJ,bK,bL,cx,cy⟩:=HYwc.out _ gb;obtain ⟨z1,z5,z6⟩:=HZwc.out _ gb))
 go_wp2_with fail
 go_ret
 exact ⟨rfl,bS zb gb⟩

end Go.Proofs.Ytkjcdnlpjldhaaa


namespace Go.Proofs.Ytkjcdnlpjldhaaa
open Go.RowKit Tw

def XB' (n:Nat):Rat:=rat false (B ^ n) 1

theorem sz_powB (n:Nat):sz (B ^ n)=n+1:=by
 have hB:1<B:=by decide
 have h1:sz (B ^ n)<=n+1:=zcK (Nat.pow_lt_pow_right hB (Nat.lt_succ_self n))
 have h2:=zcJ (B ^ n)
 rcases Nat.lt_or_ge n (sz (B ^ n)) with h|h
 ·omega
 ·exact absurd (Nat.lt_of_lt_of_le h2 (Nat.pow_le_pow_right (by omega) h)) (Nat.lt_irrefl _)

theorem zcf (n:Nat):szq (XB' n)=n+1:=by
 unfold XB' szq
 rw [zer (by decide),zeq (by decide),Nat.gcd_one_right,Nat.div_one,Nat.div_one,sz_powB]
 have:sz 1<=1:=zbM (by decide)
 omega

theorem XB_mul (n m:Nat):XB' n*XB' m=XB' (n+m):=by
 unfold XB'
 rw [zde,Nat.pow_add]
 rfl

theorem XB_zero:XB' 0=1:=by
 unfold XB'
 rw [Nat.pow_zero]
 decide +kernel

theorem XB_pow (n:Nat):∀ b:Nat,XB' n ^ b=XB' (n*b)
 | 0 => by rw [Rat.pow_zero,Nat.mul_zero,XB_zero]
 | b+1 => by rw [Rat.pow_succ,XB_pow n b,XB_mul,Nat.mul_succ]

def z3:Rt:=⟨false,[],[]⟩

def zbk:Ins:=⟨0,0,0,0,z3⟩

def zag:Ins:=⟨8,0,0,0,z3⟩

def zX (b:Int):Ins:=⟨7,0,0,b,z3⟩

def pB:List Rat:=[XB' 1]

section

variable {s:St} {j k:Nat} {tail:List Ins}

theorem ziT {R:Int->Rat}:opE R zag=0:=rfl

theorem zeu {R:Int->Rat} (h:R 0=XB' (2 ^ j)):opV pB R zag=XB' (2 ^ (j+1)):=by
 show R 0*R 0=_
 rw [h,XB_mul]
 congr 1
 rw [Nat.pow_succ]
 omega

theorem zgS (h:j<=11):2 ^ j<=2048:=Nat.le_trans (Nat.pow_le_pow_right (by decide) h) (by decide)

theorem tim_ok (h:s.R 0=XB' (2 ^ j)) (hj:j+1<=11):zB pB s.R zag=0:=by
 unfold zB
 rw [ziT,if_neg (by decide),zeu h,zcf,if_neg (fun k => by have:=zgS hj;have:=k.2;omega)]

theorem tim_long (h:s.R 0=XB' (2 ^ 11)):zB pB s.R zag=4:=by
 unfold zB
 rw [ziT,if_neg (by decide),zeu h,zcf,if_pos ⟨by decide,by decide⟩]

theorem zhl (h:s.R 0=XB' (2 ^ j)):(s.next pB zag).R 0=XB' (2 ^ (j+1))/\(s.next pB zag).k=s.k+1/\(s.next pB zag).t=s.t+1:=by
 unfold St.next
 rw [if_neg (by decide)]
 refine ⟨?_,rfl,?_⟩
 ·show upd s.R 0 (opV pB s.R zag) 0=_
  rw [zbh,zeu h]
 ·show (if zag.op=8 then s.t+1 else s.t)=_
  exact if_pos (show (8:Int)=8 from rfl)

theorem zeT (h:s.R 0=XB' (2 ^ j)) (hj:j<=11):opE s.R zag=0->szq (opV pB s.R zag)<=4097/\(zag.op=7->szq (s.R zag.a)*zag.b.natAbs<4097):=fun _ => by
 refine ⟨?_,fun k => absurd k (by decide)⟩
 rw [zeu h,zcf]
 have:=Nat.pow_le_pow_right (show 0<2 by decide) (show j+1<=12 by omega)
 have e:2 ^ 12=4096:=by decide
 omega

theorem zdM:∀ (k j:Nat) (s:St),s.R 0=XB' (2 ^ j)->j+k<=11->∃ s':St,s'.R 0=XB' (2 ^ (j+k))/\s'.k=s.k+k/\s'.t=s.t+k /\
  ∀ tail,zci pB s (List.replicate k zag++tail)=zci pB s' tail/\zbg pB s (List.replicate k zag++tail)=zbg pB s' tail/\(zaL 4097 pB s' tail->zaL 4097 pB s (List.replicate k zag++tail))
 | 0,j,s,h,_ => ⟨s,h,by omega,by omega,fun tail => ⟨rfl,rfl,id⟩⟩
 | k+1,j,s,h,hj => by
  obtain ⟨h1,h2,h3⟩:=zhl h
  obtain ⟨s',e1,e2,e3,e4⟩:=zdM k (j+1) _ h1 (by omega)
  refine ⟨s',by rw [e1];congr 2;omega,by rw [e2,h2];omega,by rw [e3,h3];omega,fun tail => ?_⟩
  have hs:=tim_ok h (by omega)
  obtain ⟨f1,f2,f3⟩:=e4 tail
  rw [List.replicate_succ,List.cons_append]
  refine ⟨?_,f2,fun hf => ⟨zeT h (by omega),fun _ => f3 hf⟩⟩
  show (if zB pB s.R zag≠0 then _ else _)=_
  rw [if_neg (by rw [hs];decide)]
  exact f1

theorem zeU:∀ (k j:Nat) (s:St) (tail:List Ins),s.R 0=XB' (2 ^ j)->j<=11->12<=j+k->zci pB s (List.replicate k zag++tail)=4/\zaL 4097 pB s (List.replicate k zag++tail)
 | 0,j,s,tail,h,h1,h2 => by omega
 | k+1,j,s,tail,h,h1,h2 => by
  rw [List.replicate_succ,List.cons_append]
  by_cases hj:j=11
  ·subst hj
   have hs:=tim_long h
   refine ⟨?_,zeT h (by omega),fun k => by rw [hs] at k;exact absurd k (by decide)⟩
   show (if zB pB s.R zag≠0 then _ else _)=_
   rw [if_pos (by rw [hs];decide),hs]
  ·have hs:=tim_ok h (by omega)
   obtain ⟨f1,f2⟩:=zeU k (j+1) _ tail (zhl h).1 (by omega) (by omega)
   refine ⟨?_,zeT h (by omega),fun _ => f2⟩
   show (if zB pB s.R zag≠0 then _ else _)=_
   rw [if_neg (by rw [hs];decide)]
   exact f1

end

def s1:St:=St.zero.next pB zbk

theorem inp_V {R:Int->Rat}:opV pB R zbk=XB' 1:=rfl

theorem inp_ok:zB pB St.zero.R zbk=0:=by
 unfold zB
 rw [if_neg (by decide),inp_V,zcf,if_neg (by decide)]

theorem s1_R:s1.R 0=XB' (2 ^ 0):=by
 unfold s1 St.next
 rw [if_neg (show ¬ zbk.op=10 by decide)]
 show upd St.zero.R 0 (opV pB St.zero.R zbk) 0=_
 rw [zbh]
 rfl

theorem zfJ (l:List Ins):zci pB St.zero (zbk :: l)=zci pB s1 l/\zbg pB St.zero (zbk :: l)=zbg pB s1 l/\(zaL 4097 pB s1 l->zaL 4097 pB St.zero (zbk :: l)):=by
 refine ⟨?_,rfl,fun h => ⟨fun _ => ⟨by rw [inp_V,zcf];decide,fun k => absurd k (by decide)⟩,fun _ => h⟩⟩
 show (if zB pB St.zero.R zbk≠0 then _ else _)=_
 rw [if_neg (by rw [inp_ok];decide)]
 rfl

def cL (k:Nat) (tail:List Ins):Cd:=⟨1,1,1,1,zbk :: (List.replicate k zag++tail)⟩

theorem zit {k:Nat} {tail:List Ins} (hk:12<=k):zci pB St.zero (cL k tail).all=4/\zaL 4097 pB St.zero (cL k tail).all:=by
 have h:=zeU k 0 s1 tail s1_R (by decide) (by omega)
 have hi:=zfJ (List.replicate k zag++tail)
 exact ⟨hi.1.trans h.1,hi.2.2 h.2⟩

theorem cL_in {k:Nat} (hk:k<=11):zci pB St.zero (cL k []).all=0/\zaL 4097 pB St.zero (cL k []).all/\(zbg pB St.zero (cL k []).all).k=k+1/\(zbg pB St.zero (cL k []).all).t=k:=by
 obtain ⟨s',e1,e2,e3,e4⟩:=zdM k 0 s1 s1_R (by omega)
 have hi:=zfJ (List.replicate k zag++[])
 obtain ⟨f1,f2,f3⟩:=e4 []
 refine ⟨hi.1.trans f1,hi.2.2 (f3 trivial),?_,?_⟩
 ·show (zbg pB St.zero (zbk :: (List.replicate k zag++[]))).k=_
  rw [hi.2.1,f2]
  show s'.k=_
  rw [e2]
  show (0:Int)+1+_=_
  omega
 ·show (zbg pB St.zero (zbk :: (List.replicate k zag++[]))).t=_
  rw [hi.2.1,f2]
  show s'.t=_
  rw [e3]
  show (0:Int)+_=_
  omega

theorem zdo {k b:Nat} (hk:k<=11):zci pB St.zero (cL k [zX b]).all=(if 4096<(2 ^ k+1)*b then 4 else 0)/\zaL 4097 pB St.zero (cL k [zX b]).all/\(zbg pB St.zero (cL k [zX b]).all).k=k+2/\(zbg pB St.zero (cL k [zX b]).all).t=k:=by
 obtain ⟨s',e1,e2,e3,e4⟩:=zdM k 0 s1 s1_R (by omega)
 have hi:=zfJ (List.replicate k zag++[zX b])
 obtain ⟨f1,f2,f3⟩:=e4 [zX b]
 rw [Nat.zero_add] at e1
 have hO:opE s'.R (zX b)=if 4096<(2 ^ k+1)*b then 4 else 0:=by
  have h:=ziw (R:=s'.R) (x:=zX (b:Int)) rfl
  have h0:¬ (s'.R (zX (b:Int)).a=0/\(zX (b:Int)).b<0):=fun q => absurd q.2 (show ¬ ((b:Int)<0) by omega)
  rw [if_neg h0] at h
  have e0:s'.R (zX (b:Int)).a=XB' (2 ^ k):=e1
  rw [e0,zcf] at h
  exact h
 have hV:opV pB s'.R (zX b)=XB' (2 ^ k*b):=by
  have h:=ziA (p:=pB) (R:=s'.R) (x:=zX (b:Int)) rfl
  have h0:¬ ((zX (b:Int)).b<0):=show ¬ ((b:Int)<0) by omega
  rw [if_neg h0] at h
  have e0:s'.R (zX (b:Int)).a=XB' (2 ^ k):=e1
  rw [e0,XB_pow] at h
  exact h
 have hle:¬ 4096<(2 ^ k+1)*b->2 ^ k*b+1<=4097/\¬ 4096<2 ^ k*b+1:=fun h => by
  rw [Nat.add_mul,Nat.one_mul] at h
  rcases Nat.eq_zero_or_pos b with hb|hb
  ·subst hb;rw [Nat.mul_zero];omega
  ·omega
 have hS:zB pB s'.R (zX b)=if 4096<(2 ^ k+1)*b then 4 else 0:=by
  unfold zB
  rw [hO]
  by_cases h:4096<(2 ^ k+1)*b
  ·rw [if_pos h,if_pos (by decide)]
  ·rw [if_neg h,if_neg (by decide),hV,zcf,if_neg (fun q => (hle h).2 q.2)]
 refine ⟨?_,hi.2.2 (f3 ⟨fun h0 => ?_,fun _ => trivial⟩),?_,?_⟩
 ·show zci pB St.zero (zbk :: (List.replicate k zag++[zX b]))=_
  rw [hi.1,f1]
  show (if zB pB s'.R (zX b)≠0 then zB pB s'.R (zX b) else 0)=_
  rw [hS]
  by_cases h:4096<(2 ^ k+1)*b
  ·rw [if_pos h,if_pos (by decide)]
  ·rw [if_neg h,if_neg (by decide)]
 ·have h:¬ 4096<(2 ^ k+1)*b:=fun k => by rw [hO,if_pos k] at h0;exact absurd h0 (by decide)
  rw [hV,zcf]
  refine ⟨by have:=(hle h).1;omega,fun _ => ?_⟩
  show szq (s'.R 0)*(b:Int).natAbs<4097
  rw [e1,zcf,Int.natAbs_natCast]
  omega
 ·show (zbg pB St.zero (zbk :: (List.replicate k zag++[zX b]))).k=_
  rw [hi.2.1,f2]
  show (s'.next pB (zX b)).k=_
  unfold St.next
  rw [if_neg (show ¬ (zX b).op=10 by show ¬ (7:Int)=10;decide)]
  show s'.k+1=_
  rw [e2]
  show (0:Int)+1+_+1=_
  omega
 ·show (zbg pB St.zero (zbk :: (List.replicate k zag++[zX b]))).t=_
  rw [hi.2.1,f2]
  show (s'.next pB (zX b)).t=_
  unfold St.next
  rw [if_neg (show ¬ (zX b).op=10 by show ¬ (7:Int)=10;decide)]
  show (if (7:Int)=8 then s'.t+1 else s'.t)=_
  rw [if_neg (by decide),e3]
  show (0:Int)+_=_
  omega

theorem ok_tim {l:List Ins} {L:List Int} (h:(0:Int) ∈ L):zw ⟨1,1,1,1,l⟩ L zag=true:=by
 have e:zh 8=2:=by decide
 unfold zw zbo aOk bOk zJ zag z3
 simp [e,h]

theorem ok_pow {l:List Ins} {L:List Int} {b:Nat} (h:(0:Int) ∈ L) (hb:b<=21):zw ⟨1,1,1,1,l⟩ L (zX b)=true:=by
 have e:zh 7=1:=by decide
 unfold zw zbo aOk bOk zJ zX z3
 simp [e,h]
 omega

theorem ok_inp {l:List Ins}:zw ⟨1,1,1,1,l⟩ [] zbk=true:=by
 have e:zh 0=0:=by decide
 unfold zw zbo aOk bOk zJ zbk z3
 simp [e]

theorem zgO {l:List Ins}:∀ (k:Nat) (L:List Int) (tail:List Ins),(0:Int) ∈ L->(∀ L',(0:Int) ∈ L'->zaj ⟨1,1,1,1,l⟩ L' tail=true)->zaj ⟨1,1,1,1,l⟩ L (List.replicate k zag++tail)=true
 | 0,L,tail,h,ht => ht L h
 | k+1,L,tail,h,ht => by
  rw [List.replicate_succ,List.cons_append]
  unfold zaj
  rw [ok_tim h,Bool.true_and]
  refine zgO k _ tail ?_ ht
  unfold more
  rw [if_neg (by decide)]
  exact List.mem_append_left _ h

theorem zgw {k:Nat} {tail:List Ins} (hk:k<=14) (hl:tail.length<=2) (ht:∀ l L',(0:Int) ∈ L'->zaj ⟨1,1,1,1,l⟩ L' tail=true):zS (cL k tail)=true:=by
 unfold zS
 rw [Bool.and_eq_true]
 constructor
 ·unfold zbV
  refine decide_eq_true ⟨?_,?_,?_,?_,?_,?_,?_,?_⟩
  ·show (1:Int)<=1;decide
  ·show (1:Int)<=40;decide
  ·show (1:Int)<=1;decide
  ·show (1:Int)<=40;decide
  ·rfl
  ·show (0:Int)<=1;decide
  ·show (1:Int)<=100000;decide
  ·show (zbk :: (List.replicate k zag++tail)).length<=100000
   rw [List.length_cons,List.length_append,List.length_replicate]
   omega
 ·show (zw _ [] zbk && zaj _ (more [] zbk) (List.replicate k zag++tail))=true
  rw [show zw (cL k tail) [] zbk=true from ok_inp,Bool.true_and]
  exact zgO k _ tail (by unfold more;rw [if_neg (by decide)];exact List.mem_append_right _ (List.mem_singleton.2 rfl)) (ht _)

theorem zfj {k:Nat} (hk:k<=14):zS (cL k [])=true:=zgw hk (by decide) (fun _ _ _ => rfl)

theorem zfk {k b:Nat} (hk:k<=14) (hb:b<=21):zS (cL k [zX b])=true:=zgw hk (show 1<=2 by decide) (fun l L h => by
 unfold zaj
 rw [ok_pow h hb]
 rfl)

theorem zeg {k:Nat} {tail:List Ins} (hr:zS (cL k tail)=true):runO (cL k tail) pB 1=zci pB St.zero (cL k tail).all:=by
 unfold runO
 rw [if_neg (by rw [hr];decide),if_neg (fun k => k rfl)]

theorem zbm:(Rt.num ⟨false,[0,1],[1]⟩)=XB' 1:=by
 unfold Rt.num XB'
 simp only [val]
 congr 1
end Go.Proofs.Ytkjcdnlpjldhaaa

