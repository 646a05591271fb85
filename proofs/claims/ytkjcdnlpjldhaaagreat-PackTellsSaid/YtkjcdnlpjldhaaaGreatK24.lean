/-
  The texts PackCode, PackDec, merged.
-/
import Derived.Test.YtkjcdnlpjldhaaaGreatK23
import Derived.Test.YtkjcdnlpjldhaaaGreatK21
import Derived.Deep.RegionHeld3
import Derived.Deep.RegionWith
import Derived.Deep.RegionLaw
import Derived.RegionTactic
import Derived.Laws.Pointers
set_option linter.unusedVariables false
set_option linter.unusedSimpArgs false
set_option maxRecDepth 100000
set_option maxHeartbeats 400000000
namespace Go.Proofs.YtkjcdnlpjldhaaaGreat
open Go.RowKit Tw
attribute [local go_sem ↓] Go.wp_at_zero Go.wp_at_succ

def zbd (R base:Nat) (w:World) (v:Value) (l:List Ins):Prop :=
 ∃ xs,w.ownsRow base 49 7 v l.length xs/\∀ k (h:k<l.length),∃ a n c a' n' c',(∀ j,j<7->xs[k*7+j]?=(zaZ l[k] (.slice a n c) (.slice a' n' c'))[j]?) /\
  Rd w (.slice a n c) l[k].q.n/\Rd w (.slice a' n' c') l[k].q.d/\Far (.slice a n c) v.ownBlock/\Far (.slice a' n' c') v.ownBlock/\I64X l[k]/\Far (.slice a n c) (some R)/\Far (.slice a' n' c') (some R)

section

variable {R base:Nat} {w w':World} {v:Value} {l:List Ins} {xs:List Value} {g cap n c n' c':Nat} {a a':Option Addr} {x:Ins}

theorem zbd.toI (h:zbd R base w v l):zaW base w v l:=by
 obtain ⟨xs,h1,h2⟩:=h
 refine ⟨xs,h1,fun k hk => ?_⟩
 obtain ⟨a,n,c,a',n',c',s,k1,k2,f1,f2,i,_⟩:=h2 k hk
 exact ⟨a,n,c,a',n',c',s,k1,k2,f1,f2,i⟩

theorem zbd.nil (R base:Nat) (w:World):zbd R base w (.slice none 0 0) []:=⟨[],World.ownsRow_nil w base _ 7,fun k h => absurd h (by simp)⟩

theorem zbd.to (h:zbd R base w v l) (hb:Below w.heap.size w w'):zbd R base w' v l:=by
 obtain ⟨xs,h1,h2⟩:=h
 refine ⟨xs,zbq h1 hb,fun k hk => ?_⟩
 obtain ⟨a,n,c,a',n',c',s,k1,k2,f1,f2,i⟩:=h2 k hk
 exact ⟨a,n,c,a',n',c',s,k1.to hb,k2.to hb,f1,f2,i⟩

theorem zbd.grownR (h:zbd R base w v l) (hg:w.grownBy w' (some R)) (hR:R<base):zbd R base w' v l:=by
 obtain ⟨xs,h1,h2⟩:=h
 refine ⟨xs,⟨h1.1,?_⟩,fun k hk => ?_⟩
 ·rcases h1.2 with h3|⟨g,cap,cur,hv,hg',hh,r⟩
  ·exact .inl h3
  ·refine .inr ⟨g,cap,cur,hv,hg',?_,r⟩
   rw [hg.block g (Array.getElem?_eq_some_iff.1 hh).1 (fun e => by injection e with e;omega)]
   exact hh
 ·obtain ⟨a,n,c,a',n',c',s,k1,k2,f1,f2,i,f3,f4⟩:=h2 k hk
  exact ⟨a,n,c,a',n',c',s,k1.grown hg f3,k2.grown hg f4,f1,f2,i,f3,f4⟩

theorem zbd.push (h:zbd R base w v l) (hx:w.ownsRow base 49 7 v l.length xs)
  (hown:w'.ownsRow base 49 7 (.slice (some ⟨g,0,none⟩) (l.length+1) cap) (l.length+1) (xs++zaZ x (.slice a n c) (.slice a' n' c'))) (hgrow:w.grownBy w' v.ownBlock) (hat:v.ownBlock=some g\/g=w.heap.size)
  (hn:Rd w (.slice a n c) x.q.n) (hd:Rd w (.slice a' n' c') x.q.d) (f1:Far (.slice a n c) v.ownBlock) (f2:Far (.slice a' n' c') v.ownBlock) (hi:I64X x) (f3:Far (.slice a n c) (some R)) (f4:Far (.slice a' n' c') (some R)):zbd R base w' (.slice (some ⟨g,0,none⟩) (l.length+1) cap) (l++[x]):=by
 have hl:(l++[x]).length=l.length+1:=by simp
 obtain ⟨ys,hy,h2⟩:=h
 obtain rfl:=zdu hx hy
 have hlen:xs.length=l.length*7:=hx.1
 have far:∀ {s:Value} {l:List Nat},Rd w s l->Far s v.ownBlock->Far s (some g):=fun hr hf => by
  rcases hat with e|e
  ·rw [<- e];exact hf
  ·exact hr.far_new (by omega)
 refine ⟨_,by rw [hl];exact hown,fun k hk' => ?_⟩
 rcases Nat.lt_or_ge k l.length with hlt|hge
 ·obtain ⟨a1,n1,c1,a1',n1',c1',s,k1,k2,g1,g2,i⟩:=h2 k hlt
  rw [List.getElem_append_left hlt]
  exact ⟨a1,n1,c1,a1',n1',c1',fun j hj => by rw [List.getElem?_append_left (by omega)];exact s j hj,k1.grown hgrow g1,k2.grown hgrow g2,far k1 g1,far k2 g2,i⟩
 ·have e:k=l.length:=by omega
  subst e
  have ex:(l++[x])[l.length]=x:=by simp
  rw [ex]
  exact ⟨a,n,c,a',n',c',fun j hj => by rw [List.getElem?_append_right (by omega),hlen,Nat.add_sub_cancel_left],hn.grown hgrow f1,hd.grown hgrow f2,far hn f1,far hd f2,hi,f3,f4⟩

theorem zbd.setP {B o:Nat} (k:zbd R base w v l) (hne:v.ownBlock≠some B) {c0:Value} (hc:w.cell? ⟨B,o,none⟩=some c0) (hn:∀ z,c0≠.int .u32 z) (x:Value):zbd R base (w.setCell ⟨B,o,none⟩ x) v l:=by
 obtain ⟨xs,h1,h2⟩:=k
 refine ⟨xs,Go.ownsRow_setCell_other h1 (fun e => hne e) x,fun k hk => ?_⟩
 obtain ⟨a,n,c,a',n',c',s,k1,k2,f1,f2,i⟩:=h2 k hk
 exact ⟨a,n,c,a',n',c',s,k1.put hc hn x,k2.put hc hn x,f1,f2,i⟩

theorem far_R {lo R:Nat} {w:World} {v:Value} {l:List Nat} (h:Own lo w v l) (hr:∀ q,some R=some q->q<lo):Far v (some R):=Far.of_lt (v:=.slice (some ⟨R,0,none⟩) 0 0) h hr

theorem ziE (w:World) {ops:Array Oper} {o:Oper} {ac:Act} {K:Act->World->Prop} {Q:Exit->Act->World->Prop} {E:Prop} (hg:o.guard=none)
  (s z:Operand) (ho:o.op=Op.call { callee:=Callee.builtin Builtin.append,args:=#[s,z],argTypes:=#[22,22] })
  (R base:Nat) (v:Value) (l:List Ins) (B:Nat) (y:Ins) (a1:Option Addr) (n1 c1:Nat) (a2:Option Addr) (n2 c2:Nat) (hs:ac.eval s=v) (hx:ac.eval z=.slice (some ⟨B,0,none⟩) 1 1) (hown:zbd R base w v l)
  (hcell:∀ j u,(zaZ y (.slice a1 n1 c1) (.slice a2 n2 c2))[j]?=some u->w.cell? ((⟨B,0,none⟩:Addr).add j)=some u)
  (hn:Rd w (.slice a1 n1 c1) y.q.n) (hd:Rd w (.slice a2 n2 c2) y.q.d) (f1:Far (.slice a1 n1 c1) v.ownBlock) (f2:Far (.slice a2 n2 c2) v.ownBlock) (hi:I64X y) (f3:Far (.slice a1 n1 c1) (some R)) (f4:Far (.slice a2 n2 c2) (some R)) (hl:l.length<=100000) (hb:base<=w.heap.size) (H:Nat) (hH:w.heap.size=H)
  (hK:∀ g c w',zbd R base w' (.slice (some ⟨g,0,none⟩) (l.length+1) c) (l++[y])->w.grownBy w' v.ownBlock->(v.ownBlock=some g\/g=H)->g<w'.heap.size->K (ac.put o.dst (.slice (some ⟨g,0,none⟩) (l.length+1) c)) w') :
  if Region.wanted o (yielded ops ac.tmps)=true then Oper.wp Tryz.prog o ac w K Q else E:=by
 obtain ⟨i0,hi0,hz0,hz1,hz2⟩:=info_parts zii
 obtain ⟨xs,hxs⟩:=hown.toI.len
 refine step_append_lies w hg s z 22 ho base 49 i0 _ 7 88 Tryz.underlying22 hi0 hz0 hz1 hz2 rfl (by decide) v l.length xs hs hxs ⟨B,0,none⟩ 1 1 (zaZ y (.slice a1 n1 c1) (.slice a2 n2 c2))
  hx rfl hcell zjS (by decide) (by simp [maxLen];omega) (by omega) hb H hH ?_
 intro g c w' hown' hgrow hat hlt
 exact hK g c w' (hown.push hxs hown' hgrow (by rw [hH];exact hat) hn hd f1 f2 hi f3 f4) hgrow hat hlt

end

def B1 (w:World) (B:Nat) (v:Value):Prop:=B<w.heap.size/\w.cell? ⟨B,0,none⟩=some v/\w.frozen? ⟨B,0,none⟩=false

theorem B1.to {w w':World} {B:Nat} {v:Value} (h:B1 w B v) (hb:Below w.heap.size w w'):B1 w' B v :=
 ⟨Nat.lt_of_lt_of_le h.1 hb.size,(hb.cell (p:=⟨B,0,none⟩) h.1).trans h.2.1,(hb.frozen (p:=⟨B,0,none⟩) h.1).trans h.2.2⟩

theorem B1.grown {w w':World} {row:Option Nat} {B:Nat} {v:Value} (h:B1 w B v) (hg:w.grownBy w' row) (hne:row≠some B):B1 w' B v :=
 ⟨Nat.lt_of_lt_of_le h.1 hg.size,hg.cell h.2.1 (fun e => hne e.symm),(zB hg h.1 hne).trans h.2.2⟩

theorem B1.other {w:World} {B B' o:Nat} {v x:Value} (h:B1 w B v) (hne:B≠B'):B1 (w.setCell ⟨B',o,none⟩ x) B v :=
 ⟨by simp [go_sem];exact h.1,cP h.2.1 (.inl hne) _,by simp [go_sem,h.2.2]⟩

theorem B1.put {w:World} {B:Nat} {v:Value} (h:B1 w B v) (x:Value):B1 (w.setCell ⟨B,0,none⟩ x) B x :=
 ⟨by simp [go_sem];exact h.1,zk h.2.1 _,by simp [go_sem,h.2.2]⟩

theorem B5.put5' {w:World} {B:Nat} {v0 v1 v2 v3 v4:Value} (h:B5 w B v0 v1 v2 v3 v4) (u0 u1 u2 u3 u4:Value) :
  B5 (((((w.setCell ⟨B,0,none⟩ u0).setCell ⟨B,1,none⟩ u1).setCell ⟨B,2,none⟩ u2).setCell ⟨B,3,none⟩ u3).setCell ⟨B,4,none⟩ u4) B u0 u1 u2 u3 u4:=by
 obtain ⟨z,a0,a1,a2,a3,a4,f0,f1,f2,f3,f4⟩:=h
 refine ⟨by simp [go_sem];exact z,?_,?_,?_,?_,?_,?_,?_,?_,?_,?_⟩
 ·exact cP (cP (cP (cP (zk a0 _) (.inr (by decide)) _) (.inr (by decide)) _) (.inr (by decide)) _) (.inr (by decide)) _
 ·exact cP (cP (cP (zk (cP a1 (.inr (by decide)) _) _) (.inr (by decide)) _) (.inr (by decide)) _) (.inr (by decide)) _
 ·exact cP (cP (zk (cP (cP a2 (.inr (by decide)) _) (.inr (by decide)) _) _) (.inr (by decide)) _) (.inr (by decide)) _
 ·exact cP (zk (cP (cP (cP a3 (.inr (by decide)) _) (.inr (by decide)) _) (.inr (by decide)) _) _) (.inr (by decide)) _
 ·exact zk (cP (cP (cP (cP a4 (.inr (by decide)) _) (.inr (by decide)) _) (.inr (by decide)) _) (.inr (by decide)) _) _
 all_goals simp [go_sem,f0,f1,f2,f3,f4]

theorem zhT (w:World) (B n:Nat) (u0 u1 u2 u3 u4:Value) (h:n<=B):Below n w (((((w.setCell ⟨B,0,none⟩ u0).setCell ⟨B,1,none⟩ u1).setCell ⟨B,2,none⟩ u2).setCell ⟨B,3,none⟩ u3).setCell ⟨B,4,none⟩ u4) :=
 (((((Below.refl _ _).setCell h _).setCell h _).setCell h _).setCell h _).setCell h _

theorem B1.other5 {w:World} {C:Nat} {v:Value} (h:B1 w C v) (B:Nat) (u0 u1 u2 u3 u4:Value) (hne:C≠B):B1 (((((w.setCell ⟨B,0,none⟩ u0).setCell ⟨B,1,none⟩ u1).setCell ⟨B,2,none⟩ u2).setCell ⟨B,3,none⟩ u3).setCell ⟨B,4,none⟩ u4) C v :=
 ((((h.other hne).other hne).other hne).other hne).other hne

def zdk (w:World) (b c:Nat):World:=(((((w.setCell ⟨b,0,none⟩ (.int .i64 0)).setCell ⟨b,1,none⟩ (.int .i64 0)).setCell ⟨b,2,none⟩ (.int .i64 0)).setCell ⟨b,3,none⟩ (.int .i64 0)).setCell ⟨b,4,none⟩ (.slice none 0 0)).setCell ⟨c,0,none⟩ (.int .i64 11)

theorem zgb (b c:Nat) (v0 v1 v2 v3 v4 x pv:Value) (u:TypeId) (older:List PanicEntry) (w:World) (hC:B5 w b v0 v1 v2 v3 v4) (hE:B1 w c x) (hne:¬ (b=c)) :
  CallsD Tryz.prog 78 #[.pointer (some ⟨b,0,none⟩),.pointer (some ⟨c,0,none⟩)] (.panicking ({ v:=.iface u pv,recovered:=false } :: older)) w fun e u' w' =>
   e=.returned (.tuple #[])/\u'=.panicking ({ v:=.iface u pv,recovered:=true } :: older)/\w'=zdk w b c:=by
 obtain ⟨z,a0,a1,a2,a3,a4,f0,f1,f2,f3,f4⟩:=hC
 obtain ⟨y,e0,g0⟩:=hE
 refine callsD_of_wpS Tryz.func78 rfl fun c₀ cs hu => ?_
 apply wpS_seq
 apply wpS_region
 simp [wpOpsS,go_sem,recoverD,hu,Tryz.ntmps78,Exit.thenS]
 refine wpS_cond (t:=true) (by simp [Act.eval,Array.replicate]) ?_
 simp only [if_true]
 apply wpS_region
 simp [wpOpsS,go_sem,a0,a1,a2,a3,a4,f0,f1,f2,f3,f4,e0,g0,bodyPostS,results,Tryz.results78]
 rfl

theorem zhV (p q:Addr) (w:World) :
  CallsD Tryz.prog 78 #[.pointer (some p),.pointer (some q)] .returning w fun e u' w' => e=.returned (.tuple #[])/\u'=.returning/\w'=w:=by
 refine callsD_of_wpS Tryz.func78 rfl fun c₀ cs hu => ?_
 apply wpS_seq
 apply wpS_region
 simp [wpOpsS,go_sem,recoverD,hu,Tryz.ntmps78,Exit.thenS]
 refine wpS_cond (t:=false) (by simp [Act.eval,Array.replicate]) ?_
 simp only [Bool.false_eq_true,if_false]
 refine wpS_of_wp (wp_skip ?_)
 cases c₀
 simp_all [bodyPostS,results,Tryz.results78]

theorem zfj {fn:Func} {k j:Tmp} (h:fn.results=#[.cell k 24,.cell j 35]) (tmps:Array Value) (w:World) (b c:Nat) {v0 v1 v2 v3 v4 x:Value} (hk:tmps.getD k undef=.pointer (some ⟨b,0,none⟩)) (hj:tmps.getD j undef=.pointer (some ⟨c,0,none⟩))
  (t:B5 w b v0 v1 v2 v3 v4) (s:B1 w c x):(results fn tmps).run Tryz.prog w=.ok (.tuple #[.agg #[v0,v1,v2,v3,v4],x]) w:=by
 obtain ⟨z,a0,a1,a2,a3,a4,_⟩:=t
 have hl:(loadVar 24 ⟨b,0,none⟩).run Tryz.prog w=.ok (.agg #[v0,v1,v2,v3,v4]) w:=by simp [go_sem,a0,a1,a2,a3,a4]
 have hm:(loadVar 35 ⟨c,0,none⟩).run Tryz.prog w=.ok x w:=by simp [go_sem,s.2.1]
 have hk':tmps[k]?.getD undef=.pointer (some ⟨b,0,none⟩):=by simpa using hk
 have hj':tmps[j]?.getD undef=.pointer (some ⟨c,0,none⟩):=by simpa using hj
 simp [results,h,asAddr,Sem.run_bind,hl,hm,Result.andThen,hk',hj']

theorem zfp {w:World} {b c:Nat} {v0 v1 v2 v3 v4 x:Value} (hC:B5 w b v0 v1 v2 v3 v4) (hE:B1 w c x) (hne:¬ (b=c)) :
  B5 (zdk w b c) b (.int .i64 0) (.int .i64 0) (.int .i64 0) (.int .i64 0) (.slice none 0 0)/\B1 (zdk w b c) c (.int .i64 11) :=
 ⟨(B5.put5' hC _ _ _ _ _).other hne,(((((hE.other (fun e => hne e.symm)).other (fun e => hne e.symm)).other (fun e => hne e.symm)).other (fun e => hne e.symm)).other (fun e => hne e.symm)).put _⟩

theorem zW (b c:Nat) {v0 v1 v2 v3 v4 x:Value} (tmps:Array Value) (w:World) (Q:Ending->World->Prop) (hb:tmps.getD 2 undef=.pointer (some ⟨b,0,none⟩)) (hc:tmps.getD 3 undef=.pointer (some ⟨c,0,none⟩))
  (hC:B5 w b v0 v1 v2 v3 v4) (hE:B1 w c x) (hne:¬ (b=c)) (hQ:Q (.returned (.tuple #[.agg #[.int .i64 0,.int .i64 0,.int .i64 0,.int .i64 0,.slice none 0 0],.int .i64 11])) (zdk w b c)) :
  bodyPostD Tryz.prog Tryz.f53 Q (Exit.panic zgr) { tmps:=tmps,defers:=[{ target:=Target.fn (Fn.func 78) #[.pointer (some ⟨b,0,none⟩),.pointer (some ⟨c,0,none⟩)],args:=#[] }] } w:=by
 refine leaves_cons (f:=78) (args:=#[.pointer (some ⟨b,0,none⟩),.pointer (some ⟨c,0,none⟩)]) (by simp) (by simp [go_sem]) ?_
 refine (zgb b c v0 v1 v2 v3 v4 x _ _ [] w hC hE hne).mono ?_
 rintro e u' w'' ⟨rfl,rfl,rfl⟩
 obtain ⟨h5,h1⟩:=zfp hC hE hne
 have hr:=zfj (fn:=Tryz.f53) (k:=2) (j:=3) rfl tmps _ b c hb hc h5 h1
 simp [Leaves,settle,hr,hQ]

theorem zjx (b c:Nat) {v0 v1 v2 v3 v4 x:Value} (tmps:Array Value) (w:World) (Q:Ending->World->Prop) (hb:tmps.getD 2 undef=.pointer (some ⟨b,0,none⟩)) (hc:tmps.getD 3 undef=.pointer (some ⟨c,0,none⟩))
  (hC:B5 w b v0 v1 v2 v3 v4) (hE:B1 w c x) (hQ:Q (.returned (.tuple #[.agg #[v0,v1,v2,v3,v4],x])) w) :
  bodyPostD Tryz.prog Tryz.f53 Q Exit.ret { tmps:=tmps,defers:=[{ target:=Target.fn (Fn.func 78) #[.pointer (some ⟨b,0,none⟩),.pointer (some ⟨c,0,none⟩)],args:=#[] }] } w:=by
 refine leaves_cons (f:=78) (args:=#[.pointer (some ⟨b,0,none⟩),.pointer (some ⟨c,0,none⟩)]) (by simp) (by simp [go_sem]) ?_
 refine (zhV _ _ _).mono ?_
 rintro e u' w'' ⟨rfl,rfl,rfl⟩
 have hr:=zfj (fn:=Tryz.f53) (k:=2) (j:=3) rfl tmps _ b c hb hc hC hE
 simp [Leaves,settle,hr,hQ]

def zdi (m:Nat) (Q:Exit->Act->World->Prop):Exit->Act->World->Prop
 | .panic c,a,w => ∀ a':Act,(∀ k,k<m->a'.tmps.getD k undef=a.tmps.getD k undef)->a'.defers=a.defers->Q (.panic c) a' w
 | e,a,w => Q e a w

theorem zdi.imp {m:Nat} {Q:Exit->Act->World->Prop}:∀ (e:Exit) (a:Act) (w:World),zdi m Q e a w->Q e a w:=fun e a w h => by
 cases e <;> first|exact h|exact h a (fun _ _ => rfl) rfl

theorem zdi.put {m d:Nat} {Q:Exit->Act->World->Prop} {c:List PanicEntry} {a:Act} {v:Value} {w:World} (hd:m<=d) (h:zdi m Q (.panic c) (a.put (some d) v) w):zdi m Q (.panic c) a w:=fun a' h1 h2 =>
 h a' (fun k hk => by rw [h1 k hk];simp [Act.put];rw [Array.getElem?_setIfInBounds_ne (by omega)]) h2

theorem zer {P:Program} {id:Nat} {ops:Array Oper} {b:Bool} {Q:Exit->Act->World->Prop} {a:Act} {w:World} (m:Nat) (h:(Code.region id ops b).wp P (zdi m Q) a w):(Code.region id ops b).wp P Q a w :=
 Code.wp_mono zdi.imp h

theorem zH {w:World} {n b c:Nat} (hb:n<=b) (hc:n<=c):Below n w (zdk w b c) :=
 ((((((Below.refl _ _).setCell hb _).setCell hb _).setCell hb _).setCell hb _).setCell hb _).setCell hc _

theorem zaF {l:List Nat} (h:zbg l=none):zw l=none:=by unfold zw;rw [h];rfl

theorem zgw {l:List Nat} {y:Ins × List Nat} (h:rdI l=some y):y.2.length<l.length/\4*y.1.q.n.length<=l.length/\4*y.1.q.d.length<=l.length:=by
 unfold rdI at h
 cases h1:ze l with
 | none => rw [h1] at h;cases h
 | some op =>
  rw [h1] at h
  simp only [Option.bind_some] at h
  cases h2:ze op.2 with
  | none => rw [h2] at h;cases h
  | some to_ =>
   rw [h2] at h
   simp only [Option.bind_some] at h
   cases h3:ze to_.2 with
   | none => rw [h3] at h;cases h
   | some a =>
    rw [h3] at h
    simp only [Option.bind_some] at h
    cases h4:ze a.2 with
    | none => rw [h4] at h;cases h
    | some b =>
     rw [h4] at h
     simp only [Option.bind_some] at h
     have k1:=zaD _ _ _ _ h1
     have k2:=zaD _ _ _ _ h2
     have k3:=zaD _ _ _ _ h3
     have k4:=zaD _ _ _ _ h4
     by_cases k:op.1=1
     ·rw [if_pos k] at h
      cases h5:rdQ b.2 with
      | none => rw [h5] at h;cases h
      | some q =>
       rw [h5] at h
       injection h with h
       rw [<- h]
       unfold rdQ at h5
       cases h6:ze b.2 with
       | none => rw [h6] at h5;cases h5
       | some g =>
        rw [h6] at h5
        simp only [Option.bind_some] at h5
        by_cases hg:1<g.1
        ·rw [if_pos hg] at h5;cases h5
        ·rw [if_neg hg] at h5
         cases h7:rdN g.2 with
         | none => rw [h7] at h5;cases h5
         | some n =>
          rw [h7] at h5
          simp only [Option.bind_some] at h5
          cases h8:rdN n.2 with
          | none => rw [h8] at h5;cases h5
          | some d =>
           rw [h8] at h5
           injection h5 with h5
           rw [<- h5]
           have k5:=zaD _ _ _ _ h6
           have k6:=zeD h7
           have k7:=zeD h8
           simp only
           omega
     ·rw [if_neg k] at h
      injection h with h
      rw [<- h]
      simp only [List.length_nil]
      omega

theorem zeZ:∀ (k:Nat) (l:List Nat),l.length<k->zbs k l=none
 | 0,l,h => by omega
 | k+1,l,h => by
  unfold zbs
  cases h1:rdI l with
  | none => rfl
  | some y =>
   simp only [Option.bind_some]
   have:=zgw h1
   rw [zeZ k y.2 (by omega)]
   rfl

def zae:Cd:=⟨0,0,0,0,[]⟩

theorem zaB:Ending.returned (.tuple #[.agg #[.int .i64 0,.int .i64 0,.int .i64 0,.int .i64 0,.slice none 0 0],.int .i64 11])=Ending.returned (.tuple #[aggC zae (.slice none 0 0),.int .i64 11]):=rfl

def GivesD (R:Nat) (w:World) (o:Option Cd) (e:Ending) (w':World):Prop :=
 w.grownBy w' (some R)/\match o with
  | some c => ∃ v,e=.returned (.tuple #[aggC c v,.int .i64 0])/\zaW (w.heap.size+2) w' v c.all
  | none => e=.returned (.tuple #[aggC zae (.slice none 0 0),.int .i64 11])

def ziT (N R:Nat) (w:World) (l:List Nat) (ins rows cols regs n k:Nat) (dn:List Ins) (l':List Nat) (v4:Value) (ww:World):Prop :=
 RB N R ww l'/\w.grownBy ww (some R)/\B5 ww w.heap.size (.int .i64 (ins:Int)) (.int .i64 (rows:Int)) (.int .i64 (cols:Int)) (.int .i64 (regs:Int)) v4/\B1 ww (w.heap.size+1) (.int .i64 0)/\zbd R (w.heap.size+2) ww v4 dn /\
 zbg l=((zbs (n - k) l').map fun z => (⟨ins,rows,cols,regs,dn++z.1⟩,z.2))/\dn.length=k/\l'.length<=4000/\∀ x ∈ dn,x.q.n.length<=1000/\x.q.d.length<=1000

theorem ziq (N R:Nat) (l:List Nat) (w:World) (h:RB N R w l) (hl:l.length<=4000) :
  Calls Tryz.prog 53 #[.pointer (some ⟨R,0,none⟩)] w (GivesD R w (zw l)):=by
 have hmf:∀ (fn:Fn) (first cap:Array Value) (w:World),(Instr.makeFunc fn first cap).run Tryz.prog w=.ok (.func fn first cap) w:=fun _ _ _ _ => rfl
 have hlt:=h.lt
 have H:=Lib.hid h
 have Hl:=Lib.hid hl
 clear h hl
 go_enter_defers Tryz.func53,Tryz.ntmps53
 go_wp2_with fail
 obtain ⟨W0,ap⟩:∃ W0,(w.alloc (.cells #[.int .i64 0,.int .i64 0,.int .i64 0,.int .i64 0,.slice none 0 0] 24)).alloc (.cells #[.int .i64 0] 35)=W0:=⟨_,rfl⟩
 have dN:Below w.heap.size w W0:=by rw [<- ap];exact bS (bN _ _) (bN _ _)
 have hC0:Hid (B5 W0 w.heap.size (.int .i64 0) (.int .i64 0) (.int .i64 0) (.int .i64 0) (.slice none 0 0)):=by
  show B5 _ _ _ _ _ _ _
  rw [<- ap]
  unfold B5
  and_intros <;> first|(simp [go_sem];done)|(simp [go_sem];omega)
 have hE0:Hid (B1 W0 (w.heap.size+1) (.int .i64 0)):=by
  show B1 _ _ _
  rw [<- ap]
  unfold B1
  and_intros <;> first|(simp [go_sem];done)|(simp [go_sem];omega)
 rw [ap]
 clear ap
 have hR0:=H.out.to dN
 have hgW:=zaa dN (some R)
 have hg0:=World.grownBy.refl W0 (some R)
 have hRC:(some R:Option Nat)≠some w.heap.size:=fun e => by injection e with e;omega
 have hRE:(some R:Option Nat)≠some (w.heap.size+1):=fun e => by injection e with e;omega
 have hz0:=hE0.out.1
 refine (zO N R l _ hR0).mono ?_
 rintro e w1 ⟨hh1,h1⟩
 have hg1:=hg0.trans hh1
 cases hc1:ze l with
 | none =>
  rw [hc1] at h1
  obtain rfl:=h1
  refine zW w.heap.size (w.heap.size+1) _ _ _ rfl rfl (hC0.out.grown hg1 hRC) (hE0.out.grown hg1 hRE) (by omega) ?_
  refine ⟨zn (hgW.trans hg1) (zH (Nat.le_refl _) (Nat.le_succ _)),?_⟩
  rw [show zw l=none by exact zaF (by unfold zbg;rw [hc1];rfl)]
  exact zaB
 | some y1 =>
  rw [hc1] at h1
  obtain ⟨⟨v1,rfl,rfl⟩,hR1⟩:=h1
  have hln1:=zX hc1
  obtain ⟨ins,l1⟩:=y1
  simp only at hR1 hln1
  clear hR0 hh1 hg0
  go_wp2_with fail
  refine (zO N R l1 _ hR1).mono ?_
  rintro e w2 ⟨hh2,h2⟩
  have hg2:=hg1.trans hh2
  cases hc2:ze l1 with
  | none =>
   rw [hc2] at h2
   obtain rfl:=h2
   refine zW w.heap.size (w.heap.size+1) _ _ _ rfl rfl (hC0.out.grown hg2 hRC) (hE0.out.grown hg2 hRE) (by omega) ?_
   refine ⟨zn (hgW.trans hg2) (zH (Nat.le_refl _) (Nat.le_succ _)),?_⟩
   rw [show zw l=none by exact zaF (by unfold zbg;rw [hc1];simp only [Option.bind_some];rw [hc2];rfl)]
   exact zaB
  | some y2 =>
   rw [hc2] at h2
   obtain ⟨⟨v2,rfl,rfl⟩,hR2⟩:=h2
   have hln2:=zX hc2
   obtain ⟨rows,l2⟩:=y2
   simp only at hR2 hln2
   clear hR1 hh2 hg1
   go_wp2_with fail
   refine (zO N R l2 _ hR2).mono ?_
   rintro e w3 ⟨hh3,h3⟩
   have hg3:=hg2.trans hh3
   cases hc3:ze l2 with
   | none =>
    rw [hc3] at h3
    obtain rfl:=h3
    refine zW w.heap.size (w.heap.size+1) _ _ _ rfl rfl (hC0.out.grown hg3 hRC) (hE0.out.grown hg3 hRE) (by omega) ?_
    refine ⟨zn (hgW.trans hg3) (zH (Nat.le_refl _) (Nat.le_succ _)),?_⟩
    rw [show zw l=none by exact zaF (by unfold zbg;rw [hc1];simp only [Option.bind_some];rw [hc2];simp only [Option.bind_some];rw [hc3];rfl)]
    exact zaB
   | some y3 =>
    rw [hc3] at h3
    obtain ⟨⟨v3,rfl,rfl⟩,hR3⟩:=h3
    have hln3:=zX hc3
    obtain ⟨cols,l3⟩:=y3
    simp only at hR3 hln3
    clear hR2 hh3 hg2
    go_wp2_with fail
    refine (zO N R l3 _ hR3).mono ?_
    rintro e w4 ⟨hh4,h4⟩
    have hg4:=hg3.trans hh4
    cases hc4:ze l3 with
    | none =>
     rw [hc4] at h4
     obtain rfl:=h4
     refine zW w.heap.size (w.heap.size+1) _ _ _ rfl rfl (hC0.out.grown hg4 hRC) (hE0.out.grown hg4 hRE) (by omega) ?_
     refine ⟨zn (hgW.trans hg4) (zH (Nat.le_refl _) (Nat.le_succ _)),?_⟩
     rw [show zw l=none by exact zaF (by unfold zbg;rw [hc1];simp only [Option.bind_some];rw [hc2];simp only [Option.bind_some];rw [hc3];simp only [Option.bind_some];rw [hc4];rfl)]
     exact zaB
    | some y4 =>
     rw [hc4] at h4
     obtain ⟨⟨v4,rfl,rfl⟩,hR4⟩:=h4
     have hln4:=zX hc4
     obtain ⟨regs,l4⟩:=y4
     simp only at hR4 hln4
     clear hR3 hh4 hg3
     have hC4:=hC0.out.grown hg4 hRC
     have hE4:=hE0.out.grown hg4 hRE
     obtain ⟨cz,c0,c1,c2,c3,c4,cf0,cf1,cf2,cf3,cf4⟩:=id hC4
     have hgW4:=hgW.trans hg4
     go_wp2_with fail
     obtain ⟨W5,eL⟩:∃ W5,((((w4.setCell ⟨w.heap.size,0,none⟩ (.int .i64 (ins:Int))).setCell ⟨w.heap.size,1,none⟩ (.int .i64 (rows:Int))).setCell ⟨w.heap.size,2,none⟩ (.int .i64 (cols:Int))).setCell ⟨w.heap.size,3,none⟩ (.int .i64 (regs:Int))).setCell ⟨w.heap.size,4,none⟩ (.slice none 0 0)=W5:=⟨_,rfl⟩
     have hne:¬ (w.heap.size+1=w.heap.size):=by omega
     have hC5:B5 W5 w.heap.size (.int .i64 (ins:Int)) (.int .i64 (rows:Int)) (.int .i64 (cols:Int)) (.int .i64 (regs:Int)) (.slice none 0 0):=by rw [<- eL];exact hC4.put5' _ _ _ _ _
     have hE5:B1 W5 (w.heap.size+1) (.int .i64 0):=by rw [<- eL];exact hE4.other5 _ _ _ _ _ _ hne
     have cV:Below w.heap.size w4 W5:=by rw [<- eL];exact zhT _ _ _ _ _ _ _ _ (Nat.le_refl _)
     rw [eL]
     clear eL cz c0 c1 c2 c3 c4 cf0 cf1 cf2 cf3 cf4 hC4 hE4
     have hR5:=hR4.toN (cV.mono hlt.2.1)
     have hg5:=zn hgW4 cV
     have HC5:=Lib.hid hC5
     have HE5:=Lib.hid hE5
     clear hR4 hC5 hE5
     refine (zO N R l4 _ hR5).mono ?_
     rintro e w6 ⟨hh6,h6⟩
     have hg6:=hg5.trans hh6
     cases hc6:ze l4 with
     | none =>
      rw [hc6] at h6
      obtain rfl:=h6
      refine zW w.heap.size (w.heap.size+1) _ _ _ rfl rfl (HC5.out.grown hh6 hRC) (HE5.out.grown hh6 hRE) (by omega) ?_
      refine ⟨zn (hg6) (zH (Nat.le_refl _) (Nat.le_succ _)),?_⟩
      rw [show zw l=none by exact zaF (by unfold zbg;rw [hc1];simp only [Option.bind_some];rw [hc2];simp only [Option.bind_some];rw [hc3];simp only [Option.bind_some];rw [hc4];simp only [Option.bind_some];rw [hc6];rfl)]
      exact zaB
     | some y6 =>
      rw [hc6] at h6
      obtain ⟨⟨v6,rfl,rfl⟩,hR6⟩:=h6
      have hln6:=zX hc6
      obtain ⟨n,l6⟩:=y6
      simp only at hR6 hln6
      have hl6:l6.length<=4000:=by have:=Hl.out;omega
      have HA:=Lib.hid (show zbg l=(zbs n l6).map fun z => (⟨ins,rows,cols,regs,z.1⟩,z.2) by
       unfold zbg
       rw [hc1];simp only [Option.bind_some]
       rw [hc2];simp only [Option.bind_some]
       rw [hc3];simp only [Option.bind_some]
       rw [hc4];simp only [Option.bind_some]
       rw [hc6];rfl)
      have bI:ins<268435456:=hln1.2
      have bR:rows<268435456:=hln2.2
      have bC:cols<268435456:=hln3.2
      have bG:regs<268435456:=hln4.2
      have hC6:=HC5.out.grown hh6 hRC
      have hE6:=HE5.out.grown hh6 hRE
      clear hc1 hc2 hc3 hc4 hc6 hln1 hln2 hln3 hln4 hln6 hg4 hg5 hR5 hgW4 cV
      obtain ⟨a,m,c,c1,f1,hB,_⟩:=id hR6
      have hm:l6.length=m:=by
       obtain ⟨_,_,_,e,_⟩:=hB
       injection e with _ e2 _
       exact e2.symm
      clear hB
      by_cases hmn:m<n
      ·have hni:(m:Int)<(n:Int):=by omega
       have HN:=Lib.hid (show zw l=none from zaF (by rw [HA.out,zeZ n l6 (by omega)];rfl))
       go_wp2_with fail
       refine (zP _).mono ?_
       rintro e w7 ⟨rfl,ek⟩
       refine zW w.heap.size (w.heap.size+1) _ _ _ rfl rfl (hC6.to ek) (hE6.to ek) (by omega) ?_
       refine ⟨zn (hg6.trans (zaa ek _)) (zH (Nat.le_refl _) (Nat.le_succ _)),?_⟩
       rw [show zw l=none by exact HN.out]
       exact zaB
      ·have hni:¬ ((m:Int)<(n:Int)):=by omega
       have hn4:n<=4000:=by omega
       clear hm
       go_wp2_with fail
       refine (zap _).mono ?_
       rintro e w7 ⟨rfl,ek⟩
       clear c1 f1
       have HV0:Hid (ziT N R w l ins rows cols regs n 0 [] l6 (.slice none 0 0) w7):=by
        refine ⟨hR6.to ek,hg6.trans (zaa ek _),hC6.to ek,hE6.to ek,zbd.nil _ _ _,?_,rfl,hl6,fun x hx => by cases hx⟩
        rw [HA.out,Nat.sub_zero]
        simp
       clear hR6 hg6 hC6 hE6 hh6 HC5 HE5
       go_wp2_with fail
       go_loopw [26] (fun si ww => ∃ (k:Nat) (dn:List Ins) (l':List Nat) (v4:Value),k<=n/\si=.int .i64 (k:Int)/\Hid (ziT N R w l ins rows cols regs n k dn l' v4 ww)) (fun i _ => n - (intOf i).toNat)
       case atStart => exact ⟨0,[],l6,_,Nat.zero_le _,rfl,HV0⟩
       case round =>
       clear HV0
       obtain ⟨k,dn,l',v4,hk,rfl,HV⟩:=hrel
       obtain ⟨hR,hg,hC,hE,hO,hA,hD,hL,hS⟩:=HV.out
       obtain ⟨a4,cap4,hform,_⟩:=hO.toI.form
       rw [hD] at hform
       subst hform
       have HD:=Lib.hid hD
       have HW:=Lib.hid (show ∀ g,(Value.slice a4 k cap4).ownBlock=some g->w.heap.size+2<=g/\g<wr.heap.size from hO.toI.lt)
       have HA1:=Lib.hid hA
       have HS:=Lib.hid hS
       have HO:=Lib.hid hO
       have hrs:w.heap.size+1<wr.heap.size:=hE.1
       have HC:=Lib.hid hC
       have HEr:=Lib.hid hE
       obtain ⟨cz,c0,c1,c2,c3,c4,cf0,cf1,cf2,cf3,cf4⟩:=id hC
       clear hA hS hO hC hE hD
       by_cases hkn:k<n
       ·have hki:(k:Int)<(n:Int):=by omega
        cases hcI:rdI l' with
        | none =>
         have HN:=Lib.hid (show zw l=none from zaF (by rw [HA1.out,show n - k=(n - k - 1)+1 by omega];unfold zbs;rw [hcI];rfl))
         go_wp2_with fail
         refine zer 28 ?_
         refine wp_region_any (by kernel_rfl) ?_
         try (change wpAny _ _ _ _ _ _ _ (World.drew _))
         refine wpAny_take (i:=0) (v:=?_) rfl (by kernel_rfl) (by kernel_rfl) (by kernel_rfl) (fun _ _ _ h => zdi.put (by decide) h) (Or.inl ⟨by rfl,?_⟩) ?_
         rotate_left
         ·intro w;go_simp;try with_reducible rfl
         refine wpAny_take (i:=2) (v:=?_) rfl (by kernel_rfl) (by kernel_rfl) (by kernel_rfl) (fun _ _ _ h => zdi.put (by decide) h) (Or.inl ⟨by rfl,?_⟩) ?_
         rotate_left
         ·intro w;go_simp;try with_reducible rfl
         refine wpAny_ready (rs:=[1,3]) (by kernel_rfl) (by simp) ?_
         refine AllReady.cons rfl (fun K hK => ?_) ?_
         ·go_simp
          refine hK _ _ ?_
          clear hK K
          refine wpAny_ready (rs:=[3]) (by kernel_rfl) (by simp) ?_
          refine AllReady.cons rfl (fun K hK => ?_) AllReady.nil
          go_simp
          refine (zcG N R l' _ (hR.to (Below.refl _ _).drew) hL).mono ?_
          rintro e x7 ⟨hg7,h7⟩
          rw [hcI] at h7
          obtain rfl:=h7
          have hg8:=(zaa (Below.refl wr.heap.size wr).drew (some R)).trans hg7
          intro a' h1 h2
          obtain ⟨tm,df⟩:=a'
          simp only at h1 h2
          subst h2
          refine zW w.heap.size (w.heap.size+1) _ _ _ (h1 2 (by decide)) (h1 3 (by decide)) (HC.out.grown hg8 hRC) (HEr.out.grown hg8 hRE) (by omega) ?_
          refine ⟨zn (hg.trans hg8) (zH (Nat.le_refl _) (Nat.le_succ _)),?_⟩
          rw [HN.out]
          exact zaB
         ·refine AllReady.cons rfl (fun K hK => ?_) AllReady.nil
          go_simp
          refine (zcG N R l' _ (hR.to (Below.refl _ _).drew) hL).mono ?_
          rintro e x7 ⟨hg7,h7⟩
          rw [hcI] at h7
          obtain rfl:=h7
          have hg8:=(zaa (Below.refl wr.heap.size wr).drew (some R)).trans hg7
          intro a' h1 h2
          obtain ⟨tm,df⟩:=a'
          simp only at h1 h2
          subst h2
          refine zW w.heap.size (w.heap.size+1) _ _ _ (h1 2 (by decide)) (h1 3 (by decide)) (HC.out.grown hg8 hRC) (HEr.out.grown hg8 hRE) (by omega) ?_
          refine ⟨zn (hg.trans hg8) (zH (Nat.le_refl _) (Nat.le_succ _)),?_⟩
          rw [HN.out]
          exact zaB
        | some y =>
         obtain ⟨x,l2⟩:=y
         have hln:=zgw hcI
         simp only at hln
         have HcI:=Lib.hid hcI
         have Hdl:=Lib.hid (show dn.length<=100000 by have:=HD.out;omega)
         have hRb:R<w.heap.size+2:=by omega
         go_wp2_with fail
         refine wp_region_noPanic ?_
         go_region_law (first
          | (refine ziE _ rfl (.tmp 29) (.tmp 32) rfl R (w.heap.size+2) _ dn _ x ax nx cx ay ny cy rfl rfl (hO7.to (bN _ _)) zit (hn.rd.to (bN _ _)) (hd.rd.to (bN _ _)) (Far.of_lt hn hvl) (Far.of_lt hd hvl) hi (far_R hn hvR) (far_R hd hvR) Hdl.out (by simp;omega) _ rfl ?_;intro g4 cj4 w4 hO4 hgrow4 hat4 hlt4;have hC8:=(hC7.to (bN x7 (.cells (zaZ x (.slice ax nx cx) (.slice ay ny cy)).toArray 49))).grown hgrow4 hvC;obtain ⟨dz,d0,d1,d2,d3,d4,df0,df1,df2,df3,df4⟩:=id hC8)
          | (go_simp;go_at_call 81;(refine zg wr (by with_reducible first|exact (Below.refl _ _).drew|exact Below.refl _ _) ?_);intro V7 ii eN;(refine (zcG N R l' _ (hR.to eN) hL).mono ?_);rintro e x7 ⟨hg7,h7⟩;rw [HcI.out] at h7;obtain ⟨⟨vx,rfl,ax,nx,cx,ay,ny,cy,rfl,hn,hd,hi⟩,hR7⟩:=h7;have hg8:=(zaa eN (some R)).trans hg7;have hC7:=HC.out.grown hg8 hRC;have hO7:=(HO.out.to eN).grownR hg7 hRb;have hvl:∀ q,(Value.slice a4 k cap4).ownBlock=some q->q<V7.heap.size:=(fun q hq => Nat.lt_of_lt_of_le (HW.out q hq).2 eN.size);have hvR:∀ q,some R=some q->q<V7.heap.size:=(fun q hq => by injection hq with hq;have h1:=eN.size;omega);have hvC:(Value.slice a4 k cap4).ownBlock≠some w.heap.size:=(fun e => by have h1:=(HW.out _ e).1;omega);have hE7:=HEr.out.grown hg8 hRE;have hs7:=hE7.1;obtain ⟨dz,d0,d1,d2,d3,d4,df0,df1,df2,df3,df4⟩:=id hC7))
         all_goals
          first|refine NoPanic.normal ?_|skip
          go_wp2_with fail
          go_roundw
          case rel =>
           have hg4:w.heap.size+2<=g4:=by
            rcases hat4 with e|e
            ·exact (HW.out _ e).1
            ·rw [e];simp;omega
           have b8:Below w.heap.size x7 w4:=((Below.refl _ _).alloc (by omega) (.cells (zaZ x (.slice ax nx cx) (.slice ay ny cy)).toArray 49)).grown hgrow4 (by simp;omega) (fun q hq => by have:=(HW.out q hq).1;omega)
           have b9:=b8.setCell (p:=⟨w.heap.size,4,none⟩) (Nat.le_refl _) (.slice (some ⟨g4,0,none⟩) (dn.length+1) cj4)
           have hvE:(Value.slice a4 k cap4).ownBlock≠some (w.heap.size+1):=fun e => by have h1:=(HW.out _ e).1;omega
           refine ⟨k+1,dn++[x],l2,.slice (some ⟨g4,0,none⟩) (dn.length+1) cj4,by omega,by go_num,Lib.hid ⟨hR7.toN (b9.mono hlt.2.1),zn (hg.trans hg8) b9,hC8.set4 _,(((hE7.to (bN x7 (.cells (zaZ x (.slice ax nx cx) (.slice ay ny cy)).toArray 49))).grown hgrow4 hvE).other (by omega)),hO4.setP (B:=w.heap.size) (o:=4) (fun e => by have e:g4=w.heap.size:=Option.some.inj e;omega) d4 (fun z e => by cases e) _,?_,by rw [List.length_append,HD.out];rfl,by omega,fun y hy => ?_⟩⟩
           ·rw [HA1.out,show n - k=(n - (k+1))+1 by omega]
            show Option.map _ ((rdI l').bind fun y => (zbs (n - (k+1)) y.2).map fun z => (y.1 :: z.1,z.2))=_
            rw [HcI.out]
            simp only [Option.bind_some]
            cases zbs (n - (k+1)) l2 with
            | none => rfl
            | some z =>
             show some _=some _
             congr 2
             simp
           ·rcases List.mem_append.1 hy with hy|hy
            ·exact HS.out y hy
            ·rw [List.mem_singleton.1 hy];omega
          case measure => simp [intOf] <;> omega
       ·obtain rfl:k=n:=by omega
        have hki:¬ ((k:Int)<(k:Int)):=by omega
        have HA2:=Lib.hid (show zbg l=some (⟨ins,rows,cols,regs,dn⟩,l') by rw [HA1.out,Nat.sub_self];simp [zbs])
        obtain ⟨a,m',c,q1,f1,hB,_⟩:=id hR
        have hm:l'.length=m':=by
         obtain ⟨_,_,_,e,_⟩:=hB
         injection e with _ e2 _
         exact e2.symm
        clear hB
        by_cases hm0:0<m'
        ·have hmi:(0:Int)<(m':Int):=by omega
         have HN:=Lib.hid (show zw l=none by
          unfold zw
          rw [HA2.out]
          exact if_neg (fun e => by have e1:l'=[]:=e.1;rw [e1] at hm;simp at hm;omega))
         go_wp2_with fail
         refine (zP _).mono ?_
         rintro e w8 ⟨rfl,eW⟩
         refine zW w.heap.size (w.heap.size+1) _ _ _ rfl rfl (HC.out.to eW) (HEr.out.to eW) (by omega) ?_
         refine ⟨zn (hg.trans (zaa eW _)) (zH (Nat.le_refl _) (Nat.le_succ _)),?_⟩
         rw [HN.out]
         exact zaB
        ·obtain rfl:m'=0:=by omega
         obtain rfl:l'=[]:=List.eq_nil_of_length_eq_zero hm
         have hIsC:IsC wr ⟨ins,rows,cols,regs,dn⟩ (.slice a4 k cap4):=⟨HO.out.toI.rdC,⟨by show (-9223372036854775808:Int)<=(ins:Int);omega,by show (ins:Int)<_;omega⟩,⟨by show (-9223372036854775808:Int)<=(rows:Int);omega,by show (rows:Int)<_;omega⟩,⟨by show (-9223372036854775808:Int)<=(cols:Int);omega,by show (cols:Int)<_;omega⟩,⟨by show (-9223372036854775808:Int)<=(regs:Int);omega,by show (regs:Int)<_;omega⟩⟩
         have HIs:=Lib.hid hIsC
         clear hIsC
         obtain ⟨o,ho⟩:∃ o,zU ⟨ins,rows,cols,regs,dn⟩=o:=⟨_,rfl⟩
         have HDo:=Lib.hid (show zw l=if o=true then some ⟨ins,rows,cols,regs,dn⟩ else none by
          unfold zw
          rw [HA2.out]
          simp only [Option.bind_some,ho,true_and])
         have Ho:=Lib.hid ho
         clear ho
         go_wp2_with fail
         refine (zcs ⟨ins,rows,cols,regs,dn⟩ _ _ HIs.out HS.out o Ho.out).mono ?_
         rintro e w8 ⟨rfl,eW⟩
         have hC8:=HC.out.to eW
         have hE8:=HEr.out.to eW
         clear cz c0 c1 c2 c3 c4 cf0 cf1 cf2 cf3 cf4 q1 f1
         cases o with
         | false =>
          go_wp2_with fail
          refine (zP _).mono ?_
          rintro e w9 ⟨rfl,fd⟩
          refine zW w.heap.size (w.heap.size+1) _ _ _ rfl rfl (hC8.to fd) (hE8.to fd) (by omega) ?_
          refine ⟨zn (hg.trans ((zaa eW _).trans (zaa fd _))) (zH (Nat.le_refl _) (Nat.le_succ _)),?_⟩
          rw [HDo.out]
          exact zaB
         | true =>
          go_wp2_with fail
          refine (zap _).mono ?_
          rintro e w9 ⟨rfl,fd⟩
          have hC9:=hC8.to fd
          have hE9:=hE8.to fd
          have hne:¬ (w.heap.size+1=w.heap.size):=by omega
          have hne2:¬ (w.heap.size=w.heap.size+1):=by omega
          have hgg:=hg.trans ((zaa eW (some R)).trans (zaa fd (some R)))
          have HO9:=Lib.hid ((HO.out.to eW).to fd)
          obtain ⟨cz,c0,c1,c2,c3,c4,cf0,cf1,cf2,cf3,cf4⟩:=id hC9
          obtain ⟨ez,e0,ef⟩:=id hE9
          go_wp2_with fail
          have hCf:=(hC9.put5' (.int .i64 (ins:Int)) (.int .i64 (rows:Int)) (.int .i64 (cols:Int)) (.int .i64 (regs:Int)) (.slice a4 k cap4)).other (B':=w.heap.size+1) (o:=0) (x:=.int .i64 0) hne2
          have hE5:=hE9.other5 w.heap.size (.int .i64 (ins:Int)) (.int .i64 (rows:Int)) (.int .i64 (cols:Int)) (.int .i64 (regs:Int)) (.slice a4 k cap4) hne
          have hEf:=hE5.put (.int .i64 0)
          have hvC:(Value.slice a4 k cap4).ownBlock≠some w.heap.size:=fun e => by have h1:=(HW.out _ e).1;omega
          have hvE:(Value.slice a4 k cap4).ownBlock≠some (w.heap.size+1):=fun e => by have h1:=(HW.out _ e).1;omega
          have hOf:=(hC9.own5 HO9.out.toI hvC (.int .i64 (ins:Int)) (.int .i64 (rows:Int)) (.int .i64 (cols:Int)) (.int .i64 (regs:Int)) (.slice a4 k cap4)).setP hvE hE5.2.1 (fun z e => by cases e) (.int .i64 0)
          have hbf:=(zhT w9 w.heap.size w.heap.size (.int .i64 (ins:Int)) (.int .i64 (rows:Int)) (.int .i64 (cols:Int)) (.int .i64 (regs:Int)) (.slice a4 k cap4) (Nat.le_refl _)).setCell (p:=⟨w.heap.size+1,0,none⟩) (Nat.le_succ _) (.int .i64 0)
          refine zjx w.heap.size (w.heap.size+1) _ _ _ rfl rfl hCf hEf ?_
          refine ⟨zn hgg hbf,?_⟩
          rw [show zw l=some ⟨ins,rows,cols,regs,dn⟩ by rw [HDo.out];rfl]
          exact ⟨_,rfl,hOf⟩

end Go.Proofs.YtkjcdnlpjldhaaaGreat


namespace Go.Proofs.YtkjcdnlpjldhaaaGreat
open Go.RowKit Tw
attribute [local go_sem ↓] Go.wp_at_zero Go.wp_at_succ

theorem zfk {fn:Func} {k j:Tmp} (h:fn.results=#[.cell k 24,.tmp j]) (tmps:Array Value) (w:World) (b:Nat) {v0 v1 v2 v3 v4 x:Value} (hk:tmps.getD k undef=.pointer (some ⟨b,0,none⟩)) (hj:tmps.getD j undef=x)
  (t:B5 w b v0 v1 v2 v3 v4):(results fn tmps).run Tryz.prog w=.ok (.tuple #[.agg #[v0,v1,v2,v3,v4],x]) w:=by
 obtain ⟨z,a0,a1,a2,a3,a4,_⟩:=t
 have hl:(loadVar 24 ⟨b,0,none⟩).run Tryz.prog w=.ok (.agg #[v0,v1,v2,v3,v4]) w:=by simp [go_sem,a0,a1,a2,a3,a4]
 have hk':tmps[k]?.getD undef=.pointer (some ⟨b,0,none⟩):=by simpa using hk
 have hj':tmps[j]?.getD undef=x:=by simpa using hj
 simp [results,h,asAddr,Sem.run_bind,hl,Result.andThen,hk',hj']

def DecodeD (w:World) (o:Option Cd) (e:Ending) (w':World):Prop :=
 Below w.heap.size w w'/\match o with
  | some c => ∃ v,e=.returned (.tuple #[aggC c v,.int .i64 0])/\zaW w.heap.size w' v c.all
  | none => e=.returned (.tuple #[aggC zae (.slice none 0 0),.int .i64 11])

theorem rb_new {w:World} {a:Option Addr} {m c:Nat} {l:List Nat} (h:RdB w (.slice a m c) l) (o:Obj) (t:TypeId):RB (w.heap.size+2) (w.heap.size+1) ((w.alloc o).alloc (.cells #[.slice a m c] t)) l:=by
 have hb:Below w.heap.size w ((w.alloc o).alloc (.cells #[.slice a m c] t)):=bS (bN _ _) (bN _ _)
 have hlt:∀ p,a=some p->0<m->p.block<w.heap.size:=fun p e h0 => by
  obtain ⟨_,a',c',e',_,_,h3⟩:=h
  injection e' with e1 e2 e3
  subst e1
  obtain ⟨b,off,e4,k⟩:=h3 0 (by omega)
  rw [e] at e4
  injection e4 with e4
  rw [e4]
  exact zj k
 refine ⟨a,m,c,by simp [go_sem],by simp [go_sem],h.to hb,fun p n c' e h0 => ?_,by omega,by simp,fun p e h0 => by have:=hlt p e h0;omega⟩
 injection e with e1 e2 e3
 have:=hlt p e1 (by omega)
 omega

theorem zbv (v:Value) (l:List Nat) (w:World) (h:RdB w v l) (hl:l.length<=4000) :
  Calls Tryz.prog 29 #[v] w (DecodeD w (zw l)):=by
 obtain ⟨a,m,c,rfl,Hm,hmc,hcm⟩:=h.open
 have H:=Lib.hid h
 have Hl:=Lib.hid hl
 clear h hl Hm hmc hcm
 go_enter Tryz.func29,Tryz.ntmps29
 go_wp2_with fail
 obtain ⟨W0,ap⟩:∃ W0,(w.alloc (.cells #[.int .i64 0,.int .i64 0,.int .i64 0,.int .i64 0,.slice none 0 0] 24)).alloc (.cells #[.slice a m c] 104)=W0:=⟨_,rfl⟩
 have dN:Below w.heap.size w W0:=by rw [<- ap];exact bS (bN _ _) (bN _ _)
 have gD:W0.heap.size=w.heap.size+2:=by rw [<- ap];simp
 have hR:RB (w.heap.size+2) (w.heap.size+1) W0 l:=by rw [<- ap];exact rb_new H.out _ _
 have hC0:B5 W0 w.heap.size (.int .i64 0) (.int .i64 0) (.int .i64 0) (.int .i64 0) (.slice none 0 0):=by
  rw [<- ap]
  unfold B5
  and_intros <;> first|(simp [go_sem];done)|(simp [go_sem];omega)
 rw [ap]
 clear ap
 refine (ziq _ _ l _ hR Hl.out).mono ?_
 rintro e w1 ⟨hg,h1⟩
 have hC1:=hC0.grown hg (fun e => by injection e with e;omega)
 have aS:=dN.grown hg (by omega) (fun q e => by injection e with e;omega)
 obtain ⟨cz,c0,c1,c2,c3,c4,cf0,cf1,cf2,cf3,cf4⟩:=id hC1
 have hbf:∀ u0 u1 u2 u3 u4,Below w.heap.size w (((((w1.setCell ⟨w.heap.size,0,none⟩ u0).setCell ⟨w.heap.size,1,none⟩ u1).setCell ⟨w.heap.size,2,none⟩ u2).setCell ⟨w.heap.size,3,none⟩ u3).setCell ⟨w.heap.size,4,none⟩ u4):=fun u0 u1 u2 u3 u4 =>
  aS.trans (zhT w1 w.heap.size w.heap.size u0 u1 u2 u3 u4 (Nat.le_refl _))
 have HBF:=Lib.hid hbf
 clear hbf
 cases hd:zw l with
 | none =>
  rw [hd] at h1
  obtain rfl:=h1
  go_wp2_with fail
  refine bodyPost_ret (zfk rfl _ _ _ rfl rfl (hC1.put5' _ _ _ _ _)) rfl ?_
  rw [hd]
  exact ⟨HBF.out _ _ _ _ _,rfl⟩
 | some cd =>
  rw [hd] at h1
  obtain ⟨u,rfl,hO⟩:=h1
  have HO:=Lib.hid hO
  obtain ⟨au,cu,hform,_⟩:=hO.form
  obtain ⟨nu,hnu⟩:∃ n,cd.all.length=n:=⟨_,rfl⟩
  rw [hnu] at hform
  subst hform
  have hvC:(Value.slice au nu cu).ownBlock≠some w.heap.size:=fun e => by have:=(hO.lt _ e).1;omega
  clear hO hnu
  go_wp2_with fail
  refine bodyPost_ret (zfk rfl _ _ _ rfl rfl (hC1.put5' _ _ _ _ _)) rfl ?_
  rw [hd]
  refine ⟨HBF.out _ _ _ _ _,_,rfl,?_⟩
  exact (hC1.own5 HO.out hvC _ _ _ _ _).mono (by omega)

end Go.Proofs.YtkjcdnlpjldhaaaGreat

