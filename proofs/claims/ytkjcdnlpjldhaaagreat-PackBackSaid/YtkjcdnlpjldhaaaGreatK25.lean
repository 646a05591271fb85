/-
  The texts PackCode, PackDec, PackRefP, merged.
-/
import Derived.Test.YtkjcdnlpjldhaaaGreatK23
import Derived.Test.YtkjcdnlpjldhaaaGreatK20
import Derived.Deep.RegionHeld3
import Derived.Deep.RegionWith
import Derived.Deep.RegionLaw
import Derived.RegionTactic
import Derived.Laws.Pointers
import Derived.Test.YtkjcdnlpjldhaaaGreatK24
import Derived.Test.YtkjcdnlpjldhaaaGreatK22
set_option linter.unusedVariables false
set_option linter.unusedSimpArgs false
set_option maxRecDepth 100000
set_option maxHeartbeats 400000000
namespace Go.Proofs.YtkjcdnlpjldhaaaGreat
open Go.RowKit Tw
attribute [local go_sem ↓] Go.wp_at_zero Go.wp_at_succ

def zaD (R base:Nat) (w:World) (v:Value) (l:List Ins):Prop :=
 ∃ xs,w.ownsRow base 49 7 v l.length xs/\∀ k (h:k<l.length),∃ a n c a' n' c',(∀ j,j<7->xs[k*7+j]?=(zal l[k] (.slice a n c) (.slice a' n' c'))[j]?) /\
  Rd w (.slice a n c) l[k].q.n/\Rd w (.slice a' n' c') l[k].q.d/\Far (.slice a n c) v.ownBlock/\Far (.slice a' n' c') v.ownBlock/\zbV l[k]/\Far (.slice a n c) (some R)/\Far (.slice a' n' c') (some R)

section

variable {R base:Nat} {w w':World} {v:Value} {l:List Ins} {xs:List Value} {g cap n c n' c':Nat} {a a':Option Addr} {x:Ins}

theorem zaD.toI (h:zaD R base w v l):zau base w v l:=by
 obtain ⟨xs,h1,h2⟩:=h
 refine ⟨xs,h1,fun k hk => ?_⟩
 obtain ⟨a,n,c,a',n',c',s,k1,k2,f1,f2,i,_⟩:=h2 k hk
 exact ⟨a,n,c,a',n',c',s,k1,k2,f1,f2,i⟩

theorem zaD.nil (R base:Nat) (w:World):zaD R base w (.slice none 0 0) []:=⟨[],World.ownsRow_nil w base _ 7,fun k h => absurd h (by simp)⟩

theorem zaD.to (h:zaD R base w v l) (hb:Below w.heap.size w w'):zaD R base w' v l:=by
 obtain ⟨xs,h1,h2⟩:=h
 refine ⟨xs,zbQ h1 hb,fun k hk => ?_⟩
 obtain ⟨a,n,c,a',n',c',s,k1,k2,f1,f2,i⟩:=h2 k hk
 exact ⟨a,n,c,a',n',c',s,k1.to hb,k2.to hb,f1,f2,i⟩

theorem zaD.grownR (h:zaD R base w v l) (hg:w.grownBy w' (some R)) (hR:R<base):zaD R base w' v l:=by
 obtain ⟨xs,h1,h2⟩:=h
 refine ⟨xs,⟨h1.1,?_⟩,fun k hk => ?_⟩
 ·rcases h1.2 with h3|⟨g,cap,cur,hv,hg',hh,r⟩
  ·exact .inl h3
  ·refine .inr ⟨g,cap,cur,hv,hg',?_,r⟩
   rw [hg.block g (Array.getElem?_eq_some_iff.1 hh).1 (fun e => by injection e with e;omega)]
   exact hh
 ·obtain ⟨a,n,c,a',n',c',s,k1,k2,f1,f2,i,f3,f4⟩:=h2 k hk
  exact ⟨a,n,c,a',n',c',s,k1.grown hg f3,k2.grown hg f4,f1,f2,i,f3,f4⟩

theorem zaD.push (h:zaD R base w v l) (hx:w.ownsRow base 49 7 v l.length xs)
  (hown:w'.ownsRow base 49 7 (.slice (some ⟨g,0,none⟩) (l.length+1) cap) (l.length+1) (xs++zal x (.slice a n c) (.slice a' n' c'))) (hgrow:w.grownBy w' v.ownBlock) (hat:v.ownBlock=some g\/g=w.heap.size)
  (hn:Rd w (.slice a n c) x.q.n) (hd:Rd w (.slice a' n' c') x.q.d) (f1:Far (.slice a n c) v.ownBlock) (f2:Far (.slice a' n' c') v.ownBlock) (hi:zbV x) (f3:Far (.slice a n c) (some R)) (f4:Far (.slice a' n' c') (some R)):zaD R base w' (.slice (some ⟨g,0,none⟩) (l.length+1) cap) (l++[x]):=by
 have hl:(l++[x]).length=l.length+1:=by simp
 obtain ⟨ys,hy,h2⟩:=h
 obtain rfl:=zeH hx hy
 have hlen:xs.length=l.length*7:=hx.1
 have far:∀ {s:Value} {l:List Nat},Rd w s l->Far s v.ownBlock->Far s (some g):=fun hr hf => by
  rcases hat with e|e
  ·rw [<- e];exact hf
  ·exact hr.far_new (by omega)
 refine ⟨_,by rw [hl];exact hown,fun k hk' => ?_⟩
 rcases Nat.lt_or_ge k l.length with hlt|hge
 ·obtain ⟨a1,n1,c1,a1',n1',c1',s,k1,k2,g1,g2,i⟩:=h2 k hlt
  rw [List.getElem_append_left hlt]
  exact ⟨a1,n1,c1,a1',n1',c1',fun j hj => by rw [List.getElem?_append_left (by omega)];exact s j hj,k1.grown hgrow g1,k2.grown hgrow g2,far k1 g1,far k2 g2,i⟩
 ·have e:k=l.length:=by omega
  subst e
  have ex:(l++[x])[l.length]=x:=by simp
  rw [ex]
  exact ⟨a,n,c,a',n',c',fun j hj => by rw [List.getElem?_append_right (by omega),hlen,Nat.add_sub_cancel_left],hn.grown hgrow f1,hd.grown hgrow f2,far hn f1,far hd f2,hi,f3,f4⟩

theorem zaD.setP {B o:Nat} (k:zaD R base w v l) (hne:v.ownBlock≠some B) {c0:Value} (hc:w.cell? ⟨B,o,none⟩=some c0) (hn:∀ z,c0≠.int .u32 z) (x:Value):zaD R base (w.setCell ⟨B,o,none⟩ x) v l:=by
 obtain ⟨xs,h1,h2⟩:=k
 refine ⟨xs,Go.ownsRow_setCell_other h1 (fun e => hne e) x,fun k hk => ?_⟩
 obtain ⟨a,n,c,a',n',c',s,k1,k2,f1,f2,i⟩:=h2 k hk
 exact ⟨a,n,c,a',n',c',s,k1.put hc hn x,k2.put hc hn x,f1,f2,i⟩

theorem far_R {lo R:Nat} {w:World} {v:Value} {l:List Nat} (h:Own lo w v l) (hr:∀ q,some R=some q->q<lo):Far v (some R):=Far.of_lt (v:=.slice (some ⟨R,0,none⟩) 0 0) h hr

theorem zkU (w:World) {ops:Array Oper} {o:Oper} {ac:Act} {K:Act->World->Prop} {Q:Exit->Act->World->Prop} {E:Prop} (hg:o.guard=none)
  (s z:Operand) (ho:o.op=Op.call { callee:=Callee.builtin Builtin.append,args:=#[s,z],argTypes:=#[22,22] })
  (R base:Nat) (v:Value) (l:List Ins) (B:Nat) (y:Ins) (a1:Option Addr) (n1 c1:Nat) (a2:Option Addr) (n2 c2:Nat) (hs:ac.eval s=v) (hx:ac.eval z=.slice (some ⟨B,0,none⟩) 1 1) (hown:zaD R base w v l)
  (hcell:∀ j u,(zal y (.slice a1 n1 c1) (.slice a2 n2 c2))[j]?=some u->w.cell? ((⟨B,0,none⟩:Addr).add j)=some u)
  (hn:Rd w (.slice a1 n1 c1) y.q.n) (hd:Rd w (.slice a2 n2 c2) y.q.d) (f1:Far (.slice a1 n1 c1) v.ownBlock) (f2:Far (.slice a2 n2 c2) v.ownBlock) (hi:zbV y) (f3:Far (.slice a1 n1 c1) (some R)) (f4:Far (.slice a2 n2 c2) (some R)) (hl:l.length<=100000) (hb:base<=w.heap.size) (H:Nat) (hH:w.heap.size=H)
  (hK:∀ g c w',zaD R base w' (.slice (some ⟨g,0,none⟩) (l.length+1) c) (l++[y])->w.grownBy w' v.ownBlock->(v.ownBlock=some g\/g=H)->g<w'.heap.size->K (ac.put o.dst (.slice (some ⟨g,0,none⟩) (l.length+1) c)) w') :
  if Region.wanted o (yielded ops ac.tmps)=true then Oper.wp Tryz.prog o ac w K Q else E:=by
 obtain ⟨i0,hi0,hz0,hz1,hz2⟩:=info_parts zeh
 obtain ⟨xs,hxs⟩:=hown.toI.len
 refine step_append_lies w hg s z 22 ho base 49 i0 _ 7 88 Tryz.underlying22 hi0 hz0 hz1 hz2 rfl (by decide) v l.length xs hs hxs ⟨B,0,none⟩ 1 1 (zal y (.slice a1 n1 c1) (.slice a2 n2 c2))
  hx rfl hcell zfk (by decide) (by simp [maxLen];omega) (by omega) hb H hH ?_
 intro g c w' hown' hgrow hat hlt
 exact hK g c w' (hown.push hxs hown' hgrow (by rw [hH];exact hat) hn hd f1 f2 hi f3 f4) hgrow hat hlt

end

def B1 (w:World) (B:Nat) (v:Value):Prop:=B<w.heap.size/\w.cell? ⟨B,0,none⟩=some v/\w.frozen? ⟨B,0,none⟩=false

theorem B1.to {w w':World} {B:Nat} {v:Value} (h:B1 w B v) (hb:Below w.heap.size w w'):B1 w' B v :=
 ⟨Nat.lt_of_lt_of_le h.1 hb.size,(hb.cell (p:=⟨B,0,none⟩) h.1).trans h.2.1,(hb.frozen (p:=⟨B,0,none⟩) h.1).trans h.2.2⟩

theorem B1.grown {w w':World} {row:Option Nat} {B:Nat} {v:Value} (h:B1 w B v) (hg:w.grownBy w' row) (hne:row≠some B):B1 w' B v :=
 ⟨Nat.lt_of_lt_of_le h.1 hg.size,hg.cell h.2.1 (fun e => hne e.symm),(zo hg h.1 hne).trans h.2.2⟩

theorem B1.other {w:World} {B B' o:Nat} {v x:Value} (h:B1 w B v) (hne:B≠B'):B1 (w.setCell ⟨B',o,none⟩ x) B v :=
 ⟨by simp [go_sem];exact h.1,cP h.2.1 (.inl hne) _,by simp [go_sem,h.2.2]⟩

theorem B1.put {w:World} {B:Nat} {v:Value} (h:B1 w B v) (x:Value):B1 (w.setCell ⟨B,0,none⟩ x) B x :=
 ⟨by simp [go_sem];exact h.1,zh h.2.1 _,by simp [go_sem,h.2.2]⟩

theorem B5.put5' {w:World} {B:Nat} {v0 v1 v2 v3 v4:Value} (h:B5 w B v0 v1 v2 v3 v4) (u0 u1 u2 u3 u4:Value) :
  B5 (((((w.setCell ⟨B,0,none⟩ u0).setCell ⟨B,1,none⟩ u1).setCell ⟨B,2,none⟩ u2).setCell ⟨B,3,none⟩ u3).setCell ⟨B,4,none⟩ u4) B u0 u1 u2 u3 u4:=by
 obtain ⟨z,a0,a1,a2,a3,a4,f0,f1,f2,f3,f4⟩:=h
 refine ⟨by simp [go_sem];exact z,?_,?_,?_,?_,?_,?_,?_,?_,?_,?_⟩
 ·exact cP (cP (cP (cP (zh a0 _) (.inr (by decide)) _) (.inr (by decide)) _) (.inr (by decide)) _) (.inr (by decide)) _
 ·exact cP (cP (cP (zh (cP a1 (.inr (by decide)) _) _) (.inr (by decide)) _) (.inr (by decide)) _) (.inr (by decide)) _
 ·exact cP (cP (zh (cP (cP a2 (.inr (by decide)) _) (.inr (by decide)) _) _) (.inr (by decide)) _) (.inr (by decide)) _
 ·exact cP (zh (cP (cP (cP a3 (.inr (by decide)) _) (.inr (by decide)) _) (.inr (by decide)) _) _) (.inr (by decide)) _
 ·exact zh (cP (cP (cP (cP a4 (.inr (by decide)) _) (.inr (by decide)) _) (.inr (by decide)) _) (.inr (by decide)) _) _
 all_goals simp [go_sem,f0,f1,f2,f3,f4]

theorem zic (w:World) (B n:Nat) (u0 u1 u2 u3 u4:Value) (h:n<=B):Below n w (((((w.setCell ⟨B,0,none⟩ u0).setCell ⟨B,1,none⟩ u1).setCell ⟨B,2,none⟩ u2).setCell ⟨B,3,none⟩ u3).setCell ⟨B,4,none⟩ u4) :=
 (((((Below.refl _ _).setCell h _).setCell h _).setCell h _).setCell h _).setCell h _

theorem B1.other5 {w:World} {C:Nat} {v:Value} (h:B1 w C v) (B:Nat) (u0 u1 u2 u3 u4:Value) (hne:C≠B):B1 (((((w.setCell ⟨B,0,none⟩ u0).setCell ⟨B,1,none⟩ u1).setCell ⟨B,2,none⟩ u2).setCell ⟨B,3,none⟩ u3).setCell ⟨B,4,none⟩ u4) C v :=
 ((((h.other hne).other hne).other hne).other hne).other hne

def zeu (w:World) (b c:Nat):World:=(((((w.setCell ⟨b,0,none⟩ (.int .i64 0)).setCell ⟨b,1,none⟩ (.int .i64 0)).setCell ⟨b,2,none⟩ (.int .i64 0)).setCell ⟨b,3,none⟩ (.int .i64 0)).setCell ⟨b,4,none⟩ (.slice none 0 0)).setCell ⟨c,0,none⟩ (.int .i64 11)

theorem zie (b c:Nat) (v0 v1 v2 v3 v4 x pv:Value) (u:TypeId) (older:List PanicEntry) (w:World) (hC:B5 w b v0 v1 v2 v3 v4) (hE:B1 w c x) (hne:¬ (b=c)) :
  CallsD Tryz.prog 78 #[.pointer (some ⟨b,0,none⟩),.pointer (some ⟨c,0,none⟩)] (.panicking ({ v:=.iface u pv,recovered:=false } :: older)) w fun e u' w' =>
   e=.returned (.tuple #[])/\u'=.panicking ({ v:=.iface u pv,recovered:=true } :: older)/\w'=zeu w b c:=by
 obtain ⟨z,a0,a1,a2,a3,a4,f0,f1,f2,f3,f4⟩:=hC
 obtain ⟨y,e0,g0⟩:=hE
 refine callsD_of_wpS Tryz.func78 rfl fun c₀ cs hu => ?_
 apply wpS_seq
 apply wpS_region
 simp [wpOpsS,go_sem,recoverD,hu,Tryz.ntmps78,Exit.thenS]
 refine wpS_cond (t:=true) (by simp [Act.eval,Array.replicate]) ?_
 simp only [if_true]
 apply wpS_region
 simp [wpOpsS,go_sem,a0,a1,a2,a3,a4,f0,f1,f2,f3,f4,e0,g0,bodyPostS,results,Tryz.results78]
 rfl

theorem zko (p q:Addr) (w:World) :
  CallsD Tryz.prog 78 #[.pointer (some p),.pointer (some q)] .returning w fun e u' w' => e=.returned (.tuple #[])/\u'=.returning/\w'=w:=by
 refine callsD_of_wpS Tryz.func78 rfl fun c₀ cs hu => ?_
 apply wpS_seq
 apply wpS_region
 simp [wpOpsS,go_sem,recoverD,hu,Tryz.ntmps78,Exit.thenS]
 refine wpS_cond (t:=false) (by simp [Act.eval,Array.replicate]) ?_
 simp only [Bool.false_eq_true,if_false]
 refine wpS_of_wp (wp_skip ?_)
 cases c₀
 simp_all [bodyPostS,results,Tryz.results78]

theorem zhc {fn:Func} {k j:Tmp} (h:fn.results=#[.cell k 24,.cell j 35]) (tmps:Array Value) (w:World) (b c:Nat) {v0 v1 v2 v3 v4 x:Value} (hk:tmps.getD k undef=.pointer (some ⟨b,0,none⟩)) (hj:tmps.getD j undef=.pointer (some ⟨c,0,none⟩))
  (t:B5 w b v0 v1 v2 v3 v4) (s:B1 w c x):(results fn tmps).run Tryz.prog w=.ok (.tuple #[.agg #[v0,v1,v2,v3,v4],x]) w:=by
 obtain ⟨z,a0,a1,a2,a3,a4,_⟩:=t
 have hl:(loadVar 24 ⟨b,0,none⟩).run Tryz.prog w=.ok (.agg #[v0,v1,v2,v3,v4]) w:=by simp [go_sem,a0,a1,a2,a3,a4]
 have hm:(loadVar 35 ⟨c,0,none⟩).run Tryz.prog w=.ok x w:=by simp [go_sem,s.2.1]
 have hk':tmps[k]?.getD undef=.pointer (some ⟨b,0,none⟩):=by simpa using hk
 have hj':tmps[j]?.getD undef=.pointer (some ⟨c,0,none⟩):=by simpa using hj
 simp [results,h,asAddr,Sem.run_bind,hl,hm,Result.andThen,hk',hj']

theorem zhi {w:World} {b c:Nat} {v0 v1 v2 v3 v4 x:Value} (hC:B5 w b v0 v1 v2 v3 v4) (hE:B1 w c x) (hne:¬ (b=c)) :
  B5 (zeu w b c) b (.int .i64 0) (.int .i64 0) (.int .i64 0) (.int .i64 0) (.slice none 0 0)/\B1 (zeu w b c) c (.int .i64 11) :=
 ⟨(B5.put5' hC _ _ _ _ _).other hne,(((((hE.other (fun e => hne e.symm)).other (fun e => hne e.symm)).other (fun e => hne e.symm)).other (fun e => hne e.symm)).other (fun e => hne e.symm)).put _⟩

theorem zan (b c:Nat) {v0 v1 v2 v3 v4 x:Value} (tmps:Array Value) (w:World) (Q:Ending->World->Prop) (hb:tmps.getD 2 undef=.pointer (some ⟨b,0,none⟩)) (hc:tmps.getD 3 undef=.pointer (some ⟨c,0,none⟩))
  (hC:B5 w b v0 v1 v2 v3 v4) (hE:B1 w c x) (hne:¬ (b=c)) (hQ:Q (.returned (.tuple #[.agg #[.int .i64 0,.int .i64 0,.int .i64 0,.int .i64 0,.slice none 0 0],.int .i64 11])) (zeu w b c)) :
  bodyPostD Tryz.prog Tryz.f53 Q (Exit.panic zix) { tmps:=tmps,defers:=[{ target:=Target.fn (Fn.func 78) #[.pointer (some ⟨b,0,none⟩),.pointer (some ⟨c,0,none⟩)],args:=#[] }] } w:=by
 refine leaves_cons (f:=78) (args:=#[.pointer (some ⟨b,0,none⟩),.pointer (some ⟨c,0,none⟩)]) (by simp) (by simp [go_sem]) ?_
 refine (zie b c v0 v1 v2 v3 v4 x _ _ [] w hC hE hne).mono ?_
 rintro e u' w'' ⟨rfl,rfl,rfl⟩
 obtain ⟨h5,h1⟩:=zhi hC hE hne
 have hr:=zhc (fn:=Tryz.f53) (k:=2) (j:=3) rfl tmps _ b c hb hc h5 h1
 simp [Leaves,settle,hr,hQ]

theorem zlY (b c:Nat) {v0 v1 v2 v3 v4 x:Value} (tmps:Array Value) (w:World) (Q:Ending->World->Prop) (hb:tmps.getD 2 undef=.pointer (some ⟨b,0,none⟩)) (hc:tmps.getD 3 undef=.pointer (some ⟨c,0,none⟩))
  (hC:B5 w b v0 v1 v2 v3 v4) (hE:B1 w c x) (hQ:Q (.returned (.tuple #[.agg #[v0,v1,v2,v3,v4],x])) w) :
  bodyPostD Tryz.prog Tryz.f53 Q Exit.ret { tmps:=tmps,defers:=[{ target:=Target.fn (Fn.func 78) #[.pointer (some ⟨b,0,none⟩),.pointer (some ⟨c,0,none⟩)],args:=#[] }] } w:=by
 refine leaves_cons (f:=78) (args:=#[.pointer (some ⟨b,0,none⟩),.pointer (some ⟨c,0,none⟩)]) (by simp) (by simp [go_sem]) ?_
 refine (zko _ _ _).mono ?_
 rintro e u' w'' ⟨rfl,rfl,rfl⟩
 have hr:=zhc (fn:=Tryz.f53) (k:=2) (j:=3) rfl tmps _ b c hb hc hC hE
 simp [Leaves,settle,hr,hQ]

def zer (m:Nat) (Q:Exit->Act->World->Prop):Exit->Act->World->Prop
 | .panic c,a,w => ∀ a':Act,(∀ k,k<m->a'.tmps.getD k undef=a.tmps.getD k undef)->a'.defers=a.defers->Q (.panic c) a' w
 | e,a,w => Q e a w

theorem zer.imp {m:Nat} {Q:Exit->Act->World->Prop}:∀ (e:Exit) (a:Act) (w:World),zer m Q e a w->Q e a w:=fun e a w h => by
 cases e <;> first|exact h|exact h a (fun _ _ => rfl) rfl

theorem zer.put {m d:Nat} {Q:Exit->Act->World->Prop} {c:List PanicEntry} {a:Act} {v:Value} {w:World} (hd:m<=d) (h:zer m Q (.panic c) (a.put (some d) v) w):zer m Q (.panic c) a w:=fun a' h1 h2 =>
 h a' (fun k hk => by rw [h1 k hk];simp [Act.put];rw [Array.getElem?_setIfInBounds_ne (by omega)]) h2

theorem zfZ {P:Program} {id:Nat} {ops:Array Oper} {b:Bool} {Q:Exit->Act->World->Prop} {a:Act} {w:World} (m:Nat) (h:(Code.region id ops b).wp P (zer m Q) a w):(Code.region id ops b).wp P Q a w :=
 Code.wp_mono zer.imp h

theorem zP {w:World} {n b c:Nat} (hb:n<=b) (hc:n<=c):Below n w (zeu w b c) :=
 ((((((Below.refl _ _).setCell hb _).setCell hb _).setCell hb _).setCell hb _).setCell hb _).setCell hc _

theorem zaL {l:List Nat} (h:zbF l=none):zC l=none:=by unfold zC;rw [h];rfl

theorem ziC {l:List Nat} {y:Ins × List Nat} (h:rdI l=some y):y.2.length<l.length/\4*y.1.q.n.length<=l.length/\4*y.1.q.d.length<=l.length:=by
 unfold rdI at h
 cases h1:zc l with
 | none => rw [h1] at h;cases h
 | some op =>
  rw [h1] at h
  simp only [Option.bind_some] at h
  cases h2:zc op.2 with
  | none => rw [h2] at h;cases h
  | some to_ =>
   rw [h2] at h
   simp only [Option.bind_some] at h
   cases h3:zc to_.2 with
   | none => rw [h3] at h;cases h
   | some a =>
    rw [h3] at h
    simp only [Option.bind_some] at h
    cases h4:zc a.2 with
    | none => rw [h4] at h;cases h
    | some b =>
     rw [h4] at h
     simp only [Option.bind_some] at h
     have k1:=zbT _ _ _ _ h1
     have k2:=zbT _ _ _ _ h2
     have k3:=zbT _ _ _ _ h3
     have k4:=zbT _ _ _ _ h4
     by_cases k:op.1=1
     ·rw [if_pos k] at h
      cases h5:rdQ b.2 with
      | none => rw [h5] at h;cases h
      | some q =>
       rw [h5] at h
       injection h with h
       rw [<- h]
       unfold rdQ at h5
       cases h6:zc b.2 with
       | none => rw [h6] at h5;cases h5
       | some g =>
        rw [h6] at h5
        simp only [Option.bind_some] at h5
        by_cases hg:1<g.1
        ·rw [if_pos hg] at h5;cases h5
        ·rw [if_neg hg] at h5
         cases h7:rdN g.2 with
         | none => rw [h7] at h5;cases h5
         | some n =>
          rw [h7] at h5
          simp only [Option.bind_some] at h5
          cases h8:rdN n.2 with
          | none => rw [h8] at h5;cases h5
          | some d =>
           rw [h8] at h5
           injection h5 with h5
           rw [<- h5]
           have k5:=zbT _ _ _ _ h6
           have k6:=zgq h7
           have k7:=zgq h8
           simp only
           omega
     ·rw [if_neg k] at h
      injection h with h
      rw [<- h]
      simp only [List.length_nil]
      omega

theorem zgU:∀ (k:Nat) (l:List Nat),l.length<k->zcw k l=none
 | 0,l,h => by omega
 | k+1,l,h => by
  unfold zcw
  cases h1:rdI l with
  | none => rfl
  | some y =>
   simp only [Option.bind_some]
   have:=ziC h1
   rw [zgU k y.2 (by omega)]
   rfl

def zaO:Cd:=⟨0,0,0,0,[]⟩

theorem zaW:Ending.returned (.tuple #[.agg #[.int .i64 0,.int .i64 0,.int .i64 0,.int .i64 0,.slice none 0 0],.int .i64 11])=Ending.returned (.tuple #[aggC zaO (.slice none 0 0),.int .i64 11]):=rfl

def GivesD (R:Nat) (w:World) (o:Option Cd) (e:Ending) (w':World):Prop :=
 w.grownBy w' (some R)/\match o with
  | some c => ∃ v,e=.returned (.tuple #[aggC c v,.int .i64 0])/\zau (w.heap.size+2) w' v c.all
  | none => e=.returned (.tuple #[aggC zaO (.slice none 0 0),.int .i64 11])

def zll (N R:Nat) (w:World) (l:List Nat) (ins rows cols regs n k:Nat) (dn:List Ins) (l':List Nat) (v4:Value) (ww:World):Prop :=
 RB N R ww l'/\w.grownBy ww (some R)/\B5 ww w.heap.size (.int .i64 (ins:Int)) (.int .i64 (rows:Int)) (.int .i64 (cols:Int)) (.int .i64 (regs:Int)) v4/\B1 ww (w.heap.size+1) (.int .i64 0)/\zaD R (w.heap.size+2) ww v4 dn /\
 zbF l=((zcw (n - k) l').map fun z => (⟨ins,rows,cols,regs,dn++z.1⟩,z.2))/\dn.length=k/\l'.length<=4000/\∀ x ∈ dn,x.q.n.length<=1000/\x.q.d.length<=1000

theorem zkH (N R:Nat) (l:List Nat) (w:World) (h:RB N R w l) (hl:l.length<=4000) :
  Calls Tryz.prog 53 #[.pointer (some ⟨R,0,none⟩)] w (GivesD R w (zC l)):=by
 have hmf:∀ (fn:Fn) (first cap:Array Value) (w:World),(Instr.makeFunc fn first cap).run Tryz.prog w=.ok (.func fn first cap) w:=fun _ _ _ _ => rfl
 have hlt:=h.lt
 have H:=Lib.hid h
 have Hl:=Lib.hid hl
 clear h hl
 go_enter_defers Tryz.func53,Tryz.ntmps53
 go_wp2_with fail
 obtain ⟨W0,an⟩:∃ W0,(w.alloc (.cells #[.int .i64 0,.int .i64 0,.int .i64 0,.int .i64 0,.slice none 0 0] 24)).alloc (.cells #[.int .i64 0] 35)=W0:=⟨_,rfl⟩
 have dE:Below w.heap.size w W0:=by rw [<- an];exact bS (bN _ _) (bN _ _)
 have hC0:Hid (B5 W0 w.heap.size (.int .i64 0) (.int .i64 0) (.int .i64 0) (.int .i64 0) (.slice none 0 0)):=by
  show B5 _ _ _ _ _ _ _
  rw [<- an]
  unfold B5
  and_intros <;> first|(simp [go_sem];done)|(simp [go_sem];omega)
 have hE0:Hid (B1 W0 (w.heap.size+1) (.int .i64 0)):=by
  show B1 _ _ _
  rw [<- an]
  unfold B1
  and_intros <;> first|(simp [go_sem];done)|(simp [go_sem];omega)
 rw [an]
 clear an
 have hR0:=H.out.to dE
 have hgW:=zW dE (some R)
 have hg0:=World.grownBy.refl W0 (some R)
 have hRC:(some R:Option Nat)≠some w.heap.size:=fun e => by injection e with e;omega
 have hRE:(some R:Option Nat)≠some (w.heap.size+1):=fun e => by injection e with e;omega
 have hz0:=hE0.out.1
 refine (zac N R l _ hR0).mono ?_
 rintro e w1 ⟨hh1,h1⟩
 have hg1:=hg0.trans hh1
 cases hc1:zc l with
 | none =>
  rw [hc1] at h1
  obtain rfl:=h1
  refine zan w.heap.size (w.heap.size+1) _ _ _ rfl rfl (hC0.out.grown hg1 hRC) (hE0.out.grown hg1 hRE) (by omega) ?_
  refine ⟨zr (hgW.trans hg1) (zP (Nat.le_refl _) (Nat.le_succ _)),?_⟩
  rw [show zC l=none by exact zaL (by unfold zbF;rw [hc1];rfl)]
  exact zaW
 | some y1 =>
  rw [hc1] at h1
  obtain ⟨⟨v1,rfl,rfl⟩,hR1⟩:=h1
  have hln1:=zao hc1
  obtain ⟨ins,l1⟩:=y1
  simp only at hR1 hln1
  clear hR0 hh1 hg0
  go_wp2_with fail
  refine (zac N R l1 _ hR1).mono ?_
  rintro e w2 ⟨hh2,h2⟩
  have hg2:=hg1.trans hh2
  cases hc2:zc l1 with
  | none =>
   rw [hc2] at h2
   obtain rfl:=h2
   refine zan w.heap.size (w.heap.size+1) _ _ _ rfl rfl (hC0.out.grown hg2 hRC) (hE0.out.grown hg2 hRE) (by omega) ?_
   refine ⟨zr (hgW.trans hg2) (zP (Nat.le_refl _) (Nat.le_succ _)),?_⟩
   rw [show zC l=none by exact zaL (by unfold zbF;rw [hc1];simp only [Option.bind_some];rw [hc2];rfl)]
   exact zaW
  | some y2 =>
   rw [hc2] at h2
   obtain ⟨⟨v2,rfl,rfl⟩,hR2⟩:=h2
   have hln2:=zao hc2
   obtain ⟨rows,l2⟩:=y2
   simp only at hR2 hln2
   clear hR1 hh2 hg1
   go_wp2_with fail
   refine (zac N R l2 _ hR2).mono ?_
   rintro e w3 ⟨hh3,h3⟩
   have hg3:=hg2.trans hh3
   cases hc3:zc l2 with
   | none =>
    rw [hc3] at h3
    obtain rfl:=h3
    refine zan w.heap.size (w.heap.size+1) _ _ _ rfl rfl (hC0.out.grown hg3 hRC) (hE0.out.grown hg3 hRE) (by omega) ?_
    refine ⟨zr (hgW.trans hg3) (zP (Nat.le_refl _) (Nat.le_succ _)),?_⟩
    rw [show zC l=none by exact zaL (by unfold zbF;rw [hc1];simp only [Option.bind_some];rw [hc2];simp only [Option.bind_some];rw [hc3];rfl)]
    exact zaW
   | some y3 =>
    rw [hc3] at h3
    obtain ⟨⟨v3,rfl,rfl⟩,hR3⟩:=h3
    have hln3:=zao hc3
    obtain ⟨cols,l3⟩:=y3
    simp only at hR3 hln3
    clear hR2 hh3 hg2
    go_wp2_with fail
    refine (zac N R l3 _ hR3).mono ?_
    rintro e w4 ⟨hh4,h4⟩
    have hg4:=hg3.trans hh4
    cases hc4:zc l3 with
    | none =>
     rw [hc4] at h4
     obtain rfl:=h4
     refine zan w.heap.size (w.heap.size+1) _ _ _ rfl rfl (hC0.out.grown hg4 hRC) (hE0.out.grown hg4 hRE) (by omega) ?_
     refine ⟨zr (hgW.trans hg4) (zP (Nat.le_refl _) (Nat.le_succ _)),?_⟩
     rw [show zC l=none by exact zaL (by unfold zbF;rw [hc1];simp only [Option.bind_some];rw [hc2];simp only [Option.bind_some];rw [hc3];simp only [Option.bind_some];rw [hc4];rfl)]
     exact zaW
    | some y4 =>
     rw [hc4] at h4
     obtain ⟨⟨v4,rfl,rfl⟩,hR4⟩:=h4
     have hln4:=zao hc4
     obtain ⟨regs,l4⟩:=y4
     simp only at hR4 hln4
     clear hR3 hh4 hg3
     have hC4:=hC0.out.grown hg4 hRC
     have hE4:=hE0.out.grown hg4 hRE
     obtain ⟨cz,c0,c1,c2,c3,c4,cf0,cf1,cf2,cf3,cf4⟩:=id hC4
     have hgW4:=hgW.trans hg4
     go_wp2_with fail
     obtain ⟨W5,dc⟩:∃ W5,((((w4.setCell ⟨w.heap.size,0,none⟩ (.int .i64 (ins:Int))).setCell ⟨w.heap.size,1,none⟩ (.int .i64 (rows:Int))).setCell ⟨w.heap.size,2,none⟩ (.int .i64 (cols:Int))).setCell ⟨w.heap.size,3,none⟩ (.int .i64 (regs:Int))).setCell ⟨w.heap.size,4,none⟩ (.slice none 0 0)=W5:=⟨_,rfl⟩
     have hne:¬ (w.heap.size+1=w.heap.size):=by omega
     have hC5:B5 W5 w.heap.size (.int .i64 (ins:Int)) (.int .i64 (rows:Int)) (.int .i64 (cols:Int)) (.int .i64 (regs:Int)) (.slice none 0 0):=by rw [<- dc];exact hC4.put5' _ _ _ _ _
     have hE5:B1 W5 (w.heap.size+1) (.int .i64 0):=by rw [<- dc];exact hE4.other5 _ _ _ _ _ _ hne
     have cU:Below w.heap.size w4 W5:=by rw [<- dc];exact zic _ _ _ _ _ _ _ _ (Nat.le_refl _)
     rw [dc]
     clear dc cz c0 c1 c2 c3 c4 cf0 cf1 cf2 cf3 cf4 hC4 hE4
     have hR5:=hR4.toN (cU.mono hlt.2.1)
     have hg5:=zr hgW4 cU
     have HC5:=Lib.hid hC5
     have HE5:=Lib.hid hE5
     clear hR4 hC5 hE5
     refine (zac N R l4 _ hR5).mono ?_
     rintro e w6 ⟨hh6,h6⟩
     have hg6:=hg5.trans hh6
     cases hc6:zc l4 with
     | none =>
      rw [hc6] at h6
      obtain rfl:=h6
      refine zan w.heap.size (w.heap.size+1) _ _ _ rfl rfl (HC5.out.grown hh6 hRC) (HE5.out.grown hh6 hRE) (by omega) ?_
      refine ⟨zr (hg6) (zP (Nat.le_refl _) (Nat.le_succ _)),?_⟩
      rw [show zC l=none by exact zaL (by unfold zbF;rw [hc1];simp only [Option.bind_some];rw [hc2];simp only [Option.bind_some];rw [hc3];simp only [Option.bind_some];rw [hc4];simp only [Option.bind_some];rw [hc6];rfl)]
      exact zaW
     | some y6 =>
      rw [hc6] at h6
      obtain ⟨⟨v6,rfl,rfl⟩,hR6⟩:=h6
      have hln6:=zao hc6
      obtain ⟨n,l6⟩:=y6
      simp only at hR6 hln6
      have hl6:l6.length<=4000:=by have:=Hl.out;omega
      have HA:=Lib.hid (show zbF l=(zcw n l6).map fun z => (⟨ins,rows,cols,regs,z.1⟩,z.2) by
       unfold zbF
       rw [hc1];simp only [Option.bind_some]
       rw [hc2];simp only [Option.bind_some]
       rw [hc3];simp only [Option.bind_some]
       rw [hc4];simp only [Option.bind_some]
       rw [hc6];rfl)
      have bI:ins<268435456:=hln1.2
      have bR:rows<268435456:=hln2.2
      have bC:cols<268435456:=hln3.2
      have bG:regs<268435456:=hln4.2
      have hC6:=HC5.out.grown hh6 hRC
      have hE6:=HE5.out.grown hh6 hRE
      clear hc1 hc2 hc3 hc4 hc6 hln1 hln2 hln3 hln4 hln6 hg4 hg5 hR5 hgW4 cU
      obtain ⟨a,m,c,c1,f1,hB,_⟩:=id hR6
      have hm:l6.length=m:=by
       obtain ⟨_,_,_,e,_⟩:=hB
       injection e with _ e2 _
       exact e2.symm
      clear hB
      by_cases hmn:m<n
      ·have hni:(m:Int)<(n:Int):=by omega
       have HN:=Lib.hid (show zC l=none from zaL (by rw [HA.out,zgU n l6 (by omega)];rfl))
       go_wp2_with fail
       refine (zad _).mono ?_
       rintro e w7 ⟨rfl,eN⟩
       refine zan w.heap.size (w.heap.size+1) _ _ _ rfl rfl (hC6.to eN) (hE6.to eN) (by omega) ?_
       refine ⟨zr (hg6.trans (zW eN _)) (zP (Nat.le_refl _) (Nat.le_succ _)),?_⟩
       rw [show zC l=none by exact HN.out]
       exact zaW
      ·have hni:¬ ((m:Int)<(n:Int)):=by omega
       have hn4:n<=4000:=by omega
       clear hm
       go_wp2_with fail
       refine (zaC _).mono ?_
       rintro e w7 ⟨rfl,eN⟩
       clear c1 f1
       have HV0:Hid (zll N R w l ins rows cols regs n 0 [] l6 (.slice none 0 0) w7):=by
        refine ⟨hR6.to eN,hg6.trans (zW eN _),hC6.to eN,hE6.to eN,zaD.nil _ _ _,?_,rfl,hl6,fun x hx => by cases hx⟩
        rw [HA.out,Nat.sub_zero]
        simp
       clear hR6 hg6 hC6 hE6 hh6 HC5 HE5
       go_wp2_with fail
       go_loopw [26] (fun si ww => ∃ (k:Nat) (dn:List Ins) (l':List Nat) (v4:Value),k<=n/\si=.int .i64 (k:Int)/\Hid (zll N R w l ins rows cols regs n k dn l' v4 ww)) (fun i _ => n - (intOf i).toNat)
       case atStart => exact ⟨0,[],l6,_,Nat.zero_le _,rfl,HV0⟩
       case round =>
       clear HV0
       obtain ⟨k,dn,l',v4,hk,rfl,HV⟩:=hrel
       obtain ⟨hR,hg,hC,hE,hO,hA,hD,hL,hS⟩:=HV.out
       obtain ⟨a4,cap4,hform,_⟩:=hO.toI.form
       rw [hD] at hform
       subst hform
       have HD:=Lib.hid hD
       have HW:=Lib.hid (show ∀ g,(Value.slice a4 k cap4).ownBlock=some g->w.heap.size+2<=g/\g<wr.heap.size from hO.toI.lt)
       have HA1:=Lib.hid hA
       have HS:=Lib.hid hS
       have HO:=Lib.hid hO
       have hrs:w.heap.size+1<wr.heap.size:=hE.1
       have HC:=Lib.hid hC
       have HEr:=Lib.hid hE
       obtain ⟨cz,c0,c1,c2,c3,c4,cf0,cf1,cf2,cf3,cf4⟩:=id hC
       clear hA hS hO hC hE hD
       by_cases hkn:k<n
       ·have hki:(k:Int)<(n:Int):=by omega
        cases hcI:rdI l' with
        | none =>
         have HN:=Lib.hid (show zC l=none from zaL (by rw [HA1.out,show n - k=(n - k - 1)+1 by omega];unfold zcw;rw [hcI];rfl))
         go_wp2_with fail
         refine zfZ 28 ?_
         refine wp_region_any (by kernel_rfl) ?_
         try (change wpAny _ _ _ _ _ _ _ (World.drew _))
         refine wpAny_take (i:=0) (v:=?_) rfl (by kernel_rfl) (by kernel_rfl) (by kernel_rfl) (fun _ _ _ h => zer.put (by decide) h) (Or.inl ⟨by rfl,?_⟩) ?_
         rotate_left
         ·intro w;go_simp;try with_reducible rfl
         refine wpAny_take (i:=2) (v:=?_) rfl (by kernel_rfl) (by kernel_rfl) (by kernel_rfl) (fun _ _ _ h => zer.put (by decide) h) (Or.inl ⟨by rfl,?_⟩) ?_
         rotate_left
         ·intro w;go_simp;try with_reducible rfl
         refine wpAny_ready (rs:=[1,3]) (by kernel_rfl) (by simp) ?_
         refine AllReady.cons rfl (fun K hK => ?_) ?_
         ·go_simp
          refine hK _ _ ?_
          clear hK K
          refine wpAny_ready (rs:=[3]) (by kernel_rfl) (by simp) ?_
          refine AllReady.cons rfl (fun K hK => ?_) AllReady.nil
          go_simp
          refine (zdu N R l' _ (hR.to (Below.refl _ _).drew) hL).mono ?_
          rintro e x7 ⟨hg7,h7⟩
          rw [hcI] at h7
          obtain rfl:=h7
          have hg8:=(zW (Below.refl wr.heap.size wr).drew (some R)).trans hg7
          intro a' h1 h2
          obtain ⟨tm,df⟩:=a'
          simp only at h1 h2
          subst h2
          refine zan w.heap.size (w.heap.size+1) _ _ _ (h1 2 (by decide)) (h1 3 (by decide)) (HC.out.grown hg8 hRC) (HEr.out.grown hg8 hRE) (by omega) ?_
          refine ⟨zr (hg.trans hg8) (zP (Nat.le_refl _) (Nat.le_succ _)),?_⟩
          rw [HN.out]
          exact zaW
         ·refine AllReady.cons rfl (fun K hK => ?_) AllReady.nil
          go_simp
          refine (zdu N R l' _ (hR.to (Below.refl _ _).drew) hL).mono ?_
          rintro e x7 ⟨hg7,h7⟩
          rw [hcI] at h7
          obtain rfl:=h7
          have hg8:=(zW (Below.refl wr.heap.size wr).drew (some R)).trans hg7
          intro a' h1 h2
          obtain ⟨tm,df⟩:=a'
          simp only at h1 h2
          subst h2
          refine zan w.heap.size (w.heap.size+1) _ _ _ (h1 2 (by decide)) (h1 3 (by decide)) (HC.out.grown hg8 hRC) (HEr.out.grown hg8 hRE) (by omega) ?_
          refine ⟨zr (hg.trans hg8) (zP (Nat.le_refl _) (Nat.le_succ _)),?_⟩
          rw [HN.out]
          exact zaW
        | some y =>
         obtain ⟨x,l2⟩:=y
         have hln:=ziC hcI
         simp only at hln
         have HcI:=Lib.hid hcI
         have Hdl:=Lib.hid (show dn.length<=100000 by have:=HD.out;omega)
         have hRb:R<w.heap.size+2:=by omega
         go_wp2_with fail
         refine wp_region_noPanic ?_
         go_region_law (first
          | (refine zkU _ rfl (.tmp 29) (.tmp 32) rfl R (w.heap.size+2) _ dn _ x ax nx cx ay ny cy rfl rfl (hO7.to (bN _ _)) zaS (hn.rd.to (bN _ _)) (hd.rd.to (bN _ _)) (Far.of_lt hn hvl) (Far.of_lt hd hvl) hi (far_R hn hvR) (far_R hd hvR) Hdl.out (by simp;omega) _ rfl ?_;intro g4 cj4 w4 hO4 hgrow4 hat4 hlt4;have hC8:=(hC7.to (bN x7 (.cells (zal x (.slice ax nx cx) (.slice ay ny cy)).toArray 49))).grown hgrow4 hvC;obtain ⟨dz,d0,d1,d2,d3,d4,df0,df1,df2,df3,df4⟩:=id hC8)
          | (go_simp;go_at_call 81;(refine zl wr (by with_reducible first|exact (Below.refl _ _).drew|exact Below.refl _ _) ?_);intro V7 iM fq;(refine (zdu N R l' _ (hR.to fq) hL).mono ?_);rintro e x7 ⟨hg7,h7⟩;rw [HcI.out] at h7;obtain ⟨⟨vx,rfl,ax,nx,cx,ay,ny,cy,rfl,hn,hd,hi⟩,hR7⟩:=h7;have hg8:=(zW fq (some R)).trans hg7;have hC7:=HC.out.grown hg8 hRC;have hO7:=(HO.out.to fq).grownR hg7 hRb;have hvl:∀ q,(Value.slice a4 k cap4).ownBlock=some q->q<V7.heap.size:=(fun q hq => Nat.lt_of_lt_of_le (HW.out q hq).2 fq.size);have hvR:∀ q,some R=some q->q<V7.heap.size:=(fun q hq => by injection hq with hq;have h1:=fq.size;omega);have hvC:(Value.slice a4 k cap4).ownBlock≠some w.heap.size:=(fun e => by have h1:=(HW.out _ e).1;omega);have hE7:=HEr.out.grown hg8 hRE;have hs7:=hE7.1;obtain ⟨dz,d0,d1,d2,d3,d4,df0,df1,df2,df3,df4⟩:=id hC7))
         all_goals
          first|refine NoPanic.normal ?_|skip
          go_wp2_with fail
          go_roundw
          case rel =>
           have hg4:w.heap.size+2<=g4:=by
            rcases hat4 with e|e
            ·exact (HW.out _ e).1
            ·rw [e];simp;omega
           have b8:Below w.heap.size x7 w4:=((Below.refl _ _).alloc (by omega) (.cells (zal x (.slice ax nx cx) (.slice ay ny cy)).toArray 49)).grown hgrow4 (by simp;omega) (fun q hq => by have:=(HW.out q hq).1;omega)
           have b9:=b8.setCell (p:=⟨w.heap.size,4,none⟩) (Nat.le_refl _) (.slice (some ⟨g4,0,none⟩) (dn.length+1) cj4)
           have hvE:(Value.slice a4 k cap4).ownBlock≠some (w.heap.size+1):=fun e => by have h1:=(HW.out _ e).1;omega
           refine ⟨k+1,dn++[x],l2,.slice (some ⟨g4,0,none⟩) (dn.length+1) cj4,by omega,by go_num,Lib.hid ⟨hR7.toN (b9.mono hlt.2.1),zr (hg.trans hg8) b9,hC8.set4 _,(((hE7.to (bN x7 (.cells (zal x (.slice ax nx cx) (.slice ay ny cy)).toArray 49))).grown hgrow4 hvE).other (by omega)),hO4.setP (B:=w.heap.size) (o:=4) (fun e => by have e:g4=w.heap.size:=Option.some.inj e;omega) d4 (fun z e => by cases e) _,?_,by rw [List.length_append,HD.out];rfl,by omega,fun y hy => ?_⟩⟩
           ·rw [HA1.out,show n - k=(n - (k+1))+1 by omega]
            show Option.map _ ((rdI l').bind fun y => (zcw (n - (k+1)) y.2).map fun z => (y.1 :: z.1,z.2))=_
            rw [HcI.out]
            simp only [Option.bind_some]
            cases zcw (n - (k+1)) l2 with
            | none => rfl
            | some z =>
             show some _=some _
             congr 2
             simp
           ·rcases List.mem_append.1 hy with hy|hy
            ·exact HS.out y hy
            ·rw [List.mem_singleton.1 hy];omega
          case measure => simp [intOf] <;> omega
       ·obtain rfl:k=n:=by omega
        have hki:¬ ((k:Int)<(k:Int)):=by omega
        have HA2:=Lib.hid (show zbF l=some (⟨ins,rows,cols,regs,dn⟩,l') by rw [HA1.out,Nat.sub_self];simp [zcw])
        obtain ⟨a,m',c,q1,f1,hB,_⟩:=id hR
        have hm:l'.length=m':=by
         obtain ⟨_,_,_,e,_⟩:=hB
         injection e with _ e2 _
         exact e2.symm
        clear hB
        by_cases hm0:0<m'
        ·have hmi:(0:Int)<(m':Int):=by omega
         have HN:=Lib.hid (show zC l=none by
          unfold zC
          rw [HA2.out]
          exact if_neg (fun e => by have e1:l'=[]:=e.1;rw [e1] at hm;simp at hm;omega))
         go_wp2_with fail
         refine (zad _).mono ?_
         rintro e w8 ⟨rfl,fs⟩
         refine zan w.heap.size (w.heap.size+1) _ _ _ rfl rfl (HC.out.to fs) (HEr.out.to fs) (by omega) ?_
         refine ⟨zr (hg.trans (zW fs _)) (zP (Nat.le_refl _) (Nat.le_succ _)),?_⟩
         rw [HN.out]
         exact zaW
        ·obtain rfl:m'=0:=by omega
         obtain rfl:l'=[]:=List.eq_nil_of_length_eq_zero hm
         have hIsC:IsC wr ⟨ins,rows,cols,regs,dn⟩ (.slice a4 k cap4):=⟨HO.out.toI.rdC,⟨by show (-9223372036854775808:Int)<=(ins:Int);omega,by show (ins:Int)<_;omega⟩,⟨by show (-9223372036854775808:Int)<=(rows:Int);omega,by show (rows:Int)<_;omega⟩,⟨by show (-9223372036854775808:Int)<=(cols:Int);omega,by show (cols:Int)<_;omega⟩,⟨by show (-9223372036854775808:Int)<=(regs:Int);omega,by show (regs:Int)<_;omega⟩⟩
         have HIs:=Lib.hid hIsC
         clear hIsC
         obtain ⟨o,ho⟩:∃ o,zF ⟨ins,rows,cols,regs,dn⟩=o:=⟨_,rfl⟩
         have HDo:=Lib.hid (show zC l=if o=true then some ⟨ins,rows,cols,regs,dn⟩ else none by
          unfold zC
          rw [HA2.out]
          simp only [Option.bind_some,ho,true_and])
         have Ho:=Lib.hid ho
         clear ho
         go_wp2_with fail
         refine (zdF ⟨ins,rows,cols,regs,dn⟩ _ _ HIs.out HS.out o Ho.out).mono ?_
         rintro e w8 ⟨rfl,fs⟩
         have hC8:=HC.out.to fs
         have hE8:=HEr.out.to fs
         clear cz c0 c1 c2 c3 c4 cf0 cf1 cf2 cf3 cf4 q1 f1
         cases o with
         | false =>
          go_wp2_with fail
          refine (zad _).mono ?_
          rintro e w9 ⟨rfl,eW⟩
          refine zan w.heap.size (w.heap.size+1) _ _ _ rfl rfl (hC8.to eW) (hE8.to eW) (by omega) ?_
          refine ⟨zr (hg.trans ((zW fs _).trans (zW eW _))) (zP (Nat.le_refl _) (Nat.le_succ _)),?_⟩
          rw [HDo.out]
          exact zaW
         | true =>
          go_wp2_with fail
          refine (zaC _).mono ?_
          rintro e w9 ⟨rfl,eW⟩
          have hC9:=hC8.to eW
          have hE9:=hE8.to eW
          have hne:¬ (w.heap.size+1=w.heap.size):=by omega
          have hne2:¬ (w.heap.size=w.heap.size+1):=by omega
          have hgg:=hg.trans ((zW fs (some R)).trans (zW eW (some R)))
          have HO9:=Lib.hid ((HO.out.to fs).to eW)
          obtain ⟨cz,c0,c1,c2,c3,c4,cf0,cf1,cf2,cf3,cf4⟩:=id hC9
          obtain ⟨ez,e0,ef⟩:=id hE9
          go_wp2_with fail
          have hCf:=(hC9.put5' (.int .i64 (ins:Int)) (.int .i64 (rows:Int)) (.int .i64 (cols:Int)) (.int .i64 (regs:Int)) (.slice a4 k cap4)).other (B':=w.heap.size+1) (o:=0) (x:=.int .i64 0) hne2
          have hE5:=hE9.other5 w.heap.size (.int .i64 (ins:Int)) (.int .i64 (rows:Int)) (.int .i64 (cols:Int)) (.int .i64 (regs:Int)) (.slice a4 k cap4) hne
          have hEf:=hE5.put (.int .i64 0)
          have hvC:(Value.slice a4 k cap4).ownBlock≠some w.heap.size:=fun e => by have h1:=(HW.out _ e).1;omega
          have hvE:(Value.slice a4 k cap4).ownBlock≠some (w.heap.size+1):=fun e => by have h1:=(HW.out _ e).1;omega
          have hOf:=(hC9.own5 HO9.out.toI hvC (.int .i64 (ins:Int)) (.int .i64 (rows:Int)) (.int .i64 (cols:Int)) (.int .i64 (regs:Int)) (.slice a4 k cap4)).setP hvE hE5.2.1 (fun z e => by cases e) (.int .i64 0)
          have hbf:=(zic w9 w.heap.size w.heap.size (.int .i64 (ins:Int)) (.int .i64 (rows:Int)) (.int .i64 (cols:Int)) (.int .i64 (regs:Int)) (.slice a4 k cap4) (Nat.le_refl _)).setCell (p:=⟨w.heap.size+1,0,none⟩) (Nat.le_succ _) (.int .i64 0)
          refine zlY w.heap.size (w.heap.size+1) _ _ _ rfl rfl hCf hEf ?_
          refine ⟨zr hgg hbf,?_⟩
          rw [show zC l=some ⟨ins,rows,cols,regs,dn⟩ by rw [HDo.out];rfl]
          exact ⟨_,rfl,hOf⟩

end Go.Proofs.YtkjcdnlpjldhaaaGreat


namespace Go.Proofs.YtkjcdnlpjldhaaaGreat
open Go.RowKit Tw
attribute [local go_sem ↓] Go.wp_at_zero Go.wp_at_succ

theorem zbA {fn:Func} {k j:Tmp} (h:fn.results=#[.cell k 24,.tmp j]) (tmps:Array Value) (w:World) (b:Nat) {v0 v1 v2 v3 v4 x:Value} (hk:tmps.getD k undef=.pointer (some ⟨b,0,none⟩)) (hj:tmps.getD j undef=x)
  (t:B5 w b v0 v1 v2 v3 v4):(results fn tmps).run Tryz.prog w=.ok (.tuple #[.agg #[v0,v1,v2,v3,v4],x]) w:=by
 obtain ⟨z,a0,a1,a2,a3,a4,_⟩:=t
 have hl:(loadVar 24 ⟨b,0,none⟩).run Tryz.prog w=.ok (.agg #[v0,v1,v2,v3,v4]) w:=by simp [go_sem,a0,a1,a2,a3,a4]
 have hk':tmps[k]?.getD undef=.pointer (some ⟨b,0,none⟩):=by simpa using hk
 have hj':tmps[j]?.getD undef=x:=by simpa using hj
 simp [results,h,asAddr,Sem.run_bind,hl,Result.andThen,hk',hj']

def zlm (w:World) (o:Option Cd) (e:Ending) (w':World):Prop :=
 Below w.heap.size w w'/\match o with
  | some c => ∃ v,e=.returned (.tuple #[aggC c v,.int .i64 0])/\zau w.heap.size w' v c.all
  | none => e=.returned (.tuple #[aggC zaO (.slice none 0 0),.int .i64 11])

theorem rb_new {w:World} {a:Option Addr} {m c:Nat} {l:List Nat} (h:RdB w (.slice a m c) l) (o:Obj) (t:TypeId):RB (w.heap.size+2) (w.heap.size+1) ((w.alloc o).alloc (.cells #[.slice a m c] t)) l:=by
 have hb:Below w.heap.size w ((w.alloc o).alloc (.cells #[.slice a m c] t)):=bS (bN _ _) (bN _ _)
 have hlt:∀ p,a=some p->0<m->p.block<w.heap.size:=fun p e h0 => by
  obtain ⟨_,a',c',e',_,_,h3⟩:=h
  injection e' with e1 e2 e3
  subst e1
  obtain ⟨b,off,e4,k⟩:=h3 0 (by omega)
  rw [e] at e4
  injection e4 with e4
  rw [e4]
  exact zm k
 refine ⟨a,m,c,by simp [go_sem],by simp [go_sem],h.to hb,fun p n c' e h0 => ?_,by omega,by simp,fun p e h0 => by have:=hlt p e h0;omega⟩
 injection e with e1 e2 e3
 have:=hlt p e1 (by omega)
 omega

theorem zcH (v:Value) (l:List Nat) (w:World) (h:RdB w v l) (hl:l.length<=4000) :
  Calls Tryz.prog 29 #[v] w (zlm w (zC l)):=by
 obtain ⟨a,m,c,rfl,Hm,hmc,hcm⟩:=h.open
 have H:=Lib.hid h
 have Hl:=Lib.hid hl
 clear h hl Hm hmc hcm
 go_enter Tryz.func29,Tryz.ntmps29
 go_wp2_with fail
 obtain ⟨W0,an⟩:∃ W0,(w.alloc (.cells #[.int .i64 0,.int .i64 0,.int .i64 0,.int .i64 0,.slice none 0 0] 24)).alloc (.cells #[.slice a m c] 104)=W0:=⟨_,rfl⟩
 have dE:Below w.heap.size w W0:=by rw [<- an];exact bS (bN _ _) (bN _ _)
 have fF:W0.heap.size=w.heap.size+2:=by rw [<- an];simp
 have hR:RB (w.heap.size+2) (w.heap.size+1) W0 l:=by rw [<- an];exact rb_new H.out _ _
 have hC0:B5 W0 w.heap.size (.int .i64 0) (.int .i64 0) (.int .i64 0) (.int .i64 0) (.slice none 0 0):=by
  rw [<- an]
  unfold B5
  and_intros <;> first|(simp [go_sem];done)|(simp [go_sem];omega)
 rw [an]
 clear an
 refine (zkH _ _ l _ hR Hl.out).mono ?_
 rintro e w1 ⟨hg,h1⟩
 have hC1:=hC0.grown hg (fun e => by injection e with e;omega)
 have be:=dE.grown hg (by omega) (fun q e => by injection e with e;omega)
 obtain ⟨cz,c0,c1,c2,c3,c4,cf0,cf1,cf2,cf3,cf4⟩:=id hC1
 have hbf:∀ u0 u1 u2 u3 u4,Below w.heap.size w (((((w1.setCell ⟨w.heap.size,0,none⟩ u0).setCell ⟨w.heap.size,1,none⟩ u1).setCell ⟨w.heap.size,2,none⟩ u2).setCell ⟨w.heap.size,3,none⟩ u3).setCell ⟨w.heap.size,4,none⟩ u4):=fun u0 u1 u2 u3 u4 =>
  be.trans (zic w1 w.heap.size w.heap.size u0 u1 u2 u3 u4 (Nat.le_refl _))
 have HBF:=Lib.hid hbf
 clear hbf
 cases hd:zC l with
 | none =>
  rw [hd] at h1
  obtain rfl:=h1
  go_wp2_with fail
  refine bodyPost_ret (zbA rfl _ _ _ rfl rfl (hC1.put5' _ _ _ _ _)) rfl ?_
  rw [hd]
  exact ⟨HBF.out _ _ _ _ _,rfl⟩
 | some cd =>
  rw [hd] at h1
  obtain ⟨u,rfl,hO⟩:=h1
  have HO:=Lib.hid hO
  obtain ⟨au,cu,hform,_⟩:=hO.form
  obtain ⟨nu,hnu⟩:∃ n,cd.all.length=n:=⟨_,rfl⟩
  rw [hnu] at hform
  subst hform
  have hvC:(Value.slice au nu cu).ownBlock≠some w.heap.size:=fun e => by have:=(hO.lt _ e).1;omega
  clear hO hnu
  go_wp2_with fail
  refine bodyPost_ret (zbA rfl _ _ _ rfl rfl (hC1.put5' _ _ _ _ _)) rfl ?_
  rw [hd]
  refine ⟨HBF.out _ _ _ _ _,_,rfl,?_⟩
  exact (hC1.own5 HO.out hvC _ _ _ _ _).mono (by omega)

end Go.Proofs.YtkjcdnlpjldhaaaGreat


namespace Go.Proofs.YtkjcdnlpjldhaaaGreat
open Go.RowKit Tw

def nx (st:Option (List Nat)):Option (List Nat):=(st.bind zc).map (·.2)

def nxN (st:Option (List Nat)):Option (List Nat):=(st.bind rdN).map (·.2)

def Was {α:Type} (o:Option (α × List Nat)) (v:α):Prop:=∀ y,o=some y->v=y.1

theorem rdAll_st {l:List Nat} {a b c d n:Nat} (h1:Was ((some l).bind zc) a) (h2:Was ((nx (some l)).bind zc) b) (h3:Was ((nx (nx (some l))).bind zc) c) (h4:Was ((nx (nx (nx (some l)))).bind zc) d) (h5:Was ((nx (nx (nx (nx (some l))))).bind zc) n) :
  zbF l=(nx (nx (nx (nx (nx (some l)))))).bind fun t => (zcw n t).map fun z => (⟨a,b,c,d,z.1⟩,z.2):=by
 unfold zbF
 have e0:(some l).bind zc=zc l:=rfl
 rw [e0] at h1
 unfold nx at h2 h3 h4 h5 ⊢
 rw [e0] at h2 h3 h4 h5 ⊢
 cases k1:zc l with
 | none => rfl
 | some y1 =>
  rw [k1] at h1 h2 h3 h4 h5
  obtain rfl:=h1 _ rfl
  have e1:((some y1).map (fun x:Nat × List Nat => x.2)).bind zc=zc y1.2:=rfl
  simp only [e1] at h2 h3 h4 h5 ⊢
  show (zc y1.2).bind _=_
  cases k2:zc y1.2 with
  | none => rfl
  | some y2 =>
   rw [k2] at h2 h3 h4 h5
   obtain rfl:=h2 _ rfl
   have e2:((some y2).map (fun x:Nat × List Nat => x.2)).bind zc=zc y2.2:=rfl
   simp only [e2] at h3 h4 h5 ⊢
   show (zc y2.2).bind _=_
   cases k3:zc y2.2 with
   | none => rfl
   | some y3 =>
    rw [k3] at h3 h4 h5
    obtain rfl:=h3 _ rfl
    have e3:((some y3).map (fun x:Nat × List Nat => x.2)).bind zc=zc y3.2:=rfl
    simp only [e3] at h4 h5 ⊢
    show (zc y3.2).bind _=_
    cases k4:zc y3.2 with
    | none => rfl
    | some y4 =>
     rw [k4] at h4 h5
     obtain rfl:=h4 _ rfl
     have e4:((some y4).map (fun x:Nat × List Nat => x.2)).bind zc=zc y4.2:=rfl
     simp only [e4] at h5 ⊢
     show (zc y4.2).bind _=_
     cases k5:zc y4.2 with
     | none => rfl
     | some y5 =>
      rw [k5] at h5
      obtain rfl:=h5 _ rfl
      rfl

theorem rdI_st {t:List Nat} {op to a b:Nat} (h1:Was ((some t).bind zc) op) (h2:Was ((nx (some t)).bind zc) to) (h3:Was ((nx (nx (some t))).bind zc) a) (h4:Was ((nx (nx (nx (some t)))).bind zc) b) :
  rdI t=(nx (nx (nx (nx (some t))))).bind fun s => if op=1 then (rdQ s).map fun q => (⟨op,to,a,b,q.1⟩,q.2) else some (⟨op,to,a,if op=7 then (b:Int) - 64 else b,⟨false,[],[]⟩⟩,s):=by
 unfold rdI
 have e0:(some t).bind zc=zc t:=rfl
 rw [e0] at h1
 unfold nx at h2 h3 h4 ⊢
 rw [e0] at h2 h3 h4 ⊢
 cases k1:zc t with
 | none => rfl
 | some y1 =>
  rw [k1] at h1 h2 h3 h4
  obtain rfl:=h1 _ rfl
  have e1:((some y1).map (fun x:Nat × List Nat => x.2)).bind zc=zc y1.2:=rfl
  simp only [e1] at h2 h3 h4 ⊢
  show (zc y1.2).bind _=_
  cases k2:zc y1.2 with
  | none => rfl
  | some y2 =>
   rw [k2] at h2 h3 h4
   obtain rfl:=h2 _ rfl
   have e2:((some y2).map (fun x:Nat × List Nat => x.2)).bind zc=zc y2.2:=rfl
   simp only [e2] at h3 h4 ⊢
   show (zc y2.2).bind _=_
   cases k3:zc y2.2 with
   | none => rfl
   | some y3 =>
    rw [k3] at h3 h4
    obtain rfl:=h3 _ rfl
    have e3:((some y3).map (fun x:Nat × List Nat => x.2)).bind zc=zc y3.2:=rfl
    simp only [e3] at h4 ⊢
    show (zc y3.2).bind _=_
    cases k4:zc y3.2 with
    | none => rfl
    | some y4 =>
     rw [k4] at h4
     obtain rfl:=h4 _ rfl
     rfl

theorem zhN {t:List Nat} {op to a b:Nat} (h1:Was ((some t).bind zc) op) (h2:Was ((nx (some t)).bind zc) to) (h3:Was ((nx (nx (some t))).bind zc) a) (h4:Was ((nx (nx (nx (some t)))).bind zc) b) (hop:op≠1) :
  rdI t=(nx (nx (nx (nx (some t))))).map fun s => (⟨op,to,a,if op=7 then (b:Int) - 64 else b,⟨false,[],[]⟩⟩,s):=by
 rw [rdI_st h1 h2 h3 h4]
 simp only [if_neg hop]
 cases nx (nx (nx (nx (some t)))) <;> rfl

theorem zjN {t:List Nat} {to a b g:Nat} {n d:List Nat} {s5:Option (List Nat)} (h1:Was ((some t).bind zc) 1) (h2:Was ((nx (some t)).bind zc) to) (h3:Was ((nx (nx (some t))).bind zc) a) (h4:Was ((nx (nx (nx (some t)))).bind zc) b)
  (h5:Was ((nx (nx (nx (nx (some t))))).bind zc) g) (e5:s5=if 1<g then none else nx (nx (nx (nx (nx (some t)))))) (h6:Was (s5.bind rdN) n) (h7:Was ((nxN s5).bind rdN) d) :
  rdI t=(nxN (nxN s5)).map fun s => (⟨(1:Nat),to,a,b,⟨decide (g=1),n,d⟩⟩,s):=by
 rw [rdI_st h1 h2 h3 h4]
 generalize nx (nx (nx (nx (some t))))=s4 at h5 e5 ⊢
 simp only [if_true]
 cases s4 with
 | none =>
  have:s5=none:=by rw [e5];split <;> rfl
  rw [this];rfl
 | some s =>
  have e0:(some s).bind zc=zc s:=rfl
  show (rdQ s).map _=_
  unfold rdQ
  unfold nx at e5
  rw [e0] at h5 e5
  cases k1:zc s with
  | none =>
   rw [k1] at e5
   have:s5=none:=by rw [e5];split <;> rfl
   rw [this];rfl
  | some y1 =>
   rw [k1] at h5 e5
   obtain rfl:=h5 _ rfl
   show Option.map _ (if 1<y1.1 then none else _)=_
   by_cases k:1<y1.1
   ·rw [if_pos k] at e5 ⊢
    rw [e5];rfl
   ·rw [if_neg k] at e5 ⊢
    have e5:s5=some y1.2:=e5
    subst e5
    have e1:(some y1.2).bind rdN=rdN y1.2:=rfl
    unfold nxN at h7 ⊢
    rw [e1] at h6 h7 ⊢
    cases k2:rdN y1.2 with
    | none => rfl
    | some y2 =>
     rw [k2] at h6 h7
     obtain rfl:=h6 _ rfl
     have e2:((some y2).map (fun x:List Nat × List Nat => x.2)).bind rdN=rdN y2.2:=rfl
     simp only [e2] at h7 ⊢
     show Option.map _ (Option.map _ (rdN y2.2))=_
     cases k3:rdN y2.2 with
     | none => rfl
     | some y3 =>
      rw [k3] at h7
      obtain rfl:=h7 _ rfl
      rfl

def zfN (l:List Nat) (a b c d n k:Nat) (dn:List Ins) (st:Option (List Nat)):Prop :=
 zbF l=(st.bind fun t => (zcw (n - k) t).map fun z => (⟨a,b,c,d,dn++z.1⟩,z.2))/\dn.length=k/\∀ t,st=some t->dn.length+t.length<=4000/\∀ x ∈ dn,x.q.n.length<=1000/\x.q.d.length<=1000

theorem zgM {st:Option (List Nat)} {t s:List Nat} (h:nx st=some t) (hs:st=some s):t.length<=s.length:=by
 subst hs
 unfold nx at h
 have e0:(some s).bind zc=zc s:=rfl
 rw [e0] at h
 cases k1:zc s with
 | none => rw [k1] at h;cases h
 | some y =>
  rw [k1] at h
  have h:some y.2=some t:=h
  injection h with h
  have:=zbT _ _ _ _ k1
  rw [<- h];omega

theorem zgn {st:Option (List Nat)} {t:List Nat} (h:nx st=some t):∃ s,st=some s:=by
 cases st with
 | none => cases h
 | some s => exact ⟨s,rfl⟩

theorem zfN.start {l:List Nat} {a b c d n:Nat} (hl:l.length<=4000) (h:zbF l=(nx (nx (nx (nx (nx (some l)))))).bind fun t => (zcw n t).map fun z => (⟨a,b,c,d,z.1⟩,z.2)):zfN l a b c d n 0 [] (nx (nx (nx (nx (nx (some l)))))):=by
 refine ⟨by rw [h];rfl,rfl,fun t ht => ⟨?_,fun x hx => by cases hx⟩⟩
 obtain ⟨s4,e4⟩:=zgn ht
 obtain ⟨s3,e3⟩:=zgn e4
 obtain ⟨s2,e2⟩:=zgn e3
 obtain ⟨s1,e1⟩:=zgn e2
 have k5:=zgM ht e4
 have k4:=zgM e4 e3
 have k3:=zgM e3 e2
 have k2:=zgM e2 e1
 have k1:=zgM e1 rfl
 simp only [List.length_nil]
 omega

theorem zfN.step {l:List Nat} {a b c d n k:Nat} {dn:List Ins} {t:List Nat} {sE:Option (List Nat)} {x:Ins} (h:zfN l a b c d n k dn (some t)) (hk:k<n) (e:rdI t=sE.map fun r => (x,r)):zfN l a b c d n (k+1) (dn++[x]) sE:=by
 obtain ⟨h1,h2,h3⟩:=h
 obtain ⟨h4,h5⟩:=h3 t rfl
 refine ⟨?_,by rw [List.length_append,h2];rfl,fun s hs => ?_⟩
 ·rw [h1,show n - k=(n - (k+1))+1 by omega]
  show Option.map _ ((rdI t).bind _)=_
  rw [e]
  cases sE with
  | none => rfl
  | some s =>
   show Option.map _ (Option.map _ (zcw (n - (k+1)) s))=Option.map _ (zcw (n - (k+1)) s)
   cases zcw (n - (k+1)) s with
   | none => rfl
   | some z =>
    show some _=some _
    congr 2
    simp
 ·subst hs
  have e:rdI t=some (x,s):=e
  have k1:=ziC e
  simp only at k1
  refine ⟨by rw [List.length_append];simp only [List.length_singleton];omega,fun y hy => ?_⟩
  rcases List.mem_append.1 hy with hy|hy
  ·exact h5 y hy
  ·rw [List.mem_singleton.1 hy];omega

theorem zfN.no {l:List Nat} {a b c d n k:Nat} {dn:List Ins} (h:zfN l a b c d n k dn none):zC l=none:=zaL h.1

theorem zfN.done {l:List Nat} {a b c d n:Nat} {dn:List Ins} {t:List Nat} (h:zfN l a b c d n n dn (some t)):zC l=if t=[]/\zF ⟨a,b,c,d,dn⟩=true then some ⟨a,b,c,d,dn⟩ else none:=by
 unfold zC
 rw [h.1,Nat.sub_self]
 simp [zcw]

theorem RS.bad {w:World} {N R:Nat} {b:List Nat} {st:Option (List Nat)} (h:RS N R w b st):RS N R (w.setCell ⟨R,2,none⟩ (.bool true)) b none:=by
 obtain ⟨k,bd,h1,_⟩:=h
 exact ⟨k,true,h1.set2 true,rfl⟩

section

variable {w ww w':World} {P C R X:Nat} {l:List Nat} {st st':Option (List Nat)} {v1 v2 v3 v4 x0 x1 x2 x3 z:Int} {row vn vd:Value} {dn:List Ins} {ln ld:List Nat} {ng:Bool}

def HB (w ww:World) (P C R:Nat) (l:List Nat) (st:Option (List Nat)) (v1 v2 v3 v4:Int) (row:Value):Prop :=
 RS (P+2) R ww l st/\Below P w ww/\B5 ww P (.int .i64 0) (.int .i64 0) (.int .i64 0) (.int .i64 0) (.slice none 0 0)/\B5 ww C (.int .i64 v1) (.int .i64 v2) (.int .i64 v3) (.int .i64 v4) row/\R=P+1/\P+2<=C/\P=w.heap.size

theorem HB.ne1 (h:HB w ww P C R l st v1 v2 v3 v4 row):(some R:Option Nat)≠some P:=fun e => by
 injection e with e
 have:=h.2.2.2.2.1
 omega

theorem HB.ne2 (h:HB w ww P C R l st v1 v2 v3 v4 row):(some R:Option Nat)≠some C:=fun e => by
 injection e with e
 have:=h.2.2.2.2
 omega

theorem HB.rd (h:HB w ww P C R l st v1 v2 v3 v4 row) (hg:ww.grownBy w' (some R)) (hR:RS (P+2) R w' l st'):HB w w' P C R l st' v1 v2 v3 v4 row:=by
 have n1:=h.ne1
 have n2:=h.ne2
 obtain ⟨h1,h2,h3,h4,h5⟩:=h
 exact ⟨hR,h2.grown hg (by have:=h3.1;omega) (fun q e => by injection e with e;omega),h3.grown hg n1,h4.grown hg n2,h5⟩

theorem HB.set1 (h:HB w ww P C R l st v1 v2 v3 v4 row) (z:Int):HB w (ww.setCell ⟨C,1,none⟩ (.int .i64 z)) P C R l st v1 z v3 v4 row:=by
 obtain ⟨h1,h2,h3,h4,h5⟩:=h
 exact ⟨h1.toN ((Below.refl _ _).setCell (p:=⟨C,1,none⟩) (show P+2<=C by omega) _),h2.setCell (p:=⟨C,1,none⟩) (show P<=C by omega) _,h3.other (by omega),h4.set1' _,h5⟩

theorem HB.set2 (h:HB w ww P C R l st v1 v2 v3 v4 row) (z:Int):HB w (ww.setCell ⟨C,2,none⟩ (.int .i64 z)) P C R l st v1 v2 z v4 row:=by
 obtain ⟨h1,h2,h3,h4,h5⟩:=h
 exact ⟨h1.toN ((Below.refl _ _).setCell (p:=⟨C,2,none⟩) (show P+2<=C by omega) _),h2.setCell (p:=⟨C,2,none⟩) (show P<=C by omega) _,h3.other (by omega),h4.set2' _,h5⟩

theorem HB.set3 (h:HB w ww P C R l st v1 v2 v3 v4 row) (z:Int):HB w (ww.setCell ⟨C,3,none⟩ (.int .i64 z)) P C R l st v1 v2 v3 z row:=by
 obtain ⟨h1,h2,h3,h4,h5⟩:=h
 exact ⟨h1.toN ((Below.refl _ _).setCell (p:=⟨C,3,none⟩) (show P+2<=C by omega) _),h2.setCell (p:=⟨C,3,none⟩) (show P<=C by omega) _,h3.other (by omega),h4.set3' _,h5⟩

def WD (w:World) (X R:Nat) (row v:Value) (l:List Nat):Prop:=Rd w v l/\Far v (some R)/\Far v (some X)/\Far v row.ownBlock

theorem WD.nil (w:World) (X R:Nat) (row:Value):WD w X R row (.slice none 0 0) []:=⟨zel w,zch,zch,zch⟩

theorem WD.rd (h:WD w X R row vn ln) (hg:w.grownBy w' (some R)):WD w' X R row vn ln:=⟨h.1.grown hg h.2.1,h.2⟩

theorem WD.set (h:WD w X R row vn ln) (o:Nat) (x:Value):WD (w.setCell ⟨X,o,none⟩ x) X R row vn ln:=⟨h.1.grown (zH (World.grownBy.refl _ _)) h.2.2.1,h.2⟩

def RI (w ww:World) (P C R X:Nat) (l:List Nat) (st:Option (List Nat)) (v1 v2 v3 v4:Int) (row:Value) (dn:List Ins) (x0 x1 x2 x3:Int) (ng:Bool) (vn vd:Value) (ln ld:List Nat):Prop :=
 HB w ww P C R l st v1 v2 v3 v4 row/\zaD R (C+1) ww row dn/\B7 ww X (.int .i64 x0) (.int .i64 x1) (.int .i64 x2) (.int .i64 x3) (.bool ng) vn vd/\(C<X/\∀ g,row.ownBlock=some g->C+1<=g/\g<X)/\WD ww X R row vn ln/\WD ww X R row vd ld

theorem RI.new (h:HB w ww P C R l st v1 v2 v3 v4 row) (hO:zaD R (C+1) ww row dn) {t:TypeId}:RI w (ww.alloc (.cells #[.int .i64 x0,.int .i64 0,.int .i64 0,.int .i64 0,.bool false,.slice none 0 0,.slice none 0 0] t)) P C R ww.heap.size l st v1 v2 v3 v4 row dn x0 0 0 0 false (.slice none 0 0) (.slice none 0 0) [] []:=by
 have hb:=bN ww (.cells #[.int .i64 x0,.int .i64 0,.int .i64 0,.int .i64 0,.bool false,.slice none 0 0,.slice none 0 0] t)
 obtain ⟨h1,h2,h3,h4,h5⟩:=h
 refine ⟨⟨h1.to hb,h2.trans (hb.mono (by have:=h3.1;omega)),h3.to hb,h4.to hb,h5⟩,hO.to hb,?_,⟨h4.1,fun g hg => hO.toI.lt g hg⟩,WD.nil _ _ _ _,WD.nil _ _ _ _⟩
 unfold B7
 and_intros <;> first|(simp [go_sem];done)|(simp [go_sem];omega)

theorem RI.rd (h:RI w ww P C R X l st v1 v2 v3 v4 row dn x0 x1 x2 x3 ng vn vd ln ld) (hg:ww.grownBy w' (some R)) (hR:RS (P+2) R w' l st'):RI w w' P C R X l st' v1 v2 v3 v4 row dn x0 x1 x2 x3 ng vn vd ln ld:=by
 obtain ⟨h1,h2,h3,h4,h5,h6⟩:=h
 have k:=h1.2.2.2.2
 exact ⟨h1.rd hg hR,h2.grownR hg (by omega),h3.grown hg (fun e => by injection e with e;omega),h4,h5.rd hg,h6.rd hg⟩

theorem HB.setX (h:HB w ww P C R l st v1 v2 v3 v4 row) (hX:C<X) (o:Nat) (x:Value):HB w (ww.setCell ⟨X,o,none⟩ x) P C R l st v1 v2 v3 v4 row:=by
 obtain ⟨h1,h2,h3,h4,h5⟩:=h
 exact ⟨h1.toN ((Below.refl _ _).setCell (p:=⟨X,o,none⟩) (show P+2<=X by omega) _),h2.setCell (p:=⟨X,o,none⟩) (show P<=X by omega) _,h3.other (by omega),h4.other (by omega),h5⟩

theorem RI.set1 (h:RI w ww P C R X l st v1 v2 v3 v4 row dn x0 x1 x2 x3 ng vn vd ln ld) (z:Int):RI w (ww.setCell ⟨X,1,none⟩ (.int .i64 z)) P C R X l st v1 v2 v3 v4 row dn x0 z x2 x3 ng vn vd ln ld:=by
 obtain ⟨h1,h2,h3,h4,h5,h6⟩:=h
 exact ⟨h1.setX h4.1 _ _,h2.setP (B:=X) (o:=1) (fun e => by have:=h4.2 X e;omega) h3.2.2.1 (fun z e => by cases e) _,h3.set1 _,h4,h5.set _ _,h6.set _ _⟩

theorem RI.set2 (h:RI w ww P C R X l st v1 v2 v3 v4 row dn x0 x1 x2 x3 ng vn vd ln ld) (z:Int):RI w (ww.setCell ⟨X,2,none⟩ (.int .i64 z)) P C R X l st v1 v2 v3 v4 row dn x0 x1 z x3 ng vn vd ln ld:=by
 obtain ⟨h1,h2,h3,h4,h5,h6⟩:=h
 exact ⟨h1.setX h4.1 _ _,h2.setP (B:=X) (o:=2) (fun e => by have:=h4.2 X e;omega) h3.2.2.2.1 (fun z e => by cases e) _,h3.set2 _,h4,h5.set _ _,h6.set _ _⟩

theorem RI.set3 (h:RI w ww P C R X l st v1 v2 v3 v4 row dn x0 x1 x2 x3 ng vn vd ln ld) (z:Int):RI w (ww.setCell ⟨X,3,none⟩ (.int .i64 z)) P C R X l st v1 v2 v3 v4 row dn x0 x1 x2 z ng vn vd ln ld:=by
 obtain ⟨h1,h2,h3,h4,h5,h6⟩:=h
 exact ⟨h1.setX h4.1 _ _,h2.setP (B:=X) (o:=3) (fun e => by have:=h4.2 X e;omega) h3.2.2.2.2.1 (fun z e => by cases e) _,h3.set3 _,h4,h5.set _ _,h6.set _ _⟩

theorem RI.set4 (h:RI w ww P C R X l st v1 v2 v3 v4 row dn x0 x1 x2 x3 ng vn vd ln ld) (b:Bool):RI w (ww.setCell ⟨X,4,none⟩ (.bool b)) P C R X l st v1 v2 v3 v4 row dn x0 x1 x2 x3 b vn vd ln ld:=by
 obtain ⟨h1,h2,h3,h4,h5,h6⟩:=h
 exact ⟨h1.setX h4.1 _ _,h2.setP (B:=X) (o:=4) (fun e => by have:=h4.2 X e;omega) h3.2.2.2.2.2.1 (fun z e => by cases e) _,h3.set4 _,h4,h5.set _ _,h6.set _ _⟩

theorem RI.set5 (h:RI w ww P C R X l st v1 v2 v3 v4 row dn x0 x1 x2 x3 ng (.slice none 0 0) vd ln ld) {v:Value} {lw:List Nat} (hw:WD ww X R row v lw):RI w (ww.setCell ⟨X,5,none⟩ v) P C R X l st v1 v2 v3 v4 row dn x0 x1 x2 x3 ng v vd lw ld:=by
 obtain ⟨h1,h2,h3,h4,h5,h6⟩:=h
 exact ⟨h1.setX h4.1 _ _,h2.setP (B:=X) (o:=5) (fun e => by have:=h4.2 X e;omega) h3.2.2.2.2.2.2.1 (fun z e => by cases e) _,h3.set5 _,h4,hw.set _ _,h6.set _ _⟩

theorem RI.set6 (h:RI w ww P C R X l st v1 v2 v3 v4 row dn x0 x1 x2 x3 ng vn (.slice none 0 0) ln ld) {v:Value} {lw:List Nat} (hw:WD ww X R row v lw):RI w (ww.setCell ⟨X,6,none⟩ v) P C R X l st v1 v2 v3 v4 row dn x0 x1 x2 x3 ng vn v ln lw:=by
 obtain ⟨h1,h2,h3,h4,h5,h6⟩:=h
 exact ⟨h1.setX h4.1 _ _,h2.setP (B:=X) (o:=6) (fun e => by have:=h4.2 X e;omega) h3.2.2.2.2.2.2.2.1 (fun z e => by cases e) _,h3.set6 _,h4,h5.set _ _,hw.set _ _⟩

theorem WD.of (h:RI w ww P C R X l st v1 v2 v3 v4 row dn x0 x1 x2 x3 ng vn vd ln ld) {v:Value} {lw:List Nat} {lo:Nat} (hO:Own lo w' v lw) (hlo:X<lo):WD w' X R row v lw:=by
 obtain ⟨h1,h2,h3,h4,_⟩:=h
 have k:=h1.2.2.2.2
 refine ⟨hO.rd,hO.far (by omega),hO.far hlo,?_⟩
 intro b o n c e hn e2
 have:=h4.2 b e2
 exact hO.far (g:=b) (by omega) b o n c e hn rfl

theorem zdU (w:World) {ops:Array Oper} {rest:List Oper} {o:Oper} {a:Act} {Q:Exit->Act->World->Prop} (hg:o.guard=none)
  (s x:Operand) (ho:o.op=Op.call { callee:=Callee.builtin Builtin.append,args:=#[s,x],argTypes:=#[22,22] })
  (R base:Nat) (v:Value) (l:List Ins) (B:Nat) (y:Ins) (a1:Option Addr) (n1 c1:Nat) (a2:Option Addr) (n2 c2:Nat) (hs:a.eval s=v) (hx:a.eval x=.slice (some ⟨B,0,none⟩) 1 1) (hown:zaD R base w v l)
  (hcell:∀ j u,(zal y (.slice a1 n1 c1) (.slice a2 n2 c2))[j]?=some u->w.cell? ((⟨B,0,none⟩:Addr).add j)=some u)
  (hn:Rd w (.slice a1 n1 c1) y.q.n) (hd:Rd w (.slice a2 n2 c2) y.q.d) (f1:Far (.slice a1 n1 c1) v.ownBlock) (f2:Far (.slice a2 n2 c2) v.ownBlock) (hi:zbV y) (f3:Far (.slice a1 n1 c1) (some R)) (f4:Far (.slice a2 n2 c2) (some R)) (hl:l.length<=100000) (hb:base<=w.heap.size) (H:Nat) (hH:w.heap.size=H)
  (hK:∀ g c w',zaD R base w' (.slice (some ⟨g,0,none⟩) (l.length+1) c) (l++[y])->w.grownBy w' v.ownBlock->(v.ownBlock=some g\/g=H)->g<w'.heap.size->wpList Tryz.prog ops Q rest (a.put o.dst (.slice (some ⟨g,0,none⟩) (l.length+1) c)) w') :
  wpList Tryz.prog ops Q (o :: rest) a w:=by
 obtain ⟨i0,hi0,hz0,hz1,hz2⟩:=info_parts zeh
 obtain ⟨xs,hxs⟩:=hown.toI.len
 refine wpList_append_lies w hg s x 22 ho base 49 i0 _ 7 88 Tryz.underlying22 hi0 hz0 hz1 hz2 rfl (by decide) v l.length xs hs hxs ⟨B,0,none⟩ 1 1 (zal y (.slice a1 n1 c1) (.slice a2 n2 c2))
  hx rfl hcell zfk (by decide) (by simp [maxLen];omega) (by omega) hb H hH ?_
 intro g c w' hown' hgrow hat hlt
 exact hK g c w' (hown.push hxs hown' hgrow (by rw [hH];exact hat) hn hd f1 f2 hi f3 f4) hgrow hat hlt

theorem RI.push (h:RI w ww P C R X l st v1 v2 v3 v4 row dn x0 x1 x2 x3 ng vn vd ln ld) {g n cp:Nat} {w3 w4:World} {dn':List Ins} (hb:Below ww.heap.size ww w3) (hO:zaD R (C+1) w4 (.slice (some ⟨g,0,none⟩) n cp) dn') (hg:w3.grownBy w4 row.ownBlock) (hat:row.ownBlock=some g\/g=w3.heap.size) :
  HB w (w4.setCell ⟨C,4,none⟩ (.slice (some ⟨g,0,none⟩) n cp)) P C R l st v1 v2 v3 v4 (.slice (some ⟨g,0,none⟩) n cp)/\zaD R (C+1) (w4.setCell ⟨C,4,none⟩ (.slice (some ⟨g,0,none⟩) n cp)) (.slice (some ⟨g,0,none⟩) n cp) dn':=by
 obtain ⟨⟨h1,h2,h3,h4,h5⟩,hO0,hX,hr,_⟩:=h
 have hs:=hb.size
 have hz:=h4.1
 have hgC:∀ q,row.ownBlock=some q->C+1<=q:=fun q e => (hr.2 q e).1
 have nC:row.ownBlock≠some C:=fun e => by have:=hgC C e;omega
 have nP:row.ownBlock≠some P:=fun e => by have:=hgC P e;omega
 have b1:Below (P+2) ww w4:=(hb.mono (by omega)).grown hg (by omega) (fun q e => by have:=hgC q e;omega)
 have b2:Below (P+2) ww (w4.setCell ⟨C,4,none⟩ (.slice (some ⟨g,0,none⟩) n cp)):=b1.setCell (p:=⟨C,4,none⟩) (show P+2<=C by omega) _
 have h4':=(h4.to hb).grown hg nC
 refine ⟨⟨h1.toN b2,h2.trans (b2.mono (by omega)),((h3.to hb).grown hg nP).other (by omega),h4'.set4 _,h5⟩,hO.setP (B:=C) (o:=4) (fun e => ?_) h4'.2.2.2.2.2.1 (fun z e => ?_) _⟩
 ·have e:g=C:=Option.some.inj e
  rcases hat with e2|e2
  ·have:=hgC g e2;omega
  ·omega
 ·have hf:=hO0.toI.form
  obtain ⟨a,cap,hv,_⟩:=hf
  rw [hv] at e;cases e

end

end Go.Proofs.YtkjcdnlpjldhaaaGreat

