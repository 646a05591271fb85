/-
  The texts Gcd, Common, merged.
-/
import Derived.Test.YtkjcdnlpjldhaaaG06
import Derived.Test.YtkjcdnlpjldhaaaG01
import Derived.RangeFuncNested
import Derived.RangeFuncBound
import Derived.RangeFuncCalls
import Derived.RangeFuncLeaves
import Derived.RangeFuncFrom
import Derived.Shelf.Abstract
import Derived.Shelf.RegionOpen
import Derived.OwnWalkIn
import Derived.TacticsInMore
import Derived.LoopNIn
import Derived.LoopIn
import Derived.Test.YtkjcdnlpjldhaaaG05
set_option linter.unusedVariables false
set_option linter.unusedSimpArgs false
set_option maxRecDepth 100000
set_option maxHeartbeats 400000000
namespace Go.Proofs.Ytkjcdnlpjldhaaa
open Go.RowKit Go.Shelf Tw

theorem zjy {P:Program} {g:Operand} {ps:Array Tmp} {assign body:Code} {Q:Exit->Act->World->Prop} {a:Act} {w:World} {n:Nat}
  {gf:Nat} {lb:Array Value} (hg:a.eval g=.func (.func gf) #[] lb) (eg:∀ args w,(callFunc gf args).run P w=.ok (.enter gf args) w)
  {σ:Type} (J:σ->World->Prop) (Mid:σ->Value->σ->World->Prop) (s0:σ) (End:σ->Prop) (hps:ps.size=1)
  (hJp:∀ s W k o o',J s W->w.heap.size<=k->k<=w.heap.size+1->W.heap[k]?=some o->o.isCells=false->J s (W.putObj k o'))
  (hMp:∀ s v s' W k o o',Mid s v s' W->w.heap.size<=k->k<=w.heap.size+1->W.heap[k]?=some o->o.isCells=false->Mid s v s' (W.putObj k o'))
  (h0:∀ r,J s0 ((w.alloc (.deferred (some []))).alloc (.loop r)))
  (a₁:Value->Act)
  (hassign:∀ v W (K:Act->World->Prop),K (a₁ v) W->assign.wpIn (Fence.wide.inRound (w.heap.size+1)) (n - 1 - 1) P (Exit.then K (fun _ _ _ => False)) { tmps:=(ps.zip #[v]).foldl (fun t (p,v) => t.setIfInBounds p v) a.tmps,defers:=[] } W)
  (hbody:∀ s v s' W o,Mid s v s' W->W.heap[w.heap.size+1]?=some o->o.isCells=false->W.heap[w.heap.size]?=some (.deferred (some [])) ->
   body.wpIn (Fence.wide.inRound (w.heap.size+1)) (n - 1 - 1) P (fun x _ W' => x=.normal/\J s' W'/\W'.heap[w.heap.size+1]?=some o/\W'.heap[w.heap.size]?=some (.deferred (some []))) (a₁ v) W)
  (hseq:∀ (o:Obj) (W:World),o.isCells=false->J s0 W->W.heap[w.heap.size+1]?=some o->W.heap[w.heap.size]?=some (.deferred (some [])) ->
   (∀ s v s' W1,Mid s v s' W1->W1.heap[w.heap.size+1]?=some o->W1.heap[w.heap.size]?=some (.deferred (some [])) ->
    YieldAt Fence.wide (n - 1 - 1) P (w.heap.size+1) #[v] W1 fun e W' => e=.returned (.bool true)/\J s' W'/\W'.heap[w.heap.size+1]?=some o/\W'.heap[w.heap.size]?=some (.deferred (some []))) ->
   CallsIn Fence.wide (n - 1) P gf (#[.func (.yield (w.heap.size+1)) #[] #[]]++lb) W fun e W' => (∃ v,e=.returned v)/\∃ s,End s/\J s W'/\W'.heap[w.heap.size+1]?=some o/\W'.heap[w.heap.size]?=some (.deferred (some [])))
  (hdone:∀ s W,End s->J s W->W.heap[w.heap.size]?=some (.deferred (some []))->Q .normal { a with defers:={ target:=.collected w.heap.size,args:=#[] } :: a.defers } W) :
  (Code.rangeFunc g ps assign body).wpIn Fence.wide n P Q a w:=by
 refine wpIn_rangeFunc ?_
 intro fn hfn
 obtain ⟨rec,hrec⟩:∃ rec:LoopState->Loop,rec=fun st => { state:=st,pending:=none,fn,tmps:=a.tmps,params:=ps,assign,body,defers:=w.heap.size }:=⟨_,rfl⟩
 have hL1:((w.alloc (.deferred (some []))).alloc (.loop (rec .ready))).heap[w.heap.size+1]?=some (.loop (rec .ready)):=by
  have:=World.alloc_heap_new (w.alloc (.deferred (some []))) (.loop (rec .ready));rwa [World.size_alloc] at this
 have hK1:((w.alloc (.deferred (some []))).alloc (.loop (rec .ready))).heap[w.heap.size]?=some (.deferred (some [])) :=
  (Below.heap_alloc _ _ _ (by simp)).trans (World.alloc_heap_new w _)
 refine ⟨w.heap.size+1,[{ target:=.collected w.heap.size,args:=#[] }],(w.alloc (.deferred (some []))).alloc (.loop (rec .ready)),{ target:=.fn (.func gf) lb,args:=#[.func (.yield (w.heap.size+1)) #[] #[]] },
  (w.alloc (.deferred (some []))).alloc (.loop (rec .ready)),gf,#[.func (.yield (w.heap.size+1)) #[] #[]]++lb,(w.alloc (.deferred (some []))).alloc (.loop (rec .ready)),?_,?_,fun _ _ => trivial,?_,(fun h => by simp [Fence.wide] at h),?_⟩
 ·rw [hrec];exact run_enterLoop_outer _ _ _ _ _
 ·simp only [resolve,hg];simp [go_sem]
 ·simp [invoke,go_sem,eg]
 ·refine (hseq (.loop (rec .ready)) _ rfl (h0 _) hL1 hK1 ?_).mono ?_
  ·rintro s v s' W hM hl hk
   have hlt:=(Array.getElem?_eq_some_iff.1 hl).1
   have hy:=run_yield (P:=P) (args:=#[v]) hl (by rw [hrec];exact hps.symm)
   rw [hrec] at hy
   refine ⟨fn,_,assign,body,hy,roundIn_of_wpIn hfn (hassign v W _ ⟨_,run_beginRound hl (by rw [hrec]),?_⟩)⟩
   have hl2:(W.putObj (w.heap.size+1) (.loop { rec .ready with state:=.busy })).heap[w.heap.size+1]?=some (.loop { rec .ready with state:=.busy }):=World.putObj_heap_same hlt
   have hk2:(W.putObj (w.heap.size+1) (.loop { rec .ready with state:=.busy })).heap[w.heap.size]?=some (.deferred (some [])):=(World.putObj_heap_other (by omega)).trans hk
   refine wpIn_mono (hbody s v s' _ _ (hMp _ _ _ _ _ _ _ hM (by omega) (by omega) hl rfl) hl2 rfl hk2) ?_
   rintro e a3 W3 ⟨rfl,hJ3,hl3,hk3⟩
   have hlt3:=(Array.getElem?_eq_some_iff.1 hl3).1
   refine ⟨_,_,run_endRound none hl3,rfl,hJp _ _ _ _ _ hJ3 (by omega) (by omega) hl3 rfl,?_,(World.putObj_heap_other (by omega)).trans hk3⟩
   rw [World.putObj_heap_same hlt3,hrec]
   rfl
  ·rintro e W2 ⟨⟨v,rfl⟩,s,hE,hJ2,hl2,hk2⟩
   have hr:=run_endLoop (P:=P) hl2 (by rw [hrec];simp)
   rw [hrec] at hr
   exact ⟨none,_,hr,hdone s _ hE (hJp _ _ _ _ _ hJ2 (by omega) (by omega) hl2 rfl) ((World.putObj_heap_other (by omega)).trans hk2)⟩

theorem Own.putOther {base:Nat} {w:World} {v:Value} {l:List Nat} (h:Own base w v l) {k:Nat} (hk:k<base) (o:Obj):Own base (w.putObj k o) v l:=by
 refine ⟨h.1,h.2.1,?_⟩
 rcases h.2.2 with h2|⟨g,cap,cur,hv,hg,hh,r⟩
 ·exact .inl h2
 ·exact .inr ⟨g,cap,cur,hv,hg,by rw [World.putObj_heap_other (by omega)];exact hh,r⟩

def RdG (w W:World) (v:Value) (l:List Nat):Prop:=Rd w v l\/Own (w.heap.size+5) W v l

theorem RdG.rd {w W:World} {v:Value} {l:List Nat} (h:RdG w W v l) (hb:Below w.heap.size w W):Rd W v l:=by
 rcases h with h|h
 ·exact h.to hb
 ·exact h.rd

theorem RdG.keep {w W W':World} {v:Value} {l:List Nat} (h:RdG w W v l) (hk:∀ k,k<W.heap.size->w.heap.size+5<=k->W'.heap[k]?=W.heap[k]?):RdG w W' v l:=by
 rcases h with h|h
 ·exact .inl h
 ·refine .inr ⟨h.1,h.2.1,?_⟩
  rcases h.2.2 with h2|⟨g,cap,cur,hv,hg,hh,r⟩
  ·exact .inl h2
  ·refine .inr ⟨g,cap,cur,hv,hg,?_,r⟩
   rw [hk g (Array.getElem?_eq_some_iff.1 hh).1 hg];exact hh

def zF (w W:World) (b N:Nat):Prop :=
 ∃ v l,W.cell? ⟨b,0,none⟩=some v/\W.frozen? ⟨b,0,none⟩=false/\RdG w W v l/\val l=N/\l.length<=90000

theorem zF.keep {w W W':World} {b N:Nat} (h:zF w W b N) (hb:W'.heap[b]?=W.heap[b]?) (hk:∀ k,k<W.heap.size->w.heap.size+5<=k->W'.heap[k]?=W.heap[k]?):zF w W' b N:=by
 obtain ⟨v,l,h1,h2,h3,h4,h5⟩:=h
 exact ⟨v,l,(World.cell?_of_block (a:=⟨b,0,none⟩) hb).trans h1,(World.frozen?_of_block (a:=⟨b,0,none⟩) hb).trans h2,h3.keep hk,h4,h5⟩

theorem zF.lt {w W:World} {b N:Nat} (h:zF w W b N):b<W.heap.size:=by
 obtain ⟨v,l,h1,_⟩:=h
 exact zj h1

theorem zF.below {w W W':World} {b N:Nat} (h:zF w W b N) (hb:Below W.heap.size W W'):zF w W' b N :=
 h.keep (hb.block _ h.lt) (fun k hk _ => hb.block k hk)

theorem zF.other {w W:World} {b c N:Nat} (h:zF w W b N) (hc:b≠c) (hc5:c<w.heap.size+5) (x:Value):zF w (W.setCell ⟨c,0,none⟩ x) b N :=
 h.keep (Below.heap_setCell _ _ _ _ hc) (fun k _ hk => Below.heap_setCell _ _ _ _ (by show k≠c;omega))

theorem zF.put {w W:World} {b k N:Nat} {o:Obj} (h:zF w W b N) (hc:b≠k) (hk5:k<w.heap.size+5):zF w (W.putObj k o) b N :=
 h.keep (World.putObj_heap_other hc) (fun j _ hj => World.putObj_heap_other (by omega))

theorem RdG.below {w W W':World} {v:Value} {l:List Nat} (h:RdG w W v l) (hb:Below W.heap.size W W'):RdG w W' v l:=h.keep (fun k hk _ => hb.block k hk)

theorem RdG.other {w W:World} {v:Value} {l:List Nat} {c:Nat} (h:RdG w W v l) (hc5:c<w.heap.size+5) (x:Value):RdG w (W.setCell ⟨c,0,none⟩ x) v l :=
 h.keep (fun k _ hk => Below.heap_setCell _ _ _ _ (by show k≠c;omega))

theorem RdG.put {w W:World} {v:Value} {l:List Nat} {k:Nat} {o:Obj} (h:RdG w W v l) (hk5:k<w.heap.size+5):RdG w (W.putObj k o) v l :=
 h.keep (fun j _ hj => World.putObj_heap_other (by omega))

theorem zF.set {w W:World} {b N:Nat} {v:Value} {l:List Nat} (h:W.cell? ⟨b,0,none⟩≠none) (hf:W.frozen? ⟨b,0,none⟩=false) (hb:b<w.heap.size+5) (hv:RdG w W v l) (hl:l.length<=90000) (hN:val l=N) :
  zF w (W.setCell ⟨b,0,none⟩ v) b N :=
 ⟨v,l,World.cell?_setCell_same' _ _ _ (by cases e:W.cell? ⟨b,0,none⟩ <;> simp_all),by rw [World.frozen?_setCell];exact hf,hv.other hb _,hN,hl⟩

def GcdJ (w:World) (G:Nat) (s:Nat × Nat) (W:World):Prop :=
 zF w W w.heap.size s.1/\zF w W (w.heap.size+1) s.1/\zF w W (w.heap.size+2) s.2/\Below w.heap.size w W/\Nat.gcd s.1 s.2=G/\w.heap.size+5<=W.heap.size

def GcdM (w:World) (G:Nat) (s:Nat × Nat) (v:Value) (s':Nat × Nat) (W:World):Prop :=
 zF w W w.heap.size s.1/\(∃ l,W.cell? ⟨w.heap.size+1,0,none⟩=some v/\RdG w W v l/\val l=s'.1/\l.length<=90000)/\zF w W (w.heap.size+1) s'.1/\zF w W (w.heap.size+2) s'.2 /\
  Below w.heap.size w W/\Nat.gcd s'.1 s'.2=G/\w.heap.size+5<=W.heap.size

theorem zdn {w W:World} {k:Nat} {o:Obj} (h:Below w.heap.size w W) (hk:w.heap.size<=k) (hW:w.heap.size<=W.heap.size):Below w.heap.size w (W.putObj k o) :=
 h.grown (grownBy_putObj' W k o) hW (fun j e => by cases e;exact hk)

theorem GcdJ.put {w W:World} {G k:Nat} {s:Nat × Nat} {o:Obj} (h:GcdJ w G s W) (h3:w.heap.size+3<=k) (h4:k<=w.heap.size+4):GcdJ w G s (W.putObj k o):=by
 obtain ⟨a,b,c,d,e,f⟩:=h
 exact ⟨a.put (by omega) (by omega),b.put (by omega) (by omega),c.put (by omega) (by omega),zdn d (by omega) (by omega),e,by simpa using f⟩

theorem GcdM.put {w W:World} {G k:Nat} {s s':Nat × Nat} {v:Value} {o:Obj} (h:GcdM w G s v s' W) (h3:w.heap.size+3<=k) (h4:k<=w.heap.size+4):GcdM w G s v s' (W.putObj k o):=by
 obtain ⟨a,⟨l,b1,b2,b3,b4⟩,b,c,d,e,f⟩:=h
 exact ⟨a.put (by omega) (by omega),⟨l,(World.cell?_of_block (a:=⟨w.heap.size+1,0,none⟩) (World.putObj_heap_other (by show w.heap.size+1≠k;omega))).trans b1,b2.put (by omega),b3,b4⟩,b.put (by omega) (by omega),c.put (by omega) (by omega),zdn d (by omega) (by omega),e,by simpa using f⟩

theorem zjC (aa ab:Option Addr) (na nb ca cb:Nat) (w:World) :
  Calls Try.prog 71 #[.slice aa na ca,.slice ab nb cb] w fun e w' => e=.returned (.func (.func 88) #[] #[.pointer (some ⟨w.heap.size+1,0,none⟩),.pointer (some ⟨w.heap.size,0,none⟩)]) /\
   w'=(w.alloc (.cells #[.slice aa na ca] 23)).alloc (.cells #[.slice ab nb cb] 23):=by
 go_enter Try.func71,Try.ntmps71
 go_wp2_with fail
 go_ret
 exact ⟨rfl,rfl⟩

def cellv (W:World) (b:Nat):Value:=(W.cell? ⟨b,0,none⟩).getD undef

attribute [local go_sem] Oper.semAt_some

theorem zdN {P:Program} {n:Nat} {f:FuncId} {args:Array Value} {w:World} {R R':Ending->World->Prop} (h:Calls P f args w R') (hm:∀ e w',R' e w'->R e w') :
  Fence.wide.fn f/\(Fence.wide.depth.isSome=true->1<=n)/\CallsIn Fence.wide (n - 1) P f args w R :=
 ⟨trivial,(fun h => by simp [Fence.wide] at h),(callsIn_wide.2 h).mono hm⟩

theorem zF.read {w W:World} {b N:Nat} (h:zF w W b N) (hb:Below w.heap.size w W):zeL W (cellv W b)=N:=by
 obtain ⟨v,l,h1,_,h3,h4,_⟩:=h
 unfold cellv
 rw [h1]
 exact (zao (h3.rd hb)).trans h4

theorem zhZ (w:World) (G:Nat) (s0:Nat × Nat) (o:Obj) (W:World) (n:Nat) (ho:o.isCells=false) (hJ:GcdJ w G s0 W) (hl:W.heap[w.heap.size+3+1]?=some o) (hk:W.heap[w.heap.size+3]?=some (.deferred (some [])))
  (hY:∀ s v s' W1,GcdM w G s v s' W1->W1.heap[w.heap.size+3+1]?=some o->W1.heap[w.heap.size+3]?=some (.deferred (some [])) ->
   YieldAt Fence.wide (n - 1) Try.prog (w.heap.size+3+1) #[v] W1 fun e W' => e=.returned (.bool true)/\GcdJ w G s' W'/\W'.heap[w.heap.size+3+1]?=some o/\W'.heap[w.heap.size+3]?=some (.deferred (some []))) :
  CallsIn Fence.wide n Try.prog 88 #[.func (.yield (w.heap.size+3+1)) #[] #[],.pointer (some ⟨w.heap.size+2,0,none⟩),.pointer (some ⟨w.heap.size+1,0,none⟩)] W
   fun e W' => (∃ v,e=.returned v)/\∃ s:Nat × Nat,s.2=0/\GcdJ w G s W'/\W'.heap[w.heap.size+3+1]?=some o/\W'.heap[w.heap.size+3]?=some (.deferred (some [])):=by
 refine callsIn_of_wp Try.func88 rfl trivial ?_
 simp only [Try.ntmps88,List.size_toArray,List.length_cons,List.length_nil,Nat.reduceAdd,Nat.reduceSub,Array.replicate_succ,Array.replicate_zero,List.push_toArray,List.append_toArray,List.nil_append,List.cons_append]
 gi_wp2
 gi_loopw [] (fun wr => ∃ s:Nat × Nat,GcdJ w G s wr/\wr.heap[w.heap.size+3+1]?=some o/\wr.heap[w.heap.size+3]?=some (.deferred (some []))) (fun wr => zeL wr (cellv wr (w.heap.size+2)))
 case atStart => exact ⟨s0,hJ,hl,hk⟩
 case round =>
  obtain ⟨⟨X,Y⟩,hJ2,hl2,hk2⟩:=hrel
  have hJ3:=hJ2
  obtain ⟨hB0,⟨va,la,ca,fa,ra,na,lena⟩,⟨vb,lb,cb,fb,rb,nb,lenb⟩,hbw,hg,hsz⟩:=hJ3
  have hva:=ra.rd hbw
  have hvb:=rb.rd hbw
  by_cases hY0:Y=0
  ·have Hn:=Lib.hid (show zD (val lb)=0 by rw [nb,hY0];rfl)
   gi_wp2
   refine zdN (zat _ lb _ hvb (by omega)) ?_
   rintro e w' ⟨rfl,rfl⟩
   rw [Hn.out]
   gi_wp2
   go_end0
   exact ⟨⟨_,rfl⟩,(X,Y),hY0,hJ2,hl2,hk2⟩
  ·have hnb:0<zD (val lb):=Nat.pos_of_ne_zero (fun e => hY0 (nb.symm.trans (zaC.1 e)))
   have hD:0<val lb:=by rw [nb];omega
   have hlr:(zc (val la % val lb)).length<=90000:=by
    have h1:=sz_mod (val la) (val lb)
    have h2:=zu hva.1
    rw [ze];omega
   obtain ⟨ab,nbl,capb,rfl,Hbl,_⟩:=hvb.open
   have Hna:=Lib.hid na
   have Hnb:=Lib.hid nb
   have Hg:=Lib.hid hg
   clear na nb hg
   gi_wp2
   refine zdN (zat _ lb _ hvb (by omega)) ?_
   rintro e w' ⟨rfl,rfl⟩
   gi_wp2
   refine zdN (zdH _ _ la lb _ hva hvb lena lenb hD) ?_
   rintro e w2 ⟨vq,vr,rfl,hq,hr,aL⟩
   obtain ⟨ar,nr,capr,rfl,Hrl,_⟩:=hr.rd.open
   have i1:w.heap.size+1<wr.heap.size:=by omega
   have i2:w.heap.size+2<wr.heap.size:=by omega
   have c1:=(aL.cell (p:=⟨w.heap.size+1,0,none⟩) i1).trans ca
   have f1:=(aL.frozen (p:=⟨w.heap.size+1,0,none⟩) i1).trans fa
   have c2:=(aL.cell (p:=⟨w.heap.size+2,0,none⟩) i2).trans cb
   have f2:=(aL.frozen (p:=⟨w.heap.size+2,0,none⟩) i2).trans fb
   have cT:=bS hbw aL
   have hsz2:=aL.size
   have hM:GcdM w G (X,Y) (.slice ab nbl capb) (Y,X % Y) ((w2.setCell ⟨w.heap.size+1,0,none⟩ (.slice ab nbl capb)).setCell ⟨w.heap.size+2,0,none⟩ (.slice ar nr capr)):=by
    refine ⟨((hB0.below aL).other (by omega) (by omega) _).other (by omega) (by omega) _,⟨lb,?_,((rb.below aL).other (by omega) _).other (by omega) _,Hnb.out,lenb⟩,
     (zF.set (by rw [c1];simp) f1 (by omega) (rb.below aL) lenb Hnb.out).other (by omega) (by omega) _,?_,(cT.setCell (by show w.heap.size<=w.heap.size+1;omega) _).setCell (by show w.heap.size<=w.heap.size+2;omega) _,
     (by rw [<- Hg.out];exact gcd_step X Y),by simp;omega⟩
    ·exact (World.cell?_of_block (a:=⟨w.heap.size+1,0,none⟩) (Below.heap_setCell _ _ _ _ (by show w.heap.size+1≠w.heap.size+2;omega))).trans (World.cell?_setCell_same' _ _ _ (by rw [c1];rfl))
    ·refine zF.set ?_ ?_ (by omega) (RdG.other (.inr (hr.mono (by omega))) (by omega) _) hlr (by rw [vL,Hna.out,Hnb.out])
     ·rw [World.cell?_of_block (a:=⟨w.heap.size+2,0,none⟩) (Below.heap_setCell _ _ _ _ (by show w.heap.size+2≠w.heap.size+1;omega)),c2];simp
     ·rw [World.frozen?_setCell];exact f2
   have hk3:((w2.setCell ⟨w.heap.size+1,0,none⟩ (.slice ab nbl capb)).setCell ⟨w.heap.size+2,0,none⟩ (.slice ar nr capr)).heap[w.heap.size+3]?=some (.deferred (some [])) :=
    (((Below.heap_setCell _ _ _ _ (by show w.heap.size+3≠w.heap.size+2;omega)).trans (Below.heap_setCell _ _ _ _ (by show w.heap.size+3≠w.heap.size+1;omega))).trans (aL.block _ (by omega))).trans hk2
   have hl3:((w2.setCell ⟨w.heap.size+1,0,none⟩ (.slice ab nbl capb)).setCell ⟨w.heap.size+2,0,none⟩ (.slice ar nr capr)).heap[w.heap.size+3+1]?=some o :=
    (((Below.heap_setCell _ _ _ _ (by show w.heap.size+3+1≠w.heap.size+2;omega)).trans (Below.heap_setCell _ _ _ _ (by show w.heap.size+3+1≠w.heap.size+1;omega))).trans (aL.block _ (by omega))).trans hl2
   obtain ⟨fn,tmps,assign,body,hy,hR⟩:=hY _ _ _ _ hM hl3 hk3
   have Hread:=Lib.hid ((show zF w wr (w.heap.size+2) Y from ⟨_,lb,cb,fb,rb,Hnb.out,lenb⟩).read hbw)
   have Hlt:=Lib.hid (show X % Y<Y from Nat.mod_lt _ (by omega))
   clear hM hk3 hl3
   gi_wp2
   refine ⟨(fun h => by simp [Fence.wide] at h),hR.mono ?_⟩
   rintro e W3 ⟨rfl,hJ3,hl4,hk4⟩
   gi_wp2
   go_roundw
   case rel => exact ⟨(Y,X % Y),hJ3,hl4,hk4⟩
   case measure =>
    rw [Hread.out,hJ3.2.2.1.read hJ3.2.2.2.1]
    exact Hlt.out

theorem zex (va vb:Value) (la lb:List Nat) (w:World) (ha:Rd w va la) (hb:Rd w vb lb) (hla:la.length<=90000) (hlb:lb.length<=90000) :
  Calls Try.prog 49 #[va,vb] w (zcg w (zc (Nat.gcd (val la) (val lb)))):=by
 obtain ⟨aa,na,ca,rfl,Hna,_⟩:=ha.open
 obtain ⟨ab,nb,cb,rfl,Hnb,_⟩:=hb.open
 refine (callsIn_wide (n:=3)).1 ?_
 refine callsIn_of_wp_marks Try.func49 rfl trivial ?_ rfl
 simp only [Try.ntmps49,List.size_toArray,List.length_cons,List.length_nil,Nat.reduceAdd,Nat.reduceSub,Array.replicate_succ,Array.replicate_zero,List.push_toArray,List.append_toArray,List.nil_append,List.cons_append]
 gi_wp2
 refine ⟨trivial,(callsIn_wide.2 (zjC aa ab na nb ca cb _)).mono ?_⟩
 rintro e w' ⟨rfl,rfl⟩
 have b0:zF w (((w.alloc (.cells #[.slice aa na ca] 23)).alloc (.cells #[.slice aa na ca] 23)).alloc (.cells #[.slice ab nb cb] 23)) w.heap.size (val la) :=
  ⟨.slice aa na ca,la,by simp [go_sem],by simp [go_sem],.inl ha,rfl,hla⟩
 have b1:zF w (((w.alloc (.cells #[.slice aa na ca] 23)).alloc (.cells #[.slice aa na ca] 23)).alloc (.cells #[.slice ab nb cb] 23)) (w.heap.size+1) (val la) :=
  ⟨.slice aa na ca,la,by simp [go_sem],by simp [go_sem],.inl ha,rfl,hla⟩
 have b2:zF w (((w.alloc (.cells #[.slice aa na ca] 23)).alloc (.cells #[.slice aa na ca] 23)).alloc (.cells #[.slice ab nb cb] 23)) (w.heap.size+2) (val lb) :=
  ⟨.slice ab nb cb,lb,by simp [go_sem],by simp [go_sem],.inl hb,rfl,hlb⟩
 have hbW:Below w.heap.size w (((w.alloc (.cells #[.slice aa na ca] 23)).alloc (.cells #[.slice aa na ca] 23)).alloc (.cells #[.slice ab nb cb] 23)) :=
  bS (bS (bN _ _) (bN _ _)) (bN _ _)
 have hsz:(((w.alloc (.cells #[.slice aa na ca] 23)).alloc (.cells #[.slice aa na ca] 23)).alloc (.cells #[.slice ab nb cb] 23)).heap.size=w.heap.size+3:=by simp
 generalize ((w.alloc (.cells #[.slice aa na ca] 23)).alloc (.cells #[.slice aa na ca] 23)).alloc (.cells #[.slice ab nb cb] 23)=W0 at *
 have Hsz:=Lib.hid hsz
 clear hsz
 gi_wp2
 have hsz:=Hsz.out
 refine zjy (w:=W0) (gf:=88) (lb:=#[.pointer (some ⟨w.heap.size+2,0,none⟩),.pointer (some ⟨w.heap.size+1,0,none⟩)]) (by rfl) (enters_of Try.func88 (by kernel_rfl) rfl)
  (GcdJ w (Nat.gcd (val la) (val lb))) (GcdM w (Nat.gcd (val la) (val lb))) (val la,val lb) (fun s => s.2=0) rfl
  (fun s W k o o' h h1 h2 _ _ => h.put (by rw [<- hsz];exact h1) (by rw [hsz] at h2;omega)) (fun s v s' W k o o' h h1 h2 _ _ => h.put (by rw [<- hsz];exact h1) (by rw [hsz] at h2;omega)) ?_
  (fun v => { tmps:=#[.slice aa na ca,.slice ab nb cb,undef,undef,.slice none 0 0,.pointer (some ⟨w.heap.size,0,none⟩),v,.slice aa na ca,.slice aa na ca,.slice ab nb cb,
   .func (.func 88) #[] #[.pointer (some ⟨w.heap.size+2,0,none⟩),.pointer (some ⟨w.heap.size+1,0,none⟩)],v,undef,undef,undef],defers:=[] }) ?assign ?body ?seq ?done
 ·intro r
  have aL:Below W0.heap.size W0 ((W0.alloc (.deferred (some []))).alloc (.loop r)):=bS (bN _ _) (bN _ _)
  exact ⟨b0.below aL,b1.below aL,b2.below aL,bS hbW aL,rfl,by simp;omega⟩
 case assign =>
  intro v W K hK
  gi_wp2
  exact hK
 case body =>
  rintro s v s' W o ⟨hB0,⟨l,c1,r1,n1,l1⟩,hB1,hB2,hbw,hg,ic⟩ hl ho hk
  obtain ⟨av,nv,cv,rfl,_,_⟩:=(r1.rd hbw).open
  obtain ⟨v0,l0,c0,f0,_⟩:=hB0
  gi_wp2
  refine ⟨⟨zF.set (by rw [c0];simp) f0 (by omega) r1 l1 n1,hB1.other (by omega) (by omega) _,hB2.other (by omega) (by omega) _,hbw.setCell (Nat.le_refl _) _,hg,by simpa using ic⟩,?_,?_⟩
  ·exact (Below.heap_setCell _ _ _ _ (by show w.heap.size+3+1≠w.heap.size;omega)).trans (by rw [<- Hsz.out];exact hl)
  ·exact (Below.heap_setCell _ _ _ _ (by show w.heap.size+3≠w.heap.size;omega)).trans (by rw [<- Hsz.out];exact hk)
 case seq =>
  intro o W ho hJ hl hk hY
  rw [hsz] at hl hk hY ⊢
  exact zhZ w _ _ o W _ ho hJ hl hk hY
 case done =>
  rintro s W hs ⟨⟨v,l,c0,f0,r0,n0,l0⟩,_,_,hbw,hg,ic⟩ hk
  have hG:val l=Nat.gcd (val la) (val lb):=by rw [n0,<- hg,hs,Nat.gcd_zero_right]
  have HG:=Lib.hid hG
  have hv:=r0.rd hbw
  obtain ⟨av,nv,cv,rfl,_,_⟩:=hv.open
  clear hG n0 hg
  gi_wp2
  refine ⟨trivial,(callsIn_wide.2 (zan _ l _ hv (by omega))).mono ?_⟩
  rintro e w2 ⟨vt,rfl,hvt,aL⟩
  rw [HG.out] at hvt
  have hlt:=(Array.getElem?_eq_some_iff.1 hk).1
  have hK:=(aL.block _ hlt).trans hk
  rw [Hsz.out] at hK hlt
  have da:=aL.size
  gi_wp2
  refine ⟨by simp,.inl ⟨_,_,rfl,run_takeDeferred hK,?_⟩⟩
  exact ⟨_,results_tmp rfl _ _ _,_,rfl,(hvt.putOther hlt _).mono hbw.size,zdn (bS hbw aL) (by omega) (by have:=hbw.size;omega)⟩

end Go.Proofs.Ytkjcdnlpjldhaaa


namespace Go.Proofs.Ytkjcdnlpjldhaaa
open Go.RowKit Tw

theorem zdi {a b:Nat} (h:0<b):sz (Nat.gcd a b)<=sz b:=zV (Nat.gcd_le_right a h)

theorem zdr (va vb:Value) (la lb:List Nat) (w:World) (ha:Rd w va la) (hb:Rd w vb lb) (hlb:lb.length<=90000) (h0:val lb=0) :
  Calls Try.prog 30 #[va,vb] w fun e w' => e=.returned (.tuple #[.slice none 0 0,.slice none 0 0,.bool false])/\Below w.heap.size w w':=by
 have Hn:=Lib.hid (show zD (val lb)=0 by rw [h0];rfl)
 clear h0
 go_enter Try.func30,Try.ntmps30
 go_wp2_with fail
 refine (zat _ lb _ hb (by omega)).mono ?_
 rintro e w' ⟨rfl,rfl⟩
 rw [Hn.out]
 go_wp2_with fail
 go_ret3
 exact ⟨rfl,Below.refl _ _⟩

theorem zcF (va vb:Value) (la lb:List Nat) (w:World) (ha:Rd w va la) (hb:Rd w vb lb) (hla:la.length<=40000) (hlb:lb.length<=40000) (h0:0<val lb) :
  Calls Try.prog 30 #[va,vb] w (zcO w (zc (val la / Nat.gcd (val la) (val lb))) (zc (val lb / Nat.gcd (val la) (val lb)))):=by
 have hnb:0<zD (val lb):=Nat.pos_of_ne_zero (fun e => absurd (zaC.1 e) (by omega))
 have hg:0<Nat.gcd (val la) (val lb):=zcG h0
 have hsa:=zu ha.1
 have hsb:=zu hb.1
 have hsg:=zdi (a:=val la) h0
 have Hg:=Lib.hid hg
 clear h0 hg
 go_enter Try.func30,Try.ntmps30
 go_wp2_with fail
 refine (zat _ lb _ hb (by omega)).mono ?_
 rintro e w' ⟨rfl,rfl⟩
 go_wp2_with fail
 refine (zex _ _ la lb _ ha hb (by omega) (by omega)).mono ?_
 rintro e w1 ⟨vg,rfl,hgv,aT⟩
 go_wp2_with fail
 refine (zdH _ _ la _ _ (ha.to aT) hgv.rd (by omega) (by rw [ze];omega) (by rw [vL];exact Hg.out)).mono ?_
 rintro e w2 ⟨vx,vx2,rfl,hx,_,aL⟩
 rw [vL] at hx
 have dM:=bS aT aL
 go_wp2_with fail
 refine (zdH _ _ lb _ _ (hb.to dM) (hgv.rd.to aL) (by omega) (by rw [ze];omega) (by rw [vL];exact Hg.out)).mono ?_
 rintro e w3 ⟨vy,vy2,rfl,hy,_,bM⟩
 rw [vL] at hy
 go_wp2_with fail
 go_ret3
 have h1:=aT.size
 have h2:=dM.size
 exact ⟨vx,vy,rfl,(hx.mono h1).to bM,hy.mono h2,bS dM bM⟩

theorem zgy {a b:Nat} {o:Bool} (h:(a == b)=o):(zaG a b == 0)=o:=by
 rw [<- h,Bool.eq_iff_iff]
 simp only [beq_iff_eq]
 exact zdq

theorem zcS (va vb:Value) (la lb:List Nat) (o:Bool) (w:World) (ha:Rd w va la) (hb:Rd w vb lb) (hla:la.length<=90000) (hlb:lb.length<=90000) (ho:Hid ((Nat.gcd (val la) (val lb) == 1)=o)) :
  Calls Try.prog 66 #[va,vb] w fun e w' => e=.returned (.bool o)/\Below w.heap.size w w':=by
 have Ho:=Lib.hid (zgy ho.out)
 go_enter Try.func66,Try.ntmps66
 go_wp2_with fail
 refine (zex _ _ la lb _ ha hb hla hlb).mono ?_
 rintro e w1 ⟨vg,rfl,hg,aT⟩
 go_wp2_with fail
 refine (zcb _ _ (by omega) (by omega)).mono ?_
 rintro e w2 ⟨vo,rfl,hvo,aL⟩
 replace hvo:Own w1.heap.size w2 vo (zc 1):=hvo
 go_wp2_with fail
 refine (zfN _ _ _ _ _ (hg.rd.to aL) hvo.rd).mono ?_
 rintro e w3 ⟨rfl,bM⟩
 rw [vL,vL]
 go_wp2_with fail
 go_ret
 exact ⟨zo (congrArg Value.bool Ho.out),bS (bS aT aL) bM⟩

theorem zeO (va vb:Value) (la lb:List Nat) (w:World) (ha:Rd w va la) (hb:Rd w vb lb) (hlb:lb.length<=90000) (h0:val lb=0) :
  Calls Try.prog 23 #[va,vb] w fun e w' => e=.returned (.tuple #[.slice none 0 0,.slice none 0 0,.bool false])/\Below w.heap.size w w':=by
 have Hl:=Lib.hid (show zc (val lb)=[] by rw [h0];rfl)
 clear h0
 go_enter Try.func23,Try.ntmps23
 go_wp2_with fail
 refine (zT _ lb _ hb (by omega)).mono ?_
 rintro e w1 ⟨v1,rfl,hv1,aT⟩
 rw [Hl.out] at hv1
 obtain ⟨a1,cap1,rfl⟩:=hv1.rd.shape
 go_wp2_with fail
 go_ret3
 exact ⟨rfl,aT⟩

theorem zdU (va vb:Value) (la lb:List Nat) (w:World) (ha:Rd w va la) (hb:Rd w vb lb) (hla:la.length<=3000) (hlb:lb.length<=3000) (h0:0<val lb) :
  Calls Try.prog 23 #[va,vb] w (zcO w (zc (val la / Nat.gcd (val la) (val lb))) (zc (val lb / Nat.gcd (val la) (val lb)))):=by
 have hg:0<Nat.gcd (val la) (val lb):=zcG h0
 have hsa:=zu ha.1
 have hsb:=zu hb.1
 have hsg:=zdi (a:=val la) h0
 have hl0:0<(zc (val lb)).length:=by rw [ze];have:=mt zA.1 (Nat.ne_of_gt h0);omega
 have Hg:=Lib.hid hg
 clear h0 hg
 go_enter Try.func23,Try.ntmps23
 go_wp2_with fail
 refine (zT _ lb _ hb (by omega)).mono ?_
 rintro e w1 ⟨v1,rfl,hv1,aT⟩
 obtain ⟨a1,o1,cap1,rfl,_⟩:=hv1.rd.cells' hl0
 go_wp2_with fail
 refine (ref5_gcd _ _ la _ _ (ha.to aT) hv1.rd (by omega) (by rw [ze];omega)).mono ?_
 rintro e w2 ⟨vg,rfl,hgv,aL⟩
 rw [vL] at hgv
 have dM:=bS aT aL
 go_wp2_with fail
 refine (zeN _ _ la _ _ (ha.to dM) hgv.rd (by omega) (by rw [ze];omega) (by rw [vL];exact Hg.out)).mono ?_
 rintro e w3 ⟨vx,vx2,rfl,hx,_,bM⟩
 rw [vL] at hx
 have ec:=bS dM bM
 go_wp2_with fail
 refine (zeN _ _ _ _ _ ((hv1.rd.to aL).to bM) (hgv.rd.to bM) (by rw [ze];omega) (by rw [ze];omega) (by rw [vL];exact Hg.out)).mono ?_
 rintro e w4 ⟨vy,vy2,rfl,hy,_,dA⟩
 rw [vL,vL] at hy
 go_wp2_with fail
 go_ret3
 have h1:=dM.size
 have h2:=ec.size
 exact ⟨vx,vy,rfl,(hx.mono h1).to dA,hy.mono h2,bS ec dA⟩

end Go.Proofs.Ytkjcdnlpjldhaaa

