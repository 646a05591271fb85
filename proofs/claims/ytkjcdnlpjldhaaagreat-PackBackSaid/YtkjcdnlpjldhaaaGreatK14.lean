/-
  The texts Gcd, Common, merged.
-/
import Derived.Test.YtkjcdnlpjldhaaaGreatK09
import Derived.Test.YtkjcdnlpjldhaaaGreatK01
import Derived.RangeFuncNested
import Derived.RangeFuncBound
import Derived.RangeFuncCalls
import Derived.RangeFuncLeaves
import Derived.RangeFuncFrom
import Derived.Shelf.Abstract
import Derived.Shelf.RegionOpen
import Derived.OwnWalkIn
import Derived.TacticsInMore
import Derived.LoopNIn
import Derived.LoopIn
import Derived.Test.YtkjcdnlpjldhaaaGreatK08
set_option linter.unusedVariables false
set_option linter.unusedSimpArgs false
set_option maxRecDepth 100000
set_option maxHeartbeats 400000000
namespace Go.Proofs.YtkjcdnlpjldhaaaGreat
open Go.RowKit Go.Shelf Tw

theorem zmC {P:Program} {g:Operand} {ps:Array Tmp} {assign body:Code} {Q:Exit->Act->World->Prop} {a:Act} {w:World} {n:Nat}
  {gf:Nat} {lb:Array Value} (hg:a.eval g=.func (.func gf) #[] lb) (eg:∀ args w,(callFunc gf args).run P w=.ok (.enter gf args) w)
  {σ:Type} (J:σ->World->Prop) (Mid:σ->Value->σ->World->Prop) (s0:σ) (End:σ->Prop) (hps:ps.size=1)
  (hJp:∀ s W k o o',J s W->w.heap.size<=k->k<=w.heap.size+1->W.heap[k]?=some o->o.isCells=false->J s (W.putObj k o'))
  (hMp:∀ s v s' W k o o',Mid s v s' W->w.heap.size<=k->k<=w.heap.size+1->W.heap[k]?=some o->o.isCells=false->Mid s v s' (W.putObj k o'))
  (h0:∀ r,J s0 ((w.alloc (.deferred (some []))).alloc (.loop r)))
  (a₁:Value->Act)
  (hassign:∀ v W (K:Act->World->Prop),K (a₁ v) W->assign.wpIn (Fence.wide.inRound (w.heap.size+1)) (n - 1 - 1) P (Exit.then K (fun _ _ _ => False)) { tmps:=(ps.zip #[v]).foldl (fun t (p,v) => t.setIfInBounds p v) a.tmps,defers:=[] } W)
  (hbody:∀ s v s' W o,Mid s v s' W->W.heap[w.heap.size+1]?=some o->o.isCells=false->W.heap[w.heap.size]?=some (.deferred (some [])) ->
   body.wpIn (Fence.wide.inRound (w.heap.size+1)) (n - 1 - 1) P (fun x _ W' => x=.normal/\J s' W'/\W'.heap[w.heap.size+1]?=some o/\W'.heap[w.heap.size]?=some (.deferred (some []))) (a₁ v) W)
  (hseq:∀ (o:Obj) (W:World),o.isCells=false->J s0 W->W.heap[w.heap.size+1]?=some o->W.heap[w.heap.size]?=some (.deferred (some [])) ->
   (∀ s v s' W1,Mid s v s' W1->W1.heap[w.heap.size+1]?=some o->W1.heap[w.heap.size]?=some (.deferred (some [])) ->
    YieldAt Fence.wide (n - 1 - 1) P (w.heap.size+1) #[v] W1 fun e W' => e=.returned (.bool true)/\J s' W'/\W'.heap[w.heap.size+1]?=some o/\W'.heap[w.heap.size]?=some (.deferred (some []))) ->
   CallsIn Fence.wide (n - 1) P gf (#[.func (.yield (w.heap.size+1)) #[] #[]]++lb) W fun e W' => (∃ v,e=.returned v)/\∃ s,End s/\J s W'/\W'.heap[w.heap.size+1]?=some o/\W'.heap[w.heap.size]?=some (.deferred (some [])))
  (hdone:∀ s W,End s->J s W->W.heap[w.heap.size]?=some (.deferred (some []))->Q .normal { a with defers:={ target:=.collected w.heap.size,args:=#[] } :: a.defers } W) :
  (Code.rangeFunc g ps assign body).wpIn Fence.wide n P Q a w:=by
 refine wpIn_rangeFunc ?_
 intro fn hfn
 obtain ⟨rec,hrec⟩:∃ rec:LoopState->Loop,rec=fun st => { state:=st,pending:=none,fn,tmps:=a.tmps,params:=ps,assign,body,defers:=w.heap.size }:=⟨_,rfl⟩
 have hL1:((w.alloc (.deferred (some []))).alloc (.loop (rec .ready))).heap[w.heap.size+1]?=some (.loop (rec .ready)):=by
  have:=World.alloc_heap_new (w.alloc (.deferred (some []))) (.loop (rec .ready));rwa [World.size_alloc] at this
 have hK1:((w.alloc (.deferred (some []))).alloc (.loop (rec .ready))).heap[w.heap.size]?=some (.deferred (some [])) :=
  (Below.heap_alloc _ _ _ (by simp)).trans (World.alloc_heap_new w _)
 refine ⟨w.heap.size+1,[{ target:=.collected w.heap.size,args:=#[] }],(w.alloc (.deferred (some []))).alloc (.loop (rec .ready)),{ target:=.fn (.func gf) lb,args:=#[.func (.yield (w.heap.size+1)) #[] #[]] },
  (w.alloc (.deferred (some []))).alloc (.loop (rec .ready)),gf,#[.func (.yield (w.heap.size+1)) #[] #[]]++lb,(w.alloc (.deferred (some []))).alloc (.loop (rec .ready)),?_,?_,fun _ _ => trivial,?_,(fun h => by simp [Fence.wide] at h),?_⟩
 ·rw [hrec];exact run_enterLoop_outer _ _ _ _ _
 ·simp only [resolve,hg];simp [go_sem]
 ·simp [invoke,go_sem,eg]
 ·refine (hseq (.loop (rec .ready)) _ rfl (h0 _) hL1 hK1 ?_).mono ?_
  ·rintro s v s' W hM hl hk
   have hlt:=(Array.getElem?_eq_some_iff.1 hl).1
   have hy:=run_yield (P:=P) (args:=#[v]) hl (by rw [hrec];exact hps.symm)
   rw [hrec] at hy
   refine ⟨fn,_,assign,body,hy,roundIn_of_wpIn hfn (hassign v W _ ⟨_,run_beginRound hl (by rw [hrec]),?_⟩)⟩
   have hl2:(W.putObj (w.heap.size+1) (.loop { rec .ready with state:=.busy })).heap[w.heap.size+1]?=some (.loop { rec .ready with state:=.busy }):=World.putObj_heap_same hlt
   have hk2:(W.putObj (w.heap.size+1) (.loop { rec .ready with state:=.busy })).heap[w.heap.size]?=some (.deferred (some [])):=(World.putObj_heap_other (by omega)).trans hk
   refine wpIn_mono (hbody s v s' _ _ (hMp _ _ _ _ _ _ _ hM (by omega) (by omega) hl rfl) hl2 rfl hk2) ?_
   rintro e a3 W3 ⟨rfl,hJ3,hl3,hk3⟩
   have hlt3:=(Array.getElem?_eq_some_iff.1 hl3).1
   refine ⟨_,_,run_endRound none hl3,rfl,hJp _ _ _ _ _ hJ3 (by omega) (by omega) hl3 rfl,?_,(World.putObj_heap_other (by omega)).trans hk3⟩
   rw [World.putObj_heap_same hlt3,hrec]
   rfl
  ·rintro e W2 ⟨⟨v,rfl⟩,s,hE,hJ2,hl2,hk2⟩
   have hr:=run_endLoop (P:=P) hl2 (by rw [hrec];simp)
   rw [hrec] at hr
   exact ⟨none,_,hr,hdone s _ hE (hJp _ _ _ _ _ hJ2 (by omega) (by omega) hl2 rfl) ((World.putObj_heap_other (by omega)).trans hk2)⟩

theorem Own.putOther {base:Nat} {w:World} {v:Value} {l:List Nat} (h:Own base w v l) {k:Nat} (hk:k<base) (o:Obj):Own base (w.putObj k o) v l:=by
 refine ⟨h.1,h.2.1,?_⟩
 rcases h.2.2 with h2|⟨g,cap,cur,hv,hg,hh,r⟩
 ·exact .inl h2
 ·exact .inr ⟨g,cap,cur,hv,hg,by rw [World.putObj_heap_other (by omega)];exact hh,r⟩

def RdG (w W:World) (v:Value) (l:List Nat):Prop:=Rd w v l\/Own (w.heap.size+5) W v l

theorem RdG.rd {w W:World} {v:Value} {l:List Nat} (h:RdG w W v l) (hb:Below w.heap.size w W):Rd W v l:=by
 rcases h with h|h
 ·exact h.to hb
 ·exact h.rd

theorem RdG.keep {w W W':World} {v:Value} {l:List Nat} (h:RdG w W v l) (hk:∀ k,k<W.heap.size->w.heap.size+5<=k->W'.heap[k]?=W.heap[k]?):RdG w W' v l:=by
 rcases h with h|h
 ·exact .inl h
 ·refine .inr ⟨h.1,h.2.1,?_⟩
  rcases h.2.2 with h2|⟨g,cap,cur,hv,hg,hh,r⟩
  ·exact .inl h2
  ·refine .inr ⟨g,cap,cur,hv,hg,?_,r⟩
   rw [hk g (Array.getElem?_eq_some_iff.1 hh).1 hg];exact hh

def zN (w W:World) (b N:Nat):Prop :=
 ∃ v l,W.cell? ⟨b,0,none⟩=some v/\W.frozen? ⟨b,0,none⟩=false/\RdG w W v l/\val l=N/\l.length<=90000

theorem zN.keep {w W W':World} {b N:Nat} (h:zN w W b N) (hb:W'.heap[b]?=W.heap[b]?) (hk:∀ k,k<W.heap.size->w.heap.size+5<=k->W'.heap[k]?=W.heap[k]?):zN w W' b N:=by
 obtain ⟨v,l,h1,h2,h3,h4,h5⟩:=h
 exact ⟨v,l,(World.cell?_of_block (a:=⟨b,0,none⟩) hb).trans h1,(World.frozen?_of_block (a:=⟨b,0,none⟩) hb).trans h2,h3.keep hk,h4,h5⟩

theorem zN.lt {w W:World} {b N:Nat} (h:zN w W b N):b<W.heap.size:=by
 obtain ⟨v,l,h1,_⟩:=h
 exact zm h1

theorem zN.below {w W W':World} {b N:Nat} (h:zN w W b N) (hb:Below W.heap.size W W'):zN w W' b N :=
 h.keep (hb.block _ h.lt) (fun k hk _ => hb.block k hk)

theorem zN.other {w W:World} {b c N:Nat} (h:zN w W b N) (hc:b≠c) (hc5:c<w.heap.size+5) (x:Value):zN w (W.setCell ⟨c,0,none⟩ x) b N :=
 h.keep (Below.heap_setCell _ _ _ _ hc) (fun k _ hk => Below.heap_setCell _ _ _ _ (by show k≠c;omega))

theorem zN.put {w W:World} {b k N:Nat} {o:Obj} (h:zN w W b N) (hc:b≠k) (hk5:k<w.heap.size+5):zN w (W.putObj k o) b N :=
 h.keep (World.putObj_heap_other hc) (fun j _ hj => World.putObj_heap_other (by omega))

theorem RdG.below {w W W':World} {v:Value} {l:List Nat} (h:RdG w W v l) (hb:Below W.heap.size W W'):RdG w W' v l:=h.keep (fun k hk _ => hb.block k hk)

theorem RdG.other {w W:World} {v:Value} {l:List Nat} {c:Nat} (h:RdG w W v l) (hc5:c<w.heap.size+5) (x:Value):RdG w (W.setCell ⟨c,0,none⟩ x) v l :=
 h.keep (fun k _ hk => Below.heap_setCell _ _ _ _ (by show k≠c;omega))

theorem RdG.put {w W:World} {v:Value} {l:List Nat} {k:Nat} {o:Obj} (h:RdG w W v l) (hk5:k<w.heap.size+5):RdG w (W.putObj k o) v l :=
 h.keep (fun j _ hj => World.putObj_heap_other (by omega))

theorem zN.set {w W:World} {b N:Nat} {v:Value} {l:List Nat} (h:W.cell? ⟨b,0,none⟩≠none) (hf:W.frozen? ⟨b,0,none⟩=false) (hb:b<w.heap.size+5) (hv:RdG w W v l) (hl:l.length<=90000) (hN:val l=N) :
  zN w (W.setCell ⟨b,0,none⟩ v) b N :=
 ⟨v,l,World.cell?_setCell_same' _ _ _ (by cases e:W.cell? ⟨b,0,none⟩ <;> simp_all),by rw [World.frozen?_setCell];exact hf,hv.other hb _,hN,hl⟩

def GcdJ (w:World) (G:Nat) (s:Nat × Nat) (W:World):Prop :=
 zN w W w.heap.size s.1/\zN w W (w.heap.size+1) s.1/\zN w W (w.heap.size+2) s.2/\Below w.heap.size w W/\Nat.gcd s.1 s.2=G/\w.heap.size+5<=W.heap.size

def GcdM (w:World) (G:Nat) (s:Nat × Nat) (v:Value) (s':Nat × Nat) (W:World):Prop :=
 zN w W w.heap.size s.1/\(∃ l,W.cell? ⟨w.heap.size+1,0,none⟩=some v/\RdG w W v l/\val l=s'.1/\l.length<=90000)/\zN w W (w.heap.size+1) s'.1/\zN w W (w.heap.size+2) s'.2 /\
  Below w.heap.size w W/\Nat.gcd s'.1 s'.2=G/\w.heap.size+5<=W.heap.size

theorem zeX {w W:World} {k:Nat} {o:Obj} (h:Below w.heap.size w W) (hk:w.heap.size<=k) (hW:w.heap.size<=W.heap.size):Below w.heap.size w (W.putObj k o) :=
 h.grown (grownBy_putObj' W k o) hW (fun j e => by cases e;exact hk)

theorem GcdJ.put {w W:World} {G k:Nat} {s:Nat × Nat} {o:Obj} (h:GcdJ w G s W) (h3:w.heap.size+3<=k) (h4:k<=w.heap.size+4):GcdJ w G s (W.putObj k o):=by
 obtain ⟨a,b,c,d,e,f⟩:=h
 exact ⟨a.put (by omega) (by omega),b.put (by omega) (by omega),c.put (by omega) (by omega),zeX d (by omega) (by omega),e,by simpa using f⟩

theorem GcdM.put {w W:World} {G k:Nat} {s s':Nat × Nat} {v:Value} {o:Obj} (h:GcdM w G s v s' W) (h3:w.heap.size+3<=k) (h4:k<=w.heap.size+4):GcdM w G s v s' (W.putObj k o):=by
 obtain ⟨a,⟨l,b1,b2,b3,b4⟩,b,c,d,e,f⟩:=h
 exact ⟨a.put (by omega) (by omega),⟨l,(World.cell?_of_block (a:=⟨w.heap.size+1,0,none⟩) (World.putObj_heap_other (by show w.heap.size+1≠k;omega))).trans b1,b2.put (by omega),b3,b4⟩,b.put (by omega) (by omega),c.put (by omega) (by omega),zeX d (by omega) (by omega),e,by simpa using f⟩

theorem zmJ (aa ab:Option Addr) (na nb ca cb:Nat) (w:World) :
  Calls Tryz.prog 138 #[.slice aa na ca,.slice ab nb cb] w fun e w' => e=.returned (.func (.func 154) #[] #[.pointer (some ⟨w.heap.size+1,0,none⟩),.pointer (some ⟨w.heap.size,0,none⟩)]) /\
   w'=(w.alloc (.cells #[.slice aa na ca] 45)).alloc (.cells #[.slice ab nb cb] 45):=by
 go_enter Tryz.func138,Tryz.ntmps138
 go_wp2_with fail
 go_ret
 exact ⟨rfl,rfl⟩

def cellv (W:World) (b:Nat):Value:=(W.cell? ⟨b,0,none⟩).getD undef

attribute [local go_sem] Oper.semAt_some

theorem zfz {P:Program} {n:Nat} {f:FuncId} {args:Array Value} {w:World} {R R':Ending->World->Prop} (h:Calls P f args w R') (hm:∀ e w',R' e w'->R e w') :
  Fence.wide.fn f/\(Fence.wide.depth.isSome=true->1<=n)/\CallsIn Fence.wide (n - 1) P f args w R :=
 ⟨trivial,(fun h => by simp [Fence.wide] at h),(callsIn_wide.2 h).mono hm⟩

theorem zN.read {w W:World} {b N:Nat} (h:zN w W b N) (hb:Below w.heap.size w W):zfI W (cellv W b)=N:=by
 obtain ⟨v,l,h1,_,h3,h4,_⟩:=h
 unfold cellv
 rw [h1]
 exact (zaB (h3.rd hb)).trans h4

theorem zkQ (w:World) (G:Nat) (s0:Nat × Nat) (o:Obj) (W:World) (n:Nat) (ho:o.isCells=false) (hJ:GcdJ w G s0 W) (hl:W.heap[w.heap.size+3+1]?=some o) (hk:W.heap[w.heap.size+3]?=some (.deferred (some [])))
  (hY:∀ s v s' W1,GcdM w G s v s' W1->W1.heap[w.heap.size+3+1]?=some o->W1.heap[w.heap.size+3]?=some (.deferred (some [])) ->
   YieldAt Fence.wide (n - 1) Tryz.prog (w.heap.size+3+1) #[v] W1 fun e W' => e=.returned (.bool true)/\GcdJ w G s' W'/\W'.heap[w.heap.size+3+1]?=some o/\W'.heap[w.heap.size+3]?=some (.deferred (some []))) :
  CallsIn Fence.wide n Tryz.prog 154 #[.func (.yield (w.heap.size+3+1)) #[] #[],.pointer (some ⟨w.heap.size+2,0,none⟩),.pointer (some ⟨w.heap.size+1,0,none⟩)] W
   fun e W' => (∃ v,e=.returned v)/\∃ s:Nat × Nat,s.2=0/\GcdJ w G s W'/\W'.heap[w.heap.size+3+1]?=some o/\W'.heap[w.heap.size+3]?=some (.deferred (some [])):=by
 refine callsIn_of_wp Tryz.func154 rfl trivial ?_
 simp only [Tryz.ntmps154,List.size_toArray,List.length_cons,List.length_nil,Nat.reduceAdd,Nat.reduceSub,Array.replicate_succ,Array.replicate_zero,List.push_toArray,List.append_toArray,List.nil_append,List.cons_append]
 gi_wp2
 gi_loopw [] (fun wr => ∃ s:Nat × Nat,GcdJ w G s wr/\wr.heap[w.heap.size+3+1]?=some o/\wr.heap[w.heap.size+3]?=some (.deferred (some []))) (fun wr => zfI wr (cellv wr (w.heap.size+2)))
 case atStart => exact ⟨s0,hJ,hl,hk⟩
 case round =>
  obtain ⟨⟨X,Y⟩,hJ2,hl2,hk2⟩:=hrel
  have hJ3:=hJ2
  obtain ⟨hB0,⟨va,la,ca,fa,ra,na,lena⟩,⟨vb,lb,cb,fb,rb,nb,lenb⟩,hbw,hg,hsz⟩:=hJ3
  have hva:=ra.rd hbw
  have hvb:=rb.rd hbw
  by_cases hY0:Y=0
  ·have Hn:=Lib.hid (show zK (val lb)=0 by rw [nb,hY0];rfl)
   gi_wp2
   refine zfz (zbb _ lb _ hvb (by omega)) ?_
   rintro e w' ⟨rfl,rfl⟩
   rw [Hn.out]
   gi_wp2
   go_end0
   exact ⟨⟨_,rfl⟩,(X,Y),hY0,hJ2,hl2,hk2⟩
  ·have hnb:0<zK (val lb):=Nat.pos_of_ne_zero (fun e => hY0 (nb.symm.trans (zbs.1 e)))
   have hD:0<val lb:=by rw [nb];omega
   have hlr:(za (val la % val lb)).length<=90000:=by
    have h1:=sz_mod (val la) (val lb)
    have h2:=zy hva.1
    rw [ze];omega
   obtain ⟨ab,nbl,capb,rfl,Hbl,_⟩:=hvb.open
   have Hna:=Lib.hid na
   have Hnb:=Lib.hid nb
   have Hg:=Lib.hid hg
   clear na nb hg
   gi_wp2
   refine zfz (zbb _ lb _ hvb (by omega)) ?_
   rintro e w' ⟨rfl,rfl⟩
   gi_wp2
   refine zfz (zfv _ _ la lb _ hva hvb lena lenb hD) ?_
   rintro e w2 ⟨vq,vr,rfl,hq,hr,aZ⟩
   obtain ⟨ar,nr,capr,rfl,Hrl,_⟩:=hr.rd.open
   have i1:w.heap.size+1<wr.heap.size:=by omega
   have i2:w.heap.size+2<wr.heap.size:=by omega
   have c1:=(aZ.cell (p:=⟨w.heap.size+1,0,none⟩) i1).trans ca
   have f1:=(aZ.frozen (p:=⟨w.heap.size+1,0,none⟩) i1).trans fa
   have c2:=(aZ.cell (p:=⟨w.heap.size+2,0,none⟩) i2).trans cb
   have f2:=(aZ.frozen (p:=⟨w.heap.size+2,0,none⟩) i2).trans fb
   have dm:=bS hbw aZ
   have hsz2:=aZ.size
   have hM:GcdM w G (X,Y) (.slice ab nbl capb) (Y,X % Y) ((w2.setCell ⟨w.heap.size+1,0,none⟩ (.slice ab nbl capb)).setCell ⟨w.heap.size+2,0,none⟩ (.slice ar nr capr)):=by
    refine ⟨((hB0.below aZ).other (by omega) (by omega) _).other (by omega) (by omega) _,⟨lb,?_,((rb.below aZ).other (by omega) _).other (by omega) _,Hnb.out,lenb⟩,
     (zN.set (by rw [c1];simp) f1 (by omega) (rb.below aZ) lenb Hnb.out).other (by omega) (by omega) _,?_,(dm.setCell (by show w.heap.size<=w.heap.size+1;omega) _).setCell (by show w.heap.size<=w.heap.size+2;omega) _,
     (by rw [<- Hg.out];exact gcd_step X Y),by simp;omega⟩
    ·exact (World.cell?_of_block (a:=⟨w.heap.size+1,0,none⟩) (Below.heap_setCell _ _ _ _ (by show w.heap.size+1≠w.heap.size+2;omega))).trans (World.cell?_setCell_same' _ _ _ (by rw [c1];rfl))
    ·refine zN.set ?_ ?_ (by omega) (RdG.other (.inr (hr.mono (by omega))) (by omega) _) hlr (by rw [vL,Hna.out,Hnb.out])
     ·rw [World.cell?_of_block (a:=⟨w.heap.size+2,0,none⟩) (Below.heap_setCell _ _ _ _ (by show w.heap.size+2≠w.heap.size+1;omega)),c2];simp
     ·rw [World.frozen?_setCell];exact f2
   have hk3:((w2.setCell ⟨w.heap.size+1,0,none⟩ (.slice ab nbl capb)).setCell ⟨w.heap.size+2,0,none⟩ (.slice ar nr capr)).heap[w.heap.size+3]?=some (.deferred (some [])) :=
    (((Below.heap_setCell _ _ _ _ (by show w.heap.size+3≠w.heap.size+2;omega)).trans (Below.heap_setCell _ _ _ _ (by show w.heap.size+3≠w.heap.size+1;omega))).trans (aZ.block _ (by omega))).trans hk2
   have hl3:((w2.setCell ⟨w.heap.size+1,0,none⟩ (.slice ab nbl capb)).setCell ⟨w.heap.size+2,0,none⟩ (.slice ar nr capr)).heap[w.heap.size+3+1]?=some o :=
    (((Below.heap_setCell _ _ _ _ (by show w.heap.size+3+1≠w.heap.size+2;omega)).trans (Below.heap_setCell _ _ _ _ (by show w.heap.size+3+1≠w.heap.size+1;omega))).trans (aZ.block _ (by omega))).trans hl2
   obtain ⟨fn,tmps,assign,body,hy,hR⟩:=hY _ _ _ _ hM hl3 hk3
   have Hread:=Lib.hid ((show zN w wr (w.heap.size+2) Y from ⟨_,lb,cb,fb,rb,Hnb.out,lenb⟩).read hbw)
   have Hlt:=Lib.hid (show X % Y<Y from Nat.mod_lt _ (by omega))
   clear hM hk3 hl3
   gi_wp2
   refine ⟨(fun h => by simp [Fence.wide] at h),hR.mono ?_⟩
   rintro e W3 ⟨rfl,hJ3,hl4,hk4⟩
   gi_wp2
   go_roundw
   case rel => exact ⟨(Y,X % Y),hJ3,hl4,hk4⟩
   case measure =>
    rw [Hread.out,hJ3.2.2.1.read hJ3.2.2.2.1]
    exact Hlt.out

theorem zgy (va vb:Value) (la lb:List Nat) (w:World) (ha:Rd w va la) (hb:Rd w vb lb) (hla:la.length<=90000) (hlb:lb.length<=90000) :
  Calls Tryz.prog 114 #[va,vb] w (zdi w (za (Nat.gcd (val la) (val lb)))):=by
 obtain ⟨aa,na,ca,rfl,Hna,_⟩:=ha.open
 obtain ⟨ab,nb,cb,rfl,Hnb,_⟩:=hb.open
 refine (callsIn_wide (n:=3)).1 ?_
 refine callsIn_of_wp_marks Tryz.func114 rfl trivial ?_ rfl
 simp only [Tryz.ntmps114,List.size_toArray,List.length_cons,List.length_nil,Nat.reduceAdd,Nat.reduceSub,Array.replicate_succ,Array.replicate_zero,List.push_toArray,List.append_toArray,List.nil_append,List.cons_append]
 gi_wp2
 refine ⟨trivial,(callsIn_wide.2 (zmJ aa ab na nb ca cb _)).mono ?_⟩
 rintro e w' ⟨rfl,rfl⟩
 have b0:zN w (((w.alloc (.cells #[.slice aa na ca] 45)).alloc (.cells #[.slice aa na ca] 45)).alloc (.cells #[.slice ab nb cb] 45)) w.heap.size (val la) :=
  ⟨.slice aa na ca,la,by simp [go_sem],by simp [go_sem],.inl ha,rfl,hla⟩
 have b1:zN w (((w.alloc (.cells #[.slice aa na ca] 45)).alloc (.cells #[.slice aa na ca] 45)).alloc (.cells #[.slice ab nb cb] 45)) (w.heap.size+1) (val la) :=
  ⟨.slice aa na ca,la,by simp [go_sem],by simp [go_sem],.inl ha,rfl,hla⟩
 have b2:zN w (((w.alloc (.cells #[.slice aa na ca] 45)).alloc (.cells #[.slice aa na ca] 45)).alloc (.cells #[.slice ab nb cb] 45)) (w.heap.size+2) (val lb) :=
  ⟨.slice ab nb cb,lb,by simp [go_sem],by simp [go_sem],.inl hb,rfl,hlb⟩
 have hbW:Below w.heap.size w (((w.alloc (.cells #[.slice aa na ca] 45)).alloc (.cells #[.slice aa na ca] 45)).alloc (.cells #[.slice ab nb cb] 45)) :=
  bS (bS (bN _ _) (bN _ _)) (bN _ _)
 have hsz:(((w.alloc (.cells #[.slice aa na ca] 45)).alloc (.cells #[.slice aa na ca] 45)).alloc (.cells #[.slice ab nb cb] 45)).heap.size=w.heap.size+3:=by simp
 generalize ((w.alloc (.cells #[.slice aa na ca] 45)).alloc (.cells #[.slice aa na ca] 45)).alloc (.cells #[.slice ab nb cb] 45)=W0 at *
 have Hsz:=Lib.hid hsz
 clear hsz
 gi_wp2
 have hsz:=Hsz.out
 refine zmC (w:=W0) (gf:=154) (lb:=#[.pointer (some ⟨w.heap.size+2,0,none⟩),.pointer (some ⟨w.heap.size+1,0,none⟩)]) (by rfl) (enters_of Tryz.func154 (by kernel_rfl) rfl)
  (GcdJ w (Nat.gcd (val la) (val lb))) (GcdM w (Nat.gcd (val la) (val lb))) (val la,val lb) (fun s => s.2=0) rfl
  (fun s W k o o' h h1 h2 _ _ => h.put (by rw [<- hsz];exact h1) (by rw [hsz] at h2;omega)) (fun s v s' W k o o' h h1 h2 _ _ => h.put (by rw [<- hsz];exact h1) (by rw [hsz] at h2;omega)) ?_
  (fun v => { tmps:=#[.slice aa na ca,.slice ab nb cb,undef,undef,.slice none 0 0,.pointer (some ⟨w.heap.size,0,none⟩),v,.slice aa na ca,.slice aa na ca,.slice ab nb cb,
   .func (.func 154) #[] #[.pointer (some ⟨w.heap.size+2,0,none⟩),.pointer (some ⟨w.heap.size+1,0,none⟩)],v,undef,undef,undef],defers:=[] }) ?assign ?body ?seq ?done
 ·intro r
  have aZ:Below W0.heap.size W0 ((W0.alloc (.deferred (some []))).alloc (.loop r)):=bS (bN _ _) (bN _ _)
  exact ⟨b0.below aZ,b1.below aZ,b2.below aZ,bS hbW aZ,rfl,by simp;omega⟩
 case assign =>
  intro v W K hK
  gi_wp2
  exact hK
 case body =>
  rintro s v s' W o ⟨hB0,⟨l,c1,r1,n1,l1⟩,hB1,hB2,hbw,hg,eH⟩ hl ho hk
  obtain ⟨av,nv,cv,rfl,_,_⟩:=(r1.rd hbw).open
  obtain ⟨v0,l0,c0,f0,_⟩:=hB0
  gi_wp2
  refine ⟨⟨zN.set (by rw [c0];simp) f0 (by omega) r1 l1 n1,hB1.other (by omega) (by omega) _,hB2.other (by omega) (by omega) _,hbw.setCell (Nat.le_refl _) _,hg,by simpa using eH⟩,?_,?_⟩
  ·exact (Below.heap_setCell _ _ _ _ (by show w.heap.size+3+1≠w.heap.size;omega)).trans (by rw [<- Hsz.out];exact hl)
  ·exact (Below.heap_setCell _ _ _ _ (by show w.heap.size+3≠w.heap.size;omega)).trans (by rw [<- Hsz.out];exact hk)
 case seq =>
  intro o W ho hJ hl hk hY
  rw [hsz] at hl hk hY ⊢
  exact zkQ w _ _ o W _ ho hJ hl hk hY
 case done =>
  rintro s W hs ⟨⟨v,l,c0,f0,r0,n0,l0⟩,_,_,hbw,hg,eH⟩ hk
  have hG:val l=Nat.gcd (val la) (val lb):=by rw [n0,<- hg,hs,Nat.gcd_zero_right]
  have HG:=Lib.hid hG
  have hv:=r0.rd hbw
  obtain ⟨av,nv,cv,rfl,_,_⟩:=hv.open
  clear hG n0 hg
  gi_wp2
  refine ⟨trivial,(callsIn_wide.2 (zaV _ l _ hv (by omega))).mono ?_⟩
  rintro e w2 ⟨vt,rfl,hvt,aZ⟩
  rw [HG.out] at hvt
  have hlt:=(Array.getElem?_eq_some_iff.1 hk).1
  have hK:=(aZ.block _ hlt).trans hk
  rw [Hsz.out] at hK hlt
  have dZ:=aZ.size
  gi_wp2
  refine ⟨by simp,.inl ⟨_,_,rfl,run_takeDeferred hK,?_⟩⟩
  exact ⟨_,results_tmp rfl _ _ _,_,rfl,(hvt.putOther hlt _).mono hbw.size,zeX (bS hbw aZ) (by omega) (by have:=hbw.size;omega)⟩

end Go.Proofs.YtkjcdnlpjldhaaaGreat


namespace Go.Proofs.YtkjcdnlpjldhaaaGreat
open Go.RowKit Tw

theorem zeQ {a b:Nat} (h:0<b):sz (Nat.gcd a b)<=sz b:=zas (Nat.gcd_le_right a h)

theorem zfa (va vb:Value) (la lb:List Nat) (w:World) (ha:Rd w va la) (hb:Rd w vb lb) (hlb:lb.length<=90000) (h0:val lb=0) :
  Calls Tryz.prog 89 #[va,vb] w fun e w' => e=.returned (.tuple #[.slice none 0 0,.slice none 0 0,.bool false])/\Below w.heap.size w w':=by
 have Hn:=Lib.hid (show zK (val lb)=0 by rw [h0];rfl)
 clear h0
 go_enter Tryz.func89,Tryz.ntmps89
 go_wp2_with fail
 refine (zbb _ lb _ hb (by omega)).mono ?_
 rintro e w' ⟨rfl,rfl⟩
 rw [Hn.out]
 go_wp2_with fail
 go_ret3
 exact ⟨rfl,Below.refl _ _⟩

theorem zdW (va vb:Value) (la lb:List Nat) (w:World) (ha:Rd w va la) (hb:Rd w vb lb) (hla:la.length<=40000) (hlb:lb.length<=40000) (h0:0<val lb) :
  Calls Tryz.prog 89 #[va,vb] w (zeq w (za (val la / Nat.gcd (val la) (val lb))) (za (val lb / Nat.gcd (val la) (val lb)))):=by
 have hnb:0<zK (val lb):=Nat.pos_of_ne_zero (fun e => absurd (zbs.1 e) (by omega))
 have hg:0<Nat.gcd (val la) (val lb):=zdX h0
 have hsa:=zy ha.1
 have hsb:=zy hb.1
 have hsg:=zeQ (a:=val la) h0
 have Hg:=Lib.hid hg
 clear h0 hg
 go_enter Tryz.func89,Tryz.ntmps89
 go_wp2_with fail
 refine (zbb _ lb _ hb (by omega)).mono ?_
 rintro e w' ⟨rfl,rfl⟩
 go_wp2_with fail
 refine (zgy _ _ la lb _ ha hb (by omega) (by omega)).mono ?_
 rintro e w1 ⟨vg,rfl,hgv,be⟩
 go_wp2_with fail
 refine (zfv _ _ la _ _ (ha.to be) hgv.rd (by omega) (by rw [ze];omega) (by rw [vL];exact Hg.out)).mono ?_
 rintro e w2 ⟨vx,vx2,rfl,hx,_,aZ⟩
 rw [vL] at hx
 have dl:=bS be aZ
 go_wp2_with fail
 refine (zfv _ _ lb _ _ (hb.to dl) (hgv.rd.to aZ) (by omega) (by rw [ze];omega) (by rw [vL];exact Hg.out)).mono ?_
 rintro e w3 ⟨vy,vy2,rfl,hy,_,cl⟩
 rw [vL] at hy
 go_wp2_with fail
 go_ret3
 have h1:=be.size
 have h2:=dl.size
 exact ⟨vx,vy,rfl,(hx.mono h1).to cl,hy.mono h2,bS dl cl⟩

theorem zjh {a b:Nat} {o:Bool} (h:(a == b)=o):(zbv a b == 0)=o:=by
 rw [<- h,Bool.eq_iff_iff]
 simp only [beq_iff_eq]
 exact zeZ

theorem zex (va vb:Value) (la lb:List Nat) (o:Bool) (w:World) (ha:Rd w va la) (hb:Rd w vb lb) (hla:la.length<=90000) (hlb:lb.length<=90000) (ho:Hid ((Nat.gcd (val la) (val lb) == 1)=o)) :
  Calls Tryz.prog 108 #[va,vb] w fun e w' => e=.returned (.bool o)/\Below w.heap.size w w':=by
 have Ho:=Lib.hid (zjh ho.out)
 go_enter Tryz.func108,Tryz.ntmps108
 go_wp2_with fail
 refine (zgy _ _ la lb _ ha hb hla hlb).mono ?_
 rintro e w1 ⟨vg,rfl,hg,be⟩
 go_wp2_with fail
 refine (zda _ _ (by omega) (by omega)).mono ?_
 rintro e w2 ⟨vo,rfl,hvo,aZ⟩
 replace hvo:Own w1.heap.size w2 vo (za 1):=hvo
 go_wp2_with fail
 refine (zir _ _ _ _ _ (hg.rd.to aZ) hvo.rd).mono ?_
 rintro e w3 ⟨rfl,cl⟩
 rw [vL,vL]
 go_wp2_with fail
 go_ret
 exact ⟨zu (congrArg Value.bool Ho.out),bS (bS be aZ) cl⟩

theorem zha (va vb:Value) (la lb:List Nat) (w:World) (ha:Rd w va la) (hb:Rd w vb lb) (hlb:lb.length<=90000) (h0:val lb=0) :
  Calls Tryz.prog 75 #[va,vb] w fun e w' => e=.returned (.tuple #[.slice none 0 0,.slice none 0 0,.bool false])/\Below w.heap.size w w':=by
 have Hl:=Lib.hid (show za (val lb)=[] by rw [h0];rfl)
 clear h0
 go_enter Tryz.func75,Tryz.ntmps75
 go_wp2_with fail
 refine (zX _ lb _ hb (by omega)).mono ?_
 rintro e w1 ⟨v1,rfl,hv1,be⟩
 rw [Hl.out] at hv1
 obtain ⟨a1,cap1,rfl⟩:=hv1.rd.shape
 go_wp2_with fail
 go_ret3
 exact ⟨rfl,be⟩

theorem zfJ (va vb:Value) (la lb:List Nat) (w:World) (ha:Rd w va la) (hb:Rd w vb lb) (hla:la.length<=3000) (hlb:lb.length<=3000) (h0:0<val lb) :
  Calls Tryz.prog 75 #[va,vb] w (zeq w (za (val la / Nat.gcd (val la) (val lb))) (za (val lb / Nat.gcd (val la) (val lb)))):=by
 have hg:0<Nat.gcd (val la) (val lb):=zdX h0
 have hsa:=zy ha.1
 have hsb:=zy hb.1
 have hsg:=zeQ (a:=val la) h0
 have hl0:0<(za (val lb)).length:=by rw [ze];have:=mt zA.1 (Nat.ne_of_gt h0);omega
 have Hg:=Lib.hid hg
 clear h0 hg
 go_enter Tryz.func75,Tryz.ntmps75
 go_wp2_with fail
 refine (zX _ lb _ hb (by omega)).mono ?_
 rintro e w1 ⟨v1,rfl,hv1,be⟩
 obtain ⟨a1,o1,cap1,rfl,_⟩:=hv1.rd.cells' hl0
 go_wp2_with fail
 refine (ref5_gcd _ _ la _ _ (ha.to be) hv1.rd (by omega) (by rw [ze];omega)).mono ?_
 rintro e w2 ⟨vg,rfl,hgv,aZ⟩
 rw [vL] at hgv
 have dl:=bS be aZ
 go_wp2_with fail
 refine (zgY _ _ la _ _ (ha.to dl) hgv.rd (by omega) (by rw [ze];omega) (by rw [vL];exact Hg.out)).mono ?_
 rintro e w3 ⟨vx,vx2,rfl,hx,_,cl⟩
 rw [vL] at hx
 have eb:=bS dl cl
 go_wp2_with fail
 refine (zgY _ _ _ _ _ ((hv1.rd.to aZ).to cl) (hgv.rd.to cl) (by rw [ze];omega) (by rw [ze];omega) (by rw [vL];exact Hg.out)).mono ?_
 rintro e w4 ⟨vy,vy2,rfl,hy,_,dd⟩
 rw [vL,vL] at hy
 go_wp2_with fail
 go_ret3
 have h1:=dl.size
 have h2:=eb.size
 exact ⟨vx,vy,rfl,(hx.mono h1).to dd,hy.mono h2,bS eb dd⟩

end Go.Proofs.YtkjcdnlpjldhaaaGreat

