/-
  The texts Noted, MadeB, PackSame, PackBox, merged.
-/
import Derived.Test.YtkjcdnlpjldhaaaGreatK20
import Derived.Deep.AppendLies
import Derived.Deep.Upon
import Derived.Test.YtkjcdnlpjldhaaaGreatK16
set_option linter.unusedVariables false
set_option linter.unusedSimpArgs false
set_option maxRecDepth 100000
set_option maxHeartbeats 400000000
namespace Go.Proofs.YtkjcdnlpjldhaaaGreat
open Go.RowKit Tw

section

variable {e:TypeId} {base base':Nat} {w w':World} {v:Value} {xs:List Value} {row:Option Nat}

theorem zU.mono (h:zU e base w v xs) (hb:base'<=base):zU e base' w v xs:=by
 refine ⟨h.1,?_⟩
 rcases h.2 with h2|⟨g,cap,cur,hv,hg,r⟩
 ·exact .inl h2
 ·exact .inr ⟨g,cap,cur,hv,Nat.le_trans hb hg,r⟩

theorem zU.grown (h:zU e base w v xs) (hg:w.grownBy w' row) (hne:∀ k,v.ownBlock=some k->row≠some k):zU e base w' v xs:=by
 refine ⟨h.1,?_⟩
 rcases h.2 with h2|⟨g,cap,cur,hv,hg',hh,r⟩
 ·exact .inl h2
 ·subst hv
  refine .inr ⟨g,cap,cur,rfl,hg',?_,r⟩
  rw [hg.block g (Array.getElem?_eq_some_iff.1 hh).1 (fun k => hne g rfl k.symm)]
  exact hh

theorem zU.form (h:zU e base w v xs):∃ a cap,v=.slice a xs.length cap/\(0<xs.length->∃ g,a=some ⟨g,0,none⟩/\base<=g/\g<w.heap.size):=by
 rcases h.2 with ⟨hv,h0⟩|⟨g,cap,cur,hv,hg,hh,r⟩
 ·exact ⟨none,0,by rw [hv,h0],fun h => by omega⟩
 ·exact ⟨_,cap,hv,fun _ => ⟨g,rfl,hg,(Array.getElem?_eq_some_iff.1 hh).1⟩⟩

theorem zU.cell {g n cap:Nat} (h:zU e base w (.slice (some ⟨g,0,none⟩) n cap) xs) {i:Nat} (hi:i<xs.length):w.cell? ⟨g,i,none⟩=some xs[i]:=by
 have:=World.ownsRow.cellAt (w:=w) (base:=base) (e:=e) (size:=1) (xs:=xs) (n:=xs.length) (by
  have hn:n=xs.length:=by
   rcases h.2 with ⟨hv,_⟩|⟨g',cap',cur,hv,_⟩
   ·cases hv
   ·injection hv
  rw [hn] at h;exact h) i (by omega)
 rw [this,List.getElem?_eq_getElem hi]

theorem zU.frozen {g n cap:Nat} (h:zU e base w (.slice (some ⟨g,0,none⟩) n cap) xs) (i:Nat):w.frozen? ⟨g,i,none⟩=false:=by
 have hn:n=xs.length:=by
  rcases h.2 with ⟨hv,_⟩|⟨g',cap',cur,hv,_⟩
  ·cases hv
  ·injection hv
 rw [hn] at h
 exact World.ownsRow.frozenAt h i

theorem zU.store {g n cap:Nat} (h:zU e base w (.slice (some ⟨g,0,none⟩) n cap) xs) (i:Nat) (x:Value):zU e base (w.setCell ⟨g,i,none⟩ x) (.slice (some ⟨g,0,none⟩) n cap) (xs.set i x):=by
 have hn:n=xs.length:=by
  rcases h.2 with ⟨hv,_⟩|⟨g',cap',cur,hv,_⟩
  ·cases hv
  ·injection hv
 subst hn
 have h1:=(World.ownsRow.stored (w:=w) (base:=base) (e:=e) (size:=1) (xs:=xs) h i x).1
 unfold zU
 rw [List.length_set]
 exact h1

theorem zU.setOther {B o:Nat} (h:zU e base w v xs) (hne:v.ownBlock≠some B) (x:Value):zU e base (w.setCell ⟨B,o,none⟩ x) v xs:=Go.ownsRow_setCell_other h (fun e => hne e) x

end

theorem zjp:(Tryz.prog.info? 3).map (fun i => (i.zero,i.size,i.bytes))=some (some (.int .i64 0),1,8):=by kernel_rfl

theorem zdM {e:TypeId} {base:Nat} {w:World} (hb:base<=w.heap.size):zU e base (w.alloc (.cells #[] e)) (.slice (some ⟨w.heap.size,0,none⟩) 0 0) [] :=
 ⟨rfl,.inr ⟨w.heap.size,0,#[],rfl,hb,heap_alloc_new _ _,Nat.le_refl _,Nat.zero_le _,rfl,rfl⟩⟩

theorem zbB (w:World) {ops:Array Oper} {rest:List Oper} {o:Oper} {a:Act} {Q:Exit->Act->World->Prop} (hg:o.guard=none)
  (s x:Operand) (ho:o.op=Op.call { callee:=Callee.builtin Builtin.append,args:=#[s,x],argTypes:=#[67,67] })
  (base:Nat) (v:Value) (xs:List Value) (b m c:Nat) (news:List Value) (hs:a.eval s=v) (hx:a.eval x=.slice (some ⟨b,0,none⟩) m c) (hown:zU 3 base w v xs)
  (hl:news.length=m) (h0:0<m) (hcell:∀ j (h:j<news.length),w.cell? ⟨b,j,none⟩=some news[j]) (h1:∀ u ∈ news,u.oneCell'=true) (hn:xs.length+m<=1000000) (hb:base<=w.heap.size) (H:Nat) (hH:w.heap.size=H)
  (hK:∀ g c w',zU 3 base w' (.slice (some ⟨g,0,none⟩) (xs.length+m) c) (xs++news)->w.grownBy w' v.ownBlock->(v.ownBlock=some g\/g=H)->g<w'.heap.size->wpList Tryz.prog ops Q rest (a.put o.dst (.slice (some ⟨g,0,none⟩) (xs.length+m) c)) w') :
  wpList Tryz.prog ops Q (o :: rest) a w:=by
 obtain ⟨i0,hi,hz0,hz1,hz2⟩:=info_parts zjp
 refine wpList_append_lies w hg s x 67 ho base 3 i0 (.int .i64 0) 1 8 Tryz.underlying67 hi hz0 hz1 hz2 rfl (by decide) v xs.length xs hs hown ⟨b,0,none⟩ m c news
  hx (by omega) (fun j u hj => ?_) h1 h0 (by simp [maxLen];omega) (by omega) hb H hH ?_
 ·by_cases hjl:j<news.length
  ·rw [List.getElem?_eq_getElem hjl] at hj
   have hj:=Option.some.inj hj
   subst hj
   rw [zbH,Nat.zero_add,hcell j hjl]
  ·rw [List.getElem?_eq_none (by omega)] at hj;cases hj
 ·intro g c w' hown' hgrow hat hlt
  refine hK g c w' ?_ hgrow hat hlt
  unfold zU
  rw [List.length_append,hl]
  exact hown'

theorem zeV (w:World) {ops:Array Oper} {rest:List Oper} {o:Oper} {a:Act} {Q:Exit->Act->World->Prop} (hg:o.guard=none)
  (s x:Operand) (ho:o.op=Op.call { callee:=Callee.builtin Builtin.append,args:=#[s,x],argTypes:=#[67,67] })
  (b:Option Addr) (n c:Nat) (hle:n<=c) (hs:a.eval s=.slice b n c) (hx:a.eval x=.slice none 0 0) (hK:wpList Tryz.prog ops Q rest (a.put o.dst (.slice b n c)) w):wpList Tryz.prog ops Q (o :: rest) a w:=by
 obtain ⟨i0,hi,hz0,hz1,hz2⟩:=info_parts zjp
 have src:Go.Src Tryz.prog i0.size 67 (.slice none 0 0) 0 [] w:=⟨.inl ⟨_,Tryz.underlying67⟩,fun w' => by simp [Builtin.lenOf],by simp [Builtin.firstCells],by simp [Builtin.firstCells],by simp,fun u hu => by cases hu⟩
 have hr:=run_append_nothing (P:=Tryz.prog) w 67 67 o.type 3 i0 Tryz.underlying67 hi b n c hle _ src
 refine wpList_plain hg fun _ hk => ?_
 unfold Oper.wp execOp
 simp only [ho,resolve,invoke,builtin,Sem.run_bind,Sem.run_pure,Result.andThen_ok,List.map_toArray,List.map_cons,List.map_nil,hs,hx,hr]
 exact hk _ _ hK

theorem zlA {e:TypeId} {base k c:Nat} {w:World} {a:Option Addr} {xs:List Value} (h:zU e base w (.slice a (([]:List Value).length+k) c) ([]++xs)):zU e base w (.slice a k c) xs:=by
 rw [List.nil_append,show ([]:List Value).length+k=k by simp] at h
 exact h

theorem ziu {w:World} {o1:Obj} {b:Nat} (hb:b<=w.heap.size):b<=(w.alloc o1).heap.size:=by simp;omega

theorem zdd {w w4:World} {o1:Obj} {row:Option Nat} (h:(w.alloc o1).grownBy w4 row):w.heap.size<=w4.heap.size:=by have:=h.size;simp at this;omega

theorem zmk {w w4 w5:World} {o1 o2 o3:Obj} {g g4 n c j:Nat} {u:Value} (h4:(w.alloc o1).grownBy w4 (Value.slice (some ⟨w.heap.size,0,none⟩) 0 0).ownBlock) (h5:(w4.alloc o2).grownBy w5 (Value.slice (some ⟨g4,0,none⟩) n c).ownBlock) (hg:g<w.heap.size)
  (hat:(Value.slice (some ⟨w.heap.size,0,none⟩) 0 0).ownBlock=some g4\/g4=(w.alloc o1).heap.size) (hc:w.cell? ⟨g,j,none⟩=some u):(w5.alloc o3).cell? ⟨g,j,none⟩=some u:=by
 have e4:w.heap.size<=g4:=by
  rcases hat with e|e
  ·have e:w.heap.size=g4:=Option.some.inj e
   omega
  ·simp at e;omega
 have b1:Below w.heap.size w w4:=(bN _ _).grown h4 (by simp) (fun k e => by have e:w.heap.size=k:=Option.some.inj e;omega)
 have b2:Below w.heap.size w w5:=(bS b1 (bN _ _)).grown h5 (by have:=b1.size;simp;omega) (fun k e => by have e:g4=k:=Option.some.inj e;omega)
 have b3:=bS b2 (bN w5 o3)
 exact (b3.cell (p:=⟨g,j,none⟩) hg).trans hc

theorem two_le {w:World} {o1 o2:Obj} {b:Nat} (hb:b<=w.heap.size):b<=((w.alloc o1).alloc o2).heap.size:=by simp;omega

theorem ziN {w w4:World} {o1 o2:Obj} {row:Option Nat} (h:((w.alloc o1).alloc o2).grownBy w4 row) {b:Nat} (hb:b<=w.heap.size):b<=w4.heap.size:=by have:=h.size;simp at this;omega

theorem zfd {l:List Int}:∀ u ∈ l.map (Value.int .i64),u.oneCell'=true:=by
 intro u hu
 obtain ⟨z,_,rfl⟩:=List.mem_map.1 hu
 rfl

theorem zfe {w:World} {t:TypeId} {z:Int}:∀ j (h:j<[Value.int .i64 z].length),(w.alloc (.cells #[.int .i64 z] t)).cell? ⟨w.heap.size,j,none⟩=some [Value.int .i64 z][j]:=by
 intro j hj
 have:j=0:=by simp at hj;exact hj
 subst this
 simp [go_sem]

theorem zgF {w:World} {o:Obj} {t:TypeId} {z:Int}:∀ j (h:j<[Value.int .i64 z].length),((w.alloc o).alloc (.cells #[.int .i64 z] t)).cell? ⟨w.heap.size+1,j,none⟩=some [Value.int .i64 z][j]:=by
 intro j hj
 have h:=zfe (w:=w.alloc o) (t:=t) (z:=z) j hj
 rwa [show (w.alloc o).heap.size=w.heap.size+1 by simp] at h

theorem zdx (v u:Value) (rg sg:List Int) (r n:Int) (base:Nat) (w:World) (hv:zU 3 base w v (rg.map (Value.int .i64))) (hu:zU 3 base w u (sg.map (Value.int .i64))) (hl:sg.length=rg.length) (hn:rg.length<=1000) (hb:base<=w.heap.size)
  (h0:rg.length=0->v=.slice none 0 0/\u=.slice none 0 0) :
  Calls Tryz.prog 45 #[v,u,.int .i64 r,.int .i64 n] w (fun e w' => ∃ v' u',e=.returned (.tuple #[v',u'])/\zU 3 base w' v' ((zaN rg r).map (Value.int .i64))/\zU 3 base w' u' ((zba rg sg r n).map (Value.int .i64))/\Below w.heap.size w w'):=by
 by_cases hnil:rg.length=0
 ·obtain ⟨rfl,rfl⟩:=h0 hnil
  obtain rfl:rg=[]:=List.eq_nil_of_length_eq_zero hnil
  obtain rfl:sg=[]:=List.eq_nil_of_length_eq_zero (by rw [hl];exact hnil)
  have HB:=Lib.hid hb
  clear hv hu hl hn hnil h0 hb
  go_enter Tryz.func45,Tryz.ntmps45
  go_wp2_with fail
  go_loopw [10] (fun i ww => i=.int .i64 0/\ww=w) (fun i _ => 0)
  case atStart => exact ⟨rfl,rfl⟩
  case round =>
   obtain ⟨rfl,rfl⟩:=hrel
   have hE1:=zdM (e:=3) HB.out
   have Hz:=Lib.hid (show base<=wr.heap.size+1 by have:=HB.out;omega)
   go_wp2_with (at_builtin;first
    | (refine zeV _ rfl (.tmp 33) (.tmp 34) rfl _ 0 0 (Nat.le_refl _) rfl rfl ?_)
    | (refine zeV _ rfl (.tmp 39) (.tmp 40) rfl _ 0 0 (Nat.le_refl _) rfl rfl ?_)
    | (refine zbB _ rfl (.tmp 35) (.tmp 37) rfl base (.slice (some ⟨wr.heap.size,0,none⟩) 0 0) [] _ 1 1 [.int .i64 r] rfl rfl (hE1.alloc _) rfl (by decide) zgF (by intro u hu;rw [List.mem_singleton.1 hu];rfl) (by decide) (two_le HB.out) _ rfl ?_;intro g4 c4 w4 hO4 hg4 hat4 hlt4;have dd:=ziN hg4 HB.out;have hE2:=zdM (e:=3) dd)
    | (refine zbB _ rfl (.tmp 41) (.tmp 43) rfl base (.slice (some ⟨w4.heap.size,0,none⟩) 0 0) [] _ 1 1 [.int .i64 n] rfl rfl (hE2.alloc _) rfl (by decide) zgF (by intro u hu;rw [List.mem_singleton.1 hu];rfl) (by decide) (two_le dd) _ rfl ?_;intro g5 c5 w5 hO5 hg5 hat5 hlt5))
   have b1:Below wr.heap.size wr w4:=(bS (bN _ _) (bN _ _)).grown hg4 (by simp;omega) (fun k e => by have e:wr.heap.size=k:=Option.some.inj e;omega)
   have b2:Below w4.heap.size w4 w5:=(bS (bN _ _) (bN _ _)).grown hg5 (by simp;omega) (fun k e => by have e:w4.heap.size=k:=Option.some.inj e;omega)
   have hO4':=((hO4.alloc (.cells #[] 3)).alloc (.cells #[.int .i64 n] 3)).grown hg5 (fun k e => by
    have e:g4=k:=Option.some.inj e
    intro h
    have h:w4.heap.size=k:=Option.some.inj h
    omega)
   refine bodyPost_ret (results_tmp2 rfl _ _ _) rfl ⟨_,_,rfl,?_,?_,bS b1 b2⟩
   ·rw [show zaN [] r=[r] by simp [zaN]];exact hO4'
   ·rw [show zba [] [] r n=[n] by simp [zba]];exact hO5
 ·obtain ⟨a,c,rfl,ha⟩:=hv.form
  obtain ⟨a',c',rfl,ha'⟩:=hu.form
  rw [List.length_map] at ha ha' ⊢
  rw [hl] at ha'
  obtain ⟨g,rfl,hg1,hg2⟩:=ha (Nat.pos_of_ne_zero hnil)
  obtain ⟨g',rfl,hg1',hg2'⟩:=ha' (Nat.pos_of_ne_zero hnil)
  obtain ⟨N,hN⟩:∃ N,rg.length=N:=⟨_,rfl⟩
  have HN:=Lib.hid hN
  have HM:=Lib.hid (hl.trans hN)
  rw [List.length_map,hl,hN]
  rw [List.length_map,hN] at hv
  rw [List.length_map,hl,hN] at hu
  rw [hN] at hn hnil
  have Hv:=Lib.hid hv
  have Hu:=Lib.hid hu
  have hN0:0<N:=by omega
  clear hl hN hv hu ha ha' h0 hnil
  go_enter Tryz.func45,Tryz.ntmps45
  go_wp2_with fail
  go_loopw [10] (fun i ww => ∃ k:Nat,k<=N/\i=.int .i64 k/\ww=w/\Hid (∀ j,j<k->rg[j]?≠some r)) (fun i _ => N - (intOf i).toNat)
  case atStart => exact ⟨0,Nat.zero_le _,rfl,rfl,fun j hj => absurd hj (by omega)⟩
  case round =>
   obtain ⟨k,hk,rfl,rfl,HJ⟩:=hrel
   have hE1:=zdM (e:=3) hb
   have hlm:(rg.map (Value.int .i64)).length=N:=by rw [List.length_map];exact HN.out
   have hlm':(sg.map (Value.int .i64)).length=N:=by rw [List.length_map];exact HM.out
   have Hc1:Hid (∀ j (h:j<(rg.map (Value.int .i64)).length),wr.cell? ⟨g,j,none⟩=some (rg.map (Value.int .i64))[j]):=fun j h => Hv.out.cell h
   have Hc2:Hid (∀ j (h:j<(sg.map (Value.int .i64)).length),wr.cell? ⟨g',j,none⟩=some (sg.map (Value.int .i64))[j]):=fun j h => Hu.out.cell h
   have Hlm:=Lib.hid hlm
   have Hlm':=Lib.hid hlm'
   clear hlm hlm'
   have hnn:0+N<=1000000:=by omega
   by_cases hkn:k<N
   ·have hki:(k:Int)<(N:Int):=by omega
    have hkl:k<rg.length:=by rw [HN.out];exact hkn
    have hc:=Hv.out.cell (i:=k) (by rw [List.length_map];exact hkl)
    rw [List.getElem_map] at hc
    obtain ⟨y,hy⟩:∃ y,rg[k]=y:=⟨_,rfl⟩
    rw [hy] at hc
    have Hy:=Lib.hid hy
    clear hy
    by_cases hr:y=r
    ·have t:(y == r)=true:=by simp;exact hr
     have Hr:=Lib.hid hr
     clear hr
     have Hc3:Hid (∀ j (h:j<(sg.map (Value.int .i64)).length),(wr.alloc (.cells #[] 3)).cell? ⟨g',j,none⟩=some (sg.map (Value.int .i64))[j]):=fun j h => ((bN wr _).cell (p:=⟨g',j,none⟩) hg2').trans (Hc2.out j h)
     go_wp2_with (at_builtin;refine zbB _ rfl (.tmp 24) (.tmp 25) rfl base (.slice (some ⟨wr.heap.size,0,none⟩) 0 0) [] g' N c' (sg.map (Value.int .i64)) rfl rfl hE1 Hlm'.out hN0 Hc3.out zfd hnn (by simp;omega) _ rfl ?_;intro g4 c4 w4 hO4 hg4 hat4 hlt4;have hf4:=hO4.frozen k;have hc4:=hO4.cell (i:=k) (by rw [List.nil_append,Hlm'.out];exact hkn))
     have hO5:=hO4.store k (.int .i64 n)
     have b1:Below wr.heap.size wr w4:=(bN _ _).grown hg4 (by simp) (fun k e => by have e:wr.heap.size=k:=Option.some.inj e;omega)
     have hg5:wr.heap.size<=g4:=by
      rcases hat4 with e|e
      ·have e:wr.heap.size=g4:=Option.some.inj e
       omega
      ·simp at e;omega
     have b2:=b1.setCell (p:=⟨g4,k,none⟩) hg5 (.int .i64 n)
     have hmem:r ∈ rg:=by rw [<- Hr.out,<- Hy.out];exact List.getElem_mem hkl
     have hidx:rg.idxOf r=k:=by
      have hi:=List.idxOf_lt_length_of_mem hmem
      have hgi:rg[rg.idxOf r]=r:=List.getElem_idxOf hi
      rcases Nat.lt_trichotomy (rg.idxOf r) k with h|h|h
      ·exact absurd (by rw [List.getElem?_eq_getElem hi,hgi]) (HJ.out _ h)
      ·exact h
      ·exact absurd (show rg[k]=r from Hy.out.trans Hr.out) (fun e => by
        have:=List.not_of_lt_findIdx (p:=(· == r)) (xs:=rg) (i:=k) h
        simp at this
        exact this e)
     refine bodyPost_ret (results_tmp2 rfl _ _ _) rfl ⟨_,_,rfl,?_,?_,b2⟩
     ·rw [show zaN rg r=rg from if_pos hmem]
      refine zU.setOther (Hv.out.to b1) ?_ _
      intro e
      have e:g=g4:=Option.some.inj e
      omega
     ·rw [show zba rg sg r n=sg.set k n by unfold zba;rw [if_pos hmem,hidx],List.map_set]
      rw [List.nil_append,show ([]:List Value).length+N=N by simp] at hO5
      exact hO5
    ·have t:(y == r)=false:=by simp;exact hr
     have Hr:=Lib.hid hr
     clear hr
     go_wp2_with fail
     go_roundw
     case rel => exact ⟨k+1,by omega,by go_num,trivial,fun j hj e => by
      rcases Nat.lt_or_ge j k with h|h
      ·exact HJ.out j h e
      ·have:j=k:=by omega
       subst this
       rw [List.getElem?_eq_getElem hkl,Hy.out] at e
       exact Hr.out (Option.some.inj e)⟩
     case measure => simp [intOf] <;> omega
   ·obtain rfl:k=N:=by omega
    have hki:¬ ((k:Int)<(k:Int)):=by omega
    have hE2:=fun (W:World) (h:base<=W.heap.size) => zdM (e:=3) h
    have hnn1:k+1<=1000000:=by omega
    have Hc3:Hid (∀ j (h:j<(rg.map (Value.int .i64)).length),(wr.alloc (.cells #[] 3)).cell? ⟨g,j,none⟩=some (rg.map (Value.int .i64))[j]):=fun j h => ((bN wr _).cell (p:=⟨g,j,none⟩) hg2).trans (Hc1.out j h)
    go_wp2_with (at_builtin;first
     | (refine zbB _ rfl (.tmp 33) (.tmp 34) rfl base (.slice (some ⟨wr.heap.size,0,none⟩) 0 0) [] g k c (rg.map (Value.int .i64)) rfl rfl hE1 Hlm.out hN0 Hc3.out zfd hnn (ziu hb) _ rfl ?_;intro g4 c4 w4 hO4' hg4 hat4 hlt4;have hO4:=zlA hO4';have dd:base<=w4.heap.size:=Nat.le_trans hb (zdd hg4))
     | (refine zbB _ rfl (.tmp 35) (.tmp 37) rfl base _ (rg.map (Value.int .i64)) _ 1 1 [.int .i64 r] rfl rfl (hO4.alloc _) rfl (by decide) zfe (by intro u hu;rw [List.mem_singleton.1 hu];rfl) (by rw [Hlm.out];exact hnn1) (ziu dd) _ rfl ?_;intro g5 c5 w5 hO5 hg5 hat5 hlt5;have cU:base<=w5.heap.size:=Nat.le_trans dd (zdd hg5);have hc5:∀ j (h:j<(sg.map (Value.int .i64)).length),(w5.alloc (.cells #[] 3)).cell? ⟨g',j,none⟩=some (sg.map (Value.int .i64))[j]:=fun j h => zmk hg4 hg5 hg2' hat4 (Hc2.out j h);have hE5:=hE2 w5 cU)
     | (refine zbB _ rfl (.tmp 39) (.tmp 40) rfl base (.slice (some ⟨w5.heap.size,0,none⟩) 0 0) [] g' k c' (sg.map (Value.int .i64)) rfl rfl hE5 Hlm'.out hN0 hc5 zfd hnn (ziu cU) _ rfl ?_;intro g6 c6 w6 hO6' hg6 hat6 hlt6;have hO6:=zlA hO6';have dF:base<=w6.heap.size:=Nat.le_trans cU (zdd hg6))
     | (refine zbB _ rfl (.tmp 41) (.tmp 43) rfl base _ (sg.map (Value.int .i64)) _ 1 1 [.int .i64 n] rfl rfl (hO6.alloc _) rfl (by decide) zfe (by intro u hu;rw [List.mem_singleton.1 hu];rfl) (by rw [Hlm'.out];exact hnn1) (ziu dF) _ rfl ?_;intro g7 c7 w7 hO7 hg7 hat7 hlt7))
    have e4:wr.heap.size<=g4:=by
     rcases hat4 with e|e
     ·have e:wr.heap.size=g4:=Option.some.inj e
      omega
     ·simp at e;omega
    have e6:w5.heap.size<=g6:=by
     rcases hat6 with e|e
     ·have e:w5.heap.size=g6:=Option.some.inj e
      omega
     ·simp at e;omega
    have b1:Below wr.heap.size wr w4:=(bN _ _).grown hg4 (by simp) (fun k e => by have e:wr.heap.size=k:=Option.some.inj e;omega)
    have s1:=b1.size
    have b2:Below wr.heap.size wr w5:=(bS b1 (bN _ _)).grown hg5 (by simp;omega) (fun k e => by have e:g4=k:=Option.some.inj e;omega)
    have s2:=b2.size
    have b3:Below wr.heap.size wr w6:=(bS b2 (bN _ _)).grown hg6 (by simp;omega) (fun k e => by have e:w5.heap.size=k:=Option.some.inj e;omega)
    have s3:=b3.size
    have b4:Below wr.heap.size wr w7:=(bS b3 (bN _ _)).grown hg7 (by simp;omega) (fun k e => by have e:g6=k:=Option.some.inj e;omega)
    have hO5a:=(hO5.alloc (.cells #[] 3)).grown hg6 (fun k e => by
     have e:g5=k:=Option.some.inj e
     intro h
     have h:w5.heap.size=k:=Option.some.inj h
     omega)
    have hO5b:=(hO5a.alloc (.cells #[.int .i64 n] 3)).grown hg7 (fun k e => by
     have e:g5=k:=Option.some.inj e
     intro h
     have h:g6=k:=Option.some.inj h
     omega)
    have hnm:r ∉ rg:=fun h => by
     obtain ⟨j,hj,e⟩:=List.mem_iff_getElem.1 h
     exact HJ.out j (by have:=HN.out;omega) (by rw [List.getElem?_eq_getElem hj,e])
    refine bodyPost_ret (results_tmp2 rfl _ _ _) rfl ⟨_,_,rfl,?_,?_,b4⟩
    ·rw [show zaN rg r=rg++[r] from if_neg hnm,List.map_append]
     first|exact hO5b|(rw [List.length_map] at hO5b;exact hO5b)
    ·rw [show zba rg sg r n=sg++[n] from if_neg hnm,List.map_append]
     first|exact hO7|(rw [List.length_map] at hO7;exact hO7)

end Go.Proofs.YtkjcdnlpjldhaaaGreat


namespace Go.Proofs.YtkjcdnlpjldhaaaGreat
open Go.RowKit Tw

def AtTn (w:World) (b o:Nat) (x:Tn):Prop:=w.cell? ⟨b,o,none⟩=some (.int .u8 (x.op:Int))/\w.cell? ⟨b,o+1,none⟩=some (.int .u8 (x.to:Int))/\w.cell? ⟨b,o+2,none⟩=some (.int .u8 (x.a:Int))/\w.cell? ⟨b,o+3,none⟩=some (.int .u8 (x.b:Int))/\x.op<256/\x.to<256/\x.a<256/\x.b<256

theorem AtTn.to {w w':World} {b o:Nat} {x:Tn} (h:AtTn w b o x) (hb:Below w.heap.size w w'):AtTn w' b o x :=
 ⟨(hb.cell (p:=⟨b,o,none⟩) (zm h.1)).trans h.1,(hb.cell (p:=⟨b,o+1,none⟩) (zm h.1)).trans h.2.1,(hb.cell (p:=⟨b,o+2,none⟩) (zm h.1)).trans h.2.2.1,(hb.cell (p:=⟨b,o+3,none⟩) (zm h.1)).trans h.2.2.2.1,h.2.2.2.2⟩

def RdTn (w:World) (v:Value) (l:List Tn):Prop :=
 ∃ a cap,v=.slice a l.length cap/\l.length<=cap/\cap<=maxLen/\∀ i (h:i<l.length),∃ b off,a=some ⟨b,off,none⟩/\AtTn w b (off+i*4) l[i]

theorem RdTn.to {w w':World} {v:Value} {l:List Tn} (h:RdTn w v l) (hb:Below w.heap.size w w'):RdTn w' v l:=by
 obtain ⟨a,cap,hv,h1,h2,h3⟩:=h
 exact ⟨a,cap,hv,h1,h2,fun i hi => let ⟨b,off,e,k⟩:=h3 i hi;⟨b,off,e,k.to hb⟩⟩

theorem RdTn.open {w:World} {v:Value} {l:List Tn} (h:RdTn w v l):∃ a n cap,v=.slice a n cap/\Hid (l.length=n)/\n<=maxLen:=by
 obtain ⟨a,cap,hv,h1,h2,_⟩:=h
 exact ⟨a,_,cap,hv,rfl,by omega⟩

theorem RdTn.nth {w:World} {a:Option Addr} {n cap:Nat} {l:List Tn} (h:RdTn w (.slice a n cap) l) {i:Nat} (hi:i<l.length):∃ b off,a=some ⟨b,off,none⟩/\AtTn w b (off+i*4) l[i]:=by
 obtain ⟨a',cap',hv,_,_,h3⟩:=h
 injection hv with e1 e2 e3
 subst e1
 exact h3 i hi

def B5 (w:World) (B:Nat) (v0 v1 v2 v3 v4:Value):Prop:=B<w.heap.size/\w.cell? ⟨B,0,none⟩=some v0/\w.cell? ⟨B,1,none⟩=some v1/\w.cell? ⟨B,2,none⟩=some v2/\w.cell? ⟨B,3,none⟩=some v3/\w.cell? ⟨B,4,none⟩=some v4 /\
 w.frozen? ⟨B,0,none⟩=false/\w.frozen? ⟨B,1,none⟩=false/\w.frozen? ⟨B,2,none⟩=false/\w.frozen? ⟨B,3,none⟩=false/\w.frozen? ⟨B,4,none⟩=false

section

variable {w w' wr wx:World} {B B' o:Nat} {v0 v1 v2 v3 v4 x:Value} {row:Option Nat}

theorem B5.to (h:B5 w B v0 v1 v2 v3 v4) (hb:Below w.heap.size w w'):B5 w' B v0 v1 v2 v3 v4:=by
 obtain ⟨z,a0,a1,a2,a3,a4,f0,f1,f2,f3,f4⟩:=h
 exact ⟨Nat.lt_of_lt_of_le z hb.size,(hb.cell (p:=⟨B,0,none⟩) z).trans a0,(hb.cell (p:=⟨B,1,none⟩) z).trans a1,(hb.cell (p:=⟨B,2,none⟩) z).trans a2,(hb.cell (p:=⟨B,3,none⟩) z).trans a3,(hb.cell (p:=⟨B,4,none⟩) z).trans a4,
  (hb.frozen (p:=⟨B,0,none⟩) z).trans f0,(hb.frozen (p:=⟨B,1,none⟩) z).trans f1,(hb.frozen (p:=⟨B,2,none⟩) z).trans f2,(hb.frozen (p:=⟨B,3,none⟩) z).trans f3,(hb.frozen (p:=⟨B,4,none⟩) z).trans f4⟩

theorem zo (hg:w.grownBy w' row) (hl:B<w.heap.size) (hne:row≠some B):w'.frozen? ⟨B,o,none⟩=w.frozen? ⟨B,o,none⟩:=by
 have:=hg.block B hl (fun k => hne k.symm)
 simp only [World.frozen?,this]

theorem B5.grown (h:B5 w B v0 v1 v2 v3 v4) (hg:w.grownBy w' row) (hne:row≠some B):B5 w' B v0 v1 v2 v3 v4:=by
 obtain ⟨z,a0,a1,a2,a3,a4,f0,f1,f2,f3,f4⟩:=h
 have hn:∀ o,some (⟨B,o,none⟩:Addr).block≠row:=fun o e => hne e.symm
 exact ⟨Nat.lt_of_lt_of_le z hg.size,hg.cell a0 (hn _),hg.cell a1 (hn _),hg.cell a2 (hn _),hg.cell a3 (hn _),hg.cell a4 (hn _),
  (zo hg z hne).trans f0,(zo hg z hne).trans f1,(zo hg z hne).trans f2,(zo hg z hne).trans f3,(zo hg z hne).trans f4⟩

theorem B5.other (h:B5 w B v0 v1 v2 v3 v4) (hne:B≠B'):B5 (w.setCell ⟨B',o,none⟩ x) B v0 v1 v2 v3 v4:=by
 obtain ⟨z,a0,a1,a2,a3,a4,f0,f1,f2,f3,f4⟩:=h
 refine ⟨by simp [go_sem];exact z,cP a0 (.inl hne) _,cP a1 (.inl hne) _,cP a2 (.inl hne) _,cP a3 (.inl hne) _,cP a4 (.inl hne) _,?_,?_,?_,?_,?_⟩ <;> simp [go_sem,f0,f1,f2,f3,f4]

theorem B5.set4 (h:B5 w B v0 v1 v2 v3 v4) (x:Value):B5 (w.setCell ⟨B,4,none⟩ x) B v0 v1 v2 v3 x:=by
 obtain ⟨z,a0,a1,a2,a3,a4,f0,f1,f2,f3,f4⟩:=h
 refine ⟨by simp [go_sem];exact z,cP a0 (.inr (by decide)) _,cP a1 (.inr (by decide)) _,cP a2 (.inr (by decide)) _,cP a3 (.inr (by decide)) _,zh a4 _,?_,?_,?_,?_,?_⟩ <;> simp [go_sem,f0,f1,f2,f3,f4]

theorem B5.own5 {base:Nat} {v:Value} {l:List Ins} {z0 z1 z2 z3:Int} {a:Option Addr} {n c:Nat} (h:B5 w B (.int .i64 z0) (.int .i64 z1) (.int .i64 z2) (.int .i64 z3) (.slice a n c)) (k:zau base w v l) (hne:v.ownBlock≠some B) (u0 u1 u2 u3 u4:Value) :
  zau base (((((w.setCell ⟨B,0,none⟩ u0).setCell ⟨B,1,none⟩ u1).setCell ⟨B,2,none⟩ u2).setCell ⟨B,3,none⟩ u3).setCell ⟨B,4,none⟩ u4) v l:=by
 obtain ⟨z,a0,a1,a2,a3,a4,_⟩:=h
 have k0:=k.setP hne a0 (fun z e => by cases e) u0
 have k1:=k0.setP hne (cP a1 (.inr (by decide)) _) (fun z e => by cases e) u1
 have k2:=k1.setP hne (cP (cP a2 (.inr (by decide)) _) (.inr (by decide)) _) (fun z e => by cases e) u2
 have k3:=k2.setP hne (cP (cP (cP a3 (.inr (by decide)) _) (.inr (by decide)) _) (.inr (by decide)) _) (fun z e => by cases e) u3
 exact k3.setP hne (cP (cP (cP (cP a4 (.inr (by decide)) _) (.inr (by decide)) _) (.inr (by decide)) _) (.inr (by decide)) _) (fun z e => by cases e) u4

def XB (wr wx:World) (t:Tn) (op to a b:Int):Prop :=
 Below wr.heap.size wr wx/\wr.heap.size+1<wx.heap.size /\
 wx.cell? ⟨wr.heap.size,0,none⟩=some (.int .u8 (t.op:Int))/\wx.cell? ⟨wr.heap.size,1,none⟩=some (.int .u8 (t.to:Int))/\wx.cell? ⟨wr.heap.size,2,none⟩=some (.int .u8 (t.a:Int))/\wx.cell? ⟨wr.heap.size,3,none⟩=some (.int .u8 (t.b:Int)) /\
 wx.cell? ⟨wr.heap.size+1,0,none⟩=some (.int .i64 op)/\wx.cell? ⟨wr.heap.size+1,1,none⟩=some (.int .i64 to)/\wx.cell? ⟨wr.heap.size+1,2,none⟩=some (.int .i64 a)/\wx.cell? ⟨wr.heap.size+1,3,none⟩=some (.int .i64 b) /\
 wx.cell? ⟨wr.heap.size+1,4,none⟩=some (.bool false)/\wx.cell? ⟨wr.heap.size+1,5,none⟩=some (.slice none 0 0)/\wx.cell? ⟨wr.heap.size+1,6,none⟩=some (.slice none 0 0) /\
 wx.frozen? ⟨wr.heap.size+1,0,none⟩=false/\wx.frozen? ⟨wr.heap.size+1,1,none⟩=false/\wx.frozen? ⟨wr.heap.size+1,2,none⟩=false/\wx.frozen? ⟨wr.heap.size+1,3,none⟩=false/\wx.frozen? ⟨wr.heap.size+1,4,none⟩=false/\wx.frozen? ⟨wr.heap.size+1,5,none⟩=false/\wx.frozen? ⟨wr.heap.size+1,6,none⟩=false

variable {t:Tn} {op to a b:Int}

theorem XB.put (h:XB wr wx t op to a b) {o:Nat} (ho:o<4) (z:Int):XB wr (wx.setCell ⟨wr.heap.size+1,o,none⟩ (.int .i64 z)) t (if o=0 then z else op) (if o=1 then z else to) (if o=2 then z else a) (if o=3 then z else b):=by
 obtain ⟨gb,hs,t0,t1,t2,t3,x0,x1,x2,x3,x4,x5,x6,y0,y1,y2,y3,y4,y5,y6⟩:=h
 have hne:wr.heap.size≠wr.heap.size+1:=by omega
 refine ⟨gb.setCell (by show _<=wr.heap.size+1;omega) _,by simp [go_sem];exact hs,cP t0 (.inl hne) _,cP t1 (.inl hne) _,cP t2 (.inl hne) _,cP t3 (.inl hne) _,?_,?_,?_,?_,cP x4 (.inr (by omega)) _,cP x5 (.inr (by omega)) _,cP x6 (.inr (by omega)) _,?_,?_,?_,?_,?_,?_,?_⟩
 ·split
  ·rename_i e;subst e;exact zh x0 _
  ·rename_i e;exact cP x0 (.inr (fun k => e k.symm)) _
 ·split
  ·rename_i e;subst e;exact zh x1 _
  ·rename_i e;exact cP x1 (.inr (fun k => e k.symm)) _
 ·split
  ·rename_i e;subst e;exact zh x2 _
  ·rename_i e;exact cP x2 (.inr (fun k => e k.symm)) _
 ·split
  ·rename_i e;subst e;exact zh x3 _
  ·rename_i e;exact cP x3 (.inr (fun k => e k.symm)) _
 all_goals simp [go_sem,y0,y1,y2,y3,y4,y5,y6]

theorem XB.put0 (h:XB wr wx t op to a b) (z:Int):XB wr (wx.setCell ⟨wr.heap.size+1,0,none⟩ (.int .i64 z)) t z to a b:=h.put (o:=0) (by decide) z

theorem XB.put1 (h:XB wr wx t op to a b) (z:Int):XB wr (wx.setCell ⟨wr.heap.size+1,1,none⟩ (.int .i64 z)) t op z a b:=h.put (o:=1) (by decide) z

theorem XB.put2 (h:XB wr wx t op to a b) (z:Int):XB wr (wx.setCell ⟨wr.heap.size+1,2,none⟩ (.int .i64 z)) t op to z b:=h.put (o:=2) (by decide) z

theorem XB.put3 (h:XB wr wx t op to a b) (z:Int):XB wr (wx.setCell ⟨wr.heap.size+1,3,none⟩ (.int .i64 z)) t op to a z:=h.put (o:=3) (by decide) z

theorem XB.put7 (h:XB wr wx t op to a b):XB wr (((((((wx.setCell ⟨wr.heap.size+1,0,none⟩ (.int .i64 1)).setCell ⟨wr.heap.size+1,1,none⟩ (.int .i64 to)).setCell ⟨wr.heap.size+1,2,none⟩ (.int .i64 0)).setCell ⟨wr.heap.size+1,3,none⟩ (.int .i64 0)).setCell ⟨wr.heap.size+1,4,none⟩ (.bool false)).setCell ⟨wr.heap.size+1,5,none⟩ (.slice none 0 0)).setCell ⟨wr.heap.size+1,6,none⟩ (.slice none 0 0)) t 1 to 0 0:=by
 have h3:=((((h.put0 1).put1 to).put2 0).put3 0)
 obtain ⟨gb,hs,t0,t1,t2,t3,x0,x1,x2,x3,x4,x5,x6,y0,y1,y2,y3,y4,y5,y6⟩:=h3
 have hne:wr.heap.size≠wr.heap.size+1:=by omega
 have hB:∀ o,wr.heap.size<=(⟨wr.heap.size+1,o,none⟩:Addr).block:=fun o => by show _<=wr.heap.size+1;omega
 refine ⟨((gb.setCell (hB 4) _).setCell (hB 5) _).setCell (hB 6) _,by simp [go_sem] at hs ⊢;exact hs,?_,?_,?_,?_,?_,?_,?_,?_,cP (cP (zh x4 _) (.inr (by decide)) _) (.inr (by decide)) _,cP (zh (cP x5 (.inr (by decide)) _) _) (.inr (by decide)) _,zh (cP (cP x6 (.inr (by decide)) _) (.inr (by decide)) _) _,?_,?_,?_,?_,?_,?_,?_⟩
 ·exact cP (cP (cP t0 (.inl hne) _) (.inl hne) _) (.inl hne) _
 ·exact cP (cP (cP t1 (.inl hne) _) (.inl hne) _) (.inl hne) _
 ·exact cP (cP (cP t2 (.inl hne) _) (.inl hne) _) (.inl hne) _
 ·exact cP (cP (cP t3 (.inl hne) _) (.inl hne) _) (.inl hne) _
 ·exact cP (cP (cP x0 (.inr (by decide)) _) (.inr (by decide)) _) (.inr (by decide)) _
 ·exact cP (cP (cP x1 (.inr (by decide)) _) (.inr (by decide)) _) (.inr (by decide)) _
 ·exact cP (cP (cP x2 (.inr (by decide)) _) (.inr (by decide)) _) (.inr (by decide)) _
 ·exact cP (cP (cP x3 (.inr (by decide)) _) (.inr (by decide)) _) (.inr (by decide)) _
 all_goals simp [go_sem] at y0 y1 y2 y3 y4 y5 y6 ⊢
 all_goals assumption

theorem XB.drew (h:XB wr wx t op to a b):XB wr wx.drew t op to a b:=by
 obtain ⟨gb,hs,h⟩:=h
 exact ⟨gb.drew,hs,h⟩

theorem zbC {base base':Nat} {v u:Value} {xs:List Value} {l:List Ins} (h:zU 3 base w v xs) (k:zau base' w u l):∀ g,v.ownBlock=some g->u.ownBlock≠some g:=by
 intro g hg hu
 obtain ⟨ys,k1,_⟩:=k
 rcases h.2 with ⟨hv,_⟩|⟨g1,cap1,cur1,hv1,_,hh1,_⟩
 ·rw [hv] at hg;cases hg
 ·rcases k1.2 with ⟨dH,_⟩|⟨g2,cap2,cur2,hv2,_,hh2,_⟩
  ·rw [dH] at hu;cases hu
  ·subst hv1 hv2
   have e1:g1=g:=Option.some.inj hg
   have e2:g2=g:=Option.some.inj hu
   subst e1
   subst e2
   rw [hh1] at hh2
   injection hh2 with hh2
   injection hh2 with _ e
   exact absurd e (by decide)

theorem zeh:(Tryz.prog.info? 49).map (fun i => (i.zero,i.size,i.bytes))=some (some (.agg #[.int .i64 0,.int .i64 0,.int .i64 0,.int .i64 0,.bool false,.slice none 0 0,.slice none 0 0]),7,88):=by kernel_rfl

theorem zeW (w:World) {ops:Array Oper} {rest:List Oper} {o:Oper} {a:Act} {Q:Exit->Act->World->Prop} (hg:o.guard=none)
  (s x:Operand) (ho:o.op=Op.call { callee:=Callee.builtin Builtin.append,args:=#[s,x],argTypes:=#[22,22] })
  (base:Nat) (v:Value) (l:List Ins) (B:Nat) (y:Ins) (a1:Option Addr) (n1 c1:Nat) (a2:Option Addr) (n2 c2:Nat) (hs:a.eval s=v) (hx:a.eval x=.slice (some ⟨B,0,none⟩) 1 1) (hown:zau base w v l)
  (hcell:∀ j u,(zal y (.slice a1 n1 c1) (.slice a2 n2 c2))[j]?=some u->w.cell? ((⟨B,0,none⟩:Addr).add j)=some u)
  (hn:Rd w (.slice a1 n1 c1) y.q.n) (hd:Rd w (.slice a2 n2 c2) y.q.d) (f1:Far (.slice a1 n1 c1) v.ownBlock) (f2:Far (.slice a2 n2 c2) v.ownBlock) (hi:zbV y) (hl:l.length<=100000) (hb:base<=w.heap.size) (H:Nat) (hH:w.heap.size=H)
  (hK:∀ g c w',zau base w' (.slice (some ⟨g,0,none⟩) (l.length+1) c) (l++[y])->w.grownBy w' v.ownBlock->(v.ownBlock=some g\/g=H)->g<w'.heap.size->wpList Tryz.prog ops Q rest (a.put o.dst (.slice (some ⟨g,0,none⟩) (l.length+1) c)) w') :
  wpList Tryz.prog ops Q (o :: rest) a w:=by
 obtain ⟨i0,hi0,hz0,hz1,hz2⟩:=info_parts zeh
 obtain ⟨xs,hxs⟩:=hown.len
 refine wpList_append_lies w hg s x 22 ho base 49 i0 _ 7 88 Tryz.underlying22 hi0 hz0 hz1 hz2 rfl (by decide) v l.length xs hs hxs ⟨B,0,none⟩ 1 1 (zal y (.slice a1 n1 c1) (.slice a2 n2 c2))
  hx rfl hcell zfk (by decide) (by simp [maxLen];omega) (by omega) hb H hH ?_
 intro g c w' hown' hgrow hat hlt
 exact hK g c w' (hown.push hxs hown' hgrow (by rw [hH];exact hat) hn hd f1 f2 hi) hgrow hat hlt

theorem zch {row:Option Nat}:Far (.slice none 0 0) row:=fun b o n c e => by injection e with e;cases e

theorem zel (w:World):Rd w (.slice none 0 0) []:=⟨fun x h => (by cases h),.inl ⟨rfl,none,0,rfl,Nat.zero_le _,fun _ => rfl⟩⟩

end

theorem zhG {I G RC k:Nat} {rg sg:List Int} {dn A:List Ins} {l:List Tn} (hk:k<l.length) (h:A=dn++zaI I G RC rg sg (l.drop k)) :
  A=(dn++[zG I G RC rg sg l[k]])++(if (zG I G RC rg sg l[k]).op=10 then zaI I G RC rg sg (l.drop (k+1)) else zaI I G RC (zaN rg (zG I G RC rg sg l[k]).to) (zba rg sg (zG I G RC rg sg l[k]).to (zhh rg sg l[k])) (l.drop (k+1))):=by
 rw [h,List.append_assoc,List.drop_eq_getElem_cons hk]
 rfl

def opF (rg sg:List Int) (t:Tn):Int:=if 12<nOf rg sg t then 1 else zaa rg t

def aF (rg sg:List Int) (t:Tn):Int:=if 12<nOf rg sg t then 0 else if 1<zaa rg t then rg.getD (t.a % rg.length) 0 else 0

def b1F (rg sg:List Int) (t:Tn):Int:=if zcb (zaa rg t) then rg.getD (t.b % rg.length) 0 else 0

def b2F (rg sg:List Int) (t:Tn):Int:=if zaa rg t=7 then ((t.b % 9:Nat):Int) - 4 else b1F rg sg t

def bF (rg sg:List Int) (t:Tn):Int:=if 12<nOf rg sg t then 0 else b2F rg sg t

theorem insOf_eq {I G RC:Nat} {rg sg:List Int} {t:Tn}:zG I G RC rg sg t=⟨opF rg sg t,if opF rg sg t=10 then ((t.to % RC:Nat):Int) else ((t.to % G:Nat):Int),if opF rg sg t=0 then ((t.a % I:Nat):Int) else aF rg sg t,bF rg sg t,if opF rg sg t=1 then qOf t else zS⟩:=by
 unfold zG opF aF bF b2F b1F
 by_cases h:12<nOf rg sg t
 ·simp only [if_pos h]
  rfl
 ·simp only [if_neg h]

theorem XB.to {w w' wr:World} {t:Tn} {op to a b:Int} (h:XB wr w t op to a b) (hb:Below w.heap.size w w'):XB wr w' t op to a b:=by
 obtain ⟨gb,hs,t0,t1,t2,t3,x0,x1,x2,x3,x4,x5,x6,y0,y1,y2,y3,y4,y5,y6⟩:=h
 have z:wr.heap.size<w.heap.size:=by omega
 exact ⟨bS gb hb,Nat.lt_of_lt_of_le hs hb.size,(hb.cell (p:=⟨wr.heap.size,0,none⟩) z).trans t0,(hb.cell (p:=⟨wr.heap.size,1,none⟩) z).trans t1,(hb.cell (p:=⟨wr.heap.size,2,none⟩) z).trans t2,(hb.cell (p:=⟨wr.heap.size,3,none⟩) z).trans t3,
  (hb.cell (p:=⟨wr.heap.size+1,0,none⟩) hs).trans x0,(hb.cell (p:=⟨wr.heap.size+1,1,none⟩) hs).trans x1,(hb.cell (p:=⟨wr.heap.size+1,2,none⟩) hs).trans x2,(hb.cell (p:=⟨wr.heap.size+1,3,none⟩) hs).trans x3,(hb.cell (p:=⟨wr.heap.size+1,4,none⟩) hs).trans x4,(hb.cell (p:=⟨wr.heap.size+1,5,none⟩) hs).trans x5,(hb.cell (p:=⟨wr.heap.size+1,6,none⟩) hs).trans x6,
  (hb.frozen (p:=⟨wr.heap.size+1,0,none⟩) hs).trans y0,(hb.frozen (p:=⟨wr.heap.size+1,1,none⟩) hs).trans y1,(hb.frozen (p:=⟨wr.heap.size+1,2,none⟩) hs).trans y2,(hb.frozen (p:=⟨wr.heap.size+1,3,none⟩) hs).trans y3,(hb.frozen (p:=⟨wr.heap.size+1,4,none⟩) hs).trans y4,(hb.frozen (p:=⟨wr.heap.size+1,5,none⟩) hs).trans y5,(hb.frozen (p:=⟨wr.heap.size+1,6,none⟩) hs).trans y6⟩

theorem zej {I G RC k:Nat} {rg sg:List Int} {dn A:List Ins} {l:List Tn} {t:Tn} {y:Ins} {n4:Int} (hk:k<l.length) (h:A=dn++zaI I G RC rg sg (l.drop k)) (ht:l[k]=t) (hy:zG I G RC rg sg t=y) (hw:zhh rg sg t=n4) (h10:y.op≠10) :
  A=(dn++[y])++zaI I G RC (zaN rg y.to) (zba rg sg y.to n4) (l.drop (k+1)):=by
 subst ht
 subst hy
 subst hw
 have h1:=zhG hk h
 rw [if_neg h10] at h1
 exact h1

theorem zkE {I G RC k:Nat} {rg sg:List Int} {dn A:List Ins} {l:List Tn} {t:Tn} {y:Ins} (hk:k<l.length) (h:A=dn++zaI I G RC rg sg (l.drop k)) (ht:l[k]=t) (hy:zG I G RC rg sg t=y) (h10:y.op=10) :
  A=(dn++[y])++zaI I G RC rg sg (l.drop (k+1)):=by
 subst ht
 subst hy
 have h1:=zhG hk h
 rw [if_pos h10] at h1
 exact h1

def MI (G:Nat) (rg sg:List Int):Prop:=∃ L wt,zfO G rg sg L wt

theorem MI.nil (G:Nat):MI G [] []:=⟨[],fun _ => 0,zfO.nil _ _⟩

theorem MI.note {I G RC:Nat} {rg sg:List Int} {t:Tn} (hG:0<G) (h:MI G rg sg) (h10:(zG I G RC rg sg t).op≠10):MI G (zaN rg (zG I G RC rg sg t).to) (zba rg sg (zG I G RC rg sg t).to (zhh rg sg t)):=by
 obtain ⟨L,wt,h⟩:=h
 have hw:=zfF (I:=I) (RC:=RC) (t:=t) h h10
 exact ⟨_,_,h.note (r:=(zG I G RC rg sg t).to) (n:=zhh rg sg t) (z:=wOf wt (zG I G RC rg sg t)) (zjq hG h10) ⟨hw.1,hw.2.1⟩ hw.2.2⟩

theorem MI.wts {G:Nat} {rg sg:List Int} (h:MI G rg sg) {i:Nat} (hi:i<rg.length):1<=sg.getD i 0/\sg.getD i 0<=12:=by
 obtain ⟨L,wt,h⟩:=h
 have:=h.wts i hi
 omega

theorem zdH {I G RC:Nat} {rg sg:List Int} {t:Tn} (bI:0<I/\I<=3) (bG:0<G/\G<=6) (bRC:0<RC/\RC<=9) (h:MI G rg sg):zbV (zG I G RC rg sg t):=by
 obtain ⟨L,wt,h⟩:=h
 obtain ⟨o1,o2,o3⟩:=zbN rg t
 have key:∀ q,1<zaa rg t->0<=rg.getD (q % rg.length) 0/\rg.getD (q % rg.length) 0<6:=fun q hq => by
  have:=h.rng _ (zez (Nat.mod_lt q (o3 hq)))
  omega
 have m1:t.to % G<G:=Nat.mod_lt _ bG.1
 have m2:t.to % RC<RC:=Nat.mod_lt _ bRC.1
 have m3:t.a % I<I:=Nat.mod_lt _ bI.1
 obtain ⟨b9,eW⟩:∃ z,t.b % 9=z:=⟨_,rfl⟩
 have m4:b9<9:=by rw [<- eW];exact Nat.mod_lt _ (by decide)
 have hz:∀ z:Int,-100<=z->z<100->I64 z:=fun z h1 h2 => ⟨by omega,by omega⟩
 have hn:∀ n:Nat,n<100->I64 (n:Int):=fun n h => hz _ (by omega) (by omega)
 have h9:∀ b:Nat,b<9->I64 ((b:Int) - 4):=fun b h => ⟨by omega,by omega⟩
 have z:I64 0:=hn 0 (by decide)
 have hto:I64 ((t.to % G:Nat):Int):=hn _ (by omega)
 unfold zG
 split
 ·exact ⟨hn 1 (by decide),hto,z,z⟩
 ·refine ⟨hz _ (by show _<=zaa rg t;omega) (by show zaa rg t<_;omega),?_,?_,?_⟩
  ·show I64 (if _ then _ else _)
   split
   ·exact hn _ (by omega)
   ·exact hto
  ·show I64 (if _ then _ else if _ then _ else _)
   split
   ·exact hn _ (by omega)
   ·split
    ·rename_i k
     have:=key t.a k
     exact hz _ (by omega) (by omega)
    ·exact z
  ·show I64 (if _ then _ else if _ then _ else _)
   split
   ·rw [eW];exact h9 _ m4
   ·split
    ·rename_i k
     have:=key t.b k.1
     exact hz _ (by omega) (by omega)
    ·exact z

theorem zau.mono {w:World} {base base':Nat} {v:Value} {l:List Ins} (h:zau base w v l) (hb:base'<=base):zau base' w v l:=by
 obtain ⟨xs,h1,h2⟩:=h
 refine ⟨xs,⟨h1.1,?_⟩,h2⟩
 rcases h1.2 with k|⟨g,cap,cur,hv,hg,r⟩
 ·exact .inl k
 ·exact .inr ⟨g,cap,cur,hv,Nat.le_trans hb hg,r⟩

theorem zfh {rg:List Int} {r:Int}:(zaN rg r).length<=rg.length+1/\0<(zaN rg r).length:=by
 unfold zaN
 split
 ·rename_i h
  exact ⟨Nat.le_succ _,List.length_pos_of_mem h⟩
 ·simp

end Go.Proofs.YtkjcdnlpjldhaaaGreat


namespace Go.Proofs.YtkjcdnlpjldhaaaGreat
open Go.RowKit Tw
attribute [local go_sem ↓] Go.wp_at_zero Go.wp_at_succ

theorem zde (c:Cd) (v u:Value) (w:World) (hc:IsC w c v) (hd:IsC w c u) :
  Calls Tryz.prog 31 #[aggC c v,aggC c u] w (fun e w' => e=.returned (.bool true)/\Below w.heap.size w w'):=by
 obtain ⟨a0,n0,c0,rfl,H0,hm0⟩:=hc.1.open
 obtain ⟨a1,n1,c1,rfl,H1,hm1⟩:=hd.1.open
 obtain rfl:n1=n0:=by rw [<- H0.out,<- H1.out]
 have hm9:=hm0
 unfold maxLen at hm9
 obtain ⟨z0,hz0⟩:∃ z,c.ins=z:=⟨_,rfl⟩
 obtain ⟨z1,hz1⟩:∃ z,c.rows=z:=⟨_,rfl⟩
 obtain ⟨z2,hz2⟩:∃ z,c.cols=z:=⟨_,rfl⟩
 obtain ⟨z3,hz3⟩:∃ z,c.regs=z:=⟨_,rfl⟩
 show Calls Tryz.prog 31 #[.agg #[.int .i64 c.ins,.int .i64 c.rows,.int .i64 c.cols,.int .i64 c.regs,.slice a0 n1 c0],.agg #[.int .i64 c.ins,.int .i64 c.rows,.int .i64 c.cols,.int .i64 c.regs,.slice a1 n1 c1]] w _
 rw [hz0,hz1,hz2,hz3]
 have HcA:=Lib.hid hc
 have HcB:=Lib.hid hd
 clear hc hd hz0 hz1 hz2 hz3
 go_enter Tryz.func31,Tryz.ntmps31
 go_upto_region 1 with fail
 obtain ⟨W0,an⟩:∃ W0,(w.alloc (.cells #[.int .i64 z0,.int .i64 z1,.int .i64 z2,.int .i64 z3,.slice a0 n1 c0] 24)).alloc (.cells #[.int .i64 z0,.int .i64 z1,.int .i64 z2,.int .i64 z3,.slice a1 n1 c1] 24)=W0:=⟨_,rfl⟩
 have zb:Below w.heap.size w W0:=by rw [<- an];exact bS (bN _ _) (bN _ _)
 have hC:B5 W0 w.heap.size (.int .i64 z0) (.int .i64 z1) (.int .i64 z2) (.int .i64 z3) (.slice a0 n1 c0):=by
  rw [<- an]
  unfold B5
  and_intros <;> first|(simp [go_sem];done)|(simp [go_sem];omega)
 have hD:B5 W0 (w.heap.size+1) (.int .i64 z0) (.int .i64 z1) (.int .i64 z2) (.int .i64 z3) (.slice a1 n1 c1):=by
  rw [<- an]
  unfold B5
  and_intros <;> first|(simp [go_sem];done)|(simp [go_sem];omega)
 rw [an]
 clear an
 obtain ⟨cz,c0_,c1_,c2_,c3_,c4_,cf0,cf1,cf2,cf3,cf4⟩:=id hC
 obtain ⟨dz,d0_,d1_,d2_,d3_,d4_,df0,df1,df2,df3,df4⟩:=id hD
 go_wp2_with fail
 clear cz c0_ c1_ c2_ c3_ c4_ cf0 cf1 cf2 cf3 cf4 dz d0_ d1_ d2_ d3_ d4_ df0 df1 df2 df3 df4
 go_loopw [5] (fun si ww => ∃ k:Nat,k<=n1/\si=.int .i64 (k:Int)/\Below W0.heap.size W0 ww) (fun i _ => n1 - (intOf i).toNat)
 case atStart => exact ⟨0,Nat.zero_le _,rfl,Below.refl _ _⟩
 case round =>
 obtain ⟨k,hk,rfl,gb⟩:=hrel
 obtain ⟨cz,c0_,c1_,c2_,c3_,c4_,cf0,cf1,cf2,cf3,cf4⟩:=hC.to gb
 obtain ⟨dz,d0_,d1_,d2_,d3_,d4_,df0,df1,df2,df3,df4⟩:=hD.to gb
 by_cases hkn:k<n1
 ·have hki:(k:Int)<(n1:Int):=by omega
  have hkl:k<c.all.length:=by rw [H0.out];exact hkn
  have hbr:=bS zb gb
  obtain ⟨b,off,rfl,h7⟩:=(HcA.out.1.to hbr).nth hkl
  obtain ⟨b',off',rfl,h7'⟩:=(HcB.out.1.to hbr).nth hkl
  obtain ⟨x,hx⟩:∃ x,c.all[k]=x:=⟨_,rfl⟩
  rw [hx] at h7 h7'
  clear hx
  obtain ⟨s0,s1,s2,s3,⟨vn,vd,s4,s5,s6,hn,hd⟩,_⟩:=h7
  obtain ⟨t0,t1,t2,t3,⟨vn',vd',t4,t5,t6,hn',hd'⟩,_⟩:=h7'
  obtain ⟨op,to,xa,xb,ng,ln,ld⟩:=x
  simp only at s0 s1 s2 s3 s4 t0 t1 t2 t3 t4 hn hd hn' hd'
  obtain ⟨p1,m1,k1,rfl,J1,_⟩:=hn.open
  obtain ⟨p2,m2,k2,rfl,J2,_⟩:=hd.open
  obtain ⟨p3,m3,k3,rfl,J3,_⟩:=hn'.open
  obtain ⟨p4,m4,k4,rfl,J4,_⟩:=hd'.open
  have Hn:=Lib.hid hn
  have Hd:=Lib.hid hd
  have Hn':=Lib.hid hn'
  have Hd':=Lib.hid hd'
  clear hn hd hn' hd'
  have l1:=zm s0
  have l2:=zm t0
  have n1_:¬ (b=wr.heap.size):=by omega
  have n2_:¬ (b'=wr.heap.size):=by omega
  have n3_:¬ (w.heap.size=wr.heap.size):=by omega
  have n4_:¬ (w.heap.size+1=wr.heap.size):=by omega
  go_wp2_with fail
  obtain ⟨W1,aO⟩:∃ W1,(wr.alloc (.cells #[.int .i64 op,.int .i64 to,.int .i64 xa,.int .i64 xb,.bool ng,.slice p1 m1 k1,.slice p2 m2 k2] 49)).alloc (.cells #[.int .i64 op,.int .i64 to,.int .i64 xa,.int .i64 xb,.bool ng,.slice p3 m3 k3,.slice p4 m4 k4] 49)=W1:=⟨_,rfl⟩
  have be:Below wr.heap.size wr W1:=by rw [<- aO];exact bS (bN _ _) (bN _ _)
  have dD:wr.heap.size+1<W1.heap.size:=by rw [<- aO];simp
  have hX:∀ W',Below W1.heap.size W1 W'->(W'.cell? ⟨wr.heap.size,0,none⟩=some (.int .i64 op)/\W'.cell? ⟨wr.heap.size,1,none⟩=some (.int .i64 to)/\W'.cell? ⟨wr.heap.size,2,none⟩=some (.int .i64 xa)/\W'.cell? ⟨wr.heap.size,3,none⟩=some (.int .i64 xb)/\W'.cell? ⟨wr.heap.size+1,0,none⟩=some (.int .i64 op)/\W'.cell? ⟨wr.heap.size+1,1,none⟩=some (.int .i64 to)/\W'.cell? ⟨wr.heap.size+1,2,none⟩=some (.int .i64 xa)/\W'.cell? ⟨wr.heap.size+1,3,none⟩=some (.int .i64 xb)):=fun W' hb => by
   refine ⟨(hb.cell (p:=⟨_,_,none⟩) (by show wr.heap.size<_;omega)).trans ?_,(hb.cell (p:=⟨_,_,none⟩) (by show wr.heap.size<_;omega)).trans ?_,(hb.cell (p:=⟨_,_,none⟩) (by show wr.heap.size<_;omega)).trans ?_,(hb.cell (p:=⟨_,_,none⟩) (by show wr.heap.size<_;omega)).trans ?_,(hb.cell (p:=⟨_,_,none⟩) dD).trans ?_,(hb.cell (p:=⟨_,_,none⟩) dD).trans ?_,(hb.cell (p:=⟨_,_,none⟩) dD).trans ?_,(hb.cell (p:=⟨_,_,none⟩) dD).trans ?_⟩ <;> (rw [<- aO];simp [go_sem])
  have HX:=Lib.hid hX
  clear hX
  rw [aO]
  clear aO
  refine (zby ng _ _ ln ld ng _ _ ln ld _ ⟨Hn.out.to be,Hd.out.to be⟩ ⟨Hn'.out.to be,Hd'.out.to be⟩ true (by simp)).mono ?_
  rintro e w2 ⟨rfl,aZ⟩
  clear s0 s1 s2 s3 s4 s5 s6 t0 t1 t2 t3 t4 t5 t6 cz c0_ c1_ c2_ c3_ c4_ cf0 cf1 cf2 cf3 cf4 dz d0_ d1_ d2_ d3_ d4_ df0 df1 df2 df3 df4
  obtain ⟨e0,e1,e2,e3,g0,g1,g2,g3⟩:=HX.out _ aZ
  go_wp2_with fail
  go_roundw
  case rel => exact ⟨k+1,by omega,by go_num,bS gb (bS be aZ)⟩
  case measure => simp [intOf] <;> omega
 ·have hki:¬ ((k:Int)<(n1:Int)):=by omega
  go_wp2_with fail
  go_ret
  exact ⟨rfl,bS zb gb⟩

end Go.Proofs.YtkjcdnlpjldhaaaGreat


namespace Go.Proofs.YtkjcdnlpjldhaaaGreat
open Go.RowKit Tw

def B7 (w:World) (B:Nat) (v0 v1 v2 v3 v4 v5 v6:Value):Prop:=B<w.heap.size/\w.cell? ⟨B,0,none⟩=some v0/\w.cell? ⟨B,1,none⟩=some v1/\w.cell? ⟨B,2,none⟩=some v2/\w.cell? ⟨B,3,none⟩=some v3/\w.cell? ⟨B,4,none⟩=some v4/\w.cell? ⟨B,5,none⟩=some v5/\w.cell? ⟨B,6,none⟩=some v6/\w.frozen? ⟨B,0,none⟩=false/\w.frozen? ⟨B,1,none⟩=false/\w.frozen? ⟨B,2,none⟩=false/\w.frozen? ⟨B,3,none⟩=false/\w.frozen? ⟨B,4,none⟩=false/\w.frozen? ⟨B,5,none⟩=false/\w.frozen? ⟨B,6,none⟩=false

section

variable {w w':World} {B B' o:Nat} {v0 v1 v2 v3 v4 v5 v6 x:Value} {row:Option Nat}

theorem B7.to (h:B7 w B v0 v1 v2 v3 v4 v5 v6) (hb:Below w.heap.size w w'):B7 w' B v0 v1 v2 v3 v4 v5 v6:=by
 obtain ⟨z,a0,a1,a2,a3,a4,a5,a6,f0,f1,f2,f3,f4,f5,f6⟩:=h
 exact ⟨Nat.lt_of_lt_of_le z hb.size,(hb.cell (p:=⟨B,0,none⟩) z).trans a0,(hb.cell (p:=⟨B,1,none⟩) z).trans a1,(hb.cell (p:=⟨B,2,none⟩) z).trans a2,(hb.cell (p:=⟨B,3,none⟩) z).trans a3,(hb.cell (p:=⟨B,4,none⟩) z).trans a4,(hb.cell (p:=⟨B,5,none⟩) z).trans a5,(hb.cell (p:=⟨B,6,none⟩) z).trans a6,(hb.frozen (p:=⟨B,0,none⟩) z).trans f0,(hb.frozen (p:=⟨B,1,none⟩) z).trans f1,(hb.frozen (p:=⟨B,2,none⟩) z).trans f2,(hb.frozen (p:=⟨B,3,none⟩) z).trans f3,(hb.frozen (p:=⟨B,4,none⟩) z).trans f4,(hb.frozen (p:=⟨B,5,none⟩) z).trans f5,(hb.frozen (p:=⟨B,6,none⟩) z).trans f6⟩

theorem B7.grown (h:B7 w B v0 v1 v2 v3 v4 v5 v6) (hg:w.grownBy w' row) (hne:row≠some B):B7 w' B v0 v1 v2 v3 v4 v5 v6:=by
 obtain ⟨z,a0,a1,a2,a3,a4,a5,a6,f0,f1,f2,f3,f4,f5,f6⟩:=h
 have hn:∀ o,some (⟨B,o,none⟩:Addr).block≠row:=fun o e => hne e.symm
 exact ⟨Nat.lt_of_lt_of_le z hg.size,hg.cell a0 (hn _),hg.cell a1 (hn _),hg.cell a2 (hn _),hg.cell a3 (hn _),hg.cell a4 (hn _),hg.cell a5 (hn _),hg.cell a6 (hn _),(zo hg z hne).trans f0,(zo hg z hne).trans f1,(zo hg z hne).trans f2,(zo hg z hne).trans f3,(zo hg z hne).trans f4,(zo hg z hne).trans f5,(zo hg z hne).trans f6⟩

theorem B7.other (h:B7 w B v0 v1 v2 v3 v4 v5 v6) (hne:B≠B'):B7 (w.setCell ⟨B',o,none⟩ x) B v0 v1 v2 v3 v4 v5 v6:=by
 obtain ⟨z,a0,a1,a2,a3,a4,a5,a6,f0,f1,f2,f3,f4,f5,f6⟩:=h
 refine ⟨by simp [go_sem];exact z,cP a0 (.inl hne) _,cP a1 (.inl hne) _,cP a2 (.inl hne) _,cP a3 (.inl hne) _,cP a4 (.inl hne) _,cP a5 (.inl hne) _,cP a6 (.inl hne) _,?_,?_,?_,?_,?_,?_,?_⟩ <;> simp [go_sem,f0,f1,f2,f3,f4,f5,f6]

theorem B5.set1' (h:B5 w B v0 v1 v2 v3 v4) (x:Value):B5 (w.setCell ⟨B,1,none⟩ x) B v0 x v2 v3 v4:=by
 obtain ⟨z,a0,a1,a2,a3,a4,f0,f1,f2,f3,f4⟩:=h
 refine ⟨by simp [go_sem];exact z,cP a0 (.inr (by decide)) _,zh a1 _,cP a2 (.inr (by decide)) _,cP a3 (.inr (by decide)) _,cP a4 (.inr (by decide)) _,?_,?_,?_,?_,?_⟩ <;> simp [go_sem,f0,f1,f2,f3,f4]

theorem B5.set2' (h:B5 w B v0 v1 v2 v3 v4) (x:Value):B5 (w.setCell ⟨B,2,none⟩ x) B v0 v1 x v3 v4:=by
 obtain ⟨z,a0,a1,a2,a3,a4,f0,f1,f2,f3,f4⟩:=h
 refine ⟨by simp [go_sem];exact z,cP a0 (.inr (by decide)) _,cP a1 (.inr (by decide)) _,zh a2 _,cP a3 (.inr (by decide)) _,cP a4 (.inr (by decide)) _,?_,?_,?_,?_,?_⟩ <;> simp [go_sem,f0,f1,f2,f3,f4]

theorem B5.set3' (h:B5 w B v0 v1 v2 v3 v4) (x:Value):B5 (w.setCell ⟨B,3,none⟩ x) B v0 v1 v2 x v4:=by
 obtain ⟨z,a0,a1,a2,a3,a4,f0,f1,f2,f3,f4⟩:=h
 refine ⟨by simp [go_sem];exact z,cP a0 (.inr (by decide)) _,cP a1 (.inr (by decide)) _,cP a2 (.inr (by decide)) _,zh a3 _,cP a4 (.inr (by decide)) _,?_,?_,?_,?_,?_⟩ <;> simp [go_sem,f0,f1,f2,f3,f4]

theorem B7.set1 (h:B7 w B v0 v1 v2 v3 v4 v5 v6) (x:Value):B7 (w.setCell ⟨B,1,none⟩ x) B v0 x v2 v3 v4 v5 v6:=by
 obtain ⟨z,a0,a1,a2,a3,a4,a5,a6,f0,f1,f2,f3,f4,f5,f6⟩:=h
 refine ⟨by simp [go_sem];exact z,cP a0 (.inr (by decide)) _,zh a1 _,cP a2 (.inr (by decide)) _,cP a3 (.inr (by decide)) _,cP a4 (.inr (by decide)) _,cP a5 (.inr (by decide)) _,cP a6 (.inr (by decide)) _,?_,?_,?_,?_,?_,?_,?_⟩ <;> simp [go_sem,f0,f1,f2,f3,f4,f5,f6]

theorem B7.set2 (h:B7 w B v0 v1 v2 v3 v4 v5 v6) (x:Value):B7 (w.setCell ⟨B,2,none⟩ x) B v0 v1 x v3 v4 v5 v6:=by
 obtain ⟨z,a0,a1,a2,a3,a4,a5,a6,f0,f1,f2,f3,f4,f5,f6⟩:=h
 refine ⟨by simp [go_sem];exact z,cP a0 (.inr (by decide)) _,cP a1 (.inr (by decide)) _,zh a2 _,cP a3 (.inr (by decide)) _,cP a4 (.inr (by decide)) _,cP a5 (.inr (by decide)) _,cP a6 (.inr (by decide)) _,?_,?_,?_,?_,?_,?_,?_⟩ <;> simp [go_sem,f0,f1,f2,f3,f4,f5,f6]

theorem B7.set3 (h:B7 w B v0 v1 v2 v3 v4 v5 v6) (x:Value):B7 (w.setCell ⟨B,3,none⟩ x) B v0 v1 v2 x v4 v5 v6:=by
 obtain ⟨z,a0,a1,a2,a3,a4,a5,a6,f0,f1,f2,f3,f4,f5,f6⟩:=h
 refine ⟨by simp [go_sem];exact z,cP a0 (.inr (by decide)) _,cP a1 (.inr (by decide)) _,cP a2 (.inr (by decide)) _,zh a3 _,cP a4 (.inr (by decide)) _,cP a5 (.inr (by decide)) _,cP a6 (.inr (by decide)) _,?_,?_,?_,?_,?_,?_,?_⟩ <;> simp [go_sem,f0,f1,f2,f3,f4,f5,f6]

theorem B7.set4 (h:B7 w B v0 v1 v2 v3 v4 v5 v6) (x:Value):B7 (w.setCell ⟨B,4,none⟩ x) B v0 v1 v2 v3 x v5 v6:=by
 obtain ⟨z,a0,a1,a2,a3,a4,a5,a6,f0,f1,f2,f3,f4,f5,f6⟩:=h
 refine ⟨by simp [go_sem];exact z,cP a0 (.inr (by decide)) _,cP a1 (.inr (by decide)) _,cP a2 (.inr (by decide)) _,cP a3 (.inr (by decide)) _,zh a4 _,cP a5 (.inr (by decide)) _,cP a6 (.inr (by decide)) _,?_,?_,?_,?_,?_,?_,?_⟩ <;> simp [go_sem,f0,f1,f2,f3,f4,f5,f6]

theorem B7.set5 (h:B7 w B v0 v1 v2 v3 v4 v5 v6) (x:Value):B7 (w.setCell ⟨B,5,none⟩ x) B v0 v1 v2 v3 v4 x v6:=by
 obtain ⟨z,a0,a1,a2,a3,a4,a5,a6,f0,f1,f2,f3,f4,f5,f6⟩:=h
 refine ⟨by simp [go_sem];exact z,cP a0 (.inr (by decide)) _,cP a1 (.inr (by decide)) _,cP a2 (.inr (by decide)) _,cP a3 (.inr (by decide)) _,cP a4 (.inr (by decide)) _,zh a5 _,cP a6 (.inr (by decide)) _,?_,?_,?_,?_,?_,?_,?_⟩ <;> simp [go_sem,f0,f1,f2,f3,f4,f5,f6]

theorem B7.set6 (h:B7 w B v0 v1 v2 v3 v4 v5 v6) (x:Value):B7 (w.setCell ⟨B,6,none⟩ x) B v0 v1 v2 v3 v4 v5 x:=by
 obtain ⟨z,a0,a1,a2,a3,a4,a5,a6,f0,f1,f2,f3,f4,f5,f6⟩:=h
 refine ⟨by simp [go_sem];exact z,cP a0 (.inr (by decide)) _,cP a1 (.inr (by decide)) _,cP a2 (.inr (by decide)) _,cP a3 (.inr (by decide)) _,cP a4 (.inr (by decide)) _,cP a5 (.inr (by decide)) _,zh a6 _,?_,?_,?_,?_,?_,?_,?_⟩ <;> simp [go_sem,f0,f1,f2,f3,f4,f5,f6]

end

end Go.Proofs.YtkjcdnlpjldhaaaGreat

