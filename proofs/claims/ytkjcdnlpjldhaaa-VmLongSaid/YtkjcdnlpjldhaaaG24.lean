/-
  The texts Noted, MadeB, merged.
-/
import Derived.Test.YtkjcdnlpjldhaaaG21
import Derived.Deep.AppendLies
import Derived.Deep.Upon
set_option linter.unusedVariables false
set_option linter.unusedSimpArgs false
set_option maxRecDepth 100000
set_option maxHeartbeats 400000000
namespace Go.Proofs.Ytkjcdnlpjldhaaa
open Go.RowKit Tw

section

variable {e:TypeId} {base base':Nat} {w w':World} {v:Value} {xs:List Value} {row:Option Nat}

theorem zaO.mono (h:zaO e base w v xs) (hb:base'<=base):zaO e base' w v xs:=by
 refine ⟨h.1,?_⟩
 rcases h.2 with h2|⟨g,cap,cur,hv,hg,r⟩
 ·exact .inl h2
 ·exact .inr ⟨g,cap,cur,hv,Nat.le_trans hb hg,r⟩

theorem zaO.grown (h:zaO e base w v xs) (hg:w.grownBy w' row) (hne:∀ k,v.ownBlock=some k->row≠some k):zaO e base w' v xs:=by
 refine ⟨h.1,?_⟩
 rcases h.2 with h2|⟨g,cap,cur,hv,hg',hh,r⟩
 ·exact .inl h2
 ·subst hv
  refine .inr ⟨g,cap,cur,rfl,hg',?_,r⟩
  rw [hg.block g (Array.getElem?_eq_some_iff.1 hh).1 (fun k => hne g rfl k.symm)]
  exact hh

theorem zaO.form (h:zaO e base w v xs):∃ a cap,v=.slice a xs.length cap/\(0<xs.length->∃ g,a=some ⟨g,0,none⟩/\base<=g/\g<w.heap.size):=by
 rcases h.2 with ⟨hv,h0⟩|⟨g,cap,cur,hv,hg,hh,r⟩
 ·exact ⟨none,0,by rw [hv,h0],fun h => by omega⟩
 ·exact ⟨_,cap,hv,fun _ => ⟨g,rfl,hg,(Array.getElem?_eq_some_iff.1 hh).1⟩⟩

theorem zaO.cell {g n cap:Nat} (h:zaO e base w (.slice (some ⟨g,0,none⟩) n cap) xs) {i:Nat} (hi:i<xs.length):w.cell? ⟨g,i,none⟩=some xs[i]:=by
 have:=World.ownsRow.cellAt (w:=w) (base:=base) (e:=e) (size:=1) (xs:=xs) (n:=xs.length) (by
  have hn:n=xs.length:=by
   rcases h.2 with ⟨hv,_⟩|⟨g',cap',cur,hv,_⟩
   ·cases hv
   ·injection hv
  rw [hn] at h;exact h) i (by omega)
 rw [this,List.getElem?_eq_getElem hi]

theorem zaO.frozen {g n cap:Nat} (h:zaO e base w (.slice (some ⟨g,0,none⟩) n cap) xs) (i:Nat):w.frozen? ⟨g,i,none⟩=false:=by
 have hn:n=xs.length:=by
  rcases h.2 with ⟨hv,_⟩|⟨g',cap',cur,hv,_⟩
  ·cases hv
  ·injection hv
 rw [hn] at h
 exact World.ownsRow.frozenAt h i

theorem zaO.setOther {B o:Nat} (h:zaO e base w v xs) (hne:v.ownBlock≠some B) (x:Value):zaO e base (w.setCell ⟨B,o,none⟩ x) v xs:=Go.ownsRow_setCell_other h (fun e => hne e) x

end

end Go.Proofs.Ytkjcdnlpjldhaaa


namespace Go.Proofs.Ytkjcdnlpjldhaaa
open Go.RowKit Tw

def AtTn (w:World) (b o:Nat) (x:Tn):Prop:=w.cell? ⟨b,o,none⟩=some (.int .u8 (x.op:Int))/\w.cell? ⟨b,o+1,none⟩=some (.int .u8 (x.to:Int))/\w.cell? ⟨b,o+2,none⟩=some (.int .u8 (x.a:Int))/\w.cell? ⟨b,o+3,none⟩=some (.int .u8 (x.b:Int))/\x.op<256/\x.to<256/\x.a<256/\x.b<256

theorem AtTn.to {w w':World} {b o:Nat} {x:Tn} (h:AtTn w b o x) (hb:Below w.heap.size w w'):AtTn w' b o x :=
 ⟨(hb.cell (p:=⟨b,o,none⟩) (zj h.1)).trans h.1,(hb.cell (p:=⟨b,o+1,none⟩) (zj h.1)).trans h.2.1,(hb.cell (p:=⟨b,o+2,none⟩) (zj h.1)).trans h.2.2.1,(hb.cell (p:=⟨b,o+3,none⟩) (zj h.1)).trans h.2.2.2.1,h.2.2.2.2⟩

def RdTn (w:World) (v:Value) (l:List Tn):Prop :=
 ∃ a cap,v=.slice a l.length cap/\l.length<=cap/\cap<=maxLen/\∀ i (h:i<l.length),∃ b off,a=some ⟨b,off,none⟩/\AtTn w b (off+i*4) l[i]

theorem RdTn.to {w w':World} {v:Value} {l:List Tn} (h:RdTn w v l) (hb:Below w.heap.size w w'):RdTn w' v l:=by
 obtain ⟨a,cap,hv,h1,h2,h3⟩:=h
 exact ⟨a,cap,hv,h1,h2,fun i hi => let ⟨b,off,e,k⟩:=h3 i hi;⟨b,off,e,k.to hb⟩⟩

theorem RdTn.open {w:World} {v:Value} {l:List Tn} (h:RdTn w v l):∃ a n cap,v=.slice a n cap/\Hid (l.length=n)/\n<=maxLen:=by
 obtain ⟨a,cap,hv,h1,h2,_⟩:=h
 exact ⟨a,_,cap,hv,rfl,by omega⟩

theorem RdTn.nth {w:World} {a:Option Addr} {n cap:Nat} {l:List Tn} (h:RdTn w (.slice a n cap) l) {i:Nat} (hi:i<l.length):∃ b off,a=some ⟨b,off,none⟩/\AtTn w b (off+i*4) l[i]:=by
 obtain ⟨a',cap',hv,_,_,h3⟩:=h
 injection hv with e1 e2 e3
 subst e1
 exact h3 i hi

def B5 (w:World) (B:Nat) (v0 v1 v2 v3 v4:Value):Prop:=B<w.heap.size/\w.cell? ⟨B,0,none⟩=some v0/\w.cell? ⟨B,1,none⟩=some v1/\w.cell? ⟨B,2,none⟩=some v2/\w.cell? ⟨B,3,none⟩=some v3/\w.cell? ⟨B,4,none⟩=some v4 /\
 w.frozen? ⟨B,0,none⟩=false/\w.frozen? ⟨B,1,none⟩=false/\w.frozen? ⟨B,2,none⟩=false/\w.frozen? ⟨B,3,none⟩=false/\w.frozen? ⟨B,4,none⟩=false

section

variable {w w' wr wx:World} {B B' o:Nat} {v0 v1 v2 v3 v4 x:Value} {row:Option Nat}

theorem B5.to (h:B5 w B v0 v1 v2 v3 v4) (hb:Below w.heap.size w w'):B5 w' B v0 v1 v2 v3 v4:=by
 obtain ⟨z,a0,a1,a2,a3,a4,f0,f1,f2,f3,f4⟩:=h
 exact ⟨Nat.lt_of_lt_of_le z hb.size,(hb.cell (p:=⟨B,0,none⟩) z).trans a0,(hb.cell (p:=⟨B,1,none⟩) z).trans a1,(hb.cell (p:=⟨B,2,none⟩) z).trans a2,(hb.cell (p:=⟨B,3,none⟩) z).trans a3,(hb.cell (p:=⟨B,4,none⟩) z).trans a4,
  (hb.frozen (p:=⟨B,0,none⟩) z).trans f0,(hb.frozen (p:=⟨B,1,none⟩) z).trans f1,(hb.frozen (p:=⟨B,2,none⟩) z).trans f2,(hb.frozen (p:=⟨B,3,none⟩) z).trans f3,(hb.frozen (p:=⟨B,4,none⟩) z).trans f4⟩

theorem zak (hg:w.grownBy w' row) (hl:B<w.heap.size) (hne:row≠some B):w'.frozen? ⟨B,o,none⟩=w.frozen? ⟨B,o,none⟩:=by
 have:=hg.block B hl (fun k => hne k.symm)
 simp only [World.frozen?,this]

theorem B5.grown (h:B5 w B v0 v1 v2 v3 v4) (hg:w.grownBy w' row) (hne:row≠some B):B5 w' B v0 v1 v2 v3 v4:=by
 obtain ⟨z,a0,a1,a2,a3,a4,f0,f1,f2,f3,f4⟩:=h
 have hn:∀ o,some (⟨B,o,none⟩:Addr).block≠row:=fun o e => hne e.symm
 exact ⟨Nat.lt_of_lt_of_le z hg.size,hg.cell a0 (hn _),hg.cell a1 (hn _),hg.cell a2 (hn _),hg.cell a3 (hn _),hg.cell a4 (hn _),
  (zak hg z hne).trans f0,(zak hg z hne).trans f1,(zak hg z hne).trans f2,(zak hg z hne).trans f3,(zak hg z hne).trans f4⟩

theorem B5.other (h:B5 w B v0 v1 v2 v3 v4) (hne:B≠B'):B5 (w.setCell ⟨B',o,none⟩ x) B v0 v1 v2 v3 v4:=by
 obtain ⟨z,a0,a1,a2,a3,a4,f0,f1,f2,f3,f4⟩:=h
 refine ⟨by simp [go_sem];exact z,cP a0 (.inl hne) _,cP a1 (.inl hne) _,cP a2 (.inl hne) _,cP a3 (.inl hne) _,cP a4 (.inl hne) _,?_,?_,?_,?_,?_⟩ <;> simp [go_sem,f0,f1,f2,f3,f4]

theorem B5.set4 (h:B5 w B v0 v1 v2 v3 v4) (x:Value):B5 (w.setCell ⟨B,4,none⟩ x) B v0 v1 v2 v3 x:=by
 obtain ⟨z,a0,a1,a2,a3,a4,f0,f1,f2,f3,f4⟩:=h
 refine ⟨by simp [go_sem];exact z,cP a0 (.inr (by decide)) _,cP a1 (.inr (by decide)) _,cP a2 (.inr (by decide)) _,cP a3 (.inr (by decide)) _,zH a4 _,?_,?_,?_,?_,?_⟩ <;> simp [go_sem,f0,f1,f2,f3,f4]

def XB (wr wx:World) (t:Tn) (op to a b:Int):Prop :=
 Below wr.heap.size wr wx/\wr.heap.size+1<wx.heap.size /\
 wx.cell? ⟨wr.heap.size,0,none⟩=some (.int .u8 (t.op:Int))/\wx.cell? ⟨wr.heap.size,1,none⟩=some (.int .u8 (t.to:Int))/\wx.cell? ⟨wr.heap.size,2,none⟩=some (.int .u8 (t.a:Int))/\wx.cell? ⟨wr.heap.size,3,none⟩=some (.int .u8 (t.b:Int)) /\
 wx.cell? ⟨wr.heap.size+1,0,none⟩=some (.int .i64 op)/\wx.cell? ⟨wr.heap.size+1,1,none⟩=some (.int .i64 to)/\wx.cell? ⟨wr.heap.size+1,2,none⟩=some (.int .i64 a)/\wx.cell? ⟨wr.heap.size+1,3,none⟩=some (.int .i64 b) /\
 wx.cell? ⟨wr.heap.size+1,4,none⟩=some (.bool false)/\wx.cell? ⟨wr.heap.size+1,5,none⟩=some (.slice none 0 0)/\wx.cell? ⟨wr.heap.size+1,6,none⟩=some (.slice none 0 0) /\
 wx.frozen? ⟨wr.heap.size+1,0,none⟩=false/\wx.frozen? ⟨wr.heap.size+1,1,none⟩=false/\wx.frozen? ⟨wr.heap.size+1,2,none⟩=false/\wx.frozen? ⟨wr.heap.size+1,3,none⟩=false/\wx.frozen? ⟨wr.heap.size+1,4,none⟩=false/\wx.frozen? ⟨wr.heap.size+1,5,none⟩=false/\wx.frozen? ⟨wr.heap.size+1,6,none⟩=false

variable {t:Tn} {op to a b:Int}

theorem XB.put (h:XB wr wx t op to a b) {o:Nat} (ho:o<4) (z:Int):XB wr (wx.setCell ⟨wr.heap.size+1,o,none⟩ (.int .i64 z)) t (if o=0 then z else op) (if o=1 then z else to) (if o=2 then z else a) (if o=3 then z else b):=by
 obtain ⟨gb,hs,t0,t1,t2,t3,x0,x1,x2,x3,x4,x5,x6,y0,y1,y2,y3,y4,y5,y6⟩:=h
 have hne:wr.heap.size≠wr.heap.size+1:=by omega
 refine ⟨gb.setCell (by show _<=wr.heap.size+1;omega) _,by simp [go_sem];exact hs,cP t0 (.inl hne) _,cP t1 (.inl hne) _,cP t2 (.inl hne) _,cP t3 (.inl hne) _,?_,?_,?_,?_,cP x4 (.inr (by omega)) _,cP x5 (.inr (by omega)) _,cP x6 (.inr (by omega)) _,?_,?_,?_,?_,?_,?_,?_⟩
 ·split
  ·rename_i e;subst e;exact zH x0 _
  ·rename_i e;exact cP x0 (.inr (fun k => e k.symm)) _
 ·split
  ·rename_i e;subst e;exact zH x1 _
  ·rename_i e;exact cP x1 (.inr (fun k => e k.symm)) _
 ·split
  ·rename_i e;subst e;exact zH x2 _
  ·rename_i e;exact cP x2 (.inr (fun k => e k.symm)) _
 ·split
  ·rename_i e;subst e;exact zH x3 _
  ·rename_i e;exact cP x3 (.inr (fun k => e k.symm)) _
 all_goals simp [go_sem,y0,y1,y2,y3,y4,y5,y6]

theorem XB.put3 (h:XB wr wx t op to a b) (z:Int):XB wr (wx.setCell ⟨wr.heap.size+1,3,none⟩ (.int .i64 z)) t op to a z:=h.put (o:=3) (by decide) z

theorem XB.drew (h:XB wr wx t op to a b):XB wr wx.drew t op to a b:=by
 obtain ⟨gb,hs,h⟩:=h
 exact ⟨gb.drew,hs,h⟩

theorem zhP:(Try.prog.info? 27).map (fun i => (i.zero,i.size,i.bytes))=some (some (.agg #[.int .i64 0,.int .i64 0,.int .i64 0,.int .i64 0,.bool false,.slice none 0 0,.slice none 0 0]),7,88):=by kernel_rfl

theorem zhB (w:World) {ops:Array Oper} {rest:List Oper} {o:Oper} {a:Act} {Q:Exit->Act->World->Prop} (hg:o.guard=none)
  (s x:Operand) (ho:o.op=Op.call { callee:=Callee.builtin Builtin.append,args:=#[s,x],argTypes:=#[28,28] })
  (base:Nat) (v:Value) (l:List Ins) (B:Nat) (y:Ins) (a1:Option Addr) (n1 c1:Nat) (a2:Option Addr) (n2 c2:Nat) (hs:a.eval s=v) (hx:a.eval x=.slice (some ⟨B,0,none⟩) 1 1) (hown:zaQ base w v l)
  (hcell:∀ j u,(zar y (.slice a1 n1 c1) (.slice a2 n2 c2))[j]?=some u->w.cell? ((⟨B,0,none⟩:Addr).add j)=some u)
  (hn:Rd w (.slice a1 n1 c1) y.q.n) (hd:Rd w (.slice a2 n2 c2) y.q.d) (f1:Far (.slice a1 n1 c1) v.ownBlock) (f2:Far (.slice a2 n2 c2) v.ownBlock) (hi:I64X y) (hl:l.length<=100000) (hb:base<=w.heap.size) (H:Nat) (hH:w.heap.size=H)
  (hK:∀ g c w',zaQ base w' (.slice (some ⟨g,0,none⟩) (l.length+1) c) (l++[y])->w.grownBy w' v.ownBlock->(v.ownBlock=some g\/g=H)->g<w'.heap.size->wpList Try.prog ops Q rest (a.put o.dst (.slice (some ⟨g,0,none⟩) (l.length+1) c)) w') :
  wpList Try.prog ops Q (o :: rest) a w:=by
 obtain ⟨i0,hi0,hz0,hz1,hz2⟩:=info_parts zhP
 obtain ⟨xs,hxs⟩:=hown.len
 refine wpList_append_lies w hg s x 28 ho base 27 i0 _ 7 88 Try.underlying28 hi0 hz0 hz1 hz2 rfl (by decide) v l.length xs hs hxs ⟨B,0,none⟩ 1 1 (zar y (.slice a1 n1 c1) (.slice a2 n2 c2))
  hx rfl hcell zjv (by decide) (by simp [maxLen];omega) (by omega) hb H hH ?_
 intro g c w' hown' hgrow hat hlt
 exact hK g c w' (hown.push hxs hown' hgrow (by rw [hH];exact hat) hn hd f1 f2 hi) hgrow hat hlt

theorem zcx {row:Option Nat}:Far (.slice none 0 0) row:=fun b o n c e => by injection e with e;cases e

theorem zdB (w:World):Rd w (.slice none 0 0) []:=⟨fun x h => (by cases h),.inl ⟨rfl,none,0,rfl,Nat.zero_le _,fun _ => rfl⟩⟩

end

theorem XB.to {w w' wr:World} {t:Tn} {op to a b:Int} (h:XB wr w t op to a b) (hb:Below w.heap.size w w'):XB wr w' t op to a b:=by
 obtain ⟨gb,hs,t0,t1,t2,t3,x0,x1,x2,x3,x4,x5,x6,y0,y1,y2,y3,y4,y5,y6⟩:=h
 have z:wr.heap.size<w.heap.size:=by omega
 exact ⟨bS gb hb,Nat.lt_of_lt_of_le hs hb.size,(hb.cell (p:=⟨wr.heap.size,0,none⟩) z).trans t0,(hb.cell (p:=⟨wr.heap.size,1,none⟩) z).trans t1,(hb.cell (p:=⟨wr.heap.size,2,none⟩) z).trans t2,(hb.cell (p:=⟨wr.heap.size,3,none⟩) z).trans t3,
  (hb.cell (p:=⟨wr.heap.size+1,0,none⟩) hs).trans x0,(hb.cell (p:=⟨wr.heap.size+1,1,none⟩) hs).trans x1,(hb.cell (p:=⟨wr.heap.size+1,2,none⟩) hs).trans x2,(hb.cell (p:=⟨wr.heap.size+1,3,none⟩) hs).trans x3,(hb.cell (p:=⟨wr.heap.size+1,4,none⟩) hs).trans x4,(hb.cell (p:=⟨wr.heap.size+1,5,none⟩) hs).trans x5,(hb.cell (p:=⟨wr.heap.size+1,6,none⟩) hs).trans x6,
  (hb.frozen (p:=⟨wr.heap.size+1,0,none⟩) hs).trans y0,(hb.frozen (p:=⟨wr.heap.size+1,1,none⟩) hs).trans y1,(hb.frozen (p:=⟨wr.heap.size+1,2,none⟩) hs).trans y2,(hb.frozen (p:=⟨wr.heap.size+1,3,none⟩) hs).trans y3,(hb.frozen (p:=⟨wr.heap.size+1,4,none⟩) hs).trans y4,(hb.frozen (p:=⟨wr.heap.size+1,5,none⟩) hs).trans y5,(hb.frozen (p:=⟨wr.heap.size+1,6,none⟩) hs).trans y6⟩

def MI (G:Nat) (rg sg:List Int):Prop:=∃ L wt,MInv G rg sg L wt

theorem MI.nil (G:Nat):MI G [] []:=⟨[],fun _ => 0,MInv.nil _ _⟩

theorem MI.wts {G:Nat} {rg sg:List Int} (h:MI G rg sg) {i:Nat} (hi:i<rg.length):1<=sg.getD i 0/\sg.getD i 0<=12:=by
 obtain ⟨L,wt,h⟩:=h
 have:=h.wts i hi
 omega

theorem zaQ.mono {w:World} {base base':Nat} {v:Value} {l:List Ins} (h:zaQ base w v l) (hb:base'<=base):zaQ base' w v l:=by
 obtain ⟨xs,h1,h2⟩:=h
 refine ⟨xs,⟨h1.1,?_⟩,h2⟩
 rcases h1.2 with k|⟨g,cap,cur,hv,hg,r⟩
 ·exact .inl k
 ·exact .inr ⟨g,cap,cur,hv,Nat.le_trans hb hg,r⟩

end Go.Proofs.Ytkjcdnlpjldhaaa

