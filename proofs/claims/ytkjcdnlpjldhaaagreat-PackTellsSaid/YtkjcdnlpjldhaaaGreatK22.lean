/-
  The texts Noted, MadeB, PackSame, merged.
-/
import Derived.Test.YtkjcdnlpjldhaaaGreatK21
import Derived.Deep.AppendLies
import Derived.Deep.Upon
import Derived.Test.YtkjcdnlpjldhaaaGreatK16
set_option linter.unusedVariables false
set_option linter.unusedSimpArgs false
set_option maxRecDepth 100000
set_option maxHeartbeats 400000000
namespace Go.Proofs.YtkjcdnlpjldhaaaGreat
open Go.RowKit Tw

section

variable {e:TypeId} {base base':Nat} {w w':World} {v:Value} {xs:List Value} {row:Option Nat}

theorem zaR.mono (h:zaR e base w v xs) (hb:base'<=base):zaR e base' w v xs:=by
 refine ⟨h.1,?_⟩
 rcases h.2 with h2|⟨g,cap,cur,hv,hg,r⟩
 ·exact .inl h2
 ·exact .inr ⟨g,cap,cur,hv,Nat.le_trans hb hg,r⟩

theorem zaR.grown (h:zaR e base w v xs) (hg:w.grownBy w' row) (hne:∀ k,v.ownBlock=some k->row≠some k):zaR e base w' v xs:=by
 refine ⟨h.1,?_⟩
 rcases h.2 with h2|⟨g,cap,cur,hv,hg',hh,r⟩
 ·exact .inl h2
 ·subst hv
  refine .inr ⟨g,cap,cur,rfl,hg',?_,r⟩
  rw [hg.block g (Array.getElem?_eq_some_iff.1 hh).1 (fun k => hne g rfl k.symm)]
  exact hh

theorem zaR.form (h:zaR e base w v xs):∃ a cap,v=.slice a xs.length cap/\(0<xs.length->∃ g,a=some ⟨g,0,none⟩/\base<=g/\g<w.heap.size):=by
 rcases h.2 with ⟨hv,h0⟩|⟨g,cap,cur,hv,hg,hh,r⟩
 ·exact ⟨none,0,by rw [hv,h0],fun h => by omega⟩
 ·exact ⟨_,cap,hv,fun _ => ⟨g,rfl,hg,(Array.getElem?_eq_some_iff.1 hh).1⟩⟩

theorem zaR.cell {g n cap:Nat} (h:zaR e base w (.slice (some ⟨g,0,none⟩) n cap) xs) {i:Nat} (hi:i<xs.length):w.cell? ⟨g,i,none⟩=some xs[i]:=by
 have:=World.ownsRow.cellAt (w:=w) (base:=base) (e:=e) (size:=1) (xs:=xs) (n:=xs.length) (by
  have hn:n=xs.length:=by
   rcases h.2 with ⟨hv,_⟩|⟨g',cap',cur,hv,_⟩
   ·cases hv
   ·injection hv
  rw [hn] at h;exact h) i (by omega)
 rw [this,List.getElem?_eq_getElem hi]

theorem zaR.frozen {g n cap:Nat} (h:zaR e base w (.slice (some ⟨g,0,none⟩) n cap) xs) (i:Nat):w.frozen? ⟨g,i,none⟩=false:=by
 have hn:n=xs.length:=by
  rcases h.2 with ⟨hv,_⟩|⟨g',cap',cur,hv,_⟩
  ·cases hv
  ·injection hv
 rw [hn] at h
 exact World.ownsRow.frozenAt h i

theorem zaR.setOther {B o:Nat} (h:zaR e base w v xs) (hne:v.ownBlock≠some B) (x:Value):zaR e base (w.setCell ⟨B,o,none⟩ x) v xs:=Go.ownsRow_setCell_other h (fun e => hne e) x

end

end Go.Proofs.YtkjcdnlpjldhaaaGreat


namespace Go.Proofs.YtkjcdnlpjldhaaaGreat
open Go.RowKit Tw

def AtTn (w:World) (b o:Nat) (x:Tn):Prop:=w.cell? ⟨b,o,none⟩=some (.int .u8 (x.op:Int))/\w.cell? ⟨b,o+1,none⟩=some (.int .u8 (x.to:Int))/\w.cell? ⟨b,o+2,none⟩=some (.int .u8 (x.a:Int))/\w.cell? ⟨b,o+3,none⟩=some (.int .u8 (x.b:Int))/\x.op<256/\x.to<256/\x.a<256/\x.b<256

theorem AtTn.to {w w':World} {b o:Nat} {x:Tn} (h:AtTn w b o x) (hb:Below w.heap.size w w'):AtTn w' b o x :=
 ⟨(hb.cell (p:=⟨b,o,none⟩) (zj h.1)).trans h.1,(hb.cell (p:=⟨b,o+1,none⟩) (zj h.1)).trans h.2.1,(hb.cell (p:=⟨b,o+2,none⟩) (zj h.1)).trans h.2.2.1,(hb.cell (p:=⟨b,o+3,none⟩) (zj h.1)).trans h.2.2.2.1,h.2.2.2.2⟩

def RdTn (w:World) (v:Value) (l:List Tn):Prop :=
 ∃ a cap,v=.slice a l.length cap/\l.length<=cap/\cap<=maxLen/\∀ i (h:i<l.length),∃ b off,a=some ⟨b,off,none⟩/\AtTn w b (off+i*4) l[i]

theorem RdTn.to {w w':World} {v:Value} {l:List Tn} (h:RdTn w v l) (hb:Below w.heap.size w w'):RdTn w' v l:=by
 obtain ⟨a,cap,hv,h1,h2,h3⟩:=h
 exact ⟨a,cap,hv,h1,h2,fun i hi => let ⟨b,off,e,k⟩:=h3 i hi;⟨b,off,e,k.to hb⟩⟩

theorem RdTn.open {w:World} {v:Value} {l:List Tn} (h:RdTn w v l):∃ a n cap,v=.slice a n cap/\Hid (l.length=n)/\n<=maxLen:=by
 obtain ⟨a,cap,hv,h1,h2,_⟩:=h
 exact ⟨a,_,cap,hv,rfl,by omega⟩

theorem RdTn.nth {w:World} {a:Option Addr} {n cap:Nat} {l:List Tn} (h:RdTn w (.slice a n cap) l) {i:Nat} (hi:i<l.length):∃ b off,a=some ⟨b,off,none⟩/\AtTn w b (off+i*4) l[i]:=by
 obtain ⟨a',cap',hv,_,_,h3⟩:=h
 injection hv with e1 e2 e3
 subst e1
 exact h3 i hi

def B5 (w:World) (B:Nat) (v0 v1 v2 v3 v4:Value):Prop:=B<w.heap.size/\w.cell? ⟨B,0,none⟩=some v0/\w.cell? ⟨B,1,none⟩=some v1/\w.cell? ⟨B,2,none⟩=some v2/\w.cell? ⟨B,3,none⟩=some v3/\w.cell? ⟨B,4,none⟩=some v4 /\
 w.frozen? ⟨B,0,none⟩=false/\w.frozen? ⟨B,1,none⟩=false/\w.frozen? ⟨B,2,none⟩=false/\w.frozen? ⟨B,3,none⟩=false/\w.frozen? ⟨B,4,none⟩=false

section

variable {w w' wr wx:World} {B B' o:Nat} {v0 v1 v2 v3 v4 x:Value} {row:Option Nat}

theorem B5.to (h:B5 w B v0 v1 v2 v3 v4) (hb:Below w.heap.size w w'):B5 w' B v0 v1 v2 v3 v4:=by
 obtain ⟨z,a0,a1,a2,a3,a4,f0,f1,f2,f3,f4⟩:=h
 exact ⟨Nat.lt_of_lt_of_le z hb.size,(hb.cell (p:=⟨B,0,none⟩) z).trans a0,(hb.cell (p:=⟨B,1,none⟩) z).trans a1,(hb.cell (p:=⟨B,2,none⟩) z).trans a2,(hb.cell (p:=⟨B,3,none⟩) z).trans a3,(hb.cell (p:=⟨B,4,none⟩) z).trans a4,
  (hb.frozen (p:=⟨B,0,none⟩) z).trans f0,(hb.frozen (p:=⟨B,1,none⟩) z).trans f1,(hb.frozen (p:=⟨B,2,none⟩) z).trans f2,(hb.frozen (p:=⟨B,3,none⟩) z).trans f3,(hb.frozen (p:=⟨B,4,none⟩) z).trans f4⟩

theorem zB (hg:w.grownBy w' row) (hl:B<w.heap.size) (hne:row≠some B):w'.frozen? ⟨B,o,none⟩=w.frozen? ⟨B,o,none⟩:=by
 have:=hg.block B hl (fun k => hne k.symm)
 simp only [World.frozen?,this]

theorem B5.grown (h:B5 w B v0 v1 v2 v3 v4) (hg:w.grownBy w' row) (hne:row≠some B):B5 w' B v0 v1 v2 v3 v4:=by
 obtain ⟨z,a0,a1,a2,a3,a4,f0,f1,f2,f3,f4⟩:=h
 have hn:∀ o,some (⟨B,o,none⟩:Addr).block≠row:=fun o e => hne e.symm
 exact ⟨Nat.lt_of_lt_of_le z hg.size,hg.cell a0 (hn _),hg.cell a1 (hn _),hg.cell a2 (hn _),hg.cell a3 (hn _),hg.cell a4 (hn _),
  (zB hg z hne).trans f0,(zB hg z hne).trans f1,(zB hg z hne).trans f2,(zB hg z hne).trans f3,(zB hg z hne).trans f4⟩

theorem B5.other (h:B5 w B v0 v1 v2 v3 v4) (hne:B≠B'):B5 (w.setCell ⟨B',o,none⟩ x) B v0 v1 v2 v3 v4:=by
 obtain ⟨z,a0,a1,a2,a3,a4,f0,f1,f2,f3,f4⟩:=h
 refine ⟨by simp [go_sem];exact z,cP a0 (.inl hne) _,cP a1 (.inl hne) _,cP a2 (.inl hne) _,cP a3 (.inl hne) _,cP a4 (.inl hne) _,?_,?_,?_,?_,?_⟩ <;> simp [go_sem,f0,f1,f2,f3,f4]

theorem B5.set4 (h:B5 w B v0 v1 v2 v3 v4) (x:Value):B5 (w.setCell ⟨B,4,none⟩ x) B v0 v1 v2 v3 x:=by
 obtain ⟨z,a0,a1,a2,a3,a4,f0,f1,f2,f3,f4⟩:=h
 refine ⟨by simp [go_sem];exact z,cP a0 (.inr (by decide)) _,cP a1 (.inr (by decide)) _,cP a2 (.inr (by decide)) _,cP a3 (.inr (by decide)) _,zk a4 _,?_,?_,?_,?_,?_⟩ <;> simp [go_sem,f0,f1,f2,f3,f4]

theorem B5.own5 {base:Nat} {v:Value} {l:List Ins} {z0 z1 z2 z3:Int} {a:Option Addr} {n c:Nat} (h:B5 w B (.int .i64 z0) (.int .i64 z1) (.int .i64 z2) (.int .i64 z3) (.slice a n c)) (k:zaW base w v l) (hne:v.ownBlock≠some B) (u0 u1 u2 u3 u4:Value) :
  zaW base (((((w.setCell ⟨B,0,none⟩ u0).setCell ⟨B,1,none⟩ u1).setCell ⟨B,2,none⟩ u2).setCell ⟨B,3,none⟩ u3).setCell ⟨B,4,none⟩ u4) v l:=by
 obtain ⟨z,a0,a1,a2,a3,a4,_⟩:=h
 have k0:=k.setP hne a0 (fun z e => by cases e) u0
 have k1:=k0.setP hne (cP a1 (.inr (by decide)) _) (fun z e => by cases e) u1
 have k2:=k1.setP hne (cP (cP a2 (.inr (by decide)) _) (.inr (by decide)) _) (fun z e => by cases e) u2
 have k3:=k2.setP hne (cP (cP (cP a3 (.inr (by decide)) _) (.inr (by decide)) _) (.inr (by decide)) _) (fun z e => by cases e) u3
 exact k3.setP hne (cP (cP (cP (cP a4 (.inr (by decide)) _) (.inr (by decide)) _) (.inr (by decide)) _) (.inr (by decide)) _) (fun z e => by cases e) u4

def XB (wr wx:World) (t:Tn) (op to a b:Int):Prop :=
 Below wr.heap.size wr wx/\wr.heap.size+1<wx.heap.size /\
 wx.cell? ⟨wr.heap.size,0,none⟩=some (.int .u8 (t.op:Int))/\wx.cell? ⟨wr.heap.size,1,none⟩=some (.int .u8 (t.to:Int))/\wx.cell? ⟨wr.heap.size,2,none⟩=some (.int .u8 (t.a:Int))/\wx.cell? ⟨wr.heap.size,3,none⟩=some (.int .u8 (t.b:Int)) /\
 wx.cell? ⟨wr.heap.size+1,0,none⟩=some (.int .i64 op)/\wx.cell? ⟨wr.heap.size+1,1,none⟩=some (.int .i64 to)/\wx.cell? ⟨wr.heap.size+1,2,none⟩=some (.int .i64 a)/\wx.cell? ⟨wr.heap.size+1,3,none⟩=some (.int .i64 b) /\
 wx.cell? ⟨wr.heap.size+1,4,none⟩=some (.bool false)/\wx.cell? ⟨wr.heap.size+1,5,none⟩=some (.slice none 0 0)/\wx.cell? ⟨wr.heap.size+1,6,none⟩=some (.slice none 0 0) /\
 wx.frozen? ⟨wr.heap.size+1,0,none⟩=false/\wx.frozen? ⟨wr.heap.size+1,1,none⟩=false/\wx.frozen? ⟨wr.heap.size+1,2,none⟩=false/\wx.frozen? ⟨wr.heap.size+1,3,none⟩=false/\wx.frozen? ⟨wr.heap.size+1,4,none⟩=false/\wx.frozen? ⟨wr.heap.size+1,5,none⟩=false/\wx.frozen? ⟨wr.heap.size+1,6,none⟩=false

variable {t:Tn} {op to a b:Int}

theorem XB.put (h:XB wr wx t op to a b) {o:Nat} (ho:o<4) (z:Int):XB wr (wx.setCell ⟨wr.heap.size+1,o,none⟩ (.int .i64 z)) t (if o=0 then z else op) (if o=1 then z else to) (if o=2 then z else a) (if o=3 then z else b):=by
 obtain ⟨gb,hs,t0,t1,t2,t3,x0,x1,x2,x3,x4,x5,x6,y0,y1,y2,y3,y4,y5,y6⟩:=h
 have hne:wr.heap.size≠wr.heap.size+1:=by omega
 refine ⟨gb.setCell (by show _<=wr.heap.size+1;omega) _,by simp [go_sem];exact hs,cP t0 (.inl hne) _,cP t1 (.inl hne) _,cP t2 (.inl hne) _,cP t3 (.inl hne) _,?_,?_,?_,?_,cP x4 (.inr (by omega)) _,cP x5 (.inr (by omega)) _,cP x6 (.inr (by omega)) _,?_,?_,?_,?_,?_,?_,?_⟩
 ·split
  ·rename_i e;subst e;exact zk x0 _
  ·rename_i e;exact cP x0 (.inr (fun k => e k.symm)) _
 ·split
  ·rename_i e;subst e;exact zk x1 _
  ·rename_i e;exact cP x1 (.inr (fun k => e k.symm)) _
 ·split
  ·rename_i e;subst e;exact zk x2 _
  ·rename_i e;exact cP x2 (.inr (fun k => e k.symm)) _
 ·split
  ·rename_i e;subst e;exact zk x3 _
  ·rename_i e;exact cP x3 (.inr (fun k => e k.symm)) _
 all_goals simp [go_sem,y0,y1,y2,y3,y4,y5,y6]

theorem XB.put0 (h:XB wr wx t op to a b) (z:Int):XB wr (wx.setCell ⟨wr.heap.size+1,0,none⟩ (.int .i64 z)) t z to a b:=h.put (o:=0) (by decide) z

theorem XB.put1 (h:XB wr wx t op to a b) (z:Int):XB wr (wx.setCell ⟨wr.heap.size+1,1,none⟩ (.int .i64 z)) t op z a b:=h.put (o:=1) (by decide) z

theorem XB.put2 (h:XB wr wx t op to a b) (z:Int):XB wr (wx.setCell ⟨wr.heap.size+1,2,none⟩ (.int .i64 z)) t op to z b:=h.put (o:=2) (by decide) z

theorem XB.put3 (h:XB wr wx t op to a b) (z:Int):XB wr (wx.setCell ⟨wr.heap.size+1,3,none⟩ (.int .i64 z)) t op to a z:=h.put (o:=3) (by decide) z

theorem XB.drew (h:XB wr wx t op to a b):XB wr wx.drew t op to a b:=by
 obtain ⟨gb,hs,h⟩:=h
 exact ⟨gb.drew,hs,h⟩

theorem zii:(Tryz.prog.info? 49).map (fun i => (i.zero,i.size,i.bytes))=some (some (.agg #[.int .i64 0,.int .i64 0,.int .i64 0,.int .i64 0,.bool false,.slice none 0 0,.slice none 0 0]),7,88):=by kernel_rfl

end

theorem XB.to {w w' wr:World} {t:Tn} {op to a b:Int} (h:XB wr w t op to a b) (hb:Below w.heap.size w w'):XB wr w' t op to a b:=by
 obtain ⟨gb,hs,t0,t1,t2,t3,x0,x1,x2,x3,x4,x5,x6,y0,y1,y2,y3,y4,y5,y6⟩:=h
 have z:wr.heap.size<w.heap.size:=by omega
 exact ⟨bS gb hb,Nat.lt_of_lt_of_le hs hb.size,(hb.cell (p:=⟨wr.heap.size,0,none⟩) z).trans t0,(hb.cell (p:=⟨wr.heap.size,1,none⟩) z).trans t1,(hb.cell (p:=⟨wr.heap.size,2,none⟩) z).trans t2,(hb.cell (p:=⟨wr.heap.size,3,none⟩) z).trans t3,
  (hb.cell (p:=⟨wr.heap.size+1,0,none⟩) hs).trans x0,(hb.cell (p:=⟨wr.heap.size+1,1,none⟩) hs).trans x1,(hb.cell (p:=⟨wr.heap.size+1,2,none⟩) hs).trans x2,(hb.cell (p:=⟨wr.heap.size+1,3,none⟩) hs).trans x3,(hb.cell (p:=⟨wr.heap.size+1,4,none⟩) hs).trans x4,(hb.cell (p:=⟨wr.heap.size+1,5,none⟩) hs).trans x5,(hb.cell (p:=⟨wr.heap.size+1,6,none⟩) hs).trans x6,
  (hb.frozen (p:=⟨wr.heap.size+1,0,none⟩) hs).trans y0,(hb.frozen (p:=⟨wr.heap.size+1,1,none⟩) hs).trans y1,(hb.frozen (p:=⟨wr.heap.size+1,2,none⟩) hs).trans y2,(hb.frozen (p:=⟨wr.heap.size+1,3,none⟩) hs).trans y3,(hb.frozen (p:=⟨wr.heap.size+1,4,none⟩) hs).trans y4,(hb.frozen (p:=⟨wr.heap.size+1,5,none⟩) hs).trans y5,(hb.frozen (p:=⟨wr.heap.size+1,6,none⟩) hs).trans y6⟩

def MI (G:Nat) (rg sg:List Int):Prop:=∃ L wt,MInv G rg sg L wt

theorem MI.nil (G:Nat):MI G [] []:=⟨[],fun _ => 0,MInv.nil _ _⟩

theorem MI.wts {G:Nat} {rg sg:List Int} (h:MI G rg sg) {i:Nat} (hi:i<rg.length):1<=sg.getD i 0/\sg.getD i 0<=12:=by
 obtain ⟨L,wt,h⟩:=h
 have:=h.wts i hi
 omega

theorem zaW.mono {w:World} {base base':Nat} {v:Value} {l:List Ins} (h:zaW base w v l) (hb:base'<=base):zaW base' w v l:=by
 obtain ⟨xs,h1,h2⟩:=h
 refine ⟨xs,⟨h1.1,?_⟩,h2⟩
 rcases h1.2 with k|⟨g,cap,cur,hv,hg,r⟩
 ·exact .inl k
 ·exact .inr ⟨g,cap,cur,hv,Nat.le_trans hb hg,r⟩

end Go.Proofs.YtkjcdnlpjldhaaaGreat


namespace Go.Proofs.YtkjcdnlpjldhaaaGreat
open Go.RowKit Tw
attribute [local go_sem ↓] Go.wp_at_zero Go.wp_at_succ

theorem zfe (c:Cd) (v u:Value) (w:World) (hc:IsC w c v) (hd:IsC w c u) :
  Calls Tryz.prog 31 #[aggC c v,aggC c u] w (fun e w' => e=.returned (.bool true)/\Below w.heap.size w w'):=by
 obtain ⟨a0,n0,c0,rfl,H0,hm0⟩:=hc.1.open
 obtain ⟨a1,n1,c1,rfl,H1,hm1⟩:=hd.1.open
 obtain rfl:n1=n0:=by rw [<- H0.out,<- H1.out]
 have hm9:=hm0
 unfold maxLen at hm9
 obtain ⟨z0,hz0⟩:∃ z,c.ins=z:=⟨_,rfl⟩
 obtain ⟨z1,hz1⟩:∃ z,c.rows=z:=⟨_,rfl⟩
 obtain ⟨z2,hz2⟩:∃ z,c.cols=z:=⟨_,rfl⟩
 obtain ⟨z3,hz3⟩:∃ z,c.regs=z:=⟨_,rfl⟩
 show Calls Tryz.prog 31 #[.agg #[.int .i64 c.ins,.int .i64 c.rows,.int .i64 c.cols,.int .i64 c.regs,.slice a0 n1 c0],.agg #[.int .i64 c.ins,.int .i64 c.rows,.int .i64 c.cols,.int .i64 c.regs,.slice a1 n1 c1]] w _
 rw [hz0,hz1,hz2,hz3]
 have HcA:=Lib.hid hc
 have HcB:=Lib.hid hd
 clear hc hd hz0 hz1 hz2 hz3
 go_enter Tryz.func31,Tryz.ntmps31
 go_upto_region 1 with fail
 obtain ⟨W0,ap⟩:∃ W0,(w.alloc (.cells #[.int .i64 z0,.int .i64 z1,.int .i64 z2,.int .i64 z3,.slice a0 n1 c0] 24)).alloc (.cells #[.int .i64 z0,.int .i64 z1,.int .i64 z2,.int .i64 z3,.slice a1 n1 c1] 24)=W0:=⟨_,rfl⟩
 have zb:Below w.heap.size w W0:=by rw [<- ap];exact bS (bN _ _) (bN _ _)
 have hC:B5 W0 w.heap.size (.int .i64 z0) (.int .i64 z1) (.int .i64 z2) (.int .i64 z3) (.slice a0 n1 c0):=by
  rw [<- ap]
  unfold B5
  and_intros <;> first|(simp [go_sem];done)|(simp [go_sem];omega)
 have hD:B5 W0 (w.heap.size+1) (.int .i64 z0) (.int .i64 z1) (.int .i64 z2) (.int .i64 z3) (.slice a1 n1 c1):=by
  rw [<- ap]
  unfold B5
  and_intros <;> first|(simp [go_sem];done)|(simp [go_sem];omega)
 rw [ap]
 clear ap
 obtain ⟨cz,c0_,c1_,c2_,c3_,c4_,cf0,cf1,cf2,cf3,cf4⟩:=id hC
 obtain ⟨dz,d0_,d1_,d2_,d3_,d4_,df0,df1,df2,df3,df4⟩:=id hD
 go_wp2_with fail
 clear cz c0_ c1_ c2_ c3_ c4_ cf0 cf1 cf2 cf3 cf4 dz d0_ d1_ d2_ d3_ d4_ df0 df1 df2 df3 df4
 go_loopw [5] (fun si ww => ∃ k:Nat,k<=n1/\si=.int .i64 (k:Int)/\Below W0.heap.size W0 ww) (fun i _ => n1 - (intOf i).toNat)
 case atStart => exact ⟨0,Nat.zero_le _,rfl,Below.refl _ _⟩
 case round =>
 obtain ⟨k,hk,rfl,gb⟩:=hrel
 obtain ⟨cz,c0_,c1_,c2_,c3_,c4_,cf0,cf1,cf2,cf3,cf4⟩:=hC.to gb
 obtain ⟨dz,d0_,d1_,d2_,d3_,d4_,df0,df1,df2,df3,df4⟩:=hD.to gb
 by_cases hkn:k<n1
 ·have hki:(k:Int)<(n1:Int):=by omega
  have hkl:k<c.all.length:=by rw [H0.out];exact hkn
  have hbr:=bS zb gb
  obtain ⟨b,off,rfl,h7⟩:=(HcA.out.1.to hbr).nth hkl
  obtain ⟨b',off',rfl,h7'⟩:=(HcB.out.1.to hbr).nth hkl
  obtain ⟨x,hx⟩:∃ x,c.all[k]=x:=⟨_,rfl⟩
  rw [hx] at h7 h7'
  clear hx
  obtain ⟨s0,s1,s2,s3,⟨vn,vd,s4,s5,s6,hn,hd⟩,_⟩:=h7
  obtain ⟨t0,t1,t2,t3,⟨vn',vd',t4,t5,t6,hn',hd'⟩,_⟩:=h7'
  obtain ⟨op,to,xa,xb,ng,ln,ld⟩:=x
  simp only at s0 s1 s2 s3 s4 t0 t1 t2 t3 t4 hn hd hn' hd'
  obtain ⟨p1,m1,k1,rfl,J1,_⟩:=hn.open
  obtain ⟨p2,m2,k2,rfl,J2,_⟩:=hd.open
  obtain ⟨p3,m3,k3,rfl,J3,_⟩:=hn'.open
  obtain ⟨p4,m4,k4,rfl,J4,_⟩:=hd'.open
  have Hn:=Lib.hid hn
  have Hd:=Lib.hid hd
  have Hn':=Lib.hid hn'
  have Hd':=Lib.hid hd'
  clear hn hd hn' hd'
  have l1:=zj s0
  have l2:=zj t0
  have n1_:¬ (b=wr.heap.size):=by omega
  have n2_:¬ (b'=wr.heap.size):=by omega
  have n3_:¬ (w.heap.size=wr.heap.size):=by omega
  have n4_:¬ (w.heap.size+1=wr.heap.size):=by omega
  go_wp2_with fail
  obtain ⟨W1,aJ⟩:∃ W1,(wr.alloc (.cells #[.int .i64 op,.int .i64 to,.int .i64 xa,.int .i64 xb,.bool ng,.slice p1 m1 k1,.slice p2 m2 k2] 49)).alloc (.cells #[.int .i64 op,.int .i64 to,.int .i64 xa,.int .i64 xb,.bool ng,.slice p3 m3 k3,.slice p4 m4 k4] 49)=W1:=⟨_,rfl⟩
  have aS:Below wr.heap.size wr W1:=by rw [<- aJ];exact bS (bN _ _) (bN _ _)
  have dj:wr.heap.size+1<W1.heap.size:=by rw [<- aJ];simp
  have hX:∀ W',Below W1.heap.size W1 W'->(W'.cell? ⟨wr.heap.size,0,none⟩=some (.int .i64 op)/\W'.cell? ⟨wr.heap.size,1,none⟩=some (.int .i64 to)/\W'.cell? ⟨wr.heap.size,2,none⟩=some (.int .i64 xa)/\W'.cell? ⟨wr.heap.size,3,none⟩=some (.int .i64 xb)/\W'.cell? ⟨wr.heap.size+1,0,none⟩=some (.int .i64 op)/\W'.cell? ⟨wr.heap.size+1,1,none⟩=some (.int .i64 to)/\W'.cell? ⟨wr.heap.size+1,2,none⟩=some (.int .i64 xa)/\W'.cell? ⟨wr.heap.size+1,3,none⟩=some (.int .i64 xb)):=fun W' hb => by
   refine ⟨(hb.cell (p:=⟨_,_,none⟩) (by show wr.heap.size<_;omega)).trans ?_,(hb.cell (p:=⟨_,_,none⟩) (by show wr.heap.size<_;omega)).trans ?_,(hb.cell (p:=⟨_,_,none⟩) (by show wr.heap.size<_;omega)).trans ?_,(hb.cell (p:=⟨_,_,none⟩) (by show wr.heap.size<_;omega)).trans ?_,(hb.cell (p:=⟨_,_,none⟩) dj).trans ?_,(hb.cell (p:=⟨_,_,none⟩) dj).trans ?_,(hb.cell (p:=⟨_,_,none⟩) dj).trans ?_,(hb.cell (p:=⟨_,_,none⟩) dj).trans ?_⟩ <;> (rw [<- aJ];simp [go_sem])
  have HX:=Lib.hid hX
  clear hX
  rw [aJ]
  clear aJ
  refine (ziy ng _ _ ln ld ng _ _ ln ld _ ⟨Hn.out.to aS,Hd.out.to aS⟩ ⟨Hn'.out.to aS,Hd'.out.to aS⟩ true (by simp)).mono ?_
  rintro e w2 ⟨rfl,aM⟩
  clear s0 s1 s2 s3 s4 s5 s6 t0 t1 t2 t3 t4 t5 t6 cz c0_ c1_ c2_ c3_ c4_ cf0 cf1 cf2 cf3 cf4 dz d0_ d1_ d2_ d3_ d4_ df0 df1 df2 df3 df4
  obtain ⟨e0,e1,e2,e3,g0,g1,g2,g3⟩:=HX.out _ aM
  go_wp2_with fail
  go_roundw
  case rel => exact ⟨k+1,by omega,by go_num,bS gb (bS aS aM)⟩
  case measure => simp [intOf] <;> omega
 ·have hki:¬ ((k:Int)<(n1:Int)):=by omega
  go_wp2_with fail
  go_ret
  exact ⟨rfl,bS zb gb⟩

end Go.Proofs.YtkjcdnlpjldhaaaGreat

