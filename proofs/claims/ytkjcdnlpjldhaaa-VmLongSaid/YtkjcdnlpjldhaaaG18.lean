/-
  The texts VmRow, VmK, VmCells, VmPush, Vm8, Vm8b, merged.
-/
import Derived.Test.YtkjcdnlpjldhaaaG17
import Derived.Deep.AppendLies
import Derived.Test.YtkjcdnlpjldhaaaG10
import Derived.Deep.RegionHeld3
set_option linter.unusedVariables false
set_option linter.unusedSimpArgs false
set_option maxRecDepth 100000
set_option maxHeartbeats 400000000
namespace Go.Proofs.Ytkjcdnlpjldhaaa
open Go.RowKit Tw

def zaA (w:World) (g n:Nat) (F:Nat->Value):Prop:=g<w.heap.size/\∀ i,i<n->w.cell? ⟨g,i,none⟩=some (F i)/\w.frozen? ⟨g,i,none⟩=false

section

variable {w w':World} {g n:Nat} {F G:Nat->Value}

theorem zaA.lt (h:zaA w g n F):g<w.heap.size:=h.1

theorem zaA.to (h:zaA w g n F) (hb:Below w.heap.size w w'):zaA w' g n F :=
 ⟨Nat.lt_of_lt_of_le h.1 hb.size,fun i hi => ⟨(hb.cell (p:=⟨g,i,none⟩) h.1).trans (h.2 i hi).1,(hb.frozen (p:=⟨g,i,none⟩) h.1).trans (h.2 i hi).2⟩⟩

theorem zaA.drew (h:zaA w g n F):zaA w.drew g n F:=h.to (Below.refl _ _).drew

theorem zaA.alloc (h:zaA w g n F) (o:Obj):zaA (w.alloc o) g n F:=h.to (bN _ _)

theorem zaA.cast (h:zaA w g n F) (e:∀ i,i<n->F i=G i):zaA w g n G:=⟨h.1,fun i hi => ⟨(h.2 i hi).1.trans (by rw [e i hi]),(h.2 i hi).2⟩⟩

theorem zaA.set (h:zaA w g n F) (i:Nat) (x:Value):zaA (w.setCell ⟨g,i,none⟩ x) g n (fun j => if j=i then x else F j):=by
 refine ⟨by simpa using h.1,fun j hj => ⟨?_,by simp [go_sem,(h.2 j hj).2]⟩⟩
 by_cases e:j=i
 ·subst e;show _=some (if j=j then x else F j);rw [if_pos rfl];exact zH (h.2 j hj).1 x
 ·show _=some (if j=i then x else F j);rw [if_neg e];exact cP (h.2 j hj).1 (.inr e) x

theorem zaA.other (h:zaA w g n F) {b:Nat} (hb:g≠b) (o:Nat) (x:Value):zaA (w.setCell ⟨b,o,none⟩ x) g n F :=
 ⟨by simpa using h.1,fun j hj => ⟨cP (h.2 j hj).1 (.inl hb) x,by simp [go_sem,(h.2 j hj).2]⟩⟩

end

theorem zhA (w:World) {ops:Array Oper} {rest:List Oper} {o:Oper} {a:Act} {Q:Exit->Act->World->Prop} (hg:o.guard=none)
  (l c:Operand) (t e:TypeId) (hop:o.op=Op.makeSlice t l c) (hu:Try.prog.underlying t=some (.slice e)) (z:Value) (k bytes:Nat)
  (hi:(Try.prog.info? e).map (fun i => (i.zero,i.size,i.bytes))=some (some z,k,bytes)) (hk:z.cells.size=k) (hB:bytes<=100)
  (kl kc:IntKind) (L C:Int) (n:Nat) (hl:a.eval l=Value.int kl L) (hc:a.eval c=Value.int kc C) (hL:L=↑n) (hC:C=↑n) (hn:n<=1000000)
  (hK:∀ w',zaA w' w.heap.size (n*k) (fun j => z.cells[j % k]!)->Below w.heap.size w w' ->
   wpList Try.prog ops Q rest (a.put o.dst (.slice (some ⟨w.heap.size,0,none⟩) n n)) w') :
  wpList Try.prog ops Q (o :: rest) a w:=by
 obtain ⟨i0,hi0,hz0,hz1,hz2⟩:=info_parts hi
 refine wpList_make_full w hg l c t hop w.heap.size e i0 z k hu hi0 hz0 hz1 kl kc L C n hl hc hL hC ?_ (by simp [maxLen];omega) (Nat.le_refl _) ?_
 ·rw [hz2];exact Nat.le_trans (Nat.mul_le_mul hB hn) (by omega)
 intro w' hown hgrow
 have hb:Below w.heap.size w w':=(Below.refl _ _).grown hgrow (Nat.le_refl _) (fun k hk => by cases hk)
 refine hK w' ⟨(hown.lt w.heap.size rfl).2,fun j hj => ⟨?_,World.ownsRow.frozenAt hown j⟩⟩ hb
 rw [World.ownsRow.cellAt hown j hj]
 simp [madeCells,hj,hk]

def zaO (e:TypeId) (base:Nat) (w:World) (v:Value) (xs:List Value):Prop:=w.ownsRow base e 1 v xs.length xs

section

variable {e:TypeId} {base:Nat} {w w':World} {v:Value} {xs:List Value}

theorem zaO.nil (e:TypeId) (base:Nat) (w:World):zaO e base w (.slice none 0 0) []:=World.ownsRow_nil w base e 1

theorem zaO.lt (h:zaO e base w v xs):∀ k,v.ownBlock=some k->base<=k/\k<w.heap.size:=World.ownsRow.lt h

theorem zaO.to (h:zaO e base w v xs) (hb:Below w.heap.size w w'):zaO e base w' v xs:=by
 refine ⟨h.1,?_⟩
 rcases h.2 with h2|⟨g,cap,cur,hv,hg,hh,r⟩
 ·exact .inl h2
 ·refine .inr ⟨g,cap,cur,hv,hg,?_,r⟩
  have hlt:g<w.heap.size:=by
   rcases Nat.lt_or_ge g w.heap.size with h|h
   ·exact h
   ·rw [Array.getElem?_eq_none h] at hh;cases hh
  rw [hb.block g hlt];exact hh

theorem zaO.alloc (h:zaO e base w v xs) (o:Obj):zaO e base (w.alloc o) v xs:=h.to (bN _ _)

theorem zaO.drew (h:zaO e base w v xs):zaO e base w.drew v xs:=h.to (Below.refl _ _).drew

theorem zaO.open (h:zaO e base w v xs):∃ a cap,v=.slice a xs.length cap/\xs.length<=maxLen /\
  ∀ i,i<xs.length->∃ b,a=some ⟨b,0,none⟩/\w.cell? ⟨b,i,none⟩=xs[i]?/\base<=b:=by
 rcases h.2 with ⟨hv,h0⟩|⟨g,cap,cur,hv,hg,hh,hn,hm,hs,hx⟩
 ·exact ⟨none,0,by rw [hv,h0],by rw [h0];simp,fun i hi => absurd hi (by omega)⟩
 ·subst hv
  exact ⟨_,cap,rfl,by omega,fun i hi => ⟨g,rfl,World.ownsRow.cellAt h i (by omega),hg⟩⟩

end

end Go.Proofs.Ytkjcdnlpjldhaaa


namespace Go.Proofs.Ytkjcdnlpjldhaaa
open Go.RowKit Tw

def IsK (w:World) (ng:Bool) (v u:Value) (q:Rat):Prop:=IsQ w ng v u (zc q.num.natAbs) (zc q.den) q/\decide (q<0)=ng

theorem IsK.to {w w':World} {ng:Bool} {v u:Value} {q:Rat} (h:IsK w ng v u q) (hb:Below w.heap.size w w'):IsK w' ng v u q:=⟨h.1.to hb,h.2⟩

theorem zW.isK {lo hi:Nat} {w:World} {ng:Bool} {v u:Value} {q:Rat} (h:zW lo hi w ng v u q):IsK w ng v u q:=⟨h.isQ,h.2.2.1⟩

theorem zt {x:Rat} {n:Nat} (h:(zc x.num.natAbs).length=n):n=0 ↔ x=0:=by
 rw [ze] at h
 rw [<- h,zA,Int.natAbs_eq_zero,Rat.num_eq_zero]

theorem zcC {x:Rat} {n m:Nat} (h:(zc x.num.natAbs).length=n) (h':(zc x.den).length=m):szq x=max n m:=by
 rw [ze] at h h'
 unfold szq
 rw [h,h']

abbrev put3 (w:World) (b o:Nat) (x y z:Value):World:=((w.setCell ⟨b,o,none⟩ x).setCell ⟨b,o+1,none⟩ y).setCell ⟨b,o+2,none⟩ z

def zE (w:World) (b o:Nat) (c0 c1 c2:Value):Prop:=w.cell? ⟨b,o,none⟩=some c0/\w.cell? ⟨b,o+1,none⟩=some c1/\w.cell? ⟨b,o+2,none⟩=some c2 /\
 w.frozen? ⟨b,o,none⟩=false/\w.frozen? ⟨b,o+1,none⟩=false/\w.frozen? ⟨b,o+2,none⟩=false

theorem zE.lt {w:World} {b o:Nat} {x y z:Value} (h:zE w b o x y z):b<w.heap.size:=zj h.1

theorem zE.to {w w':World} {b o:Nat} {x y z:Value} (h:zE w b o x y z) (hb:Below w.heap.size w w'):zE w' b o x y z :=
 ⟨(hb.cell (p:=⟨b,o,none⟩) h.lt).trans h.1,(hb.cell (p:=⟨b,o+1,none⟩) h.lt).trans h.2.1,(hb.cell (p:=⟨b,o+2,none⟩) h.lt).trans h.2.2.1,
  (hb.frozen (p:=⟨b,o,none⟩) h.lt).trans h.2.2.2.1,(hb.frozen (p:=⟨b,o+1,none⟩) h.lt).trans h.2.2.2.2.1,(hb.frozen (p:=⟨b,o+2,none⟩) h.lt).trans h.2.2.2.2.2⟩

end Go.Proofs.Ytkjcdnlpjldhaaa


namespace Go.Proofs.Ytkjcdnlpjldhaaa
open Go.RowKit Tw

section

variable {w w':World} {ng:Bool} {v u x y z:Value} {l:List Nat} {q:Rat}

theorem Rd.put (h:Rd w v l) {p:Addr} {c:Value} (hc:w.cell? p=some c) (hn:∀ z,c≠.int .u32 z) (x:Value):Rd (w.setCell p x) v l:=by
 refine ⟨h.1,?_⟩
 rcases h.2 with h|⟨b,off,cap,hv,hl,hc',hm,hcell⟩
 ·exact .inl h
 ·refine .inr ⟨b,off,cap,hv,hl,hc',hm,fun i hi => ?_⟩
  have h1:=hcell i hi
  have hne:p≠⟨b,off+i,none⟩:=fun e => by
   subst e
   rw [h1] at hc
   injection hc with hc
   exact hn _ hc.symm
  rw [World.cell?_setCell_other (h:=by first|exact hne|exact hne.symm),h1]

theorem zE.put_self {b o:Nat} {c0 c1 c2:Value} (h:zE w b o c0 c1 c2) (x y z:Value):zE (put3 w b o x y z) b o x y z :=
 ⟨cP (cP (zH h.1 _) (.inr (by omega)) _) (.inr (by omega)) _,cP (zH (cP h.2.1 (.inr (by omega)) _) _) (.inr (by omega)) _,
  zH (cP (cP h.2.2.1 (.inr (by omega)) _) (.inr (by omega)) _) _,by simp [go_sem,h.2.2.2.1],by simp [go_sem,h.2.2.2.2.1],by simp [go_sem,h.2.2.2.2.2]⟩

theorem zbt {b o b' o':Nat} {c:Value} (h:w.cell? ⟨b,o,none⟩=some c) (hne:b≠b'\/o<o'\/o'+2<o) (x y z:Value):(put3 w b' o' x y z).cell? ⟨b,o,none⟩=some c:=by
 have h0:b≠b'\/o≠o':=by omega
 have h1:b≠b'\/o≠o'+1:=by omega
 have h2:b≠b'\/o≠o'+2:=by omega
 exact cP (cP (cP h h0 _) h1 _) h2 _

theorem zbe {b o b' o':Nat} {f:Bool} (h:w.frozen? ⟨b,o,none⟩=f) (x y z:Value):(put3 w b' o' x y z).frozen? ⟨b,o,none⟩=f:=by simp [go_sem,h]

theorem zE.put {b o b' o':Nat} {c0 c1 c2:Value} (h:zE w b o c0 c1 c2) (hne:b≠b'\/o+2<o'\/o'+2<o) (x y z:Value):zE (put3 w b' o' x y z) b o c0 c1 c2 :=
 ⟨zbt h.1 (by omega) _ _ _,zbt h.2.1 (by omega) _ _ _,zbt h.2.2.1 (by omega) _ _ _,zbe h.2.2.2.1 _ _ _,zbe h.2.2.2.2.1 _ _ _,zbe h.2.2.2.2.2 _ _ _⟩

theorem Rd.put3 (h:Rd w v l) {b o:Nat} {b0:Bool} {a a':Option Addr} {n c n' c':Nat} (ho:zE w b o (.bool b0) (.slice a n c) (.slice a' n' c')) (x y z:Value):Rd (put3 w b o x y z) v l:=by
 have h1:=h.put ho.1 (fun z e => by cases e) x
 have h2:=h1.put (cP ho.2.1 (.inr (by omega)) x) (fun z e => by cases e) y
 exact h2.put (cP (cP ho.2.2.1 (.inr (by omega)) x) (.inr (by omega)) y) (fun z e => by cases e) z

theorem IsK.put3 (h:IsK w ng v u q) {b o:Nat} {b0:Bool} {a a':Option Addr} {n c n' c':Nat} (ho:zE w b o (.bool b0) (.slice a n c) (.slice a' n' c')) (x y z:Value):IsK (put3 w b o x y z) ng v u q :=
 ⟨⟨h.1.1.put3 ho x y z,h.1.2.1.put3 ho x y z,h.1.2.2⟩,h.2⟩

def zL (w:World) (g N:Nat) (P:Nat->Prop) (R:Nat->Rat):Prop :=
 ∀ r,r<N->∃ b a n c a' n' c',zE w g (r*3) (.bool b) (.slice a n c) (.slice a' n' c')/\(P r->IsK w b (.slice a n c) (.slice a' n' c') (R r))

theorem zL.to {g N:Nat} {P:Nat->Prop} {R:Nat->Rat} (h:zL w g N P R) (hb:Below w.heap.size w w'):zL w' g N P R:=fun r hr =>
 let ⟨b,a,n,c,a',n',c',h1,h2⟩:=h r hr
 ⟨b,a,n,c,a',n',c',h1.to hb,fun hp => (h2 hp).to hb⟩

theorem zL.cast {g N:Nat} {P P':Nat->Prop} {R R':Nat->Rat} (h:zL w g N P R) (hP:∀ r,r<N->P' r->P r/\R r=R' r):zL w g N P' R':=fun r hr =>
 let ⟨b,a,n,c,a',n',c',h1,h2⟩:=h r hr
 ⟨b,a,n,c,a',n',c',h1,fun hp => by have:=hP r hr hp;rw [<- this.2];exact h2 this.1⟩

theorem zL.put {g N T:Nat} {P:Nat->Prop} {R:Nat->Rat} (h:zL w g N P R) (hT:T<N) {a a':Option Addr} {n c n' c':Nat} (hk:IsK w ng (.slice a n c) (.slice a' n' c') q) :
  zL (put3 w g (T*3) (.bool ng) (.slice a n c) (.slice a' n' c')) g N (fun r => r=T\/P r) (fun r => if r=T then q else R r):=by
 obtain ⟨b0,a0,n0,c0,a0',n0',c0',o0,_⟩:=h T hT
 intro r hr
 by_cases e:r=T
 ·subst e
  exact ⟨ng,a,n,c,a',n',c',o0.put_self _ _ _,fun _ => by show IsK _ _ _ _ (if r=r then q else R r);rw [if_pos rfl];exact hk.put3 o0 _ _ _⟩
 ·obtain ⟨b1,a1,n1,c1,a1',n1',c1',o1,k1⟩:=h r hr
  refine ⟨b1,a1,n1,c1,a1',n1',c1',o1.put (.inr (by omega)) _ _ _,fun hp => ?_⟩
  show IsK _ _ _ _ (if r=T then q else R r)
  rw [if_neg e]
  rcases hp with hp|hp
  ·exact absurd hp e
  ·exact (k1 hp).put3 o0 _ _ _

theorem zL.other {g N b o:Nat} {P:Nat->Prop} {R:Nat->Rat} (h:zL w g N P R) (hne:g≠b) {b0:Bool} {a a':Option Addr} {n c n' c':Nat} (ho:zE w b o (.bool b0) (.slice a n c) (.slice a' n' c')) (x y z:Value) :
  zL (put3 w b o x y z) g N P R:=fun r hr =>
 let ⟨b1,a1,n1,c1,a1',n1',c1',o1,k1⟩:=h r hr
 ⟨b1,a1,n1,c1,a1',n1',c1',o1.put (.inl hne) _ _ _,fun hp => (k1 hp).put3 ho _ _ _⟩

theorem row3_new {g N:Nat} {t:TypeId} {cs:Array Value} (hh:w.heap[g]?=some (.cells cs t (0,0))) (hs:∀ r,r<N->cs[r*3]?=some (.bool false)/\cs[r*3+1]?=some (.slice none 0 0)/\cs[r*3+2]?=some (.slice none 0 0)) (R:Nat->Rat) :
  zL w g N (fun _ => False) R:=fun r hr => by
 obtain ⟨s0,s1,s2⟩:=hs r hr
 refine ⟨false,none,0,0,none,0,0,⟨?_,?_,?_,frozen_of_row w g _ cs t hh,frozen_of_row w g _ cs t hh,frozen_of_row w g _ cs t hh⟩,fun h => h.elim⟩
 ·rw [cell_of_row w g _ cs t (0,0) hh,s0]
 ·rw [cell_of_row w g _ cs t (0,0) hh,s1]
 ·rw [cell_of_row w g _ cs t (0,0) hh,s2]

theorem made3 {N r:Nat} (hr:r<N) (z0 z1 z2:Value) :
  (madeCells #[z0,z1,z2] (N*3))[r*3]?=some z0/\(madeCells #[z0,z1,z2] (N*3))[r*3+1]?=some z1/\(madeCells #[z0,z1,z2] (N*3))[r*3+2]?=some z2:=by
 have h0:r*3<N*3:=by omega
 have h1:r*3+1<N*3:=by omega
 have h2:r*3+2<N*3:=by omega
 unfold madeCells
 refine ⟨?_,?_,?_⟩ <;> simp [h0,h1,h2]

def Far (v:Value) (row:Option Nat):Prop:=∀ b o n c,v=.slice (some ⟨b,o,none⟩) n c->0<n->row≠some b

theorem Rd.grown {row:Option Nat} (h:Rd w v l) (hg:w.grownBy w' row) (hf:Far v row):Rd w' v l:=by
 refine ⟨h.1,?_⟩
 rcases h.2 with h|⟨b,off,cap,hv,hl,hc,hm,hcell⟩
 ·exact .inl h
 ·refine .inr ⟨b,off,cap,hv,hl,hc,hm,fun i hi => ?_⟩
  have h1:=hcell i hi
  rw [hg.cell_far ⟨b,off+i,none⟩ (zj h1) (fun e => hf _ _ _ _ hv hl e.symm)]
  exact h1

theorem IsK.grown {row:Option Nat} (h:IsK w ng v u q) (hg:w.grownBy w' row) (hf:Far v row) (hf':Far u row):IsK w' ng v u q :=
 ⟨⟨h.1.1.grown hg hf,h.1.2.1.grown hg hf',h.1.2.2⟩,h.2⟩

theorem Rd.far_new (h:Rd w v l) {g:Nat} (hg:w.heap.size<=g):Far v (some g):=by
 intro b o n c e hn
 rcases h.2 with ⟨_,a,cap,hv,_⟩|⟨b',off,cap,hv,hl,hc,hm,hcell⟩
 ·rw [hv] at e
  injection e with e1 e2 e3
  omega
 ·rw [hv] at e
  injection e with e1 e2 e3
  injection e1 with e1
  injection e1 with e1 e4
  have h1:=zj (hcell 0 hl)
  intro k
  injection k with k
  omega

theorem Own.far {lo g:Nat} (h:Own lo w v l) (hg:g<lo):Far v (some g):=by
 intro b o n c e hn k
 injection k with k
 have:=(h.lt b (by rw [e];rfl)).1
 omega

def zaF (base:Nat) (w:World) (v:Value) (qs:List Rat):Prop :=
 ∃ xs,w.ownsRow base 25 3 v qs.length xs/\∀ k (h:k<qs.length),∃ b a n c a' n' c',xs[k*3]?=some (.bool b)/\xs[k*3+1]?=some (.slice a n c)/\xs[k*3+2]?=some (.slice a' n' c') /\
  IsK w b (.slice a n c) (.slice a' n' c') qs[k]/\Far (.slice a n c) v.ownBlock/\Far (.slice a' n' c') v.ownBlock

theorem zaF.nil (base:Nat) (w:World):zaF base w (.slice none 0 0) []:=⟨[],World.ownsRow_nil w base _ 3,fun k h => absurd h (by simp)⟩

theorem zbD {base:Nat} {e:TypeId} {s n:Nat} {xs:List Value} (h:w.ownsRow base e s v n xs) (hb:Below w.heap.size w w'):w'.ownsRow base e s v n xs:=by
 refine ⟨h.1,?_⟩
 rcases h.2 with h2|⟨g,cap,cur,hv,hg,hh,r⟩
 ·exact .inl h2
 ·refine .inr ⟨g,cap,cur,hv,hg,?_,r⟩
  have hlt:g<w.heap.size:=by
   rcases Nat.lt_or_ge g w.heap.size with h|h
   ·exact h
   ·rw [Array.getElem?_eq_none h] at hh;cases hh
  rw [hb.block g hlt];exact hh

theorem zaF.to {base:Nat} {qs:List Rat} (h:zaF base w v qs) (hb:Below w.heap.size w w'):zaF base w' v qs:=by
 obtain ⟨xs,h1,h2⟩:=h
 refine ⟨xs,zbD h1 hb,fun k hk => ?_⟩
 obtain ⟨b,a,n,c,a',n',c',s0,s1,s2,k1,f1,f2⟩:=h2 k hk
 exact ⟨b,a,n,c,a',n',c',s0,s1,s2,k1.to hb,f1,f2⟩

theorem zaF.len {base:Nat} {qs:List Rat} (h:zaF base w v qs):∃ xs,w.ownsRow base 25 3 v qs.length xs:=⟨_,h.choose_spec.1⟩

theorem zaF.lt {base:Nat} {qs:List Rat} (h:zaF base w v qs):∀ k,v.ownBlock=some k->base<=k/\k<w.heap.size:=by
 obtain ⟨xs,h1,_⟩:=h
 exact World.ownsRow.lt h1

theorem zaF.form {base:Nat} {qs:List Rat} (h:zaF base w v qs):∃ a cap,v=.slice a qs.length cap/\(0<qs.length->∃ g,a=some ⟨g,0,none⟩/\base<=g/\g<w.heap.size):=by
 obtain ⟨xs,h1,_⟩:=h
 rcases h1.2 with ⟨hv,h0⟩|⟨g,cap,cur,hv,hg,hh,r⟩
 ·exact ⟨none,0,by rw [hv,h0],fun h => by omega⟩
 ·exact ⟨_,cap,hv,fun _ => ⟨g,rfl,hg,(Array.getElem?_eq_some_iff.1 hh).1⟩⟩

theorem zaF.push {base:Nat} {qs:List Rat} (h:zaF base w v qs) {xs:List Value} (hx:w.ownsRow base 25 3 v qs.length xs) {g cap:Nat} {b:Bool} {a a':Option Addr} {n c n' c':Nat}
  (hown:w'.ownsRow base 25 3 (.slice (some ⟨g,0,none⟩) (qs.length+1) cap) (qs.length+1) (xs++[.bool b,.slice a n c,.slice a' n' c'])) (hgrow:w.grownBy w' v.ownBlock) (hat:v.ownBlock=some g\/g=w.heap.size)
  (hk:IsK w b (.slice a n c) (.slice a' n' c') q) (f1:Far (.slice a n c) v.ownBlock) (f2:Far (.slice a' n' c') v.ownBlock):zaF base w' (.slice (some ⟨g,0,none⟩) (qs.length+1) cap) (qs++[q]):=by
 have hl:(qs++[q]).length=qs.length+1:=by simp
 obtain ⟨ys,hy,h2⟩:=h
 have hxy:xs=ys:=by
  rcases hx.2 with ⟨hv,h0⟩|⟨g1,cap1,cur1,hv1,hg1,hh1,a1,a2,a3,a4⟩
  ·have l1:=hx.1
   have l2:=hy.1
   rw [h0] at l1 l2
   rw [List.eq_nil_of_length_eq_zero (by omega:xs.length=0),List.eq_nil_of_length_eq_zero (by omega:ys.length=0)]
  ·rcases hy.2 with ⟨hv2,_⟩|⟨g2,cap2,cur2,hv2,hg2,hh2,b1,b2,b3,b4⟩
   ·rw [hv1] at hv2;cases hv2
   ·rw [hv1] at hv2
    injection hv2 with e1 e2 e3
    injection e1 with e1
    injection e1 with e1 _
    subst e1
    rw [hh1] at hh2
    injection hh2 with hh2
    injection hh2 with hh2
    subst hh2
    rw [<- a4,<- b4]
 subst hxy
 have hlen:xs.length=qs.length*3:=hx.1
 have far:∀ {s:Value} {l:List Nat},Rd w s l->Far s v.ownBlock->Far s (some g):=fun hr hf => by
  rcases hat with e|e
  ·rw [<- e];exact hf
  ·exact hr.far_new (by omega)
 refine ⟨_,by rw [hl];exact hown,fun k hk' => ?_⟩
 rcases Nat.lt_or_ge k qs.length with hlt|hge
 ·obtain ⟨b1,a1,n1,c1,a1',n1',c1',s0,s1,s2,k1,g1,g2⟩:=h2 k hlt
  refine ⟨b1,a1,n1,c1,a1',n1',c1',?_,?_,?_,?_,far k1.1.1 g1,far k1.1.2.1 g2⟩
  ·rw [List.getElem?_append_left (by omega)];exact s0
  ·rw [List.getElem?_append_left (by omega)];exact s1
  ·rw [List.getElem?_append_left (by omega)];exact s2
  ·rw [List.getElem_append_left hlt]
   exact k1.grown hgrow g1 g2
 ·have e:k=qs.length:=by omega
  subst e
  refine ⟨b,a,n,c,a',n',c',?_,?_,?_,?_,far hk.1.1 f1,far hk.1.2.1 f2⟩
  ·rw [List.getElem?_append_right (by omega),hlen];simp
  ·rw [List.getElem?_append_right (by omega),hlen];simp
  ·rw [List.getElem?_append_right (by omega),hlen];simp
  ·simp only [List.getElem_append_right (Nat.le_refl _),Nat.sub_self,List.getElem_cons_zero]
   exact hk.grown hgrow f1 f2

theorem zaF.row3 {base g cap:Nat} {qs:List Rat} (h:zaF base w (.slice (some ⟨g,0,none⟩) qs.length cap) qs):zL w g qs.length (fun _ => True) (fun r => qs.getD r 0):=by
 obtain ⟨xs,h1,h2⟩:=h
 intro r hr
 obtain ⟨b,a,n,c,a',n',c',s0,s1,s2,k1,f1,f2⟩:=h2 r hr
 refine ⟨b,a,n,c,a',n',c',⟨?_,?_,?_,World.ownsRow.frozenAt h1 _,World.ownsRow.frozenAt h1 _,World.ownsRow.frozenAt h1 _⟩,fun _ => ?_⟩
 ·rw [World.ownsRow.cellAt h1 _ (by omega)];exact s0
 ·rw [World.ownsRow.cellAt h1 _ (by omega)];exact s1
 ·rw [World.ownsRow.cellAt h1 _ (by omega)];exact s2
 ·show IsK _ _ _ _ (qs.getD r 0)
  rw [show qs.getD r 0=qs[r] by simp [hr]]
  exact k1

def zI (q:Rat):Rt:=⟨decide (q<0),zc q.num.natAbs,zc q.den⟩

theorem zL.rdR {g N cap:Nat} {P:Nat->Prop} {R:Nat->Rat} (h:zL w g N P R) (hP:∀ r,r<N->P r) (h1:N<=cap) (h2:cap<=maxLen):RdR w (.slice (some ⟨g,0,none⟩) N cap) ((List.range N).map fun r => zI (R r)):=by
 refine ⟨some ⟨g,0,none⟩,cap,by simp,by simp;exact h1,h2,fun i hi => ?_⟩
 have hi':i<N:=by simpa using hi
 obtain ⟨b,a,n,c,a',n',c',o1,k1⟩:=h i hi'
 have hk:=k1 (hP i hi')
 refine ⟨g,0,rfl,?_⟩
 rw [List.getElem_map,List.getElem_range]
 refine ⟨.slice a n c,.slice a' n' c',?_,?_,?_,hk.1.1,hk.1.2.1⟩
 ·rw [show (zI (R i)).ng=b from hk.2,Nat.zero_add];exact o1.1
 ·rw [Nat.zero_add];exact o1.2.1
 ·rw [Nat.zero_add];exact o1.2.2.1

theorem zaF.rdR {base:Nat} {qs:List Rat} (h:zaF base w v qs):RdR w v (qs.map zI):=by
 obtain ⟨xs,h1,h2⟩:=h
 rcases h1.2 with ⟨hv,h0⟩|⟨g,cap,cur,hv,hg,hh,hn,hm,r⟩
 ·refine ⟨none,0,by rw [hv,List.length_map,h0],by rw [List.length_map,h0];exact Nat.le_refl _,Nat.zero_le _,fun i hi => ?_⟩
  rw [List.length_map,h0] at hi
  exact absurd hi (by omega)
 ·refine ⟨_,cap,by rw [hv,List.length_map],by rw [List.length_map];exact hn,hm,fun i hi => ?_⟩
  have hi':i<qs.length:=by simpa using hi
  subst hv
  obtain ⟨b,a,n,c,a',n',c',s0,s1,s2,k1,f1,f2⟩:=h2 i hi'
  refine ⟨g,0,rfl,?_⟩
  rw [List.getElem_map]
  refine ⟨.slice a n c,.slice a' n' c',?_,?_,?_,k1.1.1,k1.1.2.1⟩
  ·rw [show (zI qs[i]).ng=b from k1.2,Nat.zero_add,World.ownsRow.cellAt h1 _ (by omega)];exact s0
  ·rw [Nat.zero_add,World.ownsRow.cellAt h1 _ (by omega)];exact s1
  ·rw [Nat.zero_add,World.ownsRow.cellAt h1 _ (by omega)];exact s2

end

theorem ziZ (q:Rat):(zI q).num=q:=by
 unfold zI Rt.num
 simp only
 rw [vL,vL,zbW]

end Go.Proofs.Ytkjcdnlpjldhaaa


namespace Go.Proofs.Ytkjcdnlpjldhaaa
open Go.RowKit Tw

section

variable {w w' wr w2 w4:World} {v u:Value} {base hi g cap:Nat} {qs:List Rat} {q:Rat} {xs:List Value} {ng:Bool} {a a':Option Addr} {n c n' c':Nat} {t:TypeId}

theorem zaF.drew (h:zaF base w v qs):zaF base w.drew v qs:=h.to (Below.refl _ _).drew

theorem Far.of_lt {lo:Nat} {s:Value} {l:List Nat} (h:Own lo w s l) (hv:∀ k,v.ownBlock=some k->k<lo):Far s v.ownBlock:=by
 intro b o n c e hn k
 have h1:=(h.lt b (by rw [e];rfl)).1
 have h2:=hv b k
 omega

theorem zjw {K:Nat} (hK:qs.length=K) (hO:zaF base wr v qs) (hx:wr.ownsRow base 25 3 v K xs) (aL:Below wr.heap.size wr w2) (g2:zW wr.heap.size hi w2 ng (.slice a n c) (.slice a' n' c') q) (hbase:base<=wr.heap.size)
  (hown:w4.ownsRow base 25 3 (.slice (some ⟨g,0,none⟩) (K+1) cap) (K+1) (xs++[.bool ng,.slice a n c,.slice a' n' c']))
  (hgrow:(w2.alloc (.cells #[.bool ng,.slice a n c,.slice a' n' c'] t)).grownBy w4 v.ownBlock) (hat:v.ownBlock=some g\/g=(w2.alloc (.cells #[.bool ng,.slice a n c,.slice a' n' c'] t)).heap.size) :
  zaF base w4 (.slice (some ⟨g,0,none⟩) (K+1) cap) (qs++[q])/\Below base wr w4:=by
 subst hK
 have bM:=bS aL (bN w2 (.cells #[.bool ng,.slice a n c,.slice a' n' c'] t))
 refine ⟨zaF.push (hO.to bM) (zbD hx bM) hown hgrow hat (g2.isK.to (bN _ _)) (Far.of_lt g2.1 (fun k e => (hO.lt k e).2)) (Far.of_lt g2.2.1 (fun k e => (hO.lt k e).2)),?_⟩
 exact (bM.mono hbase).grown hgrow (Nat.le_trans hbase bM.size) (fun k e => (hO.lt k e).1)

theorem zjx:∀ j u,[Value.bool ng,.slice a n c,.slice a' n' c'][j]?=some u->(w2.alloc (.cells #[.bool ng,.slice a n c,.slice a' n' c'] t)).cell? ((⟨w2.heap.size,0,none⟩:Addr).add j)=some u:=by
 intro j u hu
 exact World.news_of_block (w:=w2.alloc (.cells #[.bool ng,.slice a n c,.slice a' n' c'] t)) (B:=w2.heap.size) (cs:=#[.bool ng,.slice a n c,.slice a' n' c']) (t:=t) (fr:=(0,0)) (heap_alloc_new _ _) j u (by simpa using hu)

theorem push_one:∀ u ∈ [Value.bool ng,.slice a n c,.slice a' n' c'],u.oneCell'=true:=by
 intro u hu
 simp only [List.mem_cons,List.not_mem_nil,or_false] at hu
 rcases hu with rfl|rfl|rfl <;> rfl

theorem zaF.setB (h:zaF base w v qs) {B o:Nat} (hne:v.ownBlock≠some B) {a:Option Addr} {n c:Nat} (hc:w.cell? ⟨B,o,none⟩=some (.slice a n c)) (x:Value):zaF base (w.setCell ⟨B,o,none⟩ x) v qs:=by
 obtain ⟨xs,h1,h2⟩:=h
 refine ⟨xs,Go.ownsRow_setCell_other h1 (fun e => hne e) x,fun k hk => ?_⟩
 obtain ⟨b,a1,n1,c1,a2,n2,c2,s0,s1,s2,k1,f1,f2⟩:=h2 k hk
 exact ⟨b,a1,n1,c1,a2,n2,c2,s0,s1,s2,⟨⟨k1.1.1.put hc (fun z e => by cases e) x,k1.1.2.1.put hc (fun z e => by cases e) x,k1.1.2.2⟩,k1.2⟩,f1,f2⟩

end

end Go.Proofs.Ytkjcdnlpjldhaaa


namespace Go.Proofs.Ytkjcdnlpjldhaaa
open Go.RowKit Tw
attribute [local go_sem ↓] Go.wp_at_zero Go.wp_at_succ

def zy (w:World) (B g N:Nat) (u vJ:Value) (rows cols:Int):Prop :=
 w.cell? ⟨B,0,none⟩=some u/\w.cell? ⟨B,1,none⟩=some (.slice (some ⟨g,0,none⟩) N N)/\w.cell? ⟨B,2,none⟩=some (.int .i64 rows)/\w.cell? ⟨B,3,none⟩=some (.int .i64 cols)/\w.cell? ⟨B,4,none⟩=some vJ

theorem zy.lt {w:World} {B g N:Nat} {u vJ:Value} {rows cols:Int} (h:zy w B g N u vJ rows cols):B<w.heap.size:=zj h.1

theorem zy.to {w w':World} {B g N:Nat} {u vJ:Value} {rows cols:Int} (h:zy w B g N u vJ rows cols) (hb:Below w.heap.size w w'):zy w' B g N u vJ rows cols :=
 ⟨(hb.cell (p:=⟨B,0,none⟩) h.lt).trans h.1,(hb.cell (p:=⟨B,1,none⟩) h.lt).trans h.2.1,(hb.cell (p:=⟨B,2,none⟩) h.lt).trans h.2.2.1,(hb.cell (p:=⟨B,3,none⟩) h.lt).trans h.2.2.2.1,(hb.cell (p:=⟨B,4,none⟩) h.lt).trans h.2.2.2.2⟩

def zaW (w:World) (b o:Nat) (x y z:Value):Prop:=w.cell? ⟨b,o,none⟩=some x/\w.cell? ⟨b,o+1,none⟩=some y/\w.cell? ⟨b,o+2,none⟩=some z

theorem zaW.lt {w:World} {b o:Nat} {x y z:Value} (h:zaW w b o x y z):b<w.heap.size:=zj h.1

theorem zaW.to {w w':World} {b o:Nat} {x y z:Value} (h:zaW w b o x y z) (hb:Below w.heap.size w w'):zaW w' b o x y z :=
 ⟨(hb.cell (p:=⟨b,o,none⟩) h.lt).trans h.1,(hb.cell (p:=⟨b,o+1,none⟩) h.lt).trans h.2.1,(hb.cell (p:=⟨b,o+2,none⟩) h.lt).trans h.2.2⟩

theorem zcV (mB g N:Nat) (u vJ:Value) (rows cols:Int) (op to:Int) (ng:Bool) (vn vd:Value) (lw1 lw2:List Nat) (R1:Nat) (nr1:Bool) (vr1 ur1:Value) (lr1 kr1:List Nat) (R2:Nat) (nr2:Bool) (vr2 ur2:Value) (lr2 kr2:List Nat) {x y:Rat}  (w:World) (hw:IsF w vn vd lw1 lw2) (hm:zy w mB g N u vJ rows cols) (hN:N<=100000) (hr1:R1<N) (tr1:zaW w g (R1*3) (.bool nr1) vr1 ur1) (qr1:IsQ w nr1 vr1 ur1 lr1 kr1 x) (hr2:R2<N) (tr2:zaW w g (R2*3) (.bool nr2) vr2 ur2) (qr2:IsQ w nr2 vr2 ur2 lr2 kr2 y) (q:Rat) (hq:x+y=q) (hs:Hid (szq q<=4097))  :
  Calls Try.prog 34 #[.pointer (some ⟨mB,0,none⟩),.agg #[.int .i64 op,.int .i64 to,.int .i64 (R1:Int),.int .i64 (R2:Int),.bool ng,vn,vd]] w (zp w q):=by
 have Hq:=Lib.hid hq
 clear hq
 obtain ⟨a0,n0,c0,rfl,H0,hm0⟩:=hw.1.open
 obtain ⟨a1,n1,c1,rfl,H1,hm1⟩:=hw.2.open
 obtain ⟨ra1,rn1,rc1,rfl,RH1,rm1⟩:=qr1.1.open
 obtain ⟨sa1,sn1,sc1,rfl,SH1,sm1⟩:=qr1.2.1.open
 have ri1:(R1:Int)<(N:Int):=by omega
 obtain ⟨ra2,rn2,rc2,rfl,RH2,rm2⟩:=qr2.1.open
 obtain ⟨sa2,sn2,sc2,rfl,SH2,sm2⟩:=qr2.2.1.open
 have ri2:(R2:Int)<(N:Int):=by omega
 have lm:=hm.lt
 have lt1:=tr1.lt
 have lt2:=tr2.lt
 go_enter Try.func34,Try.ntmps34
 go_wp2_with fail
 obtain ⟨W0,aq⟩:∃ W0,(w.alloc (.cells #[.int .i64 op,.int .i64 to,.int .i64 (R1:Int),.int .i64 (R2:Int),.bool ng,.slice a0 n0 c0,.slice a1 n1 c1] 27)).alloc (.cells #[.bool false,.slice none 0 0,.slice none 0 0] 25)=W0:=⟨_,rfl⟩
 have al:=Lib.hid (show ∀ W',Below W0.heap.size W0 W'->(Bx7 W' w.heap.size (.int .i64 op) (.int .i64 to) (.int .i64 (R1:Int)) (.int .i64 (R2:Int)) (.bool ng) (.slice a0 n0 c0) (.slice a1 n1 c1)/\Bx3 W' (w.heap.size+1) (.bool false) (.slice none 0 0) (.slice none 0 0)) from fun W' hb => by
   refine ⟨bx7 hb ?_ ?_ ?_ ?_ ?_ ?_ ?_ ?_ ?_ ?_ ?_ ?_ ?_ ?_,bx3 hb ?_ ?_ ?_ ?_ ?_ ?_⟩
   all_goals first|assumption|(rw [<- aq];simp [go_sem]))
 have zb:Below w.heap.size w W0:=by rw [<- aq];exact bS (bN _ _) (bN _ _)
 rw [aq]
 clear aq
 have i0:=hw.to zb
 have i1:=hm.to zb
 have i2:=tr1.to zb
 have i3:=tr2.to zb
 have i4:=qr1.to zb
 have i5:=qr2.to zb
 have gb:Below W0.heap.size W0 W0:=Below.refl _ _
 obtain ⟨⟨z0,ae,af,ag,am,an,aM,aN,ah,ai,ak,au,aw,aR,aS⟩,⟨z1,aA,aB,aC,aD,aE,aF⟩⟩:=al.out _ gb
 obtain ⟨e0,e1,e2,e3,e4⟩:=(i1.to gb)
 obtain ⟨t10,t11,t12⟩:=(i2.to gb)
 obtain ⟨t20,t21,t22⟩:=(i3.to gb)
 go_wp2_with fail
 have nzx_e0:mB≠w.heap.size+1:=by omega
 have nzx_e1:mB≠w.heap.size+1:=by omega
 have nzx_t10:g≠w.heap.size+1:=by omega
 have nzx_t11:g≠w.heap.size+1:=by omega
 have nzx_t12:g≠w.heap.size+1:=by omega
 have nzx_t20:g≠w.heap.size+1:=by omega
 have nzx_t21:g≠w.heap.size+1:=by omega
 have nzx_t22:g≠w.heap.size+1:=by omega
 have nz0:w.heap.size≠w.heap.size+1:=by omega
 go_region_held3 (fun W' => W'.cell? ⟨w.heap.size,0,none⟩=some (.int .i64 op)/\W'.cell? ⟨w.heap.size,1,none⟩=some (.int .i64 to)/\W'.cell? ⟨w.heap.size,2,none⟩=some (.int .i64 (R1:Int))/\W'.cell? ⟨w.heap.size,3,none⟩=some (.int .i64 (R2:Int))/\W'.cell? ⟨w.heap.size,4,none⟩=some (.bool ng)/\W'.cell? ⟨w.heap.size,5,none⟩=some (.slice a0 n0 c0)/\W'.cell? ⟨w.heap.size,6,none⟩=some (.slice a1 n1 c1)/\W'.cell? ⟨mB,0,none⟩=some (u)/\W'.cell? ⟨mB,1,none⟩=some (.slice (some ⟨g,0,none⟩) N N)/\W'.cell? ⟨g,R1*3,none⟩=some (.bool nr1)/\W'.cell? ⟨g,R1*3+1,none⟩=some (.slice ra1 rn1 rc1)/\W'.cell? ⟨g,R1*3+2,none⟩=some (.slice sa1 sn1 sc1)/\W'.cell? ⟨g,R2*3,none⟩=some (.bool nr2)/\W'.cell? ⟨g,R2*3+1,none⟩=some (.slice ra2 rn2 rc2)/\W'.cell? ⟨g,R2*3+2,none⟩=some (.slice sa2 sn2 sc2)) (first|(with_reducible exact ⟨ae,af,ag,am,an,aM,aN,e0,e1,t10,t11,t12,t20,t21,t22⟩)|(with_reducible exact ⟨cP (cP (cP (ae) (.inl nz0) _) (.inl nz0) _) (.inl nz0) _,cP (cP (cP (af) (.inl nz0) _) (.inl nz0) _) (.inl nz0) _,cP (cP (cP (ag) (.inl nz0) _) (.inl nz0) _) (.inl nz0) _,cP (cP (cP (am) (.inl nz0) _) (.inl nz0) _) (.inl nz0) _,cP (cP (cP (an) (.inl nz0) _) (.inl nz0) _) (.inl nz0) _,cP (cP (cP (aM) (.inl nz0) _) (.inl nz0) _) (.inl nz0) _,cP (cP (cP (aN) (.inl nz0) _) (.inl nz0) _) (.inl nz0) _,cP (cP (cP (e0) (.inl nzx_e0) _) (.inl nzx_e0) _) (.inl nzx_e0) _,cP (cP (cP (e1) (.inl nzx_e1) _) (.inl nzx_e1) _) (.inl nzx_e1) _,cP (cP (cP (t10) (.inl nzx_t10) _) (.inl nzx_t10) _) (.inl nzx_t10) _,cP (cP (cP (t11) (.inl nzx_t11) _) (.inl nzx_t11) _) (.inl nzx_t11) _,cP (cP (cP (t12) (.inl nzx_t12) _) (.inl nzx_t12) _) (.inl nzx_t12) _,cP (cP (cP (t20) (.inl nzx_t20) _) (.inl nzx_t20) _) (.inl nzx_t20) _,cP (cP (cP (t21) (.inl nzx_t21) _) (.inl nzx_t21) _) (.inl nzx_t21) _,cP (cP (cP (t22) (.inl nzx_t22) _) (.inl nzx_t22) _) (.inl nzx_t22) _⟩)|exact ⟨ae,af,ag,am,an,aM,aN,e0,e1,t10,t11,t12,t20,t21,t22⟩) (first
  | (go_at_call 52;have gb:=gb.drew;(with_reducible refine (zfr nr1 _ _ lr1 kr1 nr2 _ _ lr2 kr2 _ (i4.to gb) (i5.to gb) q Hq.out hs).mono ?_);rintro e w1 ⟨ng1,a1_,n1_,c1_,p1_,m1_,k1_,rfl,g1,aT⟩;have gb:=bS gb aT;obtain ⟨⟨z0,ae,af,ag,am,an,aM,aN,ah,ai,ak,au,aw,aR,aS⟩,⟨z1,aA,aB,aC,aD,aE,aF⟩⟩:=al.out _ gb;obtain ⟨e0,e1,e2,e3,e4⟩:=(i1.to gb);obtain ⟨t10,t11,t12⟩:=(i2.to gb);obtain ⟨t20,t21,t22⟩:=(i3.to gb)))
 go_wp2_with fail
 refine bodyPost_ret (zn Try.results34 _ _ _ _ _ _ rfl (Tri.set (x0:=.bool false) (y0:=.slice none 0 0) (z0:=.slice none 0 0) ⟨aA,aB,aC,aD,aE,aF⟩ _ _ _)) rfl (zbn (bS zb gb) (by omega) ?_ g1)
 first|omega|(simp;omega)

theorem zgK (mB g N:Nat) (u vJ:Value) (rows cols:Int) (op to:Int) (ng:Bool) (vn vd:Value) (lw1 lw2:List Nat) (R1:Nat) (nr1:Bool) (vr1 ur1:Value) (lr1 kr1:List Nat) (R2:Nat) (nr2:Bool) (vr2 ur2:Value) (lr2 kr2:List Nat) {x y:Rat}  (w:World) (hw:IsF w vn vd lw1 lw2) (hm:zy w mB g N u vJ rows cols) (hN:N<=100000) (hr1:R1<N) (tr1:zaW w g (R1*3) (.bool nr1) vr1 ur1) (qr1:IsQ w nr1 vr1 ur1 lr1 kr1 x) (hr2:R2<N) (tr2:zaW w g (R2*3) (.bool nr2) vr2 ur2) (qr2:IsQ w nr2 vr2 ur2 lr2 kr2 y) (q:Rat) (hq:x - y=q) (hs:Hid (szq q<=4097))  :
  Calls Try.prog 35 #[.pointer (some ⟨mB,0,none⟩),.agg #[.int .i64 op,.int .i64 to,.int .i64 (R1:Int),.int .i64 (R2:Int),.bool ng,vn,vd]] w (zp w q):=by
 have Hq:=Lib.hid hq
 clear hq
 obtain ⟨a0,n0,c0,rfl,H0,hm0⟩:=hw.1.open
 obtain ⟨a1,n1,c1,rfl,H1,hm1⟩:=hw.2.open
 obtain ⟨ra1,rn1,rc1,rfl,RH1,rm1⟩:=qr1.1.open
 obtain ⟨sa1,sn1,sc1,rfl,SH1,sm1⟩:=qr1.2.1.open
 have ri1:(R1:Int)<(N:Int):=by omega
 obtain ⟨ra2,rn2,rc2,rfl,RH2,rm2⟩:=qr2.1.open
 obtain ⟨sa2,sn2,sc2,rfl,SH2,sm2⟩:=qr2.2.1.open
 have ri2:(R2:Int)<(N:Int):=by omega
 have lm:=hm.lt
 have lt1:=tr1.lt
 have lt2:=tr2.lt
 go_enter Try.func35,Try.ntmps35
 go_wp2_with fail
 obtain ⟨W0,aq⟩:∃ W0,(w.alloc (.cells #[.int .i64 op,.int .i64 to,.int .i64 (R1:Int),.int .i64 (R2:Int),.bool ng,.slice a0 n0 c0,.slice a1 n1 c1] 27)).alloc (.cells #[.bool false,.slice none 0 0,.slice none 0 0] 25)=W0:=⟨_,rfl⟩
 have al:=Lib.hid (show ∀ W',Below W0.heap.size W0 W'->(Bx7 W' w.heap.size (.int .i64 op) (.int .i64 to) (.int .i64 (R1:Int)) (.int .i64 (R2:Int)) (.bool ng) (.slice a0 n0 c0) (.slice a1 n1 c1)/\Bx3 W' (w.heap.size+1) (.bool false) (.slice none 0 0) (.slice none 0 0)) from fun W' hb => by
   refine ⟨bx7 hb ?_ ?_ ?_ ?_ ?_ ?_ ?_ ?_ ?_ ?_ ?_ ?_ ?_ ?_,bx3 hb ?_ ?_ ?_ ?_ ?_ ?_⟩
   all_goals first|assumption|(rw [<- aq];simp [go_sem]))
 have zb:Below w.heap.size w W0:=by rw [<- aq];exact bS (bN _ _) (bN _ _)
 rw [aq]
 clear aq
 have i0:=hw.to zb
 have i1:=hm.to zb
 have i2:=tr1.to zb
 have i3:=tr2.to zb
 have i4:=qr1.to zb
 have i5:=qr2.to zb
 have gb:Below W0.heap.size W0 W0:=Below.refl _ _
 obtain ⟨⟨z0,ae,af,ag,am,an,aM,aN,ah,ai,ak,au,aw,aR,aS⟩,⟨z1,aA,aB,aC,aD,aE,aF⟩⟩:=al.out _ gb
 obtain ⟨e0,e1,e2,e3,e4⟩:=(i1.to gb)
 obtain ⟨t10,t11,t12⟩:=(i2.to gb)
 obtain ⟨t20,t21,t22⟩:=(i3.to gb)
 go_wp2_with fail
 have nzx_e0:mB≠w.heap.size+1:=by omega
 have nzx_e1:mB≠w.heap.size+1:=by omega
 have nzx_t10:g≠w.heap.size+1:=by omega
 have nzx_t11:g≠w.heap.size+1:=by omega
 have nzx_t12:g≠w.heap.size+1:=by omega
 have nzx_t20:g≠w.heap.size+1:=by omega
 have nzx_t21:g≠w.heap.size+1:=by omega
 have nzx_t22:g≠w.heap.size+1:=by omega
 have nz0:w.heap.size≠w.heap.size+1:=by omega
 go_region_held3 (fun W' => W'.cell? ⟨w.heap.size,0,none⟩=some (.int .i64 op)/\W'.cell? ⟨w.heap.size,1,none⟩=some (.int .i64 to)/\W'.cell? ⟨w.heap.size,2,none⟩=some (.int .i64 (R1:Int))/\W'.cell? ⟨w.heap.size,3,none⟩=some (.int .i64 (R2:Int))/\W'.cell? ⟨w.heap.size,4,none⟩=some (.bool ng)/\W'.cell? ⟨w.heap.size,5,none⟩=some (.slice a0 n0 c0)/\W'.cell? ⟨w.heap.size,6,none⟩=some (.slice a1 n1 c1)/\W'.cell? ⟨mB,0,none⟩=some (u)/\W'.cell? ⟨mB,1,none⟩=some (.slice (some ⟨g,0,none⟩) N N)/\W'.cell? ⟨g,R1*3,none⟩=some (.bool nr1)/\W'.cell? ⟨g,R1*3+1,none⟩=some (.slice ra1 rn1 rc1)/\W'.cell? ⟨g,R1*3+2,none⟩=some (.slice sa1 sn1 sc1)/\W'.cell? ⟨g,R2*3,none⟩=some (.bool nr2)/\W'.cell? ⟨g,R2*3+1,none⟩=some (.slice ra2 rn2 rc2)/\W'.cell? ⟨g,R2*3+2,none⟩=some (.slice sa2 sn2 sc2)) (first|(with_reducible exact ⟨ae,af,ag,am,an,aM,aN,e0,e1,t10,t11,t12,t20,t21,t22⟩)|(with_reducible exact ⟨cP (cP (cP (ae) (.inl nz0) _) (.inl nz0) _) (.inl nz0) _,cP (cP (cP (af) (.inl nz0) _) (.inl nz0) _) (.inl nz0) _,cP (cP (cP (ag) (.inl nz0) _) (.inl nz0) _) (.inl nz0) _,cP (cP (cP (am) (.inl nz0) _) (.inl nz0) _) (.inl nz0) _,cP (cP (cP (an) (.inl nz0) _) (.inl nz0) _) (.inl nz0) _,cP (cP (cP (aM) (.inl nz0) _) (.inl nz0) _) (.inl nz0) _,cP (cP (cP (aN) (.inl nz0) _) (.inl nz0) _) (.inl nz0) _,cP (cP (cP (e0) (.inl nzx_e0) _) (.inl nzx_e0) _) (.inl nzx_e0) _,cP (cP (cP (e1) (.inl nzx_e1) _) (.inl nzx_e1) _) (.inl nzx_e1) _,cP (cP (cP (t10) (.inl nzx_t10) _) (.inl nzx_t10) _) (.inl nzx_t10) _,cP (cP (cP (t11) (.inl nzx_t11) _) (.inl nzx_t11) _) (.inl nzx_t11) _,cP (cP (cP (t12) (.inl nzx_t12) _) (.inl nzx_t12) _) (.inl nzx_t12) _,cP (cP (cP (t20) (.inl nzx_t20) _) (.inl nzx_t20) _) (.inl nzx_t20) _,cP (cP (cP (t21) (.inl nzx_t21) _) (.inl nzx_t21) _) (.inl nzx_t21) _,cP (cP (cP (t22) (.inl nzx_t22) _) (.inl nzx_t22) _) (.inl nzx_t22) _⟩)|exact ⟨ae,af,ag,am,an,aM,aN,e0,e1,t10,t11,t12,t20,t21,t22⟩) (first
  | (go_at_call 53;have gb:=gb.drew;(with_reducible refine (zjB nr1 _ _ lr1 kr1 nr2 _ _ lr2 kr2 _ (i4.to gb) (i5.to gb) q Hq.out hs).mono ?_);rintro e w1 ⟨ng1,a1_,n1_,c1_,p1_,m1_,k1_,rfl,g1,aT⟩;have gb:=bS gb aT;obtain ⟨⟨z0,ae,af,ag,am,an,aM,aN,ah,ai,ak,au,aw,aR,aS⟩,⟨z1,aA,aB,aC,aD,aE,aF⟩⟩:=al.out _ gb;obtain ⟨e0,e1,e2,e3,e4⟩:=(i1.to gb);obtain ⟨t10,t11,t12⟩:=(i2.to gb);obtain ⟨t20,t21,t22⟩:=(i3.to gb)))
 go_wp2_with fail
 refine bodyPost_ret (zn Try.results35 _ _ _ _ _ _ rfl (Tri.set (x0:=.bool false) (y0:=.slice none 0 0) (z0:=.slice none 0 0) ⟨aA,aB,aC,aD,aE,aF⟩ _ _ _)) rfl (zbn (bS zb gb) (by omega) ?_ g1)
 first|omega|(simp;omega)

theorem zcW (mB g N:Nat) (u vJ:Value) (rows cols:Int) (op to:Int) (ng:Bool) (vn vd:Value) (lw1 lw2:List Nat) (R1:Nat) (nr1:Bool) (vr1 ur1:Value) (lr1 kr1:List Nat) (R2:Nat) (nr2:Bool) (vr2 ur2:Value) (lr2 kr2:List Nat) {x y:Rat}  (w:World) (hw:IsF w vn vd lw1 lw2) (hm:zy w mB g N u vJ rows cols) (hN:N<=100000) (hr1:R1<N) (tr1:zaW w g (R1*3) (.bool nr1) vr1 ur1) (qr1:IsQ w nr1 vr1 ur1 lr1 kr1 x) (hr2:R2<N) (tr2:zaW w g (R2*3) (.bool nr2) vr2 ur2) (qr2:IsQ w nr2 vr2 ur2 lr2 kr2 y) (q:Rat) (hq:x*y=q) (hs:Hid (szq q<=4097))  :
  Calls Try.prog 36 #[.pointer (some ⟨mB,0,none⟩),.agg #[.int .i64 op,.int .i64 to,.int .i64 (R1:Int),.int .i64 (R2:Int),.bool ng,vn,vd]] w (zp w q):=by
 have Hq:=Lib.hid hq
 clear hq
 obtain ⟨a0,n0,c0,rfl,H0,hm0⟩:=hw.1.open
 obtain ⟨a1,n1,c1,rfl,H1,hm1⟩:=hw.2.open
 obtain ⟨ra1,rn1,rc1,rfl,RH1,rm1⟩:=qr1.1.open
 obtain ⟨sa1,sn1,sc1,rfl,SH1,sm1⟩:=qr1.2.1.open
 have ri1:(R1:Int)<(N:Int):=by omega
 obtain ⟨ra2,rn2,rc2,rfl,RH2,rm2⟩:=qr2.1.open
 obtain ⟨sa2,sn2,sc2,rfl,SH2,sm2⟩:=qr2.2.1.open
 have ri2:(R2:Int)<(N:Int):=by omega
 have lm:=hm.lt
 have lt1:=tr1.lt
 have lt2:=tr2.lt
 go_enter Try.func36,Try.ntmps36
 go_wp2_with fail
 obtain ⟨W0,aq⟩:∃ W0,(w.alloc (.cells #[.int .i64 op,.int .i64 to,.int .i64 (R1:Int),.int .i64 (R2:Int),.bool ng,.slice a0 n0 c0,.slice a1 n1 c1] 27)).alloc (.cells #[.bool false,.slice none 0 0,.slice none 0 0] 25)=W0:=⟨_,rfl⟩
 have al:=Lib.hid (show ∀ W',Below W0.heap.size W0 W'->(Bx7 W' w.heap.size (.int .i64 op) (.int .i64 to) (.int .i64 (R1:Int)) (.int .i64 (R2:Int)) (.bool ng) (.slice a0 n0 c0) (.slice a1 n1 c1)/\Bx3 W' (w.heap.size+1) (.bool false) (.slice none 0 0) (.slice none 0 0)) from fun W' hb => by
   refine ⟨bx7 hb ?_ ?_ ?_ ?_ ?_ ?_ ?_ ?_ ?_ ?_ ?_ ?_ ?_ ?_,bx3 hb ?_ ?_ ?_ ?_ ?_ ?_⟩
   all_goals first|assumption|(rw [<- aq];simp [go_sem]))
 have zb:Below w.heap.size w W0:=by rw [<- aq];exact bS (bN _ _) (bN _ _)
 rw [aq]
 clear aq
 have i0:=hw.to zb
 have i1:=hm.to zb
 have i2:=tr1.to zb
 have i3:=tr2.to zb
 have i4:=qr1.to zb
 have i5:=qr2.to zb
 have gb:Below W0.heap.size W0 W0:=Below.refl _ _
 obtain ⟨⟨z0,ae,af,ag,am,an,aM,aN,ah,ai,ak,au,aw,aR,aS⟩,⟨z1,aA,aB,aC,aD,aE,aF⟩⟩:=al.out _ gb
 obtain ⟨e0,e1,e2,e3,e4⟩:=(i1.to gb)
 obtain ⟨t10,t11,t12⟩:=(i2.to gb)
 obtain ⟨t20,t21,t22⟩:=(i3.to gb)
 go_wp2_with fail
 have nzx_e0:mB≠w.heap.size+1:=by omega
 have nzx_e1:mB≠w.heap.size+1:=by omega
 have nzx_t10:g≠w.heap.size+1:=by omega
 have nzx_t11:g≠w.heap.size+1:=by omega
 have nzx_t12:g≠w.heap.size+1:=by omega
 have nzx_t20:g≠w.heap.size+1:=by omega
 have nzx_t21:g≠w.heap.size+1:=by omega
 have nzx_t22:g≠w.heap.size+1:=by omega
 have nz0:w.heap.size≠w.heap.size+1:=by omega
 go_region_held3 (fun W' => W'.cell? ⟨w.heap.size,0,none⟩=some (.int .i64 op)/\W'.cell? ⟨w.heap.size,1,none⟩=some (.int .i64 to)/\W'.cell? ⟨w.heap.size,2,none⟩=some (.int .i64 (R1:Int))/\W'.cell? ⟨w.heap.size,3,none⟩=some (.int .i64 (R2:Int))/\W'.cell? ⟨w.heap.size,4,none⟩=some (.bool ng)/\W'.cell? ⟨w.heap.size,5,none⟩=some (.slice a0 n0 c0)/\W'.cell? ⟨w.heap.size,6,none⟩=some (.slice a1 n1 c1)/\W'.cell? ⟨mB,0,none⟩=some (u)/\W'.cell? ⟨mB,1,none⟩=some (.slice (some ⟨g,0,none⟩) N N)/\W'.cell? ⟨g,R1*3,none⟩=some (.bool nr1)/\W'.cell? ⟨g,R1*3+1,none⟩=some (.slice ra1 rn1 rc1)/\W'.cell? ⟨g,R1*3+2,none⟩=some (.slice sa1 sn1 sc1)/\W'.cell? ⟨g,R2*3,none⟩=some (.bool nr2)/\W'.cell? ⟨g,R2*3+1,none⟩=some (.slice ra2 rn2 rc2)/\W'.cell? ⟨g,R2*3+2,none⟩=some (.slice sa2 sn2 sc2)) (first|(with_reducible exact ⟨ae,af,ag,am,an,aM,aN,e0,e1,t10,t11,t12,t20,t21,t22⟩)|(with_reducible exact ⟨cP (cP (cP (ae) (.inl nz0) _) (.inl nz0) _) (.inl nz0) _,cP (cP (cP (af) (.inl nz0) _) (.inl nz0) _) (.inl nz0) _,cP (cP (cP (ag) (.inl nz0) _) (.inl nz0) _) (.inl nz0) _,cP (cP (cP (am) (.inl nz0) _) (.inl nz0) _) (.inl nz0) _,cP (cP (cP (an) (.inl nz0) _) (.inl nz0) _) (.inl nz0) _,cP (cP (cP (aM) (.inl nz0) _) (.inl nz0) _) (.inl nz0) _,cP (cP (cP (aN) (.inl nz0) _) (.inl nz0) _) (.inl nz0) _,cP (cP (cP (e0) (.inl nzx_e0) _) (.inl nzx_e0) _) (.inl nzx_e0) _,cP (cP (cP (e1) (.inl nzx_e1) _) (.inl nzx_e1) _) (.inl nzx_e1) _,cP (cP (cP (t10) (.inl nzx_t10) _) (.inl nzx_t10) _) (.inl nzx_t10) _,cP (cP (cP (t11) (.inl nzx_t11) _) (.inl nzx_t11) _) (.inl nzx_t11) _,cP (cP (cP (t12) (.inl nzx_t12) _) (.inl nzx_t12) _) (.inl nzx_t12) _,cP (cP (cP (t20) (.inl nzx_t20) _) (.inl nzx_t20) _) (.inl nzx_t20) _,cP (cP (cP (t21) (.inl nzx_t21) _) (.inl nzx_t21) _) (.inl nzx_t21) _,cP (cP (cP (t22) (.inl nzx_t22) _) (.inl nzx_t22) _) (.inl nzx_t22) _⟩)|exact ⟨ae,af,ag,am,an,aM,aN,e0,e1,t10,t11,t12,t20,t21,t22⟩) (first
  | (go_at_call 54;have gb:=gb.drew;(with_reducible refine (zjA nr1 _ _ lr1 kr1 nr2 _ _ lr2 kr2 _ (i4.to gb) (i5.to gb) q Hq.out hs).mono ?_);rintro e w1 ⟨ng1,a1_,n1_,c1_,p1_,m1_,k1_,rfl,g1,aT⟩;have gb:=bS gb aT;obtain ⟨⟨z0,ae,af,ag,am,an,aM,aN,ah,ai,ak,au,aw,aR,aS⟩,⟨z1,aA,aB,aC,aD,aE,aF⟩⟩:=al.out _ gb;obtain ⟨e0,e1,e2,e3,e4⟩:=(i1.to gb);obtain ⟨t10,t11,t12⟩:=(i2.to gb);obtain ⟨t20,t21,t22⟩:=(i3.to gb)))
 go_wp2_with fail
 refine bodyPost_ret (zn Try.results36 _ _ _ _ _ _ rfl (Tri.set (x0:=.bool false) (y0:=.slice none 0 0) (z0:=.slice none 0 0) ⟨aA,aB,aC,aD,aE,aF⟩ _ _ _)) rfl (zbn (bS zb gb) (by omega) ?_ g1)
 first|omega|(simp;omega)

theorem zgH (mB g N:Nat) (u vJ:Value) (rows cols:Int) (op to:Int) (ng:Bool) (vn vd:Value) (lw1 lw2:List Nat) (R1:Nat) (nr1:Bool) (vr1 ur1:Value) (lr1 kr1:List Nat) (R2:Nat) (nr2:Bool) (vr2 ur2:Value) (lr2 kr2:List Nat) {x y:Rat}  (w:World) (hw:IsF w vn vd lw1 lw2) (hm:zy w mB g N u vJ rows cols) (hN:N<=100000) (hr1:R1<N) (tr1:zaW w g (R1*3) (.bool nr1) vr1 ur1) (qr1:IsQ w nr1 vr1 ur1 lr1 kr1 x) (hr2:R2<N) (tr2:zaW w g (R2*3) (.bool nr2) vr2 ur2) (qr2:IsQ w nr2 vr2 ur2 lr2 kr2 y) (q:Rat) (hq:x / y=q) (hs:Hid (szq q<=4097)) (h0:y≠0)  :
  Calls Try.prog 37 #[.pointer (some ⟨mB,0,none⟩),.agg #[.int .i64 op,.int .i64 to,.int .i64 (R1:Int),.int .i64 (R2:Int),.bool ng,vn,vd]] w (zp w q):=by
 have Hq:=Lib.hid hq
 have H00:=Lib.hid h0
 clear hq h0
 obtain ⟨a0,n0,c0,rfl,H0,hm0⟩:=hw.1.open
 obtain ⟨a1,n1,c1,rfl,H1,hm1⟩:=hw.2.open
 obtain ⟨ra1,rn1,rc1,rfl,RH1,rm1⟩:=qr1.1.open
 obtain ⟨sa1,sn1,sc1,rfl,SH1,sm1⟩:=qr1.2.1.open
 have ri1:(R1:Int)<(N:Int):=by omega
 obtain ⟨ra2,rn2,rc2,rfl,RH2,rm2⟩:=qr2.1.open
 obtain ⟨sa2,sn2,sc2,rfl,SH2,sm2⟩:=qr2.2.1.open
 have ri2:(R2:Int)<(N:Int):=by omega
 have lm:=hm.lt
 have lt1:=tr1.lt
 have lt2:=tr2.lt
 go_enter Try.func37,Try.ntmps37
 go_wp2_with fail
 obtain ⟨W0,aq⟩:∃ W0,(w.alloc (.cells #[.int .i64 op,.int .i64 to,.int .i64 (R1:Int),.int .i64 (R2:Int),.bool ng,.slice a0 n0 c0,.slice a1 n1 c1] 27)).alloc (.cells #[.bool false,.slice none 0 0,.slice none 0 0] 25)=W0:=⟨_,rfl⟩
 have al:=Lib.hid (show ∀ W',Below W0.heap.size W0 W'->(Bx7 W' w.heap.size (.int .i64 op) (.int .i64 to) (.int .i64 (R1:Int)) (.int .i64 (R2:Int)) (.bool ng) (.slice a0 n0 c0) (.slice a1 n1 c1)/\Bx3 W' (w.heap.size+1) (.bool false) (.slice none 0 0) (.slice none 0 0)) from fun W' hb => by
   refine ⟨bx7 hb ?_ ?_ ?_ ?_ ?_ ?_ ?_ ?_ ?_ ?_ ?_ ?_ ?_ ?_,bx3 hb ?_ ?_ ?_ ?_ ?_ ?_⟩
   all_goals first|assumption|(rw [<- aq];simp [go_sem]))
 have zb:Below w.heap.size w W0:=by rw [<- aq];exact bS (bN _ _) (bN _ _)
 rw [aq]
 clear aq
 have i0:=hw.to zb
 have i1:=hm.to zb
 have i2:=tr1.to zb
 have i3:=tr2.to zb
 have i4:=qr1.to zb
 have i5:=qr2.to zb
 have gb:Below W0.heap.size W0 W0:=Below.refl _ _
 obtain ⟨⟨z0,ae,af,ag,am,an,aM,aN,ah,ai,ak,au,aw,aR,aS⟩,⟨z1,aA,aB,aC,aD,aE,aF⟩⟩:=al.out _ gb
 obtain ⟨e0,e1,e2,e3,e4⟩:=(i1.to gb)
 obtain ⟨t10,t11,t12⟩:=(i2.to gb)
 obtain ⟨t20,t21,t22⟩:=(i3.to gb)
 go_wp2_with fail
 have nzx_e0:mB≠w.heap.size+1:=by omega
 have nzx_e1:mB≠w.heap.size+1:=by omega
 have nzx_t10:g≠w.heap.size+1:=by omega
 have nzx_t11:g≠w.heap.size+1:=by omega
 have nzx_t12:g≠w.heap.size+1:=by omega
 have nzx_t20:g≠w.heap.size+1:=by omega
 have nzx_t21:g≠w.heap.size+1:=by omega
 have nzx_t22:g≠w.heap.size+1:=by omega
 have nz0:w.heap.size≠w.heap.size+1:=by omega
 go_region_held3 (fun W' => W'.cell? ⟨w.heap.size,0,none⟩=some (.int .i64 op)/\W'.cell? ⟨w.heap.size,1,none⟩=some (.int .i64 to)/\W'.cell? ⟨w.heap.size,2,none⟩=some (.int .i64 (R1:Int))/\W'.cell? ⟨w.heap.size,3,none⟩=some (.int .i64 (R2:Int))/\W'.cell? ⟨w.heap.size,4,none⟩=some (.bool ng)/\W'.cell? ⟨w.heap.size,5,none⟩=some (.slice a0 n0 c0)/\W'.cell? ⟨w.heap.size,6,none⟩=some (.slice a1 n1 c1)/\W'.cell? ⟨mB,0,none⟩=some (u)/\W'.cell? ⟨mB,1,none⟩=some (.slice (some ⟨g,0,none⟩) N N)/\W'.cell? ⟨g,R1*3,none⟩=some (.bool nr1)/\W'.cell? ⟨g,R1*3+1,none⟩=some (.slice ra1 rn1 rc1)/\W'.cell? ⟨g,R1*3+2,none⟩=some (.slice sa1 sn1 sc1)/\W'.cell? ⟨g,R2*3,none⟩=some (.bool nr2)/\W'.cell? ⟨g,R2*3+1,none⟩=some (.slice ra2 rn2 rc2)/\W'.cell? ⟨g,R2*3+2,none⟩=some (.slice sa2 sn2 sc2)) (first|(with_reducible exact ⟨ae,af,ag,am,an,aM,aN,e0,e1,t10,t11,t12,t20,t21,t22⟩)|(with_reducible exact ⟨cP (cP (cP (ae) (.inl nz0) _) (.inl nz0) _) (.inl nz0) _,cP (cP (cP (af) (.inl nz0) _) (.inl nz0) _) (.inl nz0) _,cP (cP (cP (ag) (.inl nz0) _) (.inl nz0) _) (.inl nz0) _,cP (cP (cP (am) (.inl nz0) _) (.inl nz0) _) (.inl nz0) _,cP (cP (cP (an) (.inl nz0) _) (.inl nz0) _) (.inl nz0) _,cP (cP (cP (aM) (.inl nz0) _) (.inl nz0) _) (.inl nz0) _,cP (cP (cP (aN) (.inl nz0) _) (.inl nz0) _) (.inl nz0) _,cP (cP (cP (e0) (.inl nzx_e0) _) (.inl nzx_e0) _) (.inl nzx_e0) _,cP (cP (cP (e1) (.inl nzx_e1) _) (.inl nzx_e1) _) (.inl nzx_e1) _,cP (cP (cP (t10) (.inl nzx_t10) _) (.inl nzx_t10) _) (.inl nzx_t10) _,cP (cP (cP (t11) (.inl nzx_t11) _) (.inl nzx_t11) _) (.inl nzx_t11) _,cP (cP (cP (t12) (.inl nzx_t12) _) (.inl nzx_t12) _) (.inl nzx_t12) _,cP (cP (cP (t20) (.inl nzx_t20) _) (.inl nzx_t20) _) (.inl nzx_t20) _,cP (cP (cP (t21) (.inl nzx_t21) _) (.inl nzx_t21) _) (.inl nzx_t21) _,cP (cP (cP (t22) (.inl nzx_t22) _) (.inl nzx_t22) _) (.inl nzx_t22) _⟩)|exact ⟨ae,af,ag,am,an,aM,aN,e0,e1,t10,t11,t12,t20,t21,t22⟩) (first
  | (go_at_call 55;have gb:=gb.drew;(with_reducible refine (zjz nr1 _ _ lr1 kr1 nr2 _ _ lr2 kr2 _ (i4.to gb) (i5.to gb) H00.out q Hq.out hs).mono ?_);rintro e w1 ⟨ng1,a1_,n1_,c1_,p1_,m1_,k1_,rfl,g1,aT⟩;have gb:=bS gb aT;obtain ⟨⟨z0,ae,af,ag,am,an,aM,aN,ah,ai,ak,au,aw,aR,aS⟩,⟨z1,aA,aB,aC,aD,aE,aF⟩⟩:=al.out _ gb;obtain ⟨e0,e1,e2,e3,e4⟩:=(i1.to gb);obtain ⟨t10,t11,t12⟩:=(i2.to gb);obtain ⟨t20,t21,t22⟩:=(i3.to gb)))
 go_wp2_with fail
 refine bodyPost_ret (zn Try.results37 _ _ _ _ _ _ rfl (Tri.set (x0:=.bool false) (y0:=.slice none 0 0) (z0:=.slice none 0 0) ⟨aA,aB,aC,aD,aE,aF⟩ _ _ _)) rfl (zbn (bS zb gb) (by omega) ?_ g1)
 first|omega|(simp;omega)

theorem zgI (mB g N:Nat) (u vJ:Value) (rows cols:Int) (op to:Int) (ng:Bool) (vn vd:Value) (lw1 lw2:List Nat) (R1:Nat) (nr1:Bool) (vr1 ur1:Value) (lr1 kr1:List Nat) (R2:Nat) (nr2:Bool) (vr2 ur2:Value) (lr2 kr2:List Nat) {x y:Rat}  (w:World) (hw:IsF w vn vd lw1 lw2) (hm:zy w mB g N u vJ rows cols) (hN:N<=100000) (hr1:R1<N) (tr1:zaW w g (R1*3) (.bool nr1) vr1 ur1) (qr1:IsQ w nr1 vr1 ur1 lr1 kr1 x) (hr2:R2<N) (tr2:zaW w g (R2*3) (.bool nr2) vr2 ur2) (qr2:IsQ w nr2 vr2 ur2 lr2 kr2 y) (h0:y=0)  :
  Calls Try.prog 37 #[.pointer (some ⟨mB,0,none⟩),.agg #[.int .i64 op,.int .i64 to,.int .i64 (R1:Int),.int .i64 (R2:Int),.bool ng,vn,vd]] w (fun e w' => e=.returned (.tuple #[aggR false (.slice none 0 0) (.slice none 0 0),.int .i64 3])/\Below w.heap.size w w'):=by
 have H00:=Lib.hid h0
 clear h0
 obtain ⟨a0,n0,c0,rfl,H0,hm0⟩:=hw.1.open
 obtain ⟨a1,n1,c1,rfl,H1,hm1⟩:=hw.2.open
 obtain ⟨ra1,rn1,rc1,rfl,RH1,rm1⟩:=qr1.1.open
 obtain ⟨sa1,sn1,sc1,rfl,SH1,sm1⟩:=qr1.2.1.open
 have ri1:(R1:Int)<(N:Int):=by omega
 obtain ⟨ra2,rn2,rc2,rfl,RH2,rm2⟩:=qr2.1.open
 obtain ⟨sa2,sn2,sc2,rfl,SH2,sm2⟩:=qr2.2.1.open
 have ri2:(R2:Int)<(N:Int):=by omega
 have lm:=hm.lt
 have lt1:=tr1.lt
 have lt2:=tr2.lt
 go_enter Try.func37,Try.ntmps37
 go_wp2_with fail
 obtain ⟨W0,aq⟩:∃ W0,(w.alloc (.cells #[.int .i64 op,.int .i64 to,.int .i64 (R1:Int),.int .i64 (R2:Int),.bool ng,.slice a0 n0 c0,.slice a1 n1 c1] 27)).alloc (.cells #[.bool false,.slice none 0 0,.slice none 0 0] 25)=W0:=⟨_,rfl⟩
 have al:=Lib.hid (show ∀ W',Below W0.heap.size W0 W'->(Bx7 W' w.heap.size (.int .i64 op) (.int .i64 to) (.int .i64 (R1:Int)) (.int .i64 (R2:Int)) (.bool ng) (.slice a0 n0 c0) (.slice a1 n1 c1)/\Bx3 W' (w.heap.size+1) (.bool false) (.slice none 0 0) (.slice none 0 0)) from fun W' hb => by
   refine ⟨bx7 hb ?_ ?_ ?_ ?_ ?_ ?_ ?_ ?_ ?_ ?_ ?_ ?_ ?_ ?_,bx3 hb ?_ ?_ ?_ ?_ ?_ ?_⟩
   all_goals first|assumption|(rw [<- aq];simp [go_sem]))
 have zb:Below w.heap.size w W0:=by rw [<- aq];exact bS (bN _ _) (bN _ _)
 rw [aq]
 clear aq
 have i0:=hw.to zb
 have i1:=hm.to zb
 have i2:=tr1.to zb
 have i3:=tr2.to zb
 have i4:=qr1.to zb
 have i5:=qr2.to zb
 have gb:Below W0.heap.size W0 W0:=Below.refl _ _
 obtain ⟨⟨z0,ae,af,ag,am,an,aM,aN,ah,ai,ak,au,aw,aR,aS⟩,⟨z1,aA,aB,aC,aD,aE,aF⟩⟩:=al.out _ gb
 obtain ⟨e0,e1,e2,e3,e4⟩:=(i1.to gb)
 obtain ⟨t10,t11,t12⟩:=(i2.to gb)
 obtain ⟨t20,t21,t22⟩:=(i3.to gb)
 go_wp2_with fail
 have nzx_e0:mB≠w.heap.size+1:=by omega
 have nzx_e1:mB≠w.heap.size+1:=by omega
 have nzx_t10:g≠w.heap.size+1:=by omega
 have nzx_t11:g≠w.heap.size+1:=by omega
 have nzx_t12:g≠w.heap.size+1:=by omega
 have nzx_t20:g≠w.heap.size+1:=by omega
 have nzx_t21:g≠w.heap.size+1:=by omega
 have nzx_t22:g≠w.heap.size+1:=by omega
 have nz0:w.heap.size≠w.heap.size+1:=by omega
 go_region_held3 (fun W' => W'.cell? ⟨w.heap.size,0,none⟩=some (.int .i64 op)/\W'.cell? ⟨w.heap.size,1,none⟩=some (.int .i64 to)/\W'.cell? ⟨w.heap.size,2,none⟩=some (.int .i64 (R1:Int))/\W'.cell? ⟨w.heap.size,3,none⟩=some (.int .i64 (R2:Int))/\W'.cell? ⟨w.heap.size,4,none⟩=some (.bool ng)/\W'.cell? ⟨w.heap.size,5,none⟩=some (.slice a0 n0 c0)/\W'.cell? ⟨w.heap.size,6,none⟩=some (.slice a1 n1 c1)/\W'.cell? ⟨mB,0,none⟩=some (u)/\W'.cell? ⟨mB,1,none⟩=some (.slice (some ⟨g,0,none⟩) N N)/\W'.cell? ⟨g,R1*3,none⟩=some (.bool nr1)/\W'.cell? ⟨g,R1*3+1,none⟩=some (.slice ra1 rn1 rc1)/\W'.cell? ⟨g,R1*3+2,none⟩=some (.slice sa1 sn1 sc1)/\W'.cell? ⟨g,R2*3,none⟩=some (.bool nr2)/\W'.cell? ⟨g,R2*3+1,none⟩=some (.slice ra2 rn2 rc2)/\W'.cell? ⟨g,R2*3+2,none⟩=some (.slice sa2 sn2 sc2)) (first|(with_reducible exact ⟨ae,af,ag,am,an,aM,aN,e0,e1,t10,t11,t12,t20,t21,t22⟩)|(with_reducible exact ⟨cP (cP (cP (ae) (.inl nz0) _) (.inl nz0) _) (.inl nz0) _,cP (cP (cP (af) (.inl nz0) _) (.inl nz0) _) (.inl nz0) _,cP (cP (cP (ag) (.inl nz0) _) (.inl nz0) _) (.inl nz0) _,cP (cP (cP (am) (.inl nz0) _) (.inl nz0) _) (.inl nz0) _,cP (cP (cP (an) (.inl nz0) _) (.inl nz0) _) (.inl nz0) _,cP (cP (cP (aM) (.inl nz0) _) (.inl nz0) _) (.inl nz0) _,cP (cP (cP (aN) (.inl nz0) _) (.inl nz0) _) (.inl nz0) _,cP (cP (cP (e0) (.inl nzx_e0) _) (.inl nzx_e0) _) (.inl nzx_e0) _,cP (cP (cP (e1) (.inl nzx_e1) _) (.inl nzx_e1) _) (.inl nzx_e1) _,cP (cP (cP (t10) (.inl nzx_t10) _) (.inl nzx_t10) _) (.inl nzx_t10) _,cP (cP (cP (t11) (.inl nzx_t11) _) (.inl nzx_t11) _) (.inl nzx_t11) _,cP (cP (cP (t12) (.inl nzx_t12) _) (.inl nzx_t12) _) (.inl nzx_t12) _,cP (cP (cP (t20) (.inl nzx_t20) _) (.inl nzx_t20) _) (.inl nzx_t20) _,cP (cP (cP (t21) (.inl nzx_t21) _) (.inl nzx_t21) _) (.inl nzx_t21) _,cP (cP (cP (t22) (.inl nzx_t22) _) (.inl nzx_t22) _) (.inl nzx_t22) _⟩)|exact ⟨ae,af,ag,am,an,aM,aN,e0,e1,t10,t11,t12,t20,t21,t22⟩) (first
  | (go_at_call 55;have gb:=gb.drew;(with_reducible refine (zfS nr1 _ _ lr1 kr1 nr2 _ _ lr2 kr2 _ (i4.to gb) (i5.to gb) H00.out).mono ?_);rintro e w1 ⟨rfl,aT⟩;have gb:=bS gb aT;obtain ⟨⟨z0,ae,af,ag,am,an,aM,aN,ah,ai,ak,au,aw,aR,aS⟩,⟨z1,aA,aB,aC,aD,aE,aF⟩⟩:=al.out _ gb;obtain ⟨e0,e1,e2,e3,e4⟩:=(i1.to gb);obtain ⟨t10,t11,t12⟩:=(i2.to gb);obtain ⟨t20,t21,t22⟩:=(i3.to gb)))
 go_wp2_with fail
 exact bodyPost_ret (zn Try.results37 _ _ _ _ _ _ rfl (Tri.set (x0:=.bool false) (y0:=.slice none 0 0) (z0:=.slice none 0 0) ⟨aA,aB,aC,aD,aE,aF⟩ _ _ _)) rfl ⟨rfl,bT (bS zb gb) (by omega) _ _ _⟩

theorem zgJ (mB g N:Nat) (u vJ:Value) (rows cols:Int) (op to xb:Int) (ng:Bool) (vn vd:Value) (lw1 lw2:List Nat) (R1:Nat) (nr1:Bool) (vr1 ur1:Value) (lr1 kr1:List Nat) {x:Rat}  (w:World) (hw:IsF w vn vd lw1 lw2) (hm:zy w mB g N u vJ rows cols) (hN:N<=100000) (hr1:R1<N) (tr1:zaW w g (R1*3) (.bool nr1) vr1 ur1) (qr1:IsQ w nr1 vr1 ur1 lr1 kr1 x) (q:Rat) (hq:-x=q) (hs:Hid (szq q<=4097)) :
  Calls Try.prog 38 #[.pointer (some ⟨mB,0,none⟩),.agg #[.int .i64 op,.int .i64 to,.int .i64 (R1:Int),.int .i64 xb,.bool ng,vn,vd]] w (zp w q):=by
 have Hq:=Lib.hid hq
 clear hq
 obtain ⟨a0,n0,c0,rfl,H0,hm0⟩:=hw.1.open
 obtain ⟨a1,n1,c1,rfl,H1,hm1⟩:=hw.2.open
 obtain ⟨ra1,rn1,rc1,rfl,RH1,rm1⟩:=qr1.1.open
 obtain ⟨sa1,sn1,sc1,rfl,SH1,sm1⟩:=qr1.2.1.open
 have ri1:(R1:Int)<(N:Int):=by omega
 have lm:=hm.lt
 have lt1:=tr1.lt
 go_enter Try.func38,Try.ntmps38
 go_wp2_with fail
 obtain ⟨W0,aq⟩:∃ W0,(w.alloc (.cells #[.int .i64 op,.int .i64 to,.int .i64 (R1:Int),.int .i64 xb,.bool ng,.slice a0 n0 c0,.slice a1 n1 c1] 27)).alloc (.cells #[.bool false,.slice none 0 0,.slice none 0 0] 25)=W0:=⟨_,rfl⟩
 have al:=Lib.hid (show ∀ W',Below W0.heap.size W0 W'->(Bx7 W' w.heap.size (.int .i64 op) (.int .i64 to) (.int .i64 (R1:Int)) (.int .i64 xb) (.bool ng) (.slice a0 n0 c0) (.slice a1 n1 c1)/\Bx3 W' (w.heap.size+1) (.bool false) (.slice none 0 0) (.slice none 0 0)) from fun W' hb => by
   refine ⟨bx7 hb ?_ ?_ ?_ ?_ ?_ ?_ ?_ ?_ ?_ ?_ ?_ ?_ ?_ ?_,bx3 hb ?_ ?_ ?_ ?_ ?_ ?_⟩
   all_goals first|assumption|(rw [<- aq];simp [go_sem]))
 have zb:Below w.heap.size w W0:=by rw [<- aq];exact bS (bN _ _) (bN _ _)
 rw [aq]
 clear aq
 have i0:=hw.to zb
 have i1:=hm.to zb
 have i2:=tr1.to zb
 have i3:=qr1.to zb
 have gb:Below W0.heap.size W0 W0:=Below.refl _ _
 obtain ⟨⟨z0,ae,af,ag,am,an,aM,aN,ah,ai,ak,au,aw,aR,aS⟩,⟨z1,aA,aB,aC,aD,aE,aF⟩⟩:=al.out _ gb
 obtain ⟨e0,e1,e2,e3,e4⟩:=(i1.to gb)
 obtain ⟨t10,t11,t12⟩:=(i2.to gb)
 go_wp2_with fail
 have nzx_e0:mB≠w.heap.size+1:=by omega
 have nzx_e1:mB≠w.heap.size+1:=by omega
 have nzx_t10:g≠w.heap.size+1:=by omega
 have nzx_t11:g≠w.heap.size+1:=by omega
 have nzx_t12:g≠w.heap.size+1:=by omega
 have nz0:w.heap.size≠w.heap.size+1:=by omega
 go_region_held3 (fun W' => W'.cell? ⟨w.heap.size,0,none⟩=some (.int .i64 op)/\W'.cell? ⟨w.heap.size,1,none⟩=some (.int .i64 to)/\W'.cell? ⟨w.heap.size,2,none⟩=some (.int .i64 (R1:Int))/\W'.cell? ⟨w.heap.size,3,none⟩=some (.int .i64 xb)/\W'.cell? ⟨w.heap.size,4,none⟩=some (.bool ng)/\W'.cell? ⟨w.heap.size,5,none⟩=some (.slice a0 n0 c0)/\W'.cell? ⟨w.heap.size,6,none⟩=some (.slice a1 n1 c1)/\W'.cell? ⟨mB,0,none⟩=some (u)/\W'.cell? ⟨mB,1,none⟩=some (.slice (some ⟨g,0,none⟩) N N)/\W'.cell? ⟨g,R1*3,none⟩=some (.bool nr1)/\W'.cell? ⟨g,R1*3+1,none⟩=some (.slice ra1 rn1 rc1)/\W'.cell? ⟨g,R1*3+2,none⟩=some (.slice sa1 sn1 sc1)) (first|(with_reducible exact ⟨ae,af,ag,am,an,aM,aN,e0,e1,t10,t11,t12⟩)|(with_reducible exact ⟨cP (cP (cP (ae) (.inl nz0) _) (.inl nz0) _) (.inl nz0) _,cP (cP (cP (af) (.inl nz0) _) (.inl nz0) _) (.inl nz0) _,cP (cP (cP (ag) (.inl nz0) _) (.inl nz0) _) (.inl nz0) _,cP (cP (cP (am) (.inl nz0) _) (.inl nz0) _) (.inl nz0) _,cP (cP (cP (an) (.inl nz0) _) (.inl nz0) _) (.inl nz0) _,cP (cP (cP (aM) (.inl nz0) _) (.inl nz0) _) (.inl nz0) _,cP (cP (cP (aN) (.inl nz0) _) (.inl nz0) _) (.inl nz0) _,cP (cP (cP (e0) (.inl nzx_e0) _) (.inl nzx_e0) _) (.inl nzx_e0) _,cP (cP (cP (e1) (.inl nzx_e1) _) (.inl nzx_e1) _) (.inl nzx_e1) _,cP (cP (cP (t10) (.inl nzx_t10) _) (.inl nzx_t10) _) (.inl nzx_t10) _,cP (cP (cP (t11) (.inl nzx_t11) _) (.inl nzx_t11) _) (.inl nzx_t11) _,cP (cP (cP (t12) (.inl nzx_t12) _) (.inl nzx_t12) _) (.inl nzx_t12) _⟩)|exact ⟨ae,af,ag,am,an,aM,aN,e0,e1,t10,t11,t12⟩) (first
  | (go_at_call 56;have gb:=gb.drew;(with_reducible refine (zfs nr1 _ _ lr1 kr1 _ (i3.to gb) q Hq.out hs).mono ?_);rintro e w1 ⟨ng1,a1_,n1_,c1_,p1_,m1_,k1_,rfl,g1,aT⟩;have gb:=bS gb aT;obtain ⟨⟨z0,ae,af,ag,am,an,aM,aN,ah,ai,ak,au,aw,aR,aS⟩,⟨z1,aA,aB,aC,aD,aE,aF⟩⟩:=al.out _ gb;obtain ⟨e0,e1,e2,e3,e4⟩:=(i1.to gb);obtain ⟨t10,t11,t12⟩:=(i2.to gb)))
 go_wp2_with fail
 refine bodyPost_ret (zn Try.results38 _ _ _ _ _ _ rfl (Tri.set (x0:=.bool false) (y0:=.slice none 0 0) (z0:=.slice none 0 0) ⟨aA,aB,aC,aD,aE,aF⟩ _ _ _)) rfl (zbn (bS zb gb) (by omega) ?_ g1)
 first|omega|(simp;omega)

theorem zeF (p0:Value) (op to xa xb:Int) (ng:Bool) (vn vd:Value) (lw1 lw2:List Nat) {x:Rat}  (w:World) (hw:IsQ w ng vn vd lw1 lw2 x) (hs:Hid (szq x<=4097)) :
  Calls Try.prog 33 #[p0,.agg #[.int .i64 op,.int .i64 to,.int .i64 xa,.int .i64 xb,.bool ng,vn,vd]] w (zp w x):=by
 obtain ⟨a0,n0,c0,rfl,H0,hm0⟩:=hw.1.open
 obtain ⟨a1,n1,c1,rfl,H1,hm1⟩:=hw.2.1.open
 go_enter Try.func33,Try.ntmps33
 go_wp2_with fail
 obtain ⟨W0,aq⟩:∃ W0,(w.alloc (.cells #[.int .i64 op,.int .i64 to,.int .i64 xa,.int .i64 xb,.bool ng,.slice a0 n0 c0,.slice a1 n1 c1] 27)).alloc (.cells #[.bool false,.slice none 0 0,.slice none 0 0] 25)=W0:=⟨_,rfl⟩
 have al:=Lib.hid (show ∀ W',Below W0.heap.size W0 W'->(Bx7 W' w.heap.size (.int .i64 op) (.int .i64 to) (.int .i64 xa) (.int .i64 xb) (.bool ng) (.slice a0 n0 c0) (.slice a1 n1 c1)/\Bx3 W' (w.heap.size+1) (.bool false) (.slice none 0 0) (.slice none 0 0)) from fun W' hb => by
   refine ⟨bx7 hb ?_ ?_ ?_ ?_ ?_ ?_ ?_ ?_ ?_ ?_ ?_ ?_ ?_ ?_,bx3 hb ?_ ?_ ?_ ?_ ?_ ?_⟩
   all_goals first|assumption|(rw [<- aq];simp [go_sem]))
 have zb:Below w.heap.size w W0:=by rw [<- aq];exact bS (bN _ _) (bN _ _)
 rw [aq]
 clear aq
 have i0:=hw.to zb
 have gb:Below W0.heap.size W0 W0:=Below.refl _ _
 obtain ⟨⟨z0,ae,af,ag,am,an,aM,aN,ah,ai,ak,au,aw,aR,aS⟩,⟨z1,aA,aB,aC,aD,aE,aF⟩⟩:=al.out _ gb
 go_wp2_with fail
 refine (zcA ng _ _ lw1 lw2 _ (i0.to gb) x rfl hs).mono ?_
 clear ae ah af ai ag ak am au an aw aM aR aN aS aA aD aB aE aC aF
 rintro e w1 ⟨ng1,a1_,n1_,c1_,p1_,m1_,k1_,rfl,g1,aT⟩
 replace gb:=bS gb aT
 obtain ⟨⟨z0,ae,af,ag,am,an,aM,aN,ah,ai,ak,au,aw,aR,aS⟩,⟨z1,aA,aB,aC,aD,aE,aF⟩⟩:=al.out _ gb
 go_wp2_with fail
 refine bodyPost_ret (zn Try.results33 _ _ _ _ _ _ rfl (Tri.set (x0:=.bool false) (y0:=.slice none 0 0) (z0:=.slice none 0 0) ⟨aA,aB,aC,aD,aE,aF⟩ _ _ _)) rfl (zbn (bS zb gb) (by omega) ?_ g1)
 first|omega|(simp;omega)

theorem zeG (mB g N:Nat) (vJ:Value) (rows cols:Int) (b off n cap A:Nat) (op to xb:Int) (ng:Bool) (vn vd:Value) (lw1 lw2:List Nat) (nr1:Bool) (vr1 ur1:Value) (lr1 kr1:List Nat) {x:Rat}  (w:World) (hw:IsF w vn vd lw1 lw2) (hm:zy w mB g N (.slice (some ⟨b,off,none⟩) n cap) vJ rows cols) (hn:n<=maxLen) (hA:A<n) (tr1:zaW w b (off+A*3) (.bool nr1) vr1 ur1) (qr1:IsQ w nr1 vr1 ur1 lr1 kr1 x) (hs:Hid (szq x<=4097)) :
  Calls Try.prog 32 #[.pointer (some ⟨mB,0,none⟩),.agg #[.int .i64 op,.int .i64 to,.int .i64 (A:Int),.int .i64 xb,.bool ng,vn,vd]] w (zp w x):=by
 unfold maxLen at hn
 obtain ⟨a0,n0,c0,rfl,H0,hm0⟩:=hw.1.open
 obtain ⟨a1,n1,c1,rfl,H1,hm1⟩:=hw.2.open
 obtain ⟨ra1,rn1,rc1,rfl,RH1,rm1⟩:=qr1.1.open
 obtain ⟨sa1,sn1,sc1,rfl,SH1,sm1⟩:=qr1.2.1.open
 have hi1:(A:Int)<(n:Int):=by omega
 have lm:=hm.lt
 have lt1:=tr1.lt
 go_enter Try.func32,Try.ntmps32
 go_wp2_with fail
 obtain ⟨W0,aq⟩:∃ W0,(w.alloc (.cells #[.int .i64 op,.int .i64 to,.int .i64 (A:Int),.int .i64 xb,.bool ng,.slice a0 n0 c0,.slice a1 n1 c1] 27)).alloc (.cells #[.bool false,.slice none 0 0,.slice none 0 0] 25)=W0:=⟨_,rfl⟩
 have al:=Lib.hid (show ∀ W',Below W0.heap.size W0 W'->(Bx7 W' w.heap.size (.int .i64 op) (.int .i64 to) (.int .i64 (A:Int)) (.int .i64 xb) (.bool ng) (.slice a0 n0 c0) (.slice a1 n1 c1)/\Bx3 W' (w.heap.size+1) (.bool false) (.slice none 0 0) (.slice none 0 0)) from fun W' hb => by
   refine ⟨bx7 hb ?_ ?_ ?_ ?_ ?_ ?_ ?_ ?_ ?_ ?_ ?_ ?_ ?_ ?_,bx3 hb ?_ ?_ ?_ ?_ ?_ ?_⟩
   all_goals first|assumption|(rw [<- aq];simp [go_sem]))
 have zb:Below w.heap.size w W0:=by rw [<- aq];exact bS (bN _ _) (bN _ _)
 rw [aq]
 clear aq
 have i0:=hw.to zb
 have i1:=hm.to zb
 have i2:=tr1.to zb
 have i3:=qr1.to zb
 have gb:Below W0.heap.size W0 W0:=Below.refl _ _
 obtain ⟨⟨z0,ae,af,ag,am,an,aM,aN,ah,ai,ak,au,aw,aR,aS⟩,⟨z1,aA,aB,aC,aD,aE,aF⟩⟩:=al.out _ gb
 obtain ⟨e0,e1,e2,e3,e4⟩:=(i1.to gb)
 obtain ⟨t10,t11,t12⟩:=(i2.to gb)
 go_wp2_with fail
 have nzx_e0:mB≠w.heap.size+1:=by omega
 have nzx_e1:mB≠w.heap.size+1:=by omega
 have nzx_t10:b≠w.heap.size+1:=by omega
 have nzx_t11:b≠w.heap.size+1:=by omega
 have nzx_t12:b≠w.heap.size+1:=by omega
 have nz0:w.heap.size≠w.heap.size+1:=by omega
 go_region_held3 (fun W' => W'.cell? ⟨w.heap.size,0,none⟩=some (.int .i64 op)/\W'.cell? ⟨w.heap.size,1,none⟩=some (.int .i64 to)/\W'.cell? ⟨w.heap.size,2,none⟩=some (.int .i64 (A:Int))/\W'.cell? ⟨w.heap.size,3,none⟩=some (.int .i64 xb)/\W'.cell? ⟨w.heap.size,4,none⟩=some (.bool ng)/\W'.cell? ⟨w.heap.size,5,none⟩=some (.slice a0 n0 c0)/\W'.cell? ⟨w.heap.size,6,none⟩=some (.slice a1 n1 c1)/\W'.cell? ⟨mB,0,none⟩=some (.slice (some ⟨b,off,none⟩) n cap)/\W'.cell? ⟨mB,1,none⟩=some (.slice (some ⟨g,0,none⟩) N N)/\W'.cell? ⟨b,off+A*3,none⟩=some (.bool nr1)/\W'.cell? ⟨b,off+A*3+1,none⟩=some (.slice ra1 rn1 rc1)/\W'.cell? ⟨b,off+A*3+2,none⟩=some (.slice sa1 sn1 sc1)) (first|(with_reducible exact ⟨ae,af,ag,am,an,aM,aN,e0,e1,t10,t11,t12⟩)|(with_reducible exact ⟨cP (cP (cP (ae) (.inl nz0) _) (.inl nz0) _) (.inl nz0) _,cP (cP (cP (af) (.inl nz0) _) (.inl nz0) _) (.inl nz0) _,cP (cP (cP (ag) (.inl nz0) _) (.inl nz0) _) (.inl nz0) _,cP (cP (cP (am) (.inl nz0) _) (.inl nz0) _) (.inl nz0) _,cP (cP (cP (an) (.inl nz0) _) (.inl nz0) _) (.inl nz0) _,cP (cP (cP (aM) (.inl nz0) _) (.inl nz0) _) (.inl nz0) _,cP (cP (cP (aN) (.inl nz0) _) (.inl nz0) _) (.inl nz0) _,cP (cP (cP (e0) (.inl nzx_e0) _) (.inl nzx_e0) _) (.inl nzx_e0) _,cP (cP (cP (e1) (.inl nzx_e1) _) (.inl nzx_e1) _) (.inl nzx_e1) _,cP (cP (cP (t10) (.inl nzx_t10) _) (.inl nzx_t10) _) (.inl nzx_t10) _,cP (cP (cP (t11) (.inl nzx_t11) _) (.inl nzx_t11) _) (.inl nzx_t11) _,cP (cP (cP (t12) (.inl nzx_t12) _) (.inl nzx_t12) _) (.inl nzx_t12) _⟩)|exact ⟨ae,af,ag,am,an,aM,aN,e0,e1,t10,t11,t12⟩) (first
  | (go_at_call 20;have gb:=gb.drew;(with_reducible refine (zcA nr1 _ _ lr1 kr1 _ (i3.to gb) x rfl hs).mono ?_);rintro e w1 ⟨ng1,a1_,n1_,c1_,p1_,m1_,k1_,rfl,g1,aT⟩;have gb:=bS gb aT;obtain ⟨⟨z0,ae,af,ag,am,an,aM,aN,ah,ai,ak,au,aw,aR,aS⟩,⟨z1,aA,aB,aC,aD,aE,aF⟩⟩:=al.out _ gb;obtain ⟨e0,e1,e2,e3,e4⟩:=(i1.to gb);obtain ⟨t10,t11,t12⟩:=(i2.to gb)))
 go_wp2_with fail
 refine bodyPost_ret (zn Try.results32 _ _ _ _ _ _ rfl (Tri.set (x0:=.bool false) (y0:=.slice none 0 0) (z0:=.slice none 0 0) ⟨aA,aB,aC,aD,aE,aF⟩ _ _ _)) rfl (zbn (bS zb gb) (by omega) ?_ g1)
 first|omega|(simp;omega)

theorem zx (b:Bool) (v u:Value) (ln ld:List Nat)  (w:World) (h:IsF w v u ln ld) (o:Int) (ho:((max ln.length ld.length:Nat):Int)=o)  :
  Calls Try.prog 22 #[aggR b v u] w (fun e w' => e=.returned (.int .i64 o)/\Below w.heap.size w w'):=by
 have Ho:=Lib.hid ho
 clear ho
 obtain ⟨a0,n0,c0,rfl,H0,hm0⟩:=h.1.open
 obtain ⟨a1,n1,c1,rfl,H1,hm1⟩:=h.2.open
 obtain ⟨m,hm⟩:∃ m:Nat,max n0 n1=m:=⟨_,rfl⟩
 have HM:max (n0:Int) (n1:Int)=(m:Int):=by omega
 have ho:(m:Int)=o:=by rw [<- Ho.out,H0.out,H1.out,hm]
 clear Ho hm
 subst ho
 go_enter Try.func22,Try.ntmps22
 go_wp2_with fail
 obtain ⟨W0,aq⟩:∃ W0,w.alloc (.cells #[.bool b,.slice a0 n0 c0,.slice a1 n1 c1] 25)=W0:=⟨_,rfl⟩
 have al:=Lib.hid (show ∀ W',Below W0.heap.size W0 W'->(Bx3 W' w.heap.size (.bool b) (.slice a0 n0 c0) (.slice a1 n1 c1)) from fun W' hb => by
   apply bx3 hb
   all_goals first|assumption|(rw [<- aq];simp [go_sem]))
 have zb:Below w.heap.size w W0:=by rw [<- aq];exact bN _ _
 rw [aq]
 clear aq
 have i0:=h.to zb
 have gb:Below W0.heap.size W0 W0:=Below.refl _ _
 obtain ⟨z0,ae,af,ag,ah,ai,ak⟩:=al.out _ gb
 go_wp2_with fail
 go_ret
 exact ⟨rfl,bS zb gb⟩

end Go.Proofs.Ytkjcdnlpjldhaaa


namespace Go.Proofs.Ytkjcdnlpjldhaaa
open Go.RowKit Tw
attribute [local go_sem ↓] Go.wp_at_zero Go.wp_at_succ

theorem zeY (mB g N:Nat) (u vJ:Value) (rows cols:Int) (op to xb:Int) (ng:Bool) (vn vd:Value) (lw1 lw2:List Nat) (R1:Nat) (nr1:Bool) (vr1 ur1:Value) {x:Rat}  (w:World) (hw:IsF w vn vd lw1 lw2) (hm:zy w mB g N u vJ rows cols) (hN:N<=100000) (hr1:R1<N) (tr1:zaW w g (R1*3) (.bool nr1) vr1 ur1) (qr1:IsK w nr1 vr1 ur1 x) (hb:-21<=xb/\xb<=21) (h0:x=0) (hn:xb<0)  :
  Calls Try.prog 39 #[.pointer (some ⟨mB,0,none⟩),.agg #[.int .i64 op,.int .i64 to,.int .i64 (R1:Int),.int .i64 xb,.bool ng,vn,vd]] w (fun e w' => e=.returned (.tuple #[aggR false (.slice none 0 0) (.slice none 0 0),.int .i64 3])/\Below w.heap.size w w'):=by
 obtain ⟨a0,n0,c0,rfl,H0,hm0⟩:=hw.1.open
 obtain ⟨a1,n1,c1,rfl,H1,hm1⟩:=hw.2.open
 have qq:=qr1.1
 have Hx1:=zas qq
 obtain ⟨ra1,rn1,rc1,rfl,RH1,rm1⟩:=qr1.1.1.open
 obtain ⟨sa1,sn1,sc1,rfl,SH1,sm1⟩:=qr1.1.2.1.open
 have ri1:(R1:Int)<(N:Int):=by omega
 have lm:=hm.lt
 have lt1:=tr1.lt
 have Hz:=Lib.hid (zt RH1.out)
 have Hq:=Lib.hid (zcC RH1.out SH1.out)
 have t0:((rn1:Int) == 0)=true:=by simp;exact Hz.out.2 h0
 clear h0
 go_enter Try.func39,Try.ntmps39
 go_wp2_with fail
 obtain ⟨W0,aq⟩:∃ W0,(w.alloc (.cells #[.int .i64 op,.int .i64 to,.int .i64 (R1:Int),.int .i64 xb,.bool ng,.slice a0 n0 c0,.slice a1 n1 c1] 27)).alloc (.cells #[.bool false,.slice none 0 0,.slice none 0 0] 25)=W0:=⟨_,rfl⟩
 have al:=Lib.hid (show ∀ W',Below W0.heap.size W0 W'->(Bx7 W' w.heap.size (.int .i64 op) (.int .i64 to) (.int .i64 (R1:Int)) (.int .i64 xb) (.bool ng) (.slice a0 n0 c0) (.slice a1 n1 c1)/\Bx3 W' (w.heap.size+1) (.bool false) (.slice none 0 0) (.slice none 0 0)) from fun W' hb => by
   refine ⟨bx7 hb ?_ ?_ ?_ ?_ ?_ ?_ ?_ ?_ ?_ ?_ ?_ ?_ ?_ ?_,bx3 hb ?_ ?_ ?_ ?_ ?_ ?_⟩
   all_goals first|assumption|(rw [<- aq];simp [go_sem]))
 have zb:Below w.heap.size w W0:=by rw [<- aq];exact bS (bN _ _) (bN _ _)
 rw [aq]
 clear aq
 have i0:=hw.to zb
 have i1:=hm.to zb
 have i2:=tr1.to zb
 have i3:=qq.to zb
 have gb:Below W0.heap.size W0 W0:=Below.refl _ _
 obtain ⟨⟨z0,ae,af,ag,am,an,aM,aN,ah,ai,ak,au,aw,aR,aS⟩,⟨z1,aA,aB,aC,aD,aE,aF⟩⟩:=al.out _ gb
 obtain ⟨e0,e1,e2,e3,e4⟩:=(i1.to gb)
 obtain ⟨t10,t11,t12⟩:=(i2.to gb)
 go_wp2_with fail
 have gba:Below W0.heap.size W0 (W0.alloc (.cells #[.bool false,.slice none 0 0,.slice none 0 0] 25)):=bS gb (bN _ _)
 obtain ⟨⟨az0,ax0_0,ax0_1,ax0_2,ax0_3,ax0_4,ax0_5,ax0_6,ay0_0,ay0_1,ay0_2,ay0_3,ay0_4,ay0_5,ay0_6⟩,⟨az1,ax1_0,ax1_1,ax1_2,ay1_0,ay1_1,ay1_2⟩⟩:=al.out _ gba
 obtain ⟨ae0,ae1,ae2,ae3,ae4⟩:=(i1.to gba)
 obtain ⟨at10,at11,at12⟩:=(i2.to gba)
 go_region
 clear gba ax0_0 ay0_0 ax0_1 ay0_1 ax0_2 ay0_2 ax0_3 ay0_3 ax0_4 ay0_4 ax0_5 ay0_5 ax0_6 ay0_6 ax1_0 ay1_0 ax1_1 ay1_1 ax1_2 ay1_2 az0 az1 ae0 ae1 ae2 ae3 ae4 at10 at11 at12
 obtain ⟨W1,aK⟩:∃ W1,(W0.alloc (.cells #[.bool nr1,.slice ra1 rn1 rc1,.slice sa1 sn1 sc1] 25)).drew=W1:=⟨_,rfl⟩
 have hb_W1:Below W0.heap.size W0 W1:=by rw [<- aK];exact (bN _ _).drew
 have cw:Hid (W1.heap.size=W0.heap.size+1):=by show _=_;rw [<- aK];simp
 clear ae ah af ai ag ak am au an aw aM aR aN aS aA aD aB aE aC aF e0 e1 e2 e3 e4 t10 t11 t12
 replace gb:=bS gb hb_W1
 obtain ⟨⟨z0,ae,af,ag,am,an,aM,aN,ah,ai,ak,au,aw,aR,aS⟩,⟨z1,aA,aB,aC,aD,aE,aF⟩⟩:=al.out _ gb
 obtain ⟨e0,e1,e2,e3,e4⟩:=(i1.to gb)
 obtain ⟨t10,t11,t12⟩:=(i2.to gb)
 have bt:W1.cell? ⟨W0.heap.size,0,none⟩=some (.bool nr1):=by rw [<- aK];simp [go_sem]
 have bG:W1.frozen? ⟨W0.heap.size,0,none⟩=false:=by rw [<- aK];simp [go_sem]
 have bu:W1.cell? ⟨W0.heap.size,1,none⟩=some (.slice ra1 rn1 rc1):=by rw [<- aK];simp [go_sem]
 have bH:W1.frozen? ⟨W0.heap.size,1,none⟩=false:=by rw [<- aK];simp [go_sem]
 have b6:W1.cell? ⟨W0.heap.size,2,none⟩=some (.slice sa1 sn1 sc1):=by rw [<- aK];simp [go_sem]
 have cg:W1.frozen? ⟨W0.heap.size,2,none⟩=false:=by rw [<- aK];simp [go_sem]
 have z2:W0.heap.size<W1.heap.size:=by rw [<- aK];simp
 rw [aK]
 clear aK
 replace i0:=i0.to gb
 replace i1:=i1.to gb
 replace i2:=i2.to gb
 replace i3:=i3.to gb
 replace zb:=bS zb gb
 have b7:=Lib.hid (show ∀ W',Below W1.heap.size W1 W'->(Bx7 W' w.heap.size (.int .i64 op) (.int .i64 to) (.int .i64 (R1:Int)) (.int .i64 xb) (.bool ng) (.slice a0 n0 c0) (.slice a1 n1 c1)/\Bx3 W' (w.heap.size+1) (.bool false) (.slice none 0 0) (.slice none 0 0)/\Bx3 W' W0.heap.size (.bool nr1) (.slice ra1 rn1 rc1) (.slice sa1 sn1 sc1)) from fun W' hb => by
   refine ⟨bx7 hb ?_ ?_ ?_ ?_ ?_ ?_ ?_ ?_ ?_ ?_ ?_ ?_ ?_ ?_,bx3 hb ?_ ?_ ?_ ?_ ?_ ?_,bx3 hb ?_ ?_ ?_ ?_ ?_ ?_⟩
   all_goals first|assumption|assumption)
 replace gb:=Below.refl W1.heap.size W1
 go_wp2_with fail
 exact bodyPost_ret (zn Try.results39 _ _ _ _ _ _ rfl (Tri.set (x0:=.bool false) (y0:=.slice none 0 0) (z0:=.slice none 0 0) ⟨aA,aB,aC,aD,aE,aF⟩ _ _ _)) rfl ⟨rfl,bT (bS zb gb) (by omega) _ _ _⟩

theorem zea (mB g N:Nat) (u vJ:Value) (rows cols:Int) (op to xb:Int) (ng:Bool) (vn vd:Value) (lw1 lw2:List Nat) (R1:Nat) (nr1:Bool) (vr1 ur1:Value) {x:Rat}  (w:World) (hw:IsF w vn vd lw1 lw2) (hm:zy w mB g N u vJ rows cols) (hN:N<=100000) (hr1:R1<N) (tr1:zaW w g (R1*3) (.bool nr1) vr1 ur1) (qr1:IsK w nr1 vr1 ur1 x) (hb:-21<=xb/\xb<=21) (hg:x≠0) (hl:4096<szq x*xb.natAbs)  :
  Calls Try.prog 39 #[.pointer (some ⟨mB,0,none⟩),.agg #[.int .i64 op,.int .i64 to,.int .i64 (R1:Int),.int .i64 xb,.bool ng,vn,vd]] w (fun e w' => e=.returned (.tuple #[aggR false (.slice none 0 0) (.slice none 0 0),.int .i64 4])/\Below w.heap.size w w'):=by
 obtain ⟨a0,n0,c0,rfl,H0,hm0⟩:=hw.1.open
 obtain ⟨a1,n1,c1,rfl,H1,hm1⟩:=hw.2.open
 have qq:=qr1.1
 have Hx1:=zas qq
 obtain ⟨ra1,rn1,rc1,rfl,RH1,rm1⟩:=qr1.1.1.open
 obtain ⟨sa1,sn1,sc1,rfl,SH1,sm1⟩:=qr1.1.2.1.open
 have ri1:(R1:Int)<(N:Int):=by omega
 have lm:=hm.lt
 have lt1:=tr1.lt
 have Hz:=Lib.hid (zt RH1.out)
 have Hq:=Lib.hid (zcC RH1.out SH1.out)
 have t0:((rn1:Int) == 0)=false:=by simp;exact fun e => hg (Hz.out.1 e)
 clear hg
 obtain ⟨m,hm9⟩:∃ m:Nat,max rn1 sn1=m:=⟨_,rfl⟩
 have HM:=Lib.hid (show ((max (zc x.num.natAbs).length (zc x.den).length:Nat):Int)=(m:Int) by rw [RH1.out,SH1.out,hm9])
 have Hm:=Lib.hid (show szq x=m by rw [Hq.out,hm9])
 have hm10:m<=4097:=by have:=Hx1.out;have:=Hm.out;omega
 obtain ⟨k,hk⟩:∃ k:Nat,xb.natAbs=k:=⟨_,rfl⟩
 have hk21:k<=21:=by omega
 have hneg:IntKind.i64.wrap (-xb)=-xb:=IntWalk.i64_in _ (by omega)
 have hmax:max xb (-xb)=(k:Int):=by omega
 have hmk:m*k<=4097*21:=Nat.mul_le_mul hm10 hk21
 obtain ⟨P,hP⟩:∃ P:Nat,m*k=P:=⟨_,rfl⟩
 have hmul:IntKind.i64.wrap ((m:Int)*(k:Int))=(P:Int):=by
  rw [<- Int.natCast_mul,hP]
  exact IntWalk.i64_in _ (by omega)
 rw [hk,Hm.out,hP] at hl
 have t4:decide (4096<P)=true:=decide_eq_true hl
 have t5:decide ((4096:Int)<(P:Int))=true:=decide_eq_true (by omega)
 clear hl hm9 hP hk hmk
 go_enter Try.func39,Try.ntmps39
 go_wp2_with fail
 obtain ⟨W0,aq⟩:∃ W0,(w.alloc (.cells #[.int .i64 op,.int .i64 to,.int .i64 (R1:Int),.int .i64 xb,.bool ng,.slice a0 n0 c0,.slice a1 n1 c1] 27)).alloc (.cells #[.bool false,.slice none 0 0,.slice none 0 0] 25)=W0:=⟨_,rfl⟩
 have al:=Lib.hid (show ∀ W',Below W0.heap.size W0 W'->(Bx7 W' w.heap.size (.int .i64 op) (.int .i64 to) (.int .i64 (R1:Int)) (.int .i64 xb) (.bool ng) (.slice a0 n0 c0) (.slice a1 n1 c1)/\Bx3 W' (w.heap.size+1) (.bool false) (.slice none 0 0) (.slice none 0 0)) from fun W' hb => by
   refine ⟨bx7 hb ?_ ?_ ?_ ?_ ?_ ?_ ?_ ?_ ?_ ?_ ?_ ?_ ?_ ?_,bx3 hb ?_ ?_ ?_ ?_ ?_ ?_⟩
   all_goals first|assumption|(rw [<- aq];simp [go_sem]))
 have zb:Below w.heap.size w W0:=by rw [<- aq];exact bS (bN _ _) (bN _ _)
 rw [aq]
 clear aq
 have i0:=hw.to zb
 have i1:=hm.to zb
 have i2:=tr1.to zb
 have i3:=qq.to zb
 have gb:Below W0.heap.size W0 W0:=Below.refl _ _
 obtain ⟨⟨z0,ae,af,ag,am,an,aM,aN,ah,ai,ak,au,aw,aR,aS⟩,⟨z1,aA,aB,aC,aD,aE,aF⟩⟩:=al.out _ gb
 obtain ⟨e0,e1,e2,e3,e4⟩:=(i1.to gb)
 obtain ⟨t10,t11,t12⟩:=(i2.to gb)
 go_wp2_with fail
 have gba:Below W0.heap.size W0 (W0.alloc (.cells #[.bool false,.slice none 0 0,.slice none 0 0] 25)):=bS gb (bN _ _)
 obtain ⟨⟨az0,ax0_0,ax0_1,ax0_2,ax0_3,ax0_4,ax0_5,ax0_6,ay0_0,ay0_1,ay0_2,ay0_3,ay0_4,ay0_5,ay0_6⟩,⟨az1,ax1_0,ax1_1,ax1_2,ay1_0,ay1_1,ay1_2⟩⟩:=al.out _ gba
 obtain ⟨ae0,ae1,ae2,ae3,ae4⟩:=(i1.to gba)
 obtain ⟨at10,at11,at12⟩:=(i2.to gba)
 go_region
 clear gba ax0_0 ay0_0 ax0_1 ay0_1 ax0_2 ay0_2 ax0_3 ay0_3 ax0_4 ay0_4 ax0_5 ay0_5 ax0_6 ay0_6 ax1_0 ay1_0 ax1_1 ay1_1 ax1_2 ay1_2 az0 az1 ae0 ae1 ae2 ae3 ae4 at10 at11 at12
 obtain ⟨W1,aK⟩:∃ W1,(W0.alloc (.cells #[.bool nr1,.slice ra1 rn1 rc1,.slice sa1 sn1 sc1] 25)).drew=W1:=⟨_,rfl⟩
 have hb_W1:Below W0.heap.size W0 W1:=by rw [<- aK];exact (bN _ _).drew
 have cw:Hid (W1.heap.size=W0.heap.size+1):=by show _=_;rw [<- aK];simp
 clear ae ah af ai ag ak am au an aw aM aR aN aS aA aD aB aE aC aF e0 e1 e2 e3 e4 t10 t11 t12
 replace gb:=bS gb hb_W1
 obtain ⟨⟨z0,ae,af,ag,am,an,aM,aN,ah,ai,ak,au,aw,aR,aS⟩,⟨z1,aA,aB,aC,aD,aE,aF⟩⟩:=al.out _ gb
 obtain ⟨e0,e1,e2,e3,e4⟩:=(i1.to gb)
 obtain ⟨t10,t11,t12⟩:=(i2.to gb)
 have bt:W1.cell? ⟨W0.heap.size,0,none⟩=some (.bool nr1):=by rw [<- aK];simp [go_sem]
 have bG:W1.frozen? ⟨W0.heap.size,0,none⟩=false:=by rw [<- aK];simp [go_sem]
 have bu:W1.cell? ⟨W0.heap.size,1,none⟩=some (.slice ra1 rn1 rc1):=by rw [<- aK];simp [go_sem]
 have bH:W1.frozen? ⟨W0.heap.size,1,none⟩=false:=by rw [<- aK];simp [go_sem]
 have b6:W1.cell? ⟨W0.heap.size,2,none⟩=some (.slice sa1 sn1 sc1):=by rw [<- aK];simp [go_sem]
 have cg:W1.frozen? ⟨W0.heap.size,2,none⟩=false:=by rw [<- aK];simp [go_sem]
 have z2:W0.heap.size<W1.heap.size:=by rw [<- aK];simp
 rw [aK]
 clear aK
 replace i0:=i0.to gb
 replace i1:=i1.to gb
 replace i2:=i2.to gb
 replace i3:=i3.to gb
 replace zb:=bS zb gb
 have b7:=Lib.hid (show ∀ W',Below W1.heap.size W1 W'->(Bx7 W' w.heap.size (.int .i64 op) (.int .i64 to) (.int .i64 (R1:Int)) (.int .i64 xb) (.bool ng) (.slice a0 n0 c0) (.slice a1 n1 c1)/\Bx3 W' (w.heap.size+1) (.bool false) (.slice none 0 0) (.slice none 0 0)/\Bx3 W' W0.heap.size (.bool nr1) (.slice ra1 rn1 rc1) (.slice sa1 sn1 sc1)) from fun W' hb => by
   refine ⟨bx7 hb ?_ ?_ ?_ ?_ ?_ ?_ ?_ ?_ ?_ ?_ ?_ ?_ ?_ ?_,bx3 hb ?_ ?_ ?_ ?_ ?_ ?_,bx3 hb ?_ ?_ ?_ ?_ ?_ ?_⟩
   all_goals first|assumption|assumption)
 replace gb:=Below.refl W1.heap.size W1
 go_wp2_with fail
 have nzx_e0:mB≠w.heap.size+1:=by omega
 have nzx_e1:mB≠w.heap.size+1:=by omega
 have nzx_t10:g≠w.heap.size+1:=by omega
 have nzx_t11:g≠w.heap.size+1:=by omega
 have nzx_t12:g≠w.heap.size+1:=by omega
 have nz0:w.heap.size≠w.heap.size+1:=by omega
 have nz2:W0.heap.size≠w.heap.size+1:=by omega
 go_region_held3 (fun W' => W'.cell? ⟨w.heap.size,0,none⟩=some (.int .i64 op)/\W'.cell? ⟨w.heap.size,1,none⟩=some (.int .i64 to)/\W'.cell? ⟨w.heap.size,2,none⟩=some (.int .i64 (R1:Int))/\W'.cell? ⟨w.heap.size,3,none⟩=some (.int .i64 xb)/\W'.cell? ⟨w.heap.size,4,none⟩=some (.bool ng)/\W'.cell? ⟨w.heap.size,5,none⟩=some (.slice a0 n0 c0)/\W'.cell? ⟨w.heap.size,6,none⟩=some (.slice a1 n1 c1)/\W'.cell? ⟨W0.heap.size,0,none⟩=some (.bool nr1)/\W'.cell? ⟨W0.heap.size,1,none⟩=some (.slice ra1 rn1 rc1)/\W'.cell? ⟨W0.heap.size,2,none⟩=some (.slice sa1 sn1 sc1)/\W'.cell? ⟨mB,0,none⟩=some (u)/\W'.cell? ⟨mB,1,none⟩=some (.slice (some ⟨g,0,none⟩) N N)/\W'.cell? ⟨g,R1*3,none⟩=some (.bool nr1)/\W'.cell? ⟨g,R1*3+1,none⟩=some (.slice ra1 rn1 rc1)/\W'.cell? ⟨g,R1*3+2,none⟩=some (.slice sa1 sn1 sc1)) (first|(with_reducible exact ⟨ae,af,ag,am,an,aM,aN,bt,bu,b6,e0,e1,t10,t11,t12⟩)|(with_reducible exact ⟨cP (cP (cP (ae) (.inl nz0) _) (.inl nz0) _) (.inl nz0) _,cP (cP (cP (af) (.inl nz0) _) (.inl nz0) _) (.inl nz0) _,cP (cP (cP (ag) (.inl nz0) _) (.inl nz0) _) (.inl nz0) _,cP (cP (cP (am) (.inl nz0) _) (.inl nz0) _) (.inl nz0) _,cP (cP (cP (an) (.inl nz0) _) (.inl nz0) _) (.inl nz0) _,cP (cP (cP (aM) (.inl nz0) _) (.inl nz0) _) (.inl nz0) _,cP (cP (cP (aN) (.inl nz0) _) (.inl nz0) _) (.inl nz0) _,cP (cP (cP (bt) (.inl nz2) _) (.inl nz2) _) (.inl nz2) _,cP (cP (cP (bu) (.inl nz2) _) (.inl nz2) _) (.inl nz2) _,cP (cP (cP (b6) (.inl nz2) _) (.inl nz2) _) (.inl nz2) _,cP (cP (cP (e0) (.inl nzx_e0) _) (.inl nzx_e0) _) (.inl nzx_e0) _,cP (cP (cP (e1) (.inl nzx_e1) _) (.inl nzx_e1) _) (.inl nzx_e1) _,cP (cP (cP (t10) (.inl nzx_t10) _) (.inl nzx_t10) _) (.inl nzx_t10) _,cP (cP (cP (t11) (.inl nzx_t11) _) (.inl nzx_t11) _) (.inl nzx_t11) _,cP (cP (cP (t12) (.inl nzx_t12) _) (.inl nzx_t12) _) (.inl nzx_t12) _⟩)|exact ⟨ae,af,ag,am,an,aM,aN,bt,bu,b6,e0,e1,t10,t11,t12⟩) (first
  | (go_at_call 22;have gb:=gb.drew;(with_reducible refine (zx nr1 _ _ _ _ _ (i3.to gb).isF (m:Int) HM.out).mono ?_);rintro e w1 ⟨rfl,aT⟩;have gb:=bS gb aT;obtain ⟨⟨z0,ae,af,ag,am,an,aM,aN,ah,ai,ak,au,aw,aR,aS⟩,⟨z1,aA,aB,aC,aD,aE,aF⟩,⟨z2,bt,bu,b6,bG,bH,cg⟩⟩:=b7.out _ gb;obtain ⟨e0,e1,e2,e3,e4⟩:=(i1.to gb);obtain ⟨t10,t11,t12⟩:=(i2.to gb)))
 all_goals
  clear hmul hneg hmax
  go_wp2_with fail
  exact bodyPost_ret (zn Try.results39 _ _ _ _ _ _ rfl (Tri.set (x0:=.bool false) (y0:=.slice none 0 0) (z0:=.slice none 0 0) ⟨aA,aB,aC,aD,aE,aF⟩ _ _ _)) rfl ⟨rfl,bT (bS zb gb) (by omega) _ _ _⟩

theorem zcY (mB g N:Nat) (u vJ:Value) (rows cols:Int) (op to xb:Int) (ng:Bool) (vn vd:Value) (lw1 lw2:List Nat) (R1:Nat) (nr1:Bool) (vr1 ur1:Value) {x:Rat}  (w:World) (hw:IsF w vn vd lw1 lw2) (hm:zy w mB g N u vJ rows cols) (hN:N<=100000) (hr1:R1<N) (tr1:zaW w g (R1*3) (.bool nr1) vr1 ur1) (qr1:IsK w nr1 vr1 ur1 x) (hb:-21<=xb/\xb<=21) (hg:x≠0) (hsn:0<=xb) (hl:szq x*xb.toNat<=4096)  :
  Calls Try.prog 39 #[.pointer (some ⟨mB,0,none⟩),.agg #[.int .i64 op,.int .i64 to,.int .i64 (R1:Int),.int .i64 xb,.bool ng,vn,vd]] w (zp w (x ^ xb.toNat)):=by
 obtain ⟨a0,n0,c0,rfl,H0,hm0⟩:=hw.1.open
 obtain ⟨a1,n1,c1,rfl,H1,hm1⟩:=hw.2.open
 have qq:=qr1.1
 have Hx1:=zas qq
 obtain ⟨ra1,rn1,rc1,rfl,RH1,rm1⟩:=qr1.1.1.open
 obtain ⟨sa1,sn1,sc1,rfl,SH1,sm1⟩:=qr1.1.2.1.open
 have ri1:(R1:Int)<(N:Int):=by omega
 have lm:=hm.lt
 have lt1:=tr1.lt
 have Hz:=Lib.hid (zt RH1.out)
 have Hq:=Lib.hid (zcC RH1.out SH1.out)
 have t0:((rn1:Int) == 0)=false:=by simp;exact fun e => hg (Hz.out.1 e)
 clear hg
 have Hs9:=Lib.hid hl
 obtain ⟨m,hm9⟩:∃ m:Nat,max rn1 sn1=m:=⟨_,rfl⟩
 have HM:=Lib.hid (show ((max (zc x.num.natAbs).length (zc x.den).length:Nat):Int)=(m:Int) by rw [RH1.out,SH1.out,hm9])
 have Hm:=Lib.hid (show szq x=m by rw [Hq.out,hm9])
 have hm10:m<=4097:=by have:=Hx1.out;have:=Hm.out;omega
 obtain ⟨k,hk⟩:∃ k:Nat,xb.natAbs=k:=⟨_,rfl⟩
 have hk21:k<=21:=by omega
 have hneg:IntKind.i64.wrap (-xb)=-xb:=IntWalk.i64_in _ (by omega)
 have hmax:max xb (-xb)=(k:Int):=by omega
 have hmk:m*k<=4097*21:=Nat.mul_le_mul hm10 hk21
 obtain ⟨P,hP⟩:∃ P:Nat,m*k=P:=⟨_,rfl⟩
 have hmul:IntKind.i64.wrap ((m:Int)*(k:Int))=(P:Int):=by
  rw [<- Int.natCast_mul,hP]
  exact IntWalk.i64_in _ (by omega)
 rw [show xb.toNat=k by omega,Hm.out,hP] at hl
 have t4:decide (4096<P)=false:=decide_eq_false (by omega)
 have t5:decide ((4096:Int)<(P:Int))=false:=decide_eq_false (by omega)
 clear hl hm9 hP hk hmk
 go_enter Try.func39,Try.ntmps39
 go_wp2_with fail
 obtain ⟨W0,aq⟩:∃ W0,(w.alloc (.cells #[.int .i64 op,.int .i64 to,.int .i64 (R1:Int),.int .i64 xb,.bool ng,.slice a0 n0 c0,.slice a1 n1 c1] 27)).alloc (.cells #[.bool false,.slice none 0 0,.slice none 0 0] 25)=W0:=⟨_,rfl⟩
 have al:=Lib.hid (show ∀ W',Below W0.heap.size W0 W'->(Bx7 W' w.heap.size (.int .i64 op) (.int .i64 to) (.int .i64 (R1:Int)) (.int .i64 xb) (.bool ng) (.slice a0 n0 c0) (.slice a1 n1 c1)/\Bx3 W' (w.heap.size+1) (.bool false) (.slice none 0 0) (.slice none 0 0)) from fun W' hb => by
   refine ⟨bx7 hb ?_ ?_ ?_ ?_ ?_ ?_ ?_ ?_ ?_ ?_ ?_ ?_ ?_ ?_,bx3 hb ?_ ?_ ?_ ?_ ?_ ?_⟩
   all_goals first|assumption|(rw [<- aq];simp [go_sem]))
 have zb:Below w.heap.size w W0:=by rw [<- aq];exact bS (bN _ _) (bN _ _)
 rw [aq]
 clear aq
 have i0:=hw.to zb
 have i1:=hm.to zb
 have i2:=tr1.to zb
 have i3:=qq.to zb
 have gb:Below W0.heap.size W0 W0:=Below.refl _ _
 obtain ⟨⟨z0,ae,af,ag,am,an,aM,aN,ah,ai,ak,au,aw,aR,aS⟩,⟨z1,aA,aB,aC,aD,aE,aF⟩⟩:=al.out _ gb
 obtain ⟨e0,e1,e2,e3,e4⟩:=(i1.to gb)
 obtain ⟨t10,t11,t12⟩:=(i2.to gb)
 go_wp2_with fail
 have gba:Below W0.heap.size W0 (W0.alloc (.cells #[.bool false,.slice none 0 0,.slice none 0 0] 25)):=bS gb (bN _ _)
 obtain ⟨⟨az0,ax0_0,ax0_1,ax0_2,ax0_3,ax0_4,ax0_5,ax0_6,ay0_0,ay0_1,ay0_2,ay0_3,ay0_4,ay0_5,ay0_6⟩,⟨az1,ax1_0,ax1_1,ax1_2,ay1_0,ay1_1,ay1_2⟩⟩:=al.out _ gba
 obtain ⟨ae0,ae1,ae2,ae3,ae4⟩:=(i1.to gba)
 obtain ⟨at10,at11,at12⟩:=(i2.to gba)
 go_region
 clear gba ax0_0 ay0_0 ax0_1 ay0_1 ax0_2 ay0_2 ax0_3 ay0_3 ax0_4 ay0_4 ax0_5 ay0_5 ax0_6 ay0_6 ax1_0 ay1_0 ax1_1 ay1_1 ax1_2 ay1_2 az0 az1 ae0 ae1 ae2 ae3 ae4 at10 at11 at12
 obtain ⟨W1,aK⟩:∃ W1,(W0.alloc (.cells #[.bool nr1,.slice ra1 rn1 rc1,.slice sa1 sn1 sc1] 25)).drew=W1:=⟨_,rfl⟩
 have hb_W1:Below W0.heap.size W0 W1:=by rw [<- aK];exact (bN _ _).drew
 have cw:Hid (W1.heap.size=W0.heap.size+1):=by show _=_;rw [<- aK];simp
 clear ae ah af ai ag ak am au an aw aM aR aN aS aA aD aB aE aC aF e0 e1 e2 e3 e4 t10 t11 t12
 replace gb:=bS gb hb_W1
 obtain ⟨⟨z0,ae,af,ag,am,an,aM,aN,ah,ai,ak,au,aw,aR,aS⟩,⟨z1,aA,aB,aC,aD,aE,aF⟩⟩:=al.out _ gb
 obtain ⟨e0,e1,e2,e3,e4⟩:=(i1.to gb)
 obtain ⟨t10,t11,t12⟩:=(i2.to gb)
 have bt:W1.cell? ⟨W0.heap.size,0,none⟩=some (.bool nr1):=by rw [<- aK];simp [go_sem]
 have bG:W1.frozen? ⟨W0.heap.size,0,none⟩=false:=by rw [<- aK];simp [go_sem]
 have bu:W1.cell? ⟨W0.heap.size,1,none⟩=some (.slice ra1 rn1 rc1):=by rw [<- aK];simp [go_sem]
 have bH:W1.frozen? ⟨W0.heap.size,1,none⟩=false:=by rw [<- aK];simp [go_sem]
 have b6:W1.cell? ⟨W0.heap.size,2,none⟩=some (.slice sa1 sn1 sc1):=by rw [<- aK];simp [go_sem]
 have cg:W1.frozen? ⟨W0.heap.size,2,none⟩=false:=by rw [<- aK];simp [go_sem]
 have z2:W0.heap.size<W1.heap.size:=by rw [<- aK];simp
 rw [aK]
 clear aK
 replace i0:=i0.to gb
 replace i1:=i1.to gb
 replace i2:=i2.to gb
 replace i3:=i3.to gb
 replace zb:=bS zb gb
 have b7:=Lib.hid (show ∀ W',Below W1.heap.size W1 W'->(Bx7 W' w.heap.size (.int .i64 op) (.int .i64 to) (.int .i64 (R1:Int)) (.int .i64 xb) (.bool ng) (.slice a0 n0 c0) (.slice a1 n1 c1)/\Bx3 W' (w.heap.size+1) (.bool false) (.slice none 0 0) (.slice none 0 0)/\Bx3 W' W0.heap.size (.bool nr1) (.slice ra1 rn1 rc1) (.slice sa1 sn1 sc1)) from fun W' hb => by
   refine ⟨bx7 hb ?_ ?_ ?_ ?_ ?_ ?_ ?_ ?_ ?_ ?_ ?_ ?_ ?_ ?_,bx3 hb ?_ ?_ ?_ ?_ ?_ ?_,bx3 hb ?_ ?_ ?_ ?_ ?_ ?_⟩
   all_goals first|assumption|assumption)
 replace gb:=Below.refl W1.heap.size W1
 go_wp2_with fail
 have nzx_e0:mB≠w.heap.size+1:=by omega
 have nzx_e1:mB≠w.heap.size+1:=by omega
 have nzx_t10:g≠w.heap.size+1:=by omega
 have nzx_t11:g≠w.heap.size+1:=by omega
 have nzx_t12:g≠w.heap.size+1:=by omega
 have nz0:w.heap.size≠w.heap.size+1:=by omega
 have nz2:W0.heap.size≠w.heap.size+1:=by omega
 go_region_held3 (fun W' => W'.cell? ⟨w.heap.size,0,none⟩=some (.int .i64 op)/\W'.cell? ⟨w.heap.size,1,none⟩=some (.int .i64 to)/\W'.cell? ⟨w.heap.size,2,none⟩=some (.int .i64 (R1:Int))/\W'.cell? ⟨w.heap.size,3,none⟩=some (.int .i64 xb)/\W'.cell? ⟨w.heap.size,4,none⟩=some (.bool ng)/\W'.cell? ⟨w.heap.size,5,none⟩=some (.slice a0 n0 c0)/\W'.cell? ⟨w.heap.size,6,none⟩=some (.slice a1 n1 c1)/\W'.cell? ⟨W0.heap.size,0,none⟩=some (.bool nr1)/\W'.cell? ⟨W0.heap.size,1,none⟩=some (.slice ra1 rn1 rc1)/\W'.cell? ⟨W0.heap.size,2,none⟩=some (.slice sa1 sn1 sc1)/\W'.cell? ⟨mB,0,none⟩=some (u)/\W'.cell? ⟨mB,1,none⟩=some (.slice (some ⟨g,0,none⟩) N N)/\W'.cell? ⟨g,R1*3,none⟩=some (.bool nr1)/\W'.cell? ⟨g,R1*3+1,none⟩=some (.slice ra1 rn1 rc1)/\W'.cell? ⟨g,R1*3+2,none⟩=some (.slice sa1 sn1 sc1)) (first|(with_reducible exact ⟨ae,af,ag,am,an,aM,aN,bt,bu,b6,e0,e1,t10,t11,t12⟩)|(with_reducible exact ⟨cP (cP (cP (ae) (.inl nz0) _) (.inl nz0) _) (.inl nz0) _,cP (cP (cP (af) (.inl nz0) _) (.inl nz0) _) (.inl nz0) _,cP (cP (cP (ag) (.inl nz0) _) (.inl nz0) _) (.inl nz0) _,cP (cP (cP (am) (.inl nz0) _) (.inl nz0) _) (.inl nz0) _,cP (cP (cP (an) (.inl nz0) _) (.inl nz0) _) (.inl nz0) _,cP (cP (cP (aM) (.inl nz0) _) (.inl nz0) _) (.inl nz0) _,cP (cP (cP (aN) (.inl nz0) _) (.inl nz0) _) (.inl nz0) _,cP (cP (cP (bt) (.inl nz2) _) (.inl nz2) _) (.inl nz2) _,cP (cP (cP (bu) (.inl nz2) _) (.inl nz2) _) (.inl nz2) _,cP (cP (cP (b6) (.inl nz2) _) (.inl nz2) _) (.inl nz2) _,cP (cP (cP (e0) (.inl nzx_e0) _) (.inl nzx_e0) _) (.inl nzx_e0) _,cP (cP (cP (e1) (.inl nzx_e1) _) (.inl nzx_e1) _) (.inl nzx_e1) _,cP (cP (cP (t10) (.inl nzx_t10) _) (.inl nzx_t10) _) (.inl nzx_t10) _,cP (cP (cP (t11) (.inl nzx_t11) _) (.inl nzx_t11) _) (.inl nzx_t11) _,cP (cP (cP (t12) (.inl nzx_t12) _) (.inl nzx_t12) _) (.inl nzx_t12) _⟩)|exact ⟨ae,af,ag,am,an,aM,aN,bt,bu,b6,e0,e1,t10,t11,t12⟩) (first
  | (go_at_call 22;have gb:=gb.drew;(with_reducible refine (zx nr1 _ _ _ _ _ (i3.to gb).isF (m:Int) HM.out).mono ?_);rintro e w1 ⟨rfl,aT⟩;have gb:=bS gb aT;obtain ⟨⟨z0,ae,af,ag,am,an,aM,aN,ah,ai,ak,au,aw,aR,aS⟩,⟨z1,aA,aB,aC,aD,aE,aF⟩,⟨z2,bt,bu,b6,bG,bH,cg⟩⟩:=b7.out _ gb;obtain ⟨e0,e1,e2,e3,e4⟩:=(i1.to gb);obtain ⟨t10,t11,t12⟩:=(i2.to gb)))
 all_goals
  clear hmul hneg hmax
  go_wp2_with fail
  refine (pow_pos nr1 _ _ _ _ xb _ (i3.to gb) hsn (by omega) Hs9.out).mono ?_
  clear ae ah af ai ag ak am au an aw aM aR aN aS aA aD aB aE aC aF bt bG bu bH b6 cg e0 e1 e2 e3 e4 t10 t11 t12
  rintro e w2 ⟨ng2,a2_,n2_,c2_,p2_,m2_,k2_,rfl,g2,aL⟩
  replace gb:=bS gb aL
  obtain ⟨⟨z0,ae,af,ag,am,an,aM,aN,ah,ai,ak,au,aw,aR,aS⟩,⟨z1,aA,aB,aC,aD,aE,aF⟩,⟨z2,bt,bu,b6,bG,bH,cg⟩⟩:=b7.out _ gb
  obtain ⟨e0,e1,e2,e3,e4⟩:=(i1.to gb)
  obtain ⟨t10,t11,t12⟩:=(i2.to gb)
  go_wp2_with fail
  refine bodyPost_ret (zn Try.results39 _ _ _ _ _ _ rfl (Tri.set (x0:=.bool false) (y0:=.slice none 0 0) (z0:=.slice none 0 0) ⟨aA,aB,aC,aD,aE,aF⟩ _ _ _)) rfl (zbn (bS zb gb) (by omega) ?_ g2)
  first|omega|(simp;omega)

theorem zcX (mB g N:Nat) (u vJ:Value) (rows cols:Int) (op to xb:Int) (ng:Bool) (vn vd:Value) (lw1 lw2:List Nat) (R1:Nat) (nr1:Bool) (vr1 ur1:Value) {x:Rat}  (w:World) (hw:IsF w vn vd lw1 lw2) (hm:zy w mB g N u vJ rows cols) (hN:N<=100000) (hr1:R1<N) (tr1:zaW w g (R1*3) (.bool nr1) vr1 ur1) (qr1:IsK w nr1 vr1 ur1 x) (hb:-21<=xb/\xb<=21) (hg:x≠0) (hsn:xb<0) (hx0:x≠0) (hl:szq x*(-xb).toNat<=4096)  :
  Calls Try.prog 39 #[.pointer (some ⟨mB,0,none⟩),.agg #[.int .i64 op,.int .i64 to,.int .i64 (R1:Int),.int .i64 xb,.bool ng,vn,vd]] w (zp w ((x ^ (-xb).toNat)⁻¹)):=by
 obtain ⟨a0,n0,c0,rfl,H0,hm0⟩:=hw.1.open
 obtain ⟨a1,n1,c1,rfl,H1,hm1⟩:=hw.2.open
 have qq:=qr1.1
 have Hx1:=zas qq
 obtain ⟨ra1,rn1,rc1,rfl,RH1,rm1⟩:=qr1.1.1.open
 obtain ⟨sa1,sn1,sc1,rfl,SH1,sm1⟩:=qr1.1.2.1.open
 have ri1:(R1:Int)<(N:Int):=by omega
 have lm:=hm.lt
 have lt1:=tr1.lt
 have Hz:=Lib.hid (zt RH1.out)
 have Hq:=Lib.hid (zcC RH1.out SH1.out)
 have t0:((rn1:Int) == 0)=false:=by simp;exact fun e => hg (Hz.out.1 e)
 clear hg
 have Hx0:=Lib.hid hx0
 clear hx0
 have Hs9:=Lib.hid hl
 obtain ⟨m,hm9⟩:∃ m:Nat,max rn1 sn1=m:=⟨_,rfl⟩
 have HM:=Lib.hid (show ((max (zc x.num.natAbs).length (zc x.den).length:Nat):Int)=(m:Int) by rw [RH1.out,SH1.out,hm9])
 have Hm:=Lib.hid (show szq x=m by rw [Hq.out,hm9])
 have hm10:m<=4097:=by have:=Hx1.out;have:=Hm.out;omega
 obtain ⟨k,hk⟩:∃ k:Nat,xb.natAbs=k:=⟨_,rfl⟩
 have hk21:k<=21:=by omega
 have hneg:IntKind.i64.wrap (-xb)=-xb:=IntWalk.i64_in _ (by omega)
 have hmax:max xb (-xb)=(k:Int):=by omega
 have hmk:m*k<=4097*21:=Nat.mul_le_mul hm10 hk21
 obtain ⟨P,hP⟩:∃ P:Nat,m*k=P:=⟨_,rfl⟩
 have hmul:IntKind.i64.wrap ((m:Int)*(k:Int))=(P:Int):=by
  rw [<- Int.natCast_mul,hP]
  exact IntWalk.i64_in _ (by omega)
 rw [show (-xb).toNat=k by omega,Hm.out,hP] at hl
 have t4:decide (4096<P)=false:=decide_eq_false (by omega)
 have t5:decide ((4096:Int)<(P:Int))=false:=decide_eq_false (by omega)
 clear hl hm9 hP hk hmk
 go_enter Try.func39,Try.ntmps39
 go_wp2_with fail
 obtain ⟨W0,aq⟩:∃ W0,(w.alloc (.cells #[.int .i64 op,.int .i64 to,.int .i64 (R1:Int),.int .i64 xb,.bool ng,.slice a0 n0 c0,.slice a1 n1 c1] 27)).alloc (.cells #[.bool false,.slice none 0 0,.slice none 0 0] 25)=W0:=⟨_,rfl⟩
 have al:=Lib.hid (show ∀ W',Below W0.heap.size W0 W'->(Bx7 W' w.heap.size (.int .i64 op) (.int .i64 to) (.int .i64 (R1:Int)) (.int .i64 xb) (.bool ng) (.slice a0 n0 c0) (.slice a1 n1 c1)/\Bx3 W' (w.heap.size+1) (.bool false) (.slice none 0 0) (.slice none 0 0)) from fun W' hb => by
   refine ⟨bx7 hb ?_ ?_ ?_ ?_ ?_ ?_ ?_ ?_ ?_ ?_ ?_ ?_ ?_ ?_,bx3 hb ?_ ?_ ?_ ?_ ?_ ?_⟩
   all_goals first|assumption|(rw [<- aq];simp [go_sem]))
 have zb:Below w.heap.size w W0:=by rw [<- aq];exact bS (bN _ _) (bN _ _)
 rw [aq]
 clear aq
 have i0:=hw.to zb
 have i1:=hm.to zb
 have i2:=tr1.to zb
 have i3:=qq.to zb
 have gb:Below W0.heap.size W0 W0:=Below.refl _ _
 obtain ⟨⟨z0,ae,af,ag,am,an,aM,aN,ah,ai,ak,au,aw,aR,aS⟩,⟨z1,aA,aB,aC,aD,aE,aF⟩⟩:=al.out _ gb
 obtain ⟨e0,e1,e2,e3,e4⟩:=(i1.to gb)
 obtain ⟨t10,t11,t12⟩:=(i2.to gb)
 go_wp2_with fail
 have gba:Below W0.heap.size W0 (W0.alloc (.cells #[.bool false,.slice none 0 0,.slice none 0 0] 25)):=bS gb (bN _ _)
 obtain ⟨⟨az0,ax0_0,ax0_1,ax0_2,ax0_3,ax0_4,ax0_5,ax0_6,ay0_0,ay0_1,ay0_2,ay0_3,ay0_4,ay0_5,ay0_6⟩,⟨az1,ax1_0,ax1_1,ax1_2,ay1_0,ay1_1,ay1_2⟩⟩:=al.out _ gba
 obtain ⟨ae0,ae1,ae2,ae3,ae4⟩:=(i1.to gba)
 obtain ⟨at10,at11,at12⟩:=(i2.to gba)
 go_region
 clear gba ax0_0 ay0_0 ax0_1 ay0_1 ax0_2 ay0_2 ax0_3 ay0_3 ax0_4 ay0_4 ax0_5 ay0_5 ax0_6 ay0_6 ax1_0 ay1_0 ax1_1 ay1_1 ax1_2 ay1_2 az0 az1 ae0 ae1 ae2 ae3 ae4 at10 at11 at12
 obtain ⟨W1,aK⟩:∃ W1,(W0.alloc (.cells #[.bool nr1,.slice ra1 rn1 rc1,.slice sa1 sn1 sc1] 25)).drew=W1:=⟨_,rfl⟩
 have hb_W1:Below W0.heap.size W0 W1:=by rw [<- aK];exact (bN _ _).drew
 have cw:Hid (W1.heap.size=W0.heap.size+1):=by show _=_;rw [<- aK];simp
 clear ae ah af ai ag ak am au an aw aM aR aN aS aA aD aB aE aC aF e0 e1 e2 e3 e4 t10 t11 t12
 replace gb:=bS gb hb_W1
 obtain ⟨⟨z0,ae,af,ag,am,an,aM,aN,ah,ai,ak,au,aw,aR,aS⟩,⟨z1,aA,aB,aC,aD,aE,aF⟩⟩:=al.out _ gb
 obtain ⟨e0,e1,e2,e3,e4⟩:=(i1.to gb)
 obtain ⟨t10,t11,t12⟩:=(i2.to gb)
 have bt:W1.cell? ⟨W0.heap.size,0,none⟩=some (.bool nr1):=by rw [<- aK];simp [go_sem]
 have bG:W1.frozen? ⟨W0.heap.size,0,none⟩=false:=by rw [<- aK];simp [go_sem]
 have bu:W1.cell? ⟨W0.heap.size,1,none⟩=some (.slice ra1 rn1 rc1):=by rw [<- aK];simp [go_sem]
 have bH:W1.frozen? ⟨W0.heap.size,1,none⟩=false:=by rw [<- aK];simp [go_sem]
 have b6:W1.cell? ⟨W0.heap.size,2,none⟩=some (.slice sa1 sn1 sc1):=by rw [<- aK];simp [go_sem]
 have cg:W1.frozen? ⟨W0.heap.size,2,none⟩=false:=by rw [<- aK];simp [go_sem]
 have z2:W0.heap.size<W1.heap.size:=by rw [<- aK];simp
 rw [aK]
 clear aK
 replace i0:=i0.to gb
 replace i1:=i1.to gb
 replace i2:=i2.to gb
 replace i3:=i3.to gb
 replace zb:=bS zb gb
 have b7:=Lib.hid (show ∀ W',Below W1.heap.size W1 W'->(Bx7 W' w.heap.size (.int .i64 op) (.int .i64 to) (.int .i64 (R1:Int)) (.int .i64 xb) (.bool ng) (.slice a0 n0 c0) (.slice a1 n1 c1)/\Bx3 W' (w.heap.size+1) (.bool false) (.slice none 0 0) (.slice none 0 0)/\Bx3 W' W0.heap.size (.bool nr1) (.slice ra1 rn1 rc1) (.slice sa1 sn1 sc1)) from fun W' hb => by
   refine ⟨bx7 hb ?_ ?_ ?_ ?_ ?_ ?_ ?_ ?_ ?_ ?_ ?_ ?_ ?_ ?_,bx3 hb ?_ ?_ ?_ ?_ ?_ ?_,bx3 hb ?_ ?_ ?_ ?_ ?_ ?_⟩
   all_goals first|assumption|assumption)
 replace gb:=Below.refl W1.heap.size W1
 go_wp2_with fail
 have nzx_e0:mB≠w.heap.size+1:=by omega
 have nzx_e1:mB≠w.heap.size+1:=by omega
 have nzx_t10:g≠w.heap.size+1:=by omega
 have nzx_t11:g≠w.heap.size+1:=by omega
 have nzx_t12:g≠w.heap.size+1:=by omega
 have nz0:w.heap.size≠w.heap.size+1:=by omega
 have nz2:W0.heap.size≠w.heap.size+1:=by omega
 go_region_held3 (fun W' => W'.cell? ⟨w.heap.size,0,none⟩=some (.int .i64 op)/\W'.cell? ⟨w.heap.size,1,none⟩=some (.int .i64 to)/\W'.cell? ⟨w.heap.size,2,none⟩=some (.int .i64 (R1:Int))/\W'.cell? ⟨w.heap.size,3,none⟩=some (.int .i64 xb)/\W'.cell? ⟨w.heap.size,4,none⟩=some (.bool ng)/\W'.cell? ⟨w.heap.size,5,none⟩=some (.slice a0 n0 c0)/\W'.cell? ⟨w.heap.size,6,none⟩=some (.slice a1 n1 c1)/\W'.cell? ⟨W0.heap.size,0,none⟩=some (.bool nr1)/\W'.cell? ⟨W0.heap.size,1,none⟩=some (.slice ra1 rn1 rc1)/\W'.cell? ⟨W0.heap.size,2,none⟩=some (.slice sa1 sn1 sc1)/\W'.cell? ⟨mB,0,none⟩=some (u)/\W'.cell? ⟨mB,1,none⟩=some (.slice (some ⟨g,0,none⟩) N N)/\W'.cell? ⟨g,R1*3,none⟩=some (.bool nr1)/\W'.cell? ⟨g,R1*3+1,none⟩=some (.slice ra1 rn1 rc1)/\W'.cell? ⟨g,R1*3+2,none⟩=some (.slice sa1 sn1 sc1)) (first|(with_reducible exact ⟨ae,af,ag,am,an,aM,aN,bt,bu,b6,e0,e1,t10,t11,t12⟩)|(with_reducible exact ⟨cP (cP (cP (ae) (.inl nz0) _) (.inl nz0) _) (.inl nz0) _,cP (cP (cP (af) (.inl nz0) _) (.inl nz0) _) (.inl nz0) _,cP (cP (cP (ag) (.inl nz0) _) (.inl nz0) _) (.inl nz0) _,cP (cP (cP (am) (.inl nz0) _) (.inl nz0) _) (.inl nz0) _,cP (cP (cP (an) (.inl nz0) _) (.inl nz0) _) (.inl nz0) _,cP (cP (cP (aM) (.inl nz0) _) (.inl nz0) _) (.inl nz0) _,cP (cP (cP (aN) (.inl nz0) _) (.inl nz0) _) (.inl nz0) _,cP (cP (cP (bt) (.inl nz2) _) (.inl nz2) _) (.inl nz2) _,cP (cP (cP (bu) (.inl nz2) _) (.inl nz2) _) (.inl nz2) _,cP (cP (cP (b6) (.inl nz2) _) (.inl nz2) _) (.inl nz2) _,cP (cP (cP (e0) (.inl nzx_e0) _) (.inl nzx_e0) _) (.inl nzx_e0) _,cP (cP (cP (e1) (.inl nzx_e1) _) (.inl nzx_e1) _) (.inl nzx_e1) _,cP (cP (cP (t10) (.inl nzx_t10) _) (.inl nzx_t10) _) (.inl nzx_t10) _,cP (cP (cP (t11) (.inl nzx_t11) _) (.inl nzx_t11) _) (.inl nzx_t11) _,cP (cP (cP (t12) (.inl nzx_t12) _) (.inl nzx_t12) _) (.inl nzx_t12) _⟩)|exact ⟨ae,af,ag,am,an,aM,aN,bt,bu,b6,e0,e1,t10,t11,t12⟩) (first
  | (go_at_call 22;have gb:=gb.drew;(with_reducible refine (zx nr1 _ _ _ _ _ (i3.to gb).isF (m:Int) HM.out).mono ?_);rintro e w1 ⟨rfl,aT⟩;have gb:=bS gb aT;obtain ⟨⟨z0,ae,af,ag,am,an,aM,aN,ah,ai,ak,au,aw,aR,aS⟩,⟨z1,aA,aB,aC,aD,aE,aF⟩,⟨z2,bt,bu,b6,bG,bH,cg⟩⟩:=b7.out _ gb;obtain ⟨e0,e1,e2,e3,e4⟩:=(i1.to gb);obtain ⟨t10,t11,t12⟩:=(i2.to gb)))
 all_goals
  clear hmul hneg hmax
  go_wp2_with fail
  refine (pow_neg nr1 _ _ _ _ xb _ (i3.to gb) (by omega) hsn Hx0.out Hs9.out).mono ?_
  clear ae ah af ai ag ak am au an aw aM aR aN aS aA aD aB aE aC aF bt bG bu bH b6 cg e0 e1 e2 e3 e4 t10 t11 t12
  rintro e w2 ⟨ng2,a2_,n2_,c2_,p2_,m2_,k2_,rfl,g2,aL⟩
  replace gb:=bS gb aL
  obtain ⟨⟨z0,ae,af,ag,am,an,aM,aN,ah,ai,ak,au,aw,aR,aS⟩,⟨z1,aA,aB,aC,aD,aE,aF⟩,⟨z2,bt,bu,b6,bG,bH,cg⟩⟩:=b7.out _ gb
  obtain ⟨e0,e1,e2,e3,e4⟩:=(i1.to gb)
  obtain ⟨t10,t11,t12⟩:=(i2.to gb)
  go_wp2_with fail
  refine bodyPost_ret (zn Try.results39 _ _ _ _ _ _ rfl (Tri.set (x0:=.bool false) (y0:=.slice none 0 0) (z0:=.slice none 0 0) ⟨aA,aB,aC,aD,aE,aF⟩ _ _ _)) rfl (zbn (bS zb gb) (by omega) ?_ g2)
  first|omega|(simp;omega)

theorem zeb (mB g N:Nat) (u vJ:Value) (rows cols:Int) (op to xb:Int) (ng:Bool) (vn vd:Value) (lw1 lw2:List Nat) (R1:Nat) (nr1:Bool) (vr1 ur1:Value) {x:Rat}  (w:World) (hw:IsF w vn vd lw1 lw2) (hm:zy w mB g N u vJ rows cols) (hN:N<=100000) (hr1:R1<N) (tr1:zaW w g (R1*3) (.bool nr1) vr1 ur1) (qr1:IsK w nr1 vr1 ur1 x) (hb:-21<=xb/\xb<=21) (hg:¬ xb<0) (hg0:x=0) (hl:4096<szq x*xb.natAbs)  :
  Calls Try.prog 39 #[.pointer (some ⟨mB,0,none⟩),.agg #[.int .i64 op,.int .i64 to,.int .i64 (R1:Int),.int .i64 xb,.bool ng,vn,vd]] w (fun e w' => e=.returned (.tuple #[aggR false (.slice none 0 0) (.slice none 0 0),.int .i64 4])/\Below w.heap.size w w'):=by
 obtain ⟨a0,n0,c0,rfl,H0,hm0⟩:=hw.1.open
 obtain ⟨a1,n1,c1,rfl,H1,hm1⟩:=hw.2.open
 have qq:=qr1.1
 have Hx1:=zas qq
 obtain ⟨ra1,rn1,rc1,rfl,RH1,rm1⟩:=qr1.1.1.open
 obtain ⟨sa1,sn1,sc1,rfl,SH1,sm1⟩:=qr1.1.2.1.open
 have ri1:(R1:Int)<(N:Int):=by omega
 have lm:=hm.lt
 have lt1:=tr1.lt
 have Hz:=Lib.hid (zt RH1.out)
 have Hq:=Lib.hid (zcC RH1.out SH1.out)
 have t0:((rn1:Int) == 0)=true:=by simp;exact Hz.out.2 hg0
 have tb:decide (xb<0)=false:=decide_eq_false hg
 clear hg hg0
 obtain ⟨m,hm9⟩:∃ m:Nat,max rn1 sn1=m:=⟨_,rfl⟩
 have HM:=Lib.hid (show ((max (zc x.num.natAbs).length (zc x.den).length:Nat):Int)=(m:Int) by rw [RH1.out,SH1.out,hm9])
 have Hm:=Lib.hid (show szq x=m by rw [Hq.out,hm9])
 have hm10:m<=4097:=by have:=Hx1.out;have:=Hm.out;omega
 obtain ⟨k,hk⟩:∃ k:Nat,xb.natAbs=k:=⟨_,rfl⟩
 have hk21:k<=21:=by omega
 have hneg:IntKind.i64.wrap (-xb)=-xb:=IntWalk.i64_in _ (by omega)
 have hmax:max xb (-xb)=(k:Int):=by omega
 have hmk:m*k<=4097*21:=Nat.mul_le_mul hm10 hk21
 obtain ⟨P,hP⟩:∃ P:Nat,m*k=P:=⟨_,rfl⟩
 have hmul:IntKind.i64.wrap ((m:Int)*(k:Int))=(P:Int):=by
  rw [<- Int.natCast_mul,hP]
  exact IntWalk.i64_in _ (by omega)
 rw [hk,Hm.out,hP] at hl
 have t4:decide (4096<P)=true:=decide_eq_true hl
 have t5:decide ((4096:Int)<(P:Int))=true:=decide_eq_true (by omega)
 clear hl hm9 hP hk hmk
 go_enter Try.func39,Try.ntmps39
 go_wp2_with fail
 obtain ⟨W0,aq⟩:∃ W0,(w.alloc (.cells #[.int .i64 op,.int .i64 to,.int .i64 (R1:Int),.int .i64 xb,.bool ng,.slice a0 n0 c0,.slice a1 n1 c1] 27)).alloc (.cells #[.bool false,.slice none 0 0,.slice none 0 0] 25)=W0:=⟨_,rfl⟩
 have al:=Lib.hid (show ∀ W',Below W0.heap.size W0 W'->(Bx7 W' w.heap.size (.int .i64 op) (.int .i64 to) (.int .i64 (R1:Int)) (.int .i64 xb) (.bool ng) (.slice a0 n0 c0) (.slice a1 n1 c1)/\Bx3 W' (w.heap.size+1) (.bool false) (.slice none 0 0) (.slice none 0 0)) from fun W' hb => by
   refine ⟨bx7 hb ?_ ?_ ?_ ?_ ?_ ?_ ?_ ?_ ?_ ?_ ?_ ?_ ?_ ?_,bx3 hb ?_ ?_ ?_ ?_ ?_ ?_⟩
   all_goals first|assumption|(rw [<- aq];simp [go_sem]))
 have zb:Below w.heap.size w W0:=by rw [<- aq];exact bS (bN _ _) (bN _ _)
 rw [aq]
 clear aq
 have i0:=hw.to zb
 have i1:=hm.to zb
 have i2:=tr1.to zb
 have i3:=qq.to zb
 have gb:Below W0.heap.size W0 W0:=Below.refl _ _
 obtain ⟨⟨z0,ae,af,ag,am,an,aM,aN,ah,ai,ak,au,aw,aR,aS⟩,⟨z1,aA,aB,aC,aD,aE,aF⟩⟩:=al.out _ gb
 obtain ⟨e0,e1,e2,e3,e4⟩:=(i1.to gb)
 obtain ⟨t10,t11,t12⟩:=(i2.to gb)
 go_wp2_with fail
 have gba:Below W0.heap.size W0 (W0.alloc (.cells #[.bool false,.slice none 0 0,.slice none 0 0] 25)):=bS gb (bN _ _)
 obtain ⟨⟨az0,ax0_0,ax0_1,ax0_2,ax0_3,ax0_4,ax0_5,ax0_6,ay0_0,ay0_1,ay0_2,ay0_3,ay0_4,ay0_5,ay0_6⟩,⟨az1,ax1_0,ax1_1,ax1_2,ay1_0,ay1_1,ay1_2⟩⟩:=al.out _ gba
 obtain ⟨ae0,ae1,ae2,ae3,ae4⟩:=(i1.to gba)
 obtain ⟨at10,at11,at12⟩:=(i2.to gba)
 go_region
 clear gba ax0_0 ay0_0 ax0_1 ay0_1 ax0_2 ay0_2 ax0_3 ay0_3 ax0_4 ay0_4 ax0_5 ay0_5 ax0_6 ay0_6 ax1_0 ay1_0 ax1_1 ay1_1 ax1_2 ay1_2 az0 az1 ae0 ae1 ae2 ae3 ae4 at10 at11 at12
 obtain ⟨W1,aK⟩:∃ W1,(W0.alloc (.cells #[.bool nr1,.slice ra1 rn1 rc1,.slice sa1 sn1 sc1] 25)).drew=W1:=⟨_,rfl⟩
 have hb_W1:Below W0.heap.size W0 W1:=by rw [<- aK];exact (bN _ _).drew
 have cw:Hid (W1.heap.size=W0.heap.size+1):=by show _=_;rw [<- aK];simp
 clear ae ah af ai ag ak am au an aw aM aR aN aS aA aD aB aE aC aF e0 e1 e2 e3 e4 t10 t11 t12
 replace gb:=bS gb hb_W1
 obtain ⟨⟨z0,ae,af,ag,am,an,aM,aN,ah,ai,ak,au,aw,aR,aS⟩,⟨z1,aA,aB,aC,aD,aE,aF⟩⟩:=al.out _ gb
 obtain ⟨e0,e1,e2,e3,e4⟩:=(i1.to gb)
 obtain ⟨t10,t11,t12⟩:=(i2.to gb)
 have bt:W1.cell? ⟨W0.heap.size,0,none⟩=some (.bool nr1):=by rw [<- aK];simp [go_sem]
 have bG:W1.frozen? ⟨W0.heap.size,0,none⟩=false:=by rw [<- aK];simp [go_sem]
 have bu:W1.cell? ⟨W0.heap.size,1,none⟩=some (.slice ra1 rn1 rc1):=by rw [<- aK];simp [go_sem]
 have bH:W1.frozen? ⟨W0.heap.size,1,none⟩=false:=by rw [<- aK];simp [go_sem]
 have b6:W1.cell? ⟨W0.heap.size,2,none⟩=some (.slice sa1 sn1 sc1):=by rw [<- aK];simp [go_sem]
 have cg:W1.frozen? ⟨W0.heap.size,2,none⟩=false:=by rw [<- aK];simp [go_sem]
 have z2:W0.heap.size<W1.heap.size:=by rw [<- aK];simp
 rw [aK]
 clear aK
 replace i0:=i0.to gb
 replace i1:=i1.to gb
 replace i2:=i2.to gb
 replace i3:=i3.to gb
 replace zb:=bS zb gb
 have b7:=Lib.hid (show ∀ W',Below W1.heap.size W1 W'->(Bx7 W' w.heap.size (.int .i64 op) (.int .i64 to) (.int .i64 (R1:Int)) (.int .i64 xb) (.bool ng) (.slice a0 n0 c0) (.slice a1 n1 c1)/\Bx3 W' (w.heap.size+1) (.bool false) (.slice none 0 0) (.slice none 0 0)/\Bx3 W' W0.heap.size (.bool nr1) (.slice ra1 rn1 rc1) (.slice sa1 sn1 sc1)) from fun W' hb => by
   refine ⟨bx7 hb ?_ ?_ ?_ ?_ ?_ ?_ ?_ ?_ ?_ ?_ ?_ ?_ ?_ ?_,bx3 hb ?_ ?_ ?_ ?_ ?_ ?_,bx3 hb ?_ ?_ ?_ ?_ ?_ ?_⟩
   all_goals first|assumption|assumption)
 replace gb:=Below.refl W1.heap.size W1
 go_wp2_with fail
 have nzx_e0:mB≠w.heap.size+1:=by omega
 have nzx_e1:mB≠w.heap.size+1:=by omega
 have nzx_t10:g≠w.heap.size+1:=by omega
 have nzx_t11:g≠w.heap.size+1:=by omega
 have nzx_t12:g≠w.heap.size+1:=by omega
 have nz0:w.heap.size≠w.heap.size+1:=by omega
 have nz2:W0.heap.size≠w.heap.size+1:=by omega
 go_region_held3 (fun W' => W'.cell? ⟨w.heap.size,0,none⟩=some (.int .i64 op)/\W'.cell? ⟨w.heap.size,1,none⟩=some (.int .i64 to)/\W'.cell? ⟨w.heap.size,2,none⟩=some (.int .i64 (R1:Int))/\W'.cell? ⟨w.heap.size,3,none⟩=some (.int .i64 xb)/\W'.cell? ⟨w.heap.size,4,none⟩=some (.bool ng)/\W'.cell? ⟨w.heap.size,5,none⟩=some (.slice a0 n0 c0)/\W'.cell? ⟨w.heap.size,6,none⟩=some (.slice a1 n1 c1)/\W'.cell? ⟨W0.heap.size,0,none⟩=some (.bool nr1)/\W'.cell? ⟨W0.heap.size,1,none⟩=some (.slice ra1 rn1 rc1)/\W'.cell? ⟨W0.heap.size,2,none⟩=some (.slice sa1 sn1 sc1)/\W'.cell? ⟨mB,0,none⟩=some (u)/\W'.cell? ⟨mB,1,none⟩=some (.slice (some ⟨g,0,none⟩) N N)/\W'.cell? ⟨g,R1*3,none⟩=some (.bool nr1)/\W'.cell? ⟨g,R1*3+1,none⟩=some (.slice ra1 rn1 rc1)/\W'.cell? ⟨g,R1*3+2,none⟩=some (.slice sa1 sn1 sc1)) (first|(with_reducible exact ⟨ae,af,ag,am,an,aM,aN,bt,bu,b6,e0,e1,t10,t11,t12⟩)|(with_reducible exact ⟨cP (cP (cP (ae) (.inl nz0) _) (.inl nz0) _) (.inl nz0) _,cP (cP (cP (af) (.inl nz0) _) (.inl nz0) _) (.inl nz0) _,cP (cP (cP (ag) (.inl nz0) _) (.inl nz0) _) (.inl nz0) _,cP (cP (cP (am) (.inl nz0) _) (.inl nz0) _) (.inl nz0) _,cP (cP (cP (an) (.inl nz0) _) (.inl nz0) _) (.inl nz0) _,cP (cP (cP (aM) (.inl nz0) _) (.inl nz0) _) (.inl nz0) _,cP (cP (cP (aN) (.inl nz0) _) (.inl nz0) _) (.inl nz0) _,cP (cP (cP (bt) (.inl nz2) _) (.inl nz2) _) (.inl nz2) _,cP (cP (cP (bu) (.inl nz2) _) (.inl nz2) _) (.inl nz2) _,cP (cP (cP (b6) (.inl nz2) _) (.inl nz2) _) (.inl nz2) _,cP (cP (cP (e0) (.inl nzx_e0) _) (.inl nzx_e0) _) (.inl nzx_e0) _,cP (cP (cP (e1) (.inl nzx_e1) _) (.inl nzx_e1) _) (.inl nzx_e1) _,cP (cP (cP (t10) (.inl nzx_t10) _) (.inl nzx_t10) _) (.inl nzx_t10) _,cP (cP (cP (t11) (.inl nzx_t11) _) (.inl nzx_t11) _) (.inl nzx_t11) _,cP (cP (cP (t12) (.inl nzx_t12) _) (.inl nzx_t12) _) (.inl nzx_t12) _⟩)|exact ⟨ae,af,ag,am,an,aM,aN,bt,bu,b6,e0,e1,t10,t11,t12⟩) (first
  | (go_at_call 22;have gb:=gb.drew;(with_reducible refine (zx nr1 _ _ _ _ _ (i3.to gb).isF (m:Int) HM.out).mono ?_);rintro e w1 ⟨rfl,aT⟩;have gb:=bS gb aT;obtain ⟨⟨z0,ae,af,ag,am,an,aM,aN,ah,ai,ak,au,aw,aR,aS⟩,⟨z1,aA,aB,aC,aD,aE,aF⟩,⟨z2,bt,bu,b6,bG,bH,cg⟩⟩:=b7.out _ gb;obtain ⟨e0,e1,e2,e3,e4⟩:=(i1.to gb);obtain ⟨t10,t11,t12⟩:=(i2.to gb)))
 all_goals
  clear hmul hneg hmax
  go_wp2_with fail
  exact bodyPost_ret (zn Try.results39 _ _ _ _ _ _ rfl (Tri.set (x0:=.bool false) (y0:=.slice none 0 0) (z0:=.slice none 0 0) ⟨aA,aB,aC,aD,aE,aF⟩ _ _ _)) rfl ⟨rfl,bT (bS zb gb) (by omega) _ _ _⟩

theorem zcZ (mB g N:Nat) (u vJ:Value) (rows cols:Int) (op to xb:Int) (ng:Bool) (vn vd:Value) (lw1 lw2:List Nat) (R1:Nat) (nr1:Bool) (vr1 ur1:Value) {x:Rat}  (w:World) (hw:IsF w vn vd lw1 lw2) (hm:zy w mB g N u vJ rows cols) (hN:N<=100000) (hr1:R1<N) (tr1:zaW w g (R1*3) (.bool nr1) vr1 ur1) (qr1:IsK w nr1 vr1 ur1 x) (hb:-21<=xb/\xb<=21) (hg:¬ xb<0) (hg0:x=0) (hsn:0<=xb) (hl:szq x*xb.toNat<=4096)  :
  Calls Try.prog 39 #[.pointer (some ⟨mB,0,none⟩),.agg #[.int .i64 op,.int .i64 to,.int .i64 (R1:Int),.int .i64 xb,.bool ng,vn,vd]] w (zp w (x ^ xb.toNat)):=by
 obtain ⟨a0,n0,c0,rfl,H0,hm0⟩:=hw.1.open
 obtain ⟨a1,n1,c1,rfl,H1,hm1⟩:=hw.2.open
 have qq:=qr1.1
 have Hx1:=zas qq
 obtain ⟨ra1,rn1,rc1,rfl,RH1,rm1⟩:=qr1.1.1.open
 obtain ⟨sa1,sn1,sc1,rfl,SH1,sm1⟩:=qr1.1.2.1.open
 have ri1:(R1:Int)<(N:Int):=by omega
 have lm:=hm.lt
 have lt1:=tr1.lt
 have Hz:=Lib.hid (zt RH1.out)
 have Hq:=Lib.hid (zcC RH1.out SH1.out)
 have t0:((rn1:Int) == 0)=true:=by simp;exact Hz.out.2 hg0
 have tb:decide (xb<0)=false:=decide_eq_false hg
 clear hg hg0
 have Hs9:=Lib.hid hl
 obtain ⟨m,hm9⟩:∃ m:Nat,max rn1 sn1=m:=⟨_,rfl⟩
 have HM:=Lib.hid (show ((max (zc x.num.natAbs).length (zc x.den).length:Nat):Int)=(m:Int) by rw [RH1.out,SH1.out,hm9])
 have Hm:=Lib.hid (show szq x=m by rw [Hq.out,hm9])
 have hm10:m<=4097:=by have:=Hx1.out;have:=Hm.out;omega
 obtain ⟨k,hk⟩:∃ k:Nat,xb.natAbs=k:=⟨_,rfl⟩
 have hk21:k<=21:=by omega
 have hneg:IntKind.i64.wrap (-xb)=-xb:=IntWalk.i64_in _ (by omega)
 have hmax:max xb (-xb)=(k:Int):=by omega
 have hmk:m*k<=4097*21:=Nat.mul_le_mul hm10 hk21
 obtain ⟨P,hP⟩:∃ P:Nat,m*k=P:=⟨_,rfl⟩
 have hmul:IntKind.i64.wrap ((m:Int)*(k:Int))=(P:Int):=by
  rw [<- Int.natCast_mul,hP]
  exact IntWalk.i64_in _ (by omega)
 rw [show xb.toNat=k by omega,Hm.out,hP] at hl
 have t4:decide (4096<P)=false:=decide_eq_false (by omega)
 have t5:decide ((4096:Int)<(P:Int))=false:=decide_eq_false (by omega)
 clear hl hm9 hP hk hmk
 go_enter Try.func39,Try.ntmps39
 go_wp2_with fail
 obtain ⟨W0,aq⟩:∃ W0,(w.alloc (.cells #[.int .i64 op,.int .i64 to,.int .i64 (R1:Int),.int .i64 xb,.bool ng,.slice a0 n0 c0,.slice a1 n1 c1] 27)).alloc (.cells #[.bool false,.slice none 0 0,.slice none 0 0] 25)=W0:=⟨_,rfl⟩
 have al:=Lib.hid (show ∀ W',Below W0.heap.size W0 W'->(Bx7 W' w.heap.size (.int .i64 op) (.int .i64 to) (.int .i64 (R1:Int)) (.int .i64 xb) (.bool ng) (.slice a0 n0 c0) (.slice a1 n1 c1)/\Bx3 W' (w.heap.size+1) (.bool false) (.slice none 0 0) (.slice none 0 0)) from fun W' hb => by
   refine ⟨bx7 hb ?_ ?_ ?_ ?_ ?_ ?_ ?_ ?_ ?_ ?_ ?_ ?_ ?_ ?_,bx3 hb ?_ ?_ ?_ ?_ ?_ ?_⟩
   all_goals first|assumption|(rw [<- aq];simp [go_sem]))
 have zb:Below w.heap.size w W0:=by rw [<- aq];exact bS (bN _ _) (bN _ _)
 rw [aq]
 clear aq
 have i0:=hw.to zb
 have i1:=hm.to zb
 have i2:=tr1.to zb
 have i3:=qq.to zb
 have gb:Below W0.heap.size W0 W0:=Below.refl _ _
 obtain ⟨⟨z0,ae,af,ag,am,an,aM,aN,ah,ai,ak,au,aw,aR,aS⟩,⟨z1,aA,aB,aC,aD,aE,aF⟩⟩:=al.out _ gb
 obtain ⟨e0,e1,e2,e3,e4⟩:=(i1.to gb)
 obtain ⟨t10,t11,t12⟩:=(i2.to gb)
 go_wp2_with fail
 have gba:Below W0.heap.size W0 (W0.alloc (.cells #[.bool false,.slice none 0 0,.slice none 0 0] 25)):=bS gb (bN _ _)
 obtain ⟨⟨az0,ax0_0,ax0_1,ax0_2,ax0_3,ax0_4,ax0_5,ax0_6,ay0_0,ay0_1,ay0_2,ay0_3,ay0_4,ay0_5,ay0_6⟩,⟨az1,ax1_0,ax1_1,ax1_2,ay1_0,ay1_1,ay1_2⟩⟩:=al.out _ gba
 obtain ⟨ae0,ae1,ae2,ae3,ae4⟩:=(i1.to gba)
 obtain ⟨at10,at11,at12⟩:=(i2.to gba)
 go_region
 clear gba ax0_0 ay0_0 ax0_1 ay0_1 ax0_2 ay0_2 ax0_3 ay0_3 ax0_4 ay0_4 ax0_5 ay0_5 ax0_6 ay0_6 ax1_0 ay1_0 ax1_1 ay1_1 ax1_2 ay1_2 az0 az1 ae0 ae1 ae2 ae3 ae4 at10 at11 at12
 obtain ⟨W1,aK⟩:∃ W1,(W0.alloc (.cells #[.bool nr1,.slice ra1 rn1 rc1,.slice sa1 sn1 sc1] 25)).drew=W1:=⟨_,rfl⟩
 have hb_W1:Below W0.heap.size W0 W1:=by rw [<- aK];exact (bN _ _).drew
 have cw:Hid (W1.heap.size=W0.heap.size+1):=by show _=_;rw [<- aK];simp
 clear ae ah af ai ag ak am au an aw aM aR aN aS aA aD aB aE aC aF e0 e1 e2 e3 e4 t10 t11 t12
 replace gb:=bS gb hb_W1
 obtain ⟨⟨z0,ae,af,ag,am,an,aM,aN,ah,ai,ak,au,aw,aR,aS⟩,⟨z1,aA,aB,aC,aD,aE,aF⟩⟩:=al.out _ gb
 obtain ⟨e0,e1,e2,e3,e4⟩:=(i1.to gb)
 obtain ⟨t10,t11,t12⟩:=(i2.to gb)
 have bt:W1.cell? ⟨W0.heap.size,0,none⟩=some (.bool nr1):=by rw [<- aK];simp [go_sem]
 have bG:W1.frozen? ⟨W0.heap.size,0,none⟩=false:=by rw [<- aK];simp [go_sem]
 have bu:W1.cell? ⟨W0.heap.size,1,none⟩=some (.slice ra1 rn1 rc1):=by rw [<- aK];simp [go_sem]
 have bH:W1.frozen? ⟨W0.heap.size,1,none⟩=false:=by rw [<- aK];simp [go_sem]
 have b6:W1.cell? ⟨W0.heap.size,2,none⟩=some (.slice sa1 sn1 sc1):=by rw [<- aK];simp [go_sem]
 have cg:W1.frozen? ⟨W0.heap.size,2,none⟩=false:=by rw [<- aK];simp [go_sem]
 have z2:W0.heap.size<W1.heap.size:=by rw [<- aK];simp
 rw [aK]
 clear aK
 replace i0:=i0.to gb
 replace i1:=i1.to gb
 replace i2:=i2.to gb
 replace i3:=i3.to gb
 replace zb:=bS zb gb
 have b7:=Lib.hid (show ∀ W',Below W1.heap.size W1 W'->(Bx7 W' w.heap.size (.int .i64 op) (.int .i64 to) (.int .i64 (R1:Int)) (.int .i64 xb) (.bool ng) (.slice a0 n0 c0) (.slice a1 n1 c1)/\Bx3 W' (w.heap.size+1) (.bool false) (.slice none 0 0) (.slice none 0 0)/\Bx3 W' W0.heap.size (.bool nr1) (.slice ra1 rn1 rc1) (.slice sa1 sn1 sc1)) from fun W' hb => by
   refine ⟨bx7 hb ?_ ?_ ?_ ?_ ?_ ?_ ?_ ?_ ?_ ?_ ?_ ?_ ?_ ?_,bx3 hb ?_ ?_ ?_ ?_ ?_ ?_,bx3 hb ?_ ?_ ?_ ?_ ?_ ?_⟩
   all_goals first|assumption|assumption)
 replace gb:=Below.refl W1.heap.size W1
 go_wp2_with fail
 have nzx_e0:mB≠w.heap.size+1:=by omega
 have nzx_e1:mB≠w.heap.size+1:=by omega
 have nzx_t10:g≠w.heap.size+1:=by omega
 have nzx_t11:g≠w.heap.size+1:=by omega
 have nzx_t12:g≠w.heap.size+1:=by omega
 have nz0:w.heap.size≠w.heap.size+1:=by omega
 have nz2:W0.heap.size≠w.heap.size+1:=by omega
 go_region_held3 (fun W' => W'.cell? ⟨w.heap.size,0,none⟩=some (.int .i64 op)/\W'.cell? ⟨w.heap.size,1,none⟩=some (.int .i64 to)/\W'.cell? ⟨w.heap.size,2,none⟩=some (.int .i64 (R1:Int))/\W'.cell? ⟨w.heap.size,3,none⟩=some (.int .i64 xb)/\W'.cell? ⟨w.heap.size,4,none⟩=some (.bool ng)/\W'.cell? ⟨w.heap.size,5,none⟩=some (.slice a0 n0 c0)/\W'.cell? ⟨w.heap.size,6,none⟩=some (.slice a1 n1 c1)/\W'.cell? ⟨W0.heap.size,0,none⟩=some (.bool nr1)/\W'.cell? ⟨W0.heap.size,1,none⟩=some (.slice ra1 rn1 rc1)/\W'.cell? ⟨W0.heap.size,2,none⟩=some (.slice sa1 sn1 sc1)/\W'.cell? ⟨mB,0,none⟩=some (u)/\W'.cell? ⟨mB,1,none⟩=some (.slice (some ⟨g,0,none⟩) N N)/\W'.cell? ⟨g,R1*3,none⟩=some (.bool nr1)/\W'.cell? ⟨g,R1*3+1,none⟩=some (.slice ra1 rn1 rc1)/\W'.cell? ⟨g,R1*3+2,none⟩=some (.slice sa1 sn1 sc1)) (first|(with_reducible exact ⟨ae,af,ag,am,an,aM,aN,bt,bu,b6,e0,e1,t10,t11,t12⟩)|(with_reducible exact ⟨cP (cP (cP (ae) (.inl nz0) _) (.inl nz0) _) (.inl nz0) _,cP (cP (cP (af) (.inl nz0) _) (.inl nz0) _) (.inl nz0) _,cP (cP (cP (ag) (.inl nz0) _) (.inl nz0) _) (.inl nz0) _,cP (cP (cP (am) (.inl nz0) _) (.inl nz0) _) (.inl nz0) _,cP (cP (cP (an) (.inl nz0) _) (.inl nz0) _) (.inl nz0) _,cP (cP (cP (aM) (.inl nz0) _) (.inl nz0) _) (.inl nz0) _,cP (cP (cP (aN) (.inl nz0) _) (.inl nz0) _) (.inl nz0) _,cP (cP (cP (bt) (.inl nz2) _) (.inl nz2) _) (.inl nz2) _,cP (cP (cP (bu) (.inl nz2) _) (.inl nz2) _) (.inl nz2) _,cP (cP (cP (b6) (.inl nz2) _) (.inl nz2) _) (.inl nz2) _,cP (cP (cP (e0) (.inl nzx_e0) _) (.inl nzx_e0) _) (.inl nzx_e0) _,cP (cP (cP (e1) (.inl nzx_e1) _) (.inl nzx_e1) _) (.inl nzx_e1) _,cP (cP (cP (t10) (.inl nzx_t10) _) (.inl nzx_t10) _) (.inl nzx_t10) _,cP (cP (cP (t11) (.inl nzx_t11) _) (.inl nzx_t11) _) (.inl nzx_t11) _,cP (cP (cP (t12) (.inl nzx_t12) _) (.inl nzx_t12) _) (.inl nzx_t12) _⟩)|exact ⟨ae,af,ag,am,an,aM,aN,bt,bu,b6,e0,e1,t10,t11,t12⟩) (first
  | (go_at_call 22;have gb:=gb.drew;(with_reducible refine (zx nr1 _ _ _ _ _ (i3.to gb).isF (m:Int) HM.out).mono ?_);rintro e w1 ⟨rfl,aT⟩;have gb:=bS gb aT;obtain ⟨⟨z0,ae,af,ag,am,an,aM,aN,ah,ai,ak,au,aw,aR,aS⟩,⟨z1,aA,aB,aC,aD,aE,aF⟩,⟨z2,bt,bu,b6,bG,bH,cg⟩⟩:=b7.out _ gb;obtain ⟨e0,e1,e2,e3,e4⟩:=(i1.to gb);obtain ⟨t10,t11,t12⟩:=(i2.to gb)))
 all_goals
  clear hmul hneg hmax
  go_wp2_with fail
  refine (pow_pos nr1 _ _ _ _ xb _ (i3.to gb) hsn (by omega) Hs9.out).mono ?_
  clear ae ah af ai ag ak am au an aw aM aR aN aS aA aD aB aE aC aF bt bG bu bH b6 cg e0 e1 e2 e3 e4 t10 t11 t12
  rintro e w2 ⟨ng2,a2_,n2_,c2_,p2_,m2_,k2_,rfl,g2,aL⟩
  replace gb:=bS gb aL
  obtain ⟨⟨z0,ae,af,ag,am,an,aM,aN,ah,ai,ak,au,aw,aR,aS⟩,⟨z1,aA,aB,aC,aD,aE,aF⟩,⟨z2,bt,bu,b6,bG,bH,cg⟩⟩:=b7.out _ gb
  obtain ⟨e0,e1,e2,e3,e4⟩:=(i1.to gb)
  obtain ⟨t10,t11,t12⟩:=(i2.to gb)
  go_wp2_with fail
  refine bodyPost_ret (zn Try.results39 _ _ _ _ _ _ rfl (Tri.set (x0:=.bool false) (y0:=.slice none 0 0) (z0:=.slice none 0 0) ⟨aA,aB,aC,aD,aE,aF⟩ _ _ _)) rfl (zbn (bS zb gb) (by omega) ?_ g2)
  first|omega|(simp;omega)

end Go.Proofs.Ytkjcdnlpjldhaaa

