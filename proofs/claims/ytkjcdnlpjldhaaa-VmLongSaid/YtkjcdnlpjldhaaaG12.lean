/-
  The texts RatBase, RatBox, merged.
-/
import Derived.Test.YtkjcdnlpjldhaaaG11
import Derived.Test.YtkjcdnlpjldhaaaG01
import Derived.OneCell
set_option linter.unusedVariables false
set_option linter.unusedSimpArgs false
set_option maxRecDepth 100000
set_option maxHeartbeats 400000000
namespace Go.Proofs.Ytkjcdnlpjldhaaa
open Go.RowKit Tw

abbrev aggR (b:Bool) (v u:Value):Value:=.agg #[.bool b,v,u]

def IsQ (w:World) (b:Bool) (v u:Value) (ln ld:List Nat) (q:Rat):Prop:=Rd w v ln/\Rd w u ld/\rat b (val ln) (val ld)=q/\ln.length<=4097/\ld.length<=4097

theorem IsQ.to {w w':World} {b:Bool} {v u:Value} {ln ld:List Nat} {q:Rat} (h:IsQ w b v u ln ld q) (hb:Below w.heap.size w w'):IsQ w' b v u ln ld q:=⟨h.1.to hb,h.2.1.to hb,h.2.2⟩

theorem IsQ.drew {w:World} {b:Bool} {v u:Value} {ln ld:List Nat} {q:Rat} (h:IsQ w b v u ln ld q):IsQ w.drew b v u ln ld q:=⟨h.1.drew,h.2.1.drew,h.2.2⟩

theorem IsQ.up {w:World} {b:Bool} {v u:Value} {ln ld:List Nat} {q:Rat} (h:IsQ w b v u ln ld q):Rd w v ln:=h.1

theorem IsQ.dn {w:World} {b:Bool} {v u:Value} {ln ld:List Nat} {q:Rat} (h:IsQ w b v u ln ld q):Rd w u ld:=h.2.1

theorem IsQ.lup {w:World} {b:Bool} {v u:Value} {ln ld:List Nat} {q:Rat} (h:IsQ w b v u ln ld q):ln.length<=4097:=h.2.2.2.1

theorem IsQ.ldn {w:World} {b:Bool} {v u:Value} {ln ld:List Nat} {q:Rat} (h:IsQ w b v u ln ld q):ld.length<=4097:=h.2.2.2.2

theorem IsI.up {w:World} {b:Bool} {v:Value} {l:List Nat} {z:Int} (h:IsI w b v l z):Rd w v l:=h.1

def zW (lo hi:Nat) (w:World) (ng:Bool) (v u:Value) (q:Rat):Prop :=
 Own lo w v (zc q.num.natAbs)/\Own lo w u (zc q.den)/\decide (q<0)=ng/\szq q<=4097/\(∀ k,v.ownBlock=some k->k<hi)/\(∀ k,u.ownBlock=some k->k<hi)

section

variable {lo hi:Nat} {w w':World} {ng:Bool} {v u:Value} {q:Rat}

theorem zW.to (h:zW lo hi w ng v u q) (hb:Below w.heap.size w w'):zW lo hi w' ng v u q:=⟨h.1.to hb,h.2.1.to hb,h.2.2⟩

theorem zW.drew (h:zW lo hi w ng v u q):zW lo hi w.drew ng v u q:=⟨h.1.drew,h.2.1.drew,h.2.2⟩

theorem zW.alloc (h:zW lo hi w ng v u q) (o:Obj):zW lo hi (w.alloc o) ng v u q:=⟨h.1.alloc o,h.2.1.alloc o,h.2.2⟩

theorem zW.mono (h:zW lo hi w ng v u q) {lo' hi':Nat} (h1:lo'<=lo) (h2:hi<=hi'):zW lo' hi' w ng v u q :=
 ⟨h.1.mono h1,h.2.1.mono h1,h.2.2.1,h.2.2.2.1,fun k e => Nat.lt_of_lt_of_le (h.2.2.2.2.1 k e) h2,fun k e => Nat.lt_of_lt_of_le (h.2.2.2.2.2 k e) h2⟩

theorem zW.isQ (h:zW lo hi w ng v u q):IsQ w ng v u (zc q.num.natAbs) (zc q.den) q :=
 ⟨h.1.rd,h.2.1.rd,by rw [<- h.2.2.1,vL,vL,zbW],by rw [ze];exact Nat.le_trans (zaq q) h.2.2.2.1,by rw [ze];exact Nat.le_trans (zac q) h.2.2.2.1⟩

theorem zW.above (h:zW lo hi w ng v u q):IsI w ng v (zc q.num.natAbs) q.num :=
 ⟨h.1.rd,by rw [<- h.2.2.1,vL,ziN],by rw [ze];exact Nat.le_trans (Nat.le_trans (zaq q) h.2.2.2.1) (by omega)⟩

theorem zW.below (h:zW lo hi w ng v u q):IsI w false u (zc q.den) (q.den:Int) :=
 ⟨h.2.1.rd,by rw [vL,zbu],by rw [ze];exact Nat.le_trans (Nat.le_trans (zac q) h.2.2.2.1) (by omega)⟩

end

def zae (w:World) (q:Rat) (e:Ending) (w':World):Prop :=
 ∃ ng a n c a' n' c',e=.returned (aggR ng (.slice a n c) (.slice a' n' c'))/\zW w.heap.size w'.heap.size w' ng (.slice a n c) (.slice a' n' c') q/\Below w.heap.size w w'

theorem zeh {lo:Nat} {w:World} {ng:Bool} {v u:Value} {q:Rat} (h1:Own lo w v (zc q.num.natAbs)) (h2:Own lo w u (zc q.den)) (h3:decide (q<0)=ng) (h4:szq q<=4097):zW lo w.heap.size w ng v u q :=
 ⟨h1,h2,h3,h4,fun k e => (h1.lt k e).2,fun k e => (h2.lt k e).2⟩

def Tri (w:World) (B:Nat) (x y z:Value):Prop :=
 w.cell? ⟨B,0,none⟩=some x/\w.cell? ⟨B,1,none⟩=some y/\w.cell? ⟨B,2,none⟩=some z/\w.frozen? ⟨B,0,none⟩=false/\w.frozen? ⟨B,1,none⟩=false/\w.frozen? ⟨B,2,none⟩=false

abbrev zbE (w:World) (B:Nat) (x y z:Value):World:=((w.setCell ⟨B,0,none⟩ x).setCell ⟨B,1,none⟩ y).setCell ⟨B,2,none⟩ z

theorem cP {w:World} {b o:Nat} {v:Value} (h:w.cell? ⟨b,o,none⟩=some v) {b' o':Nat} (hne:b≠b'\/o≠o') (x:Value):(w.setCell ⟨b',o',none⟩ x).cell? ⟨b,o,none⟩=some v:=by
 have e:(⟨b',o',none⟩:Addr)≠⟨b,o,none⟩:=fun k => by
  injection k with k1 k2 k3
  rcases hne with h|h
  ·exact h k1.symm
  ·exact h k2.symm
 rw [World.cell?_setCell_other (h:=by first|exact e|exact e.symm),h]

theorem zH {w:World} {b o:Nat} {v:Value} (h:w.cell? ⟨b,o,none⟩=some v) (x:Value):(w.setCell ⟨b,o,none⟩ x).cell? ⟨b,o,none⟩=some x :=
 World.cell?_setCell_same' _ _ _ (by rw [h];rfl)

theorem Tri.lt {w:World} {B:Nat} {x y z:Value} (h:Tri w B x y z):B<w.heap.size:=zj h.1

theorem zd (w:World) (x y z:Value) (t:TypeId):Tri (w.alloc (.cells #[x,y,z] t)) w.heap.size x y z:=by
 refine ⟨?_,?_,?_,?_,?_,?_⟩ <;> simp [go_sem]

theorem Tri.to {w w':World} {B:Nat} {x y z:Value} (h:Tri w B x y z) (hb:Below w.heap.size w w'):Tri w' B x y z :=
 ⟨(hb.cell (p:=⟨B,0,none⟩) h.lt).trans h.1,(hb.cell (p:=⟨B,1,none⟩) h.lt).trans h.2.1,(hb.cell (p:=⟨B,2,none⟩) h.lt).trans h.2.2.1,
  (hb.frozen (p:=⟨B,0,none⟩) h.lt).trans h.2.2.2.1,(hb.frozen (p:=⟨B,1,none⟩) h.lt).trans h.2.2.2.2.1,(hb.frozen (p:=⟨B,2,none⟩) h.lt).trans h.2.2.2.2.2⟩

theorem Tri.alloc {w:World} {B:Nat} {x y z:Value} (h:Tri w B x y z) (o:Obj):Tri (w.alloc o) B x y z:=h.to (bN _ _)

theorem Tri.set {w:World} {B:Nat} {x0 y0 z0:Value} (h:Tri w B x0 y0 z0) (x y z:Value):Tri (zbE w B x y z) B x y z :=
 ⟨cP (cP (zH h.1 _) (.inr (by decide)) _) (.inr (by decide)) _,cP (zH (cP h.2.1 (.inr (by decide)) _) _) (.inr (by decide)) _,
  zH (cP (cP h.2.2.1 (.inr (by decide)) _) (.inr (by decide)) _) _,by simp [go_sem,h.2.2.2.1],by simp [go_sem,h.2.2.2.2.1],by simp [go_sem,h.2.2.2.2.2]⟩

theorem Tri.other {w:World} {B B':Nat} {x y z:Value} (h:Tri w B x y z) (hn:B≠B') (x' y' z':Value):Tri (zbE w B' x' y' z') B x y z :=
 ⟨cP (cP (cP h.1 (.inl hn) _) (.inl hn) _) (.inl hn) _,cP (cP (cP h.2.1 (.inl hn) _) (.inl hn) _) (.inl hn) _,
  cP (cP (cP h.2.2.1 (.inl hn) _) (.inl hn) _) (.inl hn) _,by simp [go_sem,h.2.2.2.1],by simp [go_sem,h.2.2.2.2.1],by simp [go_sem,h.2.2.2.2.2]⟩

theorem bT {n:Nat} {w w':World} (h:Below n w w') {B:Nat} (hB:n<=B) (x y z:Value):Below n w (zbE w' B x y z):=((h.setCell (by exact hB) _).setCell (by exact hB) _).setCell (by exact hB) _

theorem Own.setNew {lo:Nat} {w:World} {v:Value} {l:List Nat} (h:Own lo w v l) {p:Addr} (hp:∀ k,v.ownBlock=some k->k<p.block) (x:Value):Own lo (w.setCell p x) v l:=by
 exact ⟨h.1,Go.ownsRow_setCell_other h.2 (fun e => Nat.lt_irrefl _ (hp _ e)) x⟩

theorem zW.set {lo hi:Nat} {w:World} {ng:Bool} {v u:Value} {q:Rat} (h:zW lo hi w ng v u q) {B:Nat} (hB:B<lo\/hi<=B) (x y z:Value):zW lo hi (zbE w B x y z) ng v u q:=by
 rcases hB with hB|hB
 ·exact ⟨((h.1.setOther (by exact hB) _).setOther (by exact hB) _).setOther (by exact hB) _,((h.2.1.setOther (by exact hB) _).setOther (by exact hB) _).setOther (by exact hB) _,h.2.2⟩
 ·have h1:∀ k,v.ownBlock=some k->k<B:=fun k e => Nat.lt_of_lt_of_le (h.2.2.2.2.1 k e) hB
  have h2:∀ k,u.ownBlock=some k->k<B:=fun k e => Nat.lt_of_lt_of_le (h.2.2.2.2.2 k e) hB
  exact ⟨((h.1.setNew (by exact h1) _).setNew (by exact h1) _).setNew (by exact h1) _,((h.2.1.setNew (by exact h2) _).setNew (by exact h2) _).setNew (by exact h2) _,h.2.2⟩

theorem loadR (w:World) (b:Nat) (x y z:Value) (c0:w.cell? ⟨b,0,none⟩=some x) (c1:w.cell? ⟨b,1,none⟩=some y) (c2:w.cell? ⟨b,2,none⟩=some z) :
  (loadVar 25 ⟨b,0,none⟩).run Try.prog w=.ok (.agg #[x,y,z]) w:=by
 simp [go_sem,c0,c1,c2]

theorem zU {fn:Func} {k:Tmp} (h:fn.results=#[.cell k 25]) (tmps:Array Value) (w:World) (b:Nat) (x y z:Value) (hk:tmps.getD k undef=.pointer (some ⟨b,0,none⟩))
  (t:Tri w b x y z):(results fn tmps).run Try.prog w=.ok (.agg #[x,y,z]) w:=by
 have hl:=loadR w b x y z t.1 t.2.1 t.2.2.1
 have hk':tmps[k]?.getD undef=.pointer (some ⟨b,0,none⟩):=by simpa using hk
 simp [results,h,asAddr,Sem.run_bind,hl,Result.andThen,hk']

theorem zn {fn:Func} {k j:Tmp} (h:fn.results=#[.cell k 25,.tmp j]) (tmps:Array Value) (w:World) (b:Nat) (x y z:Value) (hk:tmps.getD k undef=.pointer (some ⟨b,0,none⟩))
  (t:Tri w b x y z):(results fn tmps).run Try.prog w=.ok (.tuple #[.agg #[x,y,z],tmps.getD j undef]) w:=by
 have hl:=loadR w b x y z t.1 t.2.1 t.2.2.1
 have hk':tmps[k]?.getD undef=.pointer (some ⟨b,0,none⟩):=by simpa using hk
 simp [results,h,asAddr,Sem.run_bind,hl,Result.andThen,hk']

theorem zds {w w2:World} {lo hi rb:Nat} {ng:Bool} {a a':Option Addr} {n c n' c':Nat} {q:Rat} (hb:Below w.heap.size w w2) (hrb:w.heap.size<=rb) (hlo:rb<lo) (hv:zW lo hi w2 ng (.slice a n c) (.slice a' n' c') q) :
  zae w q (.returned (aggR ng (.slice a n c) (.slice a' n' c'))) (zbE w2 rb (.bool ng) (.slice a n c) (.slice a' n' c')):=by
 have h:=hv.set (.inl hlo) (.bool ng) (.slice a n c) (.slice a' n' c')
 exact ⟨ng,a,n,c,a',n',c',rfl,zeh (h.1.mono (by omega)) (h.2.1.mono (by omega)) h.2.2.1 h.2.2.2.1,bT hb hrb _ _ _⟩

theorem kc {w w':World} {b o:Nat} {v:Value} (hb:Below w.heap.size w w') (h:w.cell? ⟨b,o,none⟩=some v):w'.cell? ⟨b,o,none⟩=some v:=(hb.cell (p:=⟨b,o,none⟩) (zj h)).trans h
theorem kf {w w':World} {b o:Nat} {v:Value} (hb:Below w.heap.size w w') (h:w.cell? ⟨b,o,none⟩=some v) (f:w.frozen? ⟨b,o,none⟩=false):w'.frozen? ⟨b,o,none⟩=false:=(hb.frozen (p:=⟨b,o,none⟩) (zj h)).trans f
def Bx1 (w:World) (B:Nat) (v0:Value):Prop:=B<w.heap.size/\w.cell? ⟨B,0,none⟩=some v0/\w.frozen? ⟨B,0,none⟩=false
theorem bx1 {w w':World} {B:Nat} {v0:Value} (hb:Below w.heap.size w w') (c0:w.cell? ⟨B,0,none⟩=some v0) (f0:w.frozen? ⟨B,0,none⟩=false):Bx1 w' B v0:=⟨Nat.lt_of_lt_of_le (zj c0) hb.size,kc hb c0,kf hb c0 f0⟩
def Bx2 (w:World) (B:Nat) (v0 v1:Value):Prop:=B<w.heap.size/\w.cell? ⟨B,0,none⟩=some v0/\w.cell? ⟨B,1,none⟩=some v1/\w.frozen? ⟨B,0,none⟩=false/\w.frozen? ⟨B,1,none⟩=false
theorem bx2 {w w':World} {B:Nat} {v0 v1:Value} (hb:Below w.heap.size w w') (c0:w.cell? ⟨B,0,none⟩=some v0) (c1:w.cell? ⟨B,1,none⟩=some v1) (f0:w.frozen? ⟨B,0,none⟩=false) (f1:w.frozen? ⟨B,1,none⟩=false):Bx2 w' B v0 v1:=⟨Nat.lt_of_lt_of_le (zj c0) hb.size,kc hb c0,kc hb c1,kf hb c0 f0,kf hb c1 f1⟩
def Bx3 (w:World) (B:Nat) (v0 v1 v2:Value):Prop:=B<w.heap.size/\w.cell? ⟨B,0,none⟩=some v0/\w.cell? ⟨B,1,none⟩=some v1/\w.cell? ⟨B,2,none⟩=some v2/\w.frozen? ⟨B,0,none⟩=false/\w.frozen? ⟨B,1,none⟩=false/\w.frozen? ⟨B,2,none⟩=false
theorem bx3 {w w':World} {B:Nat} {v0 v1 v2:Value} (hb:Below w.heap.size w w') (c0:w.cell? ⟨B,0,none⟩=some v0) (c1:w.cell? ⟨B,1,none⟩=some v1) (c2:w.cell? ⟨B,2,none⟩=some v2) (f0:w.frozen? ⟨B,0,none⟩=false) (f1:w.frozen? ⟨B,1,none⟩=false) (f2:w.frozen? ⟨B,2,none⟩=false):Bx3 w' B v0 v1 v2:=⟨Nat.lt_of_lt_of_le (zj c0) hb.size,kc hb c0,kc hb c1,kc hb c2,kf hb c0 f0,kf hb c1 f1,kf hb c2 f2⟩
def Bx4 (w:World) (B:Nat) (v0 v1 v2 v3:Value):Prop:=B<w.heap.size/\w.cell? ⟨B,0,none⟩=some v0/\w.cell? ⟨B,1,none⟩=some v1/\w.cell? ⟨B,2,none⟩=some v2/\w.cell? ⟨B,3,none⟩=some v3/\w.frozen? ⟨B,0,none⟩=false/\w.frozen? ⟨B,1,none⟩=false/\w.frozen? ⟨B,2,none⟩=false/\w.frozen? ⟨B,3,none⟩=false
theorem bx4 {w w':World} {B:Nat} {v0 v1 v2 v3:Value} (hb:Below w.heap.size w w') (c0:w.cell? ⟨B,0,none⟩=some v0) (c1:w.cell? ⟨B,1,none⟩=some v1) (c2:w.cell? ⟨B,2,none⟩=some v2) (c3:w.cell? ⟨B,3,none⟩=some v3) (f0:w.frozen? ⟨B,0,none⟩=false) (f1:w.frozen? ⟨B,1,none⟩=false) (f2:w.frozen? ⟨B,2,none⟩=false) (f3:w.frozen? ⟨B,3,none⟩=false):Bx4 w' B v0 v1 v2 v3:=⟨Nat.lt_of_lt_of_le (zj c0) hb.size,kc hb c0,kc hb c1,kc hb c2,kc hb c3,kf hb c0 f0,kf hb c1 f1,kf hb c2 f2,kf hb c3 f3⟩
def Bx5 (w:World) (B:Nat) (v0 v1 v2 v3 v4:Value):Prop:=B<w.heap.size/\w.cell? ⟨B,0,none⟩=some v0/\w.cell? ⟨B,1,none⟩=some v1/\w.cell? ⟨B,2,none⟩=some v2/\w.cell? ⟨B,3,none⟩=some v3/\w.cell? ⟨B,4,none⟩=some v4/\w.frozen? ⟨B,0,none⟩=false/\w.frozen? ⟨B,1,none⟩=false/\w.frozen? ⟨B,2,none⟩=false/\w.frozen? ⟨B,3,none⟩=false/\w.frozen? ⟨B,4,none⟩=false
theorem bx5 {w w':World} {B:Nat} {v0 v1 v2 v3 v4:Value} (hb:Below w.heap.size w w') (c0:w.cell? ⟨B,0,none⟩=some v0) (c1:w.cell? ⟨B,1,none⟩=some v1) (c2:w.cell? ⟨B,2,none⟩=some v2) (c3:w.cell? ⟨B,3,none⟩=some v3) (c4:w.cell? ⟨B,4,none⟩=some v4) (f0:w.frozen? ⟨B,0,none⟩=false) (f1:w.frozen? ⟨B,1,none⟩=false) (f2:w.frozen? ⟨B,2,none⟩=false) (f3:w.frozen? ⟨B,3,none⟩=false) (f4:w.frozen? ⟨B,4,none⟩=false):Bx5 w' B v0 v1 v2 v3 v4:=⟨Nat.lt_of_lt_of_le (zj c0) hb.size,kc hb c0,kc hb c1,kc hb c2,kc hb c3,kc hb c4,kf hb c0 f0,kf hb c1 f1,kf hb c2 f2,kf hb c3 f3,kf hb c4 f4⟩
def Bx6 (w:World) (B:Nat) (v0 v1 v2 v3 v4 v5:Value):Prop:=B<w.heap.size/\w.cell? ⟨B,0,none⟩=some v0/\w.cell? ⟨B,1,none⟩=some v1/\w.cell? ⟨B,2,none⟩=some v2/\w.cell? ⟨B,3,none⟩=some v3/\w.cell? ⟨B,4,none⟩=some v4/\w.cell? ⟨B,5,none⟩=some v5/\w.frozen? ⟨B,0,none⟩=false/\w.frozen? ⟨B,1,none⟩=false/\w.frozen? ⟨B,2,none⟩=false/\w.frozen? ⟨B,3,none⟩=false/\w.frozen? ⟨B,4,none⟩=false/\w.frozen? ⟨B,5,none⟩=false
theorem bx6 {w w':World} {B:Nat} {v0 v1 v2 v3 v4 v5:Value} (hb:Below w.heap.size w w') (c0:w.cell? ⟨B,0,none⟩=some v0) (c1:w.cell? ⟨B,1,none⟩=some v1) (c2:w.cell? ⟨B,2,none⟩=some v2) (c3:w.cell? ⟨B,3,none⟩=some v3) (c4:w.cell? ⟨B,4,none⟩=some v4) (c5:w.cell? ⟨B,5,none⟩=some v5) (f0:w.frozen? ⟨B,0,none⟩=false) (f1:w.frozen? ⟨B,1,none⟩=false) (f2:w.frozen? ⟨B,2,none⟩=false) (f3:w.frozen? ⟨B,3,none⟩=false) (f4:w.frozen? ⟨B,4,none⟩=false) (f5:w.frozen? ⟨B,5,none⟩=false):Bx6 w' B v0 v1 v2 v3 v4 v5:=⟨Nat.lt_of_lt_of_le (zj c0) hb.size,kc hb c0,kc hb c1,kc hb c2,kc hb c3,kc hb c4,kc hb c5,kf hb c0 f0,kf hb c1 f1,kf hb c2 f2,kf hb c3 f3,kf hb c4 f4,kf hb c5 f5⟩
def Bx7 (w:World) (B:Nat) (v0 v1 v2 v3 v4 v5 v6:Value):Prop:=B<w.heap.size/\w.cell? ⟨B,0,none⟩=some v0/\w.cell? ⟨B,1,none⟩=some v1/\w.cell? ⟨B,2,none⟩=some v2/\w.cell? ⟨B,3,none⟩=some v3/\w.cell? ⟨B,4,none⟩=some v4/\w.cell? ⟨B,5,none⟩=some v5/\w.cell? ⟨B,6,none⟩=some v6/\w.frozen? ⟨B,0,none⟩=false/\w.frozen? ⟨B,1,none⟩=false/\w.frozen? ⟨B,2,none⟩=false/\w.frozen? ⟨B,3,none⟩=false/\w.frozen? ⟨B,4,none⟩=false/\w.frozen? ⟨B,5,none⟩=false/\w.frozen? ⟨B,6,none⟩=false
theorem bx7 {w w':World} {B:Nat} {v0 v1 v2 v3 v4 v5 v6:Value} (hb:Below w.heap.size w w') (c0:w.cell? ⟨B,0,none⟩=some v0) (c1:w.cell? ⟨B,1,none⟩=some v1) (c2:w.cell? ⟨B,2,none⟩=some v2) (c3:w.cell? ⟨B,3,none⟩=some v3) (c4:w.cell? ⟨B,4,none⟩=some v4) (c5:w.cell? ⟨B,5,none⟩=some v5) (c6:w.cell? ⟨B,6,none⟩=some v6) (f0:w.frozen? ⟨B,0,none⟩=false) (f1:w.frozen? ⟨B,1,none⟩=false) (f2:w.frozen? ⟨B,2,none⟩=false) (f3:w.frozen? ⟨B,3,none⟩=false) (f4:w.frozen? ⟨B,4,none⟩=false) (f5:w.frozen? ⟨B,5,none⟩=false) (f6:w.frozen? ⟨B,6,none⟩=false):Bx7 w' B v0 v1 v2 v3 v4 v5 v6:=⟨Nat.lt_of_lt_of_le (zj c0) hb.size,kc hb c0,kc hb c1,kc hb c2,kc hb c3,kc hb c4,kc hb c5,kc hb c6,kf hb c0 f0,kf hb c1 f1,kf hb c2 f2,kf hb c3 f3,kf hb c4 f4,kf hb c5 f5,kf hb c6 f6⟩

end Go.Proofs.Ytkjcdnlpjldhaaa


namespace Go.Proofs.Ytkjcdnlpjldhaaa
open Go.RowKit Tw

def zbT (lo hi:Nat) (w:World) (ng:Bool) (v:Value) (z:Int):Prop :=
 Own lo w v (zc z.natAbs)/\decide (z<0)=ng/\szi z<=90000/\(∀ k,v.ownBlock=some k->k<hi)

section

variable {lo hi:Nat} {w w':World} {ng:Bool} {v:Value} {z:Int}

theorem zbT.to (h:zbT lo hi w ng v z) (hb:Below w.heap.size w w'):zbT lo hi w' ng v z:=⟨h.1.to hb,h.2⟩

theorem zbT.drew (h:zbT lo hi w ng v z):zbT lo hi w.drew ng v z:=⟨h.1.drew,h.2⟩

theorem zbT.alloc (h:zbT lo hi w ng v z) (o:Obj):zbT lo hi (w.alloc o) ng v z:=⟨h.1.alloc o,h.2⟩

theorem zbT.isI (h:zbT lo hi w ng v z):IsI w ng v (zc z.natAbs) z:=⟨h.1.rd,by rw [<- h.2.1];exact sgn_back z,by rw [ze];exact h.2.2.1⟩

end

def zev (w:World) (z:Int) (e:Ending) (w':World):Prop :=
 ∃ ng a n c,e=.returned (aggI ng (.slice a n c))/\zbT w.heap.size w'.heap.size w' ng (.slice a n c) z/\Below w.heap.size w w'

theorem zfI {w:World} {z z':Int} {e:Ending} {w':World} (hz:z=z') (hs:szi z'<=90000) (h:zbO w z e w'):zev w z' e w':=by
 subst hz
 obtain ⟨v,rfl,hv,hb⟩:=h
 obtain ⟨a,n,c,rfl,_,_⟩:=hv.rd.open
 exact ⟨_,a,n,c,rfl,⟨hv,rfl,hs,fun k e => (hv.lt k e).2⟩,hb⟩

section

variable {b c:Bool} {va vb:Value} {la lb:List Nat} {x y:Int}

theorem add_c (w:World) (g0:IsI w b va la x) (g1:IsI w c vb lb y) (z:Int) (hz:x+y=z) (hs:Hid (szi z<=90000)) :
  Calls Try.prog 77 #[aggI b va,aggI c vb] w (zev w z) :=
 (zjR b c va vb la lb w g0.1 g1.1 (Nat.le_trans g0.2.2 (by omega)) (Nat.le_trans g1.2.2 (by omega))).mono fun e w' h => zfI (by rw [g0.2.1,g1.2.1,hz]) hs h

theorem zfp (w:World) (g0:IsI w b va la x) (g1:IsI w c vb lb y) (z:Int) (hz:x*y=z) (hs:Hid (szi z<=90000)) :
  Calls Try.prog 78 #[aggI b va,aggI c vb] w (zev w z) :=
 (zjS b c va vb la lb w g0.1 g1.1 (Nat.le_trans g0.2.2 (by omega)) (Nat.le_trans g1.2.2 (by omega))).mono fun e w' h => zfI (by rw [g0.2.1,g1.2.1,hz]) hs h

theorem of_c (n z:Int) (w:World) (hz:z=n) (n0:-9223372036854775808<=n) (n1:n<9223372036854775808) :
  Calls Try.prog 17 #[.int .i64 n] w (zev w z) :=
 (whole_of n z w hz n0 n1).mono fun e w' h => zfI rfl (by
  unfold szi
  have:=zV (show z.natAbs<=18446744073709551616 by omega)
  rw [show sz 18446744073709551616=3 by decide +kernel] at this
  omega) h

end

def Duo (w:World) (B:Nat) (x y:Value):Prop :=
 w.cell? ⟨B,0,none⟩=some x/\w.cell? ⟨B,1,none⟩=some y/\w.frozen? ⟨B,0,none⟩=false/\w.frozen? ⟨B,1,none⟩=false

abbrev zeS (w:World) (B:Nat) (x y:Value):World:=(w.setCell ⟨B,0,none⟩ x).setCell ⟨B,1,none⟩ y

theorem Duo.lt {w:World} {B:Nat} {x y:Value} (h:Duo w B x y):B<w.heap.size:=zj h.1

theorem zC (w:World) (x y:Value) (t:TypeId):Duo (w.alloc (.cells #[x,y] t)) w.heap.size x y:=by
 refine ⟨?_,?_,?_,?_⟩ <;> simp [go_sem]

theorem zaR (w:World) (o:Obj) (x y:Value) (t:TypeId):Duo ((w.alloc o).alloc (.cells #[x,y] t)) (w.heap.size+1) x y:=by
 have h:=zC (w.alloc o) x y t
 rwa [show (w.alloc o).heap.size=w.heap.size+1 by simp] at h

theorem zad (w:World) (o:Obj) (x y z:Value) (t:TypeId):Tri ((w.alloc o).alloc (.cells #[x,y,z] t)) (w.heap.size+1) x y z:=by
 have h:=zd (w.alloc o) x y z t
 rwa [show (w.alloc o).heap.size=w.heap.size+1 by simp] at h

theorem Duo.to {w w':World} {B:Nat} {x y:Value} (h:Duo w B x y) (hb:Below w.heap.size w w'):Duo w' B x y :=
 ⟨(hb.cell (p:=⟨B,0,none⟩) h.lt).trans h.1,(hb.cell (p:=⟨B,1,none⟩) h.lt).trans h.2.1,(hb.frozen (p:=⟨B,0,none⟩) h.lt).trans h.2.2.1,(hb.frozen (p:=⟨B,1,none⟩) h.lt).trans h.2.2.2⟩

theorem Duo.alloc {w:World} {B:Nat} {x y:Value} (h:Duo w B x y) (o:Obj):Duo (w.alloc o) B x y:=h.to (bN _ _)

theorem Duo.drew {w:World} {B:Nat} {x y:Value} (h:Duo w B x y):Duo w.drew B x y:=h.to (Below.refl _ _).drew

theorem Tri.drew {w:World} {B:Nat} {x y z:Value} (h:Tri w B x y z):Tri w.drew B x y z:=h.to (Below.refl _ _).drew

theorem Duo.set {w:World} {B:Nat} {x0 y0:Value} (h:Duo w B x0 y0) (x y:Value):Duo (zeS w B x y) B x y :=
 ⟨cP (zH h.1 _) (.inr (by decide)) _,zH (cP h.2.1 (.inr (by decide)) _) _,by simp [go_sem,h.2.2.1],by simp [go_sem,h.2.2.2]⟩

theorem bD {n:Nat} {w w':World} (h:Below n w w') {B:Nat} (hB:n<=B) (x y:Value):Below n w (zeS w' B x y):=(h.setCell (by exact hB) _).setCell (by exact hB) _

theorem zbT.set {lo hi:Nat} {w:World} {ng:Bool} {v:Value} {z:Int} (h:zbT lo hi w ng v z) {B:Nat} (hB:B<lo\/hi<=B) (x y:Value):zbT lo hi (zeS w B x y) ng v z:=by
 rcases hB with hB|hB
 ·exact ⟨(h.1.setOther (by exact hB) _).setOther (by exact hB) _,h.2⟩
 ·have h1:∀ k,v.ownBlock=some k->k<B:=fun k e => Nat.lt_of_lt_of_le (h.2.2.2 k e) hB
  exact ⟨(h.1.setNew (by exact h1) _).setNew (by exact h1) _,h.2⟩

def BoxC (W:World) (z:Int) (s:Value) (wx:World):Prop :=
 ∃ B ng a n c lo hi,s=.pointer (some ⟨B,0,none⟩)/\W.heap.size<=B/\Duo wx B (.bool ng) (.slice a n c)/\zbT lo hi wx ng (.slice a n c) z/\Below W.heap.size W wx

def zaw (W:World) (q:Rat) (s:Value) (wx:World):Prop :=
 ∃ B ng a n c p m k lo hi,s=.pointer (some ⟨B,0,none⟩)/\W.heap.size<=B/\Tri wx B (.bool ng) (.slice a n c) (.slice p m k)/\zW lo hi wx ng (.slice a n c) (.slice p m k) q/\Below W.heap.size W wx

section

variable {W w:World} {q r:Rat} {z:Int} {B B' lo hi lo' hi':Nat} {ng ng':Bool} {a p a' p':Option Addr} {n c m k n' c' m' k':Nat} {x0 y0 z0 x1 y1 z1:Value} {t t':TypeId}

theorem zfu (w:World) (B:Nat) (x y z:Value):(zbE w B x y z).heap.size=w.heap.size:=by simp

theorem tri_at {w:World} {B:Nat} (h:B=w.heap.size) (x y z:Value) (t:TypeId):Tri (w.alloc (.cells #[x,y,z] t)) B x y z:=by subst h;exact zd _ _ _ _ _

theorem zbz (f:Duo w B x0 y0) (g:zbT lo hi w ng (.slice a n c) z) (s:B<lo\/hi<=B) (gb:Below W.heap.size W w) (hB:W.heap.size<=B) :
  BoxC W z (.pointer (some ⟨B,0,none⟩)) (zeS w B (.bool ng) (.slice a n c)) :=
 ⟨B,ng,a,n,c,lo,hi,rfl,hB,f.set _ _,g.set s _ _,bD gb hB _ _⟩

theorem boxC_new (g:zbT lo hi w ng (.slice a n c) z) (gb:Below W.heap.size W w):BoxC W z (.pointer (some ⟨w.heap.size,0,none⟩)) (w.alloc (.cells #[.bool ng,.slice a n c] t)) :=
 ⟨_,ng,a,n,c,lo,hi,rfl,gb.size,zC _ _ _ _,g.alloc _,bS gb (bN _ _)⟩

theorem zk (f:Tri w B x0 y0 z0) (g:zW lo hi w ng (.slice a n c) (.slice p m k) q) (s:B<lo\/hi<=B) (gb:Below W.heap.size W w) (hB:W.heap.size<=B) :
  zaw W q (.pointer (some ⟨B,0,none⟩)) (zbE w B (.bool ng) (.slice a n c) (.slice p m k)) :=
 ⟨B,ng,a,n,c,p,m,k,lo,hi,rfl,hB,f.set _ _ _,g.set s _ _ _,bT gb hB _ _ _⟩

theorem zG (g:zW lo hi w ng (.slice a n c) (.slice p m k) q) (gb:Below W.heap.size W w):zaw W q (.pointer (some ⟨w.heap.size,0,none⟩)) (w.alloc (.cells #[.bool ng,.slice a n c,.slice p m k] t)) :=
 ⟨_,ng,a,n,c,p,m,k,lo,hi,rfl,gb.size,zd _ _ _ _ _,g.alloc _,bS gb (bN _ _)⟩

theorem zi (f:Tri w B x0 y0 z0) (f':Tri w B' x1 y1 z1) (hne:B≠B') (g:zW lo hi w ng (.slice a n c) (.slice p m k) q) (g':zW lo' hi' w ng' (.slice a' n' c') (.slice p' m' k') r)
  (s1:B<lo\/hi<=B) (s2:B'<lo\/hi<=B') (s3:B<lo'\/hi'<=B) (s4:B'<lo'\/hi'<=B') (gb:Below W.heap.size W w) (hB:W.heap.size<=B) (hB':W.heap.size<=B') :
  zaw W q (.pointer (some ⟨B,0,none⟩)) (zbE (zbE w B (.bool ng) (.slice a n c) (.slice p m k)) B' (.bool ng') (.slice a' n' c') (.slice p' m' k')) /\
  zaw W r (.pointer (some ⟨B',0,none⟩)) (zbE (zbE w B (.bool ng) (.slice a n c) (.slice p m k)) B' (.bool ng') (.slice a' n' c') (.slice p' m' k')) :=
 ⟨⟨B,ng,a,n,c,p,m,k,lo,hi,rfl,hB,(f.set _ _ _).other hne _ _ _,(g.set s1 _ _ _).set s2 _ _ _,bT (bT gb hB _ _ _) hB' _ _ _⟩,
  ⟨B',ng',a',n',c',p',m',k',lo',hi',rfl,hB',(f'.other (Ne.symm hne) _ _ _).set _ _ _,(g'.set s3 _ _ _).set s4 _ _ _,bT (bT gb hB _ _ _) hB' _ _ _⟩⟩

theorem zq (f:Tri w B x0 y0 z0) (g:zW lo hi w ng (.slice a n c) (.slice p m k) q) (g':zW lo' hi' w ng' (.slice a' n' c') (.slice p' m' k') r)
  (s1:B<lo\/hi<=B) (s3:B<lo'\/hi'<=B) (gb:Below W.heap.size W w) (hB:W.heap.size<=B) :
  zaw W q (.pointer (some ⟨B,0,none⟩)) ((zbE w B (.bool ng) (.slice a n c) (.slice p m k)).alloc (.cells #[.bool ng',.slice a' n' c',.slice p' m' k'] t)) /\
  zaw W r (.pointer (some ⟨w.heap.size,0,none⟩)) ((zbE w B (.bool ng) (.slice a n c) (.slice p m k)).alloc (.cells #[.bool ng',.slice a' n' c',.slice p' m' k'] t)) :=
 ⟨⟨B,ng,a,n,c,p,m,k,lo,hi,rfl,hB,(f.set _ _ _).alloc _,(g.set s1 _ _ _).alloc _,bS (bT gb hB _ _ _) (bN _ _)⟩,
  ⟨w.heap.size,ng',a',n',c',p',m',k',lo',hi',rfl,gb.size,tri_at (zfu _ _ _ _ _).symm _ _ _ _,(g'.set s3 _ _ _).alloc _,bS (bT gb hB _ _ _) (bN _ _)⟩⟩

theorem zbs (g:zW lo hi w ng (.slice a n c) (.slice p m k) q) (g':zW lo' hi' w ng' (.slice a' n' c') (.slice p' m' k') r) (gb:Below W.heap.size W w) :
  zaw W q (.pointer (some ⟨w.heap.size,0,none⟩)) ((w.alloc (.cells #[.bool ng,.slice a n c,.slice p m k] t)).alloc (.cells #[.bool ng',.slice a' n' c',.slice p' m' k'] t')) /\
  zaw W r (.pointer (some ⟨w.heap.size+1,0,none⟩)) ((w.alloc (.cells #[.bool ng,.slice a n c,.slice p m k] t)).alloc (.cells #[.bool ng',.slice a' n' c',.slice p' m' k'] t')) :=
 ⟨⟨_,ng,a,n,c,p,m,k,lo,hi,rfl,gb.size,(zd _ _ _ _ _).alloc _,(g.alloc _).alloc _,bS (bS gb (bN _ _)) (bN _ _)⟩,
  ⟨_,ng',a',n',c',p',m',k',lo',hi',rfl,Nat.le_succ_of_le gb.size,zad _ _ _ _ _ _,(g'.alloc _).alloc _,bS (bS gb (bN _ _)) (bN _ _)⟩⟩

end

theorem zf {P:Program} {F:FuncId} {args:Array Value} {w:World} {Q:Ending->World->Prop} (U:World) (hb:Below U.heap.size U w)
  (h:∀ V,V=w->Below U.heap.size U V->Calls P F args V Q):Calls P F args w Q:=h w rfl hb

theorem zjD {fn:Func} {k:Tmp} (h:fn.results=#[.cell k 112]) (tmps:Array Value) (w:World) (b:Nat) (x y z:Value) (hk:tmps.getD k undef=.pointer (some ⟨b,0,none⟩))
  (t:Tri w b x y z):(results fn tmps).run Try.prog w=.ok (.agg #[x,y,z]) w:=by
 have hl:(loadVar 112 ⟨b,0,none⟩).run Try.prog w=.ok (.agg #[x,y,z]) w:=by
  simp [go_sem,t.1,t.2.1,t.2.2.1]
 have hk':tmps[k]?.getD undef=.pointer (some ⟨b,0,none⟩):=by simpa using hk
 simp [results,h,asAddr,Sem.run_bind,hl,Result.andThen,hk']

end Go.Proofs.Ytkjcdnlpjldhaaa

