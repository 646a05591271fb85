/-
  The texts PackInstr, merged.
-/
import Derived.Test.YtkjcdnlpjldhaaaGreatK21
import Derived.Test.YtkjcdnlpjldhaaaGreatK22
set_option linter.unusedVariables false
set_option linter.unusedSimpArgs false
set_option maxRecDepth 100000
set_option maxHeartbeats 400000000
namespace Go.Proofs.YtkjcdnlpjldhaaaGreat
open Go.RowKit Tw
attribute [local go_sem ↓] Go.wp_at_zero Go.wp_at_succ

theorem rdC_lt:∀ (k:Nat) (b:Bool) (l:List Nat) (y:Nat × List Nat),rdC k b l=some y->y.1<128 ^ k
 | 0,_,_,_,h => by cases h
 | k+1,b,[],_,h => by cases h
 | k+1,b,x :: t,y,h => by
  unfold rdC at h
  by_cases h1:x<128
  ·rw [if_pos h1] at h
   by_cases h2:x=0/\b=false
   ·rw [if_pos h2] at h;cases h
   ·rw [if_neg h2] at h
    injection h with h
    rw [<- h]
    have:128 ^ 1<=128 ^ (k+1):=Nat.pow_le_pow_right (by decide) (by omega)
    simp only at this ⊢
    omega
  ·rw [if_neg h1] at h
   cases h3:rdC k false t with
   | none => rw [h3] at h;cases h
   | some z =>
    rw [h3] at h
    injection h with h
    have:=rdC_lt k false t z h3
    rw [<- h,Nat.pow_succ]
    simp only
    omega

theorem zao {l:List Nat} {y:Nat × List Nat} (h:zc l=some y):y.2.length<l.length/\y.1<268435456:=⟨zbT _ _ _ _ h,rdC_lt 4 true l y h⟩

def encX (base:Nat) (x:Ins) (w:World) (v:Value):Prop :=
 ∃ a n c a' n' c',v=.agg #[.int .i64 x.op,.int .i64 x.to,.int .i64 x.a,.int .i64 x.b,.bool x.q.ng,.slice a n c,.slice a' n' c']/\Own base w (.slice a n c) x.q.n/\Own base w (.slice a' n' c') x.q.d/\zbV x

def X7 (w:World) (B:Nat) (v0 v1 v2 v3 v4 v5 v6:Value):Prop:=B<w.heap.size/\w.cell? ⟨B,0,none⟩=some v0/\w.cell? ⟨B,1,none⟩=some v1/\w.cell? ⟨B,2,none⟩=some v2/\w.cell? ⟨B,3,none⟩=some v3/\w.cell? ⟨B,4,none⟩=some v4/\w.cell? ⟨B,5,none⟩=some v5/\w.cell? ⟨B,6,none⟩=some v6/\w.frozen? ⟨B,0,none⟩=false/\w.frozen? ⟨B,1,none⟩=false/\w.frozen? ⟨B,2,none⟩=false/\w.frozen? ⟨B,3,none⟩=false/\w.frozen? ⟨B,4,none⟩=false/\w.frozen? ⟨B,5,none⟩=false/\w.frozen? ⟨B,6,none⟩=false

theorem X7.to {w w':World} {B:Nat} {v0 v1 v2 v3 v4 v5 v6:Value} (h:X7 w B v0 v1 v2 v3 v4 v5 v6) (hb:Below w.heap.size w w'):X7 w' B v0 v1 v2 v3 v4 v5 v6:=by
 obtain ⟨z,c0,c1,c2,c3,c4,c5,c6,f0,f1,f2,f3,f4,f5,f6⟩:=h
 exact ⟨Nat.lt_of_lt_of_le z hb.size,(hb.cell (p:=⟨B,0,none⟩) z).trans c0,(hb.cell (p:=⟨B,1,none⟩) z).trans c1,(hb.cell (p:=⟨B,2,none⟩) z).trans c2,(hb.cell (p:=⟨B,3,none⟩) z).trans c3,(hb.cell (p:=⟨B,4,none⟩) z).trans c4,(hb.cell (p:=⟨B,5,none⟩) z).trans c5,(hb.cell (p:=⟨B,6,none⟩) z).trans c6,(hb.frozen (p:=⟨B,0,none⟩) z).trans f0,(hb.frozen (p:=⟨B,1,none⟩) z).trans f1,(hb.frozen (p:=⟨B,2,none⟩) z).trans f2,(hb.frozen (p:=⟨B,3,none⟩) z).trans f3,(hb.frozen (p:=⟨B,4,none⟩) z).trans f4,(hb.frozen (p:=⟨B,5,none⟩) z).trans f5,(hb.frozen (p:=⟨B,6,none⟩) z).trans f6⟩

theorem X7.grown {w w':World} {B:Nat} {row:Option Nat} {v0 v1 v2 v3 v4 v5 v6:Value} (h:X7 w B v0 v1 v2 v3 v4 v5 v6) (hg:w.grownBy w' row) (hne:row≠some B):X7 w' B v0 v1 v2 v3 v4 v5 v6:=by
 obtain ⟨z,c0,c1,c2,c3,c4,c5,c6,f0,f1,f2,f3,f4,f5,f6⟩:=h
 have hn:∀ o,some (⟨B,o,none⟩:Addr).block≠row:=fun o e => hne e.symm
 exact ⟨Nat.lt_of_lt_of_le z hg.size,hg.cell c0 (hn _),hg.cell c1 (hn _),hg.cell c2 (hn _),hg.cell c3 (hn _),hg.cell c4 (hn _),hg.cell c5 (hn _),hg.cell c6 (hn _),(zo hg z hne).trans f0,(zo hg z hne).trans f1,(zo hg z hne).trans f2,(zo hg z hne).trans f3,(zo hg z hne).trans f4,(zo hg z hne).trans f5,(zo hg z hne).trans f6⟩

theorem X7.other {w:World} {B B' o:Nat} {x:Value} {v0 v1 v2 v3 v4 v5 v6:Value} (h:X7 w B v0 v1 v2 v3 v4 v5 v6) (hne:B≠B'):X7 (w.setCell ⟨B',o,none⟩ x) B v0 v1 v2 v3 v4 v5 v6:=by
 obtain ⟨z,c0,c1,c2,c3,c4,c5,c6,f0,f1,f2,f3,f4,f5,f6⟩:=h
 refine ⟨by simp [go_sem];exact z,cP c0 (.inl hne) _,cP c1 (.inl hne) _,cP c2 (.inl hne) _,cP c3 (.inl hne) _,cP c4 (.inl hne) _,cP c5 (.inl hne) _,cP c6 (.inl hne) _,?_,?_,?_,?_,?_,?_,?_⟩ <;> simp [go_sem,f0,f1,f2,f3,f4,f5,f6]

theorem X7.put0 {w:World} {B:Nat} {v0 v1 v2 v3 v4 v5 v6:Value} (h:X7 w B v0 v1 v2 v3 v4 v5 v6) (x:Value):X7 (w.setCell ⟨B,0,none⟩ x) B x v1 v2 v3 v4 v5 v6:=by
 obtain ⟨z,c0,c1,c2,c3,c4,c5,c6,f0,f1,f2,f3,f4,f5,f6⟩:=h
 refine ⟨by simp [go_sem];exact z,zh c0 _,cP c1 (.inr (by decide)) _,cP c2 (.inr (by decide)) _,cP c3 (.inr (by decide)) _,cP c4 (.inr (by decide)) _,cP c5 (.inr (by decide)) _,cP c6 (.inr (by decide)) _,?_,?_,?_,?_,?_,?_,?_⟩ <;> simp [go_sem,f0,f1,f2,f3,f4,f5,f6]

theorem X7.put1 {w:World} {B:Nat} {v0 v1 v2 v3 v4 v5 v6:Value} (h:X7 w B v0 v1 v2 v3 v4 v5 v6) (x:Value):X7 (w.setCell ⟨B,1,none⟩ x) B v0 x v2 v3 v4 v5 v6:=by
 obtain ⟨z,c0,c1,c2,c3,c4,c5,c6,f0,f1,f2,f3,f4,f5,f6⟩:=h
 refine ⟨by simp [go_sem];exact z,cP c0 (.inr (by decide)) _,zh c1 _,cP c2 (.inr (by decide)) _,cP c3 (.inr (by decide)) _,cP c4 (.inr (by decide)) _,cP c5 (.inr (by decide)) _,cP c6 (.inr (by decide)) _,?_,?_,?_,?_,?_,?_,?_⟩ <;> simp [go_sem,f0,f1,f2,f3,f4,f5,f6]

theorem X7.put2 {w:World} {B:Nat} {v0 v1 v2 v3 v4 v5 v6:Value} (h:X7 w B v0 v1 v2 v3 v4 v5 v6) (x:Value):X7 (w.setCell ⟨B,2,none⟩ x) B v0 v1 x v3 v4 v5 v6:=by
 obtain ⟨z,c0,c1,c2,c3,c4,c5,c6,f0,f1,f2,f3,f4,f5,f6⟩:=h
 refine ⟨by simp [go_sem];exact z,cP c0 (.inr (by decide)) _,cP c1 (.inr (by decide)) _,zh c2 _,cP c3 (.inr (by decide)) _,cP c4 (.inr (by decide)) _,cP c5 (.inr (by decide)) _,cP c6 (.inr (by decide)) _,?_,?_,?_,?_,?_,?_,?_⟩ <;> simp [go_sem,f0,f1,f2,f3,f4,f5,f6]

theorem X7.put3 {w:World} {B:Nat} {v0 v1 v2 v3 v4 v5 v6:Value} (h:X7 w B v0 v1 v2 v3 v4 v5 v6) (x:Value):X7 (w.setCell ⟨B,3,none⟩ x) B v0 v1 v2 x v4 v5 v6:=by
 obtain ⟨z,c0,c1,c2,c3,c4,c5,c6,f0,f1,f2,f3,f4,f5,f6⟩:=h
 refine ⟨by simp [go_sem];exact z,cP c0 (.inr (by decide)) _,cP c1 (.inr (by decide)) _,cP c2 (.inr (by decide)) _,zh c3 _,cP c4 (.inr (by decide)) _,cP c5 (.inr (by decide)) _,cP c6 (.inr (by decide)) _,?_,?_,?_,?_,?_,?_,?_⟩ <;> simp [go_sem,f0,f1,f2,f3,f4,f5,f6]

theorem X7.put4 {w:World} {B:Nat} {v0 v1 v2 v3 v4 v5 v6:Value} (h:X7 w B v0 v1 v2 v3 v4 v5 v6) (x:Value):X7 (w.setCell ⟨B,4,none⟩ x) B v0 v1 v2 v3 x v5 v6:=by
 obtain ⟨z,c0,c1,c2,c3,c4,c5,c6,f0,f1,f2,f3,f4,f5,f6⟩:=h
 refine ⟨by simp [go_sem];exact z,cP c0 (.inr (by decide)) _,cP c1 (.inr (by decide)) _,cP c2 (.inr (by decide)) _,cP c3 (.inr (by decide)) _,zh c4 _,cP c5 (.inr (by decide)) _,cP c6 (.inr (by decide)) _,?_,?_,?_,?_,?_,?_,?_⟩ <;> simp [go_sem,f0,f1,f2,f3,f4,f5,f6]

theorem X7.put5 {w:World} {B:Nat} {v0 v1 v2 v3 v4 v5 v6:Value} (h:X7 w B v0 v1 v2 v3 v4 v5 v6) (x:Value):X7 (w.setCell ⟨B,5,none⟩ x) B v0 v1 v2 v3 v4 x v6:=by
 obtain ⟨z,c0,c1,c2,c3,c4,c5,c6,f0,f1,f2,f3,f4,f5,f6⟩:=h
 refine ⟨by simp [go_sem];exact z,cP c0 (.inr (by decide)) _,cP c1 (.inr (by decide)) _,cP c2 (.inr (by decide)) _,cP c3 (.inr (by decide)) _,cP c4 (.inr (by decide)) _,zh c5 _,cP c6 (.inr (by decide)) _,?_,?_,?_,?_,?_,?_,?_⟩ <;> simp [go_sem,f0,f1,f2,f3,f4,f5,f6]

theorem X7.put6 {w:World} {B:Nat} {v0 v1 v2 v3 v4 v5 v6:Value} (h:X7 w B v0 v1 v2 v3 v4 v5 v6) (x:Value):X7 (w.setCell ⟨B,6,none⟩ x) B v0 v1 v2 v3 v4 v5 x:=by
 obtain ⟨z,c0,c1,c2,c3,c4,c5,c6,f0,f1,f2,f3,f4,f5,f6⟩:=h
 refine ⟨by simp [go_sem];exact z,cP c0 (.inr (by decide)) _,cP c1 (.inr (by decide)) _,cP c2 (.inr (by decide)) _,cP c3 (.inr (by decide)) _,cP c4 (.inr (by decide)) _,cP c5 (.inr (by decide)) _,zh c6 _,?_,?_,?_,?_,?_,?_,?_⟩ <;> simp [go_sem,f0,f1,f2,f3,f4,f5,f6]

theorem zdP {fn:Func} {k:Tmp} (h:fn.results=#[.cell k 49]) (tmps:Array Value) (w:World) (b:Nat) {v0 v1 v2 v3 v4 v5 v6:Value} (hk:tmps.getD k undef=.pointer (some ⟨b,0,none⟩)) (t:X7 w b v0 v1 v2 v3 v4 v5 v6) :
  (results fn tmps).run Tryz.prog w=.ok (.agg #[v0,v1,v2,v3,v4,v5,v6]) w:=by
 obtain ⟨z,c0,c1,c2,c3,c4,c5,c6,f0,f1,f2,f3,f4,f5,f6⟩:=t
 have hl:(loadVar 49 ⟨b,0,none⟩).run Tryz.prog w=.ok (.agg #[v0,v1,v2,v3,v4,v5,v6]) w:=by simp [go_sem,c0,c1,c2,c3,c4,c5,c6]
 have hk':tmps[k]?.getD undef=.pointer (some ⟨b,0,none⟩):=by simpa using hk
 simp [results,h,asAddr,Sem.run_bind,hl,Result.andThen,hk']

theorem below7 (w:World) (B n:Nat) (u0 u1 u2 u3 u4 u5 u6:Value) (h:n<=B):Below n w (((((((w.setCell ⟨B,0,none⟩ u0).setCell ⟨B,1,none⟩ u1).setCell ⟨B,2,none⟩ u2).setCell ⟨B,3,none⟩ u3).setCell ⟨B,4,none⟩ u4).setCell ⟨B,5,none⟩ u5).setCell ⟨B,6,none⟩ u6) :=
 ((((((((Below.refl _ _).setCell h _).setCell h _).setCell h _).setCell h _).setCell h _).setCell h _).setCell h _)

theorem zdu (N R:Nat) (l:List Nat) (w:World) (h:RB N R w l) (hl:l.length<=4000) :
  Calls Tryz.prog 81 #[.pointer (some ⟨R,0,none⟩)] w (Reads N R w (encX w.heap.size) (rdI l)):=by
 have hlt:=h.lt
 have H:=Lib.hid h
 have Hl:=Lib.hid hl
 clear h hl
 go_enter Tryz.func81,Tryz.ntmps81
 go_wp2_with fail
 obtain ⟨W0,an⟩:∃ W0,w.alloc (.cells #[.int .i64 0,.int .i64 0,.int .i64 0,.int .i64 0,.bool false,.slice none 0 0,.slice none 0 0] 49)=W0:=⟨_,rfl⟩
 have dE:Below w.heap.size w W0:=by rw [<- an];exact bN _ _
 have HX0:Hid (X7 W0 w.heap.size (.int .i64 0) (.int .i64 0) (.int .i64 0) (.int .i64 0) (.bool false) (.slice none 0 0) (.slice none 0 0)):=by
  show X7 _ _ _ _ _ _ _ _ _
  rw [<- an]
  unfold X7
  and_intros <;> first|(simp [go_sem];done)|(simp [go_sem];omega)
 rw [an]
 clear an
 have hRw0:=H.out.to dE
 have hgW:=zW dE (some R)
 have hgw0:=World.grownBy.refl W0 (some R)
 have hRB:(some R:Option Nat)≠some w.heap.size:=fun e => by injection e with e;omega
 refine (zac N R l _ hRw0).mono ?_
 rintro e w0 ⟨hg0,h0⟩
 cases hc0:zc l with
 | none =>
  rw [hc0] at h0
  obtain rfl:=h0
  refine ⟨rfl,hgW.trans (hgw0.trans hg0),?_⟩
  rw [show rdI l=none by unfold rdI;rw [hc0];rfl]
 | some y0 =>
  rw [hc0] at h0
  obtain ⟨⟨v0,rfl,rfl⟩,hR0⟩:=h0
  have hln0:=zao hc0
  obtain ⟨op,l0⟩:=y0
  simp only at hR0 hln0
  have hgt0:=hgw0.trans hg0
  clear hRw0 hg0
  go_wp2_with fail
  refine (zac N R l0 _ hR0).mono ?_
  rintro e w1 ⟨hg1,h1⟩
  cases hc1:zc l0 with
  | none =>
   rw [hc1] at h1
   obtain rfl:=h1
   refine ⟨rfl,hgW.trans (hgt0.trans hg1),?_⟩
   rw [show rdI l=none by unfold rdI;rw [hc0];simp only [Option.bind_some];rw [hc1];rfl]
  | some y1 =>
   rw [hc1] at h1
   obtain ⟨⟨v1,rfl,rfl⟩,hR1⟩:=h1
   have hln1:=zao hc1
   obtain ⟨to_,l1⟩:=y1
   simp only at hR1 hln1
   have hgt1:=hgt0.trans hg1
   clear hR0 hg1
   go_wp2_with fail
   refine (zac N R l1 _ hR1).mono ?_
   rintro e w2 ⟨hg2,h2⟩
   cases hc2:zc l1 with
   | none =>
    rw [hc2] at h2
    obtain rfl:=h2
    refine ⟨rfl,hgW.trans (hgt1.trans hg2),?_⟩
    rw [show rdI l=none by unfold rdI;rw [hc0];simp only [Option.bind_some];rw [hc1];simp only [Option.bind_some];rw [hc2];rfl]
   | some y2 =>
    rw [hc2] at h2
    obtain ⟨⟨v2,rfl,rfl⟩,hR2⟩:=h2
    have hln2:=zao hc2
    obtain ⟨xa,l2⟩:=y2
    simp only at hR2 hln2
    have hgt2:=hgt1.trans hg2
    clear hR1 hg2
    go_wp2_with fail
    refine (zac N R l2 _ hR2).mono ?_
    rintro e w3 ⟨hg3,h3⟩
    cases hc3:zc l2 with
    | none =>
     rw [hc3] at h3
     obtain rfl:=h3
     refine ⟨rfl,hgW.trans (hgt2.trans hg3),?_⟩
     rw [show rdI l=none by unfold rdI;rw [hc0];simp only [Option.bind_some];rw [hc1];simp only [Option.bind_some];rw [hc2];simp only [Option.bind_some];rw [hc3];rfl]
    | some y3 =>
     rw [hc3] at h3
     obtain ⟨⟨v3,rfl,rfl⟩,hR3⟩:=h3
     have hln3:=zao hc3
     obtain ⟨xb,l3⟩:=y3
     simp only at hR3 hln3
     have hgt3:=hgt2.trans hg3
     clear hR2 hg3
     have HI:=Lib.hid (show rdI l=if op=1 then (rdQ l3).map fun q => (⟨op,to_,xa,xb,q.1⟩,q.2) else some (⟨op,to_,xa,if op=7 then (xb:Int) - 64 else xb,⟨false,[],[]⟩⟩,l3) by
      unfold rdI
      rw [hc0];simp only [Option.bind_some]
      rw [hc1];simp only [Option.bind_some]
      rw [hc2];simp only [Option.bind_some]
      rw [hc3];rfl)
     have hl3:l3.length<=4000:=by have:=Hl.out;omega
     have hop:op<268435456:=hln0.2
     have hto:to_<268435456:=hln1.2
     have hxa:xa<268435456:=hln2.2
     have hxb:xb<268435456:=hln3.2
     clear hc0 hc1 hc2 hc3 hln0 hln1 hln2 hln3 hgw0
     have hgs:=hgt3.size
     have hz0:=HX0.out.1
     by_cases h7o:op=7
     ·have h1o:¬ op=1:=by omega
      have v7:((op:Int) == 7)=true:=by simp;omega
      have v1:((op:Int) == 1)=false:=by simp;omega
      have hw:IntKind.i64.wrap ((xb:Int) - 64)=(xb:Int) - 64:=IntWalk.i64_in _ (by omega)
      have HS:=Lib.hid (show rdI l=some (⟨op,to_,xa,((xb:Int) - 64),⟨false,[],[]⟩⟩,l3) by rw [HI.out,if_neg h1o];first|rw [if_pos h7o]|rw [if_neg h7o])
      clear h7o h1o
      have hx0:=HX0.out.grown hgt3 hRB
      obtain ⟨z0,a0,a1,a2,a3,a4,a5,a6,f0,f1,f2,f3,f4,f5,f6⟩:=id hx0
      have hnb:¬ (w.heap.size=w3.heap.size):=by omega
      go_wp2_with fail
      refine bodyPost_ret (zdP rfl _ _ _ rfl ((((((((hx0.put0 _).put1 _).put2 _).put3 _).put4 _).put5 _).put6 _).to (bN _ _))) rfl ?_
      have hB:=((below7 w3 w.heap.size w.heap.size (.int .i64 op) (.int .i64 to_) (.int .i64 xa) (.int .i64 ((xb:Int) - 64)) (.bool false) (.slice none 0 0) (.slice none 0 0) (Nat.le_refl _)).alloc (by simp;omega) (.cells #[.int .i64 (op:Int),.int .i64 (to_:Int),.int .i64 (xa:Int),.int .i64 ((xb:Int) - 64),.bool false,.slice none 0 0,.slice none 0 0] 49))
      refine ⟨zr (hgW.trans hgt3) hB,?_⟩
      rw [HS.out]
      exact ⟨⟨_,rfl,none,0,0,none,0,0,rfl,Own.nil _ _,Own.nil _ _,⟨⟨by show (-9223372036854775808:Int)<=(op:Int);omega,by show (op:Int)<_;omega⟩,⟨by show (-9223372036854775808:Int)<=(to_:Int);omega,by show (to_:Int)<_;omega⟩,⟨by show (-9223372036854775808:Int)<=(xa:Int);omega,by show (xa:Int)<_;omega⟩,⟨by show (-9223372036854775808:Int)<=((xb:Int) - 64);omega,by show ((xb:Int) - 64)<_;omega⟩⟩⟩,hR3.toN (hB.mono hlt.2.1)⟩
     ·by_cases h1o:op=1
      ·have v7:((op:Int) == 7)=false:=by simp;omega
       have v1:((op:Int) == 1)=true:=by simp;omega
       have HS:=Lib.hid (show rdI l=(rdQ l3).map fun q => (⟨op,to_,xa,xb,q.1⟩,q.2) by rw [HI.out,if_pos h1o])
       clear h7o h1o
       go_wp2_with fail
       obtain ⟨W4,eX⟩:∃ W4,w3.alloc (.cells #[.int .i64 (op:Int),.int .i64 (to_:Int),.int .i64 (xa:Int),.int .i64 (xb:Int),.bool false,.slice none 0 0,.slice none 0 0] 49)=W4:=⟨_,rfl⟩
       have dd:Below w3.heap.size w3 W4:=by rw [<- eX];exact bN _ _
       have hX1:X7 W4 w3.heap.size (.int .i64 (op:Int)) (.int .i64 (to_:Int)) (.int .i64 (xa:Int)) (.int .i64 (xb:Int)) (.bool false) (.slice none 0 0) (.slice none 0 0):=by
        rw [<- eX]
        unfold X7
        and_intros <;> first|(simp [go_sem];done)|(simp [go_sem];omega)
       rw [eX]
       clear eX
       have hR4:=hR3.to dd
       have hx0:=(HX0.out.grown hgt3 hRB).to dd
       have hg4:=hgW.trans (hgt3.trans (zW dd (some R)))
       have hRB3:(some R:Option Nat)≠some w3.heap.size:=fun e => by injection e with e;omega
       have HI4:=Lib.hid (show zbV ⟨op,to_,xa,xb,⟨false,[],[]⟩⟩ from ⟨⟨by show (-9223372036854775808:Int)<=(op:Int);omega,by show (op:Int)<_;omega⟩,⟨by show (-9223372036854775808:Int)<=(to_:Int);omega,by show (to_:Int)<_;omega⟩,⟨by show (-9223372036854775808:Int)<=(xa:Int);omega,by show (xa:Int)<_;omega⟩,⟨by show (-9223372036854775808:Int)<=(xb:Int);omega,by show (xb:Int)<_;omega⟩⟩)
       refine (zac N R l3 _ hR4).mono ?_
       rintro e w5 ⟨hg5,h5⟩
       cases hc5:zc l3 with
       | none =>
        rw [hc5] at h5
        obtain rfl:=h5
        refine ⟨rfl,hg4.trans hg5,?_⟩
        rw [HS.out,show rdQ l3=none by unfold rdQ;rw [hc5];rfl]
        rfl
       | some y5 =>
        rw [hc5] at h5
        obtain ⟨⟨v5,rfl,rfl⟩,hR5⟩:=h5
        have hln5:=zao hc5
        obtain ⟨g,l5⟩:=y5
        simp only at hR5 hln5
        have hl5:l5.length<=4000:=by omega
        have hgt5:=hg4.trans hg5
        have hx0:=hx0.grown hg5 hRB
        have hX1:=hX1.grown hg5 hRB3
        have HQ:=Lib.hid (show rdQ l3=if 1<g then none else (rdN l5).bind fun n => (rdN n.2).map fun d => (⟨decide (g=1),n.1,d.1⟩,d.2) by unfold rdQ;rw [hc5];rfl)
        clear hc5
        by_cases hg1:1<g
        ·have hgd:decide ((1:Int)<(g:Int))=true:=decide_eq_true (by omega)
         have HN:=Lib.hid (show rdI l=none by rw [HS.out,HQ.out,if_pos hg1];rfl)
         go_wp2_with fail
         refine (zad _).mono ?_
         rintro e w6 ⟨rfl,dF⟩
         refine ⟨rfl,hgt5.trans (zW dF _),?_⟩
         rw [HN.out]
        ·have hgd:decide ((1:Int)<(g:Int))=false:=decide_eq_false (by omega)
         have HQ2:=Lib.hid (show rdQ l3=(rdN l5).bind fun n => (rdN n.2).map fun d => (⟨decide (g=1),n.1,d.1⟩,d.2) by rw [HQ.out,if_neg hg1])
         go_wp2_with fail
         refine (zaC _).mono ?_
         rintro e w6 ⟨rfl,dF⟩
         have hR6:=hR5.to dF
         have hgt6:=hgt5.trans (zW dF (some R))
         have hx0:=hx0.to dF
         have hX1:=hX1.to dF
         have hX1z:=hX1.1
         have hg01:g=0\/g=1:=by omega
         clear HQ
         rcases hg01 with rfl|rfl
         ·go_wp2_with fail
          refine (zdN N R l5 _ hR6 hl5).mono ?_
          rintro e w7 ⟨hg7,h7⟩
          cases hc7:rdN l5 with
          | none =>
           rw [hc7] at h7
           obtain rfl:=h7
           refine ⟨rfl,hgt6.trans hg7,?_⟩
           rw [HS.out,HQ2.out,hc7]
           rfl
          | some y7 =>
           rw [hc7] at h7
           obtain ⟨⟨v7,rfl,hO7⟩,hR7⟩:=h7
           have hln7:=zgq hc7
           obtain ⟨ns,l7⟩:=y7
           simp only at hR7 hln7 hO7
           have hl7:l7.length<=4000:=by omega
           have hO7:Own w6.heap.size w7 v7 ns:=hO7
           obtain ⟨a7,n7,c7,rfl,H7,_⟩:=hO7.rd.open
           have hgt7:=hgt6.trans hg7
           have hx0:=hx0.grown hg7 hRB
           have hX1:=hX1.grown hg7 hRB3
           go_wp2_with fail
           refine (zdN N R l7 _ hR7 hl7).mono ?_
           rintro e w8 ⟨hg8,h8⟩
           cases hc8:rdN l7 with
           | none =>
            rw [hc8] at h8
            obtain rfl:=h8
            refine ⟨rfl,hgt7.trans hg8,?_⟩
            rw [show rdI l=none by rw [HS.out,HQ2.out,hc7];simp only [Option.bind_some];rw [hc8];rfl]
           | some y8 =>
            rw [hc8] at h8
            obtain ⟨⟨v8,rfl,hO8⟩,hR8⟩:=h8
            obtain ⟨ds,l8⟩:=y8
            simp only at hR8 hO8
            have hO8:Own w7.heap.size w8 v8 ds:=hO8
            obtain ⟨a8,n8,c8,rfl,H8,_⟩:=hO8.rd.open
            have hgt8:=hgt7.trans hg8
            have hx0:=hx0.grown hg8 hRB
            have hX1:=hX1.grown hg8 hRB3
            have hO7:=hO7.grown hg8 (fun k e => by injection e with e;have h1:=hgt6.size;omega)
            have hz6:=hX1z
            have hz7:w3.heap.size<w7.heap.size:=by have:=hg7.size;omega
            have iE:=hgt6.size
            obtain ⟨z0,p0,p1,p2,p3,p4,p5,p6,f0,f1,f2,f3,f4,f5,f6⟩:=id hx0
            obtain ⟨z1,q0,q1,q2,q3,q4,q5,q6,k0,k1,k2,k3,k4,k5,k6⟩:=id hX1
            have hnb:¬ (w.heap.size=w3.heap.size):=by omega
            have hnb2:¬ (w3.heap.size=w.heap.size):=by omega
            go_wp2_with fail
            have hp3:∀ o,w.heap.size<=(⟨w3.heap.size,o,none⟩:Addr).block:=fun o => by show _<=w3.heap.size;omega
            have hp0:∀ o,w.heap.size<=(⟨w.heap.size,o,none⟩:Addr).block:=fun o => Nat.le_refl _
            have hBF:∀ u0 u1 u2 t0 t1 t2 t3 t4 t5 t6,Below w.heap.size w8 ((((((((((w8.setCell ⟨w3.heap.size,4,none⟩ u0).setCell ⟨w3.heap.size,5,none⟩ u1).setCell ⟨w3.heap.size,6,none⟩ u2).setCell ⟨w.heap.size,0,none⟩ t0).setCell ⟨w.heap.size,1,none⟩ t1).setCell ⟨w.heap.size,2,none⟩ t2).setCell ⟨w.heap.size,3,none⟩ t3).setCell ⟨w.heap.size,4,none⟩ t4).setCell ⟨w.heap.size,5,none⟩ t5).setCell ⟨w.heap.size,6,none⟩ t6):=fun u0 u1 u2 t0 t1 t2 t3 t4 t5 t6 =>
             ((((((((((Below.refl _ _).setCell (hp3 4) _).setCell (hp3 5) _).setCell (hp3 6) _).setCell (hp0 0) _).setCell (hp0 1) _).setCell (hp0 2) _).setCell (hp0 3) _).setCell (hp0 4) _).setCell (hp0 5) _).setCell (hp0 6) _
            refine bodyPost_ret (zdP rfl _ _ _ rfl ((((((((((hx0.other hnb).other hnb).other hnb).put0 _).put1 _).put2 _).put3 _).put4 _).put5 _).put6 _)) rfl ?_
            have HF:rdI l=some (⟨op,to_,xa,xb,⟨false,ns,ds⟩⟩,l8):=by
             rw [HS.out,HQ2.out,hc7]
             simp only [Option.bind_some]
             rw [hc8]
             rfl
            refine ⟨zr hgt8 (hBF _ _ _ _ _ _ _ _ _ _),?_⟩
            rw [HF]
            refine ⟨⟨_,rfl,a7,n7,c7,a8,n8,c8,rfl,?_,?_,HI4.out⟩,hR8.toN ((hBF _ _ _ _ _ _ _ _ _ _).mono hlt.2.1)⟩
            ·refine Own.mono (base:=w6.heap.size) ?_ (by omega)
             iterate 10 (refine Own.setOther ?_ (by first|(show w3.heap.size<_;omega)|(show w.heap.size<_;omega)) _)
             exact hO7
            ·refine Own.mono (base:=w7.heap.size) ?_ (by omega)
             iterate 10 (refine Own.setOther ?_ (by first|(show w3.heap.size<_;omega)|(show w.heap.size<_;omega)) _)
             exact hO8
         ·go_wp2_with fail
          refine (zdN N R l5 _ hR6 hl5).mono ?_
          rintro e w7 ⟨hg7,h7⟩
          cases hc7:rdN l5 with
          | none =>
           rw [hc7] at h7
           obtain rfl:=h7
           refine ⟨rfl,hgt6.trans hg7,?_⟩
           rw [HS.out,HQ2.out,hc7]
           rfl
          | some y7 =>
           rw [hc7] at h7
           obtain ⟨⟨v7,rfl,hO7⟩,hR7⟩:=h7
           have hln7:=zgq hc7
           obtain ⟨ns,l7⟩:=y7
           simp only at hR7 hln7 hO7
           have hl7:l7.length<=4000:=by omega
           have hO7:Own w6.heap.size w7 v7 ns:=hO7
           obtain ⟨a7,n7,c7,rfl,H7,_⟩:=hO7.rd.open
           have hgt7:=hgt6.trans hg7
           have hx0:=hx0.grown hg7 hRB
           have hX1:=hX1.grown hg7 hRB3
           go_wp2_with fail
           refine (zdN N R l7 _ hR7 hl7).mono ?_
           rintro e w8 ⟨hg8,h8⟩
           cases hc8:rdN l7 with
           | none =>
            rw [hc8] at h8
            obtain rfl:=h8
            refine ⟨rfl,hgt7.trans hg8,?_⟩
            rw [show rdI l=none by rw [HS.out,HQ2.out,hc7];simp only [Option.bind_some];rw [hc8];rfl]
           | some y8 =>
            rw [hc8] at h8
            obtain ⟨⟨v8,rfl,hO8⟩,hR8⟩:=h8
            obtain ⟨ds,l8⟩:=y8
            simp only at hR8 hO8
            have hO8:Own w7.heap.size w8 v8 ds:=hO8
            obtain ⟨a8,n8,c8,rfl,H8,_⟩:=hO8.rd.open
            have hgt8:=hgt7.trans hg8
            have hx0:=hx0.grown hg8 hRB
            have hX1:=hX1.grown hg8 hRB3
            have hO7:=hO7.grown hg8 (fun k e => by injection e with e;have h1:=hgt6.size;omega)
            have hz6:=hX1z
            have hz7:w3.heap.size<w7.heap.size:=by have:=hg7.size;omega
            have iE:=hgt6.size
            obtain ⟨z0,p0,p1,p2,p3,p4,p5,p6,f0,f1,f2,f3,f4,f5,f6⟩:=id hx0
            obtain ⟨z1,q0,q1,q2,q3,q4,q5,q6,k0,k1,k2,k3,k4,k5,k6⟩:=id hX1
            have hnb:¬ (w.heap.size=w3.heap.size):=by omega
            have hnb2:¬ (w3.heap.size=w.heap.size):=by omega
            go_wp2_with fail
            have hp3:∀ o,w.heap.size<=(⟨w3.heap.size,o,none⟩:Addr).block:=fun o => by show _<=w3.heap.size;omega
            have hp0:∀ o,w.heap.size<=(⟨w.heap.size,o,none⟩:Addr).block:=fun o => Nat.le_refl _
            have hBF:∀ u0 u1 u2 t0 t1 t2 t3 t4 t5 t6,Below w.heap.size w8 ((((((((((w8.setCell ⟨w3.heap.size,4,none⟩ u0).setCell ⟨w3.heap.size,5,none⟩ u1).setCell ⟨w3.heap.size,6,none⟩ u2).setCell ⟨w.heap.size,0,none⟩ t0).setCell ⟨w.heap.size,1,none⟩ t1).setCell ⟨w.heap.size,2,none⟩ t2).setCell ⟨w.heap.size,3,none⟩ t3).setCell ⟨w.heap.size,4,none⟩ t4).setCell ⟨w.heap.size,5,none⟩ t5).setCell ⟨w.heap.size,6,none⟩ t6):=fun u0 u1 u2 t0 t1 t2 t3 t4 t5 t6 =>
             ((((((((((Below.refl _ _).setCell (hp3 4) _).setCell (hp3 5) _).setCell (hp3 6) _).setCell (hp0 0) _).setCell (hp0 1) _).setCell (hp0 2) _).setCell (hp0 3) _).setCell (hp0 4) _).setCell (hp0 5) _).setCell (hp0 6) _
            refine bodyPost_ret (zdP rfl _ _ _ rfl ((((((((((hx0.other hnb).other hnb).other hnb).put0 _).put1 _).put2 _).put3 _).put4 _).put5 _).put6 _)) rfl ?_
            have HF:rdI l=some (⟨op,to_,xa,xb,⟨true,ns,ds⟩⟩,l8):=by
             rw [HS.out,HQ2.out,hc7]
             simp only [Option.bind_some]
             rw [hc8]
             rfl
            refine ⟨zr hgt8 (hBF _ _ _ _ _ _ _ _ _ _),?_⟩
            rw [HF]
            refine ⟨⟨_,rfl,a7,n7,c7,a8,n8,c8,rfl,?_,?_,HI4.out⟩,hR8.toN ((hBF _ _ _ _ _ _ _ _ _ _).mono hlt.2.1)⟩
            ·refine Own.mono (base:=w6.heap.size) ?_ (by omega)
             iterate 10 (refine Own.setOther ?_ (by first|(show w3.heap.size<_;omega)|(show w.heap.size<_;omega)) _)
             exact hO7
            ·refine Own.mono (base:=w7.heap.size) ?_ (by omega)
             iterate 10 (refine Own.setOther ?_ (by first|(show w3.heap.size<_;omega)|(show w.heap.size<_;omega)) _)
             exact hO8
      ·have v7:((op:Int) == 7)=false:=by simp;omega
       have v1:((op:Int) == 1)=false:=by simp;omega
       have HS:=Lib.hid (show rdI l=some (⟨op,to_,xa,(xb:Int),⟨false,[],[]⟩⟩,l3) by rw [HI.out,if_neg h1o];first|rw [if_pos h7o]|rw [if_neg h7o])
       clear h7o h1o
       have hx0:=HX0.out.grown hgt3 hRB
       obtain ⟨z0,a0,a1,a2,a3,a4,a5,a6,f0,f1,f2,f3,f4,f5,f6⟩:=id hx0
       have hnb:¬ (w.heap.size=w3.heap.size):=by omega
       go_wp2_with fail
       refine bodyPost_ret (zdP rfl _ _ _ rfl ((((((((hx0.put0 _).put1 _).put2 _).put3 _).put4 _).put5 _).put6 _).to (bN _ _))) rfl ?_
       have hB:=((below7 w3 w.heap.size w.heap.size (.int .i64 op) (.int .i64 to_) (.int .i64 xa) (.int .i64 (xb:Int)) (.bool false) (.slice none 0 0) (.slice none 0 0) (Nat.le_refl _)).alloc (by simp;omega) (.cells #[.int .i64 (op:Int),.int .i64 (to_:Int),.int .i64 (xa:Int),.int .i64 (xb:Int),.bool false,.slice none 0 0,.slice none 0 0] 49))
       refine ⟨zr (hgW.trans hgt3) hB,?_⟩
       rw [HS.out]
       exact ⟨⟨_,rfl,none,0,0,none,0,0,rfl,Own.nil _ _,Own.nil _ _,⟨⟨by show (-9223372036854775808:Int)<=(op:Int);omega,by show (op:Int)<_;omega⟩,⟨by show (-9223372036854775808:Int)<=(to_:Int);omega,by show (to_:Int)<_;omega⟩,⟨by show (-9223372036854775808:Int)<=(xa:Int);omega,by show (xa:Int)<_;omega⟩,⟨by show (-9223372036854775808:Int)<=(xb:Int);omega,by show (xb:Int)<_;omega⟩⟩⟩,hR3.toN (hB.mono hlt.2.1)⟩

end Go.Proofs.YtkjcdnlpjldhaaaGreat

