/-
  The texts Whole2, Whole3, Whole4, Ref7, Ref7b, merged.
-/
import Derived.Test.YtkjcdnlpjldhaaaGreatG06
import Derived.Deep.DrawnRows
import Derived.Laws.EntriesVeiled
import Derived.Test.YtkjcdnlpjldhaaaGreatG05
set_option linter.unusedVariables false
set_option linter.unusedSimpArgs false
set_option maxRecDepth 100000
set_option maxHeartbeats 400000000
namespace Go.Proofs.YtkjcdnlpjldhaaaGreat
open Go.RowKit Tw
attribute [local go_sem ↓] Go.wp_at_zero Go.wp_at_succ

theorem ziw (b c:Bool) (va vb:Value) (la lb:List Nat) (w:World) (ha:Rd w va la) (hb:Rd w vb lb) (hla:la.length<=400000) (hlb:lb.length<=400000) :
  Calls Tryz.prog 159 #[aggI b va,aggI c vb] w (zby w (sgn b (val la+val lb))):=by
 have hsa:=zv ha.1
 have hsb:=zv hb.1
 have hs:=zcZ (val la) (val lb)
 have hm:=zaf (val la) (val lb)
 have hd1:=zbs (val la) (val lb)
 have hd2:=zbs (val lb) (val la)
 rw [show sgn b (val la+val lb)=sgn b (val (zc (val la+val lb))) by rw [vL]]
 obtain ⟨a0,n0,c0,rfl,_,_⟩:=ha.open
 obtain ⟨a1,n1,c1,rfl,_,_⟩:=hb.open
 go_enter Tryz.func159,Tryz.ntmps159
 go_wp2_with fail
 obtain ⟨W0,az⟩:∃ W0,((w.alloc (.cells #[.bool b,.slice a0 n0 c0] 95)).alloc (.cells #[.bool c,.slice a1 n1 c1] 95)).alloc (.cells #[.bool false,.slice none 0 0] 95)=W0:=⟨_,rfl⟩
 have d7:W0.cell? ⟨w.heap.size,0,none⟩=some (.bool b):=by rw [<- az];simp [go_sem]
 have q0_0:W0.frozen? ⟨w.heap.size,0,none⟩=false:=by rw [<- az];simp [go_sem]
 have d8:W0.cell? ⟨w.heap.size,1,none⟩=some (.slice a0 n0 c0):=by rw [<- az];simp [go_sem]
 have q0_1:W0.frozen? ⟨w.heap.size,1,none⟩=false:=by rw [<- az];simp [go_sem]
 have d9:W0.cell? ⟨w.heap.size+1,0,none⟩=some (.bool c):=by rw [<- az];simp [go_sem]
 have q1_0:W0.frozen? ⟨w.heap.size+1,0,none⟩=false:=by rw [<- az];simp [go_sem]
 have ea:W0.cell? ⟨w.heap.size+1,1,none⟩=some (.slice a1 n1 c1):=by rw [<- az];simp [go_sem]
 have q1_1:W0.frozen? ⟨w.heap.size+1,1,none⟩=false:=by rw [<- az];simp [go_sem]
 have eb:W0.cell? ⟨w.heap.size+1+1,0,none⟩=some (.bool false):=by rw [<- az];simp [go_sem]
 have q2_0:W0.frozen? ⟨w.heap.size+1+1,0,none⟩=false:=by rw [<- az];simp [go_sem]
 have ec:W0.cell? ⟨w.heap.size+1+1,1,none⟩=some (.slice none 0 0):=by rw [<- az];simp [go_sem]
 have q2_1:W0.frozen? ⟨w.heap.size+1+1,1,none⟩=false:=by rw [<- az];simp [go_sem]
 have zs:w.heap.size+1+1<W0.heap.size:=by rw [<- az];simp
 have zb:Below w.heap.size w W0:=by rw [<- az];exact bS (bS (bN _ _) (bN _ _)) (bN _ _)
 rw [az]
 clear az
 have g0:=ha.to zb
 have g1:=hb.to zb
 go_region_with (first
  | (go_at_call 88;refine (zkt _ _ la lb _ g0.drew g1.drew (by omega) (by omega)).mono ?_;rintro e w2 ⟨v2,rfl,hv2,aN⟩;obtain ⟨a2_,n2_,c2_,rfl,_,_⟩:=hv2.rd.open;have ac:=(aN.cell (p:=⟨w.heap.size,0,none⟩) (by show w.heap.size<W0.heap.size;omega)).trans d7;have ag:=(aN.frozen (p:=⟨w.heap.size,0,none⟩) (by show w.heap.size<W0.heap.size;omega)).trans q0_0;have ae:=(aN.cell (p:=⟨w.heap.size,1,none⟩) (by show w.heap.size<W0.heap.size;omega)).trans d8;have ah:=(aN.frozen (p:=⟨w.heap.size,1,none⟩) (by show w.heap.size<W0.heap.size;omega)).trans q0_1;have ak:=(aN.cell (p:=⟨w.heap.size+1,0,none⟩) (by show w.heap.size+1<W0.heap.size;omega)).trans d9;have ap:=(aN.frozen (p:=⟨w.heap.size+1,0,none⟩) (by show w.heap.size+1<W0.heap.size;omega)).trans q1_0;have al:=(aN.cell (p:=⟨w.heap.size+1,1,none⟩) (by show w.heap.size+1<W0.heap.size;omega)).trans ea;have aq:=(aN.frozen (p:=⟨w.heap.size+1,1,none⟩) (by show w.heap.size+1<W0.heap.size;omega)).trans q1_1;have aH:=(aN.cell (p:=⟨w.heap.size+1+1,0,none⟩) (by show w.heap.size+1+1<W0.heap.size;omega)).trans eb;have aK:=(aN.frozen (p:=⟨w.heap.size+1+1,0,none⟩) (by show w.heap.size+1+1<W0.heap.size;omega)).trans q2_0;have aI:=(aN.cell (p:=⟨w.heap.size+1+1,1,none⟩) (by show w.heap.size+1+1<W0.heap.size;omega)).trans ec;have aL:=(aN.frozen (p:=⟨w.heap.size+1+1,1,none⟩) (by show w.heap.size+1+1<W0.heap.size;omega)).trans q2_1)
  | (go_at_call 87;refine (zaS b _ _ _ hv2.rd (by rw [ze];omega)).mono ?_;rintro e w3 ⟨v3,rfl,hv3,bs⟩;obtain ⟨a3_,n3_,c3_,rfl,_,_⟩:=hv3.rd.open;have bV:=bS aN bs;have x0_0r:=(bV.cell (p:=⟨w.heap.size,0,none⟩) (by show w.heap.size<W0.heap.size;omega)).trans d7;have y0_0r:=(bV.frozen (p:=⟨w.heap.size,0,none⟩) (by show w.heap.size<W0.heap.size;omega)).trans q0_0;have x0_1r:=(bV.cell (p:=⟨w.heap.size,1,none⟩) (by show w.heap.size<W0.heap.size;omega)).trans d8;have y0_1r:=(bV.frozen (p:=⟨w.heap.size,1,none⟩) (by show w.heap.size<W0.heap.size;omega)).trans q0_1;have x1_0r:=(bV.cell (p:=⟨w.heap.size+1,0,none⟩) (by show w.heap.size+1<W0.heap.size;omega)).trans d9;have y1_0r:=(bV.frozen (p:=⟨w.heap.size+1,0,none⟩) (by show w.heap.size+1<W0.heap.size;omega)).trans q1_0;have x1_1r:=(bV.cell (p:=⟨w.heap.size+1,1,none⟩) (by show w.heap.size+1<W0.heap.size;omega)).trans ea;have y1_1r:=(bV.frozen (p:=⟨w.heap.size+1,1,none⟩) (by show w.heap.size+1<W0.heap.size;omega)).trans q1_1;have x2_0r:=(bV.cell (p:=⟨w.heap.size+1+1,0,none⟩) (by show w.heap.size+1+1<W0.heap.size;omega)).trans eb;have y2_0r:=(bV.frozen (p:=⟨w.heap.size+1+1,0,none⟩) (by show w.heap.size+1+1<W0.heap.size;omega)).trans q2_0;have x2_1r:=(bV.cell (p:=⟨w.heap.size+1+1,1,none⟩) (by show w.heap.size+1+1<W0.heap.size;omega)).trans ec;have y2_1r:=(bV.frozen (p:=⟨w.heap.size+1+1,1,none⟩) (by show w.heap.size+1+1<W0.heap.size;omega)).trans q2_1;generalize hng:decide (sgn b (val (zc (val la+val lb)))<0)=ng;have Hng:=Lib.hid hng;clear hng))
 all_goals
  go_wp2_with fail
  have zs':w.heap.size+1+1<W0.drew.heap.size:=zs
  replace zb:Below w.heap.size w W0.drew:=zb.drew
  have e:=Hng.out
  subst e
  obtain ⟨k0,k1⟩:=zN (x:=.bool (decide (sgn b (val (zc (val la+val lb)))<0))) (y:=.slice a3_ n3_ c3_) x2_0r x2_1r
  exact bodyPost_ret (zE Tryz.results159 _ _ _ _ _ rfl k0 k1) rfl (finI zb (by omega) zs' (hv3.mono aN.size) bV)

theorem zlr (b c:Bool) (va vb:Value) (la lb:List Nat) (w:World) (ha:Rd w va la) (hb:Rd w vb lb) (hla:la.length<=400000) (hlb:lb.length<=400000) :
  Calls Tryz.prog 144 #[aggI b va,aggI c vb] w (zby w (sgn b (val la)*sgn c (val lb))):=by
 have hsa:=zv ha.1
 have hsb:=zv hb.1
 have hs:=zcZ (val la) (val lb)
 have hm:=zaf (val la) (val lb)
 have hd1:=zbs (val la) (val lb)
 have hd2:=zbs (val lb) (val la)
 rw [<- zhm,show sgn (b != c) (val la*val lb)=sgn (b != c) (val (zc (val la*val lb))) by rw [vL]]
 obtain ⟨a0,n0,c0,rfl,_,_⟩:=ha.open
 obtain ⟨a1,n1,c1,rfl,_,_⟩:=hb.open
 go_enter Tryz.func144,Tryz.ntmps144
 go_wp2_with fail
 obtain ⟨W0,az⟩:∃ W0,((w.alloc (.cells #[.bool b,.slice a0 n0 c0] 95)).alloc (.cells #[.bool c,.slice a1 n1 c1] 95)).alloc (.cells #[.bool false,.slice none 0 0] 95)=W0:=⟨_,rfl⟩
 have d7:W0.cell? ⟨w.heap.size,0,none⟩=some (.bool b):=by rw [<- az];simp [go_sem]
 have q0_0:W0.frozen? ⟨w.heap.size,0,none⟩=false:=by rw [<- az];simp [go_sem]
 have d8:W0.cell? ⟨w.heap.size,1,none⟩=some (.slice a0 n0 c0):=by rw [<- az];simp [go_sem]
 have q0_1:W0.frozen? ⟨w.heap.size,1,none⟩=false:=by rw [<- az];simp [go_sem]
 have d9:W0.cell? ⟨w.heap.size+1,0,none⟩=some (.bool c):=by rw [<- az];simp [go_sem]
 have q1_0:W0.frozen? ⟨w.heap.size+1,0,none⟩=false:=by rw [<- az];simp [go_sem]
 have ea:W0.cell? ⟨w.heap.size+1,1,none⟩=some (.slice a1 n1 c1):=by rw [<- az];simp [go_sem]
 have q1_1:W0.frozen? ⟨w.heap.size+1,1,none⟩=false:=by rw [<- az];simp [go_sem]
 have eb:W0.cell? ⟨w.heap.size+1+1,0,none⟩=some (.bool false):=by rw [<- az];simp [go_sem]
 have q2_0:W0.frozen? ⟨w.heap.size+1+1,0,none⟩=false:=by rw [<- az];simp [go_sem]
 have ec:W0.cell? ⟨w.heap.size+1+1,1,none⟩=some (.slice none 0 0):=by rw [<- az];simp [go_sem]
 have q2_1:W0.frozen? ⟨w.heap.size+1+1,1,none⟩=false:=by rw [<- az];simp [go_sem]
 have zs:w.heap.size+1+1<W0.heap.size:=by rw [<- az];simp
 have zb:Below w.heap.size w W0:=by rw [<- az];exact bS (bS (bN _ _) (bN _ _)) (bN _ _)
 rw [az]
 clear az
 have g0:=ha.to zb
 have g1:=hb.to zb
 go_region_with (first
  | (go_at_call 147;refine (zbY _ _ la lb _ g0.drew g1.drew (by omega) (by omega)).mono ?_;rintro e w2 ⟨v2,rfl,hv2,aN⟩;obtain ⟨a2_,n2_,c2_,rfl,_,_⟩:=hv2.rd.open;have ac:=(aN.cell (p:=⟨w.heap.size,0,none⟩) (by show w.heap.size<W0.heap.size;omega)).trans d7;have ag:=(aN.frozen (p:=⟨w.heap.size,0,none⟩) (by show w.heap.size<W0.heap.size;omega)).trans q0_0;have ae:=(aN.cell (p:=⟨w.heap.size,1,none⟩) (by show w.heap.size<W0.heap.size;omega)).trans d8;have ah:=(aN.frozen (p:=⟨w.heap.size,1,none⟩) (by show w.heap.size<W0.heap.size;omega)).trans q0_1;have ak:=(aN.cell (p:=⟨w.heap.size+1,0,none⟩) (by show w.heap.size+1<W0.heap.size;omega)).trans d9;have ap:=(aN.frozen (p:=⟨w.heap.size+1,0,none⟩) (by show w.heap.size+1<W0.heap.size;omega)).trans q1_0;have al:=(aN.cell (p:=⟨w.heap.size+1,1,none⟩) (by show w.heap.size+1<W0.heap.size;omega)).trans ea;have aq:=(aN.frozen (p:=⟨w.heap.size+1,1,none⟩) (by show w.heap.size+1<W0.heap.size;omega)).trans q1_1;have aH:=(aN.cell (p:=⟨w.heap.size+1+1,0,none⟩) (by show w.heap.size+1+1<W0.heap.size;omega)).trans eb;have aK:=(aN.frozen (p:=⟨w.heap.size+1+1,0,none⟩) (by show w.heap.size+1+1<W0.heap.size;omega)).trans q2_0;have aI:=(aN.cell (p:=⟨w.heap.size+1+1,1,none⟩) (by show w.heap.size+1+1<W0.heap.size;omega)).trans ec;have aL:=(aN.frozen (p:=⟨w.heap.size+1+1,1,none⟩) (by show w.heap.size+1+1<W0.heap.size;omega)).trans q2_1)
  | (go_at_call 87;refine (zaS (b != c) _ _ _ hv2.rd (by rw [ze];omega)).mono ?_;rintro e w3 ⟨v3,rfl,hv3,bs⟩;obtain ⟨a3_,n3_,c3_,rfl,_,_⟩:=hv3.rd.open;have bV:=bS aN bs;have x0_0r:=(bV.cell (p:=⟨w.heap.size,0,none⟩) (by show w.heap.size<W0.heap.size;omega)).trans d7;have y0_0r:=(bV.frozen (p:=⟨w.heap.size,0,none⟩) (by show w.heap.size<W0.heap.size;omega)).trans q0_0;have x0_1r:=(bV.cell (p:=⟨w.heap.size,1,none⟩) (by show w.heap.size<W0.heap.size;omega)).trans d8;have y0_1r:=(bV.frozen (p:=⟨w.heap.size,1,none⟩) (by show w.heap.size<W0.heap.size;omega)).trans q0_1;have x1_0r:=(bV.cell (p:=⟨w.heap.size+1,0,none⟩) (by show w.heap.size+1<W0.heap.size;omega)).trans d9;have y1_0r:=(bV.frozen (p:=⟨w.heap.size+1,0,none⟩) (by show w.heap.size+1<W0.heap.size;omega)).trans q1_0;have x1_1r:=(bV.cell (p:=⟨w.heap.size+1,1,none⟩) (by show w.heap.size+1<W0.heap.size;omega)).trans ea;have y1_1r:=(bV.frozen (p:=⟨w.heap.size+1,1,none⟩) (by show w.heap.size+1<W0.heap.size;omega)).trans q1_1;have x2_0r:=(bV.cell (p:=⟨w.heap.size+1+1,0,none⟩) (by show w.heap.size+1+1<W0.heap.size;omega)).trans eb;have y2_0r:=(bV.frozen (p:=⟨w.heap.size+1+1,0,none⟩) (by show w.heap.size+1+1<W0.heap.size;omega)).trans q2_0;have x2_1r:=(bV.cell (p:=⟨w.heap.size+1+1,1,none⟩) (by show w.heap.size+1+1<W0.heap.size;omega)).trans ec;have y2_1r:=(bV.frozen (p:=⟨w.heap.size+1+1,1,none⟩) (by show w.heap.size+1+1<W0.heap.size;omega)).trans q2_1;generalize hng:decide (sgn (b != c) (val (zc (val la*val lb)))<0)=ng;have Hng:=Lib.hid hng;clear hng))
 all_goals
  go_wp2_with fail
  have zs':w.heap.size+1+1<W0.drew.heap.size:=zs
  replace zb:Below w.heap.size w W0.drew:=zb.drew
  have e:=Hng.out
  subst e
  obtain ⟨k0,k1⟩:=zN (x:=.bool (decide (sgn (b != c) (val (zc (val la*val lb)))<0))) (y:=.slice a3_ n3_ c3_) x2_0r x2_1r
  exact bodyPost_ret (zE Tryz.results144 _ _ _ _ _ rfl k0 k1) rfl (finI zb (by omega) zs' (hv3.mono aN.size) bV)

end Go.Proofs.YtkjcdnlpjldhaaaGreat


namespace Go.Proofs.YtkjcdnlpjldhaaaGreat
open Go.RowKit Tw
attribute [local go_sem ↓] Go.wp_at_zero Go.wp_at_succ

theorem zhx (b c:Bool) (va vb:Value) (la lb:List Nat) (w:World) (ha:Rd w va la) (hb:Rd w vb lb) (hla:la.length<=400000) (hlb:lb.length<=400000) (hbc:b≠c) :
  Calls Tryz.prog 158 #[aggI b va,aggI c vb] w (zby w (sgn b (val la)+sgn c (val lb))):=by
 have hsa:=zv ha.1
 have hsb:=zv hb.1
 have hs:=zcZ (val la) (val lb)
 have hm:=zaf (val la) (val lb)
 have hd1:=zbs (val la) (val lb)
 have hd2:=zbs (val lb) (val la)
 obtain ⟨a0,n0,c0,rfl,_,_⟩:=ha.open
 obtain ⟨a1,n1,c1,rfl,_,_⟩:=hb.open
 by_cases hle:val lb<=val la
 ·rw [<- ziT hbc hle,show sgn b (val la - val lb)=sgn b (val (zc (val la - val lb))) by rw [vL]]
  go_enter Tryz.func158,Tryz.ntmps158
  go_wp2_with fail
  obtain ⟨W0,az⟩:∃ W0,((w.alloc (.cells #[.bool b,.slice a0 n0 c0] 95)).alloc (.cells #[.bool c,.slice a1 n1 c1] 95)).alloc (.cells #[.bool false,.slice none 0 0] 95)=W0:=⟨_,rfl⟩
  have d7:W0.cell? ⟨w.heap.size,0,none⟩=some (.bool b):=by rw [<- az];simp [go_sem]
  have q0_0:W0.frozen? ⟨w.heap.size,0,none⟩=false:=by rw [<- az];simp [go_sem]
  have d8:W0.cell? ⟨w.heap.size,1,none⟩=some (.slice a0 n0 c0):=by rw [<- az];simp [go_sem]
  have q0_1:W0.frozen? ⟨w.heap.size,1,none⟩=false:=by rw [<- az];simp [go_sem]
  have d9:W0.cell? ⟨w.heap.size+1,0,none⟩=some (.bool c):=by rw [<- az];simp [go_sem]
  have q1_0:W0.frozen? ⟨w.heap.size+1,0,none⟩=false:=by rw [<- az];simp [go_sem]
  have ea:W0.cell? ⟨w.heap.size+1,1,none⟩=some (.slice a1 n1 c1):=by rw [<- az];simp [go_sem]
  have q1_1:W0.frozen? ⟨w.heap.size+1,1,none⟩=false:=by rw [<- az];simp [go_sem]
  have eb:W0.cell? ⟨w.heap.size+1+1,0,none⟩=some (.bool false):=by rw [<- az];simp [go_sem]
  have q2_0:W0.frozen? ⟨w.heap.size+1+1,0,none⟩=false:=by rw [<- az];simp [go_sem]
  have ec:W0.cell? ⟨w.heap.size+1+1,1,none⟩=some (.slice none 0 0):=by rw [<- az];simp [go_sem]
  have q2_1:W0.frozen? ⟨w.heap.size+1+1,1,none⟩=false:=by rw [<- az];simp [go_sem]
  have zs:w.heap.size+1+1<W0.heap.size:=by rw [<- az];simp
  have zb:Below w.heap.size w W0:=by rw [<- az];exact bS (bS (bN _ _) (bN _ _)) (bN _ _)
  rw [az]
  clear az
  have g0:=ha.to zb
  have g1:=hb.to zb
  refine (zhc _ _ la lb _ g0 g1 (by omega) hle).mono ?_
  rintro e w2 ⟨v2,rfl,hv2,aN⟩
  obtain ⟨a2_,n2_,c2_,rfl,_,_⟩:=hv2.rd.open
  have ac:=(aN.cell (p:=⟨w.heap.size,0,none⟩) (by show w.heap.size<W0.heap.size;omega)).trans d7
  have ag:=(aN.frozen (p:=⟨w.heap.size,0,none⟩) (by show w.heap.size<W0.heap.size;omega)).trans q0_0
  have ae:=(aN.cell (p:=⟨w.heap.size,1,none⟩) (by show w.heap.size<W0.heap.size;omega)).trans d8
  have ah:=(aN.frozen (p:=⟨w.heap.size,1,none⟩) (by show w.heap.size<W0.heap.size;omega)).trans q0_1
  have ak:=(aN.cell (p:=⟨w.heap.size+1,0,none⟩) (by show w.heap.size+1<W0.heap.size;omega)).trans d9
  have ap:=(aN.frozen (p:=⟨w.heap.size+1,0,none⟩) (by show w.heap.size+1<W0.heap.size;omega)).trans q1_0
  have al:=(aN.cell (p:=⟨w.heap.size+1,1,none⟩) (by show w.heap.size+1<W0.heap.size;omega)).trans ea
  have aq:=(aN.frozen (p:=⟨w.heap.size+1,1,none⟩) (by show w.heap.size+1<W0.heap.size;omega)).trans q1_1
  have aH:=(aN.cell (p:=⟨w.heap.size+1+1,0,none⟩) (by show w.heap.size+1+1<W0.heap.size;omega)).trans eb
  have aK:=(aN.frozen (p:=⟨w.heap.size+1+1,0,none⟩) (by show w.heap.size+1+1<W0.heap.size;omega)).trans q2_0
  have aI:=(aN.cell (p:=⟨w.heap.size+1+1,1,none⟩) (by show w.heap.size+1+1<W0.heap.size;omega)).trans ec
  have aL:=(aN.frozen (p:=⟨w.heap.size+1+1,1,none⟩) (by show w.heap.size+1+1<W0.heap.size;omega)).trans q2_1
  go_wp2_with fail
  refine (zaS b _ _ _ hv2.rd (by rw [ze];omega)).mono ?_
  rintro e w3 ⟨v3,rfl,hv3,bs⟩
  obtain ⟨a3_,n3_,c3_,rfl,_,_⟩:=hv3.rd.open
  have bV:=bS aN bs
  have x0_0r:=(bV.cell (p:=⟨w.heap.size,0,none⟩) (by show w.heap.size<W0.heap.size;omega)).trans d7
  have y0_0r:=(bV.frozen (p:=⟨w.heap.size,0,none⟩) (by show w.heap.size<W0.heap.size;omega)).trans q0_0
  have x0_1r:=(bV.cell (p:=⟨w.heap.size,1,none⟩) (by show w.heap.size<W0.heap.size;omega)).trans d8
  have y0_1r:=(bV.frozen (p:=⟨w.heap.size,1,none⟩) (by show w.heap.size<W0.heap.size;omega)).trans q0_1
  have x1_0r:=(bV.cell (p:=⟨w.heap.size+1,0,none⟩) (by show w.heap.size+1<W0.heap.size;omega)).trans d9
  have y1_0r:=(bV.frozen (p:=⟨w.heap.size+1,0,none⟩) (by show w.heap.size+1<W0.heap.size;omega)).trans q1_0
  have x1_1r:=(bV.cell (p:=⟨w.heap.size+1,1,none⟩) (by show w.heap.size+1<W0.heap.size;omega)).trans ea
  have y1_1r:=(bV.frozen (p:=⟨w.heap.size+1,1,none⟩) (by show w.heap.size+1<W0.heap.size;omega)).trans q1_1
  have x2_0r:=(bV.cell (p:=⟨w.heap.size+1+1,0,none⟩) (by show w.heap.size+1+1<W0.heap.size;omega)).trans eb
  have y2_0r:=(bV.frozen (p:=⟨w.heap.size+1+1,0,none⟩) (by show w.heap.size+1+1<W0.heap.size;omega)).trans q2_0
  have x2_1r:=(bV.cell (p:=⟨w.heap.size+1+1,1,none⟩) (by show w.heap.size+1+1<W0.heap.size;omega)).trans ec
  have y2_1r:=(bV.frozen (p:=⟨w.heap.size+1+1,1,none⟩) (by show w.heap.size+1+1<W0.heap.size;omega)).trans q2_1
  generalize hng:decide (sgn b (val (zc (val la - val lb)))<0)=ng
  have Hng:=Lib.hid hng
  clear hng
  have zs':=zs
  replace hv3:=hv3.mono aN.size
  go_wp2_with fail
  have e:=Hng.out
  subst e
  obtain ⟨k0,k1⟩:=zN (x:=.bool (decide (sgn b (val (zc (val la - val lb)))<0))) (y:=.slice a3_ n3_ c3_) x2_0r x2_1r
  exact bodyPost_ret (zE Tryz.results158 _ _ _ _ _ rfl k0 k1) rfl (finI zb (by omega) zs' hv3 bV)
 ·have hlt:val la<val lb:=by omega
  rw [<- zil hbc hlt,show sgn c (val lb - val la)=sgn c (val (zc (val lb - val la))) by rw [vL]]
  go_enter Tryz.func158,Tryz.ntmps158
  go_wp2_with fail
  obtain ⟨W0,az⟩:∃ W0,((w.alloc (.cells #[.bool b,.slice a0 n0 c0] 95)).alloc (.cells #[.bool c,.slice a1 n1 c1] 95)).alloc (.cells #[.bool false,.slice none 0 0] 95)=W0:=⟨_,rfl⟩
  have d7:W0.cell? ⟨w.heap.size,0,none⟩=some (.bool b):=by rw [<- az];simp [go_sem]
  have q0_0:W0.frozen? ⟨w.heap.size,0,none⟩=false:=by rw [<- az];simp [go_sem]
  have d8:W0.cell? ⟨w.heap.size,1,none⟩=some (.slice a0 n0 c0):=by rw [<- az];simp [go_sem]
  have q0_1:W0.frozen? ⟨w.heap.size,1,none⟩=false:=by rw [<- az];simp [go_sem]
  have d9:W0.cell? ⟨w.heap.size+1,0,none⟩=some (.bool c):=by rw [<- az];simp [go_sem]
  have q1_0:W0.frozen? ⟨w.heap.size+1,0,none⟩=false:=by rw [<- az];simp [go_sem]
  have ea:W0.cell? ⟨w.heap.size+1,1,none⟩=some (.slice a1 n1 c1):=by rw [<- az];simp [go_sem]
  have q1_1:W0.frozen? ⟨w.heap.size+1,1,none⟩=false:=by rw [<- az];simp [go_sem]
  have eb:W0.cell? ⟨w.heap.size+1+1,0,none⟩=some (.bool false):=by rw [<- az];simp [go_sem]
  have q2_0:W0.frozen? ⟨w.heap.size+1+1,0,none⟩=false:=by rw [<- az];simp [go_sem]
  have ec:W0.cell? ⟨w.heap.size+1+1,1,none⟩=some (.slice none 0 0):=by rw [<- az];simp [go_sem]
  have q2_1:W0.frozen? ⟨w.heap.size+1+1,1,none⟩=false:=by rw [<- az];simp [go_sem]
  have zs:w.heap.size+1+1<W0.heap.size:=by rw [<- az];simp
  have zb:Below w.heap.size w W0:=by rw [<- az];exact bS (bS (bN _ _) (bN _ _)) (bN _ _)
  rw [az]
  clear az
  have g0:=ha.to zb
  have g1:=hb.to zb
  refine (zfR _ _ la lb _ g0 g1 hlt).mono ?_
  rintro e w1 ⟨rfl,bd⟩
  have x0_0p:=(bd.cell (p:=⟨w.heap.size,0,none⟩) (by show w.heap.size<W0.heap.size;omega)).trans d7
  have y0_0p:=(bd.frozen (p:=⟨w.heap.size,0,none⟩) (by show w.heap.size<W0.heap.size;omega)).trans q0_0
  have x0_1p:=(bd.cell (p:=⟨w.heap.size,1,none⟩) (by show w.heap.size<W0.heap.size;omega)).trans d8
  have y0_1p:=(bd.frozen (p:=⟨w.heap.size,1,none⟩) (by show w.heap.size<W0.heap.size;omega)).trans q0_1
  have x1_0p:=(bd.cell (p:=⟨w.heap.size+1,0,none⟩) (by show w.heap.size+1<W0.heap.size;omega)).trans d9
  have y1_0p:=(bd.frozen (p:=⟨w.heap.size+1,0,none⟩) (by show w.heap.size+1<W0.heap.size;omega)).trans q1_0
  have x1_1p:=(bd.cell (p:=⟨w.heap.size+1,1,none⟩) (by show w.heap.size+1<W0.heap.size;omega)).trans ea
  have y1_1p:=(bd.frozen (p:=⟨w.heap.size+1,1,none⟩) (by show w.heap.size+1<W0.heap.size;omega)).trans q1_1
  have x2_0p:=(bd.cell (p:=⟨w.heap.size+1+1,0,none⟩) (by show w.heap.size+1+1<W0.heap.size;omega)).trans eb
  have y2_0p:=(bd.frozen (p:=⟨w.heap.size+1+1,0,none⟩) (by show w.heap.size+1+1<W0.heap.size;omega)).trans q2_0
  have x2_1p:=(bd.cell (p:=⟨w.heap.size+1+1,1,none⟩) (by show w.heap.size+1+1<W0.heap.size;omega)).trans ec
  have y2_1p:=(bd.frozen (p:=⟨w.heap.size+1+1,1,none⟩) (by show w.heap.size+1+1<W0.heap.size;omega)).trans q2_1
  go_wp2_with fail
  refine (zhc _ _ lb la _ (g1.to bd) (g0.to bd) (by omega) (by omega)).mono ?_
  rintro e w2 ⟨v2,rfl,hv2,aN⟩
  obtain ⟨a2_,n2_,c2_,rfl,_,_⟩:=hv2.rd.open
  have eq:=bS bd aN
  clear x0_0p y0_0p x0_1p y0_1p x1_0p y1_0p x1_1p y1_1p x2_0p y2_0p x2_1p y2_1p
  have ac:=(eq.cell (p:=⟨w.heap.size,0,none⟩) (by show w.heap.size<W0.heap.size;omega)).trans d7
  have ag:=(eq.frozen (p:=⟨w.heap.size,0,none⟩) (by show w.heap.size<W0.heap.size;omega)).trans q0_0
  have ae:=(eq.cell (p:=⟨w.heap.size,1,none⟩) (by show w.heap.size<W0.heap.size;omega)).trans d8
  have ah:=(eq.frozen (p:=⟨w.heap.size,1,none⟩) (by show w.heap.size<W0.heap.size;omega)).trans q0_1
  have ak:=(eq.cell (p:=⟨w.heap.size+1,0,none⟩) (by show w.heap.size+1<W0.heap.size;omega)).trans d9
  have ap:=(eq.frozen (p:=⟨w.heap.size+1,0,none⟩) (by show w.heap.size+1<W0.heap.size;omega)).trans q1_0
  have al:=(eq.cell (p:=⟨w.heap.size+1,1,none⟩) (by show w.heap.size+1<W0.heap.size;omega)).trans ea
  have aq:=(eq.frozen (p:=⟨w.heap.size+1,1,none⟩) (by show w.heap.size+1<W0.heap.size;omega)).trans q1_1
  have aH:=(eq.cell (p:=⟨w.heap.size+1+1,0,none⟩) (by show w.heap.size+1+1<W0.heap.size;omega)).trans eb
  have aK:=(eq.frozen (p:=⟨w.heap.size+1+1,0,none⟩) (by show w.heap.size+1+1<W0.heap.size;omega)).trans q2_0
  have aI:=(eq.cell (p:=⟨w.heap.size+1+1,1,none⟩) (by show w.heap.size+1+1<W0.heap.size;omega)).trans ec
  have aL:=(eq.frozen (p:=⟨w.heap.size+1+1,1,none⟩) (by show w.heap.size+1+1<W0.heap.size;omega)).trans q2_1
  go_wp2_with fail
  refine (zaS c _ _ _ hv2.rd (by rw [ze];omega)).mono ?_
  rintro e w3 ⟨v3,rfl,hv3,bs⟩
  obtain ⟨a3_,n3_,c3_,rfl,_,_⟩:=hv3.rd.open
  have bV:=bS eq bs
  have x0_0r:=(bV.cell (p:=⟨w.heap.size,0,none⟩) (by show w.heap.size<W0.heap.size;omega)).trans d7
  have y0_0r:=(bV.frozen (p:=⟨w.heap.size,0,none⟩) (by show w.heap.size<W0.heap.size;omega)).trans q0_0
  have x0_1r:=(bV.cell (p:=⟨w.heap.size,1,none⟩) (by show w.heap.size<W0.heap.size;omega)).trans d8
  have y0_1r:=(bV.frozen (p:=⟨w.heap.size,1,none⟩) (by show w.heap.size<W0.heap.size;omega)).trans q0_1
  have x1_0r:=(bV.cell (p:=⟨w.heap.size+1,0,none⟩) (by show w.heap.size+1<W0.heap.size;omega)).trans d9
  have y1_0r:=(bV.frozen (p:=⟨w.heap.size+1,0,none⟩) (by show w.heap.size+1<W0.heap.size;omega)).trans q1_0
  have x1_1r:=(bV.cell (p:=⟨w.heap.size+1,1,none⟩) (by show w.heap.size+1<W0.heap.size;omega)).trans ea
  have y1_1r:=(bV.frozen (p:=⟨w.heap.size+1,1,none⟩) (by show w.heap.size+1<W0.heap.size;omega)).trans q1_1
  have x2_0r:=(bV.cell (p:=⟨w.heap.size+1+1,0,none⟩) (by show w.heap.size+1+1<W0.heap.size;omega)).trans eb
  have y2_0r:=(bV.frozen (p:=⟨w.heap.size+1+1,0,none⟩) (by show w.heap.size+1+1<W0.heap.size;omega)).trans q2_0
  have x2_1r:=(bV.cell (p:=⟨w.heap.size+1+1,1,none⟩) (by show w.heap.size+1+1<W0.heap.size;omega)).trans ec
  have y2_1r:=(bV.frozen (p:=⟨w.heap.size+1+1,1,none⟩) (by show w.heap.size+1+1<W0.heap.size;omega)).trans q2_1
  generalize hng:decide (sgn c (val (zc (val lb - val la)))<0)=ng
  have Hng:=Lib.hid hng
  clear hng
  have zs':=zs
  replace hv3:=hv3.mono eq.size
  go_wp2_with fail
  have e:=Hng.out
  subst e
  obtain ⟨k0,k1⟩:=zN (x:=.bool (decide (sgn c (val (zc (val lb - val la)))<0))) (y:=.slice a3_ n3_ c3_) x2_0r x2_1r
  exact bodyPost_ret (zE Tryz.results158 _ _ _ _ _ rfl k0 k1) rfl (finI zb (by omega) zs' hv3 bV)

theorem zkX (b c:Bool) (va vb:Value) (la lb:List Nat) (w:World) (ha:Rd w va la) (hb:Rd w vb lb) (hla:la.length<=400000) (hlb:lb.length<=400000) :
  Calls Tryz.prog 143 #[aggI b va,aggI c vb] w (zby w (sgn b (val la)+sgn c (val lb))):=by
 have hsa:=zv ha.1
 have hsb:=zv hb.1
 have hs:=zcZ (val la) (val lb)
 have hm:=zaf (val la) (val lb)
 have hd1:=zbs (val la) (val lb)
 have hd2:=zbs (val lb) (val la)
 obtain ⟨a0,n0,c0,rfl,_,_⟩:=ha.open
 obtain ⟨a1,n1,c1,rfl,_,_⟩:=hb.open
 by_cases hbc:b=c
 ·subst hbc
  rw [<- zje]
  go_enter Tryz.func143,Tryz.ntmps143
  go_wp2_with fail
  obtain ⟨W0,az⟩:∃ W0,(((w.alloc (.cells #[.bool b,.slice a0 n0 c0] 95)).alloc (.cells #[.bool b,.slice a1 n1 c1] 95)).alloc (.cells #[.bool false,.slice none 0 0] 95)).alloc (.cells #[.func (.func 159) #[] #[]] 177)=W0:=⟨_,rfl⟩
  have d7:W0.cell? ⟨w.heap.size,0,none⟩=some (.bool b):=by rw [<- az];simp [go_sem]
  have q0_0:W0.frozen? ⟨w.heap.size,0,none⟩=false:=by rw [<- az];simp [go_sem]
  have d8:W0.cell? ⟨w.heap.size,1,none⟩=some (.slice a0 n0 c0):=by rw [<- az];simp [go_sem]
  have q0_1:W0.frozen? ⟨w.heap.size,1,none⟩=false:=by rw [<- az];simp [go_sem]
  have d9:W0.cell? ⟨w.heap.size+1,0,none⟩=some (.bool b):=by rw [<- az];simp [go_sem]
  have q1_0:W0.frozen? ⟨w.heap.size+1,0,none⟩=false:=by rw [<- az];simp [go_sem]
  have ea:W0.cell? ⟨w.heap.size+1,1,none⟩=some (.slice a1 n1 c1):=by rw [<- az];simp [go_sem]
  have q1_1:W0.frozen? ⟨w.heap.size+1,1,none⟩=false:=by rw [<- az];simp [go_sem]
  have eb:W0.cell? ⟨w.heap.size+1+1,0,none⟩=some (.bool false):=by rw [<- az];simp [go_sem]
  have q2_0:W0.frozen? ⟨w.heap.size+1+1,0,none⟩=false:=by rw [<- az];simp [go_sem]
  have ec:W0.cell? ⟨w.heap.size+1+1,1,none⟩=some (.slice none 0 0):=by rw [<- az];simp [go_sem]
  have q2_1:W0.frozen? ⟨w.heap.size+1+1,1,none⟩=false:=by rw [<- az];simp [go_sem]
  have jp:W0.cell? ⟨w.heap.size+1+1+1,0,none⟩=some (.func (.func 159) #[] #[]):=by rw [<- az];simp [go_sem]
  have q3_0:W0.frozen? ⟨w.heap.size+1+1+1,0,none⟩=false:=by rw [<- az];simp [go_sem]
  have zs:w.heap.size+1+1+1<W0.heap.size:=by rw [<- az];simp
  have zb:Below w.heap.size w W0:=by rw [<- az];exact bS (bS (bS (bN _ _) (bN _ _)) (bN _ _)) (bN _ _)
  rw [az]
  clear az
  have g0:=ha.to zb
  have g1:=hb.to zb
  have zs':w.heap.size+1+1<W0.heap.size:=by omega
  refine (ziw b b _ _ la lb _ g0 g1 hla hlb).mono ?_
  rintro e w3 ⟨v3,rfl,hv3,bs⟩
  obtain ⟨a3_,n3_,c3_,rfl,_,_⟩:=hv3.rd.open
  have bV:=bs
  have x0_0r:=(bV.cell (p:=⟨w.heap.size,0,none⟩) (by show w.heap.size<W0.heap.size;omega)).trans d7
  have y0_0r:=(bV.frozen (p:=⟨w.heap.size,0,none⟩) (by show w.heap.size<W0.heap.size;omega)).trans q0_0
  have x0_1r:=(bV.cell (p:=⟨w.heap.size,1,none⟩) (by show w.heap.size<W0.heap.size;omega)).trans d8
  have y0_1r:=(bV.frozen (p:=⟨w.heap.size,1,none⟩) (by show w.heap.size<W0.heap.size;omega)).trans q0_1
  have x1_0r:=(bV.cell (p:=⟨w.heap.size+1,0,none⟩) (by show w.heap.size+1<W0.heap.size;omega)).trans d9
  have y1_0r:=(bV.frozen (p:=⟨w.heap.size+1,0,none⟩) (by show w.heap.size+1<W0.heap.size;omega)).trans q1_0
  have x1_1r:=(bV.cell (p:=⟨w.heap.size+1,1,none⟩) (by show w.heap.size+1<W0.heap.size;omega)).trans ea
  have y1_1r:=(bV.frozen (p:=⟨w.heap.size+1,1,none⟩) (by show w.heap.size+1<W0.heap.size;omega)).trans q1_1
  have x2_0r:=(bV.cell (p:=⟨w.heap.size+1+1,0,none⟩) (by show w.heap.size+1+1<W0.heap.size;omega)).trans eb
  have y2_0r:=(bV.frozen (p:=⟨w.heap.size+1+1,0,none⟩) (by show w.heap.size+1+1<W0.heap.size;omega)).trans q2_0
  have x2_1r:=(bV.cell (p:=⟨w.heap.size+1+1,1,none⟩) (by show w.heap.size+1+1<W0.heap.size;omega)).trans ec
  have y2_1r:=(bV.frozen (p:=⟨w.heap.size+1+1,1,none⟩) (by show w.heap.size+1+1<W0.heap.size;omega)).trans q2_1
  have x3_0r:=(bV.cell (p:=⟨w.heap.size+1+1+1,0,none⟩) (by show w.heap.size+1+1+1<W0.heap.size;omega)).trans jp
  have y3_0r:=(bV.frozen (p:=⟨w.heap.size+1+1+1,0,none⟩) (by show w.heap.size+1+1+1<W0.heap.size;omega)).trans q3_0
  generalize hng:decide (sgn b (val la+val lb)<0)=ng
  have Hng:=Lib.hid hng
  clear hng
  go_wp2_with fail
  have e:=Hng.out
  subst e
  obtain ⟨k0,k1⟩:=zN (x:=.bool (decide (sgn b (val la+val lb)<0))) (y:=.slice a3_ n3_ c3_) x2_0r x2_1r
  exact bodyPost_ret (zE Tryz.results143 _ _ _ _ _ rfl k0 k1) rfl (finI zb (by omega) zs' hv3 bV)
 ·have hbe:(b == c)=false:=beq_eq_false_iff_ne.2 hbc
  go_enter Tryz.func143,Tryz.ntmps143
  go_wp2_with fail
  obtain ⟨W0,az⟩:∃ W0,(((w.alloc (.cells #[.bool b,.slice a0 n0 c0] 95)).alloc (.cells #[.bool c,.slice a1 n1 c1] 95)).alloc (.cells #[.bool false,.slice none 0 0] 95)).alloc (.cells #[.func (.func 158) #[] #[]] 177)=W0:=⟨_,rfl⟩
  have d7:W0.cell? ⟨w.heap.size,0,none⟩=some (.bool b):=by rw [<- az];simp [go_sem]
  have q0_0:W0.frozen? ⟨w.heap.size,0,none⟩=false:=by rw [<- az];simp [go_sem]
  have d8:W0.cell? ⟨w.heap.size,1,none⟩=some (.slice a0 n0 c0):=by rw [<- az];simp [go_sem]
  have q0_1:W0.frozen? ⟨w.heap.size,1,none⟩=false:=by rw [<- az];simp [go_sem]
  have d9:W0.cell? ⟨w.heap.size+1,0,none⟩=some (.bool c):=by rw [<- az];simp [go_sem]
  have q1_0:W0.frozen? ⟨w.heap.size+1,0,none⟩=false:=by rw [<- az];simp [go_sem]
  have ea:W0.cell? ⟨w.heap.size+1,1,none⟩=some (.slice a1 n1 c1):=by rw [<- az];simp [go_sem]
  have q1_1:W0.frozen? ⟨w.heap.size+1,1,none⟩=false:=by rw [<- az];simp [go_sem]
  have eb:W0.cell? ⟨w.heap.size+1+1,0,none⟩=some (.bool false):=by rw [<- az];simp [go_sem]
  have q2_0:W0.frozen? ⟨w.heap.size+1+1,0,none⟩=false:=by rw [<- az];simp [go_sem]
  have ec:W0.cell? ⟨w.heap.size+1+1,1,none⟩=some (.slice none 0 0):=by rw [<- az];simp [go_sem]
  have q2_1:W0.frozen? ⟨w.heap.size+1+1,1,none⟩=false:=by rw [<- az];simp [go_sem]
  have jp:W0.cell? ⟨w.heap.size+1+1+1,0,none⟩=some (.func (.func 158) #[] #[]):=by rw [<- az];simp [go_sem]
  have q3_0:W0.frozen? ⟨w.heap.size+1+1+1,0,none⟩=false:=by rw [<- az];simp [go_sem]
  have zs:w.heap.size+1+1+1<W0.heap.size:=by rw [<- az];simp
  have zb:Below w.heap.size w W0:=by rw [<- az];exact bS (bS (bS (bN _ _) (bN _ _)) (bN _ _)) (bN _ _)
  rw [az]
  clear az
  have g0:=ha.to zb
  have g1:=hb.to zb
  have zs':w.heap.size+1+1<W0.heap.size:=by omega
  refine (zhx b c _ _ la lb _ g0 g1 hla hlb hbc).mono ?_
  rintro e w3 ⟨v3,rfl,hv3,bs⟩
  obtain ⟨a3_,n3_,c3_,rfl,_,_⟩:=hv3.rd.open
  have bV:=bs
  have x0_0r:=(bV.cell (p:=⟨w.heap.size,0,none⟩) (by show w.heap.size<W0.heap.size;omega)).trans d7
  have y0_0r:=(bV.frozen (p:=⟨w.heap.size,0,none⟩) (by show w.heap.size<W0.heap.size;omega)).trans q0_0
  have x0_1r:=(bV.cell (p:=⟨w.heap.size,1,none⟩) (by show w.heap.size<W0.heap.size;omega)).trans d8
  have y0_1r:=(bV.frozen (p:=⟨w.heap.size,1,none⟩) (by show w.heap.size<W0.heap.size;omega)).trans q0_1
  have x1_0r:=(bV.cell (p:=⟨w.heap.size+1,0,none⟩) (by show w.heap.size+1<W0.heap.size;omega)).trans d9
  have y1_0r:=(bV.frozen (p:=⟨w.heap.size+1,0,none⟩) (by show w.heap.size+1<W0.heap.size;omega)).trans q1_0
  have x1_1r:=(bV.cell (p:=⟨w.heap.size+1,1,none⟩) (by show w.heap.size+1<W0.heap.size;omega)).trans ea
  have y1_1r:=(bV.frozen (p:=⟨w.heap.size+1,1,none⟩) (by show w.heap.size+1<W0.heap.size;omega)).trans q1_1
  have x2_0r:=(bV.cell (p:=⟨w.heap.size+1+1,0,none⟩) (by show w.heap.size+1+1<W0.heap.size;omega)).trans eb
  have y2_0r:=(bV.frozen (p:=⟨w.heap.size+1+1,0,none⟩) (by show w.heap.size+1+1<W0.heap.size;omega)).trans q2_0
  have x2_1r:=(bV.cell (p:=⟨w.heap.size+1+1,1,none⟩) (by show w.heap.size+1+1<W0.heap.size;omega)).trans ec
  have y2_1r:=(bV.frozen (p:=⟨w.heap.size+1+1,1,none⟩) (by show w.heap.size+1+1<W0.heap.size;omega)).trans q2_1
  have x3_0r:=(bV.cell (p:=⟨w.heap.size+1+1+1,0,none⟩) (by show w.heap.size+1+1+1<W0.heap.size;omega)).trans jp
  have y3_0r:=(bV.frozen (p:=⟨w.heap.size+1+1+1,0,none⟩) (by show w.heap.size+1+1+1<W0.heap.size;omega)).trans q3_0
  generalize hng:decide (sgn b (val la)+sgn c (val lb)<0)=ng
  have Hng:=Lib.hid hng
  clear hng
  go_wp2_with fail
  have e:=Hng.out
  subst e
  obtain ⟨k0,k1⟩:=zN (x:=.bool (decide (sgn b (val la)+sgn c (val lb)<0))) (y:=.slice a3_ n3_ c3_) x2_0r x2_1r
  exact bodyPost_ret (zE Tryz.results143 _ _ _ _ _ rfl k0 k1) rfl (finI zb (by omega) zs' hv3 bV)

end Go.Proofs.YtkjcdnlpjldhaaaGreat


namespace Go.Proofs.YtkjcdnlpjldhaaaGreat
open Go.RowKit Tw
attribute [local go_sem ↓] Go.wp_at_zero Go.wp_at_succ

theorem zdv {w w2:World} {B rb:Nat} {z:Int} {v:Value} (fq:Below w.heap.size w w2) (hrb:w.heap.size<=rb) (hrb1:rb<B) (hB:w.heap.size<=B) (hv:Own B w2 v (zc z.natAbs)) :
  zby w z (.returned (aggI (decide (z<0)) v)) ((w2.setCell ⟨rb,0,none⟩ (.bool (decide (z<0)))).setCell ⟨rb,1,none⟩ v) :=
 ⟨v,rfl,((hv.setOther (p:=⟨rb,0,none⟩) hrb1 _).setOther (p:=⟨rb,1,none⟩) hrb1 _).mono hB,(fq.setCell (p:=⟨rb,0,none⟩) hrb _).setCell (p:=⟨rb,1,none⟩) hrb _⟩

theorem whole_of (n z:Int) (w:World) (hz:z=n) (n0:-9223372036854775808<=n) (n1:n<9223372036854775808) :
  Calls Tryz.prog 61 #[.int .i64 n] w (zby w z):=by
 by_cases hn:n<0
 ·obtain rfl:z=sgn true (val (zc (val (zc (-(n+1)).toNat)+val (zc (1:Int).toNat)))):=by rw [vL,vL,vL,ziy];omega
  have hlen:∀ m:Nat,m<=18446744073709551616->sz m<=3:=fun m hm => by
   have:=zak hm
   rw [show sz 18446744073709551616=3 by decide +kernel] at this
   exact this
  have hl1:=hlen (-(n+1)).toNat (by omega)
  have hl2:=hlen (1:Int).toNat (by omega)
  have hl3:=hlen ((-(n+1)).toNat+(1:Int).toNat) (by omega)
  clear hlen
  go_enter Tryz.func61,Tryz.ntmps61
  go_wp2_with fail
  obtain ⟨W0,az⟩:∃ W0,w.alloc (.cells #[.bool false,.slice none 0 0] 95)=W0:=⟨_,rfl⟩
  have ac:W0.cell? ⟨w.heap.size,0,none⟩=some (.bool false):=by rw [<- az];simp [go_sem]
  have ag:W0.frozen? ⟨w.heap.size,0,none⟩=false:=by rw [<- az];simp [go_sem]
  have ae:W0.cell? ⟨w.heap.size,1,none⟩=some (.slice none 0 0):=by rw [<- az];simp [go_sem]
  have ah:W0.frozen? ⟨w.heap.size,1,none⟩=false:=by rw [<- az];simp [go_sem]
  have zs:w.heap.size<W0.heap.size:=by rw [<- az];simp
  have zb:Below w.heap.size w W0:=by rw [<- az];exact bN _ _
  rw [az]
  clear az
  refine (zcL _ _ (by omega) (by omega)).mono ?_
  rintro e w1 ⟨v1,rfl,hv1,bd⟩
  obtain ⟨a1_,n1_,c1_,rfl,H1,hm1⟩:=hv1.rd.open
  have hr_w1:w.heap.size<W0.heap.size:=(by omega)
  have hw_w1:w.heap.size<=W0.heap.size:=(by omega)
  replace ac:=(bd.cell (p:=⟨w.heap.size,0,none⟩) (by show w.heap.size<W0.heap.size;omega)).trans ac
  replace ag:=(bd.frozen (p:=⟨w.heap.size,0,none⟩) (by show w.heap.size<W0.heap.size;omega)).trans ag
  replace ae:=(bd.cell (p:=⟨w.heap.size,1,none⟩) (by show w.heap.size<W0.heap.size;omega)).trans ae
  replace ah:=(bd.frozen (p:=⟨w.heap.size,1,none⟩) (by show w.heap.size<W0.heap.size;omega)).trans ah
  replace zs:=Nat.lt_of_lt_of_le zs bd.size
  replace zb:=bS zb bd
  have g1:=hv1.rd
  go_wp2_with fail
  refine (zcL _ _ (by omega) (by omega)).mono ?_
  rintro e w2 ⟨v2,rfl,hv2,aN⟩
  obtain ⟨a2_,n2_,c2_,rfl,H2,hm2⟩:=hv2.rd.open
  have hr_w2:w.heap.size<w1.heap.size:=(by omega)
  have hw_w2:w.heap.size<=w1.heap.size:=(by omega)
  replace ac:=(aN.cell (p:=⟨w.heap.size,0,none⟩) (by show w.heap.size<w1.heap.size;omega)).trans ac
  replace ag:=(aN.frozen (p:=⟨w.heap.size,0,none⟩) (by show w.heap.size<w1.heap.size;omega)).trans ag
  replace ae:=(aN.cell (p:=⟨w.heap.size,1,none⟩) (by show w.heap.size<w1.heap.size;omega)).trans ae
  replace ah:=(aN.frozen (p:=⟨w.heap.size,1,none⟩) (by show w.heap.size<w1.heap.size;omega)).trans ah
  replace zs:=Nat.lt_of_lt_of_le zs aN.size
  replace g1:=g1.to aN
  replace zb:=bS zb aN
  have g2:=hv2.rd
  go_wp2_with fail
  refine (zkt _ _ _ _ _ g1 g2 (by rw [ze];omega) (by rw [ze];omega)).mono ?_
  rintro e w3 ⟨v3,rfl,hv3,bs⟩
  obtain ⟨a3_,n3_,c3_,rfl,H3,hm3⟩:=hv3.rd.open
  have hr_w3:w.heap.size<w2.heap.size:=(by omega)
  have hw_w3:w.heap.size<=w2.heap.size:=(by omega)
  replace ac:=(bs.cell (p:=⟨w.heap.size,0,none⟩) (by show w.heap.size<w2.heap.size;omega)).trans ac
  replace ag:=(bs.frozen (p:=⟨w.heap.size,0,none⟩) (by show w.heap.size<w2.heap.size;omega)).trans ag
  replace ae:=(bs.cell (p:=⟨w.heap.size,1,none⟩) (by show w.heap.size<w2.heap.size;omega)).trans ae
  replace ah:=(bs.frozen (p:=⟨w.heap.size,1,none⟩) (by show w.heap.size<w2.heap.size;omega)).trans ah
  replace zs:=Nat.lt_of_lt_of_le zs bs.size
  replace g1:=g1.to bs
  replace g2:=g2.to bs
  replace zb:=bS zb bs
  have g3:=hv3.rd
  go_wp2_with fail
  refine (zaS true _ _ _ g3 (by rw [ze,vL,vL];omega)).mono ?_
  rintro e w4 ⟨v4,rfl,hv4,cG⟩
  obtain ⟨a4_,n4_,c4_,rfl,H4,hm4⟩:=hv4.rd.open
  have hr_w4:w.heap.size<w3.heap.size:=(by omega)
  have hw_w4:w.heap.size<=w3.heap.size:=(by omega)
  replace ac:=(cG.cell (p:=⟨w.heap.size,0,none⟩) (by show w.heap.size<w3.heap.size;omega)).trans ac
  replace ag:=(cG.frozen (p:=⟨w.heap.size,0,none⟩) (by show w.heap.size<w3.heap.size;omega)).trans ag
  replace ae:=(cG.cell (p:=⟨w.heap.size,1,none⟩) (by show w.heap.size<w3.heap.size;omega)).trans ae
  replace ah:=(cG.frozen (p:=⟨w.heap.size,1,none⟩) (by show w.heap.size<w3.heap.size;omega)).trans ah
  replace zs:=Nat.lt_of_lt_of_le zs cG.size
  replace g1:=g1.to cG
  replace g2:=g2.to cG
  replace g3:=g3.to cG
  replace zb:=bS zb cG
  have g4:=hv4.rd
  generalize hng4:decide (sgn true (val (zc (val (zc (-(n+1)).toNat)+val (zc (1:Int).toNat))))<0)=ng4
  have Hng4:=Lib.hid hng4
  clear hng4
  go_wp2_with fail
  have e4:=Hng4.out
  subst e4
  obtain ⟨k0,k1⟩:=zN (x:=.bool (decide (sgn true (val (zc (val (zc (-(n+1)).toNat)+val (zc (1:Int).toNat))))<0))) (y:=.slice a4_ n4_ c4_) ac ae
  exact bodyPost_ret (zE Tryz.results61 _ _ _ _ _ rfl k0 k1) rfl (zdv zb (by omega) hr_w4 hw_w4 hv4)
 ·obtain rfl:z=sgn false (val (zc n.toNat)):=by rw [vL,zcd];omega
  have hl1:sz n.toNat<=3:=by
   have:=zak (show n.toNat<=18446744073709551616 by omega)
   rw [show sz 18446744073709551616=3 by decide +kernel] at this
   exact this
  go_enter Tryz.func61,Tryz.ntmps61
  go_wp2_with fail
  obtain ⟨W0,az⟩:∃ W0,w.alloc (.cells #[.bool false,.slice none 0 0] 95)=W0:=⟨_,rfl⟩
  have ac:W0.cell? ⟨w.heap.size,0,none⟩=some (.bool false):=by rw [<- az];simp [go_sem]
  have ag:W0.frozen? ⟨w.heap.size,0,none⟩=false:=by rw [<- az];simp [go_sem]
  have ae:W0.cell? ⟨w.heap.size,1,none⟩=some (.slice none 0 0):=by rw [<- az];simp [go_sem]
  have ah:W0.frozen? ⟨w.heap.size,1,none⟩=false:=by rw [<- az];simp [go_sem]
  have zs:w.heap.size<W0.heap.size:=by rw [<- az];simp
  have zb:Below w.heap.size w W0:=by rw [<- az];exact bN _ _
  rw [az]
  clear az
  refine (zcL _ _ (by omega) (by omega)).mono ?_
  rintro e w1 ⟨v1,rfl,hv1,bd⟩
  obtain ⟨a1_,n1_,c1_,rfl,H1,hm1⟩:=hv1.rd.open
  have hr_w1:w.heap.size<W0.heap.size:=(by omega)
  have hw_w1:w.heap.size<=W0.heap.size:=(by omega)
  replace ac:=(bd.cell (p:=⟨w.heap.size,0,none⟩) (by show w.heap.size<W0.heap.size;omega)).trans ac
  replace ag:=(bd.frozen (p:=⟨w.heap.size,0,none⟩) (by show w.heap.size<W0.heap.size;omega)).trans ag
  replace ae:=(bd.cell (p:=⟨w.heap.size,1,none⟩) (by show w.heap.size<W0.heap.size;omega)).trans ae
  replace ah:=(bd.frozen (p:=⟨w.heap.size,1,none⟩) (by show w.heap.size<W0.heap.size;omega)).trans ah
  replace zs:=Nat.lt_of_lt_of_le zs bd.size
  replace zb:=bS zb bd
  have g1:=hv1.rd
  go_wp2_with fail
  refine (zaS false _ _ _ g1 (by rw [ze];omega)).mono ?_
  rintro e w4 ⟨v4,rfl,hv4,cG⟩
  obtain ⟨a4_,n4_,c4_,rfl,H4,hm4⟩:=hv4.rd.open
  have hr_w4:w.heap.size<w1.heap.size:=(by omega)
  have hw_w4:w.heap.size<=w1.heap.size:=(by omega)
  replace ac:=(cG.cell (p:=⟨w.heap.size,0,none⟩) (by show w.heap.size<w1.heap.size;omega)).trans ac
  replace ag:=(cG.frozen (p:=⟨w.heap.size,0,none⟩) (by show w.heap.size<w1.heap.size;omega)).trans ag
  replace ae:=(cG.cell (p:=⟨w.heap.size,1,none⟩) (by show w.heap.size<w1.heap.size;omega)).trans ae
  replace ah:=(cG.frozen (p:=⟨w.heap.size,1,none⟩) (by show w.heap.size<w1.heap.size;omega)).trans ah
  replace zs:=Nat.lt_of_lt_of_le zs cG.size
  replace g1:=g1.to cG
  replace zb:=bS zb cG
  have g4:=hv4.rd
  generalize hng4:decide (sgn false (val (zc n.toNat))<0)=ng4
  have Hng4:=Lib.hid hng4
  clear hng4
  go_wp2_with fail
  have e4:=Hng4.out
  subst e4
  obtain ⟨k0,k1⟩:=zN (x:=.bool (decide (sgn false (val (zc n.toNat))<0))) (y:=.slice a4_ n4_ c4_) ac ae
  exact bodyPost_ret (zE Tryz.results61 _ _ _ _ _ rfl k0 k1) rfl (zdv zb (by omega) hr_w4 hw_w4 hv4)

end Go.Proofs.YtkjcdnlpjldhaaaGreat


namespace Go.Proofs.YtkjcdnlpjldhaaaGreat
open Go.RowKit Tw
attribute [local go_sem ↓] Go.wp_at_zero Go.wp_at_succ

theorem zeb (b:Bool) (va:Value) (la:List Nat) (w:World) (ha:Rd w va la) (hla:la.length<=1000000) :
  Calls Tryz.prog 123 #[aggI b va] w (zby w (sgn b (val la))):=by
 have H8:=Lib.hid (zdn b (val la))
 obtain ⟨a0,n0,c0,rfl,H0,hm0⟩:=ha.open
 go_enter Tryz.func123,Tryz.ntmps123
 go_wp2_with fail
 obtain ⟨W0,az⟩:∃ W0,(w.alloc (.cells #[.bool b,.slice a0 n0 c0] 95)).alloc (.cells #[.bool false,.slice none 0 0] 95)=W0:=⟨_,rfl⟩
 have ac:W0.cell? ⟨w.heap.size,0,none⟩=some (.bool b):=by rw [<- az];simp [go_sem]
 have ag:W0.frozen? ⟨w.heap.size,0,none⟩=false:=by rw [<- az];simp [go_sem]
 have ae:W0.cell? ⟨w.heap.size,1,none⟩=some (.slice a0 n0 c0):=by rw [<- az];simp [go_sem]
 have ah:W0.frozen? ⟨w.heap.size,1,none⟩=false:=by rw [<- az];simp [go_sem]
 have ak:W0.cell? ⟨w.heap.size+1,0,none⟩=some (.bool false):=by rw [<- az];simp [go_sem]
 have ap:W0.frozen? ⟨w.heap.size+1,0,none⟩=false:=by rw [<- az];simp [go_sem]
 have al:W0.cell? ⟨w.heap.size+1,1,none⟩=some (.slice none 0 0):=by rw [<- az];simp [go_sem]
 have aq:W0.frozen? ⟨w.heap.size+1,1,none⟩=false:=by rw [<- az];simp [go_sem]
 have zs:w.heap.size+1<W0.heap.size:=by rw [<- az];simp
 have zb:Below w.heap.size w W0:=by rw [<- az];exact bS (bN _ _) (bN _ _)
 rw [az]
 clear az
 have g0:=ha.to zb
 refine (zT _ la _ g0 (by omega)).mono ?_
 rintro e w2 ⟨v2,rfl,hv2,aN⟩
 obtain ⟨a2_,n2_,c2_,rfl,H2,hm2⟩:=hv2.rd.open
 have hr_w2:w.heap.size+1<W0.heap.size:=(by omega)
 have hw_w2:w.heap.size<=W0.heap.size:=(by omega)
 replace ac:=(aN.cell (p:=⟨w.heap.size,0,none⟩) (by show w.heap.size<W0.heap.size;omega)).trans ac
 replace ag:=(aN.frozen (p:=⟨w.heap.size,0,none⟩) (by show w.heap.size<W0.heap.size;omega)).trans ag
 replace ae:=(aN.cell (p:=⟨w.heap.size,1,none⟩) (by show w.heap.size<W0.heap.size;omega)).trans ae
 replace ah:=(aN.frozen (p:=⟨w.heap.size,1,none⟩) (by show w.heap.size<W0.heap.size;omega)).trans ah
 replace ak:=(aN.cell (p:=⟨w.heap.size+1,0,none⟩) (by show w.heap.size+1<W0.heap.size;omega)).trans ak
 replace ap:=(aN.frozen (p:=⟨w.heap.size+1,0,none⟩) (by show w.heap.size+1<W0.heap.size;omega)).trans ap
 replace al:=(aN.cell (p:=⟨w.heap.size+1,1,none⟩) (by show w.heap.size+1<W0.heap.size;omega)).trans al
 replace aq:=(aN.frozen (p:=⟨w.heap.size+1,1,none⟩) (by show w.heap.size+1<W0.heap.size;omega)).trans aq
 replace zs:=Nat.lt_of_lt_of_le zs aN.size
 replace g0:=g0.to aN
 replace zb:=bS zb aN
 have g2:=hv2.rd
 have H9:=Lib.hid (ziq (b:=b) H2.out)
 rw [<- H8.out] at hv2
 cases b
 ·go_wp2_with fail
  obtain ⟨k0,k1⟩:=zN (x:=.bool false) (y:=.slice a2_ n2_ c2_) ak al
  have h9:=H9.out
  rw [Bool.false_and] at h9
  have hfin:=zdv zb (by omega) hr_w2 hw_w2 hv2
  rw [h9] at hfin
  exact bodyPost_ret (zE Tryz.results123 _ _ _ _ _ rfl k0 k1) rfl hfin
 ·go_wp2_with fail
  obtain ⟨k0,k1⟩:=zN (x:=.bool (decide (0<n2_))) (y:=.slice a2_ n2_ c2_) ak al
  have h9:=H9.out
  rw [Bool.true_and] at h9
  have hfin:=zdv zb (by omega) hr_w2 hw_w2 hv2
  rw [h9] at hfin
  exact bodyPost_ret (zE Tryz.results123 _ _ _ _ _ rfl k0 k1) rfl hfin

theorem ref7_of (n z:Int) (w:World) (hz:z=n) (n0:-9223372036854775808<=n) (n1:n<9223372036854775808) :
  Calls Tryz.prog 48 #[.int .i64 n] w (zby w z):=by
 by_cases hn:0<=n
 ·have hd:decide (z<0)=false:=by simp;omega
  have ha:z.natAbs=(n).toNat:=by omega
  
  go_enter Tryz.func48,Tryz.ntmps48
  go_wp2_with fail
  obtain ⟨W0,az⟩:∃ W0,w.alloc (.cells #[.bool false,.slice none 0 0] 95)=W0:=⟨_,rfl⟩
  have ac:W0.cell? ⟨w.heap.size,0,none⟩=some (.bool false):=by rw [<- az];simp [go_sem]
  have ag:W0.frozen? ⟨w.heap.size,0,none⟩=false:=by rw [<- az];simp [go_sem]
  have ae:W0.cell? ⟨w.heap.size,1,none⟩=some (.slice none 0 0):=by rw [<- az];simp [go_sem]
  have ah:W0.frozen? ⟨w.heap.size,1,none⟩=false:=by rw [<- az];simp [go_sem]
  have zs:w.heap.size<W0.heap.size:=by rw [<- az];simp
  have zb:Below w.heap.size w W0:=by rw [<- az];exact bN _ _
  rw [az]
  clear az
  refine (zkC (n) _ (by omega) (by omega)).mono ?_
  rintro e w2 ⟨v2,rfl,hv2,aN⟩
  obtain ⟨a2_,n2_,c2_,rfl,H2,hm2⟩:=hv2.rd.open
  have hr_w2:w.heap.size<W0.heap.size:=(by omega)
  have hw_w2:w.heap.size<=W0.heap.size:=(by omega)
  replace ac:=(aN.cell (p:=⟨w.heap.size,0,none⟩) (by show w.heap.size<W0.heap.size;omega)).trans ac
  replace ag:=(aN.frozen (p:=⟨w.heap.size,0,none⟩) (by show w.heap.size<W0.heap.size;omega)).trans ag
  replace ae:=(aN.cell (p:=⟨w.heap.size,1,none⟩) (by show w.heap.size<W0.heap.size;omega)).trans ae
  replace ah:=(aN.frozen (p:=⟨w.heap.size,1,none⟩) (by show w.heap.size<W0.heap.size;omega)).trans ah
  replace zs:=Nat.lt_of_lt_of_le zs aN.size
  replace zb:=bS zb aN
  have g2:=hv2.rd
  go_wp2_with fail
  obtain ⟨k0,k1⟩:=zN (x:=.bool false) (y:=.slice a2_ n2_ c2_) ac ae
  rw [<- ha] at hv2
  have hfin:=zdv zb (by omega) hr_w2 hw_w2 hv2
  rw [hd] at hfin
  exact bodyPost_ret (zE Tryz.results48 _ _ _ _ _ rfl k0 k1) rfl hfin
 ·have hd:decide (z<0)=true:=by simp;omega
  have ha:z.natAbs=(-n).toNat:=by omega
  
  have Hw:IntKind.u64.wrap (-IntKind.u64.wrap n)=-n:=by
   show (-(n % 18446744073709551616)) % 18446744073709551616=-n
   omega
  go_enter Tryz.func48,Tryz.ntmps48
  go_wp2_with fail
  obtain ⟨W0,az⟩:∃ W0,w.alloc (.cells #[.bool false,.slice none 0 0] 95)=W0:=⟨_,rfl⟩
  have ac:W0.cell? ⟨w.heap.size,0,none⟩=some (.bool false):=by rw [<- az];simp [go_sem]
  have ag:W0.frozen? ⟨w.heap.size,0,none⟩=false:=by rw [<- az];simp [go_sem]
  have ae:W0.cell? ⟨w.heap.size,1,none⟩=some (.slice none 0 0):=by rw [<- az];simp [go_sem]
  have ah:W0.frozen? ⟨w.heap.size,1,none⟩=false:=by rw [<- az];simp [go_sem]
  have zs:w.heap.size<W0.heap.size:=by rw [<- az];simp
  have zb:Below w.heap.size w W0:=by rw [<- az];exact bN _ _
  rw [az]
  clear az
  refine (zkC (-n) _ (by omega) (by omega)).mono ?_
  rintro e w2 ⟨v2,rfl,hv2,aN⟩
  obtain ⟨a2_,n2_,c2_,rfl,H2,hm2⟩:=hv2.rd.open
  have hr_w2:w.heap.size<W0.heap.size:=(by omega)
  have hw_w2:w.heap.size<=W0.heap.size:=(by omega)
  replace ac:=(aN.cell (p:=⟨w.heap.size,0,none⟩) (by show w.heap.size<W0.heap.size;omega)).trans ac
  replace ag:=(aN.frozen (p:=⟨w.heap.size,0,none⟩) (by show w.heap.size<W0.heap.size;omega)).trans ag
  replace ae:=(aN.cell (p:=⟨w.heap.size,1,none⟩) (by show w.heap.size<W0.heap.size;omega)).trans ae
  replace ah:=(aN.frozen (p:=⟨w.heap.size,1,none⟩) (by show w.heap.size<W0.heap.size;omega)).trans ah
  replace zs:=Nat.lt_of_lt_of_le zs aN.size
  replace zb:=bS zb aN
  have g2:=hv2.rd
  go_wp2_with fail
  obtain ⟨k0,k1⟩:=zN (x:=.bool true) (y:=.slice a2_ n2_ c2_) ac ae
  rw [<- ha] at hv2
  have hfin:=zdv zb (by omega) hr_w2 hw_w2 hv2
  rw [hd] at hfin
  exact bodyPost_ret (zE Tryz.results48 _ _ _ _ _ rfl k0 k1) rfl hfin

end Go.Proofs.YtkjcdnlpjldhaaaGreat


namespace Go.Proofs.YtkjcdnlpjldhaaaGreat
open Go.RowKit Tw
attribute [local go_sem ↓] Go.wp_at_zero Go.wp_at_succ

theorem ref7_add (b c:Bool) (va vb:Value) (la lb:List Nat) (w:World) (ha:Rd w va la) (hb:Rd w vb lb) (hla:la.length<=90000) (hlb:lb.length<=90000) :
  Calls Tryz.prog 99 #[aggI b va,aggI c vb] w (zby w (sgn b (val la)+sgn c (val lb))):=by
 have hsa:=zv ha.1
 have hsb:=zv hb.1
 have hs:=zcZ (val la) (val lb)
 have hm:=zaf (val la) (val lb)
 have hd1:=zbs (val la) (val lb)
 have hd2:=zbs (val lb) (val la)
 obtain ⟨a0,n0,c0,rfl,H0,hm0⟩:=ha.open
 obtain ⟨a1,n1,c1,rfl,H1,hm1⟩:=hb.open
 by_cases hbc:b=c
 ·subst hbc
  rw [<- zje,show sgn b (val la+val lb)=sgn b (val (zc (val la+val lb))) by rw [vL]]
  go_enter Tryz.func99,Tryz.ntmps99
  go_wp2_with fail
  obtain ⟨W0,az⟩:∃ W0,((w.alloc (.cells #[.bool b,.slice a0 n0 c0] 95)).alloc (.cells #[.bool b,.slice a1 n1 c1] 95)).alloc (.cells #[.bool false,.slice none 0 0] 95)=W0:=⟨_,rfl⟩
  have ac:W0.cell? ⟨w.heap.size,0,none⟩=some (.bool b):=by rw [<- az];simp [go_sem]
  have ag:W0.frozen? ⟨w.heap.size,0,none⟩=false:=by rw [<- az];simp [go_sem]
  have ae:W0.cell? ⟨w.heap.size,1,none⟩=some (.slice a0 n0 c0):=by rw [<- az];simp [go_sem]
  have ah:W0.frozen? ⟨w.heap.size,1,none⟩=false:=by rw [<- az];simp [go_sem]
  have ak:W0.cell? ⟨w.heap.size+1,0,none⟩=some (.bool b):=by rw [<- az];simp [go_sem]
  have ap:W0.frozen? ⟨w.heap.size+1,0,none⟩=false:=by rw [<- az];simp [go_sem]
  have al:W0.cell? ⟨w.heap.size+1,1,none⟩=some (.slice a1 n1 c1):=by rw [<- az];simp [go_sem]
  have aq:W0.frozen? ⟨w.heap.size+1,1,none⟩=false:=by rw [<- az];simp [go_sem]
  have aH:W0.cell? ⟨w.heap.size+1+1,0,none⟩=some (.bool false):=by rw [<- az];simp [go_sem]
  have aK:W0.frozen? ⟨w.heap.size+1+1,0,none⟩=false:=by rw [<- az];simp [go_sem]
  have aI:W0.cell? ⟨w.heap.size+1+1,1,none⟩=some (.slice none 0 0):=by rw [<- az];simp [go_sem]
  have aL:W0.frozen? ⟨w.heap.size+1+1,1,none⟩=false:=by rw [<- az];simp [go_sem]
  have zs:w.heap.size+1+1<W0.heap.size:=by rw [<- az];simp
  have zb:Below w.heap.size w W0:=by rw [<- az];exact bS (bS (bN _ _) (bN _ _)) (bN _ _)
  rw [az]
  clear az
  have g0:=ha.to zb
  have g1:=hb.to zb
  go_region_with (first
   | (go_at_call 124;have g0:=g0.drew;have g1:=g1.drew;have zb:=zb.drew;refine (ziV _ _ la lb _ g0 g1 (by omega) (by omega)).mono ?_;rintro e w2 ⟨v2,rfl,hv2,aN⟩;obtain ⟨a2_,n2_,c2_,rfl,H2,hm2⟩:=hv2.rd.open;have hr_w2:w.heap.size+1+1<W0.heap.size:=(by omega);have hw_w2:w.heap.size<=W0.heap.size:=(by omega);have ac:=(aN.cell (p:=⟨w.heap.size,0,none⟩) (by show w.heap.size<W0.heap.size;omega)).trans ac;have ag:=(aN.frozen (p:=⟨w.heap.size,0,none⟩) (by show w.heap.size<W0.heap.size;omega)).trans ag;have ae:=(aN.cell (p:=⟨w.heap.size,1,none⟩) (by show w.heap.size<W0.heap.size;omega)).trans ae;have ah:=(aN.frozen (p:=⟨w.heap.size,1,none⟩) (by show w.heap.size<W0.heap.size;omega)).trans ah;have ak:=(aN.cell (p:=⟨w.heap.size+1,0,none⟩) (by show w.heap.size+1<W0.heap.size;omega)).trans ak;have ap:=(aN.frozen (p:=⟨w.heap.size+1,0,none⟩) (by show w.heap.size+1<W0.heap.size;omega)).trans ap;have al:=(aN.cell (p:=⟨w.heap.size+1,1,none⟩) (by show w.heap.size+1<W0.heap.size;omega)).trans al;have aq:=(aN.frozen (p:=⟨w.heap.size+1,1,none⟩) (by show w.heap.size+1<W0.heap.size;omega)).trans aq;have aH:=(aN.cell (p:=⟨w.heap.size+1+1,0,none⟩) (by show w.heap.size+1+1<W0.heap.size;omega)).trans aH;have aK:=(aN.frozen (p:=⟨w.heap.size+1+1,0,none⟩) (by show w.heap.size+1+1<W0.heap.size;omega)).trans aK;have aI:=(aN.cell (p:=⟨w.heap.size+1+1,1,none⟩) (by show w.heap.size+1+1<W0.heap.size;omega)).trans aI;have aL:=(aN.frozen (p:=⟨w.heap.size+1+1,1,none⟩) (by show w.heap.size+1+1<W0.heap.size;omega)).trans aL;have zs:=Nat.lt_of_lt_of_le zs aN.size;have g0:=g0.to aN;have g1:=g1.to aN;have zb:=bS zb aN;have g2:=hv2.rd)
   | (go_at_call 123;refine (zeb b _ _ _ g2 (by rw [ze];omega)).mono ?_;rintro e w3 ⟨v3,rfl,hv3,bs⟩;obtain ⟨a3_,n3_,c3_,rfl,H3,hm3⟩:=hv3.rd.open;have hr_w3:w.heap.size+1+1<w2.heap.size:=(by omega);have hw_w3:w.heap.size<=w2.heap.size:=(by omega);have ac:=(bs.cell (p:=⟨w.heap.size,0,none⟩) (by show w.heap.size<w2.heap.size;omega)).trans ac;have ag:=(bs.frozen (p:=⟨w.heap.size,0,none⟩) (by show w.heap.size<w2.heap.size;omega)).trans ag;have ae:=(bs.cell (p:=⟨w.heap.size,1,none⟩) (by show w.heap.size<w2.heap.size;omega)).trans ae;have ah:=(bs.frozen (p:=⟨w.heap.size,1,none⟩) (by show w.heap.size<w2.heap.size;omega)).trans ah;have ak:=(bs.cell (p:=⟨w.heap.size+1,0,none⟩) (by show w.heap.size+1<w2.heap.size;omega)).trans ak;have ap:=(bs.frozen (p:=⟨w.heap.size+1,0,none⟩) (by show w.heap.size+1<w2.heap.size;omega)).trans ap;have al:=(bs.cell (p:=⟨w.heap.size+1,1,none⟩) (by show w.heap.size+1<w2.heap.size;omega)).trans al;have aq:=(bs.frozen (p:=⟨w.heap.size+1,1,none⟩) (by show w.heap.size+1<w2.heap.size;omega)).trans aq;have aH:=(bs.cell (p:=⟨w.heap.size+1+1,0,none⟩) (by show w.heap.size+1+1<w2.heap.size;omega)).trans aH;have aK:=(bs.frozen (p:=⟨w.heap.size+1+1,0,none⟩) (by show w.heap.size+1+1<w2.heap.size;omega)).trans aK;have aI:=(bs.cell (p:=⟨w.heap.size+1+1,1,none⟩) (by show w.heap.size+1+1<w2.heap.size;omega)).trans aI;have aL:=(bs.frozen (p:=⟨w.heap.size+1+1,1,none⟩) (by show w.heap.size+1+1<w2.heap.size;omega)).trans aL;have zs:=Nat.lt_of_lt_of_le zs bs.size;have g0:=g0.to bs;have g1:=g1.to bs;have g2:=g2.to bs;have zb:=bS zb bs;have g3:=hv3.rd;generalize hng3:decide (sgn b (val (zc (val la+val lb)))<0)=ng3;have Hng3:=Lib.hid hng3;clear hng3))
  all_goals
   go_wp2_with fail
   have e3:=Hng3.out
   subst e3
   obtain ⟨k0,k1⟩:=zN (x:=.bool (decide (sgn b (val (zc (val la+val lb)))<0))) (y:=.slice a3_ n3_ c3_) aH aI
   exact bodyPost_ret (zE Tryz.results99 _ _ _ _ _ rfl k0 k1) rfl (zdv zb (by omega) hr_w3 hw_w3 hv3)
 ·have hbe:(b == c)=false:=beq_eq_false_iff_ne.2 hbc
  by_cases hle:val lb<=val la
  ·rw [<- ziT hbc hle,show sgn b ((val la - val lb))=sgn b (val (zc (val la - val lb))) by rw [vL]]
   have hcm:0<=zaU (val la) (val lb):=by have:=zdH.2 hle;omega
   go_enter Tryz.func99,Tryz.ntmps99
   go_wp2_with fail
   obtain ⟨W0,az⟩:∃ W0,((w.alloc (.cells #[.bool b,.slice a0 n0 c0] 95)).alloc (.cells #[.bool c,.slice a1 n1 c1] 95)).alloc (.cells #[.bool false,.slice none 0 0] 95)=W0:=⟨_,rfl⟩
   have ac:W0.cell? ⟨w.heap.size,0,none⟩=some (.bool b):=by rw [<- az];simp [go_sem]
   have ag:W0.frozen? ⟨w.heap.size,0,none⟩=false:=by rw [<- az];simp [go_sem]
   have ae:W0.cell? ⟨w.heap.size,1,none⟩=some (.slice a0 n0 c0):=by rw [<- az];simp [go_sem]
   have ah:W0.frozen? ⟨w.heap.size,1,none⟩=false:=by rw [<- az];simp [go_sem]
   have ak:W0.cell? ⟨w.heap.size+1,0,none⟩=some (.bool c):=by rw [<- az];simp [go_sem]
   have ap:W0.frozen? ⟨w.heap.size+1,0,none⟩=false:=by rw [<- az];simp [go_sem]
   have al:W0.cell? ⟨w.heap.size+1,1,none⟩=some (.slice a1 n1 c1):=by rw [<- az];simp [go_sem]
   have aq:W0.frozen? ⟨w.heap.size+1,1,none⟩=false:=by rw [<- az];simp [go_sem]
   have aH:W0.cell? ⟨w.heap.size+1+1,0,none⟩=some (.bool false):=by rw [<- az];simp [go_sem]
   have aK:W0.frozen? ⟨w.heap.size+1+1,0,none⟩=false:=by rw [<- az];simp [go_sem]
   have aI:W0.cell? ⟨w.heap.size+1+1,1,none⟩=some (.slice none 0 0):=by rw [<- az];simp [go_sem]
   have aL:W0.frozen? ⟨w.heap.size+1+1,1,none⟩=false:=by rw [<- az];simp [go_sem]
   have zs:w.heap.size+1+1<W0.heap.size:=by rw [<- az];simp
   have zb:Below w.heap.size w W0:=by rw [<- az];exact bS (bS (bN _ _) (bN _ _)) (bN _ _)
   rw [az]
   clear az
   have g0:=ha.to zb
   have g1:=hb.to zb
   refine (zba _ _ _ _ _ g0 g1 (by omega) (by omega)).mono ?_
   rintro e w1 ⟨rfl,rfl⟩
   go_wp2_with fail
   refine (zdd _ _ la lb _ g0 g1 (by omega) (by omega) hle).mono ?_
   rintro e w2 ⟨v2,rfl,hv2,aN⟩
   obtain ⟨a2_,n2_,c2_,rfl,H2,hm2⟩:=hv2.rd.open
   have hr_w2:w.heap.size+1+1<W0.heap.size:=(by omega)
   have hw_w2:w.heap.size<=W0.heap.size:=(by omega)
   replace ac:=(aN.cell (p:=⟨w.heap.size,0,none⟩) (by show w.heap.size<W0.heap.size;omega)).trans ac
   replace ag:=(aN.frozen (p:=⟨w.heap.size,0,none⟩) (by show w.heap.size<W0.heap.size;omega)).trans ag
   replace ae:=(aN.cell (p:=⟨w.heap.size,1,none⟩) (by show w.heap.size<W0.heap.size;omega)).trans ae
   replace ah:=(aN.frozen (p:=⟨w.heap.size,1,none⟩) (by show w.heap.size<W0.heap.size;omega)).trans ah
   replace ak:=(aN.cell (p:=⟨w.heap.size+1,0,none⟩) (by show w.heap.size+1<W0.heap.size;omega)).trans ak
   replace ap:=(aN.frozen (p:=⟨w.heap.size+1,0,none⟩) (by show w.heap.size+1<W0.heap.size;omega)).trans ap
   replace al:=(aN.cell (p:=⟨w.heap.size+1,1,none⟩) (by show w.heap.size+1<W0.heap.size;omega)).trans al
   replace aq:=(aN.frozen (p:=⟨w.heap.size+1,1,none⟩) (by show w.heap.size+1<W0.heap.size;omega)).trans aq
   replace aH:=(aN.cell (p:=⟨w.heap.size+1+1,0,none⟩) (by show w.heap.size+1+1<W0.heap.size;omega)).trans aH
   replace aK:=(aN.frozen (p:=⟨w.heap.size+1+1,0,none⟩) (by show w.heap.size+1+1<W0.heap.size;omega)).trans aK
   replace aI:=(aN.cell (p:=⟨w.heap.size+1+1,1,none⟩) (by show w.heap.size+1+1<W0.heap.size;omega)).trans aI
   replace aL:=(aN.frozen (p:=⟨w.heap.size+1+1,1,none⟩) (by show w.heap.size+1+1<W0.heap.size;omega)).trans aL
   replace zs:=Nat.lt_of_lt_of_le zs aN.size
   replace g0:=g0.to aN
   replace g1:=g1.to aN
   replace zb:=bS zb aN
   have g2:=hv2.rd
   go_wp2_with fail
   refine (zeb b _ _ _ g2 (by rw [ze];omega)).mono ?_
   rintro e w3 ⟨v3,rfl,hv3,bs⟩
   obtain ⟨a3_,n3_,c3_,rfl,H3,hm3⟩:=hv3.rd.open
   have hr_w3:w.heap.size+1+1<w2.heap.size:=(by omega)
   have hw_w3:w.heap.size<=w2.heap.size:=(by omega)
   replace ac:=(bs.cell (p:=⟨w.heap.size,0,none⟩) (by show w.heap.size<w2.heap.size;omega)).trans ac
   replace ag:=(bs.frozen (p:=⟨w.heap.size,0,none⟩) (by show w.heap.size<w2.heap.size;omega)).trans ag
   replace ae:=(bs.cell (p:=⟨w.heap.size,1,none⟩) (by show w.heap.size<w2.heap.size;omega)).trans ae
   replace ah:=(bs.frozen (p:=⟨w.heap.size,1,none⟩) (by show w.heap.size<w2.heap.size;omega)).trans ah
   replace ak:=(bs.cell (p:=⟨w.heap.size+1,0,none⟩) (by show w.heap.size+1<w2.heap.size;omega)).trans ak
   replace ap:=(bs.frozen (p:=⟨w.heap.size+1,0,none⟩) (by show w.heap.size+1<w2.heap.size;omega)).trans ap
   replace al:=(bs.cell (p:=⟨w.heap.size+1,1,none⟩) (by show w.heap.size+1<w2.heap.size;omega)).trans al
   replace aq:=(bs.frozen (p:=⟨w.heap.size+1,1,none⟩) (by show w.heap.size+1<w2.heap.size;omega)).trans aq
   replace aH:=(bs.cell (p:=⟨w.heap.size+1+1,0,none⟩) (by show w.heap.size+1+1<w2.heap.size;omega)).trans aH
   replace aK:=(bs.frozen (p:=⟨w.heap.size+1+1,0,none⟩) (by show w.heap.size+1+1<w2.heap.size;omega)).trans aK
   replace aI:=(bs.cell (p:=⟨w.heap.size+1+1,1,none⟩) (by show w.heap.size+1+1<w2.heap.size;omega)).trans aI
   replace aL:=(bs.frozen (p:=⟨w.heap.size+1+1,1,none⟩) (by show w.heap.size+1+1<w2.heap.size;omega)).trans aL
   replace zs:=Nat.lt_of_lt_of_le zs bs.size
   replace g0:=g0.to bs
   replace g1:=g1.to bs
   replace g2:=g2.to bs
   replace zb:=bS zb bs
   have g3:=hv3.rd
   generalize hng3:decide (sgn b (val (zc (val la - val lb)))<0)=ng3
   have Hng3:=Lib.hid hng3
   clear hng3
   go_wp2_with fail
   have e3:=Hng3.out
   subst e3
   obtain ⟨k0,k1⟩:=zN (x:=.bool (decide (sgn b (val (zc (val la - val lb)))<0))) (y:=.slice a3_ n3_ c3_) aH aI
   exact bodyPost_ret (zE Tryz.results99 _ _ _ _ _ rfl k0 k1) rfl (zdv zb (by omega) hr_w3 hw_w3 hv3)
  ·rw [<- zil hbc (by omega),show sgn c ((val lb - val la))=sgn c (val (zc (val lb - val la))) by rw [vL]]
   have hcm:zaU (val la) (val lb)<0:=by rw [zef (by omega)];omega
   go_enter Tryz.func99,Tryz.ntmps99
   go_wp2_with fail
   obtain ⟨W0,az⟩:∃ W0,((w.alloc (.cells #[.bool b,.slice a0 n0 c0] 95)).alloc (.cells #[.bool c,.slice a1 n1 c1] 95)).alloc (.cells #[.bool false,.slice none 0 0] 95)=W0:=⟨_,rfl⟩
   have ac:W0.cell? ⟨w.heap.size,0,none⟩=some (.bool b):=by rw [<- az];simp [go_sem]
   have ag:W0.frozen? ⟨w.heap.size,0,none⟩=false:=by rw [<- az];simp [go_sem]
   have ae:W0.cell? ⟨w.heap.size,1,none⟩=some (.slice a0 n0 c0):=by rw [<- az];simp [go_sem]
   have ah:W0.frozen? ⟨w.heap.size,1,none⟩=false:=by rw [<- az];simp [go_sem]
   have ak:W0.cell? ⟨w.heap.size+1,0,none⟩=some (.bool c):=by rw [<- az];simp [go_sem]
   have ap:W0.frozen? ⟨w.heap.size+1,0,none⟩=false:=by rw [<- az];simp [go_sem]
   have al:W0.cell? ⟨w.heap.size+1,1,none⟩=some (.slice a1 n1 c1):=by rw [<- az];simp [go_sem]
   have aq:W0.frozen? ⟨w.heap.size+1,1,none⟩=false:=by rw [<- az];simp [go_sem]
   have aH:W0.cell? ⟨w.heap.size+1+1,0,none⟩=some (.bool false):=by rw [<- az];simp [go_sem]
   have aK:W0.frozen? ⟨w.heap.size+1+1,0,none⟩=false:=by rw [<- az];simp [go_sem]
   have aI:W0.cell? ⟨w.heap.size+1+1,1,none⟩=some (.slice none 0 0):=by rw [<- az];simp [go_sem]
   have aL:W0.frozen? ⟨w.heap.size+1+1,1,none⟩=false:=by rw [<- az];simp [go_sem]
   have zs:w.heap.size+1+1<W0.heap.size:=by rw [<- az];simp
   have zb:Below w.heap.size w W0:=by rw [<- az];exact bS (bS (bN _ _) (bN _ _)) (bN _ _)
   rw [az]
   clear az
   have g0:=ha.to zb
   have g1:=hb.to zb
   refine (zba _ _ _ _ _ g0 g1 (by omega) (by omega)).mono ?_
   rintro e w1 ⟨rfl,rfl⟩
   go_wp2_with fail
   refine (zdd _ _ lb la _ g1 g0 (by omega) (by omega) (by omega)).mono ?_
   rintro e w2 ⟨v2,rfl,hv2,aN⟩
   obtain ⟨a2_,n2_,c2_,rfl,H2,hm2⟩:=hv2.rd.open
   have hr_w2:w.heap.size+1+1<W0.heap.size:=(by omega)
   have hw_w2:w.heap.size<=W0.heap.size:=(by omega)
   replace ac:=(aN.cell (p:=⟨w.heap.size,0,none⟩) (by show w.heap.size<W0.heap.size;omega)).trans ac
   replace ag:=(aN.frozen (p:=⟨w.heap.size,0,none⟩) (by show w.heap.size<W0.heap.size;omega)).trans ag
   replace ae:=(aN.cell (p:=⟨w.heap.size,1,none⟩) (by show w.heap.size<W0.heap.size;omega)).trans ae
   replace ah:=(aN.frozen (p:=⟨w.heap.size,1,none⟩) (by show w.heap.size<W0.heap.size;omega)).trans ah
   replace ak:=(aN.cell (p:=⟨w.heap.size+1,0,none⟩) (by show w.heap.size+1<W0.heap.size;omega)).trans ak
   replace ap:=(aN.frozen (p:=⟨w.heap.size+1,0,none⟩) (by show w.heap.size+1<W0.heap.size;omega)).trans ap
   replace al:=(aN.cell (p:=⟨w.heap.size+1,1,none⟩) (by show w.heap.size+1<W0.heap.size;omega)).trans al
   replace aq:=(aN.frozen (p:=⟨w.heap.size+1,1,none⟩) (by show w.heap.size+1<W0.heap.size;omega)).trans aq
   replace aH:=(aN.cell (p:=⟨w.heap.size+1+1,0,none⟩) (by show w.heap.size+1+1<W0.heap.size;omega)).trans aH
   replace aK:=(aN.frozen (p:=⟨w.heap.size+1+1,0,none⟩) (by show w.heap.size+1+1<W0.heap.size;omega)).trans aK
   replace aI:=(aN.cell (p:=⟨w.heap.size+1+1,1,none⟩) (by show w.heap.size+1+1<W0.heap.size;omega)).trans aI
   replace aL:=(aN.frozen (p:=⟨w.heap.size+1+1,1,none⟩) (by show w.heap.size+1+1<W0.heap.size;omega)).trans aL
   replace zs:=Nat.lt_of_lt_of_le zs aN.size
   replace g0:=g0.to aN
   replace g1:=g1.to aN
   replace zb:=bS zb aN
   have g2:=hv2.rd
   go_wp2_with fail
   refine (zeb c _ _ _ g2 (by rw [ze];omega)).mono ?_
   rintro e w3 ⟨v3,rfl,hv3,bs⟩
   obtain ⟨a3_,n3_,c3_,rfl,H3,hm3⟩:=hv3.rd.open
   have hr_w3:w.heap.size+1+1<w2.heap.size:=(by omega)
   have hw_w3:w.heap.size<=w2.heap.size:=(by omega)
   replace ac:=(bs.cell (p:=⟨w.heap.size,0,none⟩) (by show w.heap.size<w2.heap.size;omega)).trans ac
   replace ag:=(bs.frozen (p:=⟨w.heap.size,0,none⟩) (by show w.heap.size<w2.heap.size;omega)).trans ag
   replace ae:=(bs.cell (p:=⟨w.heap.size,1,none⟩) (by show w.heap.size<w2.heap.size;omega)).trans ae
   replace ah:=(bs.frozen (p:=⟨w.heap.size,1,none⟩) (by show w.heap.size<w2.heap.size;omega)).trans ah
   replace ak:=(bs.cell (p:=⟨w.heap.size+1,0,none⟩) (by show w.heap.size+1<w2.heap.size;omega)).trans ak
   replace ap:=(bs.frozen (p:=⟨w.heap.size+1,0,none⟩) (by show w.heap.size+1<w2.heap.size;omega)).trans ap
   replace al:=(bs.cell (p:=⟨w.heap.size+1,1,none⟩) (by show w.heap.size+1<w2.heap.size;omega)).trans al
   replace aq:=(bs.frozen (p:=⟨w.heap.size+1,1,none⟩) (by show w.heap.size+1<w2.heap.size;omega)).trans aq
   replace aH:=(bs.cell (p:=⟨w.heap.size+1+1,0,none⟩) (by show w.heap.size+1+1<w2.heap.size;omega)).trans aH
   replace aK:=(bs.frozen (p:=⟨w.heap.size+1+1,0,none⟩) (by show w.heap.size+1+1<w2.heap.size;omega)).trans aK
   replace aI:=(bs.cell (p:=⟨w.heap.size+1+1,1,none⟩) (by show w.heap.size+1+1<w2.heap.size;omega)).trans aI
   replace aL:=(bs.frozen (p:=⟨w.heap.size+1+1,1,none⟩) (by show w.heap.size+1+1<w2.heap.size;omega)).trans aL
   replace zs:=Nat.lt_of_lt_of_le zs bs.size
   replace g0:=g0.to bs
   replace g1:=g1.to bs
   replace g2:=g2.to bs
   replace zb:=bS zb bs
   have g3:=hv3.rd
   generalize hng3:decide (sgn c (val (zc (val lb - val la)))<0)=ng3
   have Hng3:=Lib.hid hng3
   clear hng3
   go_wp2_with fail
   have e3:=Hng3.out
   subst e3
   obtain ⟨k0,k1⟩:=zN (x:=.bool (decide (sgn c (val (zc (val lb - val la)))<0))) (y:=.slice a3_ n3_ c3_) aH aI
   exact bodyPost_ret (zE Tryz.results99 _ _ _ _ _ rfl k0 k1) rfl (zdv zb (by omega) hr_w3 hw_w3 hv3)

theorem ref7_mul (b c:Bool) (va vb:Value) (la lb:List Nat) (w:World) (ha:Rd w va la) (hb:Rd w vb lb) (hla:la.length<=90000) (hlb:lb.length<=90000) :
  Calls Tryz.prog 127 #[aggI b va,aggI c vb] w (zby w (sgn b (val la)*sgn c (val lb))):=by
 have hsa:=zv ha.1
 have hsb:=zv hb.1
 have hs:=zcZ (val la) (val lb)
 have hm:=zaf (val la) (val lb)
 have hd1:=zbs (val la) (val lb)
 have hd2:=zbs (val lb) (val la)
 rw [<- zhm,show sgn (b != c) (val la*val lb)=sgn (b != c) (val (zc (val la*val lb))) by rw [vL]]
 obtain ⟨a0,n0,c0,rfl,H0,hm0⟩:=ha.open
 obtain ⟨a1,n1,c1,rfl,H1,hm1⟩:=hb.open
 go_enter Tryz.func127,Tryz.ntmps127
 go_wp2_with fail
 obtain ⟨W0,az⟩:∃ W0,((w.alloc (.cells #[.bool b,.slice a0 n0 c0] 95)).alloc (.cells #[.bool c,.slice a1 n1 c1] 95)).alloc (.cells #[.bool false,.slice none 0 0] 95)=W0:=⟨_,rfl⟩
 have ac:W0.cell? ⟨w.heap.size,0,none⟩=some (.bool b):=by rw [<- az];simp [go_sem]
 have ag:W0.frozen? ⟨w.heap.size,0,none⟩=false:=by rw [<- az];simp [go_sem]
 have ae:W0.cell? ⟨w.heap.size,1,none⟩=some (.slice a0 n0 c0):=by rw [<- az];simp [go_sem]
 have ah:W0.frozen? ⟨w.heap.size,1,none⟩=false:=by rw [<- az];simp [go_sem]
 have ak:W0.cell? ⟨w.heap.size+1,0,none⟩=some (.bool c):=by rw [<- az];simp [go_sem]
 have ap:W0.frozen? ⟨w.heap.size+1,0,none⟩=false:=by rw [<- az];simp [go_sem]
 have al:W0.cell? ⟨w.heap.size+1,1,none⟩=some (.slice a1 n1 c1):=by rw [<- az];simp [go_sem]
 have aq:W0.frozen? ⟨w.heap.size+1,1,none⟩=false:=by rw [<- az];simp [go_sem]
 have aH:W0.cell? ⟨w.heap.size+1+1,0,none⟩=some (.bool false):=by rw [<- az];simp [go_sem]
 have aK:W0.frozen? ⟨w.heap.size+1+1,0,none⟩=false:=by rw [<- az];simp [go_sem]
 have aI:W0.cell? ⟨w.heap.size+1+1,1,none⟩=some (.slice none 0 0):=by rw [<- az];simp [go_sem]
 have aL:W0.frozen? ⟨w.heap.size+1+1,1,none⟩=false:=by rw [<- az];simp [go_sem]
 have zs:w.heap.size+1+1<W0.heap.size:=by rw [<- az];simp
 have zb:Below w.heap.size w W0:=by rw [<- az];exact bS (bS (bN _ _) (bN _ _)) (bN _ _)
 rw [az]
 clear az
 have g0:=ha.to zb
 have g1:=hb.to zb
 go_region_with (first
  | (go_at_call 101;have g0:=g0.drew;have g1:=g1.drew;have zb:=zb.drew;refine (zdJ _ _ la lb _ g0 g1 (by omega) (by omega)).mono ?_;rintro e w2 ⟨v2,rfl,hv2,aN⟩;obtain ⟨a2_,n2_,c2_,rfl,H2,hm2⟩:=hv2.rd.open;have hr_w2:w.heap.size+1+1<W0.heap.size:=(by omega);have hw_w2:w.heap.size<=W0.heap.size:=(by omega);have ac:=(aN.cell (p:=⟨w.heap.size,0,none⟩) (by show w.heap.size<W0.heap.size;omega)).trans ac;have ag:=(aN.frozen (p:=⟨w.heap.size,0,none⟩) (by show w.heap.size<W0.heap.size;omega)).trans ag;have ae:=(aN.cell (p:=⟨w.heap.size,1,none⟩) (by show w.heap.size<W0.heap.size;omega)).trans ae;have ah:=(aN.frozen (p:=⟨w.heap.size,1,none⟩) (by show w.heap.size<W0.heap.size;omega)).trans ah;have ak:=(aN.cell (p:=⟨w.heap.size+1,0,none⟩) (by show w.heap.size+1<W0.heap.size;omega)).trans ak;have ap:=(aN.frozen (p:=⟨w.heap.size+1,0,none⟩) (by show w.heap.size+1<W0.heap.size;omega)).trans ap;have al:=(aN.cell (p:=⟨w.heap.size+1,1,none⟩) (by show w.heap.size+1<W0.heap.size;omega)).trans al;have aq:=(aN.frozen (p:=⟨w.heap.size+1,1,none⟩) (by show w.heap.size+1<W0.heap.size;omega)).trans aq;have aH:=(aN.cell (p:=⟨w.heap.size+1+1,0,none⟩) (by show w.heap.size+1+1<W0.heap.size;omega)).trans aH;have aK:=(aN.frozen (p:=⟨w.heap.size+1+1,0,none⟩) (by show w.heap.size+1+1<W0.heap.size;omega)).trans aK;have aI:=(aN.cell (p:=⟨w.heap.size+1+1,1,none⟩) (by show w.heap.size+1+1<W0.heap.size;omega)).trans aI;have aL:=(aN.frozen (p:=⟨w.heap.size+1+1,1,none⟩) (by show w.heap.size+1+1<W0.heap.size;omega)).trans aL;have zs:=Nat.lt_of_lt_of_le zs aN.size;have g0:=g0.to aN;have g1:=g1.to aN;have zb:=bS zb aN;have g2:=hv2.rd)
  | (go_at_call 123;refine (zeb (b != c) _ _ _ g2 (by rw [ze];omega)).mono ?_;rintro e w3 ⟨v3,rfl,hv3,bs⟩;obtain ⟨a3_,n3_,c3_,rfl,H3,hm3⟩:=hv3.rd.open;have hr_w3:w.heap.size+1+1<w2.heap.size:=(by omega);have hw_w3:w.heap.size<=w2.heap.size:=(by omega);have ac:=(bs.cell (p:=⟨w.heap.size,0,none⟩) (by show w.heap.size<w2.heap.size;omega)).trans ac;have ag:=(bs.frozen (p:=⟨w.heap.size,0,none⟩) (by show w.heap.size<w2.heap.size;omega)).trans ag;have ae:=(bs.cell (p:=⟨w.heap.size,1,none⟩) (by show w.heap.size<w2.heap.size;omega)).trans ae;have ah:=(bs.frozen (p:=⟨w.heap.size,1,none⟩) (by show w.heap.size<w2.heap.size;omega)).trans ah;have ak:=(bs.cell (p:=⟨w.heap.size+1,0,none⟩) (by show w.heap.size+1<w2.heap.size;omega)).trans ak;have ap:=(bs.frozen (p:=⟨w.heap.size+1,0,none⟩) (by show w.heap.size+1<w2.heap.size;omega)).trans ap;have al:=(bs.cell (p:=⟨w.heap.size+1,1,none⟩) (by show w.heap.size+1<w2.heap.size;omega)).trans al;have aq:=(bs.frozen (p:=⟨w.heap.size+1,1,none⟩) (by show w.heap.size+1<w2.heap.size;omega)).trans aq;have aH:=(bs.cell (p:=⟨w.heap.size+1+1,0,none⟩) (by show w.heap.size+1+1<w2.heap.size;omega)).trans aH;have aK:=(bs.frozen (p:=⟨w.heap.size+1+1,0,none⟩) (by show w.heap.size+1+1<w2.heap.size;omega)).trans aK;have aI:=(bs.cell (p:=⟨w.heap.size+1+1,1,none⟩) (by show w.heap.size+1+1<w2.heap.size;omega)).trans aI;have aL:=(bs.frozen (p:=⟨w.heap.size+1+1,1,none⟩) (by show w.heap.size+1+1<w2.heap.size;omega)).trans aL;have zs:=Nat.lt_of_lt_of_le zs bs.size;have g0:=g0.to bs;have g1:=g1.to bs;have g2:=g2.to bs;have zb:=bS zb bs;have g3:=hv3.rd;generalize hng3:decide (sgn (b != c) (val (zc (val la*val lb)))<0)=ng3;have Hng3:=Lib.hid hng3;clear hng3))
 all_goals
  go_wp2_with fail
  have e3:=Hng3.out
  subst e3
  obtain ⟨k0,k1⟩:=zN (x:=.bool (decide (sgn (b != c) (val (zc (val la*val lb)))<0))) (y:=.slice a3_ n3_ c3_) aH aI
  exact bodyPost_ret (zE Tryz.results127 _ _ _ _ _ rfl k0 k1) rfl (zdv zb (by omega) hr_w3 hw_w3 hv3)

end Go.Proofs.YtkjcdnlpjldhaaaGreat

