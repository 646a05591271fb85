/-
  The texts Whole2, Whole3, Whole4, Ref7, Ref7b, merged.
-/
import Derived.Test.YtkjcdnlpjldhaaaG06
import Derived.Deep.DrawnRows
import Derived.Laws.EntriesVeiled
import Derived.Test.YtkjcdnlpjldhaaaG05
set_option linter.unusedVariables false
set_option linter.unusedSimpArgs false
set_option maxRecDepth 100000
set_option maxHeartbeats 400000000
namespace Go.Proofs.Ytkjcdnlpjldhaaa
open Go.RowKit Tw
attribute [local go_sem ↓] Go.wp_at_zero Go.wp_at_succ

theorem zhx (b c:Bool) (va vb:Value) (la lb:List Nat) (w:World) (ha:Rd w va la) (hb:Rd w vb lb) (hla:la.length<=400000) (hlb:lb.length<=400000) :
  Calls Try.prog 94 #[aggI b va,aggI c vb] w (zbO w (sgn b (val la+val lb))):=by
 have hsa:=zu ha.1
 have hsb:=zu hb.1
 have hs:=zdJ (val la) (val lb)
 have hm:=zap (val la) (val lb)
 have hd1:=zbR (val la) (val lb)
 have hd2:=zbR (val lb) (val la)
 rw [show sgn b (val la+val lb)=sgn b (val (zc (val la+val lb))) by rw [vL]]
 obtain ⟨a0,n0,c0,rfl,_,_⟩:=ha.open
 obtain ⟨a1,n1,c1,rfl,_,_⟩:=hb.open
 go_enter Try.func94,Try.ntmps94
 go_wp2_with fail
 obtain ⟨W0,aq⟩:∃ W0,((w.alloc (.cells #[.bool b,.slice a0 n0 c0] 51)).alloc (.cells #[.bool c,.slice a1 n1 c1] 51)).alloc (.cells #[.bool false,.slice none 0 0] 51)=W0:=⟨_,rfl⟩
 have dN:W0.cell? ⟨w.heap.size,0,none⟩=some (.bool b):=by rw [<- aq];simp [go_sem]
 have q0_0:W0.frozen? ⟨w.heap.size,0,none⟩=false:=by rw [<- aq];simp [go_sem]
 have dO:W0.cell? ⟨w.heap.size,1,none⟩=some (.slice a0 n0 c0):=by rw [<- aq];simp [go_sem]
 have q0_1:W0.frozen? ⟨w.heap.size,1,none⟩=false:=by rw [<- aq];simp [go_sem]
 have dP:W0.cell? ⟨w.heap.size+1,0,none⟩=some (.bool c):=by rw [<- aq];simp [go_sem]
 have q1_0:W0.frozen? ⟨w.heap.size+1,0,none⟩=false:=by rw [<- aq];simp [go_sem]
 have dQ:W0.cell? ⟨w.heap.size+1,1,none⟩=some (.slice a1 n1 c1):=by rw [<- aq];simp [go_sem]
 have q1_1:W0.frozen? ⟨w.heap.size+1,1,none⟩=false:=by rw [<- aq];simp [go_sem]
 have dR:W0.cell? ⟨w.heap.size+1+1,0,none⟩=some (.bool false):=by rw [<- aq];simp [go_sem]
 have q2_0:W0.frozen? ⟨w.heap.size+1+1,0,none⟩=false:=by rw [<- aq];simp [go_sem]
 have dS:W0.cell? ⟨w.heap.size+1+1,1,none⟩=some (.slice none 0 0):=by rw [<- aq];simp [go_sem]
 have q2_1:W0.frozen? ⟨w.heap.size+1+1,1,none⟩=false:=by rw [<- aq];simp [go_sem]
 have zs:w.heap.size+1+1<W0.heap.size:=by rw [<- aq];simp
 have zb:Below w.heap.size w W0:=by rw [<- aq];exact bS (bS (bN _ _) (bN _ _)) (bN _ _)
 rw [aq]
 clear aq
 have g0:=ha.to zb
 have g1:=hb.to zb
 go_region_with (first
  | (go_at_call 29;refine (ziv _ _ la lb _ g0.drew g1.drew (by omega) (by omega)).mono ?_;rintro e w2 ⟨v2,rfl,hv2,aL⟩;obtain ⟨a2_,n2_,c2_,rfl,_,_⟩:=hv2.rd.open;have ae:=(aL.cell (p:=⟨w.heap.size,0,none⟩) (by show w.heap.size<W0.heap.size;omega)).trans dN;have ah:=(aL.frozen (p:=⟨w.heap.size,0,none⟩) (by show w.heap.size<W0.heap.size;omega)).trans q0_0;have af:=(aL.cell (p:=⟨w.heap.size,1,none⟩) (by show w.heap.size<W0.heap.size;omega)).trans dO;have ai:=(aL.frozen (p:=⟨w.heap.size,1,none⟩) (by show w.heap.size<W0.heap.size;omega)).trans q0_1;have aA:=(aL.cell (p:=⟨w.heap.size+1,0,none⟩) (by show w.heap.size+1<W0.heap.size;omega)).trans dP;have aD:=(aL.frozen (p:=⟨w.heap.size+1,0,none⟩) (by show w.heap.size+1<W0.heap.size;omega)).trans q1_0;have aB:=(aL.cell (p:=⟨w.heap.size+1,1,none⟩) (by show w.heap.size+1<W0.heap.size;omega)).trans dQ;have aE:=(aL.frozen (p:=⟨w.heap.size+1,1,none⟩) (by show w.heap.size+1<W0.heap.size;omega)).trans q1_1;have bt:=(aL.cell (p:=⟨w.heap.size+1+1,0,none⟩) (by show w.heap.size+1+1<W0.heap.size;omega)).trans dR;have bG:=(aL.frozen (p:=⟨w.heap.size+1+1,0,none⟩) (by show w.heap.size+1+1<W0.heap.size;omega)).trans q2_0;have bu:=(aL.cell (p:=⟨w.heap.size+1+1,1,none⟩) (by show w.heap.size+1+1<W0.heap.size;omega)).trans dS;have bH:=(aL.frozen (p:=⟨w.heap.size+1+1,1,none⟩) (by show w.heap.size+1+1<W0.heap.size;omega)).trans q2_1)
  | (go_at_call 28;refine (zaz b _ _ _ hv2.rd (by rw [ze];omega)).mono ?_;rintro e w3 ⟨v3,rfl,hv3,bM⟩;obtain ⟨a3_,n3_,c3_,rfl,_,_⟩:=hv3.rd.open;have bF:=bS aL bM;have x0_0r:=(bF.cell (p:=⟨w.heap.size,0,none⟩) (by show w.heap.size<W0.heap.size;omega)).trans dN;have y0_0r:=(bF.frozen (p:=⟨w.heap.size,0,none⟩) (by show w.heap.size<W0.heap.size;omega)).trans q0_0;have x0_1r:=(bF.cell (p:=⟨w.heap.size,1,none⟩) (by show w.heap.size<W0.heap.size;omega)).trans dO;have y0_1r:=(bF.frozen (p:=⟨w.heap.size,1,none⟩) (by show w.heap.size<W0.heap.size;omega)).trans q0_1;have x1_0r:=(bF.cell (p:=⟨w.heap.size+1,0,none⟩) (by show w.heap.size+1<W0.heap.size;omega)).trans dP;have y1_0r:=(bF.frozen (p:=⟨w.heap.size+1,0,none⟩) (by show w.heap.size+1<W0.heap.size;omega)).trans q1_0;have x1_1r:=(bF.cell (p:=⟨w.heap.size+1,1,none⟩) (by show w.heap.size+1<W0.heap.size;omega)).trans dQ;have y1_1r:=(bF.frozen (p:=⟨w.heap.size+1,1,none⟩) (by show w.heap.size+1<W0.heap.size;omega)).trans q1_1;have x2_0r:=(bF.cell (p:=⟨w.heap.size+1+1,0,none⟩) (by show w.heap.size+1+1<W0.heap.size;omega)).trans dR;have y2_0r:=(bF.frozen (p:=⟨w.heap.size+1+1,0,none⟩) (by show w.heap.size+1+1<W0.heap.size;omega)).trans q2_0;have x2_1r:=(bF.cell (p:=⟨w.heap.size+1+1,1,none⟩) (by show w.heap.size+1+1<W0.heap.size;omega)).trans dS;have y2_1r:=(bF.frozen (p:=⟨w.heap.size+1+1,1,none⟩) (by show w.heap.size+1+1<W0.heap.size;omega)).trans q2_1;generalize hng:decide (sgn b (val (zc (val la+val lb)))<0)=ng;have Hng:=Lib.hid hng;clear hng))
 all_goals
  go_wp2_with fail
  have zs':w.heap.size+1+1<W0.drew.heap.size:=zs
  replace zb:Below w.heap.size w W0.drew:=zb.drew
  have e:=Hng.out
  subst e
  obtain ⟨k0,k1⟩:=zZ (x:=.bool (decide (sgn b (val (zc (val la+val lb)))<0))) (y:=.slice a3_ n3_ c3_) x2_0r x2_1r
  exact bodyPost_ret (zQ Try.results94 _ _ _ _ _ rfl k0 k1) rfl (finI zb (by omega) zs' (hv3.mono aL.size) bF)

theorem zjS (b c:Bool) (va vb:Value) (la lb:List Nat) (w:World) (ha:Rd w va la) (hb:Rd w vb lb) (hla:la.length<=400000) (hlb:lb.length<=400000) :
  Calls Try.prog 78 #[aggI b va,aggI c vb] w (zbO w (sgn b (val la)*sgn c (val lb))):=by
 have hsa:=zu ha.1
 have hsb:=zu hb.1
 have hs:=zdJ (val la) (val lb)
 have hm:=zap (val la) (val lb)
 have hd1:=zbR (val la) (val lb)
 have hd2:=zbR (val lb) (val la)
 rw [<- ziM,show sgn (b != c) (val la*val lb)=sgn (b != c) (val (zc (val la*val lb))) by rw [vL]]
 obtain ⟨a0,n0,c0,rfl,_,_⟩:=ha.open
 obtain ⟨a1,n1,c1,rfl,_,_⟩:=hb.open
 go_enter Try.func78,Try.ntmps78
 go_wp2_with fail
 obtain ⟨W0,aq⟩:∃ W0,((w.alloc (.cells #[.bool b,.slice a0 n0 c0] 51)).alloc (.cells #[.bool c,.slice a1 n1 c1] 51)).alloc (.cells #[.bool false,.slice none 0 0] 51)=W0:=⟨_,rfl⟩
 have dN:W0.cell? ⟨w.heap.size,0,none⟩=some (.bool b):=by rw [<- aq];simp [go_sem]
 have q0_0:W0.frozen? ⟨w.heap.size,0,none⟩=false:=by rw [<- aq];simp [go_sem]
 have dO:W0.cell? ⟨w.heap.size,1,none⟩=some (.slice a0 n0 c0):=by rw [<- aq];simp [go_sem]
 have q0_1:W0.frozen? ⟨w.heap.size,1,none⟩=false:=by rw [<- aq];simp [go_sem]
 have dP:W0.cell? ⟨w.heap.size+1,0,none⟩=some (.bool c):=by rw [<- aq];simp [go_sem]
 have q1_0:W0.frozen? ⟨w.heap.size+1,0,none⟩=false:=by rw [<- aq];simp [go_sem]
 have dQ:W0.cell? ⟨w.heap.size+1,1,none⟩=some (.slice a1 n1 c1):=by rw [<- aq];simp [go_sem]
 have q1_1:W0.frozen? ⟨w.heap.size+1,1,none⟩=false:=by rw [<- aq];simp [go_sem]
 have dR:W0.cell? ⟨w.heap.size+1+1,0,none⟩=some (.bool false):=by rw [<- aq];simp [go_sem]
 have q2_0:W0.frozen? ⟨w.heap.size+1+1,0,none⟩=false:=by rw [<- aq];simp [go_sem]
 have dS:W0.cell? ⟨w.heap.size+1+1,1,none⟩=some (.slice none 0 0):=by rw [<- aq];simp [go_sem]
 have q2_1:W0.frozen? ⟨w.heap.size+1+1,1,none⟩=false:=by rw [<- aq];simp [go_sem]
 have zs:w.heap.size+1+1<W0.heap.size:=by rw [<- aq];simp
 have zb:Below w.heap.size w W0:=by rw [<- aq];exact bS (bS (bN _ _) (bN _ _)) (bN _ _)
 rw [aq]
 clear aq
 have g0:=ha.to zb
 have g1:=hb.to zb
 go_region_with (first
  | (go_at_call 81;refine (zbx _ _ la lb _ g0.drew g1.drew (by omega) (by omega)).mono ?_;rintro e w2 ⟨v2,rfl,hv2,aL⟩;obtain ⟨a2_,n2_,c2_,rfl,_,_⟩:=hv2.rd.open;have ae:=(aL.cell (p:=⟨w.heap.size,0,none⟩) (by show w.heap.size<W0.heap.size;omega)).trans dN;have ah:=(aL.frozen (p:=⟨w.heap.size,0,none⟩) (by show w.heap.size<W0.heap.size;omega)).trans q0_0;have af:=(aL.cell (p:=⟨w.heap.size,1,none⟩) (by show w.heap.size<W0.heap.size;omega)).trans dO;have ai:=(aL.frozen (p:=⟨w.heap.size,1,none⟩) (by show w.heap.size<W0.heap.size;omega)).trans q0_1;have aA:=(aL.cell (p:=⟨w.heap.size+1,0,none⟩) (by show w.heap.size+1<W0.heap.size;omega)).trans dP;have aD:=(aL.frozen (p:=⟨w.heap.size+1,0,none⟩) (by show w.heap.size+1<W0.heap.size;omega)).trans q1_0;have aB:=(aL.cell (p:=⟨w.heap.size+1,1,none⟩) (by show w.heap.size+1<W0.heap.size;omega)).trans dQ;have aE:=(aL.frozen (p:=⟨w.heap.size+1,1,none⟩) (by show w.heap.size+1<W0.heap.size;omega)).trans q1_1;have bt:=(aL.cell (p:=⟨w.heap.size+1+1,0,none⟩) (by show w.heap.size+1+1<W0.heap.size;omega)).trans dR;have bG:=(aL.frozen (p:=⟨w.heap.size+1+1,0,none⟩) (by show w.heap.size+1+1<W0.heap.size;omega)).trans q2_0;have bu:=(aL.cell (p:=⟨w.heap.size+1+1,1,none⟩) (by show w.heap.size+1+1<W0.heap.size;omega)).trans dS;have bH:=(aL.frozen (p:=⟨w.heap.size+1+1,1,none⟩) (by show w.heap.size+1+1<W0.heap.size;omega)).trans q2_1)
  | (go_at_call 28;refine (zaz (b != c) _ _ _ hv2.rd (by rw [ze];omega)).mono ?_;rintro e w3 ⟨v3,rfl,hv3,bM⟩;obtain ⟨a3_,n3_,c3_,rfl,_,_⟩:=hv3.rd.open;have bF:=bS aL bM;have x0_0r:=(bF.cell (p:=⟨w.heap.size,0,none⟩) (by show w.heap.size<W0.heap.size;omega)).trans dN;have y0_0r:=(bF.frozen (p:=⟨w.heap.size,0,none⟩) (by show w.heap.size<W0.heap.size;omega)).trans q0_0;have x0_1r:=(bF.cell (p:=⟨w.heap.size,1,none⟩) (by show w.heap.size<W0.heap.size;omega)).trans dO;have y0_1r:=(bF.frozen (p:=⟨w.heap.size,1,none⟩) (by show w.heap.size<W0.heap.size;omega)).trans q0_1;have x1_0r:=(bF.cell (p:=⟨w.heap.size+1,0,none⟩) (by show w.heap.size+1<W0.heap.size;omega)).trans dP;have y1_0r:=(bF.frozen (p:=⟨w.heap.size+1,0,none⟩) (by show w.heap.size+1<W0.heap.size;omega)).trans q1_0;have x1_1r:=(bF.cell (p:=⟨w.heap.size+1,1,none⟩) (by show w.heap.size+1<W0.heap.size;omega)).trans dQ;have y1_1r:=(bF.frozen (p:=⟨w.heap.size+1,1,none⟩) (by show w.heap.size+1<W0.heap.size;omega)).trans q1_1;have x2_0r:=(bF.cell (p:=⟨w.heap.size+1+1,0,none⟩) (by show w.heap.size+1+1<W0.heap.size;omega)).trans dR;have y2_0r:=(bF.frozen (p:=⟨w.heap.size+1+1,0,none⟩) (by show w.heap.size+1+1<W0.heap.size;omega)).trans q2_0;have x2_1r:=(bF.cell (p:=⟨w.heap.size+1+1,1,none⟩) (by show w.heap.size+1+1<W0.heap.size;omega)).trans dS;have y2_1r:=(bF.frozen (p:=⟨w.heap.size+1+1,1,none⟩) (by show w.heap.size+1+1<W0.heap.size;omega)).trans q2_1;generalize hng:decide (sgn (b != c) (val (zc (val la*val lb)))<0)=ng;have Hng:=Lib.hid hng;clear hng))
 all_goals
  go_wp2_with fail
  have zs':w.heap.size+1+1<W0.drew.heap.size:=zs
  replace zb:Below w.heap.size w W0.drew:=zb.drew
  have e:=Hng.out
  subst e
  obtain ⟨k0,k1⟩:=zZ (x:=.bool (decide (sgn (b != c) (val (zc (val la*val lb)))<0))) (y:=.slice a3_ n3_ c3_) x2_0r x2_1r
  exact bodyPost_ret (zQ Try.results78 _ _ _ _ _ rfl k0 k1) rfl (finI zb (by omega) zs' (hv3.mono aL.size) bF)

end Go.Proofs.Ytkjcdnlpjldhaaa


namespace Go.Proofs.Ytkjcdnlpjldhaaa
open Go.RowKit Tw
attribute [local go_sem ↓] Go.wp_at_zero Go.wp_at_succ

theorem zgp (b c:Bool) (va vb:Value) (la lb:List Nat) (w:World) (ha:Rd w va la) (hb:Rd w vb lb) (hla:la.length<=400000) (hlb:lb.length<=400000) (hbc:b≠c) :
  Calls Try.prog 93 #[aggI b va,aggI c vb] w (zbO w (sgn b (val la)+sgn c (val lb))):=by
 have hsa:=zu ha.1
 have hsb:=zu hb.1
 have hs:=zdJ (val la) (val lb)
 have hm:=zap (val la) (val lb)
 have hd1:=zbR (val la) (val lb)
 have hd2:=zbR (val lb) (val la)
 obtain ⟨a0,n0,c0,rfl,_,_⟩:=ha.open
 obtain ⟨a1,n1,c1,rfl,_,_⟩:=hb.open
 by_cases hle:val lb<=val la
 ·rw [<- sgn_less hbc hle,show sgn b (val la - val lb)=sgn b (val (zc (val la - val lb))) by rw [vL]]
  go_enter Try.func93,Try.ntmps93
  go_wp2_with fail
  obtain ⟨W0,aq⟩:∃ W0,((w.alloc (.cells #[.bool b,.slice a0 n0 c0] 51)).alloc (.cells #[.bool c,.slice a1 n1 c1] 51)).alloc (.cells #[.bool false,.slice none 0 0] 51)=W0:=⟨_,rfl⟩
  have dN:W0.cell? ⟨w.heap.size,0,none⟩=some (.bool b):=by rw [<- aq];simp [go_sem]
  have q0_0:W0.frozen? ⟨w.heap.size,0,none⟩=false:=by rw [<- aq];simp [go_sem]
  have dO:W0.cell? ⟨w.heap.size,1,none⟩=some (.slice a0 n0 c0):=by rw [<- aq];simp [go_sem]
  have q0_1:W0.frozen? ⟨w.heap.size,1,none⟩=false:=by rw [<- aq];simp [go_sem]
  have dP:W0.cell? ⟨w.heap.size+1,0,none⟩=some (.bool c):=by rw [<- aq];simp [go_sem]
  have q1_0:W0.frozen? ⟨w.heap.size+1,0,none⟩=false:=by rw [<- aq];simp [go_sem]
  have dQ:W0.cell? ⟨w.heap.size+1,1,none⟩=some (.slice a1 n1 c1):=by rw [<- aq];simp [go_sem]
  have q1_1:W0.frozen? ⟨w.heap.size+1,1,none⟩=false:=by rw [<- aq];simp [go_sem]
  have dR:W0.cell? ⟨w.heap.size+1+1,0,none⟩=some (.bool false):=by rw [<- aq];simp [go_sem]
  have q2_0:W0.frozen? ⟨w.heap.size+1+1,0,none⟩=false:=by rw [<- aq];simp [go_sem]
  have dS:W0.cell? ⟨w.heap.size+1+1,1,none⟩=some (.slice none 0 0):=by rw [<- aq];simp [go_sem]
  have q2_1:W0.frozen? ⟨w.heap.size+1+1,1,none⟩=false:=by rw [<- aq];simp [go_sem]
  have zs:w.heap.size+1+1<W0.heap.size:=by rw [<- aq];simp
  have zb:Below w.heap.size w W0:=by rw [<- aq];exact bS (bS (bN _ _) (bN _ _)) (bN _ _)
  rw [aq]
  clear aq
  have g0:=ha.to zb
  have g1:=hb.to zb
  refine (zfO _ _ la lb _ g0 g1 (by omega) hle).mono ?_
  rintro e w2 ⟨v2,rfl,hv2,aL⟩
  obtain ⟨a2_,n2_,c2_,rfl,_,_⟩:=hv2.rd.open
  have ae:=(aL.cell (p:=⟨w.heap.size,0,none⟩) (by show w.heap.size<W0.heap.size;omega)).trans dN
  have ah:=(aL.frozen (p:=⟨w.heap.size,0,none⟩) (by show w.heap.size<W0.heap.size;omega)).trans q0_0
  have af:=(aL.cell (p:=⟨w.heap.size,1,none⟩) (by show w.heap.size<W0.heap.size;omega)).trans dO
  have ai:=(aL.frozen (p:=⟨w.heap.size,1,none⟩) (by show w.heap.size<W0.heap.size;omega)).trans q0_1
  have aA:=(aL.cell (p:=⟨w.heap.size+1,0,none⟩) (by show w.heap.size+1<W0.heap.size;omega)).trans dP
  have aD:=(aL.frozen (p:=⟨w.heap.size+1,0,none⟩) (by show w.heap.size+1<W0.heap.size;omega)).trans q1_0
  have aB:=(aL.cell (p:=⟨w.heap.size+1,1,none⟩) (by show w.heap.size+1<W0.heap.size;omega)).trans dQ
  have aE:=(aL.frozen (p:=⟨w.heap.size+1,1,none⟩) (by show w.heap.size+1<W0.heap.size;omega)).trans q1_1
  have bt:=(aL.cell (p:=⟨w.heap.size+1+1,0,none⟩) (by show w.heap.size+1+1<W0.heap.size;omega)).trans dR
  have bG:=(aL.frozen (p:=⟨w.heap.size+1+1,0,none⟩) (by show w.heap.size+1+1<W0.heap.size;omega)).trans q2_0
  have bu:=(aL.cell (p:=⟨w.heap.size+1+1,1,none⟩) (by show w.heap.size+1+1<W0.heap.size;omega)).trans dS
  have bH:=(aL.frozen (p:=⟨w.heap.size+1+1,1,none⟩) (by show w.heap.size+1+1<W0.heap.size;omega)).trans q2_1
  go_wp2_with fail
  refine (zaz b _ _ _ hv2.rd (by rw [ze];omega)).mono ?_
  rintro e w3 ⟨v3,rfl,hv3,bM⟩
  obtain ⟨a3_,n3_,c3_,rfl,_,_⟩:=hv3.rd.open
  have bF:=bS aL bM
  have x0_0r:=(bF.cell (p:=⟨w.heap.size,0,none⟩) (by show w.heap.size<W0.heap.size;omega)).trans dN
  have y0_0r:=(bF.frozen (p:=⟨w.heap.size,0,none⟩) (by show w.heap.size<W0.heap.size;omega)).trans q0_0
  have x0_1r:=(bF.cell (p:=⟨w.heap.size,1,none⟩) (by show w.heap.size<W0.heap.size;omega)).trans dO
  have y0_1r:=(bF.frozen (p:=⟨w.heap.size,1,none⟩) (by show w.heap.size<W0.heap.size;omega)).trans q0_1
  have x1_0r:=(bF.cell (p:=⟨w.heap.size+1,0,none⟩) (by show w.heap.size+1<W0.heap.size;omega)).trans dP
  have y1_0r:=(bF.frozen (p:=⟨w.heap.size+1,0,none⟩) (by show w.heap.size+1<W0.heap.size;omega)).trans q1_0
  have x1_1r:=(bF.cell (p:=⟨w.heap.size+1,1,none⟩) (by show w.heap.size+1<W0.heap.size;omega)).trans dQ
  have y1_1r:=(bF.frozen (p:=⟨w.heap.size+1,1,none⟩) (by show w.heap.size+1<W0.heap.size;omega)).trans q1_1
  have x2_0r:=(bF.cell (p:=⟨w.heap.size+1+1,0,none⟩) (by show w.heap.size+1+1<W0.heap.size;omega)).trans dR
  have y2_0r:=(bF.frozen (p:=⟨w.heap.size+1+1,0,none⟩) (by show w.heap.size+1+1<W0.heap.size;omega)).trans q2_0
  have x2_1r:=(bF.cell (p:=⟨w.heap.size+1+1,1,none⟩) (by show w.heap.size+1+1<W0.heap.size;omega)).trans dS
  have y2_1r:=(bF.frozen (p:=⟨w.heap.size+1+1,1,none⟩) (by show w.heap.size+1+1<W0.heap.size;omega)).trans q2_1
  generalize hng:decide (sgn b (val (zc (val la - val lb)))<0)=ng
  have Hng:=Lib.hid hng
  clear hng
  have zs':=zs
  replace hv3:=hv3.mono aL.size
  go_wp2_with fail
  have e:=Hng.out
  subst e
  obtain ⟨k0,k1⟩:=zZ (x:=.bool (decide (sgn b (val (zc (val la - val lb)))<0))) (y:=.slice a3_ n3_ c3_) x2_0r x2_1r
  exact bodyPost_ret (zQ Try.results93 _ _ _ _ _ rfl k0 k1) rfl (finI zb (by omega) zs' hv3 bF)
 ·have hlt:val la<val lb:=by omega
  rw [<- sgn_more hbc hlt,show sgn c (val lb - val la)=sgn c (val (zc (val lb - val la))) by rw [vL]]
  go_enter Try.func93,Try.ntmps93
  go_wp2_with fail
  obtain ⟨W0,aq⟩:∃ W0,((w.alloc (.cells #[.bool b,.slice a0 n0 c0] 51)).alloc (.cells #[.bool c,.slice a1 n1 c1] 51)).alloc (.cells #[.bool false,.slice none 0 0] 51)=W0:=⟨_,rfl⟩
  have dN:W0.cell? ⟨w.heap.size,0,none⟩=some (.bool b):=by rw [<- aq];simp [go_sem]
  have q0_0:W0.frozen? ⟨w.heap.size,0,none⟩=false:=by rw [<- aq];simp [go_sem]
  have dO:W0.cell? ⟨w.heap.size,1,none⟩=some (.slice a0 n0 c0):=by rw [<- aq];simp [go_sem]
  have q0_1:W0.frozen? ⟨w.heap.size,1,none⟩=false:=by rw [<- aq];simp [go_sem]
  have dP:W0.cell? ⟨w.heap.size+1,0,none⟩=some (.bool c):=by rw [<- aq];simp [go_sem]
  have q1_0:W0.frozen? ⟨w.heap.size+1,0,none⟩=false:=by rw [<- aq];simp [go_sem]
  have dQ:W0.cell? ⟨w.heap.size+1,1,none⟩=some (.slice a1 n1 c1):=by rw [<- aq];simp [go_sem]
  have q1_1:W0.frozen? ⟨w.heap.size+1,1,none⟩=false:=by rw [<- aq];simp [go_sem]
  have dR:W0.cell? ⟨w.heap.size+1+1,0,none⟩=some (.bool false):=by rw [<- aq];simp [go_sem]
  have q2_0:W0.frozen? ⟨w.heap.size+1+1,0,none⟩=false:=by rw [<- aq];simp [go_sem]
  have dS:W0.cell? ⟨w.heap.size+1+1,1,none⟩=some (.slice none 0 0):=by rw [<- aq];simp [go_sem]
  have q2_1:W0.frozen? ⟨w.heap.size+1+1,1,none⟩=false:=by rw [<- aq];simp [go_sem]
  have zs:w.heap.size+1+1<W0.heap.size:=by rw [<- aq];simp
  have zb:Below w.heap.size w W0:=by rw [<- aq];exact bS (bS (bN _ _) (bN _ _)) (bN _ _)
  rw [aq]
  clear aq
  have g0:=ha.to zb
  have g1:=hb.to zb
  refine (zeH _ _ la lb _ g0 g1 hlt).mono ?_
  rintro e w1 ⟨rfl,aT⟩
  have x0_0p:=(aT.cell (p:=⟨w.heap.size,0,none⟩) (by show w.heap.size<W0.heap.size;omega)).trans dN
  have y0_0p:=(aT.frozen (p:=⟨w.heap.size,0,none⟩) (by show w.heap.size<W0.heap.size;omega)).trans q0_0
  have x0_1p:=(aT.cell (p:=⟨w.heap.size,1,none⟩) (by show w.heap.size<W0.heap.size;omega)).trans dO
  have y0_1p:=(aT.frozen (p:=⟨w.heap.size,1,none⟩) (by show w.heap.size<W0.heap.size;omega)).trans q0_1
  have x1_0p:=(aT.cell (p:=⟨w.heap.size+1,0,none⟩) (by show w.heap.size+1<W0.heap.size;omega)).trans dP
  have y1_0p:=(aT.frozen (p:=⟨w.heap.size+1,0,none⟩) (by show w.heap.size+1<W0.heap.size;omega)).trans q1_0
  have x1_1p:=(aT.cell (p:=⟨w.heap.size+1,1,none⟩) (by show w.heap.size+1<W0.heap.size;omega)).trans dQ
  have y1_1p:=(aT.frozen (p:=⟨w.heap.size+1,1,none⟩) (by show w.heap.size+1<W0.heap.size;omega)).trans q1_1
  have x2_0p:=(aT.cell (p:=⟨w.heap.size+1+1,0,none⟩) (by show w.heap.size+1+1<W0.heap.size;omega)).trans dR
  have y2_0p:=(aT.frozen (p:=⟨w.heap.size+1+1,0,none⟩) (by show w.heap.size+1+1<W0.heap.size;omega)).trans q2_0
  have x2_1p:=(aT.cell (p:=⟨w.heap.size+1+1,1,none⟩) (by show w.heap.size+1+1<W0.heap.size;omega)).trans dS
  have y2_1p:=(aT.frozen (p:=⟨w.heap.size+1+1,1,none⟩) (by show w.heap.size+1+1<W0.heap.size;omega)).trans q2_1
  go_wp2_with fail
  refine (zfO _ _ lb la _ (g1.to aT) (g0.to aT) (by omega) (by omega)).mono ?_
  rintro e w2 ⟨v2,rfl,hv2,aL⟩
  obtain ⟨a2_,n2_,c2_,rfl,_,_⟩:=hv2.rd.open
  have dY:=bS aT aL
  clear x0_0p y0_0p x0_1p y0_1p x1_0p y1_0p x1_1p y1_1p x2_0p y2_0p x2_1p y2_1p
  have ae:=(dY.cell (p:=⟨w.heap.size,0,none⟩) (by show w.heap.size<W0.heap.size;omega)).trans dN
  have ah:=(dY.frozen (p:=⟨w.heap.size,0,none⟩) (by show w.heap.size<W0.heap.size;omega)).trans q0_0
  have af:=(dY.cell (p:=⟨w.heap.size,1,none⟩) (by show w.heap.size<W0.heap.size;omega)).trans dO
  have ai:=(dY.frozen (p:=⟨w.heap.size,1,none⟩) (by show w.heap.size<W0.heap.size;omega)).trans q0_1
  have aA:=(dY.cell (p:=⟨w.heap.size+1,0,none⟩) (by show w.heap.size+1<W0.heap.size;omega)).trans dP
  have aD:=(dY.frozen (p:=⟨w.heap.size+1,0,none⟩) (by show w.heap.size+1<W0.heap.size;omega)).trans q1_0
  have aB:=(dY.cell (p:=⟨w.heap.size+1,1,none⟩) (by show w.heap.size+1<W0.heap.size;omega)).trans dQ
  have aE:=(dY.frozen (p:=⟨w.heap.size+1,1,none⟩) (by show w.heap.size+1<W0.heap.size;omega)).trans q1_1
  have bt:=(dY.cell (p:=⟨w.heap.size+1+1,0,none⟩) (by show w.heap.size+1+1<W0.heap.size;omega)).trans dR
  have bG:=(dY.frozen (p:=⟨w.heap.size+1+1,0,none⟩) (by show w.heap.size+1+1<W0.heap.size;omega)).trans q2_0
  have bu:=(dY.cell (p:=⟨w.heap.size+1+1,1,none⟩) (by show w.heap.size+1+1<W0.heap.size;omega)).trans dS
  have bH:=(dY.frozen (p:=⟨w.heap.size+1+1,1,none⟩) (by show w.heap.size+1+1<W0.heap.size;omega)).trans q2_1
  go_wp2_with fail
  refine (zaz c _ _ _ hv2.rd (by rw [ze];omega)).mono ?_
  rintro e w3 ⟨v3,rfl,hv3,bM⟩
  obtain ⟨a3_,n3_,c3_,rfl,_,_⟩:=hv3.rd.open
  have bF:=bS dY bM
  have x0_0r:=(bF.cell (p:=⟨w.heap.size,0,none⟩) (by show w.heap.size<W0.heap.size;omega)).trans dN
  have y0_0r:=(bF.frozen (p:=⟨w.heap.size,0,none⟩) (by show w.heap.size<W0.heap.size;omega)).trans q0_0
  have x0_1r:=(bF.cell (p:=⟨w.heap.size,1,none⟩) (by show w.heap.size<W0.heap.size;omega)).trans dO
  have y0_1r:=(bF.frozen (p:=⟨w.heap.size,1,none⟩) (by show w.heap.size<W0.heap.size;omega)).trans q0_1
  have x1_0r:=(bF.cell (p:=⟨w.heap.size+1,0,none⟩) (by show w.heap.size+1<W0.heap.size;omega)).trans dP
  have y1_0r:=(bF.frozen (p:=⟨w.heap.size+1,0,none⟩) (by show w.heap.size+1<W0.heap.size;omega)).trans q1_0
  have x1_1r:=(bF.cell (p:=⟨w.heap.size+1,1,none⟩) (by show w.heap.size+1<W0.heap.size;omega)).trans dQ
  have y1_1r:=(bF.frozen (p:=⟨w.heap.size+1,1,none⟩) (by show w.heap.size+1<W0.heap.size;omega)).trans q1_1
  have x2_0r:=(bF.cell (p:=⟨w.heap.size+1+1,0,none⟩) (by show w.heap.size+1+1<W0.heap.size;omega)).trans dR
  have y2_0r:=(bF.frozen (p:=⟨w.heap.size+1+1,0,none⟩) (by show w.heap.size+1+1<W0.heap.size;omega)).trans q2_0
  have x2_1r:=(bF.cell (p:=⟨w.heap.size+1+1,1,none⟩) (by show w.heap.size+1+1<W0.heap.size;omega)).trans dS
  have y2_1r:=(bF.frozen (p:=⟨w.heap.size+1+1,1,none⟩) (by show w.heap.size+1+1<W0.heap.size;omega)).trans q2_1
  generalize hng:decide (sgn c (val (zc (val lb - val la)))<0)=ng
  have Hng:=Lib.hid hng
  clear hng
  have zs':=zs
  replace hv3:=hv3.mono dY.size
  go_wp2_with fail
  have e:=Hng.out
  subst e
  obtain ⟨k0,k1⟩:=zZ (x:=.bool (decide (sgn c (val (zc (val lb - val la)))<0))) (y:=.slice a3_ n3_ c3_) x2_0r x2_1r
  exact bodyPost_ret (zQ Try.results93 _ _ _ _ _ rfl k0 k1) rfl (finI zb (by omega) zs' hv3 bF)

theorem zjR (b c:Bool) (va vb:Value) (la lb:List Nat) (w:World) (ha:Rd w va la) (hb:Rd w vb lb) (hla:la.length<=400000) (hlb:lb.length<=400000) :
  Calls Try.prog 77 #[aggI b va,aggI c vb] w (zbO w (sgn b (val la)+sgn c (val lb))):=by
 have hsa:=zu ha.1
 have hsb:=zu hb.1
 have hs:=zdJ (val la) (val lb)
 have hm:=zap (val la) (val lb)
 have hd1:=zbR (val la) (val lb)
 have hd2:=zbR (val lb) (val la)
 obtain ⟨a0,n0,c0,rfl,_,_⟩:=ha.open
 obtain ⟨a1,n1,c1,rfl,_,_⟩:=hb.open
 by_cases hbc:b=c
 ·subst hbc
  rw [<- sgn_same]
  go_enter Try.func77,Try.ntmps77
  go_wp2_with fail
  obtain ⟨W0,aq⟩:∃ W0,(((w.alloc (.cells #[.bool b,.slice a0 n0 c0] 51)).alloc (.cells #[.bool b,.slice a1 n1 c1] 51)).alloc (.cells #[.bool false,.slice none 0 0] 51)).alloc (.cells #[.func (.func 94) #[] #[]] 124)=W0:=⟨_,rfl⟩
  have dN:W0.cell? ⟨w.heap.size,0,none⟩=some (.bool b):=by rw [<- aq];simp [go_sem]
  have q0_0:W0.frozen? ⟨w.heap.size,0,none⟩=false:=by rw [<- aq];simp [go_sem]
  have dO:W0.cell? ⟨w.heap.size,1,none⟩=some (.slice a0 n0 c0):=by rw [<- aq];simp [go_sem]
  have q0_1:W0.frozen? ⟨w.heap.size,1,none⟩=false:=by rw [<- aq];simp [go_sem]
  have dP:W0.cell? ⟨w.heap.size+1,0,none⟩=some (.bool b):=by rw [<- aq];simp [go_sem]
  have q1_0:W0.frozen? ⟨w.heap.size+1,0,none⟩=false:=by rw [<- aq];simp [go_sem]
  have dQ:W0.cell? ⟨w.heap.size+1,1,none⟩=some (.slice a1 n1 c1):=by rw [<- aq];simp [go_sem]
  have q1_1:W0.frozen? ⟨w.heap.size+1,1,none⟩=false:=by rw [<- aq];simp [go_sem]
  have dR:W0.cell? ⟨w.heap.size+1+1,0,none⟩=some (.bool false):=by rw [<- aq];simp [go_sem]
  have q2_0:W0.frozen? ⟨w.heap.size+1+1,0,none⟩=false:=by rw [<- aq];simp [go_sem]
  have dS:W0.cell? ⟨w.heap.size+1+1,1,none⟩=some (.slice none 0 0):=by rw [<- aq];simp [go_sem]
  have q2_1:W0.frozen? ⟨w.heap.size+1+1,1,none⟩=false:=by rw [<- aq];simp [go_sem]
  have ib:W0.cell? ⟨w.heap.size+1+1+1,0,none⟩=some (.func (.func 94) #[] #[]):=by rw [<- aq];simp [go_sem]
  have q3_0:W0.frozen? ⟨w.heap.size+1+1+1,0,none⟩=false:=by rw [<- aq];simp [go_sem]
  have zs:w.heap.size+1+1+1<W0.heap.size:=by rw [<- aq];simp
  have zb:Below w.heap.size w W0:=by rw [<- aq];exact bS (bS (bS (bN _ _) (bN _ _)) (bN _ _)) (bN _ _)
  rw [aq]
  clear aq
  have g0:=ha.to zb
  have g1:=hb.to zb
  have zs':w.heap.size+1+1<W0.heap.size:=by omega
  refine (zhx b b _ _ la lb _ g0 g1 hla hlb).mono ?_
  rintro e w3 ⟨v3,rfl,hv3,bM⟩
  obtain ⟨a3_,n3_,c3_,rfl,_,_⟩:=hv3.rd.open
  have bF:=bM
  have x0_0r:=(bF.cell (p:=⟨w.heap.size,0,none⟩) (by show w.heap.size<W0.heap.size;omega)).trans dN
  have y0_0r:=(bF.frozen (p:=⟨w.heap.size,0,none⟩) (by show w.heap.size<W0.heap.size;omega)).trans q0_0
  have x0_1r:=(bF.cell (p:=⟨w.heap.size,1,none⟩) (by show w.heap.size<W0.heap.size;omega)).trans dO
  have y0_1r:=(bF.frozen (p:=⟨w.heap.size,1,none⟩) (by show w.heap.size<W0.heap.size;omega)).trans q0_1
  have x1_0r:=(bF.cell (p:=⟨w.heap.size+1,0,none⟩) (by show w.heap.size+1<W0.heap.size;omega)).trans dP
  have y1_0r:=(bF.frozen (p:=⟨w.heap.size+1,0,none⟩) (by show w.heap.size+1<W0.heap.size;omega)).trans q1_0
  have x1_1r:=(bF.cell (p:=⟨w.heap.size+1,1,none⟩) (by show w.heap.size+1<W0.heap.size;omega)).trans dQ
  have y1_1r:=(bF.frozen (p:=⟨w.heap.size+1,1,none⟩) (by show w.heap.size+1<W0.heap.size;omega)).trans q1_1
  have x2_0r:=(bF.cell (p:=⟨w.heap.size+1+1,0,none⟩) (by show w.heap.size+1+1<W0.heap.size;omega)).trans dR
  have y2_0r:=(bF.frozen (p:=⟨w.heap.size+1+1,0,none⟩) (by show w.heap.size+1+1<W0.heap.size;omega)).trans q2_0
  have x2_1r:=(bF.cell (p:=⟨w.heap.size+1+1,1,none⟩) (by show w.heap.size+1+1<W0.heap.size;omega)).trans dS
  have y2_1r:=(bF.frozen (p:=⟨w.heap.size+1+1,1,none⟩) (by show w.heap.size+1+1<W0.heap.size;omega)).trans q2_1
  have x3_0r:=(bF.cell (p:=⟨w.heap.size+1+1+1,0,none⟩) (by show w.heap.size+1+1+1<W0.heap.size;omega)).trans ib
  have y3_0r:=(bF.frozen (p:=⟨w.heap.size+1+1+1,0,none⟩) (by show w.heap.size+1+1+1<W0.heap.size;omega)).trans q3_0
  generalize hng:decide (sgn b (val la+val lb)<0)=ng
  have Hng:=Lib.hid hng
  clear hng
  go_wp2_with fail
  have e:=Hng.out
  subst e
  obtain ⟨k0,k1⟩:=zZ (x:=.bool (decide (sgn b (val la+val lb)<0))) (y:=.slice a3_ n3_ c3_) x2_0r x2_1r
  exact bodyPost_ret (zQ Try.results77 _ _ _ _ _ rfl k0 k1) rfl (finI zb (by omega) zs' hv3 bF)
 ·have hbe:(b == c)=false:=beq_eq_false_iff_ne.2 hbc
  go_enter Try.func77,Try.ntmps77
  go_wp2_with fail
  obtain ⟨W0,aq⟩:∃ W0,(((w.alloc (.cells #[.bool b,.slice a0 n0 c0] 51)).alloc (.cells #[.bool c,.slice a1 n1 c1] 51)).alloc (.cells #[.bool false,.slice none 0 0] 51)).alloc (.cells #[.func (.func 93) #[] #[]] 124)=W0:=⟨_,rfl⟩
  have dN:W0.cell? ⟨w.heap.size,0,none⟩=some (.bool b):=by rw [<- aq];simp [go_sem]
  have q0_0:W0.frozen? ⟨w.heap.size,0,none⟩=false:=by rw [<- aq];simp [go_sem]
  have dO:W0.cell? ⟨w.heap.size,1,none⟩=some (.slice a0 n0 c0):=by rw [<- aq];simp [go_sem]
  have q0_1:W0.frozen? ⟨w.heap.size,1,none⟩=false:=by rw [<- aq];simp [go_sem]
  have dP:W0.cell? ⟨w.heap.size+1,0,none⟩=some (.bool c):=by rw [<- aq];simp [go_sem]
  have q1_0:W0.frozen? ⟨w.heap.size+1,0,none⟩=false:=by rw [<- aq];simp [go_sem]
  have dQ:W0.cell? ⟨w.heap.size+1,1,none⟩=some (.slice a1 n1 c1):=by rw [<- aq];simp [go_sem]
  have q1_1:W0.frozen? ⟨w.heap.size+1,1,none⟩=false:=by rw [<- aq];simp [go_sem]
  have dR:W0.cell? ⟨w.heap.size+1+1,0,none⟩=some (.bool false):=by rw [<- aq];simp [go_sem]
  have q2_0:W0.frozen? ⟨w.heap.size+1+1,0,none⟩=false:=by rw [<- aq];simp [go_sem]
  have dS:W0.cell? ⟨w.heap.size+1+1,1,none⟩=some (.slice none 0 0):=by rw [<- aq];simp [go_sem]
  have q2_1:W0.frozen? ⟨w.heap.size+1+1,1,none⟩=false:=by rw [<- aq];simp [go_sem]
  have ib:W0.cell? ⟨w.heap.size+1+1+1,0,none⟩=some (.func (.func 93) #[] #[]):=by rw [<- aq];simp [go_sem]
  have q3_0:W0.frozen? ⟨w.heap.size+1+1+1,0,none⟩=false:=by rw [<- aq];simp [go_sem]
  have zs:w.heap.size+1+1+1<W0.heap.size:=by rw [<- aq];simp
  have zb:Below w.heap.size w W0:=by rw [<- aq];exact bS (bS (bS (bN _ _) (bN _ _)) (bN _ _)) (bN _ _)
  rw [aq]
  clear aq
  have g0:=ha.to zb
  have g1:=hb.to zb
  have zs':w.heap.size+1+1<W0.heap.size:=by omega
  refine (zgp b c _ _ la lb _ g0 g1 hla hlb hbc).mono ?_
  rintro e w3 ⟨v3,rfl,hv3,bM⟩
  obtain ⟨a3_,n3_,c3_,rfl,_,_⟩:=hv3.rd.open
  have bF:=bM
  have x0_0r:=(bF.cell (p:=⟨w.heap.size,0,none⟩) (by show w.heap.size<W0.heap.size;omega)).trans dN
  have y0_0r:=(bF.frozen (p:=⟨w.heap.size,0,none⟩) (by show w.heap.size<W0.heap.size;omega)).trans q0_0
  have x0_1r:=(bF.cell (p:=⟨w.heap.size,1,none⟩) (by show w.heap.size<W0.heap.size;omega)).trans dO
  have y0_1r:=(bF.frozen (p:=⟨w.heap.size,1,none⟩) (by show w.heap.size<W0.heap.size;omega)).trans q0_1
  have x1_0r:=(bF.cell (p:=⟨w.heap.size+1,0,none⟩) (by show w.heap.size+1<W0.heap.size;omega)).trans dP
  have y1_0r:=(bF.frozen (p:=⟨w.heap.size+1,0,none⟩) (by show w.heap.size+1<W0.heap.size;omega)).trans q1_0
  have x1_1r:=(bF.cell (p:=⟨w.heap.size+1,1,none⟩) (by show w.heap.size+1<W0.heap.size;omega)).trans dQ
  have y1_1r:=(bF.frozen (p:=⟨w.heap.size+1,1,none⟩) (by show w.heap.size+1<W0.heap.size;omega)).trans q1_1
  have x2_0r:=(bF.cell (p:=⟨w.heap.size+1+1,0,none⟩) (by show w.heap.size+1+1<W0.heap.size;omega)).trans dR
  have y2_0r:=(bF.frozen (p:=⟨w.heap.size+1+1,0,none⟩) (by show w.heap.size+1+1<W0.heap.size;omega)).trans q2_0
  have x2_1r:=(bF.cell (p:=⟨w.heap.size+1+1,1,none⟩) (by show w.heap.size+1+1<W0.heap.size;omega)).trans dS
  have y2_1r:=(bF.frozen (p:=⟨w.heap.size+1+1,1,none⟩) (by show w.heap.size+1+1<W0.heap.size;omega)).trans q2_1
  have x3_0r:=(bF.cell (p:=⟨w.heap.size+1+1+1,0,none⟩) (by show w.heap.size+1+1+1<W0.heap.size;omega)).trans ib
  have y3_0r:=(bF.frozen (p:=⟨w.heap.size+1+1+1,0,none⟩) (by show w.heap.size+1+1+1<W0.heap.size;omega)).trans q3_0
  generalize hng:decide (sgn b (val la)+sgn c (val lb)<0)=ng
  have Hng:=Lib.hid hng
  clear hng
  go_wp2_with fail
  have e:=Hng.out
  subst e
  obtain ⟨k0,k1⟩:=zZ (x:=.bool (decide (sgn b (val la)+sgn c (val lb)<0))) (y:=.slice a3_ n3_ c3_) x2_0r x2_1r
  exact bodyPost_ret (zQ Try.results77 _ _ _ _ _ rfl k0 k1) rfl (finI zb (by omega) zs' hv3 bF)

end Go.Proofs.Ytkjcdnlpjldhaaa


namespace Go.Proofs.Ytkjcdnlpjldhaaa
open Go.RowKit Tw
attribute [local go_sem ↓] Go.wp_at_zero Go.wp_at_succ

theorem finI2 {w w2:World} {B rb:Nat} {z:Int} {v:Value} (eD:Below w.heap.size w w2) (hrb:w.heap.size<=rb) (hrb1:rb<B) (hB:w.heap.size<=B) (hv:Own B w2 v (zc z.natAbs)) :
  zbO w z (.returned (aggI (decide (z<0)) v)) ((w2.setCell ⟨rb,0,none⟩ (.bool (decide (z<0)))).setCell ⟨rb,1,none⟩ v) :=
 ⟨v,rfl,((hv.setOther (p:=⟨rb,0,none⟩) hrb1 _).setOther (p:=⟨rb,1,none⟩) hrb1 _).mono hB,(eD.setCell (p:=⟨rb,0,none⟩) hrb _).setCell (p:=⟨rb,1,none⟩) hrb _⟩

theorem whole_of (n z:Int) (w:World) (hz:z=n) (n0:-9223372036854775808<=n) (n1:n<9223372036854775808) :
  Calls Try.prog 17 #[.int .i64 n] w (zbO w z):=by
 by_cases hn:n<0
 ·obtain rfl:z=sgn true (val (zc (val (zc (-(n+1)).toNat)+val (zc (1:Int).toNat)))):=by rw [vL,vL,vL,zgV];omega
  have hlen:∀ m:Nat,m<=18446744073709551616->sz m<=3:=fun m hm => by
   have:=zV hm
   rw [show sz 18446744073709551616=3 by decide +kernel] at this
   exact this
  have hl1:=hlen (-(n+1)).toNat (by omega)
  have hl2:=hlen (1:Int).toNat (by omega)
  have hl3:=hlen ((-(n+1)).toNat+(1:Int).toNat) (by omega)
  clear hlen
  go_enter Try.func17,Try.ntmps17
  go_wp2_with fail
  obtain ⟨W0,aq⟩:∃ W0,w.alloc (.cells #[.bool false,.slice none 0 0] 51)=W0:=⟨_,rfl⟩
  have ae:W0.cell? ⟨w.heap.size,0,none⟩=some (.bool false):=by rw [<- aq];simp [go_sem]
  have ah:W0.frozen? ⟨w.heap.size,0,none⟩=false:=by rw [<- aq];simp [go_sem]
  have af:W0.cell? ⟨w.heap.size,1,none⟩=some (.slice none 0 0):=by rw [<- aq];simp [go_sem]
  have ai:W0.frozen? ⟨w.heap.size,1,none⟩=false:=by rw [<- aq];simp [go_sem]
  have zs:w.heap.size<W0.heap.size:=by rw [<- aq];simp
  have zb:Below w.heap.size w W0:=by rw [<- aq];exact bN _ _
  rw [aq]
  clear aq
  refine (zcb _ _ (by omega) (by omega)).mono ?_
  rintro e w1 ⟨v1,rfl,hv1,aT⟩
  obtain ⟨a1_,n1_,c1_,rfl,H1,hm1⟩:=hv1.rd.open
  have hr_w1:w.heap.size<W0.heap.size:=(by omega)
  have hw_w1:w.heap.size<=W0.heap.size:=(by omega)
  replace ae:=(aT.cell (p:=⟨w.heap.size,0,none⟩) (by show w.heap.size<W0.heap.size;omega)).trans ae
  replace ah:=(aT.frozen (p:=⟨w.heap.size,0,none⟩) (by show w.heap.size<W0.heap.size;omega)).trans ah
  replace af:=(aT.cell (p:=⟨w.heap.size,1,none⟩) (by show w.heap.size<W0.heap.size;omega)).trans af
  replace ai:=(aT.frozen (p:=⟨w.heap.size,1,none⟩) (by show w.heap.size<W0.heap.size;omega)).trans ai
  replace zs:=Nat.lt_of_lt_of_le zs aT.size
  replace zb:=bS zb aT
  have g1:=hv1.rd
  go_wp2_with fail
  refine (zcb _ _ (by omega) (by omega)).mono ?_
  rintro e w2 ⟨v2,rfl,hv2,aL⟩
  obtain ⟨a2_,n2_,c2_,rfl,H2,hm2⟩:=hv2.rd.open
  have hr_w2:w.heap.size<w1.heap.size:=(by omega)
  have hw_w2:w.heap.size<=w1.heap.size:=(by omega)
  replace ae:=(aL.cell (p:=⟨w.heap.size,0,none⟩) (by show w.heap.size<w1.heap.size;omega)).trans ae
  replace ah:=(aL.frozen (p:=⟨w.heap.size,0,none⟩) (by show w.heap.size<w1.heap.size;omega)).trans ah
  replace af:=(aL.cell (p:=⟨w.heap.size,1,none⟩) (by show w.heap.size<w1.heap.size;omega)).trans af
  replace ai:=(aL.frozen (p:=⟨w.heap.size,1,none⟩) (by show w.heap.size<w1.heap.size;omega)).trans ai
  replace zs:=Nat.lt_of_lt_of_le zs aL.size
  replace g1:=g1.to aL
  replace zb:=bS zb aL
  have g2:=hv2.rd
  go_wp2_with fail
  refine (ziv _ _ _ _ _ g1 g2 (by rw [ze];omega) (by rw [ze];omega)).mono ?_
  rintro e w3 ⟨v3,rfl,hv3,bM⟩
  obtain ⟨a3_,n3_,c3_,rfl,H3,hm3⟩:=hv3.rd.open
  have hr_w3:w.heap.size<w2.heap.size:=(by omega)
  have hw_w3:w.heap.size<=w2.heap.size:=(by omega)
  replace ae:=(bM.cell (p:=⟨w.heap.size,0,none⟩) (by show w.heap.size<w2.heap.size;omega)).trans ae
  replace ah:=(bM.frozen (p:=⟨w.heap.size,0,none⟩) (by show w.heap.size<w2.heap.size;omega)).trans ah
  replace af:=(bM.cell (p:=⟨w.heap.size,1,none⟩) (by show w.heap.size<w2.heap.size;omega)).trans af
  replace ai:=(bM.frozen (p:=⟨w.heap.size,1,none⟩) (by show w.heap.size<w2.heap.size;omega)).trans ai
  replace zs:=Nat.lt_of_lt_of_le zs bM.size
  replace g1:=g1.to bM
  replace g2:=g2.to bM
  replace zb:=bS zb bM
  have g3:=hv3.rd
  go_wp2_with fail
  refine (zaz true _ _ _ g3 (by rw [ze,vL,vL];omega)).mono ?_
  rintro e w4 ⟨v4,rfl,hv4,dA⟩
  obtain ⟨a4_,n4_,c4_,rfl,H4,hm4⟩:=hv4.rd.open
  have hr_w4:w.heap.size<w3.heap.size:=(by omega)
  have hw_w4:w.heap.size<=w3.heap.size:=(by omega)
  replace ae:=(dA.cell (p:=⟨w.heap.size,0,none⟩) (by show w.heap.size<w3.heap.size;omega)).trans ae
  replace ah:=(dA.frozen (p:=⟨w.heap.size,0,none⟩) (by show w.heap.size<w3.heap.size;omega)).trans ah
  replace af:=(dA.cell (p:=⟨w.heap.size,1,none⟩) (by show w.heap.size<w3.heap.size;omega)).trans af
  replace ai:=(dA.frozen (p:=⟨w.heap.size,1,none⟩) (by show w.heap.size<w3.heap.size;omega)).trans ai
  replace zs:=Nat.lt_of_lt_of_le zs dA.size
  replace g1:=g1.to dA
  replace g2:=g2.to dA
  replace g3:=g3.to dA
  replace zb:=bS zb dA
  have g4:=hv4.rd
  generalize hng4:decide (sgn true (val (zc (val (zc (-(n+1)).toNat)+val (zc (1:Int).toNat))))<0)=ng4
  have Hng4:=Lib.hid hng4
  clear hng4
  go_wp2_with fail
  have e4:=Hng4.out
  subst e4
  obtain ⟨k0,k1⟩:=zZ (x:=.bool (decide (sgn true (val (zc (val (zc (-(n+1)).toNat)+val (zc (1:Int).toNat))))<0))) (y:=.slice a4_ n4_ c4_) ae af
  exact bodyPost_ret (zQ Try.results17 _ _ _ _ _ rfl k0 k1) rfl (finI2 zb (by omega) hr_w4 hw_w4 hv4)
 ·obtain rfl:z=sgn false (val (zc n.toNat)):=by rw [vL,zbu];omega
  have hl1:sz n.toNat<=3:=by
   have:=zV (show n.toNat<=18446744073709551616 by omega)
   rw [show sz 18446744073709551616=3 by decide +kernel] at this
   exact this
  go_enter Try.func17,Try.ntmps17
  go_wp2_with fail
  obtain ⟨W0,aq⟩:∃ W0,w.alloc (.cells #[.bool false,.slice none 0 0] 51)=W0:=⟨_,rfl⟩
  have ae:W0.cell? ⟨w.heap.size,0,none⟩=some (.bool false):=by rw [<- aq];simp [go_sem]
  have ah:W0.frozen? ⟨w.heap.size,0,none⟩=false:=by rw [<- aq];simp [go_sem]
  have af:W0.cell? ⟨w.heap.size,1,none⟩=some (.slice none 0 0):=by rw [<- aq];simp [go_sem]
  have ai:W0.frozen? ⟨w.heap.size,1,none⟩=false:=by rw [<- aq];simp [go_sem]
  have zs:w.heap.size<W0.heap.size:=by rw [<- aq];simp
  have zb:Below w.heap.size w W0:=by rw [<- aq];exact bN _ _
  rw [aq]
  clear aq
  refine (zcb _ _ (by omega) (by omega)).mono ?_
  rintro e w1 ⟨v1,rfl,hv1,aT⟩
  obtain ⟨a1_,n1_,c1_,rfl,H1,hm1⟩:=hv1.rd.open
  have hr_w1:w.heap.size<W0.heap.size:=(by omega)
  have hw_w1:w.heap.size<=W0.heap.size:=(by omega)
  replace ae:=(aT.cell (p:=⟨w.heap.size,0,none⟩) (by show w.heap.size<W0.heap.size;omega)).trans ae
  replace ah:=(aT.frozen (p:=⟨w.heap.size,0,none⟩) (by show w.heap.size<W0.heap.size;omega)).trans ah
  replace af:=(aT.cell (p:=⟨w.heap.size,1,none⟩) (by show w.heap.size<W0.heap.size;omega)).trans af
  replace ai:=(aT.frozen (p:=⟨w.heap.size,1,none⟩) (by show w.heap.size<W0.heap.size;omega)).trans ai
  replace zs:=Nat.lt_of_lt_of_le zs aT.size
  replace zb:=bS zb aT
  have g1:=hv1.rd
  go_wp2_with fail
  refine (zaz false _ _ _ g1 (by rw [ze];omega)).mono ?_
  rintro e w4 ⟨v4,rfl,hv4,dA⟩
  obtain ⟨a4_,n4_,c4_,rfl,H4,hm4⟩:=hv4.rd.open
  have hr_w4:w.heap.size<w1.heap.size:=(by omega)
  have hw_w4:w.heap.size<=w1.heap.size:=(by omega)
  replace ae:=(dA.cell (p:=⟨w.heap.size,0,none⟩) (by show w.heap.size<w1.heap.size;omega)).trans ae
  replace ah:=(dA.frozen (p:=⟨w.heap.size,0,none⟩) (by show w.heap.size<w1.heap.size;omega)).trans ah
  replace af:=(dA.cell (p:=⟨w.heap.size,1,none⟩) (by show w.heap.size<w1.heap.size;omega)).trans af
  replace ai:=(dA.frozen (p:=⟨w.heap.size,1,none⟩) (by show w.heap.size<w1.heap.size;omega)).trans ai
  replace zs:=Nat.lt_of_lt_of_le zs dA.size
  replace g1:=g1.to dA
  replace zb:=bS zb dA
  have g4:=hv4.rd
  generalize hng4:decide (sgn false (val (zc n.toNat))<0)=ng4
  have Hng4:=Lib.hid hng4
  clear hng4
  go_wp2_with fail
  have e4:=Hng4.out
  subst e4
  obtain ⟨k0,k1⟩:=zZ (x:=.bool (decide (sgn false (val (zc n.toNat))<0))) (y:=.slice a4_ n4_ c4_) ae af
  exact bodyPost_ret (zQ Try.results17 _ _ _ _ _ rfl k0 k1) rfl (finI2 zb (by omega) hr_w4 hw_w4 hv4)

end Go.Proofs.Ytkjcdnlpjldhaaa


namespace Go.Proofs.Ytkjcdnlpjldhaaa
open Go.RowKit Tw
attribute [local go_sem ↓] Go.wp_at_zero Go.wp_at_succ

theorem ref7_of (n z:Int) (w:World) (hz:z=n) (n0:-9223372036854775808<=n) (n1:n<9223372036854775808) :
  Calls Try.prog 13 #[.int .i64 n] w (zbO w z):=by
 by_cases hn:0<=n
 ·have hd:decide (z<0)=false:=by simp;omega
  have ha:z.natAbs=(n).toNat:=by omega
  
  go_enter Try.func13,Try.ntmps13
  go_wp2_with fail
  obtain ⟨W0,aq⟩:∃ W0,w.alloc (.cells #[.bool false,.slice none 0 0] 51)=W0:=⟨_,rfl⟩
  have ae:W0.cell? ⟨w.heap.size,0,none⟩=some (.bool false):=by rw [<- aq];simp [go_sem]
  have ah:W0.frozen? ⟨w.heap.size,0,none⟩=false:=by rw [<- aq];simp [go_sem]
  have af:W0.cell? ⟨w.heap.size,1,none⟩=some (.slice none 0 0):=by rw [<- aq];simp [go_sem]
  have ai:W0.frozen? ⟨w.heap.size,1,none⟩=false:=by rw [<- aq];simp [go_sem]
  have zs:w.heap.size<W0.heap.size:=by rw [<- aq];simp
  have zb:Below w.heap.size w W0:=by rw [<- aq];exact bN _ _
  rw [aq]
  clear aq
  refine (ziJ (n) _ (by omega) (by omega)).mono ?_
  rintro e w2 ⟨v2,rfl,hv2,aL⟩
  obtain ⟨a2_,n2_,c2_,rfl,H2,hm2⟩:=hv2.rd.open
  have hr_w2:w.heap.size<W0.heap.size:=(by omega)
  have hw_w2:w.heap.size<=W0.heap.size:=(by omega)
  replace ae:=(aL.cell (p:=⟨w.heap.size,0,none⟩) (by show w.heap.size<W0.heap.size;omega)).trans ae
  replace ah:=(aL.frozen (p:=⟨w.heap.size,0,none⟩) (by show w.heap.size<W0.heap.size;omega)).trans ah
  replace af:=(aL.cell (p:=⟨w.heap.size,1,none⟩) (by show w.heap.size<W0.heap.size;omega)).trans af
  replace ai:=(aL.frozen (p:=⟨w.heap.size,1,none⟩) (by show w.heap.size<W0.heap.size;omega)).trans ai
  replace zs:=Nat.lt_of_lt_of_le zs aL.size
  replace zb:=bS zb aL
  have g2:=hv2.rd
  go_wp2_with fail
  obtain ⟨k0,k1⟩:=zZ (x:=.bool false) (y:=.slice a2_ n2_ c2_) ae af
  rw [<- ha] at hv2
  have hfin:=finI2 zb (by omega) hr_w2 hw_w2 hv2
  rw [hd] at hfin
  exact bodyPost_ret (zQ Try.results13 _ _ _ _ _ rfl k0 k1) rfl hfin
 ·have hd:decide (z<0)=true:=by simp;omega
  have ha:z.natAbs=(-n).toNat:=by omega
  
  have Hw:IntKind.u64.wrap (-IntKind.u64.wrap n)=-n:=by
   show (-(n % 18446744073709551616)) % 18446744073709551616=-n
   omega
  go_enter Try.func13,Try.ntmps13
  go_wp2_with fail
  obtain ⟨W0,aq⟩:∃ W0,w.alloc (.cells #[.bool false,.slice none 0 0] 51)=W0:=⟨_,rfl⟩
  have ae:W0.cell? ⟨w.heap.size,0,none⟩=some (.bool false):=by rw [<- aq];simp [go_sem]
  have ah:W0.frozen? ⟨w.heap.size,0,none⟩=false:=by rw [<- aq];simp [go_sem]
  have af:W0.cell? ⟨w.heap.size,1,none⟩=some (.slice none 0 0):=by rw [<- aq];simp [go_sem]
  have ai:W0.frozen? ⟨w.heap.size,1,none⟩=false:=by rw [<- aq];simp [go_sem]
  have zs:w.heap.size<W0.heap.size:=by rw [<- aq];simp
  have zb:Below w.heap.size w W0:=by rw [<- aq];exact bN _ _
  rw [aq]
  clear aq
  refine (ziJ (-n) _ (by omega) (by omega)).mono ?_
  rintro e w2 ⟨v2,rfl,hv2,aL⟩
  obtain ⟨a2_,n2_,c2_,rfl,H2,hm2⟩:=hv2.rd.open
  have hr_w2:w.heap.size<W0.heap.size:=(by omega)
  have hw_w2:w.heap.size<=W0.heap.size:=(by omega)
  replace ae:=(aL.cell (p:=⟨w.heap.size,0,none⟩) (by show w.heap.size<W0.heap.size;omega)).trans ae
  replace ah:=(aL.frozen (p:=⟨w.heap.size,0,none⟩) (by show w.heap.size<W0.heap.size;omega)).trans ah
  replace af:=(aL.cell (p:=⟨w.heap.size,1,none⟩) (by show w.heap.size<W0.heap.size;omega)).trans af
  replace ai:=(aL.frozen (p:=⟨w.heap.size,1,none⟩) (by show w.heap.size<W0.heap.size;omega)).trans ai
  replace zs:=Nat.lt_of_lt_of_le zs aL.size
  replace zb:=bS zb aL
  have g2:=hv2.rd
  go_wp2_with fail
  obtain ⟨k0,k1⟩:=zZ (x:=.bool true) (y:=.slice a2_ n2_ c2_) ae af
  rw [<- ha] at hv2
  have hfin:=finI2 zb (by omega) hr_w2 hw_w2 hv2
  rw [hd] at hfin
  exact bodyPost_ret (zQ Try.results13 _ _ _ _ _ rfl k0 k1) rfl hfin

end Go.Proofs.Ytkjcdnlpjldhaaa


namespace Go.Proofs.Ytkjcdnlpjldhaaa
open Go.RowKit Tw
attribute [local go_sem ↓] Go.wp_at_zero Go.wp_at_succ

end Go.Proofs.Ytkjcdnlpjldhaaa

