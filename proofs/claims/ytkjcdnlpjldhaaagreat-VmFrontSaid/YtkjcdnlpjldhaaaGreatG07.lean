/-
  The texts Whole2, Whole3, Whole4, Ref7, Ref7b, merged.
-/
import Derived.Test.YtkjcdnlpjldhaaaGreatG06
import Derived.Deep.DrawnRows
import Derived.Laws.EntriesVeiled
import Derived.Test.YtkjcdnlpjldhaaaGreatG05
set_option linter.unusedVariables false
set_option linter.unusedSimpArgs false
set_option maxRecDepth 100000
set_option maxHeartbeats 400000000
namespace Go.Proofs.YtkjcdnlpjldhaaaGreat
open Go.RowKit Tw
attribute [local go_sem ↓] Go.wp_at_zero Go.wp_at_succ

theorem ziI (b c:Bool) (va vb:Value) (la lb:List Nat) (w:World) (ha:Rd w va la) (hb:Rd w vb lb) (hla:la.length<=400000) (hlb:lb.length<=400000) :
  Calls Tryz.prog 159 #[aggI b va,aggI c vb] w (zcg w (sgn b (val la+val lb))):=by
 have hsa:=zu ha.1
 have hsb:=zu hb.1
 have hs:=zeF (val la) (val lb)
 have hm:=zaA (val la) (val lb)
 have hd1:=zcj (val la) (val lb)
 have hd2:=zcj (val lb) (val la)
 rw [show sgn b (val la+val lb)=sgn b (val (zc (val la+val lb))) by rw [vL]]
 obtain ⟨a0,n0,c0,rfl,_,_⟩:=ha.open
 obtain ⟨a1,n1,c1,rfl,_,_⟩:=hb.open
 go_enter Tryz.func159,Tryz.ntmps159
 go_wp2_with fail
 obtain ⟨W0,aG⟩:∃ W0,((w.alloc (.cells #[.bool b,.slice a0 n0 c0] 95)).alloc (.cells #[.bool c,.slice a1 n1 c1] 95)).alloc (.cells #[.bool false,.slice none 0 0] 95)=W0:=⟨_,rfl⟩
 have el:W0.cell? ⟨w.heap.size,0,none⟩=some (.bool b):=by rw [<- aG];simp [go_sem]
 have q0_0:W0.frozen? ⟨w.heap.size,0,none⟩=false:=by rw [<- aG];simp [go_sem]
 have en:W0.cell? ⟨w.heap.size,1,none⟩=some (.slice a0 n0 c0):=by rw [<- aG];simp [go_sem]
 have q0_1:W0.frozen? ⟨w.heap.size,1,none⟩=false:=by rw [<- aG];simp [go_sem]
 have eo:W0.cell? ⟨w.heap.size+1,0,none⟩=some (.bool c):=by rw [<- aG];simp [go_sem]
 have q1_0:W0.frozen? ⟨w.heap.size+1,0,none⟩=false:=by rw [<- aG];simp [go_sem]
 have ep:W0.cell? ⟨w.heap.size+1,1,none⟩=some (.slice a1 n1 c1):=by rw [<- aG];simp [go_sem]
 have q1_1:W0.frozen? ⟨w.heap.size+1,1,none⟩=false:=by rw [<- aG];simp [go_sem]
 have eq:W0.cell? ⟨w.heap.size+1+1,0,none⟩=some (.bool false):=by rw [<- aG];simp [go_sem]
 have q2_0:W0.frozen? ⟨w.heap.size+1+1,0,none⟩=false:=by rw [<- aG];simp [go_sem]
 have er:W0.cell? ⟨w.heap.size+1+1,1,none⟩=some (.slice none 0 0):=by rw [<- aG];simp [go_sem]
 have q2_1:W0.frozen? ⟨w.heap.size+1+1,1,none⟩=false:=by rw [<- aG];simp [go_sem]
 have zs:w.heap.size+1+1<W0.heap.size:=by rw [<- aG];simp
 have zb:Below w.heap.size w W0:=by rw [<- aG];exact bS (bS (bN _ _) (bN _ _)) (bN _ _)
 rw [aG]
 clear aG
 have g0:=ha.to zb
 have g1:=hb.to zb
 go_region_with (first
  | (go_at_call 88;refine (zjL _ _ la lb _ g0.drew g1.drew (by omega) (by omega)).mono ?_;rintro e w2 ⟨v2,rfl,hv2,aR⟩;obtain ⟨a2_,n2_,c2_,rfl,_,_⟩:=hv2.rd.open;have ac:=(aR.cell (p:=⟨w.heap.size,0,none⟩) (by show w.heap.size<W0.heap.size;omega)).trans el;have ag:=(aR.frozen (p:=⟨w.heap.size,0,none⟩) (by show w.heap.size<W0.heap.size;omega)).trans q0_0;have ae:=(aR.cell (p:=⟨w.heap.size,1,none⟩) (by show w.heap.size<W0.heap.size;omega)).trans en;have ah:=(aR.frozen (p:=⟨w.heap.size,1,none⟩) (by show w.heap.size<W0.heap.size;omega)).trans q0_1;have ay:=(aR.cell (p:=⟨w.heap.size+1,0,none⟩) (by show w.heap.size+1<W0.heap.size;omega)).trans eo;have aB:=(aR.frozen (p:=⟨w.heap.size+1,0,none⟩) (by show w.heap.size+1<W0.heap.size;omega)).trans q1_0;have az:=(aR.cell (p:=⟨w.heap.size+1,1,none⟩) (by show w.heap.size+1<W0.heap.size;omega)).trans ep;have aE:=(aR.frozen (p:=⟨w.heap.size+1,1,none⟩) (by show w.heap.size+1<W0.heap.size;omega)).trans q1_1;have bs:=(aR.cell (p:=⟨w.heap.size+1+1,0,none⟩) (by show w.heap.size+1+1<W0.heap.size;omega)).trans eq;have bP:=(aR.frozen (p:=⟨w.heap.size+1+1,0,none⟩) (by show w.heap.size+1+1<W0.heap.size;omega)).trans q2_0;have bt:=(aR.cell (p:=⟨w.heap.size+1+1,1,none⟩) (by show w.heap.size+1+1<W0.heap.size;omega)).trans er;have bQ:=(aR.frozen (p:=⟨w.heap.size+1+1,1,none⟩) (by show w.heap.size+1+1<W0.heap.size;omega)).trans q2_1)
  | (go_at_call 87;refine (zaR b _ _ _ hv2.rd (by rw [zd];omega)).mono ?_;rintro e w3 ⟨v3,rfl,hv3,bZ⟩;obtain ⟨a3_,n3_,c3_,rfl,_,_⟩:=hv3.rd.open;have bO:=bS aR bZ;have x0_0r:=(bO.cell (p:=⟨w.heap.size,0,none⟩) (by show w.heap.size<W0.heap.size;omega)).trans el;have y0_0r:=(bO.frozen (p:=⟨w.heap.size,0,none⟩) (by show w.heap.size<W0.heap.size;omega)).trans q0_0;have x0_1r:=(bO.cell (p:=⟨w.heap.size,1,none⟩) (by show w.heap.size<W0.heap.size;omega)).trans en;have y0_1r:=(bO.frozen (p:=⟨w.heap.size,1,none⟩) (by show w.heap.size<W0.heap.size;omega)).trans q0_1;have x1_0r:=(bO.cell (p:=⟨w.heap.size+1,0,none⟩) (by show w.heap.size+1<W0.heap.size;omega)).trans eo;have y1_0r:=(bO.frozen (p:=⟨w.heap.size+1,0,none⟩) (by show w.heap.size+1<W0.heap.size;omega)).trans q1_0;have x1_1r:=(bO.cell (p:=⟨w.heap.size+1,1,none⟩) (by show w.heap.size+1<W0.heap.size;omega)).trans ep;have y1_1r:=(bO.frozen (p:=⟨w.heap.size+1,1,none⟩) (by show w.heap.size+1<W0.heap.size;omega)).trans q1_1;have x2_0r:=(bO.cell (p:=⟨w.heap.size+1+1,0,none⟩) (by show w.heap.size+1+1<W0.heap.size;omega)).trans eq;have y2_0r:=(bO.frozen (p:=⟨w.heap.size+1+1,0,none⟩) (by show w.heap.size+1+1<W0.heap.size;omega)).trans q2_0;have x2_1r:=(bO.cell (p:=⟨w.heap.size+1+1,1,none⟩) (by show w.heap.size+1+1<W0.heap.size;omega)).trans er;have y2_1r:=(bO.frozen (p:=⟨w.heap.size+1+1,1,none⟩) (by show w.heap.size+1+1<W0.heap.size;omega)).trans q2_1;generalize hng:decide (sgn b (val (zc (val la+val lb)))<0)=ng;have Hng:=Lib.hid hng;clear hng))
 all_goals
  go_wp2_with fail
  have zs':w.heap.size+1+1<W0.drew.heap.size:=zs
  replace zb:Below w.heap.size w W0.drew:=zb.drew
  have e:=Hng.out
  subst e
  obtain ⟨k0,k1⟩:=zag (x:=.bool (decide (sgn b (val (zc (val la+val lb)))<0))) (y:=.slice a3_ n3_ c3_) x2_0r x2_1r
  exact bodyPost_ret (zV Tryz.results159 _ _ _ _ _ rfl k0 k1) rfl (finI zb (by omega) zs' (hv3.mono aR.size) bO)

theorem zle (b c:Bool) (va vb:Value) (la lb:List Nat) (w:World) (ha:Rd w va la) (hb:Rd w vb lb) (hla:la.length<=400000) (hlb:lb.length<=400000) :
  Calls Tryz.prog 144 #[aggI b va,aggI c vb] w (zcg w (sgn b (val la)*sgn c (val lb))):=by
 have hsa:=zu ha.1
 have hsb:=zu hb.1
 have hs:=zeF (val la) (val lb)
 have hm:=zaA (val la) (val lb)
 have hd1:=zcj (val la) (val lb)
 have hd2:=zcj (val lb) (val la)
 rw [<- zkb,show sgn (b != c) (val la*val lb)=sgn (b != c) (val (zc (val la*val lb))) by rw [vL]]
 obtain ⟨a0,n0,c0,rfl,_,_⟩:=ha.open
 obtain ⟨a1,n1,c1,rfl,_,_⟩:=hb.open
 go_enter Tryz.func144,Tryz.ntmps144
 go_wp2_with fail
 obtain ⟨W0,aG⟩:∃ W0,((w.alloc (.cells #[.bool b,.slice a0 n0 c0] 95)).alloc (.cells #[.bool c,.slice a1 n1 c1] 95)).alloc (.cells #[.bool false,.slice none 0 0] 95)=W0:=⟨_,rfl⟩
 have el:W0.cell? ⟨w.heap.size,0,none⟩=some (.bool b):=by rw [<- aG];simp [go_sem]
 have q0_0:W0.frozen? ⟨w.heap.size,0,none⟩=false:=by rw [<- aG];simp [go_sem]
 have en:W0.cell? ⟨w.heap.size,1,none⟩=some (.slice a0 n0 c0):=by rw [<- aG];simp [go_sem]
 have q0_1:W0.frozen? ⟨w.heap.size,1,none⟩=false:=by rw [<- aG];simp [go_sem]
 have eo:W0.cell? ⟨w.heap.size+1,0,none⟩=some (.bool c):=by rw [<- aG];simp [go_sem]
 have q1_0:W0.frozen? ⟨w.heap.size+1,0,none⟩=false:=by rw [<- aG];simp [go_sem]
 have ep:W0.cell? ⟨w.heap.size+1,1,none⟩=some (.slice a1 n1 c1):=by rw [<- aG];simp [go_sem]
 have q1_1:W0.frozen? ⟨w.heap.size+1,1,none⟩=false:=by rw [<- aG];simp [go_sem]
 have eq:W0.cell? ⟨w.heap.size+1+1,0,none⟩=some (.bool false):=by rw [<- aG];simp [go_sem]
 have q2_0:W0.frozen? ⟨w.heap.size+1+1,0,none⟩=false:=by rw [<- aG];simp [go_sem]
 have er:W0.cell? ⟨w.heap.size+1+1,1,none⟩=some (.slice none 0 0):=by rw [<- aG];simp [go_sem]
 have q2_1:W0.frozen? ⟨w.heap.size+1+1,1,none⟩=false:=by rw [<- aG];simp [go_sem]
 have zs:w.heap.size+1+1<W0.heap.size:=by rw [<- aG];simp
 have zb:Below w.heap.size w W0:=by rw [<- aG];exact bS (bS (bN _ _) (bN _ _)) (bN _ _)
 rw [aG]
 clear aG
 have g0:=ha.to zb
 have g1:=hb.to zb
 go_region_with (first
  | (go_at_call 147;refine (zbQ _ _ la lb _ g0.drew g1.drew (by omega) (by omega)).mono ?_;rintro e w2 ⟨v2,rfl,hv2,aR⟩;obtain ⟨a2_,n2_,c2_,rfl,_,_⟩:=hv2.rd.open;have ac:=(aR.cell (p:=⟨w.heap.size,0,none⟩) (by show w.heap.size<W0.heap.size;omega)).trans el;have ag:=(aR.frozen (p:=⟨w.heap.size,0,none⟩) (by show w.heap.size<W0.heap.size;omega)).trans q0_0;have ae:=(aR.cell (p:=⟨w.heap.size,1,none⟩) (by show w.heap.size<W0.heap.size;omega)).trans en;have ah:=(aR.frozen (p:=⟨w.heap.size,1,none⟩) (by show w.heap.size<W0.heap.size;omega)).trans q0_1;have ay:=(aR.cell (p:=⟨w.heap.size+1,0,none⟩) (by show w.heap.size+1<W0.heap.size;omega)).trans eo;have aB:=(aR.frozen (p:=⟨w.heap.size+1,0,none⟩) (by show w.heap.size+1<W0.heap.size;omega)).trans q1_0;have az:=(aR.cell (p:=⟨w.heap.size+1,1,none⟩) (by show w.heap.size+1<W0.heap.size;omega)).trans ep;have aE:=(aR.frozen (p:=⟨w.heap.size+1,1,none⟩) (by show w.heap.size+1<W0.heap.size;omega)).trans q1_1;have bs:=(aR.cell (p:=⟨w.heap.size+1+1,0,none⟩) (by show w.heap.size+1+1<W0.heap.size;omega)).trans eq;have bP:=(aR.frozen (p:=⟨w.heap.size+1+1,0,none⟩) (by show w.heap.size+1+1<W0.heap.size;omega)).trans q2_0;have bt:=(aR.cell (p:=⟨w.heap.size+1+1,1,none⟩) (by show w.heap.size+1+1<W0.heap.size;omega)).trans er;have bQ:=(aR.frozen (p:=⟨w.heap.size+1+1,1,none⟩) (by show w.heap.size+1+1<W0.heap.size;omega)).trans q2_1)
  | (go_at_call 87;refine (zaR (b != c) _ _ _ hv2.rd (by rw [zd];omega)).mono ?_;rintro e w3 ⟨v3,rfl,hv3,bZ⟩;obtain ⟨a3_,n3_,c3_,rfl,_,_⟩:=hv3.rd.open;have bO:=bS aR bZ;have x0_0r:=(bO.cell (p:=⟨w.heap.size,0,none⟩) (by show w.heap.size<W0.heap.size;omega)).trans el;have y0_0r:=(bO.frozen (p:=⟨w.heap.size,0,none⟩) (by show w.heap.size<W0.heap.size;omega)).trans q0_0;have x0_1r:=(bO.cell (p:=⟨w.heap.size,1,none⟩) (by show w.heap.size<W0.heap.size;omega)).trans en;have y0_1r:=(bO.frozen (p:=⟨w.heap.size,1,none⟩) (by show w.heap.size<W0.heap.size;omega)).trans q0_1;have x1_0r:=(bO.cell (p:=⟨w.heap.size+1,0,none⟩) (by show w.heap.size+1<W0.heap.size;omega)).trans eo;have y1_0r:=(bO.frozen (p:=⟨w.heap.size+1,0,none⟩) (by show w.heap.size+1<W0.heap.size;omega)).trans q1_0;have x1_1r:=(bO.cell (p:=⟨w.heap.size+1,1,none⟩) (by show w.heap.size+1<W0.heap.size;omega)).trans ep;have y1_1r:=(bO.frozen (p:=⟨w.heap.size+1,1,none⟩) (by show w.heap.size+1<W0.heap.size;omega)).trans q1_1;have x2_0r:=(bO.cell (p:=⟨w.heap.size+1+1,0,none⟩) (by show w.heap.size+1+1<W0.heap.size;omega)).trans eq;have y2_0r:=(bO.frozen (p:=⟨w.heap.size+1+1,0,none⟩) (by show w.heap.size+1+1<W0.heap.size;omega)).trans q2_0;have x2_1r:=(bO.cell (p:=⟨w.heap.size+1+1,1,none⟩) (by show w.heap.size+1+1<W0.heap.size;omega)).trans er;have y2_1r:=(bO.frozen (p:=⟨w.heap.size+1+1,1,none⟩) (by show w.heap.size+1+1<W0.heap.size;omega)).trans q2_1;generalize hng:decide (sgn (b != c) (val (zc (val la*val lb)))<0)=ng;have Hng:=Lib.hid hng;clear hng))
 all_goals
  go_wp2_with fail
  have zs':w.heap.size+1+1<W0.drew.heap.size:=zs
  replace zb:Below w.heap.size w W0.drew:=zb.drew
  have e:=Hng.out
  subst e
  obtain ⟨k0,k1⟩:=zag (x:=.bool (decide (sgn (b != c) (val (zc (val la*val lb)))<0))) (y:=.slice a3_ n3_ c3_) x2_0r x2_1r
  exact bodyPost_ret (zV Tryz.results144 _ _ _ _ _ rfl k0 k1) rfl (finI zb (by omega) zs' (hv3.mono aR.size) bO)

end Go.Proofs.YtkjcdnlpjldhaaaGreat


namespace Go.Proofs.YtkjcdnlpjldhaaaGreat
open Go.RowKit Tw
attribute [local go_sem ↓] Go.wp_at_zero Go.wp_at_succ

theorem zhN (b c:Bool) (va vb:Value) (la lb:List Nat) (w:World) (ha:Rd w va la) (hb:Rd w vb lb) (hla:la.length<=400000) (hlb:lb.length<=400000) (hbc:b≠c) :
  Calls Tryz.prog 158 #[aggI b va,aggI c vb] w (zcg w (sgn b (val la)+sgn c (val lb))):=by
 have hsa:=zu ha.1
 have hsb:=zu hb.1
 have hs:=zeF (val la) (val lb)
 have hm:=zaA (val la) (val lb)
 have hd1:=zcj (val la) (val lb)
 have hd2:=zcj (val lb) (val la)
 obtain ⟨a0,n0,c0,rfl,_,_⟩:=ha.open
 obtain ⟨a1,n1,c1,rfl,_,_⟩:=hb.open
 by_cases hle:val lb<=val la
 ·rw [<- sgn_less hbc hle,show sgn b (val la - val lb)=sgn b (val (zc (val la - val lb))) by rw [vL]]
  go_enter Tryz.func158,Tryz.ntmps158
  go_wp2_with fail
  obtain ⟨W0,aG⟩:∃ W0,((w.alloc (.cells #[.bool b,.slice a0 n0 c0] 95)).alloc (.cells #[.bool c,.slice a1 n1 c1] 95)).alloc (.cells #[.bool false,.slice none 0 0] 95)=W0:=⟨_,rfl⟩
  have el:W0.cell? ⟨w.heap.size,0,none⟩=some (.bool b):=by rw [<- aG];simp [go_sem]
  have q0_0:W0.frozen? ⟨w.heap.size,0,none⟩=false:=by rw [<- aG];simp [go_sem]
  have en:W0.cell? ⟨w.heap.size,1,none⟩=some (.slice a0 n0 c0):=by rw [<- aG];simp [go_sem]
  have q0_1:W0.frozen? ⟨w.heap.size,1,none⟩=false:=by rw [<- aG];simp [go_sem]
  have eo:W0.cell? ⟨w.heap.size+1,0,none⟩=some (.bool c):=by rw [<- aG];simp [go_sem]
  have q1_0:W0.frozen? ⟨w.heap.size+1,0,none⟩=false:=by rw [<- aG];simp [go_sem]
  have ep:W0.cell? ⟨w.heap.size+1,1,none⟩=some (.slice a1 n1 c1):=by rw [<- aG];simp [go_sem]
  have q1_1:W0.frozen? ⟨w.heap.size+1,1,none⟩=false:=by rw [<- aG];simp [go_sem]
  have eq:W0.cell? ⟨w.heap.size+1+1,0,none⟩=some (.bool false):=by rw [<- aG];simp [go_sem]
  have q2_0:W0.frozen? ⟨w.heap.size+1+1,0,none⟩=false:=by rw [<- aG];simp [go_sem]
  have er:W0.cell? ⟨w.heap.size+1+1,1,none⟩=some (.slice none 0 0):=by rw [<- aG];simp [go_sem]
  have q2_1:W0.frozen? ⟨w.heap.size+1+1,1,none⟩=false:=by rw [<- aG];simp [go_sem]
  have zs:w.heap.size+1+1<W0.heap.size:=by rw [<- aG];simp
  have zb:Below w.heap.size w W0:=by rw [<- aG];exact bS (bS (bN _ _) (bN _ _)) (bN _ _)
  rw [aG]
  clear aG
  have g0:=ha.to zb
  have g1:=hb.to zb
  refine (zhj _ _ la lb _ g0 g1 (by omega) hle).mono ?_
  rintro e w2 ⟨v2,rfl,hv2,aR⟩
  obtain ⟨a2_,n2_,c2_,rfl,_,_⟩:=hv2.rd.open
  have ac:=(aR.cell (p:=⟨w.heap.size,0,none⟩) (by show w.heap.size<W0.heap.size;omega)).trans el
  have ag:=(aR.frozen (p:=⟨w.heap.size,0,none⟩) (by show w.heap.size<W0.heap.size;omega)).trans q0_0
  have ae:=(aR.cell (p:=⟨w.heap.size,1,none⟩) (by show w.heap.size<W0.heap.size;omega)).trans en
  have ah:=(aR.frozen (p:=⟨w.heap.size,1,none⟩) (by show w.heap.size<W0.heap.size;omega)).trans q0_1
  have ay:=(aR.cell (p:=⟨w.heap.size+1,0,none⟩) (by show w.heap.size+1<W0.heap.size;omega)).trans eo
  have aB:=(aR.frozen (p:=⟨w.heap.size+1,0,none⟩) (by show w.heap.size+1<W0.heap.size;omega)).trans q1_0
  have az:=(aR.cell (p:=⟨w.heap.size+1,1,none⟩) (by show w.heap.size+1<W0.heap.size;omega)).trans ep
  have aE:=(aR.frozen (p:=⟨w.heap.size+1,1,none⟩) (by show w.heap.size+1<W0.heap.size;omega)).trans q1_1
  have bs:=(aR.cell (p:=⟨w.heap.size+1+1,0,none⟩) (by show w.heap.size+1+1<W0.heap.size;omega)).trans eq
  have bP:=(aR.frozen (p:=⟨w.heap.size+1+1,0,none⟩) (by show w.heap.size+1+1<W0.heap.size;omega)).trans q2_0
  have bt:=(aR.cell (p:=⟨w.heap.size+1+1,1,none⟩) (by show w.heap.size+1+1<W0.heap.size;omega)).trans er
  have bQ:=(aR.frozen (p:=⟨w.heap.size+1+1,1,none⟩) (by show w.heap.size+1+1<W0.heap.size;omega)).trans q2_1
  go_wp2_with fail
  refine (zaR b _ _ _ hv2.rd (by rw [zd];omega)).mono ?_
  rintro e w3 ⟨v3,rfl,hv3,bZ⟩
  obtain ⟨a3_,n3_,c3_,rfl,_,_⟩:=hv3.rd.open
  have bO:=bS aR bZ
  have x0_0r:=(bO.cell (p:=⟨w.heap.size,0,none⟩) (by show w.heap.size<W0.heap.size;omega)).trans el
  have y0_0r:=(bO.frozen (p:=⟨w.heap.size,0,none⟩) (by show w.heap.size<W0.heap.size;omega)).trans q0_0
  have x0_1r:=(bO.cell (p:=⟨w.heap.size,1,none⟩) (by show w.heap.size<W0.heap.size;omega)).trans en
  have y0_1r:=(bO.frozen (p:=⟨w.heap.size,1,none⟩) (by show w.heap.size<W0.heap.size;omega)).trans q0_1
  have x1_0r:=(bO.cell (p:=⟨w.heap.size+1,0,none⟩) (by show w.heap.size+1<W0.heap.size;omega)).trans eo
  have y1_0r:=(bO.frozen (p:=⟨w.heap.size+1,0,none⟩) (by show w.heap.size+1<W0.heap.size;omega)).trans q1_0
  have x1_1r:=(bO.cell (p:=⟨w.heap.size+1,1,none⟩) (by show w.heap.size+1<W0.heap.size;omega)).trans ep
  have y1_1r:=(bO.frozen (p:=⟨w.heap.size+1,1,none⟩) (by show w.heap.size+1<W0.heap.size;omega)).trans q1_1
  have x2_0r:=(bO.cell (p:=⟨w.heap.size+1+1,0,none⟩) (by show w.heap.size+1+1<W0.heap.size;omega)).trans eq
  have y2_0r:=(bO.frozen (p:=⟨w.heap.size+1+1,0,none⟩) (by show w.heap.size+1+1<W0.heap.size;omega)).trans q2_0
  have x2_1r:=(bO.cell (p:=⟨w.heap.size+1+1,1,none⟩) (by show w.heap.size+1+1<W0.heap.size;omega)).trans er
  have y2_1r:=(bO.frozen (p:=⟨w.heap.size+1+1,1,none⟩) (by show w.heap.size+1+1<W0.heap.size;omega)).trans q2_1
  generalize hng:decide (sgn b (val (zc (val la - val lb)))<0)=ng
  have Hng:=Lib.hid hng
  clear hng
  have zs':=zs
  replace hv3:=hv3.mono aR.size
  go_wp2_with fail
  have e:=Hng.out
  subst e
  obtain ⟨k0,k1⟩:=zag (x:=.bool (decide (sgn b (val (zc (val la - val lb)))<0))) (y:=.slice a3_ n3_ c3_) x2_0r x2_1r
  exact bodyPost_ret (zV Tryz.results158 _ _ _ _ _ rfl k0 k1) rfl (finI zb (by omega) zs' hv3 bO)
 ·have hlt:val la<val lb:=by omega
  rw [<- sgn_more hbc hlt,show sgn c (val lb - val la)=sgn c (val (zc (val lb - val la))) by rw [vL]]
  go_enter Tryz.func158,Tryz.ntmps158
  go_wp2_with fail
  obtain ⟨W0,aG⟩:∃ W0,((w.alloc (.cells #[.bool b,.slice a0 n0 c0] 95)).alloc (.cells #[.bool c,.slice a1 n1 c1] 95)).alloc (.cells #[.bool false,.slice none 0 0] 95)=W0:=⟨_,rfl⟩
  have el:W0.cell? ⟨w.heap.size,0,none⟩=some (.bool b):=by rw [<- aG];simp [go_sem]
  have q0_0:W0.frozen? ⟨w.heap.size,0,none⟩=false:=by rw [<- aG];simp [go_sem]
  have en:W0.cell? ⟨w.heap.size,1,none⟩=some (.slice a0 n0 c0):=by rw [<- aG];simp [go_sem]
  have q0_1:W0.frozen? ⟨w.heap.size,1,none⟩=false:=by rw [<- aG];simp [go_sem]
  have eo:W0.cell? ⟨w.heap.size+1,0,none⟩=some (.bool c):=by rw [<- aG];simp [go_sem]
  have q1_0:W0.frozen? ⟨w.heap.size+1,0,none⟩=false:=by rw [<- aG];simp [go_sem]
  have ep:W0.cell? ⟨w.heap.size+1,1,none⟩=some (.slice a1 n1 c1):=by rw [<- aG];simp [go_sem]
  have q1_1:W0.frozen? ⟨w.heap.size+1,1,none⟩=false:=by rw [<- aG];simp [go_sem]
  have eq:W0.cell? ⟨w.heap.size+1+1,0,none⟩=some (.bool false):=by rw [<- aG];simp [go_sem]
  have q2_0:W0.frozen? ⟨w.heap.size+1+1,0,none⟩=false:=by rw [<- aG];simp [go_sem]
  have er:W0.cell? ⟨w.heap.size+1+1,1,none⟩=some (.slice none 0 0):=by rw [<- aG];simp [go_sem]
  have q2_1:W0.frozen? ⟨w.heap.size+1+1,1,none⟩=false:=by rw [<- aG];simp [go_sem]
  have zs:w.heap.size+1+1<W0.heap.size:=by rw [<- aG];simp
  have zb:Below w.heap.size w W0:=by rw [<- aG];exact bS (bS (bN _ _) (bN _ _)) (bN _ _)
  rw [aG]
  clear aG
  have g0:=ha.to zb
  have g1:=hb.to zb
  refine (zfH _ _ la lb _ g0 g1 hlt).mono ?_
  rintro e w1 ⟨rfl,aX⟩
  have x0_0p:=(aX.cell (p:=⟨w.heap.size,0,none⟩) (by show w.heap.size<W0.heap.size;omega)).trans el
  have y0_0p:=(aX.frozen (p:=⟨w.heap.size,0,none⟩) (by show w.heap.size<W0.heap.size;omega)).trans q0_0
  have x0_1p:=(aX.cell (p:=⟨w.heap.size,1,none⟩) (by show w.heap.size<W0.heap.size;omega)).trans en
  have y0_1p:=(aX.frozen (p:=⟨w.heap.size,1,none⟩) (by show w.heap.size<W0.heap.size;omega)).trans q0_1
  have x1_0p:=(aX.cell (p:=⟨w.heap.size+1,0,none⟩) (by show w.heap.size+1<W0.heap.size;omega)).trans eo
  have y1_0p:=(aX.frozen (p:=⟨w.heap.size+1,0,none⟩) (by show w.heap.size+1<W0.heap.size;omega)).trans q1_0
  have x1_1p:=(aX.cell (p:=⟨w.heap.size+1,1,none⟩) (by show w.heap.size+1<W0.heap.size;omega)).trans ep
  have y1_1p:=(aX.frozen (p:=⟨w.heap.size+1,1,none⟩) (by show w.heap.size+1<W0.heap.size;omega)).trans q1_1
  have x2_0p:=(aX.cell (p:=⟨w.heap.size+1+1,0,none⟩) (by show w.heap.size+1+1<W0.heap.size;omega)).trans eq
  have y2_0p:=(aX.frozen (p:=⟨w.heap.size+1+1,0,none⟩) (by show w.heap.size+1+1<W0.heap.size;omega)).trans q2_0
  have x2_1p:=(aX.cell (p:=⟨w.heap.size+1+1,1,none⟩) (by show w.heap.size+1+1<W0.heap.size;omega)).trans er
  have y2_1p:=(aX.frozen (p:=⟨w.heap.size+1+1,1,none⟩) (by show w.heap.size+1+1<W0.heap.size;omega)).trans q2_1
  go_wp2_with fail
  refine (zhj _ _ lb la _ (g1.to aX) (g0.to aX) (by omega) (by omega)).mono ?_
  rintro e w2 ⟨v2,rfl,hv2,aR⟩
  obtain ⟨a2_,n2_,c2_,rfl,_,_⟩:=hv2.rd.open
  have du:=bS aX aR
  clear x0_0p y0_0p x0_1p y0_1p x1_0p y1_0p x1_1p y1_1p x2_0p y2_0p x2_1p y2_1p
  have ac:=(du.cell (p:=⟨w.heap.size,0,none⟩) (by show w.heap.size<W0.heap.size;omega)).trans el
  have ag:=(du.frozen (p:=⟨w.heap.size,0,none⟩) (by show w.heap.size<W0.heap.size;omega)).trans q0_0
  have ae:=(du.cell (p:=⟨w.heap.size,1,none⟩) (by show w.heap.size<W0.heap.size;omega)).trans en
  have ah:=(du.frozen (p:=⟨w.heap.size,1,none⟩) (by show w.heap.size<W0.heap.size;omega)).trans q0_1
  have ay:=(du.cell (p:=⟨w.heap.size+1,0,none⟩) (by show w.heap.size+1<W0.heap.size;omega)).trans eo
  have aB:=(du.frozen (p:=⟨w.heap.size+1,0,none⟩) (by show w.heap.size+1<W0.heap.size;omega)).trans q1_0
  have az:=(du.cell (p:=⟨w.heap.size+1,1,none⟩) (by show w.heap.size+1<W0.heap.size;omega)).trans ep
  have aE:=(du.frozen (p:=⟨w.heap.size+1,1,none⟩) (by show w.heap.size+1<W0.heap.size;omega)).trans q1_1
  have bs:=(du.cell (p:=⟨w.heap.size+1+1,0,none⟩) (by show w.heap.size+1+1<W0.heap.size;omega)).trans eq
  have bP:=(du.frozen (p:=⟨w.heap.size+1+1,0,none⟩) (by show w.heap.size+1+1<W0.heap.size;omega)).trans q2_0
  have bt:=(du.cell (p:=⟨w.heap.size+1+1,1,none⟩) (by show w.heap.size+1+1<W0.heap.size;omega)).trans er
  have bQ:=(du.frozen (p:=⟨w.heap.size+1+1,1,none⟩) (by show w.heap.size+1+1<W0.heap.size;omega)).trans q2_1
  go_wp2_with fail
  refine (zaR c _ _ _ hv2.rd (by rw [zd];omega)).mono ?_
  rintro e w3 ⟨v3,rfl,hv3,bZ⟩
  obtain ⟨a3_,n3_,c3_,rfl,_,_⟩:=hv3.rd.open
  have bO:=bS du bZ
  have x0_0r:=(bO.cell (p:=⟨w.heap.size,0,none⟩) (by show w.heap.size<W0.heap.size;omega)).trans el
  have y0_0r:=(bO.frozen (p:=⟨w.heap.size,0,none⟩) (by show w.heap.size<W0.heap.size;omega)).trans q0_0
  have x0_1r:=(bO.cell (p:=⟨w.heap.size,1,none⟩) (by show w.heap.size<W0.heap.size;omega)).trans en
  have y0_1r:=(bO.frozen (p:=⟨w.heap.size,1,none⟩) (by show w.heap.size<W0.heap.size;omega)).trans q0_1
  have x1_0r:=(bO.cell (p:=⟨w.heap.size+1,0,none⟩) (by show w.heap.size+1<W0.heap.size;omega)).trans eo
  have y1_0r:=(bO.frozen (p:=⟨w.heap.size+1,0,none⟩) (by show w.heap.size+1<W0.heap.size;omega)).trans q1_0
  have x1_1r:=(bO.cell (p:=⟨w.heap.size+1,1,none⟩) (by show w.heap.size+1<W0.heap.size;omega)).trans ep
  have y1_1r:=(bO.frozen (p:=⟨w.heap.size+1,1,none⟩) (by show w.heap.size+1<W0.heap.size;omega)).trans q1_1
  have x2_0r:=(bO.cell (p:=⟨w.heap.size+1+1,0,none⟩) (by show w.heap.size+1+1<W0.heap.size;omega)).trans eq
  have y2_0r:=(bO.frozen (p:=⟨w.heap.size+1+1,0,none⟩) (by show w.heap.size+1+1<W0.heap.size;omega)).trans q2_0
  have x2_1r:=(bO.cell (p:=⟨w.heap.size+1+1,1,none⟩) (by show w.heap.size+1+1<W0.heap.size;omega)).trans er
  have y2_1r:=(bO.frozen (p:=⟨w.heap.size+1+1,1,none⟩) (by show w.heap.size+1+1<W0.heap.size;omega)).trans q2_1
  generalize hng:decide (sgn c (val (zc (val lb - val la)))<0)=ng
  have Hng:=Lib.hid hng
  clear hng
  have zs':=zs
  replace hv3:=hv3.mono du.size
  go_wp2_with fail
  have e:=Hng.out
  subst e
  obtain ⟨k0,k1⟩:=zag (x:=.bool (decide (sgn c (val (zc (val lb - val la)))<0))) (y:=.slice a3_ n3_ c3_) x2_0r x2_1r
  exact bodyPost_ret (zV Tryz.results158 _ _ _ _ _ rfl k0 k1) rfl (finI zb (by omega) zs' hv3 bO)

theorem zld (b c:Bool) (va vb:Value) (la lb:List Nat) (w:World) (ha:Rd w va la) (hb:Rd w vb lb) (hla:la.length<=400000) (hlb:lb.length<=400000) :
  Calls Tryz.prog 143 #[aggI b va,aggI c vb] w (zcg w (sgn b (val la)+sgn c (val lb))):=by
 have hsa:=zu ha.1
 have hsb:=zu hb.1
 have hs:=zeF (val la) (val lb)
 have hm:=zaA (val la) (val lb)
 have hd1:=zcj (val la) (val lb)
 have hd2:=zcj (val lb) (val la)
 obtain ⟨a0,n0,c0,rfl,_,_⟩:=ha.open
 obtain ⟨a1,n1,c1,rfl,_,_⟩:=hb.open
 by_cases hbc:b=c
 ·subst hbc
  rw [<- sgn_same]
  go_enter Tryz.func143,Tryz.ntmps143
  go_wp2_with fail
  obtain ⟨W0,aG⟩:∃ W0,(((w.alloc (.cells #[.bool b,.slice a0 n0 c0] 95)).alloc (.cells #[.bool b,.slice a1 n1 c1] 95)).alloc (.cells #[.bool false,.slice none 0 0] 95)).alloc (.cells #[.func (.func 159) #[] #[]] 177)=W0:=⟨_,rfl⟩
  have el:W0.cell? ⟨w.heap.size,0,none⟩=some (.bool b):=by rw [<- aG];simp [go_sem]
  have q0_0:W0.frozen? ⟨w.heap.size,0,none⟩=false:=by rw [<- aG];simp [go_sem]
  have en:W0.cell? ⟨w.heap.size,1,none⟩=some (.slice a0 n0 c0):=by rw [<- aG];simp [go_sem]
  have q0_1:W0.frozen? ⟨w.heap.size,1,none⟩=false:=by rw [<- aG];simp [go_sem]
  have eo:W0.cell? ⟨w.heap.size+1,0,none⟩=some (.bool b):=by rw [<- aG];simp [go_sem]
  have q1_0:W0.frozen? ⟨w.heap.size+1,0,none⟩=false:=by rw [<- aG];simp [go_sem]
  have ep:W0.cell? ⟨w.heap.size+1,1,none⟩=some (.slice a1 n1 c1):=by rw [<- aG];simp [go_sem]
  have q1_1:W0.frozen? ⟨w.heap.size+1,1,none⟩=false:=by rw [<- aG];simp [go_sem]
  have eq:W0.cell? ⟨w.heap.size+1+1,0,none⟩=some (.bool false):=by rw [<- aG];simp [go_sem]
  have q2_0:W0.frozen? ⟨w.heap.size+1+1,0,none⟩=false:=by rw [<- aG];simp [go_sem]
  have er:W0.cell? ⟨w.heap.size+1+1,1,none⟩=some (.slice none 0 0):=by rw [<- aG];simp [go_sem]
  have q2_1:W0.frozen? ⟨w.heap.size+1+1,1,none⟩=false:=by rw [<- aG];simp [go_sem]
  have iX:W0.cell? ⟨w.heap.size+1+1+1,0,none⟩=some (.func (.func 159) #[] #[]):=by rw [<- aG];simp [go_sem]
  have q3_0:W0.frozen? ⟨w.heap.size+1+1+1,0,none⟩=false:=by rw [<- aG];simp [go_sem]
  have zs:w.heap.size+1+1+1<W0.heap.size:=by rw [<- aG];simp
  have zb:Below w.heap.size w W0:=by rw [<- aG];exact bS (bS (bS (bN _ _) (bN _ _)) (bN _ _)) (bN _ _)
  rw [aG]
  clear aG
  have g0:=ha.to zb
  have g1:=hb.to zb
  have zs':w.heap.size+1+1<W0.heap.size:=by omega
  refine (ziI b b _ _ la lb _ g0 g1 hla hlb).mono ?_
  rintro e w3 ⟨v3,rfl,hv3,bZ⟩
  obtain ⟨a3_,n3_,c3_,rfl,_,_⟩:=hv3.rd.open
  have bO:=bZ
  have x0_0r:=(bO.cell (p:=⟨w.heap.size,0,none⟩) (by show w.heap.size<W0.heap.size;omega)).trans el
  have y0_0r:=(bO.frozen (p:=⟨w.heap.size,0,none⟩) (by show w.heap.size<W0.heap.size;omega)).trans q0_0
  have x0_1r:=(bO.cell (p:=⟨w.heap.size,1,none⟩) (by show w.heap.size<W0.heap.size;omega)).trans en
  have y0_1r:=(bO.frozen (p:=⟨w.heap.size,1,none⟩) (by show w.heap.size<W0.heap.size;omega)).trans q0_1
  have x1_0r:=(bO.cell (p:=⟨w.heap.size+1,0,none⟩) (by show w.heap.size+1<W0.heap.size;omega)).trans eo
  have y1_0r:=(bO.frozen (p:=⟨w.heap.size+1,0,none⟩) (by show w.heap.size+1<W0.heap.size;omega)).trans q1_0
  have x1_1r:=(bO.cell (p:=⟨w.heap.size+1,1,none⟩) (by show w.heap.size+1<W0.heap.size;omega)).trans ep
  have y1_1r:=(bO.frozen (p:=⟨w.heap.size+1,1,none⟩) (by show w.heap.size+1<W0.heap.size;omega)).trans q1_1
  have x2_0r:=(bO.cell (p:=⟨w.heap.size+1+1,0,none⟩) (by show w.heap.size+1+1<W0.heap.size;omega)).trans eq
  have y2_0r:=(bO.frozen (p:=⟨w.heap.size+1+1,0,none⟩) (by show w.heap.size+1+1<W0.heap.size;omega)).trans q2_0
  have x2_1r:=(bO.cell (p:=⟨w.heap.size+1+1,1,none⟩) (by show w.heap.size+1+1<W0.heap.size;omega)).trans er
  have y2_1r:=(bO.frozen (p:=⟨w.heap.size+1+1,1,none⟩) (by show w.heap.size+1+1<W0.heap.size;omega)).trans q2_1
  have x3_0r:=(bO.cell (p:=⟨w.heap.size+1+1+1,0,none⟩) (by show w.heap.size+1+1+1<W0.heap.size;omega)).trans iX
  have y3_0r:=(bO.frozen (p:=⟨w.heap.size+1+1+1,0,none⟩) (by show w.heap.size+1+1+1<W0.heap.size;omega)).trans q3_0
  generalize hng:decide (sgn b (val la+val lb)<0)=ng
  have Hng:=Lib.hid hng
  clear hng
  go_wp2_with fail
  have e:=Hng.out
  subst e
  obtain ⟨k0,k1⟩:=zag (x:=.bool (decide (sgn b (val la+val lb)<0))) (y:=.slice a3_ n3_ c3_) x2_0r x2_1r
  exact bodyPost_ret (zV Tryz.results143 _ _ _ _ _ rfl k0 k1) rfl (finI zb (by omega) zs' hv3 bO)
 ·have hbe:(b == c)=false:=beq_eq_false_iff_ne.2 hbc
  go_enter Tryz.func143,Tryz.ntmps143
  go_wp2_with fail
  obtain ⟨W0,aG⟩:∃ W0,(((w.alloc (.cells #[.bool b,.slice a0 n0 c0] 95)).alloc (.cells #[.bool c,.slice a1 n1 c1] 95)).alloc (.cells #[.bool false,.slice none 0 0] 95)).alloc (.cells #[.func (.func 158) #[] #[]] 177)=W0:=⟨_,rfl⟩
  have el:W0.cell? ⟨w.heap.size,0,none⟩=some (.bool b):=by rw [<- aG];simp [go_sem]
  have q0_0:W0.frozen? ⟨w.heap.size,0,none⟩=false:=by rw [<- aG];simp [go_sem]
  have en:W0.cell? ⟨w.heap.size,1,none⟩=some (.slice a0 n0 c0):=by rw [<- aG];simp [go_sem]
  have q0_1:W0.frozen? ⟨w.heap.size,1,none⟩=false:=by rw [<- aG];simp [go_sem]
  have eo:W0.cell? ⟨w.heap.size+1,0,none⟩=some (.bool c):=by rw [<- aG];simp [go_sem]
  have q1_0:W0.frozen? ⟨w.heap.size+1,0,none⟩=false:=by rw [<- aG];simp [go_sem]
  have ep:W0.cell? ⟨w.heap.size+1,1,none⟩=some (.slice a1 n1 c1):=by rw [<- aG];simp [go_sem]
  have q1_1:W0.frozen? ⟨w.heap.size+1,1,none⟩=false:=by rw [<- aG];simp [go_sem]
  have eq:W0.cell? ⟨w.heap.size+1+1,0,none⟩=some (.bool false):=by rw [<- aG];simp [go_sem]
  have q2_0:W0.frozen? ⟨w.heap.size+1+1,0,none⟩=false:=by rw [<- aG];simp [go_sem]
  have er:W0.cell? ⟨w.heap.size+1+1,1,none⟩=some (.slice none 0 0):=by rw [<- aG];simp [go_sem]
  have q2_1:W0.frozen? ⟨w.heap.size+1+1,1,none⟩=false:=by rw [<- aG];simp [go_sem]
  have iX:W0.cell? ⟨w.heap.size+1+1+1,0,none⟩=some (.func (.func 158) #[] #[]):=by rw [<- aG];simp [go_sem]
  have q3_0:W0.frozen? ⟨w.heap.size+1+1+1,0,none⟩=false:=by rw [<- aG];simp [go_sem]
  have zs:w.heap.size+1+1+1<W0.heap.size:=by rw [<- aG];simp
  have zb:Below w.heap.size w W0:=by rw [<- aG];exact bS (bS (bS (bN _ _) (bN _ _)) (bN _ _)) (bN _ _)
  rw [aG]
  clear aG
  have g0:=ha.to zb
  have g1:=hb.to zb
  have zs':w.heap.size+1+1<W0.heap.size:=by omega
  refine (zhN b c _ _ la lb _ g0 g1 hla hlb hbc).mono ?_
  rintro e w3 ⟨v3,rfl,hv3,bZ⟩
  obtain ⟨a3_,n3_,c3_,rfl,_,_⟩:=hv3.rd.open
  have bO:=bZ
  have x0_0r:=(bO.cell (p:=⟨w.heap.size,0,none⟩) (by show w.heap.size<W0.heap.size;omega)).trans el
  have y0_0r:=(bO.frozen (p:=⟨w.heap.size,0,none⟩) (by show w.heap.size<W0.heap.size;omega)).trans q0_0
  have x0_1r:=(bO.cell (p:=⟨w.heap.size,1,none⟩) (by show w.heap.size<W0.heap.size;omega)).trans en
  have y0_1r:=(bO.frozen (p:=⟨w.heap.size,1,none⟩) (by show w.heap.size<W0.heap.size;omega)).trans q0_1
  have x1_0r:=(bO.cell (p:=⟨w.heap.size+1,0,none⟩) (by show w.heap.size+1<W0.heap.size;omega)).trans eo
  have y1_0r:=(bO.frozen (p:=⟨w.heap.size+1,0,none⟩) (by show w.heap.size+1<W0.heap.size;omega)).trans q1_0
  have x1_1r:=(bO.cell (p:=⟨w.heap.size+1,1,none⟩) (by show w.heap.size+1<W0.heap.size;omega)).trans ep
  have y1_1r:=(bO.frozen (p:=⟨w.heap.size+1,1,none⟩) (by show w.heap.size+1<W0.heap.size;omega)).trans q1_1
  have x2_0r:=(bO.cell (p:=⟨w.heap.size+1+1,0,none⟩) (by show w.heap.size+1+1<W0.heap.size;omega)).trans eq
  have y2_0r:=(bO.frozen (p:=⟨w.heap.size+1+1,0,none⟩) (by show w.heap.size+1+1<W0.heap.size;omega)).trans q2_0
  have x2_1r:=(bO.cell (p:=⟨w.heap.size+1+1,1,none⟩) (by show w.heap.size+1+1<W0.heap.size;omega)).trans er
  have y2_1r:=(bO.frozen (p:=⟨w.heap.size+1+1,1,none⟩) (by show w.heap.size+1+1<W0.heap.size;omega)).trans q2_1
  have x3_0r:=(bO.cell (p:=⟨w.heap.size+1+1+1,0,none⟩) (by show w.heap.size+1+1+1<W0.heap.size;omega)).trans iX
  have y3_0r:=(bO.frozen (p:=⟨w.heap.size+1+1+1,0,none⟩) (by show w.heap.size+1+1+1<W0.heap.size;omega)).trans q3_0
  generalize hng:decide (sgn b (val la)+sgn c (val lb)<0)=ng
  have Hng:=Lib.hid hng
  clear hng
  go_wp2_with fail
  have e:=Hng.out
  subst e
  obtain ⟨k0,k1⟩:=zag (x:=.bool (decide (sgn b (val la)+sgn c (val lb)<0))) (y:=.slice a3_ n3_ c3_) x2_0r x2_1r
  exact bodyPost_ret (zV Tryz.results143 _ _ _ _ _ rfl k0 k1) rfl (finI zb (by omega) zs' hv3 bO)

end Go.Proofs.YtkjcdnlpjldhaaaGreat


namespace Go.Proofs.YtkjcdnlpjldhaaaGreat
open Go.RowKit Tw
attribute [local go_sem ↓] Go.wp_at_zero Go.wp_at_succ

theorem finI2 {w w2:World} {B rb:Nat} {z:Int} {v:Value} (eP:Below w.heap.size w w2) (hrb:w.heap.size<=rb) (hrb1:rb<B) (hB:w.heap.size<=B) (hv:Own B w2 v (zc z.natAbs)) :
  zcg w z (.returned (aggI (decide (z<0)) v)) ((w2.setCell ⟨rb,0,none⟩ (.bool (decide (z<0)))).setCell ⟨rb,1,none⟩ v) :=
 ⟨v,rfl,((hv.setOther (p:=⟨rb,0,none⟩) hrb1 _).setOther (p:=⟨rb,1,none⟩) hrb1 _).mono hB,(eP.setCell (p:=⟨rb,0,none⟩) hrb _).setCell (p:=⟨rb,1,none⟩) hrb _⟩

theorem whole_of (n z:Int) (w:World) (hz:z=n) (n0:-9223372036854775808<=n) (n1:n<9223372036854775808) :
  Calls Tryz.prog 61 #[.int .i64 n] w (zcg w z):=by
 by_cases hn:n<0
 ·obtain rfl:z=sgn true (val (zc (val (zc (-(n+1)).toNat)+val (zc (1:Int).toNat)))):=by rw [vL,vL,vL,zir];omega
  have hlen:∀ m:Nat,m<=18446744073709551616->sz m<=3:=fun m hm => by
   have:=zae hm
   rw [show sz 18446744073709551616=3 by decide +kernel] at this
   exact this
  have hl1:=hlen (-(n+1)).toNat (by omega)
  have hl2:=hlen (1:Int).toNat (by omega)
  have hl3:=hlen ((-(n+1)).toNat+(1:Int).toNat) (by omega)
  clear hlen
  go_enter Tryz.func61,Tryz.ntmps61
  go_wp2_with fail
  obtain ⟨W0,aG⟩:∃ W0,w.alloc (.cells #[.bool false,.slice none 0 0] 95)=W0:=⟨_,rfl⟩
  have ac:W0.cell? ⟨w.heap.size,0,none⟩=some (.bool false):=by rw [<- aG];simp [go_sem]
  have ag:W0.frozen? ⟨w.heap.size,0,none⟩=false:=by rw [<- aG];simp [go_sem]
  have ae:W0.cell? ⟨w.heap.size,1,none⟩=some (.slice none 0 0):=by rw [<- aG];simp [go_sem]
  have ah:W0.frozen? ⟨w.heap.size,1,none⟩=false:=by rw [<- aG];simp [go_sem]
  have zs:w.heap.size<W0.heap.size:=by rw [<- aG];simp
  have zb:Below w.heap.size w W0:=by rw [<- aG];exact bN _ _
  rw [aG]
  clear aG
  refine (zcy _ _ (by omega) (by omega)).mono ?_
  rintro e w1 ⟨v1,rfl,hv1,aX⟩
  obtain ⟨a1_,n1_,c1_,rfl,H1,hm1⟩:=hv1.rd.open
  have hr_w1:w.heap.size<W0.heap.size:=(by omega)
  have hw_w1:w.heap.size<=W0.heap.size:=(by omega)
  replace ac:=(aX.cell (p:=⟨w.heap.size,0,none⟩) (by show w.heap.size<W0.heap.size;omega)).trans ac
  replace ag:=(aX.frozen (p:=⟨w.heap.size,0,none⟩) (by show w.heap.size<W0.heap.size;omega)).trans ag
  replace ae:=(aX.cell (p:=⟨w.heap.size,1,none⟩) (by show w.heap.size<W0.heap.size;omega)).trans ae
  replace ah:=(aX.frozen (p:=⟨w.heap.size,1,none⟩) (by show w.heap.size<W0.heap.size;omega)).trans ah
  replace zs:=Nat.lt_of_lt_of_le zs aX.size
  replace zb:=bS zb aX
  have g1:=hv1.rd
  go_wp2_with fail
  refine (zcy _ _ (by omega) (by omega)).mono ?_
  rintro e w2 ⟨v2,rfl,hv2,aR⟩
  obtain ⟨a2_,n2_,c2_,rfl,H2,hm2⟩:=hv2.rd.open
  have hr_w2:w.heap.size<w1.heap.size:=(by omega)
  have hw_w2:w.heap.size<=w1.heap.size:=(by omega)
  replace ac:=(aR.cell (p:=⟨w.heap.size,0,none⟩) (by show w.heap.size<w1.heap.size;omega)).trans ac
  replace ag:=(aR.frozen (p:=⟨w.heap.size,0,none⟩) (by show w.heap.size<w1.heap.size;omega)).trans ag
  replace ae:=(aR.cell (p:=⟨w.heap.size,1,none⟩) (by show w.heap.size<w1.heap.size;omega)).trans ae
  replace ah:=(aR.frozen (p:=⟨w.heap.size,1,none⟩) (by show w.heap.size<w1.heap.size;omega)).trans ah
  replace zs:=Nat.lt_of_lt_of_le zs aR.size
  replace g1:=g1.to aR
  replace zb:=bS zb aR
  have g2:=hv2.rd
  go_wp2_with fail
  refine (zjL _ _ _ _ _ g1 g2 (by rw [zd];omega) (by rw [zd];omega)).mono ?_
  rintro e w3 ⟨v3,rfl,hv3,bZ⟩
  obtain ⟨a3_,n3_,c3_,rfl,H3,hm3⟩:=hv3.rd.open
  have hr_w3:w.heap.size<w2.heap.size:=(by omega)
  have hw_w3:w.heap.size<=w2.heap.size:=(by omega)
  replace ac:=(bZ.cell (p:=⟨w.heap.size,0,none⟩) (by show w.heap.size<w2.heap.size;omega)).trans ac
  replace ag:=(bZ.frozen (p:=⟨w.heap.size,0,none⟩) (by show w.heap.size<w2.heap.size;omega)).trans ag
  replace ae:=(bZ.cell (p:=⟨w.heap.size,1,none⟩) (by show w.heap.size<w2.heap.size;omega)).trans ae
  replace ah:=(bZ.frozen (p:=⟨w.heap.size,1,none⟩) (by show w.heap.size<w2.heap.size;omega)).trans ah
  replace zs:=Nat.lt_of_lt_of_le zs bZ.size
  replace g1:=g1.to bZ
  replace g2:=g2.to bZ
  replace zb:=bS zb bZ
  have g3:=hv3.rd
  go_wp2_with fail
  refine (zaR true _ _ _ g3 (by rw [zd,vL,vL];omega)).mono ?_
  rintro e w4 ⟨v4,rfl,hv4,dA⟩
  obtain ⟨a4_,n4_,c4_,rfl,H4,hm4⟩:=hv4.rd.open
  have hr_w4:w.heap.size<w3.heap.size:=(by omega)
  have hw_w4:w.heap.size<=w3.heap.size:=(by omega)
  replace ac:=(dA.cell (p:=⟨w.heap.size,0,none⟩) (by show w.heap.size<w3.heap.size;omega)).trans ac
  replace ag:=(dA.frozen (p:=⟨w.heap.size,0,none⟩) (by show w.heap.size<w3.heap.size;omega)).trans ag
  replace ae:=(dA.cell (p:=⟨w.heap.size,1,none⟩) (by show w.heap.size<w3.heap.size;omega)).trans ae
  replace ah:=(dA.frozen (p:=⟨w.heap.size,1,none⟩) (by show w.heap.size<w3.heap.size;omega)).trans ah
  replace zs:=Nat.lt_of_lt_of_le zs dA.size
  replace g1:=g1.to dA
  replace g2:=g2.to dA
  replace g3:=g3.to dA
  replace zb:=bS zb dA
  have g4:=hv4.rd
  generalize hng4:decide (sgn true (val (zc (val (zc (-(n+1)).toNat)+val (zc (1:Int).toNat))))<0)=ng4
  have Hng4:=Lib.hid hng4
  clear hng4
  go_wp2_with fail
  have e4:=Hng4.out
  subst e4
  obtain ⟨k0,k1⟩:=zag (x:=.bool (decide (sgn true (val (zc (val (zc (-(n+1)).toNat)+val (zc (1:Int).toNat))))<0))) (y:=.slice a4_ n4_ c4_) ac ae
  exact bodyPost_ret (zV Tryz.results61 _ _ _ _ _ rfl k0 k1) rfl (finI2 zb (by omega) hr_w4 hw_w4 hv4)
 ·obtain rfl:z=sgn false (val (zc n.toNat)):=by rw [vL,zbN];omega
  have hl1:sz n.toNat<=3:=by
   have:=zae (show n.toNat<=18446744073709551616 by omega)
   rw [show sz 18446744073709551616=3 by decide +kernel] at this
   exact this
  go_enter Tryz.func61,Tryz.ntmps61
  go_wp2_with fail
  obtain ⟨W0,aG⟩:∃ W0,w.alloc (.cells #[.bool false,.slice none 0 0] 95)=W0:=⟨_,rfl⟩
  have ac:W0.cell? ⟨w.heap.size,0,none⟩=some (.bool false):=by rw [<- aG];simp [go_sem]
  have ag:W0.frozen? ⟨w.heap.size,0,none⟩=false:=by rw [<- aG];simp [go_sem]
  have ae:W0.cell? ⟨w.heap.size,1,none⟩=some (.slice none 0 0):=by rw [<- aG];simp [go_sem]
  have ah:W0.frozen? ⟨w.heap.size,1,none⟩=false:=by rw [<- aG];simp [go_sem]
  have zs:w.heap.size<W0.heap.size:=by rw [<- aG];simp
  have zb:Below w.heap.size w W0:=by rw [<- aG];exact bN _ _
  rw [aG]
  clear aG
  refine (zcy _ _ (by omega) (by omega)).mono ?_
  rintro e w1 ⟨v1,rfl,hv1,aX⟩
  obtain ⟨a1_,n1_,c1_,rfl,H1,hm1⟩:=hv1.rd.open
  have hr_w1:w.heap.size<W0.heap.size:=(by omega)
  have hw_w1:w.heap.size<=W0.heap.size:=(by omega)
  replace ac:=(aX.cell (p:=⟨w.heap.size,0,none⟩) (by show w.heap.size<W0.heap.size;omega)).trans ac
  replace ag:=(aX.frozen (p:=⟨w.heap.size,0,none⟩) (by show w.heap.size<W0.heap.size;omega)).trans ag
  replace ae:=(aX.cell (p:=⟨w.heap.size,1,none⟩) (by show w.heap.size<W0.heap.size;omega)).trans ae
  replace ah:=(aX.frozen (p:=⟨w.heap.size,1,none⟩) (by show w.heap.size<W0.heap.size;omega)).trans ah
  replace zs:=Nat.lt_of_lt_of_le zs aX.size
  replace zb:=bS zb aX
  have g1:=hv1.rd
  go_wp2_with fail
  refine (zaR false _ _ _ g1 (by rw [zd];omega)).mono ?_
  rintro e w4 ⟨v4,rfl,hv4,dA⟩
  obtain ⟨a4_,n4_,c4_,rfl,H4,hm4⟩:=hv4.rd.open
  have hr_w4:w.heap.size<w1.heap.size:=(by omega)
  have hw_w4:w.heap.size<=w1.heap.size:=(by omega)
  replace ac:=(dA.cell (p:=⟨w.heap.size,0,none⟩) (by show w.heap.size<w1.heap.size;omega)).trans ac
  replace ag:=(dA.frozen (p:=⟨w.heap.size,0,none⟩) (by show w.heap.size<w1.heap.size;omega)).trans ag
  replace ae:=(dA.cell (p:=⟨w.heap.size,1,none⟩) (by show w.heap.size<w1.heap.size;omega)).trans ae
  replace ah:=(dA.frozen (p:=⟨w.heap.size,1,none⟩) (by show w.heap.size<w1.heap.size;omega)).trans ah
  replace zs:=Nat.lt_of_lt_of_le zs dA.size
  replace g1:=g1.to dA
  replace zb:=bS zb dA
  have g4:=hv4.rd
  generalize hng4:decide (sgn false (val (zc n.toNat))<0)=ng4
  have Hng4:=Lib.hid hng4
  clear hng4
  go_wp2_with fail
  have e4:=Hng4.out
  subst e4
  obtain ⟨k0,k1⟩:=zag (x:=.bool (decide (sgn false (val (zc n.toNat))<0))) (y:=.slice a4_ n4_ c4_) ac ae
  exact bodyPost_ret (zV Tryz.results61 _ _ _ _ _ rfl k0 k1) rfl (finI2 zb (by omega) hr_w4 hw_w4 hv4)

end Go.Proofs.YtkjcdnlpjldhaaaGreat


namespace Go.Proofs.YtkjcdnlpjldhaaaGreat
open Go.RowKit Tw
attribute [local go_sem ↓] Go.wp_at_zero Go.wp_at_succ

theorem ref7_of (n z:Int) (w:World) (hz:z=n) (n0:-9223372036854775808<=n) (n1:n<9223372036854775808) :
  Calls Tryz.prog 48 #[.int .i64 n] w (zcg w z):=by
 by_cases hn:0<=n
 ·have hd:decide (z<0)=false:=by simp;omega
  have ha:z.natAbs=(n).toNat:=by omega
  
  go_enter Tryz.func48,Tryz.ntmps48
  go_wp2_with fail
  obtain ⟨W0,aG⟩:∃ W0,w.alloc (.cells #[.bool false,.slice none 0 0] 95)=W0:=⟨_,rfl⟩
  have ac:W0.cell? ⟨w.heap.size,0,none⟩=some (.bool false):=by rw [<- aG];simp [go_sem]
  have ag:W0.frozen? ⟨w.heap.size,0,none⟩=false:=by rw [<- aG];simp [go_sem]
  have ae:W0.cell? ⟨w.heap.size,1,none⟩=some (.slice none 0 0):=by rw [<- aG];simp [go_sem]
  have ah:W0.frozen? ⟨w.heap.size,1,none⟩=false:=by rw [<- aG];simp [go_sem]
  have zs:w.heap.size<W0.heap.size:=by rw [<- aG];simp
  have zb:Below w.heap.size w W0:=by rw [<- aG];exact bN _ _
  rw [aG]
  clear aG
  refine (zjY (n) _ (by omega) (by omega)).mono ?_
  rintro e w2 ⟨v2,rfl,hv2,aR⟩
  obtain ⟨a2_,n2_,c2_,rfl,H2,hm2⟩:=hv2.rd.open
  have hr_w2:w.heap.size<W0.heap.size:=(by omega)
  have hw_w2:w.heap.size<=W0.heap.size:=(by omega)
  replace ac:=(aR.cell (p:=⟨w.heap.size,0,none⟩) (by show w.heap.size<W0.heap.size;omega)).trans ac
  replace ag:=(aR.frozen (p:=⟨w.heap.size,0,none⟩) (by show w.heap.size<W0.heap.size;omega)).trans ag
  replace ae:=(aR.cell (p:=⟨w.heap.size,1,none⟩) (by show w.heap.size<W0.heap.size;omega)).trans ae
  replace ah:=(aR.frozen (p:=⟨w.heap.size,1,none⟩) (by show w.heap.size<W0.heap.size;omega)).trans ah
  replace zs:=Nat.lt_of_lt_of_le zs aR.size
  replace zb:=bS zb aR
  have g2:=hv2.rd
  go_wp2_with fail
  obtain ⟨k0,k1⟩:=zag (x:=.bool false) (y:=.slice a2_ n2_ c2_) ac ae
  rw [<- ha] at hv2
  have hfin:=finI2 zb (by omega) hr_w2 hw_w2 hv2
  rw [hd] at hfin
  exact bodyPost_ret (zV Tryz.results48 _ _ _ _ _ rfl k0 k1) rfl hfin
 ·have hd:decide (z<0)=true:=by simp;omega
  have ha:z.natAbs=(-n).toNat:=by omega
  
  have Hw:IntKind.u64.wrap (-IntKind.u64.wrap n)=-n:=by
   show (-(n % 18446744073709551616)) % 18446744073709551616=-n
   omega
  go_enter Tryz.func48,Tryz.ntmps48
  go_wp2_with fail
  obtain ⟨W0,aG⟩:∃ W0,w.alloc (.cells #[.bool false,.slice none 0 0] 95)=W0:=⟨_,rfl⟩
  have ac:W0.cell? ⟨w.heap.size,0,none⟩=some (.bool false):=by rw [<- aG];simp [go_sem]
  have ag:W0.frozen? ⟨w.heap.size,0,none⟩=false:=by rw [<- aG];simp [go_sem]
  have ae:W0.cell? ⟨w.heap.size,1,none⟩=some (.slice none 0 0):=by rw [<- aG];simp [go_sem]
  have ah:W0.frozen? ⟨w.heap.size,1,none⟩=false:=by rw [<- aG];simp [go_sem]
  have zs:w.heap.size<W0.heap.size:=by rw [<- aG];simp
  have zb:Below w.heap.size w W0:=by rw [<- aG];exact bN _ _
  rw [aG]
  clear aG
  refine (zjY (-n) _ (by omega) (by omega)).mono ?_
  rintro e w2 ⟨v2,rfl,hv2,aR⟩
  obtain ⟨a2_,n2_,c2_,rfl,H2,hm2⟩:=hv2.rd.open
  have hr_w2:w.heap.size<W0.heap.size:=(by omega)
  have hw_w2:w.heap.size<=W0.heap.size:=(by omega)
  replace ac:=(aR.cell (p:=⟨w.heap.size,0,none⟩) (by show w.heap.size<W0.heap.size;omega)).trans ac
  replace ag:=(aR.frozen (p:=⟨w.heap.size,0,none⟩) (by show w.heap.size<W0.heap.size;omega)).trans ag
  replace ae:=(aR.cell (p:=⟨w.heap.size,1,none⟩) (by show w.heap.size<W0.heap.size;omega)).trans ae
  replace ah:=(aR.frozen (p:=⟨w.heap.size,1,none⟩) (by show w.heap.size<W0.heap.size;omega)).trans ah
  replace zs:=Nat.lt_of_lt_of_le zs aR.size
  replace zb:=bS zb aR
  have g2:=hv2.rd
  go_wp2_with fail
  obtain ⟨k0,k1⟩:=zag (x:=.bool true) (y:=.slice a2_ n2_ c2_) ac ae
  rw [<- ha] at hv2
  have hfin:=finI2 zb (by omega) hr_w2 hw_w2 hv2
  rw [hd] at hfin
  exact bodyPost_ret (zV Tryz.results48 _ _ _ _ _ rfl k0 k1) rfl hfin

end Go.Proofs.YtkjcdnlpjldhaaaGreat


namespace Go.Proofs.YtkjcdnlpjldhaaaGreat
open Go.RowKit Tw
attribute [local go_sem ↓] Go.wp_at_zero Go.wp_at_succ

end Go.Proofs.YtkjcdnlpjldhaaaGreat

