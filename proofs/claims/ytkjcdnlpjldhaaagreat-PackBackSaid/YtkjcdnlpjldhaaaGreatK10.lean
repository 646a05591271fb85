/-
  The texts Whole2, Whole3, Whole4, Ref7, Ref7b, merged.
-/
import Derived.Test.YtkjcdnlpjldhaaaGreatK09
import Derived.Deep.DrawnRows
import Derived.Laws.EntriesVeiled
import Derived.Test.YtkjcdnlpjldhaaaGreatK08
set_option linter.unusedVariables false
set_option linter.unusedSimpArgs false
set_option maxRecDepth 100000
set_option maxHeartbeats 400000000
namespace Go.Proofs.YtkjcdnlpjldhaaaGreat
open Go.RowKit Tw
attribute [local go_sem ↓] Go.wp_at_zero Go.wp_at_succ

theorem zkj (b c:Bool) (va vb:Value) (la lb:List Nat) (w:World) (ha:Rd w va la) (hb:Rd w vb lb) (hla:la.length<=400000) (hlb:lb.length<=400000) :
  Calls Tryz.prog 159 #[aggI b va,aggI c vb] w (zcL w (sgn b (val la+val lb))):=by
 have hsa:=zy ha.1
 have hsb:=zy hb.1
 have hs:=zfx (val la) (val lb)
 have hm:=zaZ (val la) (val lb)
 have hd1:=zcN (val la) (val lb)
 have hd2:=zcN (val lb) (val la)
 rw [show sgn b (val la+val lb)=sgn b (val (za (val la+val lb))) by rw [vL]]
 obtain ⟨a0,n0,c0,rfl,_,_⟩:=ha.open
 obtain ⟨a1,n1,c1,rfl,_,_⟩:=hb.open
 go_enter Tryz.func159,Tryz.ntmps159
 go_wp2_with fail
 obtain ⟨W0,an⟩:∃ W0,((w.alloc (.cells #[.bool b,.slice a0 n0 c0] 95)).alloc (.cells #[.bool c,.slice a1 n1 c1] 95)).alloc (.cells #[.bool false,.slice none 0 0] 95)=W0:=⟨_,rfl⟩
 have ec:W0.cell? ⟨w.heap.size,0,none⟩=some (.bool b):=by rw [<- an];simp [go_sem]
 have q0_0:W0.frozen? ⟨w.heap.size,0,none⟩=false:=by rw [<- an];simp [go_sem]
 have ed:W0.cell? ⟨w.heap.size,1,none⟩=some (.slice a0 n0 c0):=by rw [<- an];simp [go_sem]
 have q0_1:W0.frozen? ⟨w.heap.size,1,none⟩=false:=by rw [<- an];simp [go_sem]
 have ee:W0.cell? ⟨w.heap.size+1,0,none⟩=some (.bool c):=by rw [<- an];simp [go_sem]
 have q1_0:W0.frozen? ⟨w.heap.size+1,0,none⟩=false:=by rw [<- an];simp [go_sem]
 have eh:W0.cell? ⟨w.heap.size+1,1,none⟩=some (.slice a1 n1 c1):=by rw [<- an];simp [go_sem]
 have q1_1:W0.frozen? ⟨w.heap.size+1,1,none⟩=false:=by rw [<- an];simp [go_sem]
 have ei:W0.cell? ⟨w.heap.size+1+1,0,none⟩=some (.bool false):=by rw [<- an];simp [go_sem]
 have q2_0:W0.frozen? ⟨w.heap.size+1+1,0,none⟩=false:=by rw [<- an];simp [go_sem]
 have ek:W0.cell? ⟨w.heap.size+1+1,1,none⟩=some (.slice none 0 0):=by rw [<- an];simp [go_sem]
 have q2_1:W0.frozen? ⟨w.heap.size+1+1,1,none⟩=false:=by rw [<- an];simp [go_sem]
 have zs:w.heap.size+1+1<W0.heap.size:=by rw [<- an];simp
 have zb:Below w.heap.size w W0:=by rw [<- an];exact bS (bS (bN _ _) (bN _ _)) (bN _ _)
 rw [an]
 clear an
 have g0:=ha.to zb
 have g1:=hb.to zb
 go_region_with (first
  | (go_at_call 88;refine (zlt _ _ la lb _ g0.drew g1.drew (by omega) (by omega)).mono ?_;rintro e w2 ⟨v2,rfl,hv2,aZ⟩;obtain ⟨a2_,n2_,c2_,rfl,_,_⟩:=hv2.rd.open;have ae:=(aZ.cell (p:=⟨w.heap.size,0,none⟩) (by show w.heap.size<W0.heap.size;omega)).trans ec;have ah:=(aZ.frozen (p:=⟨w.heap.size,0,none⟩) (by show w.heap.size<W0.heap.size;omega)).trans q0_0;have af:=(aZ.cell (p:=⟨w.heap.size,1,none⟩) (by show w.heap.size<W0.heap.size;omega)).trans ed;have ak:=(aZ.frozen (p:=⟨w.heap.size,1,none⟩) (by show w.heap.size<W0.heap.size;omega)).trans q0_1;have aB:=(aZ.cell (p:=⟨w.heap.size+1,0,none⟩) (by show w.heap.size+1<W0.heap.size;omega)).trans ee;have aG:=(aZ.frozen (p:=⟨w.heap.size+1,0,none⟩) (by show w.heap.size+1<W0.heap.size;omega)).trans q1_0;have aD:=(aZ.cell (p:=⟨w.heap.size+1,1,none⟩) (by show w.heap.size+1<W0.heap.size;omega)).trans eh;have aH:=(aZ.frozen (p:=⟨w.heap.size+1,1,none⟩) (by show w.heap.size+1<W0.heap.size;omega)).trans q1_1;have bu:=(aZ.cell (p:=⟨w.heap.size+1+1,0,none⟩) (by show w.heap.size+1+1<W0.heap.size;omega)).trans ei;have bV:=(aZ.frozen (p:=⟨w.heap.size+1+1,0,none⟩) (by show w.heap.size+1+1<W0.heap.size;omega)).trans q2_0;have bv:=(aZ.cell (p:=⟨w.heap.size+1+1,1,none⟩) (by show w.heap.size+1+1<W0.heap.size;omega)).trans ek;have bW:=(aZ.frozen (p:=⟨w.heap.size+1+1,1,none⟩) (by show w.heap.size+1+1<W0.heap.size;omega)).trans q2_1)
  | (go_at_call 87;refine (zbm b _ _ _ hv2.rd (by rw [ze];omega)).mono ?_;rintro e w3 ⟨v3,rfl,hv3,cl⟩;obtain ⟨a3_,n3_,c3_,rfl,_,_⟩:=hv3.rd.open;have bU:=bS aZ cl;have x0_0r:=(bU.cell (p:=⟨w.heap.size,0,none⟩) (by show w.heap.size<W0.heap.size;omega)).trans ec;have y0_0r:=(bU.frozen (p:=⟨w.heap.size,0,none⟩) (by show w.heap.size<W0.heap.size;omega)).trans q0_0;have x0_1r:=(bU.cell (p:=⟨w.heap.size,1,none⟩) (by show w.heap.size<W0.heap.size;omega)).trans ed;have y0_1r:=(bU.frozen (p:=⟨w.heap.size,1,none⟩) (by show w.heap.size<W0.heap.size;omega)).trans q0_1;have x1_0r:=(bU.cell (p:=⟨w.heap.size+1,0,none⟩) (by show w.heap.size+1<W0.heap.size;omega)).trans ee;have y1_0r:=(bU.frozen (p:=⟨w.heap.size+1,0,none⟩) (by show w.heap.size+1<W0.heap.size;omega)).trans q1_0;have x1_1r:=(bU.cell (p:=⟨w.heap.size+1,1,none⟩) (by show w.heap.size+1<W0.heap.size;omega)).trans eh;have y1_1r:=(bU.frozen (p:=⟨w.heap.size+1,1,none⟩) (by show w.heap.size+1<W0.heap.size;omega)).trans q1_1;have x2_0r:=(bU.cell (p:=⟨w.heap.size+1+1,0,none⟩) (by show w.heap.size+1+1<W0.heap.size;omega)).trans ei;have y2_0r:=(bU.frozen (p:=⟨w.heap.size+1+1,0,none⟩) (by show w.heap.size+1+1<W0.heap.size;omega)).trans q2_0;have x2_1r:=(bU.cell (p:=⟨w.heap.size+1+1,1,none⟩) (by show w.heap.size+1+1<W0.heap.size;omega)).trans ek;have y2_1r:=(bU.frozen (p:=⟨w.heap.size+1+1,1,none⟩) (by show w.heap.size+1+1<W0.heap.size;omega)).trans q2_1;generalize hng:decide (sgn b (val (za (val la+val lb)))<0)=ng;have Hng:=Lib.hid hng;clear hng))
 all_goals
  go_wp2_with fail
  have zs':w.heap.size+1+1<W0.drew.heap.size:=zs
  replace zb:Below w.heap.size w W0.drew:=zb.drew
  have e:=Hng.out
  subst e
  obtain ⟨k0,k1⟩:=zaw (x:=.bool (decide (sgn b (val (za (val la+val lb)))<0))) (y:=.slice a3_ n3_ c3_) x2_0r x2_1r
  exact bodyPost_ret (zah Tryz.results159 _ _ _ _ _ rfl k0 k1) rfl (finI zb (by omega) zs' (hv3.mono aZ.size) bU)

theorem zna (b c:Bool) (va vb:Value) (la lb:List Nat) (w:World) (ha:Rd w va la) (hb:Rd w vb lb) (hla:la.length<=400000) (hlb:lb.length<=400000) :
  Calls Tryz.prog 144 #[aggI b va,aggI c vb] w (zcL w (sgn b (val la)*sgn c (val lb))):=by
 have hsa:=zy ha.1
 have hsb:=zy hb.1
 have hs:=zfx (val la) (val lb)
 have hm:=zaZ (val la) (val lb)
 have hd1:=zcN (val la) (val lb)
 have hd2:=zcN (val lb) (val la)
 rw [<- zlI,show sgn (b != c) (val la*val lb)=sgn (b != c) (val (za (val la*val lb))) by rw [vL]]
 obtain ⟨a0,n0,c0,rfl,_,_⟩:=ha.open
 obtain ⟨a1,n1,c1,rfl,_,_⟩:=hb.open
 go_enter Tryz.func144,Tryz.ntmps144
 go_wp2_with fail
 obtain ⟨W0,an⟩:∃ W0,((w.alloc (.cells #[.bool b,.slice a0 n0 c0] 95)).alloc (.cells #[.bool c,.slice a1 n1 c1] 95)).alloc (.cells #[.bool false,.slice none 0 0] 95)=W0:=⟨_,rfl⟩
 have ec:W0.cell? ⟨w.heap.size,0,none⟩=some (.bool b):=by rw [<- an];simp [go_sem]
 have q0_0:W0.frozen? ⟨w.heap.size,0,none⟩=false:=by rw [<- an];simp [go_sem]
 have ed:W0.cell? ⟨w.heap.size,1,none⟩=some (.slice a0 n0 c0):=by rw [<- an];simp [go_sem]
 have q0_1:W0.frozen? ⟨w.heap.size,1,none⟩=false:=by rw [<- an];simp [go_sem]
 have ee:W0.cell? ⟨w.heap.size+1,0,none⟩=some (.bool c):=by rw [<- an];simp [go_sem]
 have q1_0:W0.frozen? ⟨w.heap.size+1,0,none⟩=false:=by rw [<- an];simp [go_sem]
 have eh:W0.cell? ⟨w.heap.size+1,1,none⟩=some (.slice a1 n1 c1):=by rw [<- an];simp [go_sem]
 have q1_1:W0.frozen? ⟨w.heap.size+1,1,none⟩=false:=by rw [<- an];simp [go_sem]
 have ei:W0.cell? ⟨w.heap.size+1+1,0,none⟩=some (.bool false):=by rw [<- an];simp [go_sem]
 have q2_0:W0.frozen? ⟨w.heap.size+1+1,0,none⟩=false:=by rw [<- an];simp [go_sem]
 have ek:W0.cell? ⟨w.heap.size+1+1,1,none⟩=some (.slice none 0 0):=by rw [<- an];simp [go_sem]
 have q2_1:W0.frozen? ⟨w.heap.size+1+1,1,none⟩=false:=by rw [<- an];simp [go_sem]
 have zs:w.heap.size+1+1<W0.heap.size:=by rw [<- an];simp
 have zb:Below w.heap.size w W0:=by rw [<- an];exact bS (bS (bN _ _) (bN _ _)) (bN _ _)
 rw [an]
 clear an
 have g0:=ha.to zb
 have g1:=hb.to zb
 go_region_with (first
  | (go_at_call 147;refine (zcq _ _ la lb _ g0.drew g1.drew (by omega) (by omega)).mono ?_;rintro e w2 ⟨v2,rfl,hv2,aZ⟩;obtain ⟨a2_,n2_,c2_,rfl,_,_⟩:=hv2.rd.open;have ae:=(aZ.cell (p:=⟨w.heap.size,0,none⟩) (by show w.heap.size<W0.heap.size;omega)).trans ec;have ah:=(aZ.frozen (p:=⟨w.heap.size,0,none⟩) (by show w.heap.size<W0.heap.size;omega)).trans q0_0;have af:=(aZ.cell (p:=⟨w.heap.size,1,none⟩) (by show w.heap.size<W0.heap.size;omega)).trans ed;have ak:=(aZ.frozen (p:=⟨w.heap.size,1,none⟩) (by show w.heap.size<W0.heap.size;omega)).trans q0_1;have aB:=(aZ.cell (p:=⟨w.heap.size+1,0,none⟩) (by show w.heap.size+1<W0.heap.size;omega)).trans ee;have aG:=(aZ.frozen (p:=⟨w.heap.size+1,0,none⟩) (by show w.heap.size+1<W0.heap.size;omega)).trans q1_0;have aD:=(aZ.cell (p:=⟨w.heap.size+1,1,none⟩) (by show w.heap.size+1<W0.heap.size;omega)).trans eh;have aH:=(aZ.frozen (p:=⟨w.heap.size+1,1,none⟩) (by show w.heap.size+1<W0.heap.size;omega)).trans q1_1;have bu:=(aZ.cell (p:=⟨w.heap.size+1+1,0,none⟩) (by show w.heap.size+1+1<W0.heap.size;omega)).trans ei;have bV:=(aZ.frozen (p:=⟨w.heap.size+1+1,0,none⟩) (by show w.heap.size+1+1<W0.heap.size;omega)).trans q2_0;have bv:=(aZ.cell (p:=⟨w.heap.size+1+1,1,none⟩) (by show w.heap.size+1+1<W0.heap.size;omega)).trans ek;have bW:=(aZ.frozen (p:=⟨w.heap.size+1+1,1,none⟩) (by show w.heap.size+1+1<W0.heap.size;omega)).trans q2_1)
  | (go_at_call 87;refine (zbm (b != c) _ _ _ hv2.rd (by rw [ze];omega)).mono ?_;rintro e w3 ⟨v3,rfl,hv3,cl⟩;obtain ⟨a3_,n3_,c3_,rfl,_,_⟩:=hv3.rd.open;have bU:=bS aZ cl;have x0_0r:=(bU.cell (p:=⟨w.heap.size,0,none⟩) (by show w.heap.size<W0.heap.size;omega)).trans ec;have y0_0r:=(bU.frozen (p:=⟨w.heap.size,0,none⟩) (by show w.heap.size<W0.heap.size;omega)).trans q0_0;have x0_1r:=(bU.cell (p:=⟨w.heap.size,1,none⟩) (by show w.heap.size<W0.heap.size;omega)).trans ed;have y0_1r:=(bU.frozen (p:=⟨w.heap.size,1,none⟩) (by show w.heap.size<W0.heap.size;omega)).trans q0_1;have x1_0r:=(bU.cell (p:=⟨w.heap.size+1,0,none⟩) (by show w.heap.size+1<W0.heap.size;omega)).trans ee;have y1_0r:=(bU.frozen (p:=⟨w.heap.size+1,0,none⟩) (by show w.heap.size+1<W0.heap.size;omega)).trans q1_0;have x1_1r:=(bU.cell (p:=⟨w.heap.size+1,1,none⟩) (by show w.heap.size+1<W0.heap.size;omega)).trans eh;have y1_1r:=(bU.frozen (p:=⟨w.heap.size+1,1,none⟩) (by show w.heap.size+1<W0.heap.size;omega)).trans q1_1;have x2_0r:=(bU.cell (p:=⟨w.heap.size+1+1,0,none⟩) (by show w.heap.size+1+1<W0.heap.size;omega)).trans ei;have y2_0r:=(bU.frozen (p:=⟨w.heap.size+1+1,0,none⟩) (by show w.heap.size+1+1<W0.heap.size;omega)).trans q2_0;have x2_1r:=(bU.cell (p:=⟨w.heap.size+1+1,1,none⟩) (by show w.heap.size+1+1<W0.heap.size;omega)).trans ek;have y2_1r:=(bU.frozen (p:=⟨w.heap.size+1+1,1,none⟩) (by show w.heap.size+1+1<W0.heap.size;omega)).trans q2_1;generalize hng:decide (sgn (b != c) (val (za (val la*val lb)))<0)=ng;have Hng:=Lib.hid hng;clear hng))
 all_goals
  go_wp2_with fail
  have zs':w.heap.size+1+1<W0.drew.heap.size:=zs
  replace zb:Below w.heap.size w W0.drew:=zb.drew
  have e:=Hng.out
  subst e
  obtain ⟨k0,k1⟩:=zaw (x:=.bool (decide (sgn (b != c) (val (za (val la*val lb)))<0))) (y:=.slice a3_ n3_ c3_) x2_0r x2_1r
  exact bodyPost_ret (zah Tryz.results144 _ _ _ _ _ rfl k0 k1) rfl (finI zb (by omega) zs' (hv3.mono aZ.size) bU)

end Go.Proofs.YtkjcdnlpjldhaaaGreat


namespace Go.Proofs.YtkjcdnlpjldhaaaGreat
open Go.RowKit Tw
attribute [local go_sem ↓] Go.wp_at_zero Go.wp_at_succ

theorem ziX (b c:Bool) (va vb:Value) (la lb:List Nat) (w:World) (ha:Rd w va la) (hb:Rd w vb lb) (hla:la.length<=400000) (hlb:lb.length<=400000) (hbc:b≠c) :
  Calls Tryz.prog 158 #[aggI b va,aggI c vb] w (zcL w (sgn b (val la)+sgn c (val lb))):=by
 have hsa:=zy ha.1
 have hsb:=zy hb.1
 have hs:=zfx (val la) (val lb)
 have hm:=zaZ (val la) (val lb)
 have hd1:=zcN (val la) (val lb)
 have hd2:=zcN (val lb) (val la)
 obtain ⟨a0,n0,c0,rfl,_,_⟩:=ha.open
 obtain ⟨a1,n1,c1,rfl,_,_⟩:=hb.open
 by_cases hle:val lb<=val la
 ·rw [<- sgn_less hbc hle,show sgn b (val la - val lb)=sgn b (val (za (val la - val lb))) by rw [vL]]
  go_enter Tryz.func158,Tryz.ntmps158
  go_wp2_with fail
  obtain ⟨W0,an⟩:∃ W0,((w.alloc (.cells #[.bool b,.slice a0 n0 c0] 95)).alloc (.cells #[.bool c,.slice a1 n1 c1] 95)).alloc (.cells #[.bool false,.slice none 0 0] 95)=W0:=⟨_,rfl⟩
  have ec:W0.cell? ⟨w.heap.size,0,none⟩=some (.bool b):=by rw [<- an];simp [go_sem]
  have q0_0:W0.frozen? ⟨w.heap.size,0,none⟩=false:=by rw [<- an];simp [go_sem]
  have ed:W0.cell? ⟨w.heap.size,1,none⟩=some (.slice a0 n0 c0):=by rw [<- an];simp [go_sem]
  have q0_1:W0.frozen? ⟨w.heap.size,1,none⟩=false:=by rw [<- an];simp [go_sem]
  have ee:W0.cell? ⟨w.heap.size+1,0,none⟩=some (.bool c):=by rw [<- an];simp [go_sem]
  have q1_0:W0.frozen? ⟨w.heap.size+1,0,none⟩=false:=by rw [<- an];simp [go_sem]
  have eh:W0.cell? ⟨w.heap.size+1,1,none⟩=some (.slice a1 n1 c1):=by rw [<- an];simp [go_sem]
  have q1_1:W0.frozen? ⟨w.heap.size+1,1,none⟩=false:=by rw [<- an];simp [go_sem]
  have ei:W0.cell? ⟨w.heap.size+1+1,0,none⟩=some (.bool false):=by rw [<- an];simp [go_sem]
  have q2_0:W0.frozen? ⟨w.heap.size+1+1,0,none⟩=false:=by rw [<- an];simp [go_sem]
  have ek:W0.cell? ⟨w.heap.size+1+1,1,none⟩=some (.slice none 0 0):=by rw [<- an];simp [go_sem]
  have q2_1:W0.frozen? ⟨w.heap.size+1+1,1,none⟩=false:=by rw [<- an];simp [go_sem]
  have zs:w.heap.size+1+1<W0.heap.size:=by rw [<- an];simp
  have zb:Below w.heap.size w W0:=by rw [<- an];exact bS (bS (bN _ _) (bN _ _)) (bN _ _)
  rw [an]
  clear an
  have g0:=ha.to zb
  have g1:=hb.to zb
  refine (zis _ _ la lb _ g0 g1 (by omega) hle).mono ?_
  rintro e w2 ⟨v2,rfl,hv2,aZ⟩
  obtain ⟨a2_,n2_,c2_,rfl,_,_⟩:=hv2.rd.open
  have ae:=(aZ.cell (p:=⟨w.heap.size,0,none⟩) (by show w.heap.size<W0.heap.size;omega)).trans ec
  have ah:=(aZ.frozen (p:=⟨w.heap.size,0,none⟩) (by show w.heap.size<W0.heap.size;omega)).trans q0_0
  have af:=(aZ.cell (p:=⟨w.heap.size,1,none⟩) (by show w.heap.size<W0.heap.size;omega)).trans ed
  have ak:=(aZ.frozen (p:=⟨w.heap.size,1,none⟩) (by show w.heap.size<W0.heap.size;omega)).trans q0_1
  have aB:=(aZ.cell (p:=⟨w.heap.size+1,0,none⟩) (by show w.heap.size+1<W0.heap.size;omega)).trans ee
  have aG:=(aZ.frozen (p:=⟨w.heap.size+1,0,none⟩) (by show w.heap.size+1<W0.heap.size;omega)).trans q1_0
  have aD:=(aZ.cell (p:=⟨w.heap.size+1,1,none⟩) (by show w.heap.size+1<W0.heap.size;omega)).trans eh
  have aH:=(aZ.frozen (p:=⟨w.heap.size+1,1,none⟩) (by show w.heap.size+1<W0.heap.size;omega)).trans q1_1
  have bu:=(aZ.cell (p:=⟨w.heap.size+1+1,0,none⟩) (by show w.heap.size+1+1<W0.heap.size;omega)).trans ei
  have bV:=(aZ.frozen (p:=⟨w.heap.size+1+1,0,none⟩) (by show w.heap.size+1+1<W0.heap.size;omega)).trans q2_0
  have bv:=(aZ.cell (p:=⟨w.heap.size+1+1,1,none⟩) (by show w.heap.size+1+1<W0.heap.size;omega)).trans ek
  have bW:=(aZ.frozen (p:=⟨w.heap.size+1+1,1,none⟩) (by show w.heap.size+1+1<W0.heap.size;omega)).trans q2_1
  go_wp2_with fail
  refine (zbm b _ _ _ hv2.rd (by rw [ze];omega)).mono ?_
  rintro e w3 ⟨v3,rfl,hv3,cl⟩
  obtain ⟨a3_,n3_,c3_,rfl,_,_⟩:=hv3.rd.open
  have bU:=bS aZ cl
  have x0_0r:=(bU.cell (p:=⟨w.heap.size,0,none⟩) (by show w.heap.size<W0.heap.size;omega)).trans ec
  have y0_0r:=(bU.frozen (p:=⟨w.heap.size,0,none⟩) (by show w.heap.size<W0.heap.size;omega)).trans q0_0
  have x0_1r:=(bU.cell (p:=⟨w.heap.size,1,none⟩) (by show w.heap.size<W0.heap.size;omega)).trans ed
  have y0_1r:=(bU.frozen (p:=⟨w.heap.size,1,none⟩) (by show w.heap.size<W0.heap.size;omega)).trans q0_1
  have x1_0r:=(bU.cell (p:=⟨w.heap.size+1,0,none⟩) (by show w.heap.size+1<W0.heap.size;omega)).trans ee
  have y1_0r:=(bU.frozen (p:=⟨w.heap.size+1,0,none⟩) (by show w.heap.size+1<W0.heap.size;omega)).trans q1_0
  have x1_1r:=(bU.cell (p:=⟨w.heap.size+1,1,none⟩) (by show w.heap.size+1<W0.heap.size;omega)).trans eh
  have y1_1r:=(bU.frozen (p:=⟨w.heap.size+1,1,none⟩) (by show w.heap.size+1<W0.heap.size;omega)).trans q1_1
  have x2_0r:=(bU.cell (p:=⟨w.heap.size+1+1,0,none⟩) (by show w.heap.size+1+1<W0.heap.size;omega)).trans ei
  have y2_0r:=(bU.frozen (p:=⟨w.heap.size+1+1,0,none⟩) (by show w.heap.size+1+1<W0.heap.size;omega)).trans q2_0
  have x2_1r:=(bU.cell (p:=⟨w.heap.size+1+1,1,none⟩) (by show w.heap.size+1+1<W0.heap.size;omega)).trans ek
  have y2_1r:=(bU.frozen (p:=⟨w.heap.size+1+1,1,none⟩) (by show w.heap.size+1+1<W0.heap.size;omega)).trans q2_1
  generalize hng:decide (sgn b (val (za (val la - val lb)))<0)=ng
  have Hng:=Lib.hid hng
  clear hng
  have zs':=zs
  replace hv3:=hv3.mono aZ.size
  go_wp2_with fail
  have e:=Hng.out
  subst e
  obtain ⟨k0,k1⟩:=zaw (x:=.bool (decide (sgn b (val (za (val la - val lb)))<0))) (y:=.slice a3_ n3_ c3_) x2_0r x2_1r
  exact bodyPost_ret (zah Tryz.results158 _ _ _ _ _ rfl k0 k1) rfl (finI zb (by omega) zs' hv3 bU)
 ·have hlt:val la<val lb:=by omega
  rw [<- sgn_more hbc hlt,show sgn c (val lb - val la)=sgn c (val (za (val lb - val la))) by rw [vL]]
  go_enter Tryz.func158,Tryz.ntmps158
  go_wp2_with fail
  obtain ⟨W0,an⟩:∃ W0,((w.alloc (.cells #[.bool b,.slice a0 n0 c0] 95)).alloc (.cells #[.bool c,.slice a1 n1 c1] 95)).alloc (.cells #[.bool false,.slice none 0 0] 95)=W0:=⟨_,rfl⟩
  have ec:W0.cell? ⟨w.heap.size,0,none⟩=some (.bool b):=by rw [<- an];simp [go_sem]
  have q0_0:W0.frozen? ⟨w.heap.size,0,none⟩=false:=by rw [<- an];simp [go_sem]
  have ed:W0.cell? ⟨w.heap.size,1,none⟩=some (.slice a0 n0 c0):=by rw [<- an];simp [go_sem]
  have q0_1:W0.frozen? ⟨w.heap.size,1,none⟩=false:=by rw [<- an];simp [go_sem]
  have ee:W0.cell? ⟨w.heap.size+1,0,none⟩=some (.bool c):=by rw [<- an];simp [go_sem]
  have q1_0:W0.frozen? ⟨w.heap.size+1,0,none⟩=false:=by rw [<- an];simp [go_sem]
  have eh:W0.cell? ⟨w.heap.size+1,1,none⟩=some (.slice a1 n1 c1):=by rw [<- an];simp [go_sem]
  have q1_1:W0.frozen? ⟨w.heap.size+1,1,none⟩=false:=by rw [<- an];simp [go_sem]
  have ei:W0.cell? ⟨w.heap.size+1+1,0,none⟩=some (.bool false):=by rw [<- an];simp [go_sem]
  have q2_0:W0.frozen? ⟨w.heap.size+1+1,0,none⟩=false:=by rw [<- an];simp [go_sem]
  have ek:W0.cell? ⟨w.heap.size+1+1,1,none⟩=some (.slice none 0 0):=by rw [<- an];simp [go_sem]
  have q2_1:W0.frozen? ⟨w.heap.size+1+1,1,none⟩=false:=by rw [<- an];simp [go_sem]
  have zs:w.heap.size+1+1<W0.heap.size:=by rw [<- an];simp
  have zb:Below w.heap.size w W0:=by rw [<- an];exact bS (bS (bN _ _) (bN _ _)) (bN _ _)
  rw [an]
  clear an
  have g0:=ha.to zb
  have g1:=hb.to zb
  refine (zgK _ _ la lb _ g0 g1 hlt).mono ?_
  rintro e w1 ⟨rfl,be⟩
  have x0_0p:=(be.cell (p:=⟨w.heap.size,0,none⟩) (by show w.heap.size<W0.heap.size;omega)).trans ec
  have y0_0p:=(be.frozen (p:=⟨w.heap.size,0,none⟩) (by show w.heap.size<W0.heap.size;omega)).trans q0_0
  have x0_1p:=(be.cell (p:=⟨w.heap.size,1,none⟩) (by show w.heap.size<W0.heap.size;omega)).trans ed
  have y0_1p:=(be.frozen (p:=⟨w.heap.size,1,none⟩) (by show w.heap.size<W0.heap.size;omega)).trans q0_1
  have x1_0p:=(be.cell (p:=⟨w.heap.size+1,0,none⟩) (by show w.heap.size+1<W0.heap.size;omega)).trans ee
  have y1_0p:=(be.frozen (p:=⟨w.heap.size+1,0,none⟩) (by show w.heap.size+1<W0.heap.size;omega)).trans q1_0
  have x1_1p:=(be.cell (p:=⟨w.heap.size+1,1,none⟩) (by show w.heap.size+1<W0.heap.size;omega)).trans eh
  have y1_1p:=(be.frozen (p:=⟨w.heap.size+1,1,none⟩) (by show w.heap.size+1<W0.heap.size;omega)).trans q1_1
  have x2_0p:=(be.cell (p:=⟨w.heap.size+1+1,0,none⟩) (by show w.heap.size+1+1<W0.heap.size;omega)).trans ei
  have y2_0p:=(be.frozen (p:=⟨w.heap.size+1+1,0,none⟩) (by show w.heap.size+1+1<W0.heap.size;omega)).trans q2_0
  have x2_1p:=(be.cell (p:=⟨w.heap.size+1+1,1,none⟩) (by show w.heap.size+1+1<W0.heap.size;omega)).trans ek
  have y2_1p:=(be.frozen (p:=⟨w.heap.size+1+1,1,none⟩) (by show w.heap.size+1+1<W0.heap.size;omega)).trans q2_1
  go_wp2_with fail
  refine (zis _ _ lb la _ (g1.to be) (g0.to be) (by omega) (by omega)).mono ?_
  rintro e w2 ⟨v2,rfl,hv2,aZ⟩
  obtain ⟨a2_,n2_,c2_,rfl,_,_⟩:=hv2.rd.open
  have ea:=bS be aZ
  clear x0_0p y0_0p x0_1p y0_1p x1_0p y1_0p x1_1p y1_1p x2_0p y2_0p x2_1p y2_1p
  have ae:=(ea.cell (p:=⟨w.heap.size,0,none⟩) (by show w.heap.size<W0.heap.size;omega)).trans ec
  have ah:=(ea.frozen (p:=⟨w.heap.size,0,none⟩) (by show w.heap.size<W0.heap.size;omega)).trans q0_0
  have af:=(ea.cell (p:=⟨w.heap.size,1,none⟩) (by show w.heap.size<W0.heap.size;omega)).trans ed
  have ak:=(ea.frozen (p:=⟨w.heap.size,1,none⟩) (by show w.heap.size<W0.heap.size;omega)).trans q0_1
  have aB:=(ea.cell (p:=⟨w.heap.size+1,0,none⟩) (by show w.heap.size+1<W0.heap.size;omega)).trans ee
  have aG:=(ea.frozen (p:=⟨w.heap.size+1,0,none⟩) (by show w.heap.size+1<W0.heap.size;omega)).trans q1_0
  have aD:=(ea.cell (p:=⟨w.heap.size+1,1,none⟩) (by show w.heap.size+1<W0.heap.size;omega)).trans eh
  have aH:=(ea.frozen (p:=⟨w.heap.size+1,1,none⟩) (by show w.heap.size+1<W0.heap.size;omega)).trans q1_1
  have bu:=(ea.cell (p:=⟨w.heap.size+1+1,0,none⟩) (by show w.heap.size+1+1<W0.heap.size;omega)).trans ei
  have bV:=(ea.frozen (p:=⟨w.heap.size+1+1,0,none⟩) (by show w.heap.size+1+1<W0.heap.size;omega)).trans q2_0
  have bv:=(ea.cell (p:=⟨w.heap.size+1+1,1,none⟩) (by show w.heap.size+1+1<W0.heap.size;omega)).trans ek
  have bW:=(ea.frozen (p:=⟨w.heap.size+1+1,1,none⟩) (by show w.heap.size+1+1<W0.heap.size;omega)).trans q2_1
  go_wp2_with fail
  refine (zbm c _ _ _ hv2.rd (by rw [ze];omega)).mono ?_
  rintro e w3 ⟨v3,rfl,hv3,cl⟩
  obtain ⟨a3_,n3_,c3_,rfl,_,_⟩:=hv3.rd.open
  have bU:=bS ea cl
  have x0_0r:=(bU.cell (p:=⟨w.heap.size,0,none⟩) (by show w.heap.size<W0.heap.size;omega)).trans ec
  have y0_0r:=(bU.frozen (p:=⟨w.heap.size,0,none⟩) (by show w.heap.size<W0.heap.size;omega)).trans q0_0
  have x0_1r:=(bU.cell (p:=⟨w.heap.size,1,none⟩) (by show w.heap.size<W0.heap.size;omega)).trans ed
  have y0_1r:=(bU.frozen (p:=⟨w.heap.size,1,none⟩) (by show w.heap.size<W0.heap.size;omega)).trans q0_1
  have x1_0r:=(bU.cell (p:=⟨w.heap.size+1,0,none⟩) (by show w.heap.size+1<W0.heap.size;omega)).trans ee
  have y1_0r:=(bU.frozen (p:=⟨w.heap.size+1,0,none⟩) (by show w.heap.size+1<W0.heap.size;omega)).trans q1_0
  have x1_1r:=(bU.cell (p:=⟨w.heap.size+1,1,none⟩) (by show w.heap.size+1<W0.heap.size;omega)).trans eh
  have y1_1r:=(bU.frozen (p:=⟨w.heap.size+1,1,none⟩) (by show w.heap.size+1<W0.heap.size;omega)).trans q1_1
  have x2_0r:=(bU.cell (p:=⟨w.heap.size+1+1,0,none⟩) (by show w.heap.size+1+1<W0.heap.size;omega)).trans ei
  have y2_0r:=(bU.frozen (p:=⟨w.heap.size+1+1,0,none⟩) (by show w.heap.size+1+1<W0.heap.size;omega)).trans q2_0
  have x2_1r:=(bU.cell (p:=⟨w.heap.size+1+1,1,none⟩) (by show w.heap.size+1+1<W0.heap.size;omega)).trans ek
  have y2_1r:=(bU.frozen (p:=⟨w.heap.size+1+1,1,none⟩) (by show w.heap.size+1+1<W0.heap.size;omega)).trans q2_1
  generalize hng:decide (sgn c (val (za (val lb - val la)))<0)=ng
  have Hng:=Lib.hid hng
  clear hng
  have zs':=zs
  replace hv3:=hv3.mono ea.size
  go_wp2_with fail
  have e:=Hng.out
  subst e
  obtain ⟨k0,k1⟩:=zaw (x:=.bool (decide (sgn c (val (za (val lb - val la)))<0))) (y:=.slice a3_ n3_ c3_) x2_0r x2_1r
  exact bodyPost_ret (zah Tryz.results158 _ _ _ _ _ rfl k0 k1) rfl (finI zb (by omega) zs' hv3 bU)

theorem zmZ (b c:Bool) (va vb:Value) (la lb:List Nat) (w:World) (ha:Rd w va la) (hb:Rd w vb lb) (hla:la.length<=400000) (hlb:lb.length<=400000) :
  Calls Tryz.prog 143 #[aggI b va,aggI c vb] w (zcL w (sgn b (val la)+sgn c (val lb))):=by
 have hsa:=zy ha.1
 have hsb:=zy hb.1
 have hs:=zfx (val la) (val lb)
 have hm:=zaZ (val la) (val lb)
 have hd1:=zcN (val la) (val lb)
 have hd2:=zcN (val lb) (val la)
 obtain ⟨a0,n0,c0,rfl,_,_⟩:=ha.open
 obtain ⟨a1,n1,c1,rfl,_,_⟩:=hb.open
 by_cases hbc:b=c
 ·subst hbc
  rw [<- sgn_same]
  go_enter Tryz.func143,Tryz.ntmps143
  go_wp2_with fail
  obtain ⟨W0,an⟩:∃ W0,(((w.alloc (.cells #[.bool b,.slice a0 n0 c0] 95)).alloc (.cells #[.bool b,.slice a1 n1 c1] 95)).alloc (.cells #[.bool false,.slice none 0 0] 95)).alloc (.cells #[.func (.func 159) #[] #[]] 177)=W0:=⟨_,rfl⟩
  have ec:W0.cell? ⟨w.heap.size,0,none⟩=some (.bool b):=by rw [<- an];simp [go_sem]
  have q0_0:W0.frozen? ⟨w.heap.size,0,none⟩=false:=by rw [<- an];simp [go_sem]
  have ed:W0.cell? ⟨w.heap.size,1,none⟩=some (.slice a0 n0 c0):=by rw [<- an];simp [go_sem]
  have q0_1:W0.frozen? ⟨w.heap.size,1,none⟩=false:=by rw [<- an];simp [go_sem]
  have ee:W0.cell? ⟨w.heap.size+1,0,none⟩=some (.bool b):=by rw [<- an];simp [go_sem]
  have q1_0:W0.frozen? ⟨w.heap.size+1,0,none⟩=false:=by rw [<- an];simp [go_sem]
  have eh:W0.cell? ⟨w.heap.size+1,1,none⟩=some (.slice a1 n1 c1):=by rw [<- an];simp [go_sem]
  have q1_1:W0.frozen? ⟨w.heap.size+1,1,none⟩=false:=by rw [<- an];simp [go_sem]
  have ei:W0.cell? ⟨w.heap.size+1+1,0,none⟩=some (.bool false):=by rw [<- an];simp [go_sem]
  have q2_0:W0.frozen? ⟨w.heap.size+1+1,0,none⟩=false:=by rw [<- an];simp [go_sem]
  have ek:W0.cell? ⟨w.heap.size+1+1,1,none⟩=some (.slice none 0 0):=by rw [<- an];simp [go_sem]
  have q2_1:W0.frozen? ⟨w.heap.size+1+1,1,none⟩=false:=by rw [<- an];simp [go_sem]
  have gQ:W0.cell? ⟨w.heap.size+1+1+1,0,none⟩=some (.func (.func 159) #[] #[]):=by rw [<- an];simp [go_sem]
  have q3_0:W0.frozen? ⟨w.heap.size+1+1+1,0,none⟩=false:=by rw [<- an];simp [go_sem]
  have zs:w.heap.size+1+1+1<W0.heap.size:=by rw [<- an];simp
  have zb:Below w.heap.size w W0:=by rw [<- an];exact bS (bS (bS (bN _ _) (bN _ _)) (bN _ _)) (bN _ _)
  rw [an]
  clear an
  have g0:=ha.to zb
  have g1:=hb.to zb
  have zs':w.heap.size+1+1<W0.heap.size:=by omega
  refine (zkj b b _ _ la lb _ g0 g1 hla hlb).mono ?_
  rintro e w3 ⟨v3,rfl,hv3,cl⟩
  obtain ⟨a3_,n3_,c3_,rfl,_,_⟩:=hv3.rd.open
  have bU:=cl
  have x0_0r:=(bU.cell (p:=⟨w.heap.size,0,none⟩) (by show w.heap.size<W0.heap.size;omega)).trans ec
  have y0_0r:=(bU.frozen (p:=⟨w.heap.size,0,none⟩) (by show w.heap.size<W0.heap.size;omega)).trans q0_0
  have x0_1r:=(bU.cell (p:=⟨w.heap.size,1,none⟩) (by show w.heap.size<W0.heap.size;omega)).trans ed
  have y0_1r:=(bU.frozen (p:=⟨w.heap.size,1,none⟩) (by show w.heap.size<W0.heap.size;omega)).trans q0_1
  have x1_0r:=(bU.cell (p:=⟨w.heap.size+1,0,none⟩) (by show w.heap.size+1<W0.heap.size;omega)).trans ee
  have y1_0r:=(bU.frozen (p:=⟨w.heap.size+1,0,none⟩) (by show w.heap.size+1<W0.heap.size;omega)).trans q1_0
  have x1_1r:=(bU.cell (p:=⟨w.heap.size+1,1,none⟩) (by show w.heap.size+1<W0.heap.size;omega)).trans eh
  have y1_1r:=(bU.frozen (p:=⟨w.heap.size+1,1,none⟩) (by show w.heap.size+1<W0.heap.size;omega)).trans q1_1
  have x2_0r:=(bU.cell (p:=⟨w.heap.size+1+1,0,none⟩) (by show w.heap.size+1+1<W0.heap.size;omega)).trans ei
  have y2_0r:=(bU.frozen (p:=⟨w.heap.size+1+1,0,none⟩) (by show w.heap.size+1+1<W0.heap.size;omega)).trans q2_0
  have x2_1r:=(bU.cell (p:=⟨w.heap.size+1+1,1,none⟩) (by show w.heap.size+1+1<W0.heap.size;omega)).trans ek
  have y2_1r:=(bU.frozen (p:=⟨w.heap.size+1+1,1,none⟩) (by show w.heap.size+1+1<W0.heap.size;omega)).trans q2_1
  have x3_0r:=(bU.cell (p:=⟨w.heap.size+1+1+1,0,none⟩) (by show w.heap.size+1+1+1<W0.heap.size;omega)).trans gQ
  have y3_0r:=(bU.frozen (p:=⟨w.heap.size+1+1+1,0,none⟩) (by show w.heap.size+1+1+1<W0.heap.size;omega)).trans q3_0
  generalize hng:decide (sgn b (val la+val lb)<0)=ng
  have Hng:=Lib.hid hng
  clear hng
  go_wp2_with fail
  have e:=Hng.out
  subst e
  obtain ⟨k0,k1⟩:=zaw (x:=.bool (decide (sgn b (val la+val lb)<0))) (y:=.slice a3_ n3_ c3_) x2_0r x2_1r
  exact bodyPost_ret (zah Tryz.results143 _ _ _ _ _ rfl k0 k1) rfl (finI zb (by omega) zs' hv3 bU)
 ·have hbe:(b == c)=false:=beq_eq_false_iff_ne.2 hbc
  go_enter Tryz.func143,Tryz.ntmps143
  go_wp2_with fail
  obtain ⟨W0,an⟩:∃ W0,(((w.alloc (.cells #[.bool b,.slice a0 n0 c0] 95)).alloc (.cells #[.bool c,.slice a1 n1 c1] 95)).alloc (.cells #[.bool false,.slice none 0 0] 95)).alloc (.cells #[.func (.func 158) #[] #[]] 177)=W0:=⟨_,rfl⟩
  have ec:W0.cell? ⟨w.heap.size,0,none⟩=some (.bool b):=by rw [<- an];simp [go_sem]
  have q0_0:W0.frozen? ⟨w.heap.size,0,none⟩=false:=by rw [<- an];simp [go_sem]
  have ed:W0.cell? ⟨w.heap.size,1,none⟩=some (.slice a0 n0 c0):=by rw [<- an];simp [go_sem]
  have q0_1:W0.frozen? ⟨w.heap.size,1,none⟩=false:=by rw [<- an];simp [go_sem]
  have ee:W0.cell? ⟨w.heap.size+1,0,none⟩=some (.bool c):=by rw [<- an];simp [go_sem]
  have q1_0:W0.frozen? ⟨w.heap.size+1,0,none⟩=false:=by rw [<- an];simp [go_sem]
  have eh:W0.cell? ⟨w.heap.size+1,1,none⟩=some (.slice a1 n1 c1):=by rw [<- an];simp [go_sem]
  have q1_1:W0.frozen? ⟨w.heap.size+1,1,none⟩=false:=by rw [<- an];simp [go_sem]
  have ei:W0.cell? ⟨w.heap.size+1+1,0,none⟩=some (.bool false):=by rw [<- an];simp [go_sem]
  have q2_0:W0.frozen? ⟨w.heap.size+1+1,0,none⟩=false:=by rw [<- an];simp [go_sem]
  have ek:W0.cell? ⟨w.heap.size+1+1,1,none⟩=some (.slice none 0 0):=by rw [<- an];simp [go_sem]
  have q2_1:W0.frozen? ⟨w.heap.size+1+1,1,none⟩=false:=by rw [<- an];simp [go_sem]
  have gQ:W0.cell? ⟨w.heap.size+1+1+1,0,none⟩=some (.func (.func 158) #[] #[]):=by rw [<- an];simp [go_sem]
  have q3_0:W0.frozen? ⟨w.heap.size+1+1+1,0,none⟩=false:=by rw [<- an];simp [go_sem]
  have zs:w.heap.size+1+1+1<W0.heap.size:=by rw [<- an];simp
  have zb:Below w.heap.size w W0:=by rw [<- an];exact bS (bS (bS (bN _ _) (bN _ _)) (bN _ _)) (bN _ _)
  rw [an]
  clear an
  have g0:=ha.to zb
  have g1:=hb.to zb
  have zs':w.heap.size+1+1<W0.heap.size:=by omega
  refine (ziX b c _ _ la lb _ g0 g1 hla hlb hbc).mono ?_
  rintro e w3 ⟨v3,rfl,hv3,cl⟩
  obtain ⟨a3_,n3_,c3_,rfl,_,_⟩:=hv3.rd.open
  have bU:=cl
  have x0_0r:=(bU.cell (p:=⟨w.heap.size,0,none⟩) (by show w.heap.size<W0.heap.size;omega)).trans ec
  have y0_0r:=(bU.frozen (p:=⟨w.heap.size,0,none⟩) (by show w.heap.size<W0.heap.size;omega)).trans q0_0
  have x0_1r:=(bU.cell (p:=⟨w.heap.size,1,none⟩) (by show w.heap.size<W0.heap.size;omega)).trans ed
  have y0_1r:=(bU.frozen (p:=⟨w.heap.size,1,none⟩) (by show w.heap.size<W0.heap.size;omega)).trans q0_1
  have x1_0r:=(bU.cell (p:=⟨w.heap.size+1,0,none⟩) (by show w.heap.size+1<W0.heap.size;omega)).trans ee
  have y1_0r:=(bU.frozen (p:=⟨w.heap.size+1,0,none⟩) (by show w.heap.size+1<W0.heap.size;omega)).trans q1_0
  have x1_1r:=(bU.cell (p:=⟨w.heap.size+1,1,none⟩) (by show w.heap.size+1<W0.heap.size;omega)).trans eh
  have y1_1r:=(bU.frozen (p:=⟨w.heap.size+1,1,none⟩) (by show w.heap.size+1<W0.heap.size;omega)).trans q1_1
  have x2_0r:=(bU.cell (p:=⟨w.heap.size+1+1,0,none⟩) (by show w.heap.size+1+1<W0.heap.size;omega)).trans ei
  have y2_0r:=(bU.frozen (p:=⟨w.heap.size+1+1,0,none⟩) (by show w.heap.size+1+1<W0.heap.size;omega)).trans q2_0
  have x2_1r:=(bU.cell (p:=⟨w.heap.size+1+1,1,none⟩) (by show w.heap.size+1+1<W0.heap.size;omega)).trans ek
  have y2_1r:=(bU.frozen (p:=⟨w.heap.size+1+1,1,none⟩) (by show w.heap.size+1+1<W0.heap.size;omega)).trans q2_1
  have x3_0r:=(bU.cell (p:=⟨w.heap.size+1+1+1,0,none⟩) (by show w.heap.size+1+1+1<W0.heap.size;omega)).trans gQ
  have y3_0r:=(bU.frozen (p:=⟨w.heap.size+1+1+1,0,none⟩) (by show w.heap.size+1+1+1<W0.heap.size;omega)).trans q3_0
  generalize hng:decide (sgn b (val la)+sgn c (val lb)<0)=ng
  have Hng:=Lib.hid hng
  clear hng
  go_wp2_with fail
  have e:=Hng.out
  subst e
  obtain ⟨k0,k1⟩:=zaw (x:=.bool (decide (sgn b (val la)+sgn c (val lb)<0))) (y:=.slice a3_ n3_ c3_) x2_0r x2_1r
  exact bodyPost_ret (zah Tryz.results143 _ _ _ _ _ rfl k0 k1) rfl (finI zb (by omega) zs' hv3 bU)

end Go.Proofs.YtkjcdnlpjldhaaaGreat


namespace Go.Proofs.YtkjcdnlpjldhaaaGreat
open Go.RowKit Tw
attribute [local go_sem ↓] Go.wp_at_zero Go.wp_at_succ

theorem finI2 {w w2:World} {B rb:Nat} {z:Int} {v:Value} (dE:Below w.heap.size w w2) (hrb:w.heap.size<=rb) (hrb1:rb<B) (hB:w.heap.size<=B) (hv:Own B w2 v (za z.natAbs)) :
  zcL w z (.returned (aggI (decide (z<0)) v)) ((w2.setCell ⟨rb,0,none⟩ (.bool (decide (z<0)))).setCell ⟨rb,1,none⟩ v) :=
 ⟨v,rfl,((hv.setOther (p:=⟨rb,0,none⟩) hrb1 _).setOther (p:=⟨rb,1,none⟩) hrb1 _).mono hB,(dE.setCell (p:=⟨rb,0,none⟩) hrb _).setCell (p:=⟨rb,1,none⟩) hrb _⟩

theorem whole_of (n z:Int) (w:World) (hz:z=n) (n0:-9223372036854775808<=n) (n1:n<9223372036854775808) :
  Calls Tryz.prog 61 #[.int .i64 n] w (zcL w z):=by
 by_cases hn:n<0
 ·obtain rfl:z=sgn true (val (za (val (za (-(n+1)).toNat)+val (za (1:Int).toNat)))):=by rw [vL,vL,vL,zjT];omega
  have hlen:∀ m:Nat,m<=18446744073709551616->sz m<=3:=fun m hm => by
   have:=zas hm
   rw [show sz 18446744073709551616=3 by decide +kernel] at this
   exact this
  have hl1:=hlen (-(n+1)).toNat (by omega)
  have hl2:=hlen (1:Int).toNat (by omega)
  have hl3:=hlen ((-(n+1)).toNat+(1:Int).toNat) (by omega)
  clear hlen
  go_enter Tryz.func61,Tryz.ntmps61
  go_wp2_with fail
  obtain ⟨W0,an⟩:∃ W0,w.alloc (.cells #[.bool false,.slice none 0 0] 95)=W0:=⟨_,rfl⟩
  have ae:W0.cell? ⟨w.heap.size,0,none⟩=some (.bool false):=by rw [<- an];simp [go_sem]
  have ah:W0.frozen? ⟨w.heap.size,0,none⟩=false:=by rw [<- an];simp [go_sem]
  have af:W0.cell? ⟨w.heap.size,1,none⟩=some (.slice none 0 0):=by rw [<- an];simp [go_sem]
  have ak:W0.frozen? ⟨w.heap.size,1,none⟩=false:=by rw [<- an];simp [go_sem]
  have zs:w.heap.size<W0.heap.size:=by rw [<- an];simp
  have zb:Below w.heap.size w W0:=by rw [<- an];exact bN _ _
  rw [an]
  clear an
  refine (zda _ _ (by omega) (by omega)).mono ?_
  rintro e w1 ⟨v1,rfl,hv1,be⟩
  obtain ⟨a1_,n1_,c1_,rfl,H1,hm1⟩:=hv1.rd.open
  have hr_w1:w.heap.size<W0.heap.size:=(by omega)
  have hw_w1:w.heap.size<=W0.heap.size:=(by omega)
  replace ae:=(be.cell (p:=⟨w.heap.size,0,none⟩) (by show w.heap.size<W0.heap.size;omega)).trans ae
  replace ah:=(be.frozen (p:=⟨w.heap.size,0,none⟩) (by show w.heap.size<W0.heap.size;omega)).trans ah
  replace af:=(be.cell (p:=⟨w.heap.size,1,none⟩) (by show w.heap.size<W0.heap.size;omega)).trans af
  replace ak:=(be.frozen (p:=⟨w.heap.size,1,none⟩) (by show w.heap.size<W0.heap.size;omega)).trans ak
  replace zs:=Nat.lt_of_lt_of_le zs be.size
  replace zb:=bS zb be
  have g1:=hv1.rd
  go_wp2_with fail
  refine (zda _ _ (by omega) (by omega)).mono ?_
  rintro e w2 ⟨v2,rfl,hv2,aZ⟩
  obtain ⟨a2_,n2_,c2_,rfl,H2,hm2⟩:=hv2.rd.open
  have hr_w2:w.heap.size<w1.heap.size:=(by omega)
  have hw_w2:w.heap.size<=w1.heap.size:=(by omega)
  replace ae:=(aZ.cell (p:=⟨w.heap.size,0,none⟩) (by show w.heap.size<w1.heap.size;omega)).trans ae
  replace ah:=(aZ.frozen (p:=⟨w.heap.size,0,none⟩) (by show w.heap.size<w1.heap.size;omega)).trans ah
  replace af:=(aZ.cell (p:=⟨w.heap.size,1,none⟩) (by show w.heap.size<w1.heap.size;omega)).trans af
  replace ak:=(aZ.frozen (p:=⟨w.heap.size,1,none⟩) (by show w.heap.size<w1.heap.size;omega)).trans ak
  replace zs:=Nat.lt_of_lt_of_le zs aZ.size
  replace g1:=g1.to aZ
  replace zb:=bS zb aZ
  have g2:=hv2.rd
  go_wp2_with fail
  refine (zlt _ _ _ _ _ g1 g2 (by rw [ze];omega) (by rw [ze];omega)).mono ?_
  rintro e w3 ⟨v3,rfl,hv3,cl⟩
  obtain ⟨a3_,n3_,c3_,rfl,H3,hm3⟩:=hv3.rd.open
  have hr_w3:w.heap.size<w2.heap.size:=(by omega)
  have hw_w3:w.heap.size<=w2.heap.size:=(by omega)
  replace ae:=(cl.cell (p:=⟨w.heap.size,0,none⟩) (by show w.heap.size<w2.heap.size;omega)).trans ae
  replace ah:=(cl.frozen (p:=⟨w.heap.size,0,none⟩) (by show w.heap.size<w2.heap.size;omega)).trans ah
  replace af:=(cl.cell (p:=⟨w.heap.size,1,none⟩) (by show w.heap.size<w2.heap.size;omega)).trans af
  replace ak:=(cl.frozen (p:=⟨w.heap.size,1,none⟩) (by show w.heap.size<w2.heap.size;omega)).trans ak
  replace zs:=Nat.lt_of_lt_of_le zs cl.size
  replace g1:=g1.to cl
  replace g2:=g2.to cl
  replace zb:=bS zb cl
  have g3:=hv3.rd
  go_wp2_with fail
  refine (zbm true _ _ _ g3 (by rw [ze,vL,vL];omega)).mono ?_
  rintro e w4 ⟨v4,rfl,hv4,dd⟩
  obtain ⟨a4_,n4_,c4_,rfl,H4,hm4⟩:=hv4.rd.open
  have hr_w4:w.heap.size<w3.heap.size:=(by omega)
  have hw_w4:w.heap.size<=w3.heap.size:=(by omega)
  replace ae:=(dd.cell (p:=⟨w.heap.size,0,none⟩) (by show w.heap.size<w3.heap.size;omega)).trans ae
  replace ah:=(dd.frozen (p:=⟨w.heap.size,0,none⟩) (by show w.heap.size<w3.heap.size;omega)).trans ah
  replace af:=(dd.cell (p:=⟨w.heap.size,1,none⟩) (by show w.heap.size<w3.heap.size;omega)).trans af
  replace ak:=(dd.frozen (p:=⟨w.heap.size,1,none⟩) (by show w.heap.size<w3.heap.size;omega)).trans ak
  replace zs:=Nat.lt_of_lt_of_le zs dd.size
  replace g1:=g1.to dd
  replace g2:=g2.to dd
  replace g3:=g3.to dd
  replace zb:=bS zb dd
  have g4:=hv4.rd
  generalize hng4:decide (sgn true (val (za (val (za (-(n+1)).toNat)+val (za (1:Int).toNat))))<0)=ng4
  have Hng4:=Lib.hid hng4
  clear hng4
  go_wp2_with fail
  have e4:=Hng4.out
  subst e4
  obtain ⟨k0,k1⟩:=zaw (x:=.bool (decide (sgn true (val (za (val (za (-(n+1)).toNat)+val (za (1:Int).toNat))))<0))) (y:=.slice a4_ n4_ c4_) ae af
  exact bodyPost_ret (zah Tryz.results61 _ _ _ _ _ rfl k0 k1) rfl (finI2 zb (by omega) hr_w4 hw_w4 hv4)
 ·obtain rfl:z=sgn false (val (za n.toNat)):=by rw [vL,zcn];omega
  have hl1:sz n.toNat<=3:=by
   have:=zas (show n.toNat<=18446744073709551616 by omega)
   rw [show sz 18446744073709551616=3 by decide +kernel] at this
   exact this
  go_enter Tryz.func61,Tryz.ntmps61
  go_wp2_with fail
  obtain ⟨W0,an⟩:∃ W0,w.alloc (.cells #[.bool false,.slice none 0 0] 95)=W0:=⟨_,rfl⟩
  have ae:W0.cell? ⟨w.heap.size,0,none⟩=some (.bool false):=by rw [<- an];simp [go_sem]
  have ah:W0.frozen? ⟨w.heap.size,0,none⟩=false:=by rw [<- an];simp [go_sem]
  have af:W0.cell? ⟨w.heap.size,1,none⟩=some (.slice none 0 0):=by rw [<- an];simp [go_sem]
  have ak:W0.frozen? ⟨w.heap.size,1,none⟩=false:=by rw [<- an];simp [go_sem]
  have zs:w.heap.size<W0.heap.size:=by rw [<- an];simp
  have zb:Below w.heap.size w W0:=by rw [<- an];exact bN _ _
  rw [an]
  clear an
  refine (zda _ _ (by omega) (by omega)).mono ?_
  rintro e w1 ⟨v1,rfl,hv1,be⟩
  obtain ⟨a1_,n1_,c1_,rfl,H1,hm1⟩:=hv1.rd.open
  have hr_w1:w.heap.size<W0.heap.size:=(by omega)
  have hw_w1:w.heap.size<=W0.heap.size:=(by omega)
  replace ae:=(be.cell (p:=⟨w.heap.size,0,none⟩) (by show w.heap.size<W0.heap.size;omega)).trans ae
  replace ah:=(be.frozen (p:=⟨w.heap.size,0,none⟩) (by show w.heap.size<W0.heap.size;omega)).trans ah
  replace af:=(be.cell (p:=⟨w.heap.size,1,none⟩) (by show w.heap.size<W0.heap.size;omega)).trans af
  replace ak:=(be.frozen (p:=⟨w.heap.size,1,none⟩) (by show w.heap.size<W0.heap.size;omega)).trans ak
  replace zs:=Nat.lt_of_lt_of_le zs be.size
  replace zb:=bS zb be
  have g1:=hv1.rd
  go_wp2_with fail
  refine (zbm false _ _ _ g1 (by rw [ze];omega)).mono ?_
  rintro e w4 ⟨v4,rfl,hv4,dd⟩
  obtain ⟨a4_,n4_,c4_,rfl,H4,hm4⟩:=hv4.rd.open
  have hr_w4:w.heap.size<w1.heap.size:=(by omega)
  have hw_w4:w.heap.size<=w1.heap.size:=(by omega)
  replace ae:=(dd.cell (p:=⟨w.heap.size,0,none⟩) (by show w.heap.size<w1.heap.size;omega)).trans ae
  replace ah:=(dd.frozen (p:=⟨w.heap.size,0,none⟩) (by show w.heap.size<w1.heap.size;omega)).trans ah
  replace af:=(dd.cell (p:=⟨w.heap.size,1,none⟩) (by show w.heap.size<w1.heap.size;omega)).trans af
  replace ak:=(dd.frozen (p:=⟨w.heap.size,1,none⟩) (by show w.heap.size<w1.heap.size;omega)).trans ak
  replace zs:=Nat.lt_of_lt_of_le zs dd.size
  replace g1:=g1.to dd
  replace zb:=bS zb dd
  have g4:=hv4.rd
  generalize hng4:decide (sgn false (val (za n.toNat))<0)=ng4
  have Hng4:=Lib.hid hng4
  clear hng4
  go_wp2_with fail
  have e4:=Hng4.out
  subst e4
  obtain ⟨k0,k1⟩:=zaw (x:=.bool (decide (sgn false (val (za n.toNat))<0))) (y:=.slice a4_ n4_ c4_) ae af
  exact bodyPost_ret (zah Tryz.results61 _ _ _ _ _ rfl k0 k1) rfl (finI2 zb (by omega) hr_w4 hw_w4 hv4)

end Go.Proofs.YtkjcdnlpjldhaaaGreat


namespace Go.Proofs.YtkjcdnlpjldhaaaGreat
open Go.RowKit Tw
attribute [local go_sem ↓] Go.wp_at_zero Go.wp_at_succ

theorem ref7_of (n z:Int) (w:World) (hz:z=n) (n0:-9223372036854775808<=n) (n1:n<9223372036854775808) :
  Calls Tryz.prog 48 #[.int .i64 n] w (zcL w z):=by
 by_cases hn:0<=n
 ·have hd:decide (z<0)=false:=by simp;omega
  have ha:z.natAbs=(n).toNat:=by omega
  
  go_enter Tryz.func48,Tryz.ntmps48
  go_wp2_with fail
  obtain ⟨W0,an⟩:∃ W0,w.alloc (.cells #[.bool false,.slice none 0 0] 95)=W0:=⟨_,rfl⟩
  have ae:W0.cell? ⟨w.heap.size,0,none⟩=some (.bool false):=by rw [<- an];simp [go_sem]
  have ah:W0.frozen? ⟨w.heap.size,0,none⟩=false:=by rw [<- an];simp [go_sem]
  have af:W0.cell? ⟨w.heap.size,1,none⟩=some (.slice none 0 0):=by rw [<- an];simp [go_sem]
  have ak:W0.frozen? ⟨w.heap.size,1,none⟩=false:=by rw [<- an];simp [go_sem]
  have zs:w.heap.size<W0.heap.size:=by rw [<- an];simp
  have zb:Below w.heap.size w W0:=by rw [<- an];exact bN _ _
  rw [an]
  clear an
  refine (zlG (n) _ (by omega) (by omega)).mono ?_
  rintro e w2 ⟨v2,rfl,hv2,aZ⟩
  obtain ⟨a2_,n2_,c2_,rfl,H2,hm2⟩:=hv2.rd.open
  have hr_w2:w.heap.size<W0.heap.size:=(by omega)
  have hw_w2:w.heap.size<=W0.heap.size:=(by omega)
  replace ae:=(aZ.cell (p:=⟨w.heap.size,0,none⟩) (by show w.heap.size<W0.heap.size;omega)).trans ae
  replace ah:=(aZ.frozen (p:=⟨w.heap.size,0,none⟩) (by show w.heap.size<W0.heap.size;omega)).trans ah
  replace af:=(aZ.cell (p:=⟨w.heap.size,1,none⟩) (by show w.heap.size<W0.heap.size;omega)).trans af
  replace ak:=(aZ.frozen (p:=⟨w.heap.size,1,none⟩) (by show w.heap.size<W0.heap.size;omega)).trans ak
  replace zs:=Nat.lt_of_lt_of_le zs aZ.size
  replace zb:=bS zb aZ
  have g2:=hv2.rd
  go_wp2_with fail
  obtain ⟨k0,k1⟩:=zaw (x:=.bool false) (y:=.slice a2_ n2_ c2_) ae af
  rw [<- ha] at hv2
  have hfin:=finI2 zb (by omega) hr_w2 hw_w2 hv2
  rw [hd] at hfin
  exact bodyPost_ret (zah Tryz.results48 _ _ _ _ _ rfl k0 k1) rfl hfin
 ·have hd:decide (z<0)=true:=by simp;omega
  have ha:z.natAbs=(-n).toNat:=by omega
  
  have Hw:IntKind.u64.wrap (-IntKind.u64.wrap n)=-n:=by
   show (-(n % 18446744073709551616)) % 18446744073709551616=-n
   omega
  go_enter Tryz.func48,Tryz.ntmps48
  go_wp2_with fail
  obtain ⟨W0,an⟩:∃ W0,w.alloc (.cells #[.bool false,.slice none 0 0] 95)=W0:=⟨_,rfl⟩
  have ae:W0.cell? ⟨w.heap.size,0,none⟩=some (.bool false):=by rw [<- an];simp [go_sem]
  have ah:W0.frozen? ⟨w.heap.size,0,none⟩=false:=by rw [<- an];simp [go_sem]
  have af:W0.cell? ⟨w.heap.size,1,none⟩=some (.slice none 0 0):=by rw [<- an];simp [go_sem]
  have ak:W0.frozen? ⟨w.heap.size,1,none⟩=false:=by rw [<- an];simp [go_sem]
  have zs:w.heap.size<W0.heap.size:=by rw [<- an];simp
  have zb:Below w.heap.size w W0:=by rw [<- an];exact bN _ _
  rw [an]
  clear an
  refine (zlG (-n) _ (by omega) (by omega)).mono ?_
  rintro e w2 ⟨v2,rfl,hv2,aZ⟩
  obtain ⟨a2_,n2_,c2_,rfl,H2,hm2⟩:=hv2.rd.open
  have hr_w2:w.heap.size<W0.heap.size:=(by omega)
  have hw_w2:w.heap.size<=W0.heap.size:=(by omega)
  replace ae:=(aZ.cell (p:=⟨w.heap.size,0,none⟩) (by show w.heap.size<W0.heap.size;omega)).trans ae
  replace ah:=(aZ.frozen (p:=⟨w.heap.size,0,none⟩) (by show w.heap.size<W0.heap.size;omega)).trans ah
  replace af:=(aZ.cell (p:=⟨w.heap.size,1,none⟩) (by show w.heap.size<W0.heap.size;omega)).trans af
  replace ak:=(aZ.frozen (p:=⟨w.heap.size,1,none⟩) (by show w.heap.size<W0.heap.size;omega)).trans ak
  replace zs:=Nat.lt_of_lt_of_le zs aZ.size
  replace zb:=bS zb aZ
  have g2:=hv2.rd
  go_wp2_with fail
  obtain ⟨k0,k1⟩:=zaw (x:=.bool true) (y:=.slice a2_ n2_ c2_) ae af
  rw [<- ha] at hv2
  have hfin:=finI2 zb (by omega) hr_w2 hw_w2 hv2
  rw [hd] at hfin
  exact bodyPost_ret (zah Tryz.results48 _ _ _ _ _ rfl k0 k1) rfl hfin

end Go.Proofs.YtkjcdnlpjldhaaaGreat


namespace Go.Proofs.YtkjcdnlpjldhaaaGreat
open Go.RowKit Tw
attribute [local go_sem ↓] Go.wp_at_zero Go.wp_at_succ

end Go.Proofs.YtkjcdnlpjldhaaaGreat

