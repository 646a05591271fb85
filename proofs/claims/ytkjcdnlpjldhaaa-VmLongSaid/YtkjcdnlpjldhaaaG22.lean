/-
  The texts Vm9l, VmStep, merged.
-/
import Derived.Test.YtkjcdnlpjldhaaaG19
import Derived.Test.YtkjcdnlpjldhaaaG10
import Derived.Deep.RegionHeld3
import Derived.FnLit
import Derived.Test.YtkjcdnlpjldhaaaG18
import Derived.Test.YtkjcdnlpjldhaaaG21
set_option linter.unusedVariables false
set_option linter.unusedSimpArgs false
set_option maxRecDepth 100000
set_option maxHeartbeats 400000000
namespace Go.Proofs.Ytkjcdnlpjldhaaa
open Go.RowKit Tw
attribute [local go_sem ↓] Go.wp_at_zero Go.wp_at_succ

theorem zha (mB g N:Nat) (u vJ:Value) (rows cols:Int) (T:Nat) (xa xb:Int) (ng:Bool) (vn vd:Value) (ln ld:List Nat) (d0 d1 d2:Value) {v:Rat}  (w:World) (hw:IsF w vn vd ln ld) (hm:zy w mB g N u vJ rows cols) (hN:N<=100000) (hT:T<N) (ho:zE w g (T*3) d0 d1 d2) (hs:4096<szq v/\szq v<=4097) (hcall:∀ V,Below w.heap.size w V->Calls Try.prog 32 #[.pointer (some ⟨mB,0,none⟩),.agg #[.int .i64 0,.int .i64 (T:Int),.int .i64 xa,.int .i64 xb,.bool ng,vn,vd]] V (zp V v))  :
  Calls Try.prog 11 #[.pointer (some ⟨mB,0,none⟩),.agg #[.int .i64 0,.int .i64 (T:Int),.int .i64 xa,.int .i64 xb,.bool ng,vn,vd]] w (fun e w' => e=.returned (.int .i64 4)/\Below w.heap.size w w'):=by
 obtain ⟨a0,n0,c0,rfl,H0,hm0⟩:=hw.1.open
 obtain ⟨a1,n1,c1,rfl,H1,hm1⟩:=hw.2.open
 have hTi:(T:Int)<(N:Int):=by omega
 have lm:=hm.lt
 have lo:=ho.lt
 have Hs:=Lib.hid hs
 have HC:=Lib.hid hcall
 clear hs hcall
 go_enter Try.func11,Try.ntmps11
 go_wp2_with fail
 obtain ⟨W0,aq⟩:∃ W0,w.alloc (.cells #[.int .i64 0,.int .i64 (T:Int),.int .i64 xa,.int .i64 xb,.bool ng,.slice a0 n0 c0,.slice a1 n1 c1] 27)=W0:=⟨_,rfl⟩
 have al:=Lib.hid (show ∀ W',Below W0.heap.size W0 W'->(W'.cell? ⟨w.heap.size,0,none⟩=some (.int .i64 0)/\W'.cell? ⟨w.heap.size,1,none⟩=some (.int .i64 (T:Int))/\W'.cell? ⟨w.heap.size,2,none⟩=some (.int .i64 xa)/\W'.cell? ⟨w.heap.size,3,none⟩=some (.int .i64 xb)/\W'.cell? ⟨w.heap.size,4,none⟩=some (.bool ng)/\W'.cell? ⟨w.heap.size,5,none⟩=some (.slice a0 n0 c0)/\W'.cell? ⟨w.heap.size,6,none⟩=some (.slice a1 n1 c1)) from fun W' hb =>
  by and_intros <;> exact kc hb (by first|assumption|(rw [<- aq];simp [go_sem])))
 have bQ:=Lib.hid (show ∀ W',Below W0.heap.size W0 W'->(W'.frozen? ⟨w.heap.size,0,none⟩=false/\W'.frozen? ⟨w.heap.size,1,none⟩=false/\W'.frozen? ⟨w.heap.size,2,none⟩=false/\W'.frozen? ⟨w.heap.size,3,none⟩=false/\W'.frozen? ⟨w.heap.size,4,none⟩=false/\W'.frozen? ⟨w.heap.size,5,none⟩=false/\W'.frozen? ⟨w.heap.size,6,none⟩=false) from fun W' hb =>
  by and_intros <;> refine (hb.frozen ?_).trans ?_ <;> first|assumption|(rw [<- aq];simp [go_sem])|(rw [<- aq];simp <;> omega))
 have bR:=Lib.hid (show ∀ W',Below W0.heap.size W0 W'->(w.heap.size<W'.heap.size) from fun W' hb =>
  Nat.lt_of_lt_of_le (by rw [<- aq];simp <;> omega) hb.size)
 have zb:Below w.heap.size w W0:=by rw [<- aq];exact bN _ _
 rw [aq]
 clear aq
 have i0:=hw.to zb
 have i1:=hm.to zb
 have i2:=ho.to zb
 have gb:Below W0.heap.size W0 W0:=Below.refl _ _
 obtain ⟨ae,af,ag,am,an,aM,aN⟩:=al.out _ gb
 obtain ⟨ah,ai,ak,au,aw,aR,aS⟩:=bQ.out _ gb
 obtain z0:=bR.out _ gb
 obtain ⟨e0,e1,e2,e3,e4⟩:=(i1.to gb)
 obtain ⟨o0,o1,o2,q0,q1,q2⟩:=(i2.to gb)
 go_wp2_with fail
 have htab:=tab_0
 have hgb:=gb
 go_upto_region 4 with fail
 go_cut [5,6] from 28 (fun s5 s6 wx => zaw W0 (v) s5 wx/\s6=.int .i64 0)
 case first =>
  go_region_held3 (fun W' => W'.cell? ⟨w.heap.size,0,none⟩=some (.int .i64 0)/\W'.cell? ⟨w.heap.size,1,none⟩=some (.int .i64 (T:Int))/\W'.cell? ⟨w.heap.size,2,none⟩=some (.int .i64 xa)/\W'.cell? ⟨w.heap.size,3,none⟩=some (.int .i64 xb)/\W'.cell? ⟨w.heap.size,4,none⟩=some (.bool ng)/\W'.cell? ⟨w.heap.size,5,none⟩=some (.slice a0 n0 c0)/\W'.cell? ⟨w.heap.size,6,none⟩=some (.slice a1 n1 c1)) (first|(with_reducible exact al.out _ gb)|((with_reducible refine al.out _ ?_);repeat' (first|(with_reducible exact gb)|(with_reducible refine Below.drew ?_)|(with_reducible refine bS ?_ (bN _ _))|(with_reducible refine bT ?_ ?_ _ _ _)|(with_reducible exact ay)|(with_reducible exact az)|omega))) (first
   | (go_at_call 32;(refine zf w1 (by with_reducible first|exact Below.refl _ _|exact bN _ _) ?_);intro V2 cH bn;have cS:=bn.size;have cN:=gb.size;have gb:=bS gb bn;(try have ac:=ac.to bn);(try have ap:Tri V2 (w1.heap.size) (.bool false) (.slice none 0 0) (.slice none 0 0):=(by rw [cH];with_reducible first|exact zd _ (.bool false) (.slice none 0 0) (.slice none 0 0) _|exact (zd _ (.bool false) (.slice none 0 0) (.slice none 0 0) _).alloc _));have az:W0.heap.size<=w1.heap.size:=(cN);(try have aH:=ac.lt);(try have aI:=ap.lt);(with_reducible refine (HC.out _ (bS zb gb)).mono ?_);rintro e w2 ⟨ng2,a2_,n2_,c2_,p2_,m2_,k2_,rfl,g2,aL⟩;have gb:=bS gb aL;have da:=aL.size;(try have ac:=ac.to aL);(try have ap:=ap.to aL);(try have bC:=ac.lt);(try have bE:=ap.lt);(try (have aG:=ac;obtain ⟨aU,aV,aW,aX,aY,aZ⟩:=aG));(try (have bj:=ap;obtain ⟨bU,bV,bW,bX,bY,bZ⟩:=bj)))
   | (go_at_call 21;(refine zf W0 (by with_reducible first|exact (Below.refl _ _).drew|exact (bN _ _).drew) ?_);intro V1 cI bP;have cR:=bP.size;have cC:=gb.size;have gb:=bS gb bP;(try have ac:Tri V1 (W0.heap.size) (.bool false) (.slice none 0 0) (.slice none 0 0):=(by rw [cI];with_reducible first|exact (zd _ (.bool false) (.slice none 0 0) (.slice none 0 0) _).drew|exact ((zd _ (.bool false) (.slice none 0 0) (.slice none 0 0) _).alloc _).drew));have ay:W0.heap.size<=W0.heap.size:=(cC);(try have aQ:=ac.lt);(with_reducible refine (zK _).mono ?_);rintro e w1 ⟨rfl,aT⟩;have gb:=bS gb aT;have c8:=aT.size;(try have ac:=ac.to aT);(try have bi:=ac.lt);(try (have aG:=ac;obtain ⟨aU,aV,aW,aX,aY,aZ⟩:=aG))))
  all_goals (go_wp2_with fail;go_meet)
  all_goals refine ⟨?_,rfl⟩
  all_goals first
   | (with_reducible exact zk ac g2 (.inl aH) gb ay)
   | (with_reducible exact zk ap g2 (.inl aI) gb az)
   | (with_reducible exact zG g2 gb)
 case rest =>
 obtain ⟨⟨B3,ng2,a2_,n2_,c2_,p2_,m2_,k2_,lo3,hi3,rfl,hB3,T3,g2,hc3⟩,rfl⟩:=hcut
 clear ae ah af ai ag ak am au an aw aM aR aN aS e0 e1 e2 e3 e4 o0 o1 o2 q0 q1 q2
 have gb:=hc3
 obtain ⟨ae,af,ag,am,an,aM,aN⟩:=al.out _ gb
 obtain ⟨ah,ai,ak,au,aw,aR,aS⟩:=bQ.out _ gb
 obtain z0:=bR.out _ gb
 obtain ⟨e0,e1,e2,e3,e4⟩:=(i1.to gb)
 obtain ⟨o0,o1,o2,q0,q1,q2⟩:=(i2.to gb)
 have z3:=T3.lt
 obtain ⟨b9,cd,ch,ce,cf,ci⟩:=T3
 clear hgb
 obtain ⟨W1,aK⟩:∃ W,wc=W:=⟨_,rfl⟩
 subst aK
 replace i0:=i0.to gb
 replace i1:=i1.to gb
 replace i2:=i2.to gb
 replace zb:=bS zb gb
 have HXwc:=Lib.hid (show ∀ W',Below wc.heap.size wc W'->(Bx7 W' w.heap.size (.int .i64 0) (.int .i64 (T:Int)) (.int .i64 xa) (.int .i64 xb) (.bool ng) (.slice a0 n0 c0) (.slice a1 n1 c1)/\Bx3 W' B3 (.bool ng2) (.slice a2_ n2_ c2_) (.slice p2_ m2_ k2_)) from fun W' hb => by
   refine ⟨bx7 hb ?_ ?_ ?_ ?_ ?_ ?_ ?_ ?_ ?_ ?_ ?_ ?_ ?_ ?_,bx3 hb ?_ ?_ ?_ ?_ ?_ ?_⟩
   all_goals first|assumption|assumption)
 replace gb:=Below.refl wc.heap.size wc
 go_wp2_with fail
 obtain ⟨m,hm9⟩:∃ m:Nat,((max (zc v.num.natAbs).length (zc v.den).length:Nat))=m:=⟨_,rfl⟩
 have HM:=Lib.hid (show ((max (zc v.num.natAbs).length (zc v.den).length:Nat):Int)=(m:Int) by rw [hm9])
 have hm4:4096<m:=by have:=Hs.out;unfold szq at this;rw [ze,ze] at hm9;omega
 have t4:decide (4096<m)=true:=decide_eq_true (by omega)
 have t5:decide ((4096:Int)<(m:Int))=true:=decide_eq_true (by omega)
 clear hm9 hm4
 refine (zx ng2 _ _ _ _ _ (g2.to gb).isF (m:Int) HM.out).mono ?_
 clear ae ah af ai ag ak am au an aw aM aR aN aS b9 ce cd cf ch ci e0 e1 e2 e3 e4 o0 o1 o2 q0 q1 q2
 rintro e w3 ⟨rfl,bM⟩
 replace gb:=bS gb bM
 obtain ⟨⟨z0,ae,af,ag,am,an,aM,aN,ah,ai,ak,au,aw,aR,aS⟩,⟨z3,b9,cd,ch,ce,cf,ci⟩⟩:=HXwc.out _ gb
 obtain ⟨e0,e1,e2,e3,e4⟩:=(i1.to gb)
 obtain ⟨o0,o1,o2,q0,q1,q2⟩:=(i2.to gb)
 go_wp2_with fail
 go_wp2_with fail
 go_ret
 exact ⟨rfl,bS zb gb⟩

theorem zhb (mB g N:Nat) (u vJ:Value) (rows cols:Int) (T:Nat) (xa xb:Int) (ng:Bool) (vn vd:Value) (ln ld:List Nat) (d0 d1 d2:Value) {v:Rat}  (w:World) (hw:IsF w vn vd ln ld) (hm:zy w mB g N u vJ rows cols) (hN:N<=100000) (hT:T<N) (ho:zE w g (T*3) d0 d1 d2) (hs:4096<szq v/\szq v<=4097) (hcall:∀ V,Below w.heap.size w V->Calls Try.prog 33 #[.pointer (some ⟨mB,0,none⟩),.agg #[.int .i64 1,.int .i64 (T:Int),.int .i64 xa,.int .i64 xb,.bool ng,vn,vd]] V (zp V v))  :
  Calls Try.prog 11 #[.pointer (some ⟨mB,0,none⟩),.agg #[.int .i64 1,.int .i64 (T:Int),.int .i64 xa,.int .i64 xb,.bool ng,vn,vd]] w (fun e w' => e=.returned (.int .i64 4)/\Below w.heap.size w w'):=by
 obtain ⟨a0,n0,c0,rfl,H0,hm0⟩:=hw.1.open
 obtain ⟨a1,n1,c1,rfl,H1,hm1⟩:=hw.2.open
 have hTi:(T:Int)<(N:Int):=by omega
 have lm:=hm.lt
 have lo:=ho.lt
 have Hs:=Lib.hid hs
 have HC:=Lib.hid hcall
 clear hs hcall
 go_enter Try.func11,Try.ntmps11
 go_wp2_with fail
 obtain ⟨W0,aq⟩:∃ W0,w.alloc (.cells #[.int .i64 1,.int .i64 (T:Int),.int .i64 xa,.int .i64 xb,.bool ng,.slice a0 n0 c0,.slice a1 n1 c1] 27)=W0:=⟨_,rfl⟩
 have al:=Lib.hid (show ∀ W',Below W0.heap.size W0 W'->(W'.cell? ⟨w.heap.size,0,none⟩=some (.int .i64 1)/\W'.cell? ⟨w.heap.size,1,none⟩=some (.int .i64 (T:Int))/\W'.cell? ⟨w.heap.size,2,none⟩=some (.int .i64 xa)/\W'.cell? ⟨w.heap.size,3,none⟩=some (.int .i64 xb)/\W'.cell? ⟨w.heap.size,4,none⟩=some (.bool ng)/\W'.cell? ⟨w.heap.size,5,none⟩=some (.slice a0 n0 c0)/\W'.cell? ⟨w.heap.size,6,none⟩=some (.slice a1 n1 c1)) from fun W' hb =>
  by and_intros <;> exact kc hb (by first|assumption|(rw [<- aq];simp [go_sem])))
 have bQ:=Lib.hid (show ∀ W',Below W0.heap.size W0 W'->(W'.frozen? ⟨w.heap.size,0,none⟩=false/\W'.frozen? ⟨w.heap.size,1,none⟩=false/\W'.frozen? ⟨w.heap.size,2,none⟩=false/\W'.frozen? ⟨w.heap.size,3,none⟩=false/\W'.frozen? ⟨w.heap.size,4,none⟩=false/\W'.frozen? ⟨w.heap.size,5,none⟩=false/\W'.frozen? ⟨w.heap.size,6,none⟩=false) from fun W' hb =>
  by and_intros <;> refine (hb.frozen ?_).trans ?_ <;> first|assumption|(rw [<- aq];simp [go_sem])|(rw [<- aq];simp <;> omega))
 have bR:=Lib.hid (show ∀ W',Below W0.heap.size W0 W'->(w.heap.size<W'.heap.size) from fun W' hb =>
  Nat.lt_of_lt_of_le (by rw [<- aq];simp <;> omega) hb.size)
 have zb:Below w.heap.size w W0:=by rw [<- aq];exact bN _ _
 rw [aq]
 clear aq
 have i0:=hw.to zb
 have i1:=hm.to zb
 have i2:=ho.to zb
 have gb:Below W0.heap.size W0 W0:=Below.refl _ _
 obtain ⟨ae,af,ag,am,an,aM,aN⟩:=al.out _ gb
 obtain ⟨ah,ai,ak,au,aw,aR,aS⟩:=bQ.out _ gb
 obtain z0:=bR.out _ gb
 obtain ⟨e0,e1,e2,e3,e4⟩:=(i1.to gb)
 obtain ⟨o0,o1,o2,q0,q1,q2⟩:=(i2.to gb)
 go_wp2_with fail
 have htab:=tab_1
 have hgb:=gb
 go_upto_region 4 with fail
 go_cut [5,6] from 28 (fun s5 s6 wx => zaw W0 (v) s5 wx/\s6=.int .i64 0)
 case first =>
  go_region_held3 (fun W' => W'.cell? ⟨w.heap.size,0,none⟩=some (.int .i64 1)/\W'.cell? ⟨w.heap.size,1,none⟩=some (.int .i64 (T:Int))/\W'.cell? ⟨w.heap.size,2,none⟩=some (.int .i64 xa)/\W'.cell? ⟨w.heap.size,3,none⟩=some (.int .i64 xb)/\W'.cell? ⟨w.heap.size,4,none⟩=some (.bool ng)/\W'.cell? ⟨w.heap.size,5,none⟩=some (.slice a0 n0 c0)/\W'.cell? ⟨w.heap.size,6,none⟩=some (.slice a1 n1 c1)) (first|(with_reducible exact al.out _ gb)|((with_reducible refine al.out _ ?_);repeat' (first|(with_reducible exact gb)|(with_reducible refine Below.drew ?_)|(with_reducible refine bS ?_ (bN _ _))|(with_reducible refine bT ?_ ?_ _ _ _)|(with_reducible exact ay)|(with_reducible exact az)|omega))) (first
   | (go_at_call 33;(refine zf w1 (by with_reducible first|exact Below.refl _ _|exact bN _ _) ?_);intro V2 cH bn;have cS:=bn.size;have cN:=gb.size;have gb:=bS gb bn;(try have ac:=ac.to bn);(try have ap:Tri V2 (w1.heap.size) (.bool false) (.slice none 0 0) (.slice none 0 0):=(by rw [cH];with_reducible first|exact zd _ (.bool false) (.slice none 0 0) (.slice none 0 0) _|exact (zd _ (.bool false) (.slice none 0 0) (.slice none 0 0) _).alloc _));have az:W0.heap.size<=w1.heap.size:=(cN);(try have aH:=ac.lt);(try have aI:=ap.lt);(with_reducible refine (HC.out _ (bS zb gb)).mono ?_);rintro e w2 ⟨ng2,a2_,n2_,c2_,p2_,m2_,k2_,rfl,g2,aL⟩;have gb:=bS gb aL;have da:=aL.size;(try have ac:=ac.to aL);(try have ap:=ap.to aL);(try have bC:=ac.lt);(try have bE:=ap.lt);(try (have aG:=ac;obtain ⟨aU,aV,aW,aX,aY,aZ⟩:=aG));(try (have bj:=ap;obtain ⟨bU,bV,bW,bX,bY,bZ⟩:=bj)))
   | (go_at_call 21;(refine zf W0 (by with_reducible first|exact (Below.refl _ _).drew|exact (bN _ _).drew) ?_);intro V1 cI bP;have cR:=bP.size;have cC:=gb.size;have gb:=bS gb bP;(try have ac:Tri V1 (W0.heap.size) (.bool false) (.slice none 0 0) (.slice none 0 0):=(by rw [cI];with_reducible first|exact (zd _ (.bool false) (.slice none 0 0) (.slice none 0 0) _).drew|exact ((zd _ (.bool false) (.slice none 0 0) (.slice none 0 0) _).alloc _).drew));have ay:W0.heap.size<=W0.heap.size:=(cC);(try have aQ:=ac.lt);(with_reducible refine (zK _).mono ?_);rintro e w1 ⟨rfl,aT⟩;have gb:=bS gb aT;have c8:=aT.size;(try have ac:=ac.to aT);(try have bi:=ac.lt);(try (have aG:=ac;obtain ⟨aU,aV,aW,aX,aY,aZ⟩:=aG))))
  all_goals (go_wp2_with fail;go_meet)
  all_goals refine ⟨?_,rfl⟩
  all_goals first
   | (with_reducible exact zk ac g2 (.inl aH) gb ay)
   | (with_reducible exact zk ap g2 (.inl aI) gb az)
   | (with_reducible exact zG g2 gb)
 case rest =>
 obtain ⟨⟨B3,ng2,a2_,n2_,c2_,p2_,m2_,k2_,lo3,hi3,rfl,hB3,T3,g2,hc3⟩,rfl⟩:=hcut
 clear ae ah af ai ag ak am au an aw aM aR aN aS e0 e1 e2 e3 e4 o0 o1 o2 q0 q1 q2
 have gb:=hc3
 obtain ⟨ae,af,ag,am,an,aM,aN⟩:=al.out _ gb
 obtain ⟨ah,ai,ak,au,aw,aR,aS⟩:=bQ.out _ gb
 obtain z0:=bR.out _ gb
 obtain ⟨e0,e1,e2,e3,e4⟩:=(i1.to gb)
 obtain ⟨o0,o1,o2,q0,q1,q2⟩:=(i2.to gb)
 have z3:=T3.lt
 obtain ⟨b9,cd,ch,ce,cf,ci⟩:=T3
 clear hgb
 obtain ⟨W1,aK⟩:∃ W,wc=W:=⟨_,rfl⟩
 subst aK
 replace i0:=i0.to gb
 replace i1:=i1.to gb
 replace i2:=i2.to gb
 replace zb:=bS zb gb
 have HXwc:=Lib.hid (show ∀ W',Below wc.heap.size wc W'->(Bx7 W' w.heap.size (.int .i64 1) (.int .i64 (T:Int)) (.int .i64 xa) (.int .i64 xb) (.bool ng) (.slice a0 n0 c0) (.slice a1 n1 c1)/\Bx3 W' B3 (.bool ng2) (.slice a2_ n2_ c2_) (.slice p2_ m2_ k2_)) from fun W' hb => by
   refine ⟨bx7 hb ?_ ?_ ?_ ?_ ?_ ?_ ?_ ?_ ?_ ?_ ?_ ?_ ?_ ?_,bx3 hb ?_ ?_ ?_ ?_ ?_ ?_⟩
   all_goals first|assumption|assumption)
 replace gb:=Below.refl wc.heap.size wc
 go_wp2_with fail
 obtain ⟨m,hm9⟩:∃ m:Nat,((max (zc v.num.natAbs).length (zc v.den).length:Nat))=m:=⟨_,rfl⟩
 have HM:=Lib.hid (show ((max (zc v.num.natAbs).length (zc v.den).length:Nat):Int)=(m:Int) by rw [hm9])
 have hm4:4096<m:=by have:=Hs.out;unfold szq at this;rw [ze,ze] at hm9;omega
 have t4:decide (4096<m)=true:=decide_eq_true (by omega)
 have t5:decide ((4096:Int)<(m:Int))=true:=decide_eq_true (by omega)
 clear hm9 hm4
 refine (zx ng2 _ _ _ _ _ (g2.to gb).isF (m:Int) HM.out).mono ?_
 clear ae ah af ai ag ak am au an aw aM aR aN aS b9 ce cd cf ch ci e0 e1 e2 e3 e4 o0 o1 o2 q0 q1 q2
 rintro e w3 ⟨rfl,bM⟩
 replace gb:=bS gb bM
 obtain ⟨⟨z0,ae,af,ag,am,an,aM,aN,ah,ai,ak,au,aw,aR,aS⟩,⟨z3,b9,cd,ch,ce,cf,ci⟩⟩:=HXwc.out _ gb
 obtain ⟨e0,e1,e2,e3,e4⟩:=(i1.to gb)
 obtain ⟨o0,o1,o2,q0,q1,q2⟩:=(i2.to gb)
 go_wp2_with fail
 go_wp2_with fail
 go_ret
 exact ⟨rfl,bS zb gb⟩

theorem zhc (mB g N:Nat) (u vJ:Value) (rows cols:Int) (T:Nat) (xa xb:Int) (ng:Bool) (vn vd:Value) (ln ld:List Nat) (d0 d1 d2:Value) {v:Rat}  (w:World) (hw:IsF w vn vd ln ld) (hm:zy w mB g N u vJ rows cols) (hN:N<=100000) (hT:T<N) (ho:zE w g (T*3) d0 d1 d2) (hs:4096<szq v/\szq v<=4097) (hcall:∀ V,Below w.heap.size w V->Calls Try.prog 34 #[.pointer (some ⟨mB,0,none⟩),.agg #[.int .i64 2,.int .i64 (T:Int),.int .i64 xa,.int .i64 xb,.bool ng,vn,vd]] V (zp V v))  :
  Calls Try.prog 11 #[.pointer (some ⟨mB,0,none⟩),.agg #[.int .i64 2,.int .i64 (T:Int),.int .i64 xa,.int .i64 xb,.bool ng,vn,vd]] w (fun e w' => e=.returned (.int .i64 4)/\Below w.heap.size w w'):=by
 obtain ⟨a0,n0,c0,rfl,H0,hm0⟩:=hw.1.open
 obtain ⟨a1,n1,c1,rfl,H1,hm1⟩:=hw.2.open
 have hTi:(T:Int)<(N:Int):=by omega
 have lm:=hm.lt
 have lo:=ho.lt
 have Hs:=Lib.hid hs
 have HC:=Lib.hid hcall
 clear hs hcall
 go_enter Try.func11,Try.ntmps11
 go_wp2_with fail
 obtain ⟨W0,aq⟩:∃ W0,w.alloc (.cells #[.int .i64 2,.int .i64 (T:Int),.int .i64 xa,.int .i64 xb,.bool ng,.slice a0 n0 c0,.slice a1 n1 c1] 27)=W0:=⟨_,rfl⟩
 have al:=Lib.hid (show ∀ W',Below W0.heap.size W0 W'->(W'.cell? ⟨w.heap.size,0,none⟩=some (.int .i64 2)/\W'.cell? ⟨w.heap.size,1,none⟩=some (.int .i64 (T:Int))/\W'.cell? ⟨w.heap.size,2,none⟩=some (.int .i64 xa)/\W'.cell? ⟨w.heap.size,3,none⟩=some (.int .i64 xb)/\W'.cell? ⟨w.heap.size,4,none⟩=some (.bool ng)/\W'.cell? ⟨w.heap.size,5,none⟩=some (.slice a0 n0 c0)/\W'.cell? ⟨w.heap.size,6,none⟩=some (.slice a1 n1 c1)) from fun W' hb =>
  by and_intros <;> exact kc hb (by first|assumption|(rw [<- aq];simp [go_sem])))
 have bQ:=Lib.hid (show ∀ W',Below W0.heap.size W0 W'->(W'.frozen? ⟨w.heap.size,0,none⟩=false/\W'.frozen? ⟨w.heap.size,1,none⟩=false/\W'.frozen? ⟨w.heap.size,2,none⟩=false/\W'.frozen? ⟨w.heap.size,3,none⟩=false/\W'.frozen? ⟨w.heap.size,4,none⟩=false/\W'.frozen? ⟨w.heap.size,5,none⟩=false/\W'.frozen? ⟨w.heap.size,6,none⟩=false) from fun W' hb =>
  by and_intros <;> refine (hb.frozen ?_).trans ?_ <;> first|assumption|(rw [<- aq];simp [go_sem])|(rw [<- aq];simp <;> omega))
 have bR:=Lib.hid (show ∀ W',Below W0.heap.size W0 W'->(w.heap.size<W'.heap.size) from fun W' hb =>
  Nat.lt_of_lt_of_le (by rw [<- aq];simp <;> omega) hb.size)
 have zb:Below w.heap.size w W0:=by rw [<- aq];exact bN _ _
 rw [aq]
 clear aq
 have i0:=hw.to zb
 have i1:=hm.to zb
 have i2:=ho.to zb
 have gb:Below W0.heap.size W0 W0:=Below.refl _ _
 obtain ⟨ae,af,ag,am,an,aM,aN⟩:=al.out _ gb
 obtain ⟨ah,ai,ak,au,aw,aR,aS⟩:=bQ.out _ gb
 obtain z0:=bR.out _ gb
 obtain ⟨e0,e1,e2,e3,e4⟩:=(i1.to gb)
 obtain ⟨o0,o1,o2,q0,q1,q2⟩:=(i2.to gb)
 go_wp2_with fail
 have htab:=tab_2
 have hgb:=gb
 go_upto_region 4 with fail
 go_cut [5,6] from 28 (fun s5 s6 wx => zaw W0 (v) s5 wx/\s6=.int .i64 0)
 case first =>
  go_region_held3 (fun W' => W'.cell? ⟨w.heap.size,0,none⟩=some (.int .i64 2)/\W'.cell? ⟨w.heap.size,1,none⟩=some (.int .i64 (T:Int))/\W'.cell? ⟨w.heap.size,2,none⟩=some (.int .i64 xa)/\W'.cell? ⟨w.heap.size,3,none⟩=some (.int .i64 xb)/\W'.cell? ⟨w.heap.size,4,none⟩=some (.bool ng)/\W'.cell? ⟨w.heap.size,5,none⟩=some (.slice a0 n0 c0)/\W'.cell? ⟨w.heap.size,6,none⟩=some (.slice a1 n1 c1)) (first|(with_reducible exact al.out _ gb)|((with_reducible refine al.out _ ?_);repeat' (first|(with_reducible exact gb)|(with_reducible refine Below.drew ?_)|(with_reducible refine bS ?_ (bN _ _))|(with_reducible refine bT ?_ ?_ _ _ _)|(with_reducible exact ay)|(with_reducible exact az)|omega))) (first
   | (go_at_call 34;(refine zf w1 (by with_reducible first|exact Below.refl _ _|exact bN _ _) ?_);intro V2 cH bn;have cS:=bn.size;have cN:=gb.size;have gb:=bS gb bn;(try have ac:=ac.to bn);(try have ap:Tri V2 (w1.heap.size) (.bool false) (.slice none 0 0) (.slice none 0 0):=(by rw [cH];with_reducible first|exact zd _ (.bool false) (.slice none 0 0) (.slice none 0 0) _|exact (zd _ (.bool false) (.slice none 0 0) (.slice none 0 0) _).alloc _));have az:W0.heap.size<=w1.heap.size:=(cN);(try have aH:=ac.lt);(try have aI:=ap.lt);(with_reducible refine (HC.out _ (bS zb gb)).mono ?_);rintro e w2 ⟨ng2,a2_,n2_,c2_,p2_,m2_,k2_,rfl,g2,aL⟩;have gb:=bS gb aL;have da:=aL.size;(try have ac:=ac.to aL);(try have ap:=ap.to aL);(try have bC:=ac.lt);(try have bE:=ap.lt);(try (have aG:=ac;obtain ⟨aU,aV,aW,aX,aY,aZ⟩:=aG));(try (have bj:=ap;obtain ⟨bU,bV,bW,bX,bY,bZ⟩:=bj)))
   | (go_at_call 21;(refine zf W0 (by with_reducible first|exact (Below.refl _ _).drew|exact (bN _ _).drew) ?_);intro V1 cI bP;have cR:=bP.size;have cC:=gb.size;have gb:=bS gb bP;(try have ac:Tri V1 (W0.heap.size) (.bool false) (.slice none 0 0) (.slice none 0 0):=(by rw [cI];with_reducible first|exact (zd _ (.bool false) (.slice none 0 0) (.slice none 0 0) _).drew|exact ((zd _ (.bool false) (.slice none 0 0) (.slice none 0 0) _).alloc _).drew));have ay:W0.heap.size<=W0.heap.size:=(cC);(try have aQ:=ac.lt);(with_reducible refine (zK _).mono ?_);rintro e w1 ⟨rfl,aT⟩;have gb:=bS gb aT;have c8:=aT.size;(try have ac:=ac.to aT);(try have bi:=ac.lt);(try (have aG:=ac;obtain ⟨aU,aV,aW,aX,aY,aZ⟩:=aG))))
  all_goals (go_wp2_with fail;go_meet)
  all_goals refine ⟨?_,rfl⟩
  all_goals first
   | (with_reducible exact zk ac g2 (.inl aH) gb ay)
   | (with_reducible exact zk ap g2 (.inl aI) gb az)
   | (with_reducible exact zG g2 gb)
 case rest =>
 obtain ⟨⟨B3,ng2,a2_,n2_,c2_,p2_,m2_,k2_,lo3,hi3,rfl,hB3,T3,g2,hc3⟩,rfl⟩:=hcut
 clear ae ah af ai ag ak am au an aw aM aR aN aS e0 e1 e2 e3 e4 o0 o1 o2 q0 q1 q2
 have gb:=hc3
 obtain ⟨ae,af,ag,am,an,aM,aN⟩:=al.out _ gb
 obtain ⟨ah,ai,ak,au,aw,aR,aS⟩:=bQ.out _ gb
 obtain z0:=bR.out _ gb
 obtain ⟨e0,e1,e2,e3,e4⟩:=(i1.to gb)
 obtain ⟨o0,o1,o2,q0,q1,q2⟩:=(i2.to gb)
 have z3:=T3.lt
 obtain ⟨b9,cd,ch,ce,cf,ci⟩:=T3
 clear hgb
 obtain ⟨W1,aK⟩:∃ W,wc=W:=⟨_,rfl⟩
 subst aK
 replace i0:=i0.to gb
 replace i1:=i1.to gb
 replace i2:=i2.to gb
 replace zb:=bS zb gb
 have HXwc:=Lib.hid (show ∀ W',Below wc.heap.size wc W'->(Bx7 W' w.heap.size (.int .i64 2) (.int .i64 (T:Int)) (.int .i64 xa) (.int .i64 xb) (.bool ng) (.slice a0 n0 c0) (.slice a1 n1 c1)/\Bx3 W' B3 (.bool ng2) (.slice a2_ n2_ c2_) (.slice p2_ m2_ k2_)) from fun W' hb => by
   refine ⟨bx7 hb ?_ ?_ ?_ ?_ ?_ ?_ ?_ ?_ ?_ ?_ ?_ ?_ ?_ ?_,bx3 hb ?_ ?_ ?_ ?_ ?_ ?_⟩
   all_goals first|assumption|assumption)
 replace gb:=Below.refl wc.heap.size wc
 go_wp2_with fail
 obtain ⟨m,hm9⟩:∃ m:Nat,((max (zc v.num.natAbs).length (zc v.den).length:Nat))=m:=⟨_,rfl⟩
 have HM:=Lib.hid (show ((max (zc v.num.natAbs).length (zc v.den).length:Nat):Int)=(m:Int) by rw [hm9])
 have hm4:4096<m:=by have:=Hs.out;unfold szq at this;rw [ze,ze] at hm9;omega
 have t4:decide (4096<m)=true:=decide_eq_true (by omega)
 have t5:decide ((4096:Int)<(m:Int))=true:=decide_eq_true (by omega)
 clear hm9 hm4
 refine (zx ng2 _ _ _ _ _ (g2.to gb).isF (m:Int) HM.out).mono ?_
 clear ae ah af ai ag ak am au an aw aM aR aN aS b9 ce cd cf ch ci e0 e1 e2 e3 e4 o0 o1 o2 q0 q1 q2
 rintro e w3 ⟨rfl,bM⟩
 replace gb:=bS gb bM
 obtain ⟨⟨z0,ae,af,ag,am,an,aM,aN,ah,ai,ak,au,aw,aR,aS⟩,⟨z3,b9,cd,ch,ce,cf,ci⟩⟩:=HXwc.out _ gb
 obtain ⟨e0,e1,e2,e3,e4⟩:=(i1.to gb)
 obtain ⟨o0,o1,o2,q0,q1,q2⟩:=(i2.to gb)
 go_wp2_with fail
 go_wp2_with fail
 go_ret
 exact ⟨rfl,bS zb gb⟩

theorem zhd (mB g N:Nat) (u vJ:Value) (rows cols:Int) (T:Nat) (xa xb:Int) (ng:Bool) (vn vd:Value) (ln ld:List Nat) (d0 d1 d2:Value) {v:Rat}  (w:World) (hw:IsF w vn vd ln ld) (hm:zy w mB g N u vJ rows cols) (hN:N<=100000) (hT:T<N) (ho:zE w g (T*3) d0 d1 d2) (hs:4096<szq v/\szq v<=4097) (hcall:∀ V,Below w.heap.size w V->Calls Try.prog 35 #[.pointer (some ⟨mB,0,none⟩),.agg #[.int .i64 3,.int .i64 (T:Int),.int .i64 xa,.int .i64 xb,.bool ng,vn,vd]] V (zp V v))  :
  Calls Try.prog 11 #[.pointer (some ⟨mB,0,none⟩),.agg #[.int .i64 3,.int .i64 (T:Int),.int .i64 xa,.int .i64 xb,.bool ng,vn,vd]] w (fun e w' => e=.returned (.int .i64 4)/\Below w.heap.size w w'):=by
 obtain ⟨a0,n0,c0,rfl,H0,hm0⟩:=hw.1.open
 obtain ⟨a1,n1,c1,rfl,H1,hm1⟩:=hw.2.open
 have hTi:(T:Int)<(N:Int):=by omega
 have lm:=hm.lt
 have lo:=ho.lt
 have Hs:=Lib.hid hs
 have HC:=Lib.hid hcall
 clear hs hcall
 go_enter Try.func11,Try.ntmps11
 go_wp2_with fail
 obtain ⟨W0,aq⟩:∃ W0,w.alloc (.cells #[.int .i64 3,.int .i64 (T:Int),.int .i64 xa,.int .i64 xb,.bool ng,.slice a0 n0 c0,.slice a1 n1 c1] 27)=W0:=⟨_,rfl⟩
 have al:=Lib.hid (show ∀ W',Below W0.heap.size W0 W'->(W'.cell? ⟨w.heap.size,0,none⟩=some (.int .i64 3)/\W'.cell? ⟨w.heap.size,1,none⟩=some (.int .i64 (T:Int))/\W'.cell? ⟨w.heap.size,2,none⟩=some (.int .i64 xa)/\W'.cell? ⟨w.heap.size,3,none⟩=some (.int .i64 xb)/\W'.cell? ⟨w.heap.size,4,none⟩=some (.bool ng)/\W'.cell? ⟨w.heap.size,5,none⟩=some (.slice a0 n0 c0)/\W'.cell? ⟨w.heap.size,6,none⟩=some (.slice a1 n1 c1)) from fun W' hb =>
  by and_intros <;> exact kc hb (by first|assumption|(rw [<- aq];simp [go_sem])))
 have bQ:=Lib.hid (show ∀ W',Below W0.heap.size W0 W'->(W'.frozen? ⟨w.heap.size,0,none⟩=false/\W'.frozen? ⟨w.heap.size,1,none⟩=false/\W'.frozen? ⟨w.heap.size,2,none⟩=false/\W'.frozen? ⟨w.heap.size,3,none⟩=false/\W'.frozen? ⟨w.heap.size,4,none⟩=false/\W'.frozen? ⟨w.heap.size,5,none⟩=false/\W'.frozen? ⟨w.heap.size,6,none⟩=false) from fun W' hb =>
  by and_intros <;> refine (hb.frozen ?_).trans ?_ <;> first|assumption|(rw [<- aq];simp [go_sem])|(rw [<- aq];simp <;> omega))
 have bR:=Lib.hid (show ∀ W',Below W0.heap.size W0 W'->(w.heap.size<W'.heap.size) from fun W' hb =>
  Nat.lt_of_lt_of_le (by rw [<- aq];simp <;> omega) hb.size)
 have zb:Below w.heap.size w W0:=by rw [<- aq];exact bN _ _
 rw [aq]
 clear aq
 have i0:=hw.to zb
 have i1:=hm.to zb
 have i2:=ho.to zb
 have gb:Below W0.heap.size W0 W0:=Below.refl _ _
 obtain ⟨ae,af,ag,am,an,aM,aN⟩:=al.out _ gb
 obtain ⟨ah,ai,ak,au,aw,aR,aS⟩:=bQ.out _ gb
 obtain z0:=bR.out _ gb
 obtain ⟨e0,e1,e2,e3,e4⟩:=(i1.to gb)
 obtain ⟨o0,o1,o2,q0,q1,q2⟩:=(i2.to gb)
 go_wp2_with fail
 have htab:=tab_3
 have hgb:=gb
 go_upto_region 4 with fail
 go_cut [5,6] from 28 (fun s5 s6 wx => zaw W0 (v) s5 wx/\s6=.int .i64 0)
 case first =>
  go_region_held3 (fun W' => W'.cell? ⟨w.heap.size,0,none⟩=some (.int .i64 3)/\W'.cell? ⟨w.heap.size,1,none⟩=some (.int .i64 (T:Int))/\W'.cell? ⟨w.heap.size,2,none⟩=some (.int .i64 xa)/\W'.cell? ⟨w.heap.size,3,none⟩=some (.int .i64 xb)/\W'.cell? ⟨w.heap.size,4,none⟩=some (.bool ng)/\W'.cell? ⟨w.heap.size,5,none⟩=some (.slice a0 n0 c0)/\W'.cell? ⟨w.heap.size,6,none⟩=some (.slice a1 n1 c1)) (first|(with_reducible exact al.out _ gb)|((with_reducible refine al.out _ ?_);repeat' (first|(with_reducible exact gb)|(with_reducible refine Below.drew ?_)|(with_reducible refine bS ?_ (bN _ _))|(with_reducible refine bT ?_ ?_ _ _ _)|(with_reducible exact ay)|(with_reducible exact az)|omega))) (first
   | (go_at_call 35;(refine zf w1 (by with_reducible first|exact Below.refl _ _|exact bN _ _) ?_);intro V2 cH bn;have cS:=bn.size;have cN:=gb.size;have gb:=bS gb bn;(try have ac:=ac.to bn);(try have ap:Tri V2 (w1.heap.size) (.bool false) (.slice none 0 0) (.slice none 0 0):=(by rw [cH];with_reducible first|exact zd _ (.bool false) (.slice none 0 0) (.slice none 0 0) _|exact (zd _ (.bool false) (.slice none 0 0) (.slice none 0 0) _).alloc _));have az:W0.heap.size<=w1.heap.size:=(cN);(try have aH:=ac.lt);(try have aI:=ap.lt);(with_reducible refine (HC.out _ (bS zb gb)).mono ?_);rintro e w2 ⟨ng2,a2_,n2_,c2_,p2_,m2_,k2_,rfl,g2,aL⟩;have gb:=bS gb aL;have da:=aL.size;(try have ac:=ac.to aL);(try have ap:=ap.to aL);(try have bC:=ac.lt);(try have bE:=ap.lt);(try (have aG:=ac;obtain ⟨aU,aV,aW,aX,aY,aZ⟩:=aG));(try (have bj:=ap;obtain ⟨bU,bV,bW,bX,bY,bZ⟩:=bj)))
   | (go_at_call 21;(refine zf W0 (by with_reducible first|exact (Below.refl _ _).drew|exact (bN _ _).drew) ?_);intro V1 cI bP;have cR:=bP.size;have cC:=gb.size;have gb:=bS gb bP;(try have ac:Tri V1 (W0.heap.size) (.bool false) (.slice none 0 0) (.slice none 0 0):=(by rw [cI];with_reducible first|exact (zd _ (.bool false) (.slice none 0 0) (.slice none 0 0) _).drew|exact ((zd _ (.bool false) (.slice none 0 0) (.slice none 0 0) _).alloc _).drew));have ay:W0.heap.size<=W0.heap.size:=(cC);(try have aQ:=ac.lt);(with_reducible refine (zK _).mono ?_);rintro e w1 ⟨rfl,aT⟩;have gb:=bS gb aT;have c8:=aT.size;(try have ac:=ac.to aT);(try have bi:=ac.lt);(try (have aG:=ac;obtain ⟨aU,aV,aW,aX,aY,aZ⟩:=aG))))
  all_goals (go_wp2_with fail;go_meet)
  all_goals refine ⟨?_,rfl⟩
  all_goals first
   | (with_reducible exact zk ac g2 (.inl aH) gb ay)
   | (with_reducible exact zk ap g2 (.inl aI) gb az)
   | (with_reducible exact zG g2 gb)
 case rest =>
 obtain ⟨⟨B3,ng2,a2_,n2_,c2_,p2_,m2_,k2_,lo3,hi3,rfl,hB3,T3,g2,hc3⟩,rfl⟩:=hcut
 clear ae ah af ai ag ak am au an aw aM aR aN aS e0 e1 e2 e3 e4 o0 o1 o2 q0 q1 q2
 have gb:=hc3
 obtain ⟨ae,af,ag,am,an,aM,aN⟩:=al.out _ gb
 obtain ⟨ah,ai,ak,au,aw,aR,aS⟩:=bQ.out _ gb
 obtain z0:=bR.out _ gb
 obtain ⟨e0,e1,e2,e3,e4⟩:=(i1.to gb)
 obtain ⟨o0,o1,o2,q0,q1,q2⟩:=(i2.to gb)
 have z3:=T3.lt
 obtain ⟨b9,cd,ch,ce,cf,ci⟩:=T3
 clear hgb
 obtain ⟨W1,aK⟩:∃ W,wc=W:=⟨_,rfl⟩
 subst aK
 replace i0:=i0.to gb
 replace i1:=i1.to gb
 replace i2:=i2.to gb
 replace zb:=bS zb gb
 have HXwc:=Lib.hid (show ∀ W',Below wc.heap.size wc W'->(Bx7 W' w.heap.size (.int .i64 3) (.int .i64 (T:Int)) (.int .i64 xa) (.int .i64 xb) (.bool ng) (.slice a0 n0 c0) (.slice a1 n1 c1)/\Bx3 W' B3 (.bool ng2) (.slice a2_ n2_ c2_) (.slice p2_ m2_ k2_)) from fun W' hb => by
   refine ⟨bx7 hb ?_ ?_ ?_ ?_ ?_ ?_ ?_ ?_ ?_ ?_ ?_ ?_ ?_ ?_,bx3 hb ?_ ?_ ?_ ?_ ?_ ?_⟩
   all_goals first|assumption|assumption)
 replace gb:=Below.refl wc.heap.size wc
 go_wp2_with fail
 obtain ⟨m,hm9⟩:∃ m:Nat,((max (zc v.num.natAbs).length (zc v.den).length:Nat))=m:=⟨_,rfl⟩
 have HM:=Lib.hid (show ((max (zc v.num.natAbs).length (zc v.den).length:Nat):Int)=(m:Int) by rw [hm9])
 have hm4:4096<m:=by have:=Hs.out;unfold szq at this;rw [ze,ze] at hm9;omega
 have t4:decide (4096<m)=true:=decide_eq_true (by omega)
 have t5:decide ((4096:Int)<(m:Int))=true:=decide_eq_true (by omega)
 clear hm9 hm4
 refine (zx ng2 _ _ _ _ _ (g2.to gb).isF (m:Int) HM.out).mono ?_
 clear ae ah af ai ag ak am au an aw aM aR aN aS b9 ce cd cf ch ci e0 e1 e2 e3 e4 o0 o1 o2 q0 q1 q2
 rintro e w3 ⟨rfl,bM⟩
 replace gb:=bS gb bM
 obtain ⟨⟨z0,ae,af,ag,am,an,aM,aN,ah,ai,ak,au,aw,aR,aS⟩,⟨z3,b9,cd,ch,ce,cf,ci⟩⟩:=HXwc.out _ gb
 obtain ⟨e0,e1,e2,e3,e4⟩:=(i1.to gb)
 obtain ⟨o0,o1,o2,q0,q1,q2⟩:=(i2.to gb)
 go_wp2_with fail
 go_wp2_with fail
 go_ret
 exact ⟨rfl,bS zb gb⟩

theorem zhe (mB g N:Nat) (u vJ:Value) (rows cols:Int) (T:Nat) (xa xb:Int) (ng:Bool) (vn vd:Value) (ln ld:List Nat) (d0 d1 d2:Value) {v:Rat}  (w:World) (hw:IsF w vn vd ln ld) (hm:zy w mB g N u vJ rows cols) (hN:N<=100000) (hT:T<N) (ho:zE w g (T*3) d0 d1 d2) (hs:4096<szq v/\szq v<=4097) (hcall:∀ V,Below w.heap.size w V->Calls Try.prog 36 #[.pointer (some ⟨mB,0,none⟩),.agg #[.int .i64 4,.int .i64 (T:Int),.int .i64 xa,.int .i64 xb,.bool ng,vn,vd]] V (zp V v))  :
  Calls Try.prog 11 #[.pointer (some ⟨mB,0,none⟩),.agg #[.int .i64 4,.int .i64 (T:Int),.int .i64 xa,.int .i64 xb,.bool ng,vn,vd]] w (fun e w' => e=.returned (.int .i64 4)/\Below w.heap.size w w'):=by
 obtain ⟨a0,n0,c0,rfl,H0,hm0⟩:=hw.1.open
 obtain ⟨a1,n1,c1,rfl,H1,hm1⟩:=hw.2.open
 have hTi:(T:Int)<(N:Int):=by omega
 have lm:=hm.lt
 have lo:=ho.lt
 have Hs:=Lib.hid hs
 have HC:=Lib.hid hcall
 clear hs hcall
 go_enter Try.func11,Try.ntmps11
 go_wp2_with fail
 obtain ⟨W0,aq⟩:∃ W0,w.alloc (.cells #[.int .i64 4,.int .i64 (T:Int),.int .i64 xa,.int .i64 xb,.bool ng,.slice a0 n0 c0,.slice a1 n1 c1] 27)=W0:=⟨_,rfl⟩
 have al:=Lib.hid (show ∀ W',Below W0.heap.size W0 W'->(W'.cell? ⟨w.heap.size,0,none⟩=some (.int .i64 4)/\W'.cell? ⟨w.heap.size,1,none⟩=some (.int .i64 (T:Int))/\W'.cell? ⟨w.heap.size,2,none⟩=some (.int .i64 xa)/\W'.cell? ⟨w.heap.size,3,none⟩=some (.int .i64 xb)/\W'.cell? ⟨w.heap.size,4,none⟩=some (.bool ng)/\W'.cell? ⟨w.heap.size,5,none⟩=some (.slice a0 n0 c0)/\W'.cell? ⟨w.heap.size,6,none⟩=some (.slice a1 n1 c1)) from fun W' hb =>
  by and_intros <;> exact kc hb (by first|assumption|(rw [<- aq];simp [go_sem])))
 have bQ:=Lib.hid (show ∀ W',Below W0.heap.size W0 W'->(W'.frozen? ⟨w.heap.size,0,none⟩=false/\W'.frozen? ⟨w.heap.size,1,none⟩=false/\W'.frozen? ⟨w.heap.size,2,none⟩=false/\W'.frozen? ⟨w.heap.size,3,none⟩=false/\W'.frozen? ⟨w.heap.size,4,none⟩=false/\W'.frozen? ⟨w.heap.size,5,none⟩=false/\W'.frozen? ⟨w.heap.size,6,none⟩=false) from fun W' hb =>
  by and_intros <;> refine (hb.frozen ?_).trans ?_ <;> first|assumption|(rw [<- aq];simp [go_sem])|(rw [<- aq];simp <;> omega))
 have bR:=Lib.hid (show ∀ W',Below W0.heap.size W0 W'->(w.heap.size<W'.heap.size) from fun W' hb =>
  Nat.lt_of_lt_of_le (by rw [<- aq];simp <;> omega) hb.size)
 have zb:Below w.heap.size w W0:=by rw [<- aq];exact bN _ _
 rw [aq]
 clear aq
 have i0:=hw.to zb
 have i1:=hm.to zb
 have i2:=ho.to zb
 have gb:Below W0.heap.size W0 W0:=Below.refl _ _
 obtain ⟨ae,af,ag,am,an,aM,aN⟩:=al.out _ gb
 obtain ⟨ah,ai,ak,au,aw,aR,aS⟩:=bQ.out _ gb
 obtain z0:=bR.out _ gb
 obtain ⟨e0,e1,e2,e3,e4⟩:=(i1.to gb)
 obtain ⟨o0,o1,o2,q0,q1,q2⟩:=(i2.to gb)
 go_wp2_with fail
 have htab:=tab_4
 have hgb:=gb
 go_upto_region 4 with fail
 go_cut [5,6] from 28 (fun s5 s6 wx => zaw W0 (v) s5 wx/\s6=.int .i64 0)
 case first =>
  go_region_held3 (fun W' => W'.cell? ⟨w.heap.size,0,none⟩=some (.int .i64 4)/\W'.cell? ⟨w.heap.size,1,none⟩=some (.int .i64 (T:Int))/\W'.cell? ⟨w.heap.size,2,none⟩=some (.int .i64 xa)/\W'.cell? ⟨w.heap.size,3,none⟩=some (.int .i64 xb)/\W'.cell? ⟨w.heap.size,4,none⟩=some (.bool ng)/\W'.cell? ⟨w.heap.size,5,none⟩=some (.slice a0 n0 c0)/\W'.cell? ⟨w.heap.size,6,none⟩=some (.slice a1 n1 c1)) (first|(with_reducible exact al.out _ gb)|((with_reducible refine al.out _ ?_);repeat' (first|(with_reducible exact gb)|(with_reducible refine Below.drew ?_)|(with_reducible refine bS ?_ (bN _ _))|(with_reducible refine bT ?_ ?_ _ _ _)|(with_reducible exact ay)|(with_reducible exact az)|omega))) (first
   | (go_at_call 36;(refine zf w1 (by with_reducible first|exact Below.refl _ _|exact bN _ _) ?_);intro V2 cH bn;have cS:=bn.size;have cN:=gb.size;have gb:=bS gb bn;(try have ac:=ac.to bn);(try have ap:Tri V2 (w1.heap.size) (.bool false) (.slice none 0 0) (.slice none 0 0):=(by rw [cH];with_reducible first|exact zd _ (.bool false) (.slice none 0 0) (.slice none 0 0) _|exact (zd _ (.bool false) (.slice none 0 0) (.slice none 0 0) _).alloc _));have az:W0.heap.size<=w1.heap.size:=(cN);(try have aH:=ac.lt);(try have aI:=ap.lt);(with_reducible refine (HC.out _ (bS zb gb)).mono ?_);rintro e w2 ⟨ng2,a2_,n2_,c2_,p2_,m2_,k2_,rfl,g2,aL⟩;have gb:=bS gb aL;have da:=aL.size;(try have ac:=ac.to aL);(try have ap:=ap.to aL);(try have bC:=ac.lt);(try have bE:=ap.lt);(try (have aG:=ac;obtain ⟨aU,aV,aW,aX,aY,aZ⟩:=aG));(try (have bj:=ap;obtain ⟨bU,bV,bW,bX,bY,bZ⟩:=bj)))
   | (go_at_call 21;(refine zf W0 (by with_reducible first|exact (Below.refl _ _).drew|exact (bN _ _).drew) ?_);intro V1 cI bP;have cR:=bP.size;have cC:=gb.size;have gb:=bS gb bP;(try have ac:Tri V1 (W0.heap.size) (.bool false) (.slice none 0 0) (.slice none 0 0):=(by rw [cI];with_reducible first|exact (zd _ (.bool false) (.slice none 0 0) (.slice none 0 0) _).drew|exact ((zd _ (.bool false) (.slice none 0 0) (.slice none 0 0) _).alloc _).drew));have ay:W0.heap.size<=W0.heap.size:=(cC);(try have aQ:=ac.lt);(with_reducible refine (zK _).mono ?_);rintro e w1 ⟨rfl,aT⟩;have gb:=bS gb aT;have c8:=aT.size;(try have ac:=ac.to aT);(try have bi:=ac.lt);(try (have aG:=ac;obtain ⟨aU,aV,aW,aX,aY,aZ⟩:=aG))))
  all_goals (go_wp2_with fail;go_meet)
  all_goals refine ⟨?_,rfl⟩
  all_goals first
   | (with_reducible exact zk ac g2 (.inl aH) gb ay)
   | (with_reducible exact zk ap g2 (.inl aI) gb az)
   | (with_reducible exact zG g2 gb)
 case rest =>
 obtain ⟨⟨B3,ng2,a2_,n2_,c2_,p2_,m2_,k2_,lo3,hi3,rfl,hB3,T3,g2,hc3⟩,rfl⟩:=hcut
 clear ae ah af ai ag ak am au an aw aM aR aN aS e0 e1 e2 e3 e4 o0 o1 o2 q0 q1 q2
 have gb:=hc3
 obtain ⟨ae,af,ag,am,an,aM,aN⟩:=al.out _ gb
 obtain ⟨ah,ai,ak,au,aw,aR,aS⟩:=bQ.out _ gb
 obtain z0:=bR.out _ gb
 obtain ⟨e0,e1,e2,e3,e4⟩:=(i1.to gb)
 obtain ⟨o0,o1,o2,q0,q1,q2⟩:=(i2.to gb)
 have z3:=T3.lt
 obtain ⟨b9,cd,ch,ce,cf,ci⟩:=T3
 clear hgb
 obtain ⟨W1,aK⟩:∃ W,wc=W:=⟨_,rfl⟩
 subst aK
 replace i0:=i0.to gb
 replace i1:=i1.to gb
 replace i2:=i2.to gb
 replace zb:=bS zb gb
 have HXwc:=Lib.hid (show ∀ W',Below wc.heap.size wc W'->(Bx7 W' w.heap.size (.int .i64 4) (.int .i64 (T:Int)) (.int .i64 xa) (.int .i64 xb) (.bool ng) (.slice a0 n0 c0) (.slice a1 n1 c1)/\Bx3 W' B3 (.bool ng2) (.slice a2_ n2_ c2_) (.slice p2_ m2_ k2_)) from fun W' hb => by
   refine ⟨bx7 hb ?_ ?_ ?_ ?_ ?_ ?_ ?_ ?_ ?_ ?_ ?_ ?_ ?_ ?_,bx3 hb ?_ ?_ ?_ ?_ ?_ ?_⟩
   all_goals first|assumption|assumption)
 replace gb:=Below.refl wc.heap.size wc
 go_wp2_with fail
 obtain ⟨m,hm9⟩:∃ m:Nat,((max (zc v.num.natAbs).length (zc v.den).length:Nat))=m:=⟨_,rfl⟩
 have HM:=Lib.hid (show ((max (zc v.num.natAbs).length (zc v.den).length:Nat):Int)=(m:Int) by rw [hm9])
 have hm4:4096<m:=by have:=Hs.out;unfold szq at this;rw [ze,ze] at hm9;omega
 have t4:decide (4096<m)=true:=decide_eq_true (by omega)
 have t5:decide ((4096:Int)<(m:Int))=true:=decide_eq_true (by omega)
 clear hm9 hm4
 refine (zx ng2 _ _ _ _ _ (g2.to gb).isF (m:Int) HM.out).mono ?_
 clear ae ah af ai ag ak am au an aw aM aR aN aS b9 ce cd cf ch ci e0 e1 e2 e3 e4 o0 o1 o2 q0 q1 q2
 rintro e w3 ⟨rfl,bM⟩
 replace gb:=bS gb bM
 obtain ⟨⟨z0,ae,af,ag,am,an,aM,aN,ah,ai,ak,au,aw,aR,aS⟩,⟨z3,b9,cd,ch,ce,cf,ci⟩⟩:=HXwc.out _ gb
 obtain ⟨e0,e1,e2,e3,e4⟩:=(i1.to gb)
 obtain ⟨o0,o1,o2,q0,q1,q2⟩:=(i2.to gb)
 go_wp2_with fail
 go_wp2_with fail
 go_ret
 exact ⟨rfl,bS zb gb⟩

theorem zhf (mB g N:Nat) (u vJ:Value) (rows cols:Int) (T:Nat) (xa xb:Int) (ng:Bool) (vn vd:Value) (ln ld:List Nat) (d0 d1 d2:Value) {v:Rat}  (w:World) (hw:IsF w vn vd ln ld) (hm:zy w mB g N u vJ rows cols) (hN:N<=100000) (hT:T<N) (ho:zE w g (T*3) d0 d1 d2) (hs:4096<szq v/\szq v<=4097) (hcall:∀ V,Below w.heap.size w V->Calls Try.prog 37 #[.pointer (some ⟨mB,0,none⟩),.agg #[.int .i64 5,.int .i64 (T:Int),.int .i64 xa,.int .i64 xb,.bool ng,vn,vd]] V (zp V v))  :
  Calls Try.prog 11 #[.pointer (some ⟨mB,0,none⟩),.agg #[.int .i64 5,.int .i64 (T:Int),.int .i64 xa,.int .i64 xb,.bool ng,vn,vd]] w (fun e w' => e=.returned (.int .i64 4)/\Below w.heap.size w w'):=by
 obtain ⟨a0,n0,c0,rfl,H0,hm0⟩:=hw.1.open
 obtain ⟨a1,n1,c1,rfl,H1,hm1⟩:=hw.2.open
 have hTi:(T:Int)<(N:Int):=by omega
 have lm:=hm.lt
 have lo:=ho.lt
 have Hs:=Lib.hid hs
 have HC:=Lib.hid hcall
 clear hs hcall
 go_enter Try.func11,Try.ntmps11
 go_wp2_with fail
 obtain ⟨W0,aq⟩:∃ W0,w.alloc (.cells #[.int .i64 5,.int .i64 (T:Int),.int .i64 xa,.int .i64 xb,.bool ng,.slice a0 n0 c0,.slice a1 n1 c1] 27)=W0:=⟨_,rfl⟩
 have al:=Lib.hid (show ∀ W',Below W0.heap.size W0 W'->(W'.cell? ⟨w.heap.size,0,none⟩=some (.int .i64 5)/\W'.cell? ⟨w.heap.size,1,none⟩=some (.int .i64 (T:Int))/\W'.cell? ⟨w.heap.size,2,none⟩=some (.int .i64 xa)/\W'.cell? ⟨w.heap.size,3,none⟩=some (.int .i64 xb)/\W'.cell? ⟨w.heap.size,4,none⟩=some (.bool ng)/\W'.cell? ⟨w.heap.size,5,none⟩=some (.slice a0 n0 c0)/\W'.cell? ⟨w.heap.size,6,none⟩=some (.slice a1 n1 c1)) from fun W' hb =>
  by and_intros <;> exact kc hb (by first|assumption|(rw [<- aq];simp [go_sem])))
 have bQ:=Lib.hid (show ∀ W',Below W0.heap.size W0 W'->(W'.frozen? ⟨w.heap.size,0,none⟩=false/\W'.frozen? ⟨w.heap.size,1,none⟩=false/\W'.frozen? ⟨w.heap.size,2,none⟩=false/\W'.frozen? ⟨w.heap.size,3,none⟩=false/\W'.frozen? ⟨w.heap.size,4,none⟩=false/\W'.frozen? ⟨w.heap.size,5,none⟩=false/\W'.frozen? ⟨w.heap.size,6,none⟩=false) from fun W' hb =>
  by and_intros <;> refine (hb.frozen ?_).trans ?_ <;> first|assumption|(rw [<- aq];simp [go_sem])|(rw [<- aq];simp <;> omega))
 have bR:=Lib.hid (show ∀ W',Below W0.heap.size W0 W'->(w.heap.size<W'.heap.size) from fun W' hb =>
  Nat.lt_of_lt_of_le (by rw [<- aq];simp <;> omega) hb.size)
 have zb:Below w.heap.size w W0:=by rw [<- aq];exact bN _ _
 rw [aq]
 clear aq
 have i0:=hw.to zb
 have i1:=hm.to zb
 have i2:=ho.to zb
 have gb:Below W0.heap.size W0 W0:=Below.refl _ _
 obtain ⟨ae,af,ag,am,an,aM,aN⟩:=al.out _ gb
 obtain ⟨ah,ai,ak,au,aw,aR,aS⟩:=bQ.out _ gb
 obtain z0:=bR.out _ gb
 obtain ⟨e0,e1,e2,e3,e4⟩:=(i1.to gb)
 obtain ⟨o0,o1,o2,q0,q1,q2⟩:=(i2.to gb)
 go_wp2_with fail
 have htab:=tab_5
 have hgb:=gb
 go_upto_region 4 with fail
 go_cut [5,6] from 28 (fun s5 s6 wx => zaw W0 (v) s5 wx/\s6=.int .i64 0)
 case first =>
  go_region_held3 (fun W' => W'.cell? ⟨w.heap.size,0,none⟩=some (.int .i64 5)/\W'.cell? ⟨w.heap.size,1,none⟩=some (.int .i64 (T:Int))/\W'.cell? ⟨w.heap.size,2,none⟩=some (.int .i64 xa)/\W'.cell? ⟨w.heap.size,3,none⟩=some (.int .i64 xb)/\W'.cell? ⟨w.heap.size,4,none⟩=some (.bool ng)/\W'.cell? ⟨w.heap.size,5,none⟩=some (.slice a0 n0 c0)/\W'.cell? ⟨w.heap.size,6,none⟩=some (.slice a1 n1 c1)) (first|(with_reducible exact al.out _ gb)|((with_reducible refine al.out _ ?_);repeat' (first|(with_reducible exact gb)|(with_reducible refine Below.drew ?_)|(with_reducible refine bS ?_ (bN _ _))|(with_reducible refine bT ?_ ?_ _ _ _)|(with_reducible exact ay)|(with_reducible exact az)|omega))) (first
   | (go_at_call 37;(refine zf w1 (by with_reducible first|exact Below.refl _ _|exact bN _ _) ?_);intro V2 cH bn;have cS:=bn.size;have cN:=gb.size;have gb:=bS gb bn;(try have ac:=ac.to bn);(try have ap:Tri V2 (w1.heap.size) (.bool false) (.slice none 0 0) (.slice none 0 0):=(by rw [cH];with_reducible first|exact zd _ (.bool false) (.slice none 0 0) (.slice none 0 0) _|exact (zd _ (.bool false) (.slice none 0 0) (.slice none 0 0) _).alloc _));have az:W0.heap.size<=w1.heap.size:=(cN);(try have aH:=ac.lt);(try have aI:=ap.lt);(with_reducible refine (HC.out _ (bS zb gb)).mono ?_);rintro e w2 ⟨ng2,a2_,n2_,c2_,p2_,m2_,k2_,rfl,g2,aL⟩;have gb:=bS gb aL;have da:=aL.size;(try have ac:=ac.to aL);(try have ap:=ap.to aL);(try have bC:=ac.lt);(try have bE:=ap.lt);(try (have aG:=ac;obtain ⟨aU,aV,aW,aX,aY,aZ⟩:=aG));(try (have bj:=ap;obtain ⟨bU,bV,bW,bX,bY,bZ⟩:=bj)))
   | (go_at_call 21;(refine zf W0 (by with_reducible first|exact (Below.refl _ _).drew|exact (bN _ _).drew) ?_);intro V1 cI bP;have cR:=bP.size;have cC:=gb.size;have gb:=bS gb bP;(try have ac:Tri V1 (W0.heap.size) (.bool false) (.slice none 0 0) (.slice none 0 0):=(by rw [cI];with_reducible first|exact (zd _ (.bool false) (.slice none 0 0) (.slice none 0 0) _).drew|exact ((zd _ (.bool false) (.slice none 0 0) (.slice none 0 0) _).alloc _).drew));have ay:W0.heap.size<=W0.heap.size:=(cC);(try have aQ:=ac.lt);(with_reducible refine (zK _).mono ?_);rintro e w1 ⟨rfl,aT⟩;have gb:=bS gb aT;have c8:=aT.size;(try have ac:=ac.to aT);(try have bi:=ac.lt);(try (have aG:=ac;obtain ⟨aU,aV,aW,aX,aY,aZ⟩:=aG))))
  all_goals (go_wp2_with fail;go_meet)
  all_goals refine ⟨?_,rfl⟩
  all_goals first
   | (with_reducible exact zk ac g2 (.inl aH) gb ay)
   | (with_reducible exact zk ap g2 (.inl aI) gb az)
   | (with_reducible exact zG g2 gb)
 case rest =>
 obtain ⟨⟨B3,ng2,a2_,n2_,c2_,p2_,m2_,k2_,lo3,hi3,rfl,hB3,T3,g2,hc3⟩,rfl⟩:=hcut
 clear ae ah af ai ag ak am au an aw aM aR aN aS e0 e1 e2 e3 e4 o0 o1 o2 q0 q1 q2
 have gb:=hc3
 obtain ⟨ae,af,ag,am,an,aM,aN⟩:=al.out _ gb
 obtain ⟨ah,ai,ak,au,aw,aR,aS⟩:=bQ.out _ gb
 obtain z0:=bR.out _ gb
 obtain ⟨e0,e1,e2,e3,e4⟩:=(i1.to gb)
 obtain ⟨o0,o1,o2,q0,q1,q2⟩:=(i2.to gb)
 have z3:=T3.lt
 obtain ⟨b9,cd,ch,ce,cf,ci⟩:=T3
 clear hgb
 obtain ⟨W1,aK⟩:∃ W,wc=W:=⟨_,rfl⟩
 subst aK
 replace i0:=i0.to gb
 replace i1:=i1.to gb
 replace i2:=i2.to gb
 replace zb:=bS zb gb
 have HXwc:=Lib.hid (show ∀ W',Below wc.heap.size wc W'->(Bx7 W' w.heap.size (.int .i64 5) (.int .i64 (T:Int)) (.int .i64 xa) (.int .i64 xb) (.bool ng) (.slice a0 n0 c0) (.slice a1 n1 c1)/\Bx3 W' B3 (.bool ng2) (.slice a2_ n2_ c2_) (.slice p2_ m2_ k2_)) from fun W' hb => by
   refine ⟨bx7 hb ?_ ?_ ?_ ?_ ?_ ?_ ?_ ?_ ?_ ?_ ?_ ?_ ?_ ?_,bx3 hb ?_ ?_ ?_ ?_ ?_ ?_⟩
   all_goals first|assumption|assumption)
 replace gb:=Below.refl wc.heap.size wc
 go_wp2_with fail
 obtain ⟨m,hm9⟩:∃ m:Nat,((max (zc v.num.natAbs).length (zc v.den).length:Nat))=m:=⟨_,rfl⟩
 have HM:=Lib.hid (show ((max (zc v.num.natAbs).length (zc v.den).length:Nat):Int)=(m:Int) by rw [hm9])
 have hm4:4096<m:=by have:=Hs.out;unfold szq at this;rw [ze,ze] at hm9;omega
 have t4:decide (4096<m)=true:=decide_eq_true (by omega)
 have t5:decide ((4096:Int)<(m:Int))=true:=decide_eq_true (by omega)
 clear hm9 hm4
 refine (zx ng2 _ _ _ _ _ (g2.to gb).isF (m:Int) HM.out).mono ?_
 clear ae ah af ai ag ak am au an aw aM aR aN aS b9 ce cd cf ch ci e0 e1 e2 e3 e4 o0 o1 o2 q0 q1 q2
 rintro e w3 ⟨rfl,bM⟩
 replace gb:=bS gb bM
 obtain ⟨⟨z0,ae,af,ag,am,an,aM,aN,ah,ai,ak,au,aw,aR,aS⟩,⟨z3,b9,cd,ch,ce,cf,ci⟩⟩:=HXwc.out _ gb
 obtain ⟨e0,e1,e2,e3,e4⟩:=(i1.to gb)
 obtain ⟨o0,o1,o2,q0,q1,q2⟩:=(i2.to gb)
 go_wp2_with fail
 go_wp2_with fail
 go_ret
 exact ⟨rfl,bS zb gb⟩

theorem zhg (mB g N:Nat) (u vJ:Value) (rows cols:Int) (T:Nat) (xa xb:Int) (ng:Bool) (vn vd:Value) (ln ld:List Nat) (d0 d1 d2:Value) {v:Rat}  (w:World) (hw:IsF w vn vd ln ld) (hm:zy w mB g N u vJ rows cols) (hN:N<=100000) (hT:T<N) (ho:zE w g (T*3) d0 d1 d2) (hs:4096<szq v/\szq v<=4097) (hcall:∀ V,Below w.heap.size w V->Calls Try.prog 38 #[.pointer (some ⟨mB,0,none⟩),.agg #[.int .i64 6,.int .i64 (T:Int),.int .i64 xa,.int .i64 xb,.bool ng,vn,vd]] V (zp V v))  :
  Calls Try.prog 11 #[.pointer (some ⟨mB,0,none⟩),.agg #[.int .i64 6,.int .i64 (T:Int),.int .i64 xa,.int .i64 xb,.bool ng,vn,vd]] w (fun e w' => e=.returned (.int .i64 4)/\Below w.heap.size w w'):=by
 obtain ⟨a0,n0,c0,rfl,H0,hm0⟩:=hw.1.open
 obtain ⟨a1,n1,c1,rfl,H1,hm1⟩:=hw.2.open
 have hTi:(T:Int)<(N:Int):=by omega
 have lm:=hm.lt
 have lo:=ho.lt
 have Hs:=Lib.hid hs
 have HC:=Lib.hid hcall
 clear hs hcall
 go_enter Try.func11,Try.ntmps11
 go_wp2_with fail
 obtain ⟨W0,aq⟩:∃ W0,w.alloc (.cells #[.int .i64 6,.int .i64 (T:Int),.int .i64 xa,.int .i64 xb,.bool ng,.slice a0 n0 c0,.slice a1 n1 c1] 27)=W0:=⟨_,rfl⟩
 have al:=Lib.hid (show ∀ W',Below W0.heap.size W0 W'->(W'.cell? ⟨w.heap.size,0,none⟩=some (.int .i64 6)/\W'.cell? ⟨w.heap.size,1,none⟩=some (.int .i64 (T:Int))/\W'.cell? ⟨w.heap.size,2,none⟩=some (.int .i64 xa)/\W'.cell? ⟨w.heap.size,3,none⟩=some (.int .i64 xb)/\W'.cell? ⟨w.heap.size,4,none⟩=some (.bool ng)/\W'.cell? ⟨w.heap.size,5,none⟩=some (.slice a0 n0 c0)/\W'.cell? ⟨w.heap.size,6,none⟩=some (.slice a1 n1 c1)) from fun W' hb =>
  by and_intros <;> exact kc hb (by first|assumption|(rw [<- aq];simp [go_sem])))
 have bQ:=Lib.hid (show ∀ W',Below W0.heap.size W0 W'->(W'.frozen? ⟨w.heap.size,0,none⟩=false/\W'.frozen? ⟨w.heap.size,1,none⟩=false/\W'.frozen? ⟨w.heap.size,2,none⟩=false/\W'.frozen? ⟨w.heap.size,3,none⟩=false/\W'.frozen? ⟨w.heap.size,4,none⟩=false/\W'.frozen? ⟨w.heap.size,5,none⟩=false/\W'.frozen? ⟨w.heap.size,6,none⟩=false) from fun W' hb =>
  by and_intros <;> refine (hb.frozen ?_).trans ?_ <;> first|assumption|(rw [<- aq];simp [go_sem])|(rw [<- aq];simp <;> omega))
 have bR:=Lib.hid (show ∀ W',Below W0.heap.size W0 W'->(w.heap.size<W'.heap.size) from fun W' hb =>
  Nat.lt_of_lt_of_le (by rw [<- aq];simp <;> omega) hb.size)
 have zb:Below w.heap.size w W0:=by rw [<- aq];exact bN _ _
 rw [aq]
 clear aq
 have i0:=hw.to zb
 have i1:=hm.to zb
 have i2:=ho.to zb
 have gb:Below W0.heap.size W0 W0:=Below.refl _ _
 obtain ⟨ae,af,ag,am,an,aM,aN⟩:=al.out _ gb
 obtain ⟨ah,ai,ak,au,aw,aR,aS⟩:=bQ.out _ gb
 obtain z0:=bR.out _ gb
 obtain ⟨e0,e1,e2,e3,e4⟩:=(i1.to gb)
 obtain ⟨o0,o1,o2,q0,q1,q2⟩:=(i2.to gb)
 go_wp2_with fail
 have htab:=tab_6
 have hgb:=gb
 go_upto_region 4 with fail
 go_cut [5,6] from 28 (fun s5 s6 wx => zaw W0 (v) s5 wx/\s6=.int .i64 0)
 case first =>
  go_region_held3 (fun W' => W'.cell? ⟨w.heap.size,0,none⟩=some (.int .i64 6)/\W'.cell? ⟨w.heap.size,1,none⟩=some (.int .i64 (T:Int))/\W'.cell? ⟨w.heap.size,2,none⟩=some (.int .i64 xa)/\W'.cell? ⟨w.heap.size,3,none⟩=some (.int .i64 xb)/\W'.cell? ⟨w.heap.size,4,none⟩=some (.bool ng)/\W'.cell? ⟨w.heap.size,5,none⟩=some (.slice a0 n0 c0)/\W'.cell? ⟨w.heap.size,6,none⟩=some (.slice a1 n1 c1)) (first|(with_reducible exact al.out _ gb)|((with_reducible refine al.out _ ?_);repeat' (first|(with_reducible exact gb)|(with_reducible refine Below.drew ?_)|(with_reducible refine bS ?_ (bN _ _))|(with_reducible refine bT ?_ ?_ _ _ _)|(with_reducible exact ay)|(with_reducible exact az)|omega))) (first
   | (go_at_call 38;(refine zf w1 (by with_reducible first|exact Below.refl _ _|exact bN _ _) ?_);intro V2 cH bn;have cS:=bn.size;have cN:=gb.size;have gb:=bS gb bn;(try have ac:=ac.to bn);(try have ap:Tri V2 (w1.heap.size) (.bool false) (.slice none 0 0) (.slice none 0 0):=(by rw [cH];with_reducible first|exact zd _ (.bool false) (.slice none 0 0) (.slice none 0 0) _|exact (zd _ (.bool false) (.slice none 0 0) (.slice none 0 0) _).alloc _));have az:W0.heap.size<=w1.heap.size:=(cN);(try have aH:=ac.lt);(try have aI:=ap.lt);(with_reducible refine (HC.out _ (bS zb gb)).mono ?_);rintro e w2 ⟨ng2,a2_,n2_,c2_,p2_,m2_,k2_,rfl,g2,aL⟩;have gb:=bS gb aL;have da:=aL.size;(try have ac:=ac.to aL);(try have ap:=ap.to aL);(try have bC:=ac.lt);(try have bE:=ap.lt);(try (have aG:=ac;obtain ⟨aU,aV,aW,aX,aY,aZ⟩:=aG));(try (have bj:=ap;obtain ⟨bU,bV,bW,bX,bY,bZ⟩:=bj)))
   | (go_at_call 21;(refine zf W0 (by with_reducible first|exact (Below.refl _ _).drew|exact (bN _ _).drew) ?_);intro V1 cI bP;have cR:=bP.size;have cC:=gb.size;have gb:=bS gb bP;(try have ac:Tri V1 (W0.heap.size) (.bool false) (.slice none 0 0) (.slice none 0 0):=(by rw [cI];with_reducible first|exact (zd _ (.bool false) (.slice none 0 0) (.slice none 0 0) _).drew|exact ((zd _ (.bool false) (.slice none 0 0) (.slice none 0 0) _).alloc _).drew));have ay:W0.heap.size<=W0.heap.size:=(cC);(try have aQ:=ac.lt);(with_reducible refine (zK _).mono ?_);rintro e w1 ⟨rfl,aT⟩;have gb:=bS gb aT;have c8:=aT.size;(try have ac:=ac.to aT);(try have bi:=ac.lt);(try (have aG:=ac;obtain ⟨aU,aV,aW,aX,aY,aZ⟩:=aG))))
  all_goals (go_wp2_with fail;go_meet)
  all_goals refine ⟨?_,rfl⟩
  all_goals first
   | (with_reducible exact zk ac g2 (.inl aH) gb ay)
   | (with_reducible exact zk ap g2 (.inl aI) gb az)
   | (with_reducible exact zG g2 gb)
 case rest =>
 obtain ⟨⟨B3,ng2,a2_,n2_,c2_,p2_,m2_,k2_,lo3,hi3,rfl,hB3,T3,g2,hc3⟩,rfl⟩:=hcut
 clear ae ah af ai ag ak am au an aw aM aR aN aS e0 e1 e2 e3 e4 o0 o1 o2 q0 q1 q2
 have gb:=hc3
 obtain ⟨ae,af,ag,am,an,aM,aN⟩:=al.out _ gb
 obtain ⟨ah,ai,ak,au,aw,aR,aS⟩:=bQ.out _ gb
 obtain z0:=bR.out _ gb
 obtain ⟨e0,e1,e2,e3,e4⟩:=(i1.to gb)
 obtain ⟨o0,o1,o2,q0,q1,q2⟩:=(i2.to gb)
 have z3:=T3.lt
 obtain ⟨b9,cd,ch,ce,cf,ci⟩:=T3
 clear hgb
 obtain ⟨W1,aK⟩:∃ W,wc=W:=⟨_,rfl⟩
 subst aK
 replace i0:=i0.to gb
 replace i1:=i1.to gb
 replace i2:=i2.to gb
 replace zb:=bS zb gb
 have HXwc:=Lib.hid (show ∀ W',Below wc.heap.size wc W'->(Bx7 W' w.heap.size (.int .i64 6) (.int .i64 (T:Int)) (.int .i64 xa) (.int .i64 xb) (.bool ng) (.slice a0 n0 c0) (.slice a1 n1 c1)/\Bx3 W' B3 (.bool ng2) (.slice a2_ n2_ c2_) (.slice p2_ m2_ k2_)) from fun W' hb => by
   refine ⟨bx7 hb ?_ ?_ ?_ ?_ ?_ ?_ ?_ ?_ ?_ ?_ ?_ ?_ ?_ ?_,bx3 hb ?_ ?_ ?_ ?_ ?_ ?_⟩
   all_goals first|assumption|assumption)
 replace gb:=Below.refl wc.heap.size wc
 go_wp2_with fail
 obtain ⟨m,hm9⟩:∃ m:Nat,((max (zc v.num.natAbs).length (zc v.den).length:Nat))=m:=⟨_,rfl⟩
 have HM:=Lib.hid (show ((max (zc v.num.natAbs).length (zc v.den).length:Nat):Int)=(m:Int) by rw [hm9])
 have hm4:4096<m:=by have:=Hs.out;unfold szq at this;rw [ze,ze] at hm9;omega
 have t4:decide (4096<m)=true:=decide_eq_true (by omega)
 have t5:decide ((4096:Int)<(m:Int))=true:=decide_eq_true (by omega)
 clear hm9 hm4
 refine (zx ng2 _ _ _ _ _ (g2.to gb).isF (m:Int) HM.out).mono ?_
 clear ae ah af ai ag ak am au an aw aM aR aN aS b9 ce cd cf ch ci e0 e1 e2 e3 e4 o0 o1 o2 q0 q1 q2
 rintro e w3 ⟨rfl,bM⟩
 replace gb:=bS gb bM
 obtain ⟨⟨z0,ae,af,ag,am,an,aM,aN,ah,ai,ak,au,aw,aR,aS⟩,⟨z3,b9,cd,ch,ce,cf,ci⟩⟩:=HXwc.out _ gb
 obtain ⟨e0,e1,e2,e3,e4⟩:=(i1.to gb)
 obtain ⟨o0,o1,o2,q0,q1,q2⟩:=(i2.to gb)
 go_wp2_with fail
 go_wp2_with fail
 go_ret
 exact ⟨rfl,bS zb gb⟩

theorem zhh (mB g N:Nat) (u vJ:Value) (rows cols:Int) (T:Nat) (xa xb:Int) (ng:Bool) (vn vd:Value) (ln ld:List Nat) (d0 d1 d2:Value) {v:Rat}  (w:World) (hw:IsF w vn vd ln ld) (hm:zy w mB g N u vJ rows cols) (hN:N<=100000) (hT:T<N) (ho:zE w g (T*3) d0 d1 d2) (hs:4096<szq v/\szq v<=4097) (hcall:∀ V,Below w.heap.size w V->Calls Try.prog 39 #[.pointer (some ⟨mB,0,none⟩),.agg #[.int .i64 7,.int .i64 (T:Int),.int .i64 xa,.int .i64 xb,.bool ng,vn,vd]] V (zp V v))  :
  Calls Try.prog 11 #[.pointer (some ⟨mB,0,none⟩),.agg #[.int .i64 7,.int .i64 (T:Int),.int .i64 xa,.int .i64 xb,.bool ng,vn,vd]] w (fun e w' => e=.returned (.int .i64 4)/\Below w.heap.size w w'):=by
 obtain ⟨a0,n0,c0,rfl,H0,hm0⟩:=hw.1.open
 obtain ⟨a1,n1,c1,rfl,H1,hm1⟩:=hw.2.open
 have hTi:(T:Int)<(N:Int):=by omega
 have lm:=hm.lt
 have lo:=ho.lt
 have Hs:=Lib.hid hs
 have HC:=Lib.hid hcall
 clear hs hcall
 go_enter Try.func11,Try.ntmps11
 go_wp2_with fail
 obtain ⟨W0,aq⟩:∃ W0,w.alloc (.cells #[.int .i64 7,.int .i64 (T:Int),.int .i64 xa,.int .i64 xb,.bool ng,.slice a0 n0 c0,.slice a1 n1 c1] 27)=W0:=⟨_,rfl⟩
 have al:=Lib.hid (show ∀ W',Below W0.heap.size W0 W'->(W'.cell? ⟨w.heap.size,0,none⟩=some (.int .i64 7)/\W'.cell? ⟨w.heap.size,1,none⟩=some (.int .i64 (T:Int))/\W'.cell? ⟨w.heap.size,2,none⟩=some (.int .i64 xa)/\W'.cell? ⟨w.heap.size,3,none⟩=some (.int .i64 xb)/\W'.cell? ⟨w.heap.size,4,none⟩=some (.bool ng)/\W'.cell? ⟨w.heap.size,5,none⟩=some (.slice a0 n0 c0)/\W'.cell? ⟨w.heap.size,6,none⟩=some (.slice a1 n1 c1)) from fun W' hb =>
  by and_intros <;> exact kc hb (by first|assumption|(rw [<- aq];simp [go_sem])))
 have bQ:=Lib.hid (show ∀ W',Below W0.heap.size W0 W'->(W'.frozen? ⟨w.heap.size,0,none⟩=false/\W'.frozen? ⟨w.heap.size,1,none⟩=false/\W'.frozen? ⟨w.heap.size,2,none⟩=false/\W'.frozen? ⟨w.heap.size,3,none⟩=false/\W'.frozen? ⟨w.heap.size,4,none⟩=false/\W'.frozen? ⟨w.heap.size,5,none⟩=false/\W'.frozen? ⟨w.heap.size,6,none⟩=false) from fun W' hb =>
  by and_intros <;> refine (hb.frozen ?_).trans ?_ <;> first|assumption|(rw [<- aq];simp [go_sem])|(rw [<- aq];simp <;> omega))
 have bR:=Lib.hid (show ∀ W',Below W0.heap.size W0 W'->(w.heap.size<W'.heap.size) from fun W' hb =>
  Nat.lt_of_lt_of_le (by rw [<- aq];simp <;> omega) hb.size)
 have zb:Below w.heap.size w W0:=by rw [<- aq];exact bN _ _
 rw [aq]
 clear aq
 have i0:=hw.to zb
 have i1:=hm.to zb
 have i2:=ho.to zb
 have gb:Below W0.heap.size W0 W0:=Below.refl _ _
 obtain ⟨ae,af,ag,am,an,aM,aN⟩:=al.out _ gb
 obtain ⟨ah,ai,ak,au,aw,aR,aS⟩:=bQ.out _ gb
 obtain z0:=bR.out _ gb
 obtain ⟨e0,e1,e2,e3,e4⟩:=(i1.to gb)
 obtain ⟨o0,o1,o2,q0,q1,q2⟩:=(i2.to gb)
 go_wp2_with fail
 have htab:=tab_7
 have hgb:=gb
 go_upto_region 4 with fail
 go_cut [5,6] from 28 (fun s5 s6 wx => zaw W0 (v) s5 wx/\s6=.int .i64 0)
 case first =>
  go_region_held3 (fun W' => W'.cell? ⟨w.heap.size,0,none⟩=some (.int .i64 7)/\W'.cell? ⟨w.heap.size,1,none⟩=some (.int .i64 (T:Int))/\W'.cell? ⟨w.heap.size,2,none⟩=some (.int .i64 xa)/\W'.cell? ⟨w.heap.size,3,none⟩=some (.int .i64 xb)/\W'.cell? ⟨w.heap.size,4,none⟩=some (.bool ng)/\W'.cell? ⟨w.heap.size,5,none⟩=some (.slice a0 n0 c0)/\W'.cell? ⟨w.heap.size,6,none⟩=some (.slice a1 n1 c1)) (first|(with_reducible exact al.out _ gb)|((with_reducible refine al.out _ ?_);repeat' (first|(with_reducible exact gb)|(with_reducible refine Below.drew ?_)|(with_reducible refine bS ?_ (bN _ _))|(with_reducible refine bT ?_ ?_ _ _ _)|(with_reducible exact ay)|(with_reducible exact az)|omega))) (first
   | (go_at_call 39;(refine zf w1 (by with_reducible first|exact Below.refl _ _|exact bN _ _) ?_);intro V2 cH bn;have cS:=bn.size;have cN:=gb.size;have gb:=bS gb bn;(try have ac:=ac.to bn);(try have ap:Tri V2 (w1.heap.size) (.bool false) (.slice none 0 0) (.slice none 0 0):=(by rw [cH];with_reducible first|exact zd _ (.bool false) (.slice none 0 0) (.slice none 0 0) _|exact (zd _ (.bool false) (.slice none 0 0) (.slice none 0 0) _).alloc _));have az:W0.heap.size<=w1.heap.size:=(cN);(try have aH:=ac.lt);(try have aI:=ap.lt);(with_reducible refine (HC.out _ (bS zb gb)).mono ?_);rintro e w2 ⟨ng2,a2_,n2_,c2_,p2_,m2_,k2_,rfl,g2,aL⟩;have gb:=bS gb aL;have da:=aL.size;(try have ac:=ac.to aL);(try have ap:=ap.to aL);(try have bC:=ac.lt);(try have bE:=ap.lt);(try (have aG:=ac;obtain ⟨aU,aV,aW,aX,aY,aZ⟩:=aG));(try (have bj:=ap;obtain ⟨bU,bV,bW,bX,bY,bZ⟩:=bj)))
   | (go_at_call 21;(refine zf W0 (by with_reducible first|exact (Below.refl _ _).drew|exact (bN _ _).drew) ?_);intro V1 cI bP;have cR:=bP.size;have cC:=gb.size;have gb:=bS gb bP;(try have ac:Tri V1 (W0.heap.size) (.bool false) (.slice none 0 0) (.slice none 0 0):=(by rw [cI];with_reducible first|exact (zd _ (.bool false) (.slice none 0 0) (.slice none 0 0) _).drew|exact ((zd _ (.bool false) (.slice none 0 0) (.slice none 0 0) _).alloc _).drew));have ay:W0.heap.size<=W0.heap.size:=(cC);(try have aQ:=ac.lt);(with_reducible refine (zK _).mono ?_);rintro e w1 ⟨rfl,aT⟩;have gb:=bS gb aT;have c8:=aT.size;(try have ac:=ac.to aT);(try have bi:=ac.lt);(try (have aG:=ac;obtain ⟨aU,aV,aW,aX,aY,aZ⟩:=aG))))
  all_goals (go_wp2_with fail;go_meet)
  all_goals refine ⟨?_,rfl⟩
  all_goals first
   | (with_reducible exact zk ac g2 (.inl aH) gb ay)
   | (with_reducible exact zk ap g2 (.inl aI) gb az)
   | (with_reducible exact zG g2 gb)
 case rest =>
 obtain ⟨⟨B3,ng2,a2_,n2_,c2_,p2_,m2_,k2_,lo3,hi3,rfl,hB3,T3,g2,hc3⟩,rfl⟩:=hcut
 clear ae ah af ai ag ak am au an aw aM aR aN aS e0 e1 e2 e3 e4 o0 o1 o2 q0 q1 q2
 have gb:=hc3
 obtain ⟨ae,af,ag,am,an,aM,aN⟩:=al.out _ gb
 obtain ⟨ah,ai,ak,au,aw,aR,aS⟩:=bQ.out _ gb
 obtain z0:=bR.out _ gb
 obtain ⟨e0,e1,e2,e3,e4⟩:=(i1.to gb)
 obtain ⟨o0,o1,o2,q0,q1,q2⟩:=(i2.to gb)
 have z3:=T3.lt
 obtain ⟨b9,cd,ch,ce,cf,ci⟩:=T3
 clear hgb
 obtain ⟨W1,aK⟩:∃ W,wc=W:=⟨_,rfl⟩
 subst aK
 replace i0:=i0.to gb
 replace i1:=i1.to gb
 replace i2:=i2.to gb
 replace zb:=bS zb gb
 have HXwc:=Lib.hid (show ∀ W',Below wc.heap.size wc W'->(Bx7 W' w.heap.size (.int .i64 7) (.int .i64 (T:Int)) (.int .i64 xa) (.int .i64 xb) (.bool ng) (.slice a0 n0 c0) (.slice a1 n1 c1)/\Bx3 W' B3 (.bool ng2) (.slice a2_ n2_ c2_) (.slice p2_ m2_ k2_)) from fun W' hb => by
   refine ⟨bx7 hb ?_ ?_ ?_ ?_ ?_ ?_ ?_ ?_ ?_ ?_ ?_ ?_ ?_ ?_,bx3 hb ?_ ?_ ?_ ?_ ?_ ?_⟩
   all_goals first|assumption|assumption)
 replace gb:=Below.refl wc.heap.size wc
 go_wp2_with fail
 obtain ⟨m,hm9⟩:∃ m:Nat,((max (zc v.num.natAbs).length (zc v.den).length:Nat))=m:=⟨_,rfl⟩
 have HM:=Lib.hid (show ((max (zc v.num.natAbs).length (zc v.den).length:Nat):Int)=(m:Int) by rw [hm9])
 have hm4:4096<m:=by have:=Hs.out;unfold szq at this;rw [ze,ze] at hm9;omega
 have t4:decide (4096<m)=true:=decide_eq_true (by omega)
 have t5:decide ((4096:Int)<(m:Int))=true:=decide_eq_true (by omega)
 clear hm9 hm4
 refine (zx ng2 _ _ _ _ _ (g2.to gb).isF (m:Int) HM.out).mono ?_
 clear ae ah af ai ag ak am au an aw aM aR aN aS b9 ce cd cf ch ci e0 e1 e2 e3 e4 o0 o1 o2 q0 q1 q2
 rintro e w3 ⟨rfl,bM⟩
 replace gb:=bS gb bM
 obtain ⟨⟨z0,ae,af,ag,am,an,aM,aN,ah,ai,ak,au,aw,aR,aS⟩,⟨z3,b9,cd,ch,ce,cf,ci⟩⟩:=HXwc.out _ gb
 obtain ⟨e0,e1,e2,e3,e4⟩:=(i1.to gb)
 obtain ⟨o0,o1,o2,q0,q1,q2⟩:=(i2.to gb)
 go_wp2_with fail
 go_wp2_with fail
 go_ret
 exact ⟨rfl,bS zb gb⟩

theorem zhi (mB g N:Nat) (u vJ:Value) (rows cols:Int) (T:Nat) (xa xb:Int) (ng:Bool) (vn vd:Value) (ln ld:List Nat) (d0 d1 d2:Value) {v:Rat}  (w:World) (hw:IsF w vn vd ln ld) (hm:zy w mB g N u vJ rows cols) (hN:N<=100000) (hT:T<N) (ho:zE w g (T*3) d0 d1 d2) (hs:4096<szq v/\szq v<=4097) (hcall:∀ V,Below w.heap.size w V->Calls Try.prog 36 #[.pointer (some ⟨mB,0,none⟩),.agg #[.int .i64 8,.int .i64 (T:Int),.int .i64 xa,.int .i64 xb,.bool ng,vn,vd]] V (zp V v))  :
  Calls Try.prog 11 #[.pointer (some ⟨mB,0,none⟩),.agg #[.int .i64 8,.int .i64 (T:Int),.int .i64 xa,.int .i64 xb,.bool ng,vn,vd]] w (fun e w' => e=.returned (.int .i64 4)/\Below w.heap.size w w'):=by
 obtain ⟨a0,n0,c0,rfl,H0,hm0⟩:=hw.1.open
 obtain ⟨a1,n1,c1,rfl,H1,hm1⟩:=hw.2.open
 have hTi:(T:Int)<(N:Int):=by omega
 have lm:=hm.lt
 have lo:=ho.lt
 have Hs:=Lib.hid hs
 have HC:=Lib.hid hcall
 clear hs hcall
 go_enter Try.func11,Try.ntmps11
 go_wp2_with fail
 obtain ⟨W0,aq⟩:∃ W0,w.alloc (.cells #[.int .i64 8,.int .i64 (T:Int),.int .i64 xa,.int .i64 xb,.bool ng,.slice a0 n0 c0,.slice a1 n1 c1] 27)=W0:=⟨_,rfl⟩
 have al:=Lib.hid (show ∀ W',Below W0.heap.size W0 W'->(W'.cell? ⟨w.heap.size,0,none⟩=some (.int .i64 8)/\W'.cell? ⟨w.heap.size,1,none⟩=some (.int .i64 (T:Int))/\W'.cell? ⟨w.heap.size,2,none⟩=some (.int .i64 xa)/\W'.cell? ⟨w.heap.size,3,none⟩=some (.int .i64 xb)/\W'.cell? ⟨w.heap.size,4,none⟩=some (.bool ng)/\W'.cell? ⟨w.heap.size,5,none⟩=some (.slice a0 n0 c0)/\W'.cell? ⟨w.heap.size,6,none⟩=some (.slice a1 n1 c1)) from fun W' hb =>
  by and_intros <;> exact kc hb (by first|assumption|(rw [<- aq];simp [go_sem])))
 have bQ:=Lib.hid (show ∀ W',Below W0.heap.size W0 W'->(W'.frozen? ⟨w.heap.size,0,none⟩=false/\W'.frozen? ⟨w.heap.size,1,none⟩=false/\W'.frozen? ⟨w.heap.size,2,none⟩=false/\W'.frozen? ⟨w.heap.size,3,none⟩=false/\W'.frozen? ⟨w.heap.size,4,none⟩=false/\W'.frozen? ⟨w.heap.size,5,none⟩=false/\W'.frozen? ⟨w.heap.size,6,none⟩=false) from fun W' hb =>
  by and_intros <;> refine (hb.frozen ?_).trans ?_ <;> first|assumption|(rw [<- aq];simp [go_sem])|(rw [<- aq];simp <;> omega))
 have bR:=Lib.hid (show ∀ W',Below W0.heap.size W0 W'->(w.heap.size<W'.heap.size) from fun W' hb =>
  Nat.lt_of_lt_of_le (by rw [<- aq];simp <;> omega) hb.size)
 have zb:Below w.heap.size w W0:=by rw [<- aq];exact bN _ _
 rw [aq]
 clear aq
 have i0:=hw.to zb
 have i1:=hm.to zb
 have i2:=ho.to zb
 have gb:Below W0.heap.size W0 W0:=Below.refl _ _
 obtain ⟨ae,af,ag,am,an,aM,aN⟩:=al.out _ gb
 obtain ⟨ah,ai,ak,au,aw,aR,aS⟩:=bQ.out _ gb
 obtain z0:=bR.out _ gb
 obtain ⟨e0,e1,e2,e3,e4⟩:=(i1.to gb)
 obtain ⟨o0,o1,o2,q0,q1,q2⟩:=(i2.to gb)
 go_wp2_with fail
 have htab:=tab_8
 have hgb:=gb
 go_upto_region 4 with fail
 go_cut [5,6] from 28 (fun s5 s6 wx => zaw W0 (v) s5 wx/\s6=.int .i64 0)
 case first =>
  go_region_held3 (fun W' => W'.cell? ⟨w.heap.size,0,none⟩=some (.int .i64 8)/\W'.cell? ⟨w.heap.size,1,none⟩=some (.int .i64 (T:Int))/\W'.cell? ⟨w.heap.size,2,none⟩=some (.int .i64 xa)/\W'.cell? ⟨w.heap.size,3,none⟩=some (.int .i64 xb)/\W'.cell? ⟨w.heap.size,4,none⟩=some (.bool ng)/\W'.cell? ⟨w.heap.size,5,none⟩=some (.slice a0 n0 c0)/\W'.cell? ⟨w.heap.size,6,none⟩=some (.slice a1 n1 c1)) (first|(with_reducible exact al.out _ gb)|((with_reducible refine al.out _ ?_);repeat' (first|(with_reducible exact gb)|(with_reducible refine Below.drew ?_)|(with_reducible refine bS ?_ (bN _ _))|(with_reducible refine bT ?_ ?_ _ _ _)|(with_reducible exact ay)|(with_reducible exact az)|omega))) (first
   | (go_at_call 36;(refine zf w1 (by with_reducible first|exact Below.refl _ _|exact bN _ _) ?_);intro V2 cH bn;have cS:=bn.size;have cN:=gb.size;have gb:=bS gb bn;(try have ac:=ac.to bn);(try have ap:Tri V2 (w1.heap.size) (.bool false) (.slice none 0 0) (.slice none 0 0):=(by rw [cH];with_reducible first|exact zd _ (.bool false) (.slice none 0 0) (.slice none 0 0) _|exact (zd _ (.bool false) (.slice none 0 0) (.slice none 0 0) _).alloc _));have az:W0.heap.size<=w1.heap.size:=(cN);(try have aH:=ac.lt);(try have aI:=ap.lt);(with_reducible refine (HC.out _ (bS zb gb)).mono ?_);rintro e w2 ⟨ng2,a2_,n2_,c2_,p2_,m2_,k2_,rfl,g2,aL⟩;have gb:=bS gb aL;have da:=aL.size;(try have ac:=ac.to aL);(try have ap:=ap.to aL);(try have bC:=ac.lt);(try have bE:=ap.lt);(try (have aG:=ac;obtain ⟨aU,aV,aW,aX,aY,aZ⟩:=aG));(try (have bj:=ap;obtain ⟨bU,bV,bW,bX,bY,bZ⟩:=bj)))
   | (go_at_call 21;(refine zf W0 (by with_reducible first|exact (Below.refl _ _).drew|exact (bN _ _).drew) ?_);intro V1 cI bP;have cR:=bP.size;have cC:=gb.size;have gb:=bS gb bP;(try have ac:Tri V1 (W0.heap.size) (.bool false) (.slice none 0 0) (.slice none 0 0):=(by rw [cI];with_reducible first|exact (zd _ (.bool false) (.slice none 0 0) (.slice none 0 0) _).drew|exact ((zd _ (.bool false) (.slice none 0 0) (.slice none 0 0) _).alloc _).drew));have ay:W0.heap.size<=W0.heap.size:=(cC);(try have aQ:=ac.lt);(with_reducible refine (zK _).mono ?_);rintro e w1 ⟨rfl,aT⟩;have gb:=bS gb aT;have c8:=aT.size;(try have ac:=ac.to aT);(try have bi:=ac.lt);(try (have aG:=ac;obtain ⟨aU,aV,aW,aX,aY,aZ⟩:=aG))))
  all_goals (go_wp2_with fail;go_meet)
  all_goals refine ⟨?_,rfl⟩
  all_goals first
   | (with_reducible exact zk ac g2 (.inl aH) gb ay)
   | (with_reducible exact zk ap g2 (.inl aI) gb az)
   | (with_reducible exact zG g2 gb)
 case rest =>
 obtain ⟨⟨B3,ng2,a2_,n2_,c2_,p2_,m2_,k2_,lo3,hi3,rfl,hB3,T3,g2,hc3⟩,rfl⟩:=hcut
 clear ae ah af ai ag ak am au an aw aM aR aN aS e0 e1 e2 e3 e4 o0 o1 o2 q0 q1 q2
 have gb:=hc3
 obtain ⟨ae,af,ag,am,an,aM,aN⟩:=al.out _ gb
 obtain ⟨ah,ai,ak,au,aw,aR,aS⟩:=bQ.out _ gb
 obtain z0:=bR.out _ gb
 obtain ⟨e0,e1,e2,e3,e4⟩:=(i1.to gb)
 obtain ⟨o0,o1,o2,q0,q1,q2⟩:=(i2.to gb)
 have z3:=T3.lt
 obtain ⟨b9,cd,ch,ce,cf,ci⟩:=T3
 clear hgb
 obtain ⟨W1,aK⟩:∃ W,wc=W:=⟨_,rfl⟩
 subst aK
 replace i0:=i0.to gb
 replace i1:=i1.to gb
 replace i2:=i2.to gb
 replace zb:=bS zb gb
 have HXwc:=Lib.hid (show ∀ W',Below wc.heap.size wc W'->(Bx7 W' w.heap.size (.int .i64 8) (.int .i64 (T:Int)) (.int .i64 xa) (.int .i64 xb) (.bool ng) (.slice a0 n0 c0) (.slice a1 n1 c1)/\Bx3 W' B3 (.bool ng2) (.slice a2_ n2_ c2_) (.slice p2_ m2_ k2_)) from fun W' hb => by
   refine ⟨bx7 hb ?_ ?_ ?_ ?_ ?_ ?_ ?_ ?_ ?_ ?_ ?_ ?_ ?_ ?_,bx3 hb ?_ ?_ ?_ ?_ ?_ ?_⟩
   all_goals first|assumption|assumption)
 replace gb:=Below.refl wc.heap.size wc
 go_wp2_with fail
 obtain ⟨m,hm9⟩:∃ m:Nat,((max (zc v.num.natAbs).length (zc v.den).length:Nat))=m:=⟨_,rfl⟩
 have HM:=Lib.hid (show ((max (zc v.num.natAbs).length (zc v.den).length:Nat):Int)=(m:Int) by rw [hm9])
 have hm4:4096<m:=by have:=Hs.out;unfold szq at this;rw [ze,ze] at hm9;omega
 have t4:decide (4096<m)=true:=decide_eq_true (by omega)
 have t5:decide ((4096:Int)<(m:Int))=true:=decide_eq_true (by omega)
 clear hm9 hm4
 refine (zx ng2 _ _ _ _ _ (g2.to gb).isF (m:Int) HM.out).mono ?_
 clear ae ah af ai ag ak am au an aw aM aR aN aS b9 ce cd cf ch ci e0 e1 e2 e3 e4 o0 o1 o2 q0 q1 q2
 rintro e w3 ⟨rfl,bM⟩
 replace gb:=bS gb bM
 obtain ⟨⟨z0,ae,af,ag,am,an,aM,aN,ah,ai,ak,au,aw,aR,aS⟩,⟨z3,b9,cd,ch,ce,cf,ci⟩⟩:=HXwc.out _ gb
 obtain ⟨e0,e1,e2,e3,e4⟩:=(i1.to gb)
 obtain ⟨o0,o1,o2,q0,q1,q2⟩:=(i2.to gb)
 go_wp2_with fail
 go_wp2_with fail
 go_ret
 exact ⟨rfl,bS zb gb⟩

theorem zhj (mB g N:Nat) (u vJ:Value) (rows cols:Int) (T:Nat) (xa xb:Int) (ng:Bool) (vn vd:Value) (ln ld:List Nat) (d0 d1 d2:Value) {v:Rat}  (w:World) (hw:IsF w vn vd ln ld) (hm:zy w mB g N u vJ rows cols) (hN:N<=100000) (hT:T<N) (ho:zE w g (T*3) d0 d1 d2) (hs:4096<szq v/\szq v<=4097) (hcall:∀ V,Below w.heap.size w V->Calls Try.prog 34 #[.pointer (some ⟨mB,0,none⟩),.agg #[.int .i64 9,.int .i64 (T:Int),.int .i64 xa,.int .i64 xb,.bool ng,vn,vd]] V (zp V v))  :
  Calls Try.prog 11 #[.pointer (some ⟨mB,0,none⟩),.agg #[.int .i64 9,.int .i64 (T:Int),.int .i64 xa,.int .i64 xb,.bool ng,vn,vd]] w (fun e w' => e=.returned (.int .i64 4)/\Below w.heap.size w w'):=by
 obtain ⟨a0,n0,c0,rfl,H0,hm0⟩:=hw.1.open
 obtain ⟨a1,n1,c1,rfl,H1,hm1⟩:=hw.2.open
 have hTi:(T:Int)<(N:Int):=by omega
 have lm:=hm.lt
 have lo:=ho.lt
 have Hs:=Lib.hid hs
 have HC:=Lib.hid hcall
 clear hs hcall
 go_enter Try.func11,Try.ntmps11
 go_wp2_with fail
 obtain ⟨W0,aq⟩:∃ W0,w.alloc (.cells #[.int .i64 9,.int .i64 (T:Int),.int .i64 xa,.int .i64 xb,.bool ng,.slice a0 n0 c0,.slice a1 n1 c1] 27)=W0:=⟨_,rfl⟩
 have al:=Lib.hid (show ∀ W',Below W0.heap.size W0 W'->(W'.cell? ⟨w.heap.size,0,none⟩=some (.int .i64 9)/\W'.cell? ⟨w.heap.size,1,none⟩=some (.int .i64 (T:Int))/\W'.cell? ⟨w.heap.size,2,none⟩=some (.int .i64 xa)/\W'.cell? ⟨w.heap.size,3,none⟩=some (.int .i64 xb)/\W'.cell? ⟨w.heap.size,4,none⟩=some (.bool ng)/\W'.cell? ⟨w.heap.size,5,none⟩=some (.slice a0 n0 c0)/\W'.cell? ⟨w.heap.size,6,none⟩=some (.slice a1 n1 c1)) from fun W' hb =>
  by and_intros <;> exact kc hb (by first|assumption|(rw [<- aq];simp [go_sem])))
 have bQ:=Lib.hid (show ∀ W',Below W0.heap.size W0 W'->(W'.frozen? ⟨w.heap.size,0,none⟩=false/\W'.frozen? ⟨w.heap.size,1,none⟩=false/\W'.frozen? ⟨w.heap.size,2,none⟩=false/\W'.frozen? ⟨w.heap.size,3,none⟩=false/\W'.frozen? ⟨w.heap.size,4,none⟩=false/\W'.frozen? ⟨w.heap.size,5,none⟩=false/\W'.frozen? ⟨w.heap.size,6,none⟩=false) from fun W' hb =>
  by and_intros <;> refine (hb.frozen ?_).trans ?_ <;> first|assumption|(rw [<- aq];simp [go_sem])|(rw [<- aq];simp <;> omega))
 have bR:=Lib.hid (show ∀ W',Below W0.heap.size W0 W'->(w.heap.size<W'.heap.size) from fun W' hb =>
  Nat.lt_of_lt_of_le (by rw [<- aq];simp <;> omega) hb.size)
 have zb:Below w.heap.size w W0:=by rw [<- aq];exact bN _ _
 rw [aq]
 clear aq
 have i0:=hw.to zb
 have i1:=hm.to zb
 have i2:=ho.to zb
 have gb:Below W0.heap.size W0 W0:=Below.refl _ _
 obtain ⟨ae,af,ag,am,an,aM,aN⟩:=al.out _ gb
 obtain ⟨ah,ai,ak,au,aw,aR,aS⟩:=bQ.out _ gb
 obtain z0:=bR.out _ gb
 obtain ⟨e0,e1,e2,e3,e4⟩:=(i1.to gb)
 obtain ⟨o0,o1,o2,q0,q1,q2⟩:=(i2.to gb)
 go_wp2_with fail
 have htab:=tab_9
 have hgb:=gb
 go_upto_region 4 with fail
 go_cut [5,6] from 28 (fun s5 s6 wx => zaw W0 (v) s5 wx/\s6=.int .i64 0)
 case first =>
  go_region_held3 (fun W' => W'.cell? ⟨w.heap.size,0,none⟩=some (.int .i64 9)/\W'.cell? ⟨w.heap.size,1,none⟩=some (.int .i64 (T:Int))/\W'.cell? ⟨w.heap.size,2,none⟩=some (.int .i64 xa)/\W'.cell? ⟨w.heap.size,3,none⟩=some (.int .i64 xb)/\W'.cell? ⟨w.heap.size,4,none⟩=some (.bool ng)/\W'.cell? ⟨w.heap.size,5,none⟩=some (.slice a0 n0 c0)/\W'.cell? ⟨w.heap.size,6,none⟩=some (.slice a1 n1 c1)) (first|(with_reducible exact al.out _ gb)|((with_reducible refine al.out _ ?_);repeat' (first|(with_reducible exact gb)|(with_reducible refine Below.drew ?_)|(with_reducible refine bS ?_ (bN _ _))|(with_reducible refine bT ?_ ?_ _ _ _)|(with_reducible exact ay)|(with_reducible exact az)|omega))) (first
   | (go_at_call 34;(refine zf w1 (by with_reducible first|exact Below.refl _ _|exact bN _ _) ?_);intro V2 cH bn;have cS:=bn.size;have cN:=gb.size;have gb:=bS gb bn;(try have ac:=ac.to bn);(try have ap:Tri V2 (w1.heap.size) (.bool false) (.slice none 0 0) (.slice none 0 0):=(by rw [cH];with_reducible first|exact zd _ (.bool false) (.slice none 0 0) (.slice none 0 0) _|exact (zd _ (.bool false) (.slice none 0 0) (.slice none 0 0) _).alloc _));have az:W0.heap.size<=w1.heap.size:=(cN);(try have aH:=ac.lt);(try have aI:=ap.lt);(with_reducible refine (HC.out _ (bS zb gb)).mono ?_);rintro e w2 ⟨ng2,a2_,n2_,c2_,p2_,m2_,k2_,rfl,g2,aL⟩;have gb:=bS gb aL;have da:=aL.size;(try have ac:=ac.to aL);(try have ap:=ap.to aL);(try have bC:=ac.lt);(try have bE:=ap.lt);(try (have aG:=ac;obtain ⟨aU,aV,aW,aX,aY,aZ⟩:=aG));(try (have bj:=ap;obtain ⟨bU,bV,bW,bX,bY,bZ⟩:=bj)))
   | (go_at_call 21;(refine zf W0 (by with_reducible first|exact (Below.refl _ _).drew|exact (bN _ _).drew) ?_);intro V1 cI bP;have cR:=bP.size;have cC:=gb.size;have gb:=bS gb bP;(try have ac:Tri V1 (W0.heap.size) (.bool false) (.slice none 0 0) (.slice none 0 0):=(by rw [cI];with_reducible first|exact (zd _ (.bool false) (.slice none 0 0) (.slice none 0 0) _).drew|exact ((zd _ (.bool false) (.slice none 0 0) (.slice none 0 0) _).alloc _).drew));have ay:W0.heap.size<=W0.heap.size:=(cC);(try have aQ:=ac.lt);(with_reducible refine (zK _).mono ?_);rintro e w1 ⟨rfl,aT⟩;have gb:=bS gb aT;have c8:=aT.size;(try have ac:=ac.to aT);(try have bi:=ac.lt);(try (have aG:=ac;obtain ⟨aU,aV,aW,aX,aY,aZ⟩:=aG))))
  all_goals (go_wp2_with fail;go_meet)
  all_goals refine ⟨?_,rfl⟩
  all_goals first
   | (with_reducible exact zk ac g2 (.inl aH) gb ay)
   | (with_reducible exact zk ap g2 (.inl aI) gb az)
   | (with_reducible exact zG g2 gb)
 case rest =>
 obtain ⟨⟨B3,ng2,a2_,n2_,c2_,p2_,m2_,k2_,lo3,hi3,rfl,hB3,T3,g2,hc3⟩,rfl⟩:=hcut
 clear ae ah af ai ag ak am au an aw aM aR aN aS e0 e1 e2 e3 e4 o0 o1 o2 q0 q1 q2
 have gb:=hc3
 obtain ⟨ae,af,ag,am,an,aM,aN⟩:=al.out _ gb
 obtain ⟨ah,ai,ak,au,aw,aR,aS⟩:=bQ.out _ gb
 obtain z0:=bR.out _ gb
 obtain ⟨e0,e1,e2,e3,e4⟩:=(i1.to gb)
 obtain ⟨o0,o1,o2,q0,q1,q2⟩:=(i2.to gb)
 have z3:=T3.lt
 obtain ⟨b9,cd,ch,ce,cf,ci⟩:=T3
 clear hgb
 obtain ⟨W1,aK⟩:∃ W,wc=W:=⟨_,rfl⟩
 subst aK
 replace i0:=i0.to gb
 replace i1:=i1.to gb
 replace i2:=i2.to gb
 replace zb:=bS zb gb
 have HXwc:=Lib.hid (show ∀ W',Below wc.heap.size wc W'->(Bx7 W' w.heap.size (.int .i64 9) (.int .i64 (T:Int)) (.int .i64 xa) (.int .i64 xb) (.bool ng) (.slice a0 n0 c0) (.slice a1 n1 c1)/\Bx3 W' B3 (.bool ng2) (.slice a2_ n2_ c2_) (.slice p2_ m2_ k2_)) from fun W' hb => by
   refine ⟨bx7 hb ?_ ?_ ?_ ?_ ?_ ?_ ?_ ?_ ?_ ?_ ?_ ?_ ?_ ?_,bx3 hb ?_ ?_ ?_ ?_ ?_ ?_⟩
   all_goals first|assumption|assumption)
 replace gb:=Below.refl wc.heap.size wc
 go_wp2_with fail
 obtain ⟨m,hm9⟩:∃ m:Nat,((max (zc v.num.natAbs).length (zc v.den).length:Nat))=m:=⟨_,rfl⟩
 have HM:=Lib.hid (show ((max (zc v.num.natAbs).length (zc v.den).length:Nat):Int)=(m:Int) by rw [hm9])
 have hm4:4096<m:=by have:=Hs.out;unfold szq at this;rw [ze,ze] at hm9;omega
 have t4:decide (4096<m)=true:=decide_eq_true (by omega)
 have t5:decide ((4096:Int)<(m:Int))=true:=decide_eq_true (by omega)
 clear hm9 hm4
 refine (zx ng2 _ _ _ _ _ (g2.to gb).isF (m:Int) HM.out).mono ?_
 clear ae ah af ai ag ak am au an aw aM aR aN aS b9 ce cd cf ch ci e0 e1 e2 e3 e4 o0 o1 o2 q0 q1 q2
 rintro e w3 ⟨rfl,bM⟩
 replace gb:=bS gb bM
 obtain ⟨⟨z0,ae,af,ag,am,an,aM,aN,ah,ai,ak,au,aw,aR,aS⟩,⟨z3,b9,cd,ch,ce,cf,ci⟩⟩:=HXwc.out _ gb
 obtain ⟨e0,e1,e2,e3,e4⟩:=(i1.to gb)
 obtain ⟨o0,o1,o2,q0,q1,q2⟩:=(i2.to gb)
 go_wp2_with fail
 go_wp2_with fail
 go_ret
 exact ⟨rfl,bS zb gb⟩

end Go.Proofs.Ytkjcdnlpjldhaaa


namespace Go.Proofs.Ytkjcdnlpjldhaaa
open Go.RowKit Tw

def zai (w:World) (g h:Nat) (op to o:Int) (v:Rat) (e:Ending) (w':World):Prop :=
 (o≠0/\e=.returned (.int .i64 o)/\Below w.heap.size w w')\/(o=0/\∃ T:Nat,to=(T:Int)/\zbU w (if op=10 then h else g) (T*3) v e w')

theorem zaK {w:World} {g N:Nat} {L:List Int} {R:Int->Rat} (hR:zL w g N (fun r => (r:Int) ∈ L) (fun r => R r)) (hL:∀ r ∈ L,0<=r/\r<(N:Int)) {a:Int} (ha:a ∈ L) :
  ∃ (A:Nat) (ng:Bool) (v u:Value),a=(A:Int)/\A<N/\zaW w g (A*3) (.bool ng) v u/\IsK w ng v u (R a):=by
 obtain ⟨A,rfl⟩:=Int.eq_ofNat_of_zero_le (hL a ha).1
 have hA:A<N:=by have:=(hL _ ha).2;omega
 obtain ⟨b,a1,n,c,a',n',c',o1,k1⟩:=hR A hA
 exact ⟨A,b,_,_,rfl,hA,⟨o1.1,o1.2.1,o1.2.2.1⟩,k1 ha⟩

theorem zaD {p:List Rat} {R:Int->Rat} {x:Ins} (h:opE R x=0) (h':szq (opV p R x)<=4096):zB p R x=0:=by
 unfold zB
 rw [if_neg (by rw [h];decide),if_neg (by omega)]

theorem zid {p:List Rat} {R:Int->Rat} {x:Ins} (h:opE R x=0) (h':x.op=10):zB p R x=0:=by
 unfold zB
 rw [if_neg (by rw [h];decide),if_neg (fun k => k.1 h')]

theorem zaf {p:List Rat} {R:Int->Rat} {x:Ins} (h:opE R x=0) (h1:x.op≠10) (h':4096<szq (opV p R x)):zB p R x=4:=by
 unfold zB
 rw [if_neg (by rw [h];decide),if_pos ⟨h1,h'⟩]

theorem zbP {n:Nat} (f:n<=4097):n<=4096\/(4096<n/\n<=4097):=by
 rcases Nat.lt_or_ge 4096 n with h|h
 ·exact .inr ⟨h,f⟩
 ·exact .inl h

theorem zdI {p:List Rat} {R:Int->Rat} {x:Ins} (h:opE R x≠0):zB p R x=opE R x:=by
 unfold zB
 rw [if_pos h]

theorem zaS {R:Int->Rat} {x:Ins} (h5:x.op≠5) (h7:x.op≠7):opE R x=0:=by
 unfold opE
 rw [if_neg h5,if_neg h7]

theorem zix {p:List Rat} {R:Int->Rat} {x:Ins} (h:x.op=2\/x.op=9):opV p R x=R x.a+R x.b:=by
 unfold opV
 rcases h with h|h <;> rw [h] <;> simp

theorem opV_sub {p:List Rat} {R:Int->Rat} {x:Ins} (h:x.op=3):opV p R x=R x.a - R x.b:=by
 unfold opV
 rw [h];simp

theorem ziy {p:List Rat} {R:Int->Rat} {x:Ins} (h:x.op=4\/x.op=8):opV p R x=R x.a*R x.b:=by
 unfold opV
 rcases h with h|h <;> rw [h] <;> simp

theorem opV_div {p:List Rat} {R:Int->Rat} {x:Ins} (h:x.op=5):opV p R x=R x.a / R x.b:=by
 unfold opV
 rw [h];simp

theorem ziA {p:List Rat} {R:Int->Rat} {x:Ins} (h:x.op=7):opV p R x=if x.b<0 then (R x.a ^ x.b.natAbs)⁻¹ else R x.a ^ x.b.natAbs:=by
 unfold opV
 rw [h];simp

theorem opE_div {R:Int->Rat} {x:Ins} (h:x.op=5):opE R x=if R x.b=0 then 3 else 0:=by
 unfold opE
 rw [if_pos h]

theorem ziw {R:Int->Rat} {x:Ins} (h:x.op=7):opE R x=if R x.a=0/\x.b<0 then 3 else if 4096<szq (R x.a)*x.b.natAbs then 4 else 0:=by
 unfold opE
 rw [if_neg (by omega),if_pos h]

theorem insOk_in {c:Cd} {L:List Int} {x:Ins} (h:zw c L x=true) (h1:x.op=0):0<=x.a/\x.a<c.ins:=by
 unfold zw aOk at h
 rw [if_pos h1] at h
 simp only [Bool.and_eq_true,decide_eq_true_eq] at h
 exact h.1.1.2

theorem zhq (c:Cd) (L:List Int) (R J:Int->Rat) (op to a b:Int) (ng:Bool) (vn vd:Value) (ln ld:List Nat) (mB g N h M cj n1 c1:Nat) (a1:Option Addr) (rows cols:Int) (xs:List Rt) (w:World) (hX:IsX w ⟨op,to,a,b,⟨ng,ln,ld⟩⟩ vn vd) (hok:zw c L ⟨op,to,a,b,⟨ng,ln,ld⟩⟩=true) (hL:∀ r ∈ L,0<=r/\r<(N:Int)) (hreg:c.regs=(N:Int)) (hins:c.ins=(n1:Int)) (hMM:c.rows*c.cols=(M:Int))
  (hm:zy w mB g N (.slice a1 n1 c1) (.slice (some ⟨h,0,none⟩) M cj) rows cols) (hN:N<=100000) (hM1:M<=100000) (hR:zL w g N (fun r => (r:Int) ∈ L) (fun r => R r)) (hJ:zL w h M (fun _ => True) (fun r => J r)) (nh1:h≠g) (nh2:h≠mB)
  (hx:RdR w (.slice a1 n1 c1) xs) (hxl:xs.length=n1) (hxm:n1<=maxLen) (hxs:∀ x ∈ xs,x.n.length<=4097/\x.d.length<=4097) (fit:opE R ⟨op,to,a,b,⟨ng,ln,ld⟩⟩=0->szq (opV (xs.map Rt.num) R ⟨op,to,a,b,⟨ng,ln,ld⟩⟩)<=4097/\(op=7->szq (R a)*b.natAbs<4097)) (hk:op=2) :
  Calls Try.prog 11 #[.pointer (some ⟨mB,0,none⟩),.agg #[.int .i64 op,.int .i64 to,.int .i64 a,.int .i64 b,.bool ng,vn,vd]] w (zai w g h op to (zB (xs.map Rt.num) R ⟨op,to,a,b,⟨ng,ln,ld⟩⟩) (opV (xs.map Rt.num) R ⟨op,to,a,b,⟨ng,ln,ld⟩⟩)):=by
 have hto:=zY hok
 have ha:=fun h1 => zR hok h1
 have hb:=fun h1 => zaE hok h1
 simp only at hto ha hb
 subst hk
 have eto:zJ c ⟨2,to,a,b,⟨ng,ln,ld⟩⟩=(N:Int):=by rw [<- hreg];exact if_neg (show ¬ ((2:Int)=10) by decide)
 rw [eto] at hto
 obtain ⟨T,rfl⟩:=Int.eq_ofNat_of_zero_le hto.1
 have hT:T<N:=by omega
 obtain ⟨b0,e1,e2,e3,e4,e5,e6,o1,_⟩:=hR T hT
 have hw:=hX.1.isF
 obtain ⟨A,na,va,ua,rfl,hA,ta,ka⟩:=zaK hR hL (ha (by decide))
 obtain ⟨Bb,nb,vb,ub,rfl,hB,tb,kb⟩:=zaK hR hL (hb (by decide))
 have e0:opE R ⟨2,(T:Int),(A:Int),(Bb:Int),⟨ng,ln,ld⟩⟩=0:=zaS (by show (2:Int)≠5;decide) (by show (2:Int)≠7;decide)
 have f:=(fit e0).1
 have ev:=(zix (p:=xs.map Rt.num) (R:=R) (x:=⟨2,(T:Int),(A:Int),(Bb:Int),⟨ng,ln,ld⟩⟩) (.inl rfl))
 rw [ev] at f
 rcases zbP f with h4|h4
 ·refine (zig mB g N _ _ rows cols T _ _ ng vn vd ln ld _ _ _ w hw hm hN hT o1 h4 (fun V hV => zcV mB g N _ _ rows cols _ _ ng vn vd ln ld A na va ua _ _ Bb nb vb ub _ _ V (hw.to hV) (hm.to hV) hN hA (ta.to hV) (ka.to hV).1 hB (tb.to hV) (kb.to hV).1 _ rfl f)).mono ?_
  intro e w' hs
  refine .inr ⟨zaD e0 (by rw [ev];exact h4),T,rfl,?_⟩
  rw [ev]
  exact hs
 ·refine (zhc mB g N _ _ rows cols T _ _ ng vn vd ln ld _ _ _ w hw hm hN hT o1 h4 (fun V hV => zcV mB g N _ _ rows cols _ _ ng vn vd ln ld A na va ua _ _ Bb nb vb ub _ _ V (hw.to hV) (hm.to hV) hN hA (ta.to hV) (ka.to hV).1 hB (tb.to hV) (kb.to hV).1 _ rfl f)).mono ?_
  intro e w' hs
  have es:=zaf (p:=xs.map Rt.num) e0 (show (2:Int)≠10 by decide) (by rw [ev];exact h4.1)
  rw [es]
  exact .inl ⟨by decide,hs.1,hs.2⟩

theorem zgn (c:Cd) (L:List Int) (R J:Int->Rat) (op to a b:Int) (ng:Bool) (vn vd:Value) (ln ld:List Nat) (mB g N h M cj n1 c1:Nat) (a1:Option Addr) (rows cols:Int) (xs:List Rt) (w:World) (hX:IsX w ⟨op,to,a,b,⟨ng,ln,ld⟩⟩ vn vd) (hok:zw c L ⟨op,to,a,b,⟨ng,ln,ld⟩⟩=true) (hL:∀ r ∈ L,0<=r/\r<(N:Int)) (hreg:c.regs=(N:Int)) (hins:c.ins=(n1:Int)) (hMM:c.rows*c.cols=(M:Int))
  (hm:zy w mB g N (.slice a1 n1 c1) (.slice (some ⟨h,0,none⟩) M cj) rows cols) (hN:N<=100000) (hM1:M<=100000) (hR:zL w g N (fun r => (r:Int) ∈ L) (fun r => R r)) (hJ:zL w h M (fun _ => True) (fun r => J r)) (nh1:h≠g) (nh2:h≠mB)
  (hx:RdR w (.slice a1 n1 c1) xs) (hxl:xs.length=n1) (hxm:n1<=maxLen) (hxs:∀ x ∈ xs,x.n.length<=4097/\x.d.length<=4097) (fit:opE R ⟨op,to,a,b,⟨ng,ln,ld⟩⟩=0->szq (opV (xs.map Rt.num) R ⟨op,to,a,b,⟨ng,ln,ld⟩⟩)<=4097/\(op=7->szq (R a)*b.natAbs<4097)) (hk:op=9) :
  Calls Try.prog 11 #[.pointer (some ⟨mB,0,none⟩),.agg #[.int .i64 op,.int .i64 to,.int .i64 a,.int .i64 b,.bool ng,vn,vd]] w (zai w g h op to (zB (xs.map Rt.num) R ⟨op,to,a,b,⟨ng,ln,ld⟩⟩) (opV (xs.map Rt.num) R ⟨op,to,a,b,⟨ng,ln,ld⟩⟩)):=by
 have hto:=zY hok
 have ha:=fun h1 => zR hok h1
 have hb:=fun h1 => zaE hok h1
 simp only at hto ha hb
 subst hk
 have eto:zJ c ⟨9,to,a,b,⟨ng,ln,ld⟩⟩=(N:Int):=by rw [<- hreg];exact if_neg (show ¬ ((9:Int)=10) by decide)
 rw [eto] at hto
 obtain ⟨T,rfl⟩:=Int.eq_ofNat_of_zero_le hto.1
 have hT:T<N:=by omega
 obtain ⟨b0,e1,e2,e3,e4,e5,e6,o1,_⟩:=hR T hT
 have hw:=hX.1.isF
 obtain ⟨A,na,va,ua,rfl,hA,ta,ka⟩:=zaK hR hL (ha (by decide))
 obtain ⟨Bb,nb,vb,ub,rfl,hB,tb,kb⟩:=zaK hR hL (hb (by decide))
 have e0:opE R ⟨9,(T:Int),(A:Int),(Bb:Int),⟨ng,ln,ld⟩⟩=0:=zaS (by show (9:Int)≠5;decide) (by show (9:Int)≠7;decide)
 have f:=(fit e0).1
 have ev:=(zix (p:=xs.map Rt.num) (R:=R) (x:=⟨9,(T:Int),(A:Int),(Bb:Int),⟨ng,ln,ld⟩⟩) (.inr rfl))
 rw [ev] at f
 rcases zbP f with h4|h4
 ·refine (zin mB g N _ _ rows cols T _ _ ng vn vd ln ld _ _ _ w hw hm hN hT o1 h4 (fun V hV => zcV mB g N _ _ rows cols _ _ ng vn vd ln ld A na va ua _ _ Bb nb vb ub _ _ V (hw.to hV) (hm.to hV) hN hA (ta.to hV) (ka.to hV).1 hB (tb.to hV) (kb.to hV).1 _ rfl f)).mono ?_
  intro e w' hs
  refine .inr ⟨zaD e0 (by rw [ev];exact h4),T,rfl,?_⟩
  rw [ev]
  exact hs
 ·refine (zhj mB g N _ _ rows cols T _ _ ng vn vd ln ld _ _ _ w hw hm hN hT o1 h4 (fun V hV => zcV mB g N _ _ rows cols _ _ ng vn vd ln ld A na va ua _ _ Bb nb vb ub _ _ V (hw.to hV) (hm.to hV) hN hA (ta.to hV) (ka.to hV).1 hB (tb.to hV) (kb.to hV).1 _ rfl f)).mono ?_
  intro e w' hs
  have es:=zaf (p:=xs.map Rt.num) e0 (show (9:Int)≠10 by decide) (by rw [ev];exact h4.1)
  rw [es]
  exact .inl ⟨by decide,hs.1,hs.2⟩

theorem zhv (c:Cd) (L:List Int) (R J:Int->Rat) (op to a b:Int) (ng:Bool) (vn vd:Value) (ln ld:List Nat) (mB g N h M cj n1 c1:Nat) (a1:Option Addr) (rows cols:Int) (xs:List Rt) (w:World) (hX:IsX w ⟨op,to,a,b,⟨ng,ln,ld⟩⟩ vn vd) (hok:zw c L ⟨op,to,a,b,⟨ng,ln,ld⟩⟩=true) (hL:∀ r ∈ L,0<=r/\r<(N:Int)) (hreg:c.regs=(N:Int)) (hins:c.ins=(n1:Int)) (hMM:c.rows*c.cols=(M:Int))
  (hm:zy w mB g N (.slice a1 n1 c1) (.slice (some ⟨h,0,none⟩) M cj) rows cols) (hN:N<=100000) (hM1:M<=100000) (hR:zL w g N (fun r => (r:Int) ∈ L) (fun r => R r)) (hJ:zL w h M (fun _ => True) (fun r => J r)) (nh1:h≠g) (nh2:h≠mB)
  (hx:RdR w (.slice a1 n1 c1) xs) (hxl:xs.length=n1) (hxm:n1<=maxLen) (hxs:∀ x ∈ xs,x.n.length<=4097/\x.d.length<=4097) (fit:opE R ⟨op,to,a,b,⟨ng,ln,ld⟩⟩=0->szq (opV (xs.map Rt.num) R ⟨op,to,a,b,⟨ng,ln,ld⟩⟩)<=4097/\(op=7->szq (R a)*b.natAbs<4097)) (hk:op=3) :
  Calls Try.prog 11 #[.pointer (some ⟨mB,0,none⟩),.agg #[.int .i64 op,.int .i64 to,.int .i64 a,.int .i64 b,.bool ng,vn,vd]] w (zai w g h op to (zB (xs.map Rt.num) R ⟨op,to,a,b,⟨ng,ln,ld⟩⟩) (opV (xs.map Rt.num) R ⟨op,to,a,b,⟨ng,ln,ld⟩⟩)):=by
 have hto:=zY hok
 have ha:=fun h1 => zR hok h1
 have hb:=fun h1 => zaE hok h1
 simp only at hto ha hb
 subst hk
 have eto:zJ c ⟨3,to,a,b,⟨ng,ln,ld⟩⟩=(N:Int):=by rw [<- hreg];exact if_neg (show ¬ ((3:Int)=10) by decide)
 rw [eto] at hto
 obtain ⟨T,rfl⟩:=Int.eq_ofNat_of_zero_le hto.1
 have hT:T<N:=by omega
 obtain ⟨b0,e1,e2,e3,e4,e5,e6,o1,_⟩:=hR T hT
 have hw:=hX.1.isF
 obtain ⟨A,na,va,ua,rfl,hA,ta,ka⟩:=zaK hR hL (ha (by decide))
 obtain ⟨Bb,nb,vb,ub,rfl,hB,tb,kb⟩:=zaK hR hL (hb (by decide))
 have e0:opE R ⟨3,(T:Int),(A:Int),(Bb:Int),⟨ng,ln,ld⟩⟩=0:=zaS (by show (3:Int)≠5;decide) (by show (3:Int)≠7;decide)
 have f:=(fit e0).1
 have ev:=(opV_sub (p:=xs.map Rt.num) (R:=R) (x:=⟨3,(T:Int),(A:Int),(Bb:Int),⟨ng,ln,ld⟩⟩) rfl)
 rw [ev] at f
 rcases zbP f with h4|h4
 ·refine (zih mB g N _ _ rows cols T _ _ ng vn vd ln ld _ _ _ w hw hm hN hT o1 h4 (fun V hV => zgK mB g N _ _ rows cols _ _ ng vn vd ln ld A na va ua _ _ Bb nb vb ub _ _ V (hw.to hV) (hm.to hV) hN hA (ta.to hV) (ka.to hV).1 hB (tb.to hV) (kb.to hV).1 _ rfl f)).mono ?_
  intro e w' hs
  refine .inr ⟨zaD e0 (by rw [ev];exact h4),T,rfl,?_⟩
  rw [ev]
  exact hs
 ·refine (zhd mB g N _ _ rows cols T _ _ ng vn vd ln ld _ _ _ w hw hm hN hT o1 h4 (fun V hV => zgK mB g N _ _ rows cols _ _ ng vn vd ln ld A na va ua _ _ Bb nb vb ub _ _ V (hw.to hV) (hm.to hV) hN hA (ta.to hV) (ka.to hV).1 hB (tb.to hV) (kb.to hV).1 _ rfl f)).mono ?_
  intro e w' hs
  have es:=zaf (p:=xs.map Rt.num) e0 (show (3:Int)≠10 by decide) (by rw [ev];exact h4.1)
  rw [es]
  exact .inl ⟨by decide,hs.1,hs.2⟩

theorem zhs (c:Cd) (L:List Int) (R J:Int->Rat) (op to a b:Int) (ng:Bool) (vn vd:Value) (ln ld:List Nat) (mB g N h M cj n1 c1:Nat) (a1:Option Addr) (rows cols:Int) (xs:List Rt) (w:World) (hX:IsX w ⟨op,to,a,b,⟨ng,ln,ld⟩⟩ vn vd) (hok:zw c L ⟨op,to,a,b,⟨ng,ln,ld⟩⟩=true) (hL:∀ r ∈ L,0<=r/\r<(N:Int)) (hreg:c.regs=(N:Int)) (hins:c.ins=(n1:Int)) (hMM:c.rows*c.cols=(M:Int))
  (hm:zy w mB g N (.slice a1 n1 c1) (.slice (some ⟨h,0,none⟩) M cj) rows cols) (hN:N<=100000) (hM1:M<=100000) (hR:zL w g N (fun r => (r:Int) ∈ L) (fun r => R r)) (hJ:zL w h M (fun _ => True) (fun r => J r)) (nh1:h≠g) (nh2:h≠mB)
  (hx:RdR w (.slice a1 n1 c1) xs) (hxl:xs.length=n1) (hxm:n1<=maxLen) (hxs:∀ x ∈ xs,x.n.length<=4097/\x.d.length<=4097) (fit:opE R ⟨op,to,a,b,⟨ng,ln,ld⟩⟩=0->szq (opV (xs.map Rt.num) R ⟨op,to,a,b,⟨ng,ln,ld⟩⟩)<=4097/\(op=7->szq (R a)*b.natAbs<4097)) (hk:op=4) :
  Calls Try.prog 11 #[.pointer (some ⟨mB,0,none⟩),.agg #[.int .i64 op,.int .i64 to,.int .i64 a,.int .i64 b,.bool ng,vn,vd]] w (zai w g h op to (zB (xs.map Rt.num) R ⟨op,to,a,b,⟨ng,ln,ld⟩⟩) (opV (xs.map Rt.num) R ⟨op,to,a,b,⟨ng,ln,ld⟩⟩)):=by
 have hto:=zY hok
 have ha:=fun h1 => zR hok h1
 have hb:=fun h1 => zaE hok h1
 simp only at hto ha hb
 subst hk
 have eto:zJ c ⟨4,to,a,b,⟨ng,ln,ld⟩⟩=(N:Int):=by rw [<- hreg];exact if_neg (show ¬ ((4:Int)=10) by decide)
 rw [eto] at hto
 obtain ⟨T,rfl⟩:=Int.eq_ofNat_of_zero_le hto.1
 have hT:T<N:=by omega
 obtain ⟨b0,e1,e2,e3,e4,e5,e6,o1,_⟩:=hR T hT
 have hw:=hX.1.isF
 obtain ⟨A,na,va,ua,rfl,hA,ta,ka⟩:=zaK hR hL (ha (by decide))
 obtain ⟨Bb,nb,vb,ub,rfl,hB,tb,kb⟩:=zaK hR hL (hb (by decide))
 have e0:opE R ⟨4,(T:Int),(A:Int),(Bb:Int),⟨ng,ln,ld⟩⟩=0:=zaS (by show (4:Int)≠5;decide) (by show (4:Int)≠7;decide)
 have f:=(fit e0).1
 have ev:=(ziy (p:=xs.map Rt.num) (R:=R) (x:=⟨4,(T:Int),(A:Int),(Bb:Int),⟨ng,ln,ld⟩⟩) (.inl rfl))
 rw [ev] at f
 rcases zbP f with h4|h4
 ·refine (zii mB g N _ _ rows cols T _ _ ng vn vd ln ld _ _ _ w hw hm hN hT o1 h4 (fun V hV => zcW mB g N _ _ rows cols _ _ ng vn vd ln ld A na va ua _ _ Bb nb vb ub _ _ V (hw.to hV) (hm.to hV) hN hA (ta.to hV) (ka.to hV).1 hB (tb.to hV) (kb.to hV).1 _ rfl f)).mono ?_
  intro e w' hs
  refine .inr ⟨zaD e0 (by rw [ev];exact h4),T,rfl,?_⟩
  rw [ev]
  exact hs
 ·refine (zhe mB g N _ _ rows cols T _ _ ng vn vd ln ld _ _ _ w hw hm hN hT o1 h4 (fun V hV => zcW mB g N _ _ rows cols _ _ ng vn vd ln ld A na va ua _ _ Bb nb vb ub _ _ V (hw.to hV) (hm.to hV) hN hA (ta.to hV) (ka.to hV).1 hB (tb.to hV) (kb.to hV).1 _ rfl f)).mono ?_
  intro e w' hs
  have es:=zaf (p:=xs.map Rt.num) e0 (show (4:Int)≠10 by decide) (by rw [ev];exact h4.1)
  rw [es]
  exact .inl ⟨by decide,hs.1,hs.2⟩

theorem zfi (c:Cd) (L:List Int) (R J:Int->Rat) (op to a b:Int) (ng:Bool) (vn vd:Value) (ln ld:List Nat) (mB g N h M cj n1 c1:Nat) (a1:Option Addr) (rows cols:Int) (xs:List Rt) (w:World) (hX:IsX w ⟨op,to,a,b,⟨ng,ln,ld⟩⟩ vn vd) (hok:zw c L ⟨op,to,a,b,⟨ng,ln,ld⟩⟩=true) (hL:∀ r ∈ L,0<=r/\r<(N:Int)) (hreg:c.regs=(N:Int)) (hins:c.ins=(n1:Int)) (hMM:c.rows*c.cols=(M:Int))
  (hm:zy w mB g N (.slice a1 n1 c1) (.slice (some ⟨h,0,none⟩) M cj) rows cols) (hN:N<=100000) (hM1:M<=100000) (hR:zL w g N (fun r => (r:Int) ∈ L) (fun r => R r)) (hJ:zL w h M (fun _ => True) (fun r => J r)) (nh1:h≠g) (nh2:h≠mB)
  (hx:RdR w (.slice a1 n1 c1) xs) (hxl:xs.length=n1) (hxm:n1<=maxLen) (hxs:∀ x ∈ xs,x.n.length<=4097/\x.d.length<=4097) (fit:opE R ⟨op,to,a,b,⟨ng,ln,ld⟩⟩=0->szq (opV (xs.map Rt.num) R ⟨op,to,a,b,⟨ng,ln,ld⟩⟩)<=4097/\(op=7->szq (R a)*b.natAbs<4097)) (hk:op=8) :
  Calls Try.prog 11 #[.pointer (some ⟨mB,0,none⟩),.agg #[.int .i64 op,.int .i64 to,.int .i64 a,.int .i64 b,.bool ng,vn,vd]] w (zai w g h op to (zB (xs.map Rt.num) R ⟨op,to,a,b,⟨ng,ln,ld⟩⟩) (opV (xs.map Rt.num) R ⟨op,to,a,b,⟨ng,ln,ld⟩⟩)):=by
 have hto:=zY hok
 have ha:=fun h1 => zR hok h1
 have hb:=fun h1 => zaE hok h1
 simp only at hto ha hb
 subst hk
 have eto:zJ c ⟨8,to,a,b,⟨ng,ln,ld⟩⟩=(N:Int):=by rw [<- hreg];exact if_neg (show ¬ ((8:Int)=10) by decide)
 rw [eto] at hto
 obtain ⟨T,rfl⟩:=Int.eq_ofNat_of_zero_le hto.1
 have hT:T<N:=by omega
 obtain ⟨b0,e1,e2,e3,e4,e5,e6,o1,_⟩:=hR T hT
 have hw:=hX.1.isF
 obtain ⟨A,na,va,ua,rfl,hA,ta,ka⟩:=zaK hR hL (ha (by decide))
 obtain ⟨Bb,nb,vb,ub,rfl,hB,tb,kb⟩:=zaK hR hL (hb (by decide))
 have e0:opE R ⟨8,(T:Int),(A:Int),(Bb:Int),⟨ng,ln,ld⟩⟩=0:=zaS (by show (8:Int)≠5;decide) (by show (8:Int)≠7;decide)
 have f:=(fit e0).1
 have ev:=(ziy (p:=xs.map Rt.num) (R:=R) (x:=⟨8,(T:Int),(A:Int),(Bb:Int),⟨ng,ln,ld⟩⟩) (.inr rfl))
 rw [ev] at f
 rcases zbP f with h4|h4
 ·refine (zim mB g N _ _ rows cols T _ _ ng vn vd ln ld _ _ _ w hw hm hN hT o1 h4 (fun V hV => zcW mB g N _ _ rows cols _ _ ng vn vd ln ld A na va ua _ _ Bb nb vb ub _ _ V (hw.to hV) (hm.to hV) hN hA (ta.to hV) (ka.to hV).1 hB (tb.to hV) (kb.to hV).1 _ rfl f)).mono ?_
  intro e w' hs
  refine .inr ⟨zaD e0 (by rw [ev];exact h4),T,rfl,?_⟩
  rw [ev]
  exact hs
 ·refine (zhi mB g N _ _ rows cols T _ _ ng vn vd ln ld _ _ _ w hw hm hN hT o1 h4 (fun V hV => zcW mB g N _ _ rows cols _ _ ng vn vd ln ld A na va ua _ _ Bb nb vb ub _ _ V (hw.to hV) (hm.to hV) hN hA (ta.to hV) (ka.to hV).1 hB (tb.to hV) (kb.to hV).1 _ rfl f)).mono ?_
  intro e w' hs
  have es:=zaf (p:=xs.map Rt.num) e0 (show (8:Int)≠10 by decide) (by rw [ev];exact h4.1)
  rw [es]
  exact .inl ⟨by decide,hs.1,hs.2⟩

theorem zht (c:Cd) (L:List Int) (R J:Int->Rat) (op to a b:Int) (ng:Bool) (vn vd:Value) (ln ld:List Nat) (mB g N h M cj n1 c1:Nat) (a1:Option Addr) (rows cols:Int) (xs:List Rt) (w:World) (hX:IsX w ⟨op,to,a,b,⟨ng,ln,ld⟩⟩ vn vd) (hok:zw c L ⟨op,to,a,b,⟨ng,ln,ld⟩⟩=true) (hL:∀ r ∈ L,0<=r/\r<(N:Int)) (hreg:c.regs=(N:Int)) (hins:c.ins=(n1:Int)) (hMM:c.rows*c.cols=(M:Int))
  (hm:zy w mB g N (.slice a1 n1 c1) (.slice (some ⟨h,0,none⟩) M cj) rows cols) (hN:N<=100000) (hM1:M<=100000) (hR:zL w g N (fun r => (r:Int) ∈ L) (fun r => R r)) (hJ:zL w h M (fun _ => True) (fun r => J r)) (nh1:h≠g) (nh2:h≠mB)
  (hx:RdR w (.slice a1 n1 c1) xs) (hxl:xs.length=n1) (hxm:n1<=maxLen) (hxs:∀ x ∈ xs,x.n.length<=4097/\x.d.length<=4097) (fit:opE R ⟨op,to,a,b,⟨ng,ln,ld⟩⟩=0->szq (opV (xs.map Rt.num) R ⟨op,to,a,b,⟨ng,ln,ld⟩⟩)<=4097/\(op=7->szq (R a)*b.natAbs<4097)) (hk:op=6) :
  Calls Try.prog 11 #[.pointer (some ⟨mB,0,none⟩),.agg #[.int .i64 op,.int .i64 to,.int .i64 a,.int .i64 b,.bool ng,vn,vd]] w (zai w g h op to (zB (xs.map Rt.num) R ⟨op,to,a,b,⟨ng,ln,ld⟩⟩) (opV (xs.map Rt.num) R ⟨op,to,a,b,⟨ng,ln,ld⟩⟩)):=by
 have hto:=zY hok
 have ha:=fun h1 => zR hok h1
 have hb:=fun h1 => zaE hok h1
 simp only at hto ha hb
 subst hk
 have eto:zJ c ⟨6,to,a,b,⟨ng,ln,ld⟩⟩=(N:Int):=by rw [<- hreg];exact if_neg (show ¬ ((6:Int)=10) by decide)
 rw [eto] at hto
 obtain ⟨T,rfl⟩:=Int.eq_ofNat_of_zero_le hto.1
 have hT:T<N:=by omega
 obtain ⟨b0,e1,e2,e3,e4,e5,e6,o1,_⟩:=hR T hT
 have hw:=hX.1.isF
 obtain ⟨A,na,va,ua,rfl,hA,ta,ka⟩:=zaK hR hL (ha (by decide))
 have e0:opE R ⟨6,(T:Int),(A:Int),b,⟨ng,ln,ld⟩⟩=0:=zaS (by show (6:Int)≠5;decide) (by show (6:Int)≠7;decide)
 have f:=(fit e0).1
 have ev:=ziB (p:=xs.map Rt.num) (R:=R) (x:=⟨6,(T:Int),(A:Int),b,⟨ng,ln,ld⟩⟩) rfl
 rw [ev] at f
 rcases zbP f with h4|h4
 ·refine (zik mB g N _ _ rows cols T _ _ ng vn vd ln ld _ _ _ w hw hm hN hT o1 h4 (fun V hV => zgJ mB g N _ _ rows cols _ _ _ ng vn vd ln ld A na va ua _ _ V (hw.to hV) (hm.to hV) hN hA (ta.to hV) (ka.to hV).1 _ rfl f)).mono ?_
  intro e w' hs
  refine .inr ⟨zaD e0 (by rw [ev];exact h4),T,rfl,?_⟩
  rw [ev]
  exact hs
 ·refine (zhg mB g N _ _ rows cols T _ _ ng vn vd ln ld _ _ _ w hw hm hN hT o1 h4 (fun V hV => zgJ mB g N _ _ rows cols _ _ _ ng vn vd ln ld A na va ua _ _ V (hw.to hV) (hm.to hV) hN hA (ta.to hV) (ka.to hV).1 _ rfl f)).mono ?_
  intro e w' hs
  have es:=zaf (p:=xs.map Rt.num) e0 (show (6:Int)≠10 by decide) (by rw [ev];exact h4.1)
  rw [es]
  exact .inl ⟨by decide,hs.1,hs.2⟩

theorem zhr (c:Cd) (L:List Int) (R J:Int->Rat) (op to a b:Int) (ng:Bool) (vn vd:Value) (ln ld:List Nat) (mB g N h M cj n1 c1:Nat) (a1:Option Addr) (rows cols:Int) (xs:List Rt) (w:World) (hX:IsX w ⟨op,to,a,b,⟨ng,ln,ld⟩⟩ vn vd) (hok:zw c L ⟨op,to,a,b,⟨ng,ln,ld⟩⟩=true) (hL:∀ r ∈ L,0<=r/\r<(N:Int)) (hreg:c.regs=(N:Int)) (hins:c.ins=(n1:Int)) (hMM:c.rows*c.cols=(M:Int))
  (hm:zy w mB g N (.slice a1 n1 c1) (.slice (some ⟨h,0,none⟩) M cj) rows cols) (hN:N<=100000) (hM1:M<=100000) (hR:zL w g N (fun r => (r:Int) ∈ L) (fun r => R r)) (hJ:zL w h M (fun _ => True) (fun r => J r)) (nh1:h≠g) (nh2:h≠mB)
  (hx:RdR w (.slice a1 n1 c1) xs) (hxl:xs.length=n1) (hxm:n1<=maxLen) (hxs:∀ x ∈ xs,x.n.length<=4097/\x.d.length<=4097) (fit:opE R ⟨op,to,a,b,⟨ng,ln,ld⟩⟩=0->szq (opV (xs.map Rt.num) R ⟨op,to,a,b,⟨ng,ln,ld⟩⟩)<=4097/\(op=7->szq (R a)*b.natAbs<4097)) (hk:op=5) :
  Calls Try.prog 11 #[.pointer (some ⟨mB,0,none⟩),.agg #[.int .i64 op,.int .i64 to,.int .i64 a,.int .i64 b,.bool ng,vn,vd]] w (zai w g h op to (zB (xs.map Rt.num) R ⟨op,to,a,b,⟨ng,ln,ld⟩⟩) (opV (xs.map Rt.num) R ⟨op,to,a,b,⟨ng,ln,ld⟩⟩)):=by
 have hto:=zY hok
 have ha:=fun h1 => zR hok h1
 have hb:=fun h1 => zaE hok h1
 simp only at hto ha hb
 subst hk
 have eto:zJ c ⟨5,to,a,b,⟨ng,ln,ld⟩⟩=(N:Int):=by rw [<- hreg];exact if_neg (show ¬ ((5:Int)=10) by decide)
 rw [eto] at hto
 obtain ⟨T,rfl⟩:=Int.eq_ofNat_of_zero_le hto.1
 have hT:T<N:=by omega
 obtain ⟨b0,e1,e2,e3,e4,e5,e6,o1,_⟩:=hR T hT
 have hw:=hX.1.isF
 obtain ⟨A,na,va,ua,rfl,hA,ta,ka⟩:=zaK hR hL (ha (by decide))
 obtain ⟨Bb,nb,vb,ub,rfl,hB,tb,kb⟩:=zaK hR hL (hb (by decide))
 have eE:=opE_div (R:=R) (x:=⟨5,(T:Int),(A:Int),(Bb:Int),⟨ng,ln,ld⟩⟩) rfl
 by_cases h0:R (Bb:Int)=0
 ·have e0:opE R ⟨5,(T:Int),(A:Int),(Bb:Int),⟨ng,ln,ld⟩⟩=3:=by rw [eE];exact if_pos h0
  refine (zfX mB g N _ _ rows cols T _ _ ng vn vd ln ld _ _ _ w hw hm hN hT o1 (fun V hV => zgI mB g N _ _ rows cols _ _ ng vn vd ln ld A na va ua _ _ Bb nb vb ub _ _ V (hw.to hV) (hm.to hV) hN hA (ta.to hV) (ka.to hV).1 hB (tb.to hV) (kb.to hV).1 h0)).mono ?_
  intro e w' hs
  have es:zB (xs.map Rt.num) R ⟨5,(T:Int),(A:Int),(Bb:Int),⟨ng,ln,ld⟩⟩=3:=by rw [zdI (by rw [e0];decide),e0]
  rw [es]
  exact .inl ⟨by decide,hs.1,hs.2⟩
 ·have e0:opE R ⟨5,(T:Int),(A:Int),(Bb:Int),⟨ng,ln,ld⟩⟩=0:=by rw [eE];exact if_neg h0
  have f:=(fit e0).1
  have ev:=opV_div (p:=xs.map Rt.num) (R:=R) (x:=⟨5,(T:Int),(A:Int),(Bb:Int),⟨ng,ln,ld⟩⟩) rfl
  rw [ev] at f
  rcases zbP f with h4|h4
  ·refine (zij mB g N _ _ rows cols T _ _ ng vn vd ln ld _ _ _ w hw hm hN hT o1 h4 (fun V hV => zgH mB g N _ _ rows cols _ _ ng vn vd ln ld A na va ua _ _ Bb nb vb ub _ _ V (hw.to hV) (hm.to hV) hN hA (ta.to hV) (ka.to hV).1 hB (tb.to hV) (kb.to hV).1 _ rfl f h0)).mono ?_
   intro e w' hs
   refine .inr ⟨zaD e0 (by rw [ev];exact h4),T,rfl,?_⟩
   rw [ev]
   exact hs
  ·refine (zhf mB g N _ _ rows cols T _ _ ng vn vd ln ld _ _ _ w hw hm hN hT o1 h4 (fun V hV => zgH mB g N _ _ rows cols _ _ ng vn vd ln ld A na va ua _ _ Bb nb vb ub _ _ V (hw.to hV) (hm.to hV) hN hA (ta.to hV) (ka.to hV).1 hB (tb.to hV) (kb.to hV).1 _ rfl f h0)).mono ?_
   intro e w' hs
   have es:=zaf (p:=xs.map Rt.num) e0 (show (5:Int)≠10 by decide) (by rw [ev];exact h4.1)
   rw [es]
   exact .inl ⟨by decide,hs.1,hs.2⟩

theorem zhu (c:Cd) (L:List Int) (R J:Int->Rat) (op to a b:Int) (ng:Bool) (vn vd:Value) (ln ld:List Nat) (mB g N h M cj n1 c1:Nat) (a1:Option Addr) (rows cols:Int) (xs:List Rt) (w:World) (hX:IsX w ⟨op,to,a,b,⟨ng,ln,ld⟩⟩ vn vd) (hok:zw c L ⟨op,to,a,b,⟨ng,ln,ld⟩⟩=true) (hL:∀ r ∈ L,0<=r/\r<(N:Int)) (hreg:c.regs=(N:Int)) (hins:c.ins=(n1:Int)) (hMM:c.rows*c.cols=(M:Int))
  (hm:zy w mB g N (.slice a1 n1 c1) (.slice (some ⟨h,0,none⟩) M cj) rows cols) (hN:N<=100000) (hM1:M<=100000) (hR:zL w g N (fun r => (r:Int) ∈ L) (fun r => R r)) (hJ:zL w h M (fun _ => True) (fun r => J r)) (nh1:h≠g) (nh2:h≠mB)
  (hx:RdR w (.slice a1 n1 c1) xs) (hxl:xs.length=n1) (hxm:n1<=maxLen) (hxs:∀ x ∈ xs,x.n.length<=4097/\x.d.length<=4097) (fit:opE R ⟨op,to,a,b,⟨ng,ln,ld⟩⟩=0->szq (opV (xs.map Rt.num) R ⟨op,to,a,b,⟨ng,ln,ld⟩⟩)<=4097/\(op=7->szq (R a)*b.natAbs<4097)) (hk:op=7) :
  Calls Try.prog 11 #[.pointer (some ⟨mB,0,none⟩),.agg #[.int .i64 op,.int .i64 to,.int .i64 a,.int .i64 b,.bool ng,vn,vd]] w (zai w g h op to (zB (xs.map Rt.num) R ⟨op,to,a,b,⟨ng,ln,ld⟩⟩) (opV (xs.map Rt.num) R ⟨op,to,a,b,⟨ng,ln,ld⟩⟩)):=by
 have hto:=zY hok
 have ha:=fun h1 => zR hok h1
 have hb:=fun h1 => zaE hok h1
 simp only at hto ha hb
 subst hk
 have eto:zJ c ⟨7,to,a,b,⟨ng,ln,ld⟩⟩=(N:Int):=by rw [<- hreg];exact if_neg (show ¬ ((7:Int)=10) by decide)
 rw [eto] at hto
 obtain ⟨T,rfl⟩:=Int.eq_ofNat_of_zero_le hto.1
 have hT:T<N:=by omega
 obtain ⟨b0,e1,e2,e3,e4,e5,e6,o1,_⟩:=hR T hT
 have hw:=hX.1.isF
 have eh:=zdv hok rfl
 simp only at eh
 obtain ⟨A,na,va,ua,rfl,hA,ta,ka⟩:=zaK hR hL (ha (by decide))
 have eE:=ziw (R:=R) (x:=⟨7,(T:Int),(A:Int),b,⟨ng,ln,ld⟩⟩) rfl
 simp only at eE
 by_cases h0:R (A:Int)=0/\b<0
 ·have e0:opE R ⟨7,(T:Int),(A:Int),b,⟨ng,ln,ld⟩⟩=3:=by rw [eE,if_pos h0]
  refine (zfY mB g N _ _ rows cols T _ _ ng vn vd ln ld _ _ _ w hw hm hN hT o1 (fun V hV => zeY mB g N _ _ rows cols _ _ _ ng vn vd ln ld A na va ua V (hw.to hV) (hm.to hV) hN hA (ta.to hV) (ka.to hV) eh h0.1 h0.2)).mono ?_
  intro e w' hs
  have es:zB (xs.map Rt.num) R ⟨7,(T:Int),(A:Int),b,⟨ng,ln,ld⟩⟩=3:=by rw [zdI (by rw [e0];decide),e0]
  rw [es]
  exact .inl ⟨by decide,hs.1,hs.2⟩
 rw [if_neg h0] at eE
 by_cases hl:4096<szq (R (A:Int))*b.natAbs
 ·have e0:opE R ⟨7,(T:Int),(A:Int),b,⟨ng,ln,ld⟩⟩=4:=by rw [eE,if_pos hl]
  refine (zfZ mB g N _ _ rows cols T _ _ ng vn vd ln ld _ _ _ w hw hm hN hT o1 (fun V hV => ?_)).mono ?_
  ·by_cases hz:R (A:Int)=0
   ·exact zeb mB g N _ _ rows cols _ _ _ ng vn vd ln ld A na va ua V (hw.to hV) (hm.to hV) hN hA (ta.to hV) (ka.to hV) eh (fun k => h0 ⟨hz,k⟩) hz hl
   ·exact zea mB g N _ _ rows cols _ _ _ ng vn vd ln ld A na va ua V (hw.to hV) (hm.to hV) hN hA (ta.to hV) (ka.to hV) eh hz hl
  intro e w' hs
  have es:zB (xs.map Rt.num) R ⟨7,(T:Int),(A:Int),b,⟨ng,ln,ld⟩⟩=4:=by rw [zdI (by rw [e0];decide),e0]
  rw [es]
  exact .inl ⟨by decide,hs.1,hs.2⟩
 have e0:opE R ⟨7,(T:Int),(A:Int),b,⟨ng,ln,ld⟩⟩=0:=by rw [eE,if_neg hl]
 have f:=fit e0
 have f7:=f.2 rfl
 have ev:=ziA (p:=xs.map Rt.num) (R:=R) (x:=⟨7,(T:Int),(A:Int),b,⟨ng,ln,ld⟩⟩) rfl
 simp only at ev
 have fv:=f.1
 rcases zbP fv with h4|h4
 ·refine (zil mB g N _ _ rows cols T _ _ ng vn vd ln ld _ _ _ w hw hm hN hT o1 h4 (fun V hV => ?_)).mono ?_
  ·rw [ev]
   by_cases hn:b<0
   ·have hz:R (A:Int)≠0:=fun k => h0 ⟨k,hn⟩
    rw [if_pos hn,show b.natAbs=(-b).toNat by omega]
    exact zcX mB g N _ _ rows cols _ _ _ ng vn vd ln ld A na va ua V (hw.to hV) (hm.to hV) hN hA (ta.to hV) (ka.to hV) eh hz hn hz (by rw [show (-b).toNat=b.natAbs by omega];omega)
   ·rw [if_neg hn,show b.natAbs=b.toNat by omega]
    have hl':szq (R (A:Int))*b.toNat<=4096:=by rw [show b.toNat=b.natAbs by omega];omega
    by_cases hz:R (A:Int)=0
    ·exact zcZ mB g N _ _ rows cols _ _ _ ng vn vd ln ld A na va ua V (hw.to hV) (hm.to hV) hN hA (ta.to hV) (ka.to hV) eh hn hz (by omega) hl'
    ·exact zcY mB g N _ _ rows cols _ _ _ ng vn vd ln ld A na va ua V (hw.to hV) (hm.to hV) hN hA (ta.to hV) (ka.to hV) eh hz (by omega) hl'
  intro e w' hs
  exact .inr ⟨zaD e0 h4,T,rfl,hs⟩
 ·refine (zhh mB g N _ _ rows cols T _ _ ng vn vd ln ld _ _ _ w hw hm hN hT o1 h4 (fun V hV => ?_)).mono ?_
  ·rw [ev]
   by_cases hn:b<0
   ·have hz:R (A:Int)≠0:=fun k => h0 ⟨k,hn⟩
    rw [if_pos hn,show b.natAbs=(-b).toNat by omega]
    exact zcX mB g N _ _ rows cols _ _ _ ng vn vd ln ld A na va ua V (hw.to hV) (hm.to hV) hN hA (ta.to hV) (ka.to hV) eh hz hn hz (by rw [show (-b).toNat=b.natAbs by omega];omega)
   ·rw [if_neg hn,show b.natAbs=b.toNat by omega]
    have hl':szq (R (A:Int))*b.toNat<=4096:=by rw [show b.toNat=b.natAbs by omega];omega
    by_cases hz:R (A:Int)=0
    ·exact zcZ mB g N _ _ rows cols _ _ _ ng vn vd ln ld A na va ua V (hw.to hV) (hm.to hV) hN hA (ta.to hV) (ka.to hV) eh hn hz (by omega) hl'
    ·exact zcY mB g N _ _ rows cols _ _ _ ng vn vd ln ld A na va ua V (hw.to hV) (hm.to hV) hN hA (ta.to hV) (ka.to hV) eh hz (by omega) hl'
  intro e w' hs
  have es:=zaf (p:=xs.map Rt.num) e0 (show (7:Int)≠10 by decide) h4.1
  rw [es]
  exact .inl ⟨by decide,hs.1,hs.2⟩

theorem zfg (c:Cd) (L:List Int) (R J:Int->Rat) (op to a b:Int) (ng:Bool) (vn vd:Value) (ln ld:List Nat) (mB g N h M cj n1 c1:Nat) (a1:Option Addr) (rows cols:Int) (xs:List Rt) (w:World) (hX:IsX w ⟨op,to,a,b,⟨ng,ln,ld⟩⟩ vn vd) (hok:zw c L ⟨op,to,a,b,⟨ng,ln,ld⟩⟩=true) (hL:∀ r ∈ L,0<=r/\r<(N:Int)) (hreg:c.regs=(N:Int)) (hins:c.ins=(n1:Int)) (hMM:c.rows*c.cols=(M:Int))
  (hm:zy w mB g N (.slice a1 n1 c1) (.slice (some ⟨h,0,none⟩) M cj) rows cols) (hN:N<=100000) (hM1:M<=100000) (hR:zL w g N (fun r => (r:Int) ∈ L) (fun r => R r)) (hJ:zL w h M (fun _ => True) (fun r => J r)) (nh1:h≠g) (nh2:h≠mB)
  (hx:RdR w (.slice a1 n1 c1) xs) (hxl:xs.length=n1) (hxm:n1<=maxLen) (hxs:∀ x ∈ xs,x.n.length<=4097/\x.d.length<=4097) (fit:opE R ⟨op,to,a,b,⟨ng,ln,ld⟩⟩=0->szq (opV (xs.map Rt.num) R ⟨op,to,a,b,⟨ng,ln,ld⟩⟩)<=4097/\(op=7->szq (R a)*b.natAbs<4097)) (hk:op=1) :
  Calls Try.prog 11 #[.pointer (some ⟨mB,0,none⟩),.agg #[.int .i64 op,.int .i64 to,.int .i64 a,.int .i64 b,.bool ng,vn,vd]] w (zai w g h op to (zB (xs.map Rt.num) R ⟨op,to,a,b,⟨ng,ln,ld⟩⟩) (opV (xs.map Rt.num) R ⟨op,to,a,b,⟨ng,ln,ld⟩⟩)):=by
 have hto:=zY hok
 have ha:=fun h1 => zR hok h1
 have hb:=fun h1 => zaE hok h1
 simp only at hto ha hb
 subst hk
 have eto:zJ c ⟨1,to,a,b,⟨ng,ln,ld⟩⟩=(N:Int):=by rw [<- hreg];exact if_neg (show ¬ ((1:Int)=10) by decide)
 rw [eto] at hto
 obtain ⟨T,rfl⟩:=Int.eq_ofNat_of_zero_le hto.1
 have hT:T<N:=by omega
 obtain ⟨b0,e1,e2,e3,e4,e5,e6,o1,_⟩:=hR T hT
 have hw:=hX.1.isF
 have e0:opE R ⟨1,(T:Int),a,b,⟨ng,ln,ld⟩⟩=0:=zaS (by show (1:Int)≠5;decide) (by show (1:Int)≠7;decide)
 have f:=(fit e0).1
 have ev:=ziz (p:=xs.map Rt.num) (R:=R) (x:=⟨1,(T:Int),a,b,⟨ng,ln,ld⟩⟩) rfl
 rw [ev] at f
 rcases zbP f with h4|h4
 ·refine (zif mB g N _ _ rows cols T _ _ ng vn vd ln ld _ _ _ w hw hm hN hT o1 h4 (fun V hV => zeF _ _ _ _ _ ng vn vd ln ld V (hX.1.to hV) f)).mono ?_
  intro e w' hs
  refine .inr ⟨zaD e0 (by rw [ev];exact h4),T,rfl,?_⟩
  rw [ev]
  exact hs
 ·refine (zhb mB g N _ _ rows cols T _ _ ng vn vd ln ld _ _ _ w hw hm hN hT o1 h4 (fun V hV => zeF _ _ _ _ _ ng vn vd ln ld V (hX.1.to hV) f)).mono ?_
  intro e w' hs
  have es:=zaf (p:=xs.map Rt.num) e0 (show (1:Int)≠10 by decide) (by rw [ev];exact h4.1)
  rw [es]
  exact .inl ⟨by decide,hs.1,hs.2⟩

theorem zfh (c:Cd) (L:List Int) (R J:Int->Rat) (op to a b:Int) (ng:Bool) (vn vd:Value) (ln ld:List Nat) (mB g N h M cj n1 c1:Nat) (a1:Option Addr) (rows cols:Int) (xs:List Rt) (w:World) (hX:IsX w ⟨op,to,a,b,⟨ng,ln,ld⟩⟩ vn vd) (hok:zw c L ⟨op,to,a,b,⟨ng,ln,ld⟩⟩=true) (hL:∀ r ∈ L,0<=r/\r<(N:Int)) (hreg:c.regs=(N:Int)) (hins:c.ins=(n1:Int)) (hMM:c.rows*c.cols=(M:Int))
  (hm:zy w mB g N (.slice a1 n1 c1) (.slice (some ⟨h,0,none⟩) M cj) rows cols) (hN:N<=100000) (hM1:M<=100000) (hR:zL w g N (fun r => (r:Int) ∈ L) (fun r => R r)) (hJ:zL w h M (fun _ => True) (fun r => J r)) (nh1:h≠g) (nh2:h≠mB)
  (hx:RdR w (.slice a1 n1 c1) xs) (hxl:xs.length=n1) (hxm:n1<=maxLen) (hxs:∀ x ∈ xs,x.n.length<=4097/\x.d.length<=4097) (fit:opE R ⟨op,to,a,b,⟨ng,ln,ld⟩⟩=0->szq (opV (xs.map Rt.num) R ⟨op,to,a,b,⟨ng,ln,ld⟩⟩)<=4097/\(op=7->szq (R a)*b.natAbs<4097)) (hk:op=0) :
  Calls Try.prog 11 #[.pointer (some ⟨mB,0,none⟩),.agg #[.int .i64 op,.int .i64 to,.int .i64 a,.int .i64 b,.bool ng,vn,vd]] w (zai w g h op to (zB (xs.map Rt.num) R ⟨op,to,a,b,⟨ng,ln,ld⟩⟩) (opV (xs.map Rt.num) R ⟨op,to,a,b,⟨ng,ln,ld⟩⟩)):=by
 have hin:=insOk_in hok hk
 simp only at hin
 have hto:=zY hok
 have ha:=fun h1 => zR hok h1
 have hb:=fun h1 => zaE hok h1
 simp only at hto ha hb
 subst hk
 have eto:zJ c ⟨0,to,a,b,⟨ng,ln,ld⟩⟩=(N:Int):=by rw [<- hreg];exact if_neg (show ¬ ((0:Int)=10) by decide)
 rw [eto] at hto
 obtain ⟨T,rfl⟩:=Int.eq_ofNat_of_zero_le hto.1
 have hT:T<N:=by omega
 obtain ⟨b0,e1,e2,e3,e4,e5,e6,o1,_⟩:=hR T hT
 have hw:=hX.1.isF
 obtain ⟨A,rfl⟩:=Int.eq_ofNat_of_zero_le hin.1
 have hA:A<n1:=by omega
 have hAl:A<xs.length:=by omega
 obtain ⟨bb,off,rfl,h3⟩:=hx.nth hAl
 have hsz:=hxs _ (List.getElem_mem hAl)
 obtain ⟨v3,u3,s0,s1,s2,hq⟩:=h3.isQ hsz.1 hsz.2
 have e0:opE R ⟨0,(T:Int),(A:Int),b,⟨ng,ln,ld⟩⟩=0:=zaS (by show (0:Int)≠5;decide) (by show (0:Int)≠7;decide)
 have f:=(fit e0).1
 have ev:=zgP (p:=xs.map Rt.num) (R:=R) (x:=⟨0,(T:Int),(A:Int),b,⟨ng,ln,ld⟩⟩) rfl
 have ev2:opV (xs.map Rt.num) R ⟨0,(T:Int),(A:Int),b,⟨ng,ln,ld⟩⟩=xs[A].num:=by rw [ev];simp [hAl]
 rw [ev2] at f
 rcases zbP f with h4|h4
 ·refine (zie mB g N _ _ rows cols T _ _ ng vn vd ln ld _ _ _ w hw hm hN hT o1 h4 (fun V hV => zeG mB g N _ rows cols bb off n1 c1 A _ _ _ ng vn vd ln ld _ v3 u3 _ _ V (hw.to hV) (hm.to hV) hxm hA (zaW.to ⟨s0,s1,s2⟩ hV) (hq.to hV) f)).mono ?_
  intro e w' hs
  refine .inr ⟨zaD e0 (by rw [ev2];exact h4),T,rfl,?_⟩
  rw [ev2]
  exact hs
 ·refine (zha mB g N _ _ rows cols T _ _ ng vn vd ln ld _ _ _ w hw hm hN hT o1 h4 (fun V hV => zeG mB g N _ rows cols bb off n1 c1 A _ _ _ ng vn vd ln ld _ v3 u3 _ _ V (hw.to hV) (hm.to hV) hxm hA (zaW.to ⟨s0,s1,s2⟩ hV) (hq.to hV) f)).mono ?_
  intro e w' hs
  have es:=zaf (p:=xs.map Rt.num) e0 (show (0:Int)≠10 by decide) (by rw [ev2];exact h4.1)
  rw [es]
  exact .inl ⟨by decide,hs.1,hs.2⟩

theorem zgo (c:Cd) (L:List Int) (R J:Int->Rat) (op to a b:Int) (ng:Bool) (vn vd:Value) (ln ld:List Nat) (mB g N h M cj n1 c1:Nat) (a1:Option Addr) (rows cols:Int) (xs:List Rt) (w:World) (hX:IsX w ⟨op,to,a,b,⟨ng,ln,ld⟩⟩ vn vd) (hok:zw c L ⟨op,to,a,b,⟨ng,ln,ld⟩⟩=true) (hL:∀ r ∈ L,0<=r/\r<(N:Int)) (hreg:c.regs=(N:Int)) (hins:c.ins=(n1:Int)) (hMM:c.rows*c.cols=(M:Int))
  (hm:zy w mB g N (.slice a1 n1 c1) (.slice (some ⟨h,0,none⟩) M cj) rows cols) (hN:N<=100000) (hM1:M<=100000) (hR:zL w g N (fun r => (r:Int) ∈ L) (fun r => R r)) (hJ:zL w h M (fun _ => True) (fun r => J r)) (nh1:h≠g) (nh2:h≠mB)
  (hx:RdR w (.slice a1 n1 c1) xs) (hxl:xs.length=n1) (hxm:n1<=maxLen) (hxs:∀ x ∈ xs,x.n.length<=4097/\x.d.length<=4097) (fit:opE R ⟨op,to,a,b,⟨ng,ln,ld⟩⟩=0->szq (opV (xs.map Rt.num) R ⟨op,to,a,b,⟨ng,ln,ld⟩⟩)<=4097/\(op=7->szq (R a)*b.natAbs<4097)) (hk:op=10) :
  Calls Try.prog 11 #[.pointer (some ⟨mB,0,none⟩),.agg #[.int .i64 op,.int .i64 to,.int .i64 a,.int .i64 b,.bool ng,vn,vd]] w (zai w g h op to (zB (xs.map Rt.num) R ⟨op,to,a,b,⟨ng,ln,ld⟩⟩) (opV (xs.map Rt.num) R ⟨op,to,a,b,⟨ng,ln,ld⟩⟩)):=by
 have hto:=zY hok
 have ha:=fun h1 => zR hok h1
 simp only at hto ha
 subst hk
 have eto:zJ c ⟨10,to,a,b,⟨ng,ln,ld⟩⟩=(M:Int):=by rw [<- hMM];exact if_pos rfl
 rw [eto] at hto
 obtain ⟨T,rfl⟩:=Int.eq_ofNat_of_zero_le hto.1
 have hT:T<M:=by omega
 obtain ⟨b0,e1,e2,e3,e4,e5,e6,o1,_⟩:=hJ T hT
 have hw:=hX.1.isF
 obtain ⟨A,na,va,ua,rfl,hA,ta,ka⟩:=zaK hR hL (ha (by decide))
 have e0:opE R ⟨10,(T:Int),(A:Int),b,⟨ng,ln,ld⟩⟩=0:=zaS (by show (10:Int)≠5;decide) (by show (10:Int)≠7;decide)
 have f:=(fit e0).1
 have ev:=ziC (p:=xs.map Rt.num) (R:=R) (x:=⟨10,(T:Int),(A:Int),b,⟨ng,ln,ld⟩⟩) rfl
 refine (zjM mB g N h M cj _ rows cols T _ ng vn vd ln ld _ _ _ A na va ua w hw hm hN hM1 hT o1 hA ta ka nh1 nh2).mono ?_
 intro e w' hs
 refine .inr ⟨zid e0 rfl,T,rfl,?_⟩
 rw [ev,if_pos rfl]
 exact hs

theorem vm_step (c:Cd) (L:List Int) (R J:Int->Rat) (op to a b:Int) (ng:Bool) (vn vd:Value) (ln ld:List Nat) (mB g N h M cj n1 c1:Nat) (a1:Option Addr) (rows cols:Int) (xs:List Rt) (w:World) (hX:IsX w ⟨op,to,a,b,⟨ng,ln,ld⟩⟩ vn vd) (hok:zw c L ⟨op,to,a,b,⟨ng,ln,ld⟩⟩=true) (hL:∀ r ∈ L,0<=r/\r<(N:Int)) (hreg:c.regs=(N:Int)) (hins:c.ins=(n1:Int)) (hMM:c.rows*c.cols=(M:Int))
  (hm:zy w mB g N (.slice a1 n1 c1) (.slice (some ⟨h,0,none⟩) M cj) rows cols) (hN:N<=100000) (hM1:M<=100000) (hR:zL w g N (fun r => (r:Int) ∈ L) (fun r => R r)) (hJ:zL w h M (fun _ => True) (fun r => J r)) (nh1:h≠g) (nh2:h≠mB)
  (hx:RdR w (.slice a1 n1 c1) xs) (hxl:xs.length=n1) (hxm:n1<=maxLen) (hxs:∀ x ∈ xs,x.n.length<=4097/\x.d.length<=4097) (fit:opE R ⟨op,to,a,b,⟨ng,ln,ld⟩⟩=0->szq (opV (xs.map Rt.num) R ⟨op,to,a,b,⟨ng,ln,ld⟩⟩)<=4097/\(op=7->szq (R a)*b.natAbs<4097)) :
  Calls Try.prog 11 #[.pointer (some ⟨mB,0,none⟩),.agg #[.int .i64 op,.int .i64 to,.int .i64 a,.int .i64 b,.bool ng,vn,vd]] w (zai w g h op to (zB (xs.map Rt.num) R ⟨op,to,a,b,⟨ng,ln,ld⟩⟩) (opV (xs.map Rt.num) R ⟨op,to,a,b,⟨ng,ln,ld⟩⟩)):=by
 rcases zbp op (zbc hok) with e|e|e|e|e|e|e|e|e|e|e
 ·exact zfh c L R J op to a b ng vn vd ln ld mB g N h M cj n1 c1 a1 rows cols xs w hX hok hL hreg hins hMM hm hN hM1 hR hJ nh1 nh2 hx hxl hxm hxs fit e
 ·exact zfg c L R J op to a b ng vn vd ln ld mB g N h M cj n1 c1 a1 rows cols xs w hX hok hL hreg hins hMM hm hN hM1 hR hJ nh1 nh2 hx hxl hxm hxs fit e
 ·exact zhq c L R J op to a b ng vn vd ln ld mB g N h M cj n1 c1 a1 rows cols xs w hX hok hL hreg hins hMM hm hN hM1 hR hJ nh1 nh2 hx hxl hxm hxs fit e
 ·exact zhv c L R J op to a b ng vn vd ln ld mB g N h M cj n1 c1 a1 rows cols xs w hX hok hL hreg hins hMM hm hN hM1 hR hJ nh1 nh2 hx hxl hxm hxs fit e
 ·exact zhs c L R J op to a b ng vn vd ln ld mB g N h M cj n1 c1 a1 rows cols xs w hX hok hL hreg hins hMM hm hN hM1 hR hJ nh1 nh2 hx hxl hxm hxs fit e
 ·exact zhr c L R J op to a b ng vn vd ln ld mB g N h M cj n1 c1 a1 rows cols xs w hX hok hL hreg hins hMM hm hN hM1 hR hJ nh1 nh2 hx hxl hxm hxs fit e
 ·exact zht c L R J op to a b ng vn vd ln ld mB g N h M cj n1 c1 a1 rows cols xs w hX hok hL hreg hins hMM hm hN hM1 hR hJ nh1 nh2 hx hxl hxm hxs fit e
 ·exact zhu c L R J op to a b ng vn vd ln ld mB g N h M cj n1 c1 a1 rows cols xs w hX hok hL hreg hins hMM hm hN hM1 hR hJ nh1 nh2 hx hxl hxm hxs fit e
 ·exact zfi c L R J op to a b ng vn vd ln ld mB g N h M cj n1 c1 a1 rows cols xs w hX hok hL hreg hins hMM hm hN hM1 hR hJ nh1 nh2 hx hxl hxm hxs fit e
 ·exact zgn c L R J op to a b ng vn vd ln ld mB g N h M cj n1 c1 a1 rows cols xs w hX hok hL hreg hins hMM hm hN hM1 hR hJ nh1 nh2 hx hxl hxm hxs fit e
 ·exact zgo c L R J op to a b ng vn vd ln ld mB g N h M cj n1 c1 a1 rows cols xs w hX hok hL hreg hins hMM hm hN hM1 hR hJ nh1 nh2 hx hxl hxm hxs fit e

end Go.Proofs.Ytkjcdnlpjldhaaa

