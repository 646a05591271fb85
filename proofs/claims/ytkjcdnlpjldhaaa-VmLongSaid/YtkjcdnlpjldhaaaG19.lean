/-
  The texts Vm9, VmPushM, Vm9b, Vm9c, Vm9d, merged.
-/
import Derived.Test.YtkjcdnlpjldhaaaG18
import Derived.Test.YtkjcdnlpjldhaaaG10
import Derived.Deep.RegionHeld3
import Derived.FnLit
set_option linter.unusedVariables false
set_option linter.unusedSimpArgs false
set_option maxRecDepth 100000
set_option maxHeartbeats 400000000
namespace Go.Proofs.Ytkjcdnlpjldhaaa
open Go.RowKit Tw
attribute [local go_sem ↓] Go.wp_at_zero Go.wp_at_succ

def zbU (w:World) (b o:Nat) (q:Rat) (e:Ending) (w':World):Prop :=
 ∃ w2 ng v u,e=.returned (.int .i64 0)/\Below w.heap.size w w2/\IsK w2 ng v u q/\(w'=put3 w2 b o (.bool ng) v u\/w'=(put3 w2 b o (.bool ng) v u).drew)

theorem zK  (w:World)  :
  Calls Try.prog 21 #[] w (fun e w' => e=.returned (.agg #[.func (.func 32) #[] #[],.func (.func 33) #[] #[],.func (.func 34) #[] #[],.func (.func 35) #[] #[],.func (.func 36) #[] #[],.func (.func 37) #[] #[],.func (.func 38) #[] #[],.func (.func 39) #[] #[],.func (.func 36) #[] #[],.func (.func 34) #[] #[]])/\Below w.heap.size w w'):=by
 go_enter Try.func21,Try.ntmps21
 go_wp2_with fail
 exact bodyPost_ret (v:=.agg #[.func (.func 32) #[] #[],.func (.func 33) #[] #[],.func (.func 34) #[] #[],.func (.func 35) #[] #[],.func (.func 36) #[] #[],.func (.func 37) #[] #[],.func (.func 38) #[] #[],.func (.func 39) #[] #[],.func (.func 36) #[] #[],.func (.func 34) #[] #[]]) (by simp [results,Try.results21,go_sem]) rfl ⟨rfl,bN _ _⟩

theorem tab_0 (w:World):(Instr.index 67 (.agg #[.func (.func 32) #[] #[],.func (.func 33) #[] #[],.func (.func 34) #[] #[],.func (.func 35) #[] #[],.func (.func 36) #[] #[],.func (.func 37) #[] #[],.func (.func 38) #[] #[],.func (.func 39) #[] #[],.func (.func 36) #[] #[],.func (.func 34) #[] #[]]) (.int .i64 0)).run Try.prog w=.ok (.func (.func 32) #[] #[]) w:=by
 kernel_rfl

theorem tab_1 (w:World):(Instr.index 67 (.agg #[.func (.func 32) #[] #[],.func (.func 33) #[] #[],.func (.func 34) #[] #[],.func (.func 35) #[] #[],.func (.func 36) #[] #[],.func (.func 37) #[] #[],.func (.func 38) #[] #[],.func (.func 39) #[] #[],.func (.func 36) #[] #[],.func (.func 34) #[] #[]]) (.int .i64 1)).run Try.prog w=.ok (.func (.func 33) #[] #[]) w:=by
 kernel_rfl

theorem tab_2 (w:World):(Instr.index 67 (.agg #[.func (.func 32) #[] #[],.func (.func 33) #[] #[],.func (.func 34) #[] #[],.func (.func 35) #[] #[],.func (.func 36) #[] #[],.func (.func 37) #[] #[],.func (.func 38) #[] #[],.func (.func 39) #[] #[],.func (.func 36) #[] #[],.func (.func 34) #[] #[]]) (.int .i64 2)).run Try.prog w=.ok (.func (.func 34) #[] #[]) w:=by
 kernel_rfl

theorem tab_3 (w:World):(Instr.index 67 (.agg #[.func (.func 32) #[] #[],.func (.func 33) #[] #[],.func (.func 34) #[] #[],.func (.func 35) #[] #[],.func (.func 36) #[] #[],.func (.func 37) #[] #[],.func (.func 38) #[] #[],.func (.func 39) #[] #[],.func (.func 36) #[] #[],.func (.func 34) #[] #[]]) (.int .i64 3)).run Try.prog w=.ok (.func (.func 35) #[] #[]) w:=by
 kernel_rfl

theorem tab_4 (w:World):(Instr.index 67 (.agg #[.func (.func 32) #[] #[],.func (.func 33) #[] #[],.func (.func 34) #[] #[],.func (.func 35) #[] #[],.func (.func 36) #[] #[],.func (.func 37) #[] #[],.func (.func 38) #[] #[],.func (.func 39) #[] #[],.func (.func 36) #[] #[],.func (.func 34) #[] #[]]) (.int .i64 4)).run Try.prog w=.ok (.func (.func 36) #[] #[]) w:=by
 kernel_rfl

theorem tab_5 (w:World):(Instr.index 67 (.agg #[.func (.func 32) #[] #[],.func (.func 33) #[] #[],.func (.func 34) #[] #[],.func (.func 35) #[] #[],.func (.func 36) #[] #[],.func (.func 37) #[] #[],.func (.func 38) #[] #[],.func (.func 39) #[] #[],.func (.func 36) #[] #[],.func (.func 34) #[] #[]]) (.int .i64 5)).run Try.prog w=.ok (.func (.func 37) #[] #[]) w:=by
 kernel_rfl

theorem tab_6 (w:World):(Instr.index 67 (.agg #[.func (.func 32) #[] #[],.func (.func 33) #[] #[],.func (.func 34) #[] #[],.func (.func 35) #[] #[],.func (.func 36) #[] #[],.func (.func 37) #[] #[],.func (.func 38) #[] #[],.func (.func 39) #[] #[],.func (.func 36) #[] #[],.func (.func 34) #[] #[]]) (.int .i64 6)).run Try.prog w=.ok (.func (.func 38) #[] #[]) w:=by
 kernel_rfl

theorem tab_7 (w:World):(Instr.index 67 (.agg #[.func (.func 32) #[] #[],.func (.func 33) #[] #[],.func (.func 34) #[] #[],.func (.func 35) #[] #[],.func (.func 36) #[] #[],.func (.func 37) #[] #[],.func (.func 38) #[] #[],.func (.func 39) #[] #[],.func (.func 36) #[] #[],.func (.func 34) #[] #[]]) (.int .i64 7)).run Try.prog w=.ok (.func (.func 39) #[] #[]) w:=by
 kernel_rfl

theorem tab_8 (w:World):(Instr.index 67 (.agg #[.func (.func 32) #[] #[],.func (.func 33) #[] #[],.func (.func 34) #[] #[],.func (.func 35) #[] #[],.func (.func 36) #[] #[],.func (.func 37) #[] #[],.func (.func 38) #[] #[],.func (.func 39) #[] #[],.func (.func 36) #[] #[],.func (.func 34) #[] #[]]) (.int .i64 8)).run Try.prog w=.ok (.func (.func 36) #[] #[]) w:=by
 kernel_rfl

theorem tab_9 (w:World):(Instr.index 67 (.agg #[.func (.func 32) #[] #[],.func (.func 33) #[] #[],.func (.func 34) #[] #[],.func (.func 35) #[] #[],.func (.func 36) #[] #[],.func (.func 37) #[] #[],.func (.func 38) #[] #[],.func (.func 39) #[] #[],.func (.func 36) #[] #[],.func (.func 34) #[] #[]]) (.int .i64 9)).run Try.prog w=.ok (.func (.func 34) #[] #[]) w:=by
 kernel_rfl

theorem zie (mB g N:Nat) (u vJ:Value) (rows cols:Int) (T:Nat) (xa xb:Int) (ng:Bool) (vn vd:Value) (ln ld:List Nat) (d0 d1 d2:Value) {v:Rat}  (w:World) (hw:IsF w vn vd ln ld) (hm:zy w mB g N u vJ rows cols) (hN:N<=100000) (hT:T<N) (ho:zE w g (T*3) d0 d1 d2) (hs:szq v<=4096) (hcall:∀ V,Below w.heap.size w V->Calls Try.prog 32 #[.pointer (some ⟨mB,0,none⟩),.agg #[.int .i64 0,.int .i64 (T:Int),.int .i64 xa,.int .i64 xb,.bool ng,vn,vd]] V (zp V v))  :
  Calls Try.prog 11 #[.pointer (some ⟨mB,0,none⟩),.agg #[.int .i64 0,.int .i64 (T:Int),.int .i64 xa,.int .i64 xb,.bool ng,vn,vd]] w (zbU w g (T*3) v):=by
 obtain ⟨a0,n0,c0,rfl,H0,hm0⟩:=hw.1.open
 obtain ⟨a1,n1,c1,rfl,H1,hm1⟩:=hw.2.open
 have hTi:(T:Int)<(N:Int):=by omega
 have lm:=hm.lt
 have lo:=ho.lt
 have Hs:=Lib.hid hs
 have HC:=Lib.hid hcall
 clear hs hcall
 go_enter Try.func11,Try.ntmps11
 go_wp2_with fail
 obtain ⟨W0,aq⟩:∃ W0,w.alloc (.cells #[.int .i64 0,.int .i64 (T:Int),.int .i64 xa,.int .i64 xb,.bool ng,.slice a0 n0 c0,.slice a1 n1 c1] 27)=W0:=⟨_,rfl⟩
 have al:=Lib.hid (show ∀ W',Below W0.heap.size W0 W'->(W'.cell? ⟨w.heap.size,0,none⟩=some (.int .i64 0)/\W'.cell? ⟨w.heap.size,1,none⟩=some (.int .i64 (T:Int))/\W'.cell? ⟨w.heap.size,2,none⟩=some (.int .i64 xa)/\W'.cell? ⟨w.heap.size,3,none⟩=some (.int .i64 xb)/\W'.cell? ⟨w.heap.size,4,none⟩=some (.bool ng)/\W'.cell? ⟨w.heap.size,5,none⟩=some (.slice a0 n0 c0)/\W'.cell? ⟨w.heap.size,6,none⟩=some (.slice a1 n1 c1)) from fun W' hb =>
  by and_intros <;> exact kc hb (by first|assumption|(rw [<- aq];simp [go_sem])))
 have bQ:=Lib.hid (show ∀ W',Below W0.heap.size W0 W'->(W'.frozen? ⟨w.heap.size,0,none⟩=false/\W'.frozen? ⟨w.heap.size,1,none⟩=false/\W'.frozen? ⟨w.heap.size,2,none⟩=false/\W'.frozen? ⟨w.heap.size,3,none⟩=false/\W'.frozen? ⟨w.heap.size,4,none⟩=false/\W'.frozen? ⟨w.heap.size,5,none⟩=false/\W'.frozen? ⟨w.heap.size,6,none⟩=false) from fun W' hb =>
  by and_intros <;> refine (hb.frozen ?_).trans ?_ <;> first|assumption|(rw [<- aq];simp [go_sem])|(rw [<- aq];simp <;> omega))
 have bR:=Lib.hid (show ∀ W',Below W0.heap.size W0 W'->(w.heap.size<W'.heap.size) from fun W' hb =>
  Nat.lt_of_lt_of_le (by rw [<- aq];simp <;> omega) hb.size)
 have zb:Below w.heap.size w W0:=by rw [<- aq];exact bN _ _
 rw [aq]
 clear aq
 have i0:=hw.to zb
 have i1:=hm.to zb
 have i2:=ho.to zb
 have gb:Below W0.heap.size W0 W0:=Below.refl _ _
 obtain ⟨ae,af,ag,am,an,aM,aN⟩:=al.out _ gb
 obtain ⟨ah,ai,ak,au,aw,aR,aS⟩:=bQ.out _ gb
 obtain z0:=bR.out _ gb
 obtain ⟨e0,e1,e2,e3,e4⟩:=(i1.to gb)
 obtain ⟨o0,o1,o2,q0,q1,q2⟩:=(i2.to gb)
 go_wp2_with fail
 have htab:=tab_0
 have hgb:=gb
 go_upto_region 4 with fail
 go_cut [5,6] from 28 (fun s5 s6 wx => zaw W0 (v) s5 wx/\s6=.int .i64 0)
 case first =>
  go_region_held3 (fun W' => W'.cell? ⟨w.heap.size,0,none⟩=some (.int .i64 0)/\W'.cell? ⟨w.heap.size,1,none⟩=some (.int .i64 (T:Int))/\W'.cell? ⟨w.heap.size,2,none⟩=some (.int .i64 xa)/\W'.cell? ⟨w.heap.size,3,none⟩=some (.int .i64 xb)/\W'.cell? ⟨w.heap.size,4,none⟩=some (.bool ng)/\W'.cell? ⟨w.heap.size,5,none⟩=some (.slice a0 n0 c0)/\W'.cell? ⟨w.heap.size,6,none⟩=some (.slice a1 n1 c1)) (first|(with_reducible exact al.out _ gb)|((with_reducible refine al.out _ ?_);repeat' (first|(with_reducible exact gb)|(with_reducible refine Below.drew ?_)|(with_reducible refine bS ?_ (bN _ _))|(with_reducible refine bT ?_ ?_ _ _ _)|(with_reducible exact ay)|(with_reducible exact az)|omega))) (first
   | (go_at_call 32;(refine zf w1 (by with_reducible first|exact Below.refl _ _|exact bN _ _) ?_);intro V2 cH bn;have cS:=bn.size;have cN:=gb.size;have gb:=bS gb bn;(try have ac:=ac.to bn);(try have ap:Tri V2 (w1.heap.size) (.bool false) (.slice none 0 0) (.slice none 0 0):=(by rw [cH];with_reducible first|exact zd _ (.bool false) (.slice none 0 0) (.slice none 0 0) _|exact (zd _ (.bool false) (.slice none 0 0) (.slice none 0 0) _).alloc _));have az:W0.heap.size<=w1.heap.size:=(cN);(try have aH:=ac.lt);(try have aI:=ap.lt);(with_reducible refine (HC.out _ (bS zb gb)).mono ?_);rintro e w2 ⟨ng2,a2_,n2_,c2_,p2_,m2_,k2_,rfl,g2,aL⟩;have gb:=bS gb aL;have da:=aL.size;(try have ac:=ac.to aL);(try have ap:=ap.to aL);(try have bC:=ac.lt);(try have bE:=ap.lt);(try (have aG:=ac;obtain ⟨aU,aV,aW,aX,aY,aZ⟩:=aG));(try (have bj:=ap;obtain ⟨bU,bV,bW,bX,bY,bZ⟩:=bj)))
   | (go_at_call 21;(refine zf W0 (by with_reducible first|exact (Below.refl _ _).drew|exact (bN _ _).drew) ?_);intro V1 cI bP;have cR:=bP.size;have cC:=gb.size;have gb:=bS gb bP;(try have ac:Tri V1 (W0.heap.size) (.bool false) (.slice none 0 0) (.slice none 0 0):=(by rw [cI];with_reducible first|exact (zd _ (.bool false) (.slice none 0 0) (.slice none 0 0) _).drew|exact ((zd _ (.bool false) (.slice none 0 0) (.slice none 0 0) _).alloc _).drew));have ay:W0.heap.size<=W0.heap.size:=(cC);(try have aQ:=ac.lt);(with_reducible refine (zK _).mono ?_);rintro e w1 ⟨rfl,aT⟩;have gb:=bS gb aT;have c8:=aT.size;(try have ac:=ac.to aT);(try have bi:=ac.lt);(try (have aG:=ac;obtain ⟨aU,aV,aW,aX,aY,aZ⟩:=aG))))
  all_goals (go_wp2_with fail;go_meet)
  all_goals refine ⟨?_,rfl⟩
  all_goals first
   | (with_reducible exact zk ac g2 (.inl aH) gb ay)
   | (with_reducible exact zk ap g2 (.inl aI) gb az)
   | (with_reducible exact zG g2 gb)
 case rest =>
 obtain ⟨⟨B3,ng2,a2_,n2_,c2_,p2_,m2_,k2_,lo3,hi3,rfl,hB3,T3,g2,hc3⟩,rfl⟩:=hcut
 clear ae ah af ai ag ak am au an aw aM aR aN aS e0 e1 e2 e3 e4 o0 o1 o2 q0 q1 q2
 have gb:=hc3
 obtain ⟨ae,af,ag,am,an,aM,aN⟩:=al.out _ gb
 obtain ⟨ah,ai,ak,au,aw,aR,aS⟩:=bQ.out _ gb
 obtain z0:=bR.out _ gb
 obtain ⟨e0,e1,e2,e3,e4⟩:=(i1.to gb)
 obtain ⟨o0,o1,o2,q0,q1,q2⟩:=(i2.to gb)
 have z3:=T3.lt
 obtain ⟨b9,cd,ch,ce,cf,ci⟩:=T3
 clear hgb
 obtain ⟨W1,aK⟩:∃ W,wc=W:=⟨_,rfl⟩
 subst aK
 replace i0:=i0.to gb
 replace i1:=i1.to gb
 replace i2:=i2.to gb
 replace zb:=bS zb gb
 have HXwc:=Lib.hid (show ∀ W',Below wc.heap.size wc W'->(Bx7 W' w.heap.size (.int .i64 0) (.int .i64 (T:Int)) (.int .i64 xa) (.int .i64 xb) (.bool ng) (.slice a0 n0 c0) (.slice a1 n1 c1)/\Bx3 W' B3 (.bool ng2) (.slice a2_ n2_ c2_) (.slice p2_ m2_ k2_)) from fun W' hb => by
   refine ⟨bx7 hb ?_ ?_ ?_ ?_ ?_ ?_ ?_ ?_ ?_ ?_ ?_ ?_ ?_ ?_,bx3 hb ?_ ?_ ?_ ?_ ?_ ?_⟩
   all_goals first|assumption|assumption)
 replace gb:=Below.refl wc.heap.size wc
 go_wp2_with fail
 obtain ⟨m,hm9⟩:∃ m:Nat,((max (zc v.num.natAbs).length (zc v.den).length:Nat))=m:=⟨_,rfl⟩
 have HM:=Lib.hid (show ((max (zc v.num.natAbs).length (zc v.den).length:Nat):Int)=(m:Int) by rw [hm9])
 have hm4:m<=4096:=by have:=Hs.out;unfold szq at this;rw [ze,ze] at hm9;omega
 have t4:decide (4096<m)=false:=decide_eq_false (by omega)
 have t5:decide ((4096:Int)<(m:Int))=false:=decide_eq_false (by omega)
 clear hm9 hm4
 refine (zx ng2 _ _ _ _ _ (g2.to gb).isF (m:Int) HM.out).mono ?_
 clear ae ah af ai ag ak am au an aw aM aR aN aS b9 ce cd cf ch ci e0 e1 e2 e3 e4 o0 o1 o2 q0 q1 q2
 rintro e w3 ⟨rfl,bM⟩
 replace gb:=bS gb bM
 obtain ⟨⟨z0,ae,af,ag,am,an,aM,aN,ah,ai,ak,au,aw,aR,aS⟩,⟨z3,b9,cd,ch,ce,cf,ci⟩⟩:=HXwc.out _ gb
 obtain ⟨e0,e1,e2,e3,e4⟩:=(i1.to gb)
 obtain ⟨o0,o1,o2,q0,q1,q2⟩:=(i2.to gb)
 go_wp2_with fail
 go_region
 go_wp2_with fail
 go_ret
 exact ⟨_,_,_,_,rfl,bS zb gb,(g2.to gb).isK,.inr rfl⟩

end Go.Proofs.Ytkjcdnlpjldhaaa


namespace Go.Proofs.Ytkjcdnlpjldhaaa
open Go.RowKit Tw

section

variable {w w' wr w2 w4:World} {v u:Value} {base hi g cap:Nat} {qs:List Rat} {q:Rat} {xs:List Value} {ng:Bool} {a a':Option Addr} {n c n' c':Nat} {t:TypeId}

theorem zy.drew {B N:Nat} {rows cols:Int} (h:zy w B g N u v rows cols):zy w.drew B g N u v rows cols:=h.to (Below.refl _ _).drew

theorem zy.setJ {B N:Nat} {rows cols:Int} (h:zy w B g N u v rows cols) (x:Value):zy (w.setCell ⟨B,4,none⟩ x) B g N u x rows cols :=
 ⟨cP h.1 (.inr (by decide)) _,cP h.2.1 (.inr (by decide)) _,cP h.2.2.1 (.inr (by decide)) _,cP h.2.2.2.1 (.inr (by decide)) _,zH h.2.2.2.2 _⟩

theorem zy.grown {B N:Nat} {rows cols:Int} {row:Option Nat} (h:zy w B g N u v rows cols) (hg:w.grownBy w' row) (hne:row≠some B):zy w' B g N u v rows cols :=
 have f:∀ o,w'.cell? ⟨B,o,none⟩=w.cell? ⟨B,o,none⟩:=fun o => hg.cell_far ⟨B,o,none⟩ h.lt (fun e => hne e.symm)
 ⟨(f 0).trans h.1,(f 1).trans h.2.1,(f 2).trans h.2.2.1,(f 3).trans h.2.2.2.1,(f 4).trans h.2.2.2.2⟩

end

end Go.Proofs.Ytkjcdnlpjldhaaa


namespace Go.Proofs.Ytkjcdnlpjldhaaa
open Go.RowKit Tw
attribute [local go_sem ↓] Go.wp_at_zero Go.wp_at_succ

theorem zif (mB g N:Nat) (u vJ:Value) (rows cols:Int) (T:Nat) (xa xb:Int) (ng:Bool) (vn vd:Value) (ln ld:List Nat) (d0 d1 d2:Value) {v:Rat}  (w:World) (hw:IsF w vn vd ln ld) (hm:zy w mB g N u vJ rows cols) (hN:N<=100000) (hT:T<N) (ho:zE w g (T*3) d0 d1 d2) (hs:szq v<=4096) (hcall:∀ V,Below w.heap.size w V->Calls Try.prog 33 #[.pointer (some ⟨mB,0,none⟩),.agg #[.int .i64 1,.int .i64 (T:Int),.int .i64 xa,.int .i64 xb,.bool ng,vn,vd]] V (zp V v))  :
  Calls Try.prog 11 #[.pointer (some ⟨mB,0,none⟩),.agg #[.int .i64 1,.int .i64 (T:Int),.int .i64 xa,.int .i64 xb,.bool ng,vn,vd]] w (zbU w g (T*3) v):=by
 obtain ⟨a0,n0,c0,rfl,H0,hm0⟩:=hw.1.open
 obtain ⟨a1,n1,c1,rfl,H1,hm1⟩:=hw.2.open
 have hTi:(T:Int)<(N:Int):=by omega
 have lm:=hm.lt
 have lo:=ho.lt
 have Hs:=Lib.hid hs
 have HC:=Lib.hid hcall
 clear hs hcall
 go_enter Try.func11,Try.ntmps11
 go_wp2_with fail
 obtain ⟨W0,aq⟩:∃ W0,w.alloc (.cells #[.int .i64 1,.int .i64 (T:Int),.int .i64 xa,.int .i64 xb,.bool ng,.slice a0 n0 c0,.slice a1 n1 c1] 27)=W0:=⟨_,rfl⟩
 have al:=Lib.hid (show ∀ W',Below W0.heap.size W0 W'->(W'.cell? ⟨w.heap.size,0,none⟩=some (.int .i64 1)/\W'.cell? ⟨w.heap.size,1,none⟩=some (.int .i64 (T:Int))/\W'.cell? ⟨w.heap.size,2,none⟩=some (.int .i64 xa)/\W'.cell? ⟨w.heap.size,3,none⟩=some (.int .i64 xb)/\W'.cell? ⟨w.heap.size,4,none⟩=some (.bool ng)/\W'.cell? ⟨w.heap.size,5,none⟩=some (.slice a0 n0 c0)/\W'.cell? ⟨w.heap.size,6,none⟩=some (.slice a1 n1 c1)) from fun W' hb =>
  by and_intros <;> exact kc hb (by first|assumption|(rw [<- aq];simp [go_sem])))
 have bQ:=Lib.hid (show ∀ W',Below W0.heap.size W0 W'->(W'.frozen? ⟨w.heap.size,0,none⟩=false/\W'.frozen? ⟨w.heap.size,1,none⟩=false/\W'.frozen? ⟨w.heap.size,2,none⟩=false/\W'.frozen? ⟨w.heap.size,3,none⟩=false/\W'.frozen? ⟨w.heap.size,4,none⟩=false/\W'.frozen? ⟨w.heap.size,5,none⟩=false/\W'.frozen? ⟨w.heap.size,6,none⟩=false) from fun W' hb =>
  by and_intros <;> refine (hb.frozen ?_).trans ?_ <;> first|assumption|(rw [<- aq];simp [go_sem])|(rw [<- aq];simp <;> omega))
 have bR:=Lib.hid (show ∀ W',Below W0.heap.size W0 W'->(w.heap.size<W'.heap.size) from fun W' hb =>
  Nat.lt_of_lt_of_le (by rw [<- aq];simp <;> omega) hb.size)
 have zb:Below w.heap.size w W0:=by rw [<- aq];exact bN _ _
 rw [aq]
 clear aq
 have i0:=hw.to zb
 have i1:=hm.to zb
 have i2:=ho.to zb
 have gb:Below W0.heap.size W0 W0:=Below.refl _ _
 obtain ⟨ae,af,ag,am,an,aM,aN⟩:=al.out _ gb
 obtain ⟨ah,ai,ak,au,aw,aR,aS⟩:=bQ.out _ gb
 obtain z0:=bR.out _ gb
 obtain ⟨e0,e1,e2,e3,e4⟩:=(i1.to gb)
 obtain ⟨o0,o1,o2,q0,q1,q2⟩:=(i2.to gb)
 go_wp2_with fail
 have htab:=tab_1
 have hgb:=gb
 go_upto_region 4 with fail
 go_cut [5,6] from 28 (fun s5 s6 wx => zaw W0 (v) s5 wx/\s6=.int .i64 0)
 case first =>
  go_region_held3 (fun W' => W'.cell? ⟨w.heap.size,0,none⟩=some (.int .i64 1)/\W'.cell? ⟨w.heap.size,1,none⟩=some (.int .i64 (T:Int))/\W'.cell? ⟨w.heap.size,2,none⟩=some (.int .i64 xa)/\W'.cell? ⟨w.heap.size,3,none⟩=some (.int .i64 xb)/\W'.cell? ⟨w.heap.size,4,none⟩=some (.bool ng)/\W'.cell? ⟨w.heap.size,5,none⟩=some (.slice a0 n0 c0)/\W'.cell? ⟨w.heap.size,6,none⟩=some (.slice a1 n1 c1)) (first|(with_reducible exact al.out _ gb)|((with_reducible refine al.out _ ?_);repeat' (first|(with_reducible exact gb)|(with_reducible refine Below.drew ?_)|(with_reducible refine bS ?_ (bN _ _))|(with_reducible refine bT ?_ ?_ _ _ _)|(with_reducible exact ay)|(with_reducible exact az)|omega))) (first
   | (go_at_call 33;(refine zf w1 (by with_reducible first|exact Below.refl _ _|exact bN _ _) ?_);intro V2 cH bn;have cS:=bn.size;have cN:=gb.size;have gb:=bS gb bn;(try have ac:=ac.to bn);(try have ap:Tri V2 (w1.heap.size) (.bool false) (.slice none 0 0) (.slice none 0 0):=(by rw [cH];with_reducible first|exact zd _ (.bool false) (.slice none 0 0) (.slice none 0 0) _|exact (zd _ (.bool false) (.slice none 0 0) (.slice none 0 0) _).alloc _));have az:W0.heap.size<=w1.heap.size:=(cN);(try have aH:=ac.lt);(try have aI:=ap.lt);(with_reducible refine (HC.out _ (bS zb gb)).mono ?_);rintro e w2 ⟨ng2,a2_,n2_,c2_,p2_,m2_,k2_,rfl,g2,aL⟩;have gb:=bS gb aL;have da:=aL.size;(try have ac:=ac.to aL);(try have ap:=ap.to aL);(try have bC:=ac.lt);(try have bE:=ap.lt);(try (have aG:=ac;obtain ⟨aU,aV,aW,aX,aY,aZ⟩:=aG));(try (have bj:=ap;obtain ⟨bU,bV,bW,bX,bY,bZ⟩:=bj)))
   | (go_at_call 21;(refine zf W0 (by with_reducible first|exact (Below.refl _ _).drew|exact (bN _ _).drew) ?_);intro V1 cI bP;have cR:=bP.size;have cC:=gb.size;have gb:=bS gb bP;(try have ac:Tri V1 (W0.heap.size) (.bool false) (.slice none 0 0) (.slice none 0 0):=(by rw [cI];with_reducible first|exact (zd _ (.bool false) (.slice none 0 0) (.slice none 0 0) _).drew|exact ((zd _ (.bool false) (.slice none 0 0) (.slice none 0 0) _).alloc _).drew));have ay:W0.heap.size<=W0.heap.size:=(cC);(try have aQ:=ac.lt);(with_reducible refine (zK _).mono ?_);rintro e w1 ⟨rfl,aT⟩;have gb:=bS gb aT;have c8:=aT.size;(try have ac:=ac.to aT);(try have bi:=ac.lt);(try (have aG:=ac;obtain ⟨aU,aV,aW,aX,aY,aZ⟩:=aG))))
  all_goals (go_wp2_with fail;go_meet)
  all_goals refine ⟨?_,rfl⟩
  all_goals first
   | (with_reducible exact zk ac g2 (.inl aH) gb ay)
   | (with_reducible exact zk ap g2 (.inl aI) gb az)
   | (with_reducible exact zG g2 gb)
 case rest =>
 obtain ⟨⟨B3,ng2,a2_,n2_,c2_,p2_,m2_,k2_,lo3,hi3,rfl,hB3,T3,g2,hc3⟩,rfl⟩:=hcut
 clear ae ah af ai ag ak am au an aw aM aR aN aS e0 e1 e2 e3 e4 o0 o1 o2 q0 q1 q2
 have gb:=hc3
 obtain ⟨ae,af,ag,am,an,aM,aN⟩:=al.out _ gb
 obtain ⟨ah,ai,ak,au,aw,aR,aS⟩:=bQ.out _ gb
 obtain z0:=bR.out _ gb
 obtain ⟨e0,e1,e2,e3,e4⟩:=(i1.to gb)
 obtain ⟨o0,o1,o2,q0,q1,q2⟩:=(i2.to gb)
 have z3:=T3.lt
 obtain ⟨b9,cd,ch,ce,cf,ci⟩:=T3
 clear hgb
 obtain ⟨W1,aK⟩:∃ W,wc=W:=⟨_,rfl⟩
 subst aK
 replace i0:=i0.to gb
 replace i1:=i1.to gb
 replace i2:=i2.to gb
 replace zb:=bS zb gb
 have HXwc:=Lib.hid (show ∀ W',Below wc.heap.size wc W'->(Bx7 W' w.heap.size (.int .i64 1) (.int .i64 (T:Int)) (.int .i64 xa) (.int .i64 xb) (.bool ng) (.slice a0 n0 c0) (.slice a1 n1 c1)/\Bx3 W' B3 (.bool ng2) (.slice a2_ n2_ c2_) (.slice p2_ m2_ k2_)) from fun W' hb => by
   refine ⟨bx7 hb ?_ ?_ ?_ ?_ ?_ ?_ ?_ ?_ ?_ ?_ ?_ ?_ ?_ ?_,bx3 hb ?_ ?_ ?_ ?_ ?_ ?_⟩
   all_goals first|assumption|assumption)
 replace gb:=Below.refl wc.heap.size wc
 go_wp2_with fail
 obtain ⟨m,hm9⟩:∃ m:Nat,((max (zc v.num.natAbs).length (zc v.den).length:Nat))=m:=⟨_,rfl⟩
 have HM:=Lib.hid (show ((max (zc v.num.natAbs).length (zc v.den).length:Nat):Int)=(m:Int) by rw [hm9])
 have hm4:m<=4096:=by have:=Hs.out;unfold szq at this;rw [ze,ze] at hm9;omega
 have t4:decide (4096<m)=false:=decide_eq_false (by omega)
 have t5:decide ((4096:Int)<(m:Int))=false:=decide_eq_false (by omega)
 clear hm9 hm4
 refine (zx ng2 _ _ _ _ _ (g2.to gb).isF (m:Int) HM.out).mono ?_
 clear ae ah af ai ag ak am au an aw aM aR aN aS b9 ce cd cf ch ci e0 e1 e2 e3 e4 o0 o1 o2 q0 q1 q2
 rintro e w3 ⟨rfl,bM⟩
 replace gb:=bS gb bM
 obtain ⟨⟨z0,ae,af,ag,am,an,aM,aN,ah,ai,ak,au,aw,aR,aS⟩,⟨z3,b9,cd,ch,ce,cf,ci⟩⟩:=HXwc.out _ gb
 obtain ⟨e0,e1,e2,e3,e4⟩:=(i1.to gb)
 obtain ⟨o0,o1,o2,q0,q1,q2⟩:=(i2.to gb)
 go_wp2_with fail
 go_region
 go_wp2_with fail
 go_ret
 exact ⟨_,_,_,_,rfl,bS zb gb,(g2.to gb).isK,.inr rfl⟩

theorem zig (mB g N:Nat) (u vJ:Value) (rows cols:Int) (T:Nat) (xa xb:Int) (ng:Bool) (vn vd:Value) (ln ld:List Nat) (d0 d1 d2:Value) {v:Rat}  (w:World) (hw:IsF w vn vd ln ld) (hm:zy w mB g N u vJ rows cols) (hN:N<=100000) (hT:T<N) (ho:zE w g (T*3) d0 d1 d2) (hs:szq v<=4096) (hcall:∀ V,Below w.heap.size w V->Calls Try.prog 34 #[.pointer (some ⟨mB,0,none⟩),.agg #[.int .i64 2,.int .i64 (T:Int),.int .i64 xa,.int .i64 xb,.bool ng,vn,vd]] V (zp V v))  :
  Calls Try.prog 11 #[.pointer (some ⟨mB,0,none⟩),.agg #[.int .i64 2,.int .i64 (T:Int),.int .i64 xa,.int .i64 xb,.bool ng,vn,vd]] w (zbU w g (T*3) v):=by
 obtain ⟨a0,n0,c0,rfl,H0,hm0⟩:=hw.1.open
 obtain ⟨a1,n1,c1,rfl,H1,hm1⟩:=hw.2.open
 have hTi:(T:Int)<(N:Int):=by omega
 have lm:=hm.lt
 have lo:=ho.lt
 have Hs:=Lib.hid hs
 have HC:=Lib.hid hcall
 clear hs hcall
 go_enter Try.func11,Try.ntmps11
 go_wp2_with fail
 obtain ⟨W0,aq⟩:∃ W0,w.alloc (.cells #[.int .i64 2,.int .i64 (T:Int),.int .i64 xa,.int .i64 xb,.bool ng,.slice a0 n0 c0,.slice a1 n1 c1] 27)=W0:=⟨_,rfl⟩
 have al:=Lib.hid (show ∀ W',Below W0.heap.size W0 W'->(W'.cell? ⟨w.heap.size,0,none⟩=some (.int .i64 2)/\W'.cell? ⟨w.heap.size,1,none⟩=some (.int .i64 (T:Int))/\W'.cell? ⟨w.heap.size,2,none⟩=some (.int .i64 xa)/\W'.cell? ⟨w.heap.size,3,none⟩=some (.int .i64 xb)/\W'.cell? ⟨w.heap.size,4,none⟩=some (.bool ng)/\W'.cell? ⟨w.heap.size,5,none⟩=some (.slice a0 n0 c0)/\W'.cell? ⟨w.heap.size,6,none⟩=some (.slice a1 n1 c1)) from fun W' hb =>
  by and_intros <;> exact kc hb (by first|assumption|(rw [<- aq];simp [go_sem])))
 have bQ:=Lib.hid (show ∀ W',Below W0.heap.size W0 W'->(W'.frozen? ⟨w.heap.size,0,none⟩=false/\W'.frozen? ⟨w.heap.size,1,none⟩=false/\W'.frozen? ⟨w.heap.size,2,none⟩=false/\W'.frozen? ⟨w.heap.size,3,none⟩=false/\W'.frozen? ⟨w.heap.size,4,none⟩=false/\W'.frozen? ⟨w.heap.size,5,none⟩=false/\W'.frozen? ⟨w.heap.size,6,none⟩=false) from fun W' hb =>
  by and_intros <;> refine (hb.frozen ?_).trans ?_ <;> first|assumption|(rw [<- aq];simp [go_sem])|(rw [<- aq];simp <;> omega))
 have bR:=Lib.hid (show ∀ W',Below W0.heap.size W0 W'->(w.heap.size<W'.heap.size) from fun W' hb =>
  Nat.lt_of_lt_of_le (by rw [<- aq];simp <;> omega) hb.size)
 have zb:Below w.heap.size w W0:=by rw [<- aq];exact bN _ _
 rw [aq]
 clear aq
 have i0:=hw.to zb
 have i1:=hm.to zb
 have i2:=ho.to zb
 have gb:Below W0.heap.size W0 W0:=Below.refl _ _
 obtain ⟨ae,af,ag,am,an,aM,aN⟩:=al.out _ gb
 obtain ⟨ah,ai,ak,au,aw,aR,aS⟩:=bQ.out _ gb
 obtain z0:=bR.out _ gb
 obtain ⟨e0,e1,e2,e3,e4⟩:=(i1.to gb)
 obtain ⟨o0,o1,o2,q0,q1,q2⟩:=(i2.to gb)
 go_wp2_with fail
 have htab:=tab_2
 have hgb:=gb
 go_upto_region 4 with fail
 go_cut [5,6] from 28 (fun s5 s6 wx => zaw W0 (v) s5 wx/\s6=.int .i64 0)
 case first =>
  go_region_held3 (fun W' => W'.cell? ⟨w.heap.size,0,none⟩=some (.int .i64 2)/\W'.cell? ⟨w.heap.size,1,none⟩=some (.int .i64 (T:Int))/\W'.cell? ⟨w.heap.size,2,none⟩=some (.int .i64 xa)/\W'.cell? ⟨w.heap.size,3,none⟩=some (.int .i64 xb)/\W'.cell? ⟨w.heap.size,4,none⟩=some (.bool ng)/\W'.cell? ⟨w.heap.size,5,none⟩=some (.slice a0 n0 c0)/\W'.cell? ⟨w.heap.size,6,none⟩=some (.slice a1 n1 c1)) (first|(with_reducible exact al.out _ gb)|((with_reducible refine al.out _ ?_);repeat' (first|(with_reducible exact gb)|(with_reducible refine Below.drew ?_)|(with_reducible refine bS ?_ (bN _ _))|(with_reducible refine bT ?_ ?_ _ _ _)|(with_reducible exact ay)|(with_reducible exact az)|omega))) (first
   | (go_at_call 34;(refine zf w1 (by with_reducible first|exact Below.refl _ _|exact bN _ _) ?_);intro V2 cH bn;have cS:=bn.size;have cN:=gb.size;have gb:=bS gb bn;(try have ac:=ac.to bn);(try have ap:Tri V2 (w1.heap.size) (.bool false) (.slice none 0 0) (.slice none 0 0):=(by rw [cH];with_reducible first|exact zd _ (.bool false) (.slice none 0 0) (.slice none 0 0) _|exact (zd _ (.bool false) (.slice none 0 0) (.slice none 0 0) _).alloc _));have az:W0.heap.size<=w1.heap.size:=(cN);(try have aH:=ac.lt);(try have aI:=ap.lt);(with_reducible refine (HC.out _ (bS zb gb)).mono ?_);rintro e w2 ⟨ng2,a2_,n2_,c2_,p2_,m2_,k2_,rfl,g2,aL⟩;have gb:=bS gb aL;have da:=aL.size;(try have ac:=ac.to aL);(try have ap:=ap.to aL);(try have bC:=ac.lt);(try have bE:=ap.lt);(try (have aG:=ac;obtain ⟨aU,aV,aW,aX,aY,aZ⟩:=aG));(try (have bj:=ap;obtain ⟨bU,bV,bW,bX,bY,bZ⟩:=bj)))
   | (go_at_call 21;(refine zf W0 (by with_reducible first|exact (Below.refl _ _).drew|exact (bN _ _).drew) ?_);intro V1 cI bP;have cR:=bP.size;have cC:=gb.size;have gb:=bS gb bP;(try have ac:Tri V1 (W0.heap.size) (.bool false) (.slice none 0 0) (.slice none 0 0):=(by rw [cI];with_reducible first|exact (zd _ (.bool false) (.slice none 0 0) (.slice none 0 0) _).drew|exact ((zd _ (.bool false) (.slice none 0 0) (.slice none 0 0) _).alloc _).drew));have ay:W0.heap.size<=W0.heap.size:=(cC);(try have aQ:=ac.lt);(with_reducible refine (zK _).mono ?_);rintro e w1 ⟨rfl,aT⟩;have gb:=bS gb aT;have c8:=aT.size;(try have ac:=ac.to aT);(try have bi:=ac.lt);(try (have aG:=ac;obtain ⟨aU,aV,aW,aX,aY,aZ⟩:=aG))))
  all_goals (go_wp2_with fail;go_meet)
  all_goals refine ⟨?_,rfl⟩
  all_goals first
   | (with_reducible exact zk ac g2 (.inl aH) gb ay)
   | (with_reducible exact zk ap g2 (.inl aI) gb az)
   | (with_reducible exact zG g2 gb)
 case rest =>
 obtain ⟨⟨B3,ng2,a2_,n2_,c2_,p2_,m2_,k2_,lo3,hi3,rfl,hB3,T3,g2,hc3⟩,rfl⟩:=hcut
 clear ae ah af ai ag ak am au an aw aM aR aN aS e0 e1 e2 e3 e4 o0 o1 o2 q0 q1 q2
 have gb:=hc3
 obtain ⟨ae,af,ag,am,an,aM,aN⟩:=al.out _ gb
 obtain ⟨ah,ai,ak,au,aw,aR,aS⟩:=bQ.out _ gb
 obtain z0:=bR.out _ gb
 obtain ⟨e0,e1,e2,e3,e4⟩:=(i1.to gb)
 obtain ⟨o0,o1,o2,q0,q1,q2⟩:=(i2.to gb)
 have z3:=T3.lt
 obtain ⟨b9,cd,ch,ce,cf,ci⟩:=T3
 clear hgb
 obtain ⟨W1,aK⟩:∃ W,wc=W:=⟨_,rfl⟩
 subst aK
 replace i0:=i0.to gb
 replace i1:=i1.to gb
 replace i2:=i2.to gb
 replace zb:=bS zb gb
 have HXwc:=Lib.hid (show ∀ W',Below wc.heap.size wc W'->(Bx7 W' w.heap.size (.int .i64 2) (.int .i64 (T:Int)) (.int .i64 xa) (.int .i64 xb) (.bool ng) (.slice a0 n0 c0) (.slice a1 n1 c1)/\Bx3 W' B3 (.bool ng2) (.slice a2_ n2_ c2_) (.slice p2_ m2_ k2_)) from fun W' hb => by
   refine ⟨bx7 hb ?_ ?_ ?_ ?_ ?_ ?_ ?_ ?_ ?_ ?_ ?_ ?_ ?_ ?_,bx3 hb ?_ ?_ ?_ ?_ ?_ ?_⟩
   all_goals first|assumption|assumption)
 replace gb:=Below.refl wc.heap.size wc
 go_wp2_with fail
 obtain ⟨m,hm9⟩:∃ m:Nat,((max (zc v.num.natAbs).length (zc v.den).length:Nat))=m:=⟨_,rfl⟩
 have HM:=Lib.hid (show ((max (zc v.num.natAbs).length (zc v.den).length:Nat):Int)=(m:Int) by rw [hm9])
 have hm4:m<=4096:=by have:=Hs.out;unfold szq at this;rw [ze,ze] at hm9;omega
 have t4:decide (4096<m)=false:=decide_eq_false (by omega)
 have t5:decide ((4096:Int)<(m:Int))=false:=decide_eq_false (by omega)
 clear hm9 hm4
 refine (zx ng2 _ _ _ _ _ (g2.to gb).isF (m:Int) HM.out).mono ?_
 clear ae ah af ai ag ak am au an aw aM aR aN aS b9 ce cd cf ch ci e0 e1 e2 e3 e4 o0 o1 o2 q0 q1 q2
 rintro e w3 ⟨rfl,bM⟩
 replace gb:=bS gb bM
 obtain ⟨⟨z0,ae,af,ag,am,an,aM,aN,ah,ai,ak,au,aw,aR,aS⟩,⟨z3,b9,cd,ch,ce,cf,ci⟩⟩:=HXwc.out _ gb
 obtain ⟨e0,e1,e2,e3,e4⟩:=(i1.to gb)
 obtain ⟨o0,o1,o2,q0,q1,q2⟩:=(i2.to gb)
 go_wp2_with fail
 go_region
 go_wp2_with fail
 go_ret
 exact ⟨_,_,_,_,rfl,bS zb gb,(g2.to gb).isK,.inr rfl⟩

theorem zih (mB g N:Nat) (u vJ:Value) (rows cols:Int) (T:Nat) (xa xb:Int) (ng:Bool) (vn vd:Value) (ln ld:List Nat) (d0 d1 d2:Value) {v:Rat}  (w:World) (hw:IsF w vn vd ln ld) (hm:zy w mB g N u vJ rows cols) (hN:N<=100000) (hT:T<N) (ho:zE w g (T*3) d0 d1 d2) (hs:szq v<=4096) (hcall:∀ V,Below w.heap.size w V->Calls Try.prog 35 #[.pointer (some ⟨mB,0,none⟩),.agg #[.int .i64 3,.int .i64 (T:Int),.int .i64 xa,.int .i64 xb,.bool ng,vn,vd]] V (zp V v))  :
  Calls Try.prog 11 #[.pointer (some ⟨mB,0,none⟩),.agg #[.int .i64 3,.int .i64 (T:Int),.int .i64 xa,.int .i64 xb,.bool ng,vn,vd]] w (zbU w g (T*3) v):=by
 obtain ⟨a0,n0,c0,rfl,H0,hm0⟩:=hw.1.open
 obtain ⟨a1,n1,c1,rfl,H1,hm1⟩:=hw.2.open
 have hTi:(T:Int)<(N:Int):=by omega
 have lm:=hm.lt
 have lo:=ho.lt
 have Hs:=Lib.hid hs
 have HC:=Lib.hid hcall
 clear hs hcall
 go_enter Try.func11,Try.ntmps11
 go_wp2_with fail
 obtain ⟨W0,aq⟩:∃ W0,w.alloc (.cells #[.int .i64 3,.int .i64 (T:Int),.int .i64 xa,.int .i64 xb,.bool ng,.slice a0 n0 c0,.slice a1 n1 c1] 27)=W0:=⟨_,rfl⟩
 have al:=Lib.hid (show ∀ W',Below W0.heap.size W0 W'->(W'.cell? ⟨w.heap.size,0,none⟩=some (.int .i64 3)/\W'.cell? ⟨w.heap.size,1,none⟩=some (.int .i64 (T:Int))/\W'.cell? ⟨w.heap.size,2,none⟩=some (.int .i64 xa)/\W'.cell? ⟨w.heap.size,3,none⟩=some (.int .i64 xb)/\W'.cell? ⟨w.heap.size,4,none⟩=some (.bool ng)/\W'.cell? ⟨w.heap.size,5,none⟩=some (.slice a0 n0 c0)/\W'.cell? ⟨w.heap.size,6,none⟩=some (.slice a1 n1 c1)) from fun W' hb =>
  by and_intros <;> exact kc hb (by first|assumption|(rw [<- aq];simp [go_sem])))
 have bQ:=Lib.hid (show ∀ W',Below W0.heap.size W0 W'->(W'.frozen? ⟨w.heap.size,0,none⟩=false/\W'.frozen? ⟨w.heap.size,1,none⟩=false/\W'.frozen? ⟨w.heap.size,2,none⟩=false/\W'.frozen? ⟨w.heap.size,3,none⟩=false/\W'.frozen? ⟨w.heap.size,4,none⟩=false/\W'.frozen? ⟨w.heap.size,5,none⟩=false/\W'.frozen? ⟨w.heap.size,6,none⟩=false) from fun W' hb =>
  by and_intros <;> refine (hb.frozen ?_).trans ?_ <;> first|assumption|(rw [<- aq];simp [go_sem])|(rw [<- aq];simp <;> omega))
 have bR:=Lib.hid (show ∀ W',Below W0.heap.size W0 W'->(w.heap.size<W'.heap.size) from fun W' hb =>
  Nat.lt_of_lt_of_le (by rw [<- aq];simp <;> omega) hb.size)
 have zb:Below w.heap.size w W0:=by rw [<- aq];exact bN _ _
 rw [aq]
 clear aq
 have i0:=hw.to zb
 have i1:=hm.to zb
 have i2:=ho.to zb
 have gb:Below W0.heap.size W0 W0:=Below.refl _ _
 obtain ⟨ae,af,ag,am,an,aM,aN⟩:=al.out _ gb
 obtain ⟨ah,ai,ak,au,aw,aR,aS⟩:=bQ.out _ gb
 obtain z0:=bR.out _ gb
 obtain ⟨e0,e1,e2,e3,e4⟩:=(i1.to gb)
 obtain ⟨o0,o1,o2,q0,q1,q2⟩:=(i2.to gb)
 go_wp2_with fail
 have htab:=tab_3
 have hgb:=gb
 go_upto_region 4 with fail
 go_cut [5,6] from 28 (fun s5 s6 wx => zaw W0 (v) s5 wx/\s6=.int .i64 0)
 case first =>
  go_region_held3 (fun W' => W'.cell? ⟨w.heap.size,0,none⟩=some (.int .i64 3)/\W'.cell? ⟨w.heap.size,1,none⟩=some (.int .i64 (T:Int))/\W'.cell? ⟨w.heap.size,2,none⟩=some (.int .i64 xa)/\W'.cell? ⟨w.heap.size,3,none⟩=some (.int .i64 xb)/\W'.cell? ⟨w.heap.size,4,none⟩=some (.bool ng)/\W'.cell? ⟨w.heap.size,5,none⟩=some (.slice a0 n0 c0)/\W'.cell? ⟨w.heap.size,6,none⟩=some (.slice a1 n1 c1)) (first|(with_reducible exact al.out _ gb)|((with_reducible refine al.out _ ?_);repeat' (first|(with_reducible exact gb)|(with_reducible refine Below.drew ?_)|(with_reducible refine bS ?_ (bN _ _))|(with_reducible refine bT ?_ ?_ _ _ _)|(with_reducible exact ay)|(with_reducible exact az)|omega))) (first
   | (go_at_call 35;(refine zf w1 (by with_reducible first|exact Below.refl _ _|exact bN _ _) ?_);intro V2 cH bn;have cS:=bn.size;have cN:=gb.size;have gb:=bS gb bn;(try have ac:=ac.to bn);(try have ap:Tri V2 (w1.heap.size) (.bool false) (.slice none 0 0) (.slice none 0 0):=(by rw [cH];with_reducible first|exact zd _ (.bool false) (.slice none 0 0) (.slice none 0 0) _|exact (zd _ (.bool false) (.slice none 0 0) (.slice none 0 0) _).alloc _));have az:W0.heap.size<=w1.heap.size:=(cN);(try have aH:=ac.lt);(try have aI:=ap.lt);(with_reducible refine (HC.out _ (bS zb gb)).mono ?_);rintro e w2 ⟨ng2,a2_,n2_,c2_,p2_,m2_,k2_,rfl,g2,aL⟩;have gb:=bS gb aL;have da:=aL.size;(try have ac:=ac.to aL);(try have ap:=ap.to aL);(try have bC:=ac.lt);(try have bE:=ap.lt);(try (have aG:=ac;obtain ⟨aU,aV,aW,aX,aY,aZ⟩:=aG));(try (have bj:=ap;obtain ⟨bU,bV,bW,bX,bY,bZ⟩:=bj)))
   | (go_at_call 21;(refine zf W0 (by with_reducible first|exact (Below.refl _ _).drew|exact (bN _ _).drew) ?_);intro V1 cI bP;have cR:=bP.size;have cC:=gb.size;have gb:=bS gb bP;(try have ac:Tri V1 (W0.heap.size) (.bool false) (.slice none 0 0) (.slice none 0 0):=(by rw [cI];with_reducible first|exact (zd _ (.bool false) (.slice none 0 0) (.slice none 0 0) _).drew|exact ((zd _ (.bool false) (.slice none 0 0) (.slice none 0 0) _).alloc _).drew));have ay:W0.heap.size<=W0.heap.size:=(cC);(try have aQ:=ac.lt);(with_reducible refine (zK _).mono ?_);rintro e w1 ⟨rfl,aT⟩;have gb:=bS gb aT;have c8:=aT.size;(try have ac:=ac.to aT);(try have bi:=ac.lt);(try (have aG:=ac;obtain ⟨aU,aV,aW,aX,aY,aZ⟩:=aG))))
  all_goals (go_wp2_with fail;go_meet)
  all_goals refine ⟨?_,rfl⟩
  all_goals first
   | (with_reducible exact zk ac g2 (.inl aH) gb ay)
   | (with_reducible exact zk ap g2 (.inl aI) gb az)
   | (with_reducible exact zG g2 gb)
 case rest =>
 obtain ⟨⟨B3,ng2,a2_,n2_,c2_,p2_,m2_,k2_,lo3,hi3,rfl,hB3,T3,g2,hc3⟩,rfl⟩:=hcut
 clear ae ah af ai ag ak am au an aw aM aR aN aS e0 e1 e2 e3 e4 o0 o1 o2 q0 q1 q2
 have gb:=hc3
 obtain ⟨ae,af,ag,am,an,aM,aN⟩:=al.out _ gb
 obtain ⟨ah,ai,ak,au,aw,aR,aS⟩:=bQ.out _ gb
 obtain z0:=bR.out _ gb
 obtain ⟨e0,e1,e2,e3,e4⟩:=(i1.to gb)
 obtain ⟨o0,o1,o2,q0,q1,q2⟩:=(i2.to gb)
 have z3:=T3.lt
 obtain ⟨b9,cd,ch,ce,cf,ci⟩:=T3
 clear hgb
 obtain ⟨W1,aK⟩:∃ W,wc=W:=⟨_,rfl⟩
 subst aK
 replace i0:=i0.to gb
 replace i1:=i1.to gb
 replace i2:=i2.to gb
 replace zb:=bS zb gb
 have HXwc:=Lib.hid (show ∀ W',Below wc.heap.size wc W'->(Bx7 W' w.heap.size (.int .i64 3) (.int .i64 (T:Int)) (.int .i64 xa) (.int .i64 xb) (.bool ng) (.slice a0 n0 c0) (.slice a1 n1 c1)/\Bx3 W' B3 (.bool ng2) (.slice a2_ n2_ c2_) (.slice p2_ m2_ k2_)) from fun W' hb => by
   refine ⟨bx7 hb ?_ ?_ ?_ ?_ ?_ ?_ ?_ ?_ ?_ ?_ ?_ ?_ ?_ ?_,bx3 hb ?_ ?_ ?_ ?_ ?_ ?_⟩
   all_goals first|assumption|assumption)
 replace gb:=Below.refl wc.heap.size wc
 go_wp2_with fail
 obtain ⟨m,hm9⟩:∃ m:Nat,((max (zc v.num.natAbs).length (zc v.den).length:Nat))=m:=⟨_,rfl⟩
 have HM:=Lib.hid (show ((max (zc v.num.natAbs).length (zc v.den).length:Nat):Int)=(m:Int) by rw [hm9])
 have hm4:m<=4096:=by have:=Hs.out;unfold szq at this;rw [ze,ze] at hm9;omega
 have t4:decide (4096<m)=false:=decide_eq_false (by omega)
 have t5:decide ((4096:Int)<(m:Int))=false:=decide_eq_false (by omega)
 clear hm9 hm4
 refine (zx ng2 _ _ _ _ _ (g2.to gb).isF (m:Int) HM.out).mono ?_
 clear ae ah af ai ag ak am au an aw aM aR aN aS b9 ce cd cf ch ci e0 e1 e2 e3 e4 o0 o1 o2 q0 q1 q2
 rintro e w3 ⟨rfl,bM⟩
 replace gb:=bS gb bM
 obtain ⟨⟨z0,ae,af,ag,am,an,aM,aN,ah,ai,ak,au,aw,aR,aS⟩,⟨z3,b9,cd,ch,ce,cf,ci⟩⟩:=HXwc.out _ gb
 obtain ⟨e0,e1,e2,e3,e4⟩:=(i1.to gb)
 obtain ⟨o0,o1,o2,q0,q1,q2⟩:=(i2.to gb)
 go_wp2_with fail
 go_region
 go_wp2_with fail
 go_ret
 exact ⟨_,_,_,_,rfl,bS zb gb,(g2.to gb).isK,.inr rfl⟩

theorem zii (mB g N:Nat) (u vJ:Value) (rows cols:Int) (T:Nat) (xa xb:Int) (ng:Bool) (vn vd:Value) (ln ld:List Nat) (d0 d1 d2:Value) {v:Rat}  (w:World) (hw:IsF w vn vd ln ld) (hm:zy w mB g N u vJ rows cols) (hN:N<=100000) (hT:T<N) (ho:zE w g (T*3) d0 d1 d2) (hs:szq v<=4096) (hcall:∀ V,Below w.heap.size w V->Calls Try.prog 36 #[.pointer (some ⟨mB,0,none⟩),.agg #[.int .i64 4,.int .i64 (T:Int),.int .i64 xa,.int .i64 xb,.bool ng,vn,vd]] V (zp V v))  :
  Calls Try.prog 11 #[.pointer (some ⟨mB,0,none⟩),.agg #[.int .i64 4,.int .i64 (T:Int),.int .i64 xa,.int .i64 xb,.bool ng,vn,vd]] w (zbU w g (T*3) v):=by
 obtain ⟨a0,n0,c0,rfl,H0,hm0⟩:=hw.1.open
 obtain ⟨a1,n1,c1,rfl,H1,hm1⟩:=hw.2.open
 have hTi:(T:Int)<(N:Int):=by omega
 have lm:=hm.lt
 have lo:=ho.lt
 have Hs:=Lib.hid hs
 have HC:=Lib.hid hcall
 clear hs hcall
 go_enter Try.func11,Try.ntmps11
 go_wp2_with fail
 obtain ⟨W0,aq⟩:∃ W0,w.alloc (.cells #[.int .i64 4,.int .i64 (T:Int),.int .i64 xa,.int .i64 xb,.bool ng,.slice a0 n0 c0,.slice a1 n1 c1] 27)=W0:=⟨_,rfl⟩
 have al:=Lib.hid (show ∀ W',Below W0.heap.size W0 W'->(W'.cell? ⟨w.heap.size,0,none⟩=some (.int .i64 4)/\W'.cell? ⟨w.heap.size,1,none⟩=some (.int .i64 (T:Int))/\W'.cell? ⟨w.heap.size,2,none⟩=some (.int .i64 xa)/\W'.cell? ⟨w.heap.size,3,none⟩=some (.int .i64 xb)/\W'.cell? ⟨w.heap.size,4,none⟩=some (.bool ng)/\W'.cell? ⟨w.heap.size,5,none⟩=some (.slice a0 n0 c0)/\W'.cell? ⟨w.heap.size,6,none⟩=some (.slice a1 n1 c1)) from fun W' hb =>
  by and_intros <;> exact kc hb (by first|assumption|(rw [<- aq];simp [go_sem])))
 have bQ:=Lib.hid (show ∀ W',Below W0.heap.size W0 W'->(W'.frozen? ⟨w.heap.size,0,none⟩=false/\W'.frozen? ⟨w.heap.size,1,none⟩=false/\W'.frozen? ⟨w.heap.size,2,none⟩=false/\W'.frozen? ⟨w.heap.size,3,none⟩=false/\W'.frozen? ⟨w.heap.size,4,none⟩=false/\W'.frozen? ⟨w.heap.size,5,none⟩=false/\W'.frozen? ⟨w.heap.size,6,none⟩=false) from fun W' hb =>
  by and_intros <;> refine (hb.frozen ?_).trans ?_ <;> first|assumption|(rw [<- aq];simp [go_sem])|(rw [<- aq];simp <;> omega))
 have bR:=Lib.hid (show ∀ W',Below W0.heap.size W0 W'->(w.heap.size<W'.heap.size) from fun W' hb =>
  Nat.lt_of_lt_of_le (by rw [<- aq];simp <;> omega) hb.size)
 have zb:Below w.heap.size w W0:=by rw [<- aq];exact bN _ _
 rw [aq]
 clear aq
 have i0:=hw.to zb
 have i1:=hm.to zb
 have i2:=ho.to zb
 have gb:Below W0.heap.size W0 W0:=Below.refl _ _
 obtain ⟨ae,af,ag,am,an,aM,aN⟩:=al.out _ gb
 obtain ⟨ah,ai,ak,au,aw,aR,aS⟩:=bQ.out _ gb
 obtain z0:=bR.out _ gb
 obtain ⟨e0,e1,e2,e3,e4⟩:=(i1.to gb)
 obtain ⟨o0,o1,o2,q0,q1,q2⟩:=(i2.to gb)
 go_wp2_with fail
 have htab:=tab_4
 have hgb:=gb
 go_upto_region 4 with fail
 go_cut [5,6] from 28 (fun s5 s6 wx => zaw W0 (v) s5 wx/\s6=.int .i64 0)
 case first =>
  go_region_held3 (fun W' => W'.cell? ⟨w.heap.size,0,none⟩=some (.int .i64 4)/\W'.cell? ⟨w.heap.size,1,none⟩=some (.int .i64 (T:Int))/\W'.cell? ⟨w.heap.size,2,none⟩=some (.int .i64 xa)/\W'.cell? ⟨w.heap.size,3,none⟩=some (.int .i64 xb)/\W'.cell? ⟨w.heap.size,4,none⟩=some (.bool ng)/\W'.cell? ⟨w.heap.size,5,none⟩=some (.slice a0 n0 c0)/\W'.cell? ⟨w.heap.size,6,none⟩=some (.slice a1 n1 c1)) (first|(with_reducible exact al.out _ gb)|((with_reducible refine al.out _ ?_);repeat' (first|(with_reducible exact gb)|(with_reducible refine Below.drew ?_)|(with_reducible refine bS ?_ (bN _ _))|(with_reducible refine bT ?_ ?_ _ _ _)|(with_reducible exact ay)|(with_reducible exact az)|omega))) (first
   | (go_at_call 36;(refine zf w1 (by with_reducible first|exact Below.refl _ _|exact bN _ _) ?_);intro V2 cH bn;have cS:=bn.size;have cN:=gb.size;have gb:=bS gb bn;(try have ac:=ac.to bn);(try have ap:Tri V2 (w1.heap.size) (.bool false) (.slice none 0 0) (.slice none 0 0):=(by rw [cH];with_reducible first|exact zd _ (.bool false) (.slice none 0 0) (.slice none 0 0) _|exact (zd _ (.bool false) (.slice none 0 0) (.slice none 0 0) _).alloc _));have az:W0.heap.size<=w1.heap.size:=(cN);(try have aH:=ac.lt);(try have aI:=ap.lt);(with_reducible refine (HC.out _ (bS zb gb)).mono ?_);rintro e w2 ⟨ng2,a2_,n2_,c2_,p2_,m2_,k2_,rfl,g2,aL⟩;have gb:=bS gb aL;have da:=aL.size;(try have ac:=ac.to aL);(try have ap:=ap.to aL);(try have bC:=ac.lt);(try have bE:=ap.lt);(try (have aG:=ac;obtain ⟨aU,aV,aW,aX,aY,aZ⟩:=aG));(try (have bj:=ap;obtain ⟨bU,bV,bW,bX,bY,bZ⟩:=bj)))
   | (go_at_call 21;(refine zf W0 (by with_reducible first|exact (Below.refl _ _).drew|exact (bN _ _).drew) ?_);intro V1 cI bP;have cR:=bP.size;have cC:=gb.size;have gb:=bS gb bP;(try have ac:Tri V1 (W0.heap.size) (.bool false) (.slice none 0 0) (.slice none 0 0):=(by rw [cI];with_reducible first|exact (zd _ (.bool false) (.slice none 0 0) (.slice none 0 0) _).drew|exact ((zd _ (.bool false) (.slice none 0 0) (.slice none 0 0) _).alloc _).drew));have ay:W0.heap.size<=W0.heap.size:=(cC);(try have aQ:=ac.lt);(with_reducible refine (zK _).mono ?_);rintro e w1 ⟨rfl,aT⟩;have gb:=bS gb aT;have c8:=aT.size;(try have ac:=ac.to aT);(try have bi:=ac.lt);(try (have aG:=ac;obtain ⟨aU,aV,aW,aX,aY,aZ⟩:=aG))))
  all_goals (go_wp2_with fail;go_meet)
  all_goals refine ⟨?_,rfl⟩
  all_goals first
   | (with_reducible exact zk ac g2 (.inl aH) gb ay)
   | (with_reducible exact zk ap g2 (.inl aI) gb az)
   | (with_reducible exact zG g2 gb)
 case rest =>
 obtain ⟨⟨B3,ng2,a2_,n2_,c2_,p2_,m2_,k2_,lo3,hi3,rfl,hB3,T3,g2,hc3⟩,rfl⟩:=hcut
 clear ae ah af ai ag ak am au an aw aM aR aN aS e0 e1 e2 e3 e4 o0 o1 o2 q0 q1 q2
 have gb:=hc3
 obtain ⟨ae,af,ag,am,an,aM,aN⟩:=al.out _ gb
 obtain ⟨ah,ai,ak,au,aw,aR,aS⟩:=bQ.out _ gb
 obtain z0:=bR.out _ gb
 obtain ⟨e0,e1,e2,e3,e4⟩:=(i1.to gb)
 obtain ⟨o0,o1,o2,q0,q1,q2⟩:=(i2.to gb)
 have z3:=T3.lt
 obtain ⟨b9,cd,ch,ce,cf,ci⟩:=T3
 clear hgb
 obtain ⟨W1,aK⟩:∃ W,wc=W:=⟨_,rfl⟩
 subst aK
 replace i0:=i0.to gb
 replace i1:=i1.to gb
 replace i2:=i2.to gb
 replace zb:=bS zb gb
 have HXwc:=Lib.hid (show ∀ W',Below wc.heap.size wc W'->(Bx7 W' w.heap.size (.int .i64 4) (.int .i64 (T:Int)) (.int .i64 xa) (.int .i64 xb) (.bool ng) (.slice a0 n0 c0) (.slice a1 n1 c1)/\Bx3 W' B3 (.bool ng2) (.slice a2_ n2_ c2_) (.slice p2_ m2_ k2_)) from fun W' hb => by
   refine ⟨bx7 hb ?_ ?_ ?_ ?_ ?_ ?_ ?_ ?_ ?_ ?_ ?_ ?_ ?_ ?_,bx3 hb ?_ ?_ ?_ ?_ ?_ ?_⟩
   all_goals first|assumption|assumption)
 replace gb:=Below.refl wc.heap.size wc
 go_wp2_with fail
 obtain ⟨m,hm9⟩:∃ m:Nat,((max (zc v.num.natAbs).length (zc v.den).length:Nat))=m:=⟨_,rfl⟩
 have HM:=Lib.hid (show ((max (zc v.num.natAbs).length (zc v.den).length:Nat):Int)=(m:Int) by rw [hm9])
 have hm4:m<=4096:=by have:=Hs.out;unfold szq at this;rw [ze,ze] at hm9;omega
 have t4:decide (4096<m)=false:=decide_eq_false (by omega)
 have t5:decide ((4096:Int)<(m:Int))=false:=decide_eq_false (by omega)
 clear hm9 hm4
 refine (zx ng2 _ _ _ _ _ (g2.to gb).isF (m:Int) HM.out).mono ?_
 clear ae ah af ai ag ak am au an aw aM aR aN aS b9 ce cd cf ch ci e0 e1 e2 e3 e4 o0 o1 o2 q0 q1 q2
 rintro e w3 ⟨rfl,bM⟩
 replace gb:=bS gb bM
 obtain ⟨⟨z0,ae,af,ag,am,an,aM,aN,ah,ai,ak,au,aw,aR,aS⟩,⟨z3,b9,cd,ch,ce,cf,ci⟩⟩:=HXwc.out _ gb
 obtain ⟨e0,e1,e2,e3,e4⟩:=(i1.to gb)
 obtain ⟨o0,o1,o2,q0,q1,q2⟩:=(i2.to gb)
 go_wp2_with fail
 go_region
 go_wp2_with fail
 go_ret
 exact ⟨_,_,_,_,rfl,bS zb gb,(g2.to gb).isK,.inr rfl⟩

end Go.Proofs.Ytkjcdnlpjldhaaa


namespace Go.Proofs.Ytkjcdnlpjldhaaa
open Go.RowKit Tw
attribute [local go_sem ↓] Go.wp_at_zero Go.wp_at_succ

theorem zij (mB g N:Nat) (u vJ:Value) (rows cols:Int) (T:Nat) (xa xb:Int) (ng:Bool) (vn vd:Value) (ln ld:List Nat) (d0 d1 d2:Value) {v:Rat}  (w:World) (hw:IsF w vn vd ln ld) (hm:zy w mB g N u vJ rows cols) (hN:N<=100000) (hT:T<N) (ho:zE w g (T*3) d0 d1 d2) (hs:szq v<=4096) (hcall:∀ V,Below w.heap.size w V->Calls Try.prog 37 #[.pointer (some ⟨mB,0,none⟩),.agg #[.int .i64 5,.int .i64 (T:Int),.int .i64 xa,.int .i64 xb,.bool ng,vn,vd]] V (zp V v))  :
  Calls Try.prog 11 #[.pointer (some ⟨mB,0,none⟩),.agg #[.int .i64 5,.int .i64 (T:Int),.int .i64 xa,.int .i64 xb,.bool ng,vn,vd]] w (zbU w g (T*3) v):=by
 obtain ⟨a0,n0,c0,rfl,H0,hm0⟩:=hw.1.open
 obtain ⟨a1,n1,c1,rfl,H1,hm1⟩:=hw.2.open
 have hTi:(T:Int)<(N:Int):=by omega
 have lm:=hm.lt
 have lo:=ho.lt
 have Hs:=Lib.hid hs
 have HC:=Lib.hid hcall
 clear hs hcall
 go_enter Try.func11,Try.ntmps11
 go_wp2_with fail
 obtain ⟨W0,aq⟩:∃ W0,w.alloc (.cells #[.int .i64 5,.int .i64 (T:Int),.int .i64 xa,.int .i64 xb,.bool ng,.slice a0 n0 c0,.slice a1 n1 c1] 27)=W0:=⟨_,rfl⟩
 have al:=Lib.hid (show ∀ W',Below W0.heap.size W0 W'->(W'.cell? ⟨w.heap.size,0,none⟩=some (.int .i64 5)/\W'.cell? ⟨w.heap.size,1,none⟩=some (.int .i64 (T:Int))/\W'.cell? ⟨w.heap.size,2,none⟩=some (.int .i64 xa)/\W'.cell? ⟨w.heap.size,3,none⟩=some (.int .i64 xb)/\W'.cell? ⟨w.heap.size,4,none⟩=some (.bool ng)/\W'.cell? ⟨w.heap.size,5,none⟩=some (.slice a0 n0 c0)/\W'.cell? ⟨w.heap.size,6,none⟩=some (.slice a1 n1 c1)) from fun W' hb =>
  by and_intros <;> exact kc hb (by first|assumption|(rw [<- aq];simp [go_sem])))
 have bQ:=Lib.hid (show ∀ W',Below W0.heap.size W0 W'->(W'.frozen? ⟨w.heap.size,0,none⟩=false/\W'.frozen? ⟨w.heap.size,1,none⟩=false/\W'.frozen? ⟨w.heap.size,2,none⟩=false/\W'.frozen? ⟨w.heap.size,3,none⟩=false/\W'.frozen? ⟨w.heap.size,4,none⟩=false/\W'.frozen? ⟨w.heap.size,5,none⟩=false/\W'.frozen? ⟨w.heap.size,6,none⟩=false) from fun W' hb =>
  by and_intros <;> refine (hb.frozen ?_).trans ?_ <;> first|assumption|(rw [<- aq];simp [go_sem])|(rw [<- aq];simp <;> omega))
 have bR:=Lib.hid (show ∀ W',Below W0.heap.size W0 W'->(w.heap.size<W'.heap.size) from fun W' hb =>
  Nat.lt_of_lt_of_le (by rw [<- aq];simp <;> omega) hb.size)
 have zb:Below w.heap.size w W0:=by rw [<- aq];exact bN _ _
 rw [aq]
 clear aq
 have i0:=hw.to zb
 have i1:=hm.to zb
 have i2:=ho.to zb
 have gb:Below W0.heap.size W0 W0:=Below.refl _ _
 obtain ⟨ae,af,ag,am,an,aM,aN⟩:=al.out _ gb
 obtain ⟨ah,ai,ak,au,aw,aR,aS⟩:=bQ.out _ gb
 obtain z0:=bR.out _ gb
 obtain ⟨e0,e1,e2,e3,e4⟩:=(i1.to gb)
 obtain ⟨o0,o1,o2,q0,q1,q2⟩:=(i2.to gb)
 go_wp2_with fail
 have htab:=tab_5
 have hgb:=gb
 go_upto_region 4 with fail
 go_cut [5,6] from 28 (fun s5 s6 wx => zaw W0 (v) s5 wx/\s6=.int .i64 0)
 case first =>
  go_region_held3 (fun W' => W'.cell? ⟨w.heap.size,0,none⟩=some (.int .i64 5)/\W'.cell? ⟨w.heap.size,1,none⟩=some (.int .i64 (T:Int))/\W'.cell? ⟨w.heap.size,2,none⟩=some (.int .i64 xa)/\W'.cell? ⟨w.heap.size,3,none⟩=some (.int .i64 xb)/\W'.cell? ⟨w.heap.size,4,none⟩=some (.bool ng)/\W'.cell? ⟨w.heap.size,5,none⟩=some (.slice a0 n0 c0)/\W'.cell? ⟨w.heap.size,6,none⟩=some (.slice a1 n1 c1)) (first|(with_reducible exact al.out _ gb)|((with_reducible refine al.out _ ?_);repeat' (first|(with_reducible exact gb)|(with_reducible refine Below.drew ?_)|(with_reducible refine bS ?_ (bN _ _))|(with_reducible refine bT ?_ ?_ _ _ _)|(with_reducible exact ay)|(with_reducible exact az)|omega))) (first
   | (go_at_call 37;(refine zf w1 (by with_reducible first|exact Below.refl _ _|exact bN _ _) ?_);intro V2 cH bn;have cS:=bn.size;have cN:=gb.size;have gb:=bS gb bn;(try have ac:=ac.to bn);(try have ap:Tri V2 (w1.heap.size) (.bool false) (.slice none 0 0) (.slice none 0 0):=(by rw [cH];with_reducible first|exact zd _ (.bool false) (.slice none 0 0) (.slice none 0 0) _|exact (zd _ (.bool false) (.slice none 0 0) (.slice none 0 0) _).alloc _));have az:W0.heap.size<=w1.heap.size:=(cN);(try have aH:=ac.lt);(try have aI:=ap.lt);(with_reducible refine (HC.out _ (bS zb gb)).mono ?_);rintro e w2 ⟨ng2,a2_,n2_,c2_,p2_,m2_,k2_,rfl,g2,aL⟩;have gb:=bS gb aL;have da:=aL.size;(try have ac:=ac.to aL);(try have ap:=ap.to aL);(try have bC:=ac.lt);(try have bE:=ap.lt);(try (have aG:=ac;obtain ⟨aU,aV,aW,aX,aY,aZ⟩:=aG));(try (have bj:=ap;obtain ⟨bU,bV,bW,bX,bY,bZ⟩:=bj)))
   | (go_at_call 21;(refine zf W0 (by with_reducible first|exact (Below.refl _ _).drew|exact (bN _ _).drew) ?_);intro V1 cI bP;have cR:=bP.size;have cC:=gb.size;have gb:=bS gb bP;(try have ac:Tri V1 (W0.heap.size) (.bool false) (.slice none 0 0) (.slice none 0 0):=(by rw [cI];with_reducible first|exact (zd _ (.bool false) (.slice none 0 0) (.slice none 0 0) _).drew|exact ((zd _ (.bool false) (.slice none 0 0) (.slice none 0 0) _).alloc _).drew));have ay:W0.heap.size<=W0.heap.size:=(cC);(try have aQ:=ac.lt);(with_reducible refine (zK _).mono ?_);rintro e w1 ⟨rfl,aT⟩;have gb:=bS gb aT;have c8:=aT.size;(try have ac:=ac.to aT);(try have bi:=ac.lt);(try (have aG:=ac;obtain ⟨aU,aV,aW,aX,aY,aZ⟩:=aG))))
  all_goals (go_wp2_with fail;go_meet)
  all_goals refine ⟨?_,rfl⟩
  all_goals first
   | (with_reducible exact zk ac g2 (.inl aH) gb ay)
   | (with_reducible exact zk ap g2 (.inl aI) gb az)
   | (with_reducible exact zG g2 gb)
 case rest =>
 obtain ⟨⟨B3,ng2,a2_,n2_,c2_,p2_,m2_,k2_,lo3,hi3,rfl,hB3,T3,g2,hc3⟩,rfl⟩:=hcut
 clear ae ah af ai ag ak am au an aw aM aR aN aS e0 e1 e2 e3 e4 o0 o1 o2 q0 q1 q2
 have gb:=hc3
 obtain ⟨ae,af,ag,am,an,aM,aN⟩:=al.out _ gb
 obtain ⟨ah,ai,ak,au,aw,aR,aS⟩:=bQ.out _ gb
 obtain z0:=bR.out _ gb
 obtain ⟨e0,e1,e2,e3,e4⟩:=(i1.to gb)
 obtain ⟨o0,o1,o2,q0,q1,q2⟩:=(i2.to gb)
 have z3:=T3.lt
 obtain ⟨b9,cd,ch,ce,cf,ci⟩:=T3
 clear hgb
 obtain ⟨W1,aK⟩:∃ W,wc=W:=⟨_,rfl⟩
 subst aK
 replace i0:=i0.to gb
 replace i1:=i1.to gb
 replace i2:=i2.to gb
 replace zb:=bS zb gb
 have HXwc:=Lib.hid (show ∀ W',Below wc.heap.size wc W'->(Bx7 W' w.heap.size (.int .i64 5) (.int .i64 (T:Int)) (.int .i64 xa) (.int .i64 xb) (.bool ng) (.slice a0 n0 c0) (.slice a1 n1 c1)/\Bx3 W' B3 (.bool ng2) (.slice a2_ n2_ c2_) (.slice p2_ m2_ k2_)) from fun W' hb => by
   refine ⟨bx7 hb ?_ ?_ ?_ ?_ ?_ ?_ ?_ ?_ ?_ ?_ ?_ ?_ ?_ ?_,bx3 hb ?_ ?_ ?_ ?_ ?_ ?_⟩
   all_goals first|assumption|assumption)
 replace gb:=Below.refl wc.heap.size wc
 go_wp2_with fail
 obtain ⟨m,hm9⟩:∃ m:Nat,((max (zc v.num.natAbs).length (zc v.den).length:Nat))=m:=⟨_,rfl⟩
 have HM:=Lib.hid (show ((max (zc v.num.natAbs).length (zc v.den).length:Nat):Int)=(m:Int) by rw [hm9])
 have hm4:m<=4096:=by have:=Hs.out;unfold szq at this;rw [ze,ze] at hm9;omega
 have t4:decide (4096<m)=false:=decide_eq_false (by omega)
 have t5:decide ((4096:Int)<(m:Int))=false:=decide_eq_false (by omega)
 clear hm9 hm4
 refine (zx ng2 _ _ _ _ _ (g2.to gb).isF (m:Int) HM.out).mono ?_
 clear ae ah af ai ag ak am au an aw aM aR aN aS b9 ce cd cf ch ci e0 e1 e2 e3 e4 o0 o1 o2 q0 q1 q2
 rintro e w3 ⟨rfl,bM⟩
 replace gb:=bS gb bM
 obtain ⟨⟨z0,ae,af,ag,am,an,aM,aN,ah,ai,ak,au,aw,aR,aS⟩,⟨z3,b9,cd,ch,ce,cf,ci⟩⟩:=HXwc.out _ gb
 obtain ⟨e0,e1,e2,e3,e4⟩:=(i1.to gb)
 obtain ⟨o0,o1,o2,q0,q1,q2⟩:=(i2.to gb)
 go_wp2_with fail
 go_region
 go_wp2_with fail
 go_ret
 exact ⟨_,_,_,_,rfl,bS zb gb,(g2.to gb).isK,.inr rfl⟩

theorem zik (mB g N:Nat) (u vJ:Value) (rows cols:Int) (T:Nat) (xa xb:Int) (ng:Bool) (vn vd:Value) (ln ld:List Nat) (d0 d1 d2:Value) {v:Rat}  (w:World) (hw:IsF w vn vd ln ld) (hm:zy w mB g N u vJ rows cols) (hN:N<=100000) (hT:T<N) (ho:zE w g (T*3) d0 d1 d2) (hs:szq v<=4096) (hcall:∀ V,Below w.heap.size w V->Calls Try.prog 38 #[.pointer (some ⟨mB,0,none⟩),.agg #[.int .i64 6,.int .i64 (T:Int),.int .i64 xa,.int .i64 xb,.bool ng,vn,vd]] V (zp V v))  :
  Calls Try.prog 11 #[.pointer (some ⟨mB,0,none⟩),.agg #[.int .i64 6,.int .i64 (T:Int),.int .i64 xa,.int .i64 xb,.bool ng,vn,vd]] w (zbU w g (T*3) v):=by
 obtain ⟨a0,n0,c0,rfl,H0,hm0⟩:=hw.1.open
 obtain ⟨a1,n1,c1,rfl,H1,hm1⟩:=hw.2.open
 have hTi:(T:Int)<(N:Int):=by omega
 have lm:=hm.lt
 have lo:=ho.lt
 have Hs:=Lib.hid hs
 have HC:=Lib.hid hcall
 clear hs hcall
 go_enter Try.func11,Try.ntmps11
 go_wp2_with fail
 obtain ⟨W0,aq⟩:∃ W0,w.alloc (.cells #[.int .i64 6,.int .i64 (T:Int),.int .i64 xa,.int .i64 xb,.bool ng,.slice a0 n0 c0,.slice a1 n1 c1] 27)=W0:=⟨_,rfl⟩
 have al:=Lib.hid (show ∀ W',Below W0.heap.size W0 W'->(W'.cell? ⟨w.heap.size,0,none⟩=some (.int .i64 6)/\W'.cell? ⟨w.heap.size,1,none⟩=some (.int .i64 (T:Int))/\W'.cell? ⟨w.heap.size,2,none⟩=some (.int .i64 xa)/\W'.cell? ⟨w.heap.size,3,none⟩=some (.int .i64 xb)/\W'.cell? ⟨w.heap.size,4,none⟩=some (.bool ng)/\W'.cell? ⟨w.heap.size,5,none⟩=some (.slice a0 n0 c0)/\W'.cell? ⟨w.heap.size,6,none⟩=some (.slice a1 n1 c1)) from fun W' hb =>
  by and_intros <;> exact kc hb (by first|assumption|(rw [<- aq];simp [go_sem])))
 have bQ:=Lib.hid (show ∀ W',Below W0.heap.size W0 W'->(W'.frozen? ⟨w.heap.size,0,none⟩=false/\W'.frozen? ⟨w.heap.size,1,none⟩=false/\W'.frozen? ⟨w.heap.size,2,none⟩=false/\W'.frozen? ⟨w.heap.size,3,none⟩=false/\W'.frozen? ⟨w.heap.size,4,none⟩=false/\W'.frozen? ⟨w.heap.size,5,none⟩=false/\W'.frozen? ⟨w.heap.size,6,none⟩=false) from fun W' hb =>
  by and_intros <;> refine (hb.frozen ?_).trans ?_ <;> first|assumption|(rw [<- aq];simp [go_sem])|(rw [<- aq];simp <;> omega))
 have bR:=Lib.hid (show ∀ W',Below W0.heap.size W0 W'->(w.heap.size<W'.heap.size) from fun W' hb =>
  Nat.lt_of_lt_of_le (by rw [<- aq];simp <;> omega) hb.size)
 have zb:Below w.heap.size w W0:=by rw [<- aq];exact bN _ _
 rw [aq]
 clear aq
 have i0:=hw.to zb
 have i1:=hm.to zb
 have i2:=ho.to zb
 have gb:Below W0.heap.size W0 W0:=Below.refl _ _
 obtain ⟨ae,af,ag,am,an,aM,aN⟩:=al.out _ gb
 obtain ⟨ah,ai,ak,au,aw,aR,aS⟩:=bQ.out _ gb
 obtain z0:=bR.out _ gb
 obtain ⟨e0,e1,e2,e3,e4⟩:=(i1.to gb)
 obtain ⟨o0,o1,o2,q0,q1,q2⟩:=(i2.to gb)
 go_wp2_with fail
 have htab:=tab_6
 have hgb:=gb
 go_upto_region 4 with fail
 go_cut [5,6] from 28 (fun s5 s6 wx => zaw W0 (v) s5 wx/\s6=.int .i64 0)
 case first =>
  go_region_held3 (fun W' => W'.cell? ⟨w.heap.size,0,none⟩=some (.int .i64 6)/\W'.cell? ⟨w.heap.size,1,none⟩=some (.int .i64 (T:Int))/\W'.cell? ⟨w.heap.size,2,none⟩=some (.int .i64 xa)/\W'.cell? ⟨w.heap.size,3,none⟩=some (.int .i64 xb)/\W'.cell? ⟨w.heap.size,4,none⟩=some (.bool ng)/\W'.cell? ⟨w.heap.size,5,none⟩=some (.slice a0 n0 c0)/\W'.cell? ⟨w.heap.size,6,none⟩=some (.slice a1 n1 c1)) (first|(with_reducible exact al.out _ gb)|((with_reducible refine al.out _ ?_);repeat' (first|(with_reducible exact gb)|(with_reducible refine Below.drew ?_)|(with_reducible refine bS ?_ (bN _ _))|(with_reducible refine bT ?_ ?_ _ _ _)|(with_reducible exact ay)|(with_reducible exact az)|omega))) (first
   | (go_at_call 38;(refine zf w1 (by with_reducible first|exact Below.refl _ _|exact bN _ _) ?_);intro V2 cH bn;have cS:=bn.size;have cN:=gb.size;have gb:=bS gb bn;(try have ac:=ac.to bn);(try have ap:Tri V2 (w1.heap.size) (.bool false) (.slice none 0 0) (.slice none 0 0):=(by rw [cH];with_reducible first|exact zd _ (.bool false) (.slice none 0 0) (.slice none 0 0) _|exact (zd _ (.bool false) (.slice none 0 0) (.slice none 0 0) _).alloc _));have az:W0.heap.size<=w1.heap.size:=(cN);(try have aH:=ac.lt);(try have aI:=ap.lt);(with_reducible refine (HC.out _ (bS zb gb)).mono ?_);rintro e w2 ⟨ng2,a2_,n2_,c2_,p2_,m2_,k2_,rfl,g2,aL⟩;have gb:=bS gb aL;have da:=aL.size;(try have ac:=ac.to aL);(try have ap:=ap.to aL);(try have bC:=ac.lt);(try have bE:=ap.lt);(try (have aG:=ac;obtain ⟨aU,aV,aW,aX,aY,aZ⟩:=aG));(try (have bj:=ap;obtain ⟨bU,bV,bW,bX,bY,bZ⟩:=bj)))
   | (go_at_call 21;(refine zf W0 (by with_reducible first|exact (Below.refl _ _).drew|exact (bN _ _).drew) ?_);intro V1 cI bP;have cR:=bP.size;have cC:=gb.size;have gb:=bS gb bP;(try have ac:Tri V1 (W0.heap.size) (.bool false) (.slice none 0 0) (.slice none 0 0):=(by rw [cI];with_reducible first|exact (zd _ (.bool false) (.slice none 0 0) (.slice none 0 0) _).drew|exact ((zd _ (.bool false) (.slice none 0 0) (.slice none 0 0) _).alloc _).drew));have ay:W0.heap.size<=W0.heap.size:=(cC);(try have aQ:=ac.lt);(with_reducible refine (zK _).mono ?_);rintro e w1 ⟨rfl,aT⟩;have gb:=bS gb aT;have c8:=aT.size;(try have ac:=ac.to aT);(try have bi:=ac.lt);(try (have aG:=ac;obtain ⟨aU,aV,aW,aX,aY,aZ⟩:=aG))))
  all_goals (go_wp2_with fail;go_meet)
  all_goals refine ⟨?_,rfl⟩
  all_goals first
   | (with_reducible exact zk ac g2 (.inl aH) gb ay)
   | (with_reducible exact zk ap g2 (.inl aI) gb az)
   | (with_reducible exact zG g2 gb)
 case rest =>
 obtain ⟨⟨B3,ng2,a2_,n2_,c2_,p2_,m2_,k2_,lo3,hi3,rfl,hB3,T3,g2,hc3⟩,rfl⟩:=hcut
 clear ae ah af ai ag ak am au an aw aM aR aN aS e0 e1 e2 e3 e4 o0 o1 o2 q0 q1 q2
 have gb:=hc3
 obtain ⟨ae,af,ag,am,an,aM,aN⟩:=al.out _ gb
 obtain ⟨ah,ai,ak,au,aw,aR,aS⟩:=bQ.out _ gb
 obtain z0:=bR.out _ gb
 obtain ⟨e0,e1,e2,e3,e4⟩:=(i1.to gb)
 obtain ⟨o0,o1,o2,q0,q1,q2⟩:=(i2.to gb)
 have z3:=T3.lt
 obtain ⟨b9,cd,ch,ce,cf,ci⟩:=T3
 clear hgb
 obtain ⟨W1,aK⟩:∃ W,wc=W:=⟨_,rfl⟩
 subst aK
 replace i0:=i0.to gb
 replace i1:=i1.to gb
 replace i2:=i2.to gb
 replace zb:=bS zb gb
 have HXwc:=Lib.hid (show ∀ W',Below wc.heap.size wc W'->(Bx7 W' w.heap.size (.int .i64 6) (.int .i64 (T:Int)) (.int .i64 xa) (.int .i64 xb) (.bool ng) (.slice a0 n0 c0) (.slice a1 n1 c1)/\Bx3 W' B3 (.bool ng2) (.slice a2_ n2_ c2_) (.slice p2_ m2_ k2_)) from fun W' hb => by
   refine ⟨bx7 hb ?_ ?_ ?_ ?_ ?_ ?_ ?_ ?_ ?_ ?_ ?_ ?_ ?_ ?_,bx3 hb ?_ ?_ ?_ ?_ ?_ ?_⟩
   all_goals first|assumption|assumption)
 replace gb:=Below.refl wc.heap.size wc
 go_wp2_with fail
 obtain ⟨m,hm9⟩:∃ m:Nat,((max (zc v.num.natAbs).length (zc v.den).length:Nat))=m:=⟨_,rfl⟩
 have HM:=Lib.hid (show ((max (zc v.num.natAbs).length (zc v.den).length:Nat):Int)=(m:Int) by rw [hm9])
 have hm4:m<=4096:=by have:=Hs.out;unfold szq at this;rw [ze,ze] at hm9;omega
 have t4:decide (4096<m)=false:=decide_eq_false (by omega)
 have t5:decide ((4096:Int)<(m:Int))=false:=decide_eq_false (by omega)
 clear hm9 hm4
 refine (zx ng2 _ _ _ _ _ (g2.to gb).isF (m:Int) HM.out).mono ?_
 clear ae ah af ai ag ak am au an aw aM aR aN aS b9 ce cd cf ch ci e0 e1 e2 e3 e4 o0 o1 o2 q0 q1 q2
 rintro e w3 ⟨rfl,bM⟩
 replace gb:=bS gb bM
 obtain ⟨⟨z0,ae,af,ag,am,an,aM,aN,ah,ai,ak,au,aw,aR,aS⟩,⟨z3,b9,cd,ch,ce,cf,ci⟩⟩:=HXwc.out _ gb
 obtain ⟨e0,e1,e2,e3,e4⟩:=(i1.to gb)
 obtain ⟨o0,o1,o2,q0,q1,q2⟩:=(i2.to gb)
 go_wp2_with fail
 go_region
 go_wp2_with fail
 go_ret
 exact ⟨_,_,_,_,rfl,bS zb gb,(g2.to gb).isK,.inr rfl⟩

theorem zil (mB g N:Nat) (u vJ:Value) (rows cols:Int) (T:Nat) (xa xb:Int) (ng:Bool) (vn vd:Value) (ln ld:List Nat) (d0 d1 d2:Value) {v:Rat}  (w:World) (hw:IsF w vn vd ln ld) (hm:zy w mB g N u vJ rows cols) (hN:N<=100000) (hT:T<N) (ho:zE w g (T*3) d0 d1 d2) (hs:szq v<=4096) (hcall:∀ V,Below w.heap.size w V->Calls Try.prog 39 #[.pointer (some ⟨mB,0,none⟩),.agg #[.int .i64 7,.int .i64 (T:Int),.int .i64 xa,.int .i64 xb,.bool ng,vn,vd]] V (zp V v))  :
  Calls Try.prog 11 #[.pointer (some ⟨mB,0,none⟩),.agg #[.int .i64 7,.int .i64 (T:Int),.int .i64 xa,.int .i64 xb,.bool ng,vn,vd]] w (zbU w g (T*3) v):=by
 obtain ⟨a0,n0,c0,rfl,H0,hm0⟩:=hw.1.open
 obtain ⟨a1,n1,c1,rfl,H1,hm1⟩:=hw.2.open
 have hTi:(T:Int)<(N:Int):=by omega
 have lm:=hm.lt
 have lo:=ho.lt
 have Hs:=Lib.hid hs
 have HC:=Lib.hid hcall
 clear hs hcall
 go_enter Try.func11,Try.ntmps11
 go_wp2_with fail
 obtain ⟨W0,aq⟩:∃ W0,w.alloc (.cells #[.int .i64 7,.int .i64 (T:Int),.int .i64 xa,.int .i64 xb,.bool ng,.slice a0 n0 c0,.slice a1 n1 c1] 27)=W0:=⟨_,rfl⟩
 have al:=Lib.hid (show ∀ W',Below W0.heap.size W0 W'->(W'.cell? ⟨w.heap.size,0,none⟩=some (.int .i64 7)/\W'.cell? ⟨w.heap.size,1,none⟩=some (.int .i64 (T:Int))/\W'.cell? ⟨w.heap.size,2,none⟩=some (.int .i64 xa)/\W'.cell? ⟨w.heap.size,3,none⟩=some (.int .i64 xb)/\W'.cell? ⟨w.heap.size,4,none⟩=some (.bool ng)/\W'.cell? ⟨w.heap.size,5,none⟩=some (.slice a0 n0 c0)/\W'.cell? ⟨w.heap.size,6,none⟩=some (.slice a1 n1 c1)) from fun W' hb =>
  by and_intros <;> exact kc hb (by first|assumption|(rw [<- aq];simp [go_sem])))
 have bQ:=Lib.hid (show ∀ W',Below W0.heap.size W0 W'->(W'.frozen? ⟨w.heap.size,0,none⟩=false/\W'.frozen? ⟨w.heap.size,1,none⟩=false/\W'.frozen? ⟨w.heap.size,2,none⟩=false/\W'.frozen? ⟨w.heap.size,3,none⟩=false/\W'.frozen? ⟨w.heap.size,4,none⟩=false/\W'.frozen? ⟨w.heap.size,5,none⟩=false/\W'.frozen? ⟨w.heap.size,6,none⟩=false) from fun W' hb =>
  by and_intros <;> refine (hb.frozen ?_).trans ?_ <;> first|assumption|(rw [<- aq];simp [go_sem])|(rw [<- aq];simp <;> omega))
 have bR:=Lib.hid (show ∀ W',Below W0.heap.size W0 W'->(w.heap.size<W'.heap.size) from fun W' hb =>
  Nat.lt_of_lt_of_le (by rw [<- aq];simp <;> omega) hb.size)
 have zb:Below w.heap.size w W0:=by rw [<- aq];exact bN _ _
 rw [aq]
 clear aq
 have i0:=hw.to zb
 have i1:=hm.to zb
 have i2:=ho.to zb
 have gb:Below W0.heap.size W0 W0:=Below.refl _ _
 obtain ⟨ae,af,ag,am,an,aM,aN⟩:=al.out _ gb
 obtain ⟨ah,ai,ak,au,aw,aR,aS⟩:=bQ.out _ gb
 obtain z0:=bR.out _ gb
 obtain ⟨e0,e1,e2,e3,e4⟩:=(i1.to gb)
 obtain ⟨o0,o1,o2,q0,q1,q2⟩:=(i2.to gb)
 go_wp2_with fail
 have htab:=tab_7
 have hgb:=gb
 go_upto_region 4 with fail
 go_cut [5,6] from 28 (fun s5 s6 wx => zaw W0 (v) s5 wx/\s6=.int .i64 0)
 case first =>
  go_region_held3 (fun W' => W'.cell? ⟨w.heap.size,0,none⟩=some (.int .i64 7)/\W'.cell? ⟨w.heap.size,1,none⟩=some (.int .i64 (T:Int))/\W'.cell? ⟨w.heap.size,2,none⟩=some (.int .i64 xa)/\W'.cell? ⟨w.heap.size,3,none⟩=some (.int .i64 xb)/\W'.cell? ⟨w.heap.size,4,none⟩=some (.bool ng)/\W'.cell? ⟨w.heap.size,5,none⟩=some (.slice a0 n0 c0)/\W'.cell? ⟨w.heap.size,6,none⟩=some (.slice a1 n1 c1)) (first|(with_reducible exact al.out _ gb)|((with_reducible refine al.out _ ?_);repeat' (first|(with_reducible exact gb)|(with_reducible refine Below.drew ?_)|(with_reducible refine bS ?_ (bN _ _))|(with_reducible refine bT ?_ ?_ _ _ _)|(with_reducible exact ay)|(with_reducible exact az)|omega))) (first
   | (go_at_call 39;(refine zf w1 (by with_reducible first|exact Below.refl _ _|exact bN _ _) ?_);intro V2 cH bn;have cS:=bn.size;have cN:=gb.size;have gb:=bS gb bn;(try have ac:=ac.to bn);(try have ap:Tri V2 (w1.heap.size) (.bool false) (.slice none 0 0) (.slice none 0 0):=(by rw [cH];with_reducible first|exact zd _ (.bool false) (.slice none 0 0) (.slice none 0 0) _|exact (zd _ (.bool false) (.slice none 0 0) (.slice none 0 0) _).alloc _));have az:W0.heap.size<=w1.heap.size:=(cN);(try have aH:=ac.lt);(try have aI:=ap.lt);(with_reducible refine (HC.out _ (bS zb gb)).mono ?_);rintro e w2 ⟨ng2,a2_,n2_,c2_,p2_,m2_,k2_,rfl,g2,aL⟩;have gb:=bS gb aL;have da:=aL.size;(try have ac:=ac.to aL);(try have ap:=ap.to aL);(try have bC:=ac.lt);(try have bE:=ap.lt);(try (have aG:=ac;obtain ⟨aU,aV,aW,aX,aY,aZ⟩:=aG));(try (have bj:=ap;obtain ⟨bU,bV,bW,bX,bY,bZ⟩:=bj)))
   | (go_at_call 21;(refine zf W0 (by with_reducible first|exact (Below.refl _ _).drew|exact (bN _ _).drew) ?_);intro V1 cI bP;have cR:=bP.size;have cC:=gb.size;have gb:=bS gb bP;(try have ac:Tri V1 (W0.heap.size) (.bool false) (.slice none 0 0) (.slice none 0 0):=(by rw [cI];with_reducible first|exact (zd _ (.bool false) (.slice none 0 0) (.slice none 0 0) _).drew|exact ((zd _ (.bool false) (.slice none 0 0) (.slice none 0 0) _).alloc _).drew));have ay:W0.heap.size<=W0.heap.size:=(cC);(try have aQ:=ac.lt);(with_reducible refine (zK _).mono ?_);rintro e w1 ⟨rfl,aT⟩;have gb:=bS gb aT;have c8:=aT.size;(try have ac:=ac.to aT);(try have bi:=ac.lt);(try (have aG:=ac;obtain ⟨aU,aV,aW,aX,aY,aZ⟩:=aG))))
  all_goals (go_wp2_with fail;go_meet)
  all_goals refine ⟨?_,rfl⟩
  all_goals first
   | (with_reducible exact zk ac g2 (.inl aH) gb ay)
   | (with_reducible exact zk ap g2 (.inl aI) gb az)
   | (with_reducible exact zG g2 gb)
 case rest =>
 obtain ⟨⟨B3,ng2,a2_,n2_,c2_,p2_,m2_,k2_,lo3,hi3,rfl,hB3,T3,g2,hc3⟩,rfl⟩:=hcut
 clear ae ah af ai ag ak am au an aw aM aR aN aS e0 e1 e2 e3 e4 o0 o1 o2 q0 q1 q2
 have gb:=hc3
 obtain ⟨ae,af,ag,am,an,aM,aN⟩:=al.out _ gb
 obtain ⟨ah,ai,ak,au,aw,aR,aS⟩:=bQ.out _ gb
 obtain z0:=bR.out _ gb
 obtain ⟨e0,e1,e2,e3,e4⟩:=(i1.to gb)
 obtain ⟨o0,o1,o2,q0,q1,q2⟩:=(i2.to gb)
 have z3:=T3.lt
 obtain ⟨b9,cd,ch,ce,cf,ci⟩:=T3
 clear hgb
 obtain ⟨W1,aK⟩:∃ W,wc=W:=⟨_,rfl⟩
 subst aK
 replace i0:=i0.to gb
 replace i1:=i1.to gb
 replace i2:=i2.to gb
 replace zb:=bS zb gb
 have HXwc:=Lib.hid (show ∀ W',Below wc.heap.size wc W'->(Bx7 W' w.heap.size (.int .i64 7) (.int .i64 (T:Int)) (.int .i64 xa) (.int .i64 xb) (.bool ng) (.slice a0 n0 c0) (.slice a1 n1 c1)/\Bx3 W' B3 (.bool ng2) (.slice a2_ n2_ c2_) (.slice p2_ m2_ k2_)) from fun W' hb => by
   refine ⟨bx7 hb ?_ ?_ ?_ ?_ ?_ ?_ ?_ ?_ ?_ ?_ ?_ ?_ ?_ ?_,bx3 hb ?_ ?_ ?_ ?_ ?_ ?_⟩
   all_goals first|assumption|assumption)
 replace gb:=Below.refl wc.heap.size wc
 go_wp2_with fail
 obtain ⟨m,hm9⟩:∃ m:Nat,((max (zc v.num.natAbs).length (zc v.den).length:Nat))=m:=⟨_,rfl⟩
 have HM:=Lib.hid (show ((max (zc v.num.natAbs).length (zc v.den).length:Nat):Int)=(m:Int) by rw [hm9])
 have hm4:m<=4096:=by have:=Hs.out;unfold szq at this;rw [ze,ze] at hm9;omega
 have t4:decide (4096<m)=false:=decide_eq_false (by omega)
 have t5:decide ((4096:Int)<(m:Int))=false:=decide_eq_false (by omega)
 clear hm9 hm4
 refine (zx ng2 _ _ _ _ _ (g2.to gb).isF (m:Int) HM.out).mono ?_
 clear ae ah af ai ag ak am au an aw aM aR aN aS b9 ce cd cf ch ci e0 e1 e2 e3 e4 o0 o1 o2 q0 q1 q2
 rintro e w3 ⟨rfl,bM⟩
 replace gb:=bS gb bM
 obtain ⟨⟨z0,ae,af,ag,am,an,aM,aN,ah,ai,ak,au,aw,aR,aS⟩,⟨z3,b9,cd,ch,ce,cf,ci⟩⟩:=HXwc.out _ gb
 obtain ⟨e0,e1,e2,e3,e4⟩:=(i1.to gb)
 obtain ⟨o0,o1,o2,q0,q1,q2⟩:=(i2.to gb)
 go_wp2_with fail
 go_region
 go_wp2_with fail
 go_ret
 exact ⟨_,_,_,_,rfl,bS zb gb,(g2.to gb).isK,.inr rfl⟩

theorem zim (mB g N:Nat) (u vJ:Value) (rows cols:Int) (T:Nat) (xa xb:Int) (ng:Bool) (vn vd:Value) (ln ld:List Nat) (d0 d1 d2:Value) {v:Rat}  (w:World) (hw:IsF w vn vd ln ld) (hm:zy w mB g N u vJ rows cols) (hN:N<=100000) (hT:T<N) (ho:zE w g (T*3) d0 d1 d2) (hs:szq v<=4096) (hcall:∀ V,Below w.heap.size w V->Calls Try.prog 36 #[.pointer (some ⟨mB,0,none⟩),.agg #[.int .i64 8,.int .i64 (T:Int),.int .i64 xa,.int .i64 xb,.bool ng,vn,vd]] V (zp V v))  :
  Calls Try.prog 11 #[.pointer (some ⟨mB,0,none⟩),.agg #[.int .i64 8,.int .i64 (T:Int),.int .i64 xa,.int .i64 xb,.bool ng,vn,vd]] w (zbU w g (T*3) v):=by
 obtain ⟨a0,n0,c0,rfl,H0,hm0⟩:=hw.1.open
 obtain ⟨a1,n1,c1,rfl,H1,hm1⟩:=hw.2.open
 have hTi:(T:Int)<(N:Int):=by omega
 have lm:=hm.lt
 have lo:=ho.lt
 have Hs:=Lib.hid hs
 have HC:=Lib.hid hcall
 clear hs hcall
 go_enter Try.func11,Try.ntmps11
 go_wp2_with fail
 obtain ⟨W0,aq⟩:∃ W0,w.alloc (.cells #[.int .i64 8,.int .i64 (T:Int),.int .i64 xa,.int .i64 xb,.bool ng,.slice a0 n0 c0,.slice a1 n1 c1] 27)=W0:=⟨_,rfl⟩
 have al:=Lib.hid (show ∀ W',Below W0.heap.size W0 W'->(W'.cell? ⟨w.heap.size,0,none⟩=some (.int .i64 8)/\W'.cell? ⟨w.heap.size,1,none⟩=some (.int .i64 (T:Int))/\W'.cell? ⟨w.heap.size,2,none⟩=some (.int .i64 xa)/\W'.cell? ⟨w.heap.size,3,none⟩=some (.int .i64 xb)/\W'.cell? ⟨w.heap.size,4,none⟩=some (.bool ng)/\W'.cell? ⟨w.heap.size,5,none⟩=some (.slice a0 n0 c0)/\W'.cell? ⟨w.heap.size,6,none⟩=some (.slice a1 n1 c1)) from fun W' hb =>
  by and_intros <;> exact kc hb (by first|assumption|(rw [<- aq];simp [go_sem])))
 have bQ:=Lib.hid (show ∀ W',Below W0.heap.size W0 W'->(W'.frozen? ⟨w.heap.size,0,none⟩=false/\W'.frozen? ⟨w.heap.size,1,none⟩=false/\W'.frozen? ⟨w.heap.size,2,none⟩=false/\W'.frozen? ⟨w.heap.size,3,none⟩=false/\W'.frozen? ⟨w.heap.size,4,none⟩=false/\W'.frozen? ⟨w.heap.size,5,none⟩=false/\W'.frozen? ⟨w.heap.size,6,none⟩=false) from fun W' hb =>
  by and_intros <;> refine (hb.frozen ?_).trans ?_ <;> first|assumption|(rw [<- aq];simp [go_sem])|(rw [<- aq];simp <;> omega))
 have bR:=Lib.hid (show ∀ W',Below W0.heap.size W0 W'->(w.heap.size<W'.heap.size) from fun W' hb =>
  Nat.lt_of_lt_of_le (by rw [<- aq];simp <;> omega) hb.size)
 have zb:Below w.heap.size w W0:=by rw [<- aq];exact bN _ _
 rw [aq]
 clear aq
 have i0:=hw.to zb
 have i1:=hm.to zb
 have i2:=ho.to zb
 have gb:Below W0.heap.size W0 W0:=Below.refl _ _
 obtain ⟨ae,af,ag,am,an,aM,aN⟩:=al.out _ gb
 obtain ⟨ah,ai,ak,au,aw,aR,aS⟩:=bQ.out _ gb
 obtain z0:=bR.out _ gb
 obtain ⟨e0,e1,e2,e3,e4⟩:=(i1.to gb)
 obtain ⟨o0,o1,o2,q0,q1,q2⟩:=(i2.to gb)
 go_wp2_with fail
 have htab:=tab_8
 have hgb:=gb
 go_upto_region 4 with fail
 go_cut [5,6] from 28 (fun s5 s6 wx => zaw W0 (v) s5 wx/\s6=.int .i64 0)
 case first =>
  go_region_held3 (fun W' => W'.cell? ⟨w.heap.size,0,none⟩=some (.int .i64 8)/\W'.cell? ⟨w.heap.size,1,none⟩=some (.int .i64 (T:Int))/\W'.cell? ⟨w.heap.size,2,none⟩=some (.int .i64 xa)/\W'.cell? ⟨w.heap.size,3,none⟩=some (.int .i64 xb)/\W'.cell? ⟨w.heap.size,4,none⟩=some (.bool ng)/\W'.cell? ⟨w.heap.size,5,none⟩=some (.slice a0 n0 c0)/\W'.cell? ⟨w.heap.size,6,none⟩=some (.slice a1 n1 c1)) (first|(with_reducible exact al.out _ gb)|((with_reducible refine al.out _ ?_);repeat' (first|(with_reducible exact gb)|(with_reducible refine Below.drew ?_)|(with_reducible refine bS ?_ (bN _ _))|(with_reducible refine bT ?_ ?_ _ _ _)|(with_reducible exact ay)|(with_reducible exact az)|omega))) (first
   | (go_at_call 36;(refine zf w1 (by with_reducible first|exact Below.refl _ _|exact bN _ _) ?_);intro V2 cH bn;have cS:=bn.size;have cN:=gb.size;have gb:=bS gb bn;(try have ac:=ac.to bn);(try have ap:Tri V2 (w1.heap.size) (.bool false) (.slice none 0 0) (.slice none 0 0):=(by rw [cH];with_reducible first|exact zd _ (.bool false) (.slice none 0 0) (.slice none 0 0) _|exact (zd _ (.bool false) (.slice none 0 0) (.slice none 0 0) _).alloc _));have az:W0.heap.size<=w1.heap.size:=(cN);(try have aH:=ac.lt);(try have aI:=ap.lt);(with_reducible refine (HC.out _ (bS zb gb)).mono ?_);rintro e w2 ⟨ng2,a2_,n2_,c2_,p2_,m2_,k2_,rfl,g2,aL⟩;have gb:=bS gb aL;have da:=aL.size;(try have ac:=ac.to aL);(try have ap:=ap.to aL);(try have bC:=ac.lt);(try have bE:=ap.lt);(try (have aG:=ac;obtain ⟨aU,aV,aW,aX,aY,aZ⟩:=aG));(try (have bj:=ap;obtain ⟨bU,bV,bW,bX,bY,bZ⟩:=bj)))
   | (go_at_call 21;(refine zf W0 (by with_reducible first|exact (Below.refl _ _).drew|exact (bN _ _).drew) ?_);intro V1 cI bP;have cR:=bP.size;have cC:=gb.size;have gb:=bS gb bP;(try have ac:Tri V1 (W0.heap.size) (.bool false) (.slice none 0 0) (.slice none 0 0):=(by rw [cI];with_reducible first|exact (zd _ (.bool false) (.slice none 0 0) (.slice none 0 0) _).drew|exact ((zd _ (.bool false) (.slice none 0 0) (.slice none 0 0) _).alloc _).drew));have ay:W0.heap.size<=W0.heap.size:=(cC);(try have aQ:=ac.lt);(with_reducible refine (zK _).mono ?_);rintro e w1 ⟨rfl,aT⟩;have gb:=bS gb aT;have c8:=aT.size;(try have ac:=ac.to aT);(try have bi:=ac.lt);(try (have aG:=ac;obtain ⟨aU,aV,aW,aX,aY,aZ⟩:=aG))))
  all_goals (go_wp2_with fail;go_meet)
  all_goals refine ⟨?_,rfl⟩
  all_goals first
   | (with_reducible exact zk ac g2 (.inl aH) gb ay)
   | (with_reducible exact zk ap g2 (.inl aI) gb az)
   | (with_reducible exact zG g2 gb)
 case rest =>
 obtain ⟨⟨B3,ng2,a2_,n2_,c2_,p2_,m2_,k2_,lo3,hi3,rfl,hB3,T3,g2,hc3⟩,rfl⟩:=hcut
 clear ae ah af ai ag ak am au an aw aM aR aN aS e0 e1 e2 e3 e4 o0 o1 o2 q0 q1 q2
 have gb:=hc3
 obtain ⟨ae,af,ag,am,an,aM,aN⟩:=al.out _ gb
 obtain ⟨ah,ai,ak,au,aw,aR,aS⟩:=bQ.out _ gb
 obtain z0:=bR.out _ gb
 obtain ⟨e0,e1,e2,e3,e4⟩:=(i1.to gb)
 obtain ⟨o0,o1,o2,q0,q1,q2⟩:=(i2.to gb)
 have z3:=T3.lt
 obtain ⟨b9,cd,ch,ce,cf,ci⟩:=T3
 clear hgb
 obtain ⟨W1,aK⟩:∃ W,wc=W:=⟨_,rfl⟩
 subst aK
 replace i0:=i0.to gb
 replace i1:=i1.to gb
 replace i2:=i2.to gb
 replace zb:=bS zb gb
 have HXwc:=Lib.hid (show ∀ W',Below wc.heap.size wc W'->(Bx7 W' w.heap.size (.int .i64 8) (.int .i64 (T:Int)) (.int .i64 xa) (.int .i64 xb) (.bool ng) (.slice a0 n0 c0) (.slice a1 n1 c1)/\Bx3 W' B3 (.bool ng2) (.slice a2_ n2_ c2_) (.slice p2_ m2_ k2_)) from fun W' hb => by
   refine ⟨bx7 hb ?_ ?_ ?_ ?_ ?_ ?_ ?_ ?_ ?_ ?_ ?_ ?_ ?_ ?_,bx3 hb ?_ ?_ ?_ ?_ ?_ ?_⟩
   all_goals first|assumption|assumption)
 replace gb:=Below.refl wc.heap.size wc
 go_wp2_with fail
 obtain ⟨m,hm9⟩:∃ m:Nat,((max (zc v.num.natAbs).length (zc v.den).length:Nat))=m:=⟨_,rfl⟩
 have HM:=Lib.hid (show ((max (zc v.num.natAbs).length (zc v.den).length:Nat):Int)=(m:Int) by rw [hm9])
 have hm4:m<=4096:=by have:=Hs.out;unfold szq at this;rw [ze,ze] at hm9;omega
 have t4:decide (4096<m)=false:=decide_eq_false (by omega)
 have t5:decide ((4096:Int)<(m:Int))=false:=decide_eq_false (by omega)
 clear hm9 hm4
 refine (zx ng2 _ _ _ _ _ (g2.to gb).isF (m:Int) HM.out).mono ?_
 clear ae ah af ai ag ak am au an aw aM aR aN aS b9 ce cd cf ch ci e0 e1 e2 e3 e4 o0 o1 o2 q0 q1 q2
 rintro e w3 ⟨rfl,bM⟩
 replace gb:=bS gb bM
 obtain ⟨⟨z0,ae,af,ag,am,an,aM,aN,ah,ai,ak,au,aw,aR,aS⟩,⟨z3,b9,cd,ch,ce,cf,ci⟩⟩:=HXwc.out _ gb
 obtain ⟨e0,e1,e2,e3,e4⟩:=(i1.to gb)
 obtain ⟨o0,o1,o2,q0,q1,q2⟩:=(i2.to gb)
 go_wp2_with fail
 go_region
 go_wp2_with fail
 go_ret
 exact ⟨_,_,_,_,rfl,bS zb gb,(g2.to gb).isK,.inr rfl⟩

theorem zin (mB g N:Nat) (u vJ:Value) (rows cols:Int) (T:Nat) (xa xb:Int) (ng:Bool) (vn vd:Value) (ln ld:List Nat) (d0 d1 d2:Value) {v:Rat}  (w:World) (hw:IsF w vn vd ln ld) (hm:zy w mB g N u vJ rows cols) (hN:N<=100000) (hT:T<N) (ho:zE w g (T*3) d0 d1 d2) (hs:szq v<=4096) (hcall:∀ V,Below w.heap.size w V->Calls Try.prog 34 #[.pointer (some ⟨mB,0,none⟩),.agg #[.int .i64 9,.int .i64 (T:Int),.int .i64 xa,.int .i64 xb,.bool ng,vn,vd]] V (zp V v))  :
  Calls Try.prog 11 #[.pointer (some ⟨mB,0,none⟩),.agg #[.int .i64 9,.int .i64 (T:Int),.int .i64 xa,.int .i64 xb,.bool ng,vn,vd]] w (zbU w g (T*3) v):=by
 obtain ⟨a0,n0,c0,rfl,H0,hm0⟩:=hw.1.open
 obtain ⟨a1,n1,c1,rfl,H1,hm1⟩:=hw.2.open
 have hTi:(T:Int)<(N:Int):=by omega
 have lm:=hm.lt
 have lo:=ho.lt
 have Hs:=Lib.hid hs
 have HC:=Lib.hid hcall
 clear hs hcall
 go_enter Try.func11,Try.ntmps11
 go_wp2_with fail
 obtain ⟨W0,aq⟩:∃ W0,w.alloc (.cells #[.int .i64 9,.int .i64 (T:Int),.int .i64 xa,.int .i64 xb,.bool ng,.slice a0 n0 c0,.slice a1 n1 c1] 27)=W0:=⟨_,rfl⟩
 have al:=Lib.hid (show ∀ W',Below W0.heap.size W0 W'->(W'.cell? ⟨w.heap.size,0,none⟩=some (.int .i64 9)/\W'.cell? ⟨w.heap.size,1,none⟩=some (.int .i64 (T:Int))/\W'.cell? ⟨w.heap.size,2,none⟩=some (.int .i64 xa)/\W'.cell? ⟨w.heap.size,3,none⟩=some (.int .i64 xb)/\W'.cell? ⟨w.heap.size,4,none⟩=some (.bool ng)/\W'.cell? ⟨w.heap.size,5,none⟩=some (.slice a0 n0 c0)/\W'.cell? ⟨w.heap.size,6,none⟩=some (.slice a1 n1 c1)) from fun W' hb =>
  by and_intros <;> exact kc hb (by first|assumption|(rw [<- aq];simp [go_sem])))
 have bQ:=Lib.hid (show ∀ W',Below W0.heap.size W0 W'->(W'.frozen? ⟨w.heap.size,0,none⟩=false/\W'.frozen? ⟨w.heap.size,1,none⟩=false/\W'.frozen? ⟨w.heap.size,2,none⟩=false/\W'.frozen? ⟨w.heap.size,3,none⟩=false/\W'.frozen? ⟨w.heap.size,4,none⟩=false/\W'.frozen? ⟨w.heap.size,5,none⟩=false/\W'.frozen? ⟨w.heap.size,6,none⟩=false) from fun W' hb =>
  by and_intros <;> refine (hb.frozen ?_).trans ?_ <;> first|assumption|(rw [<- aq];simp [go_sem])|(rw [<- aq];simp <;> omega))
 have bR:=Lib.hid (show ∀ W',Below W0.heap.size W0 W'->(w.heap.size<W'.heap.size) from fun W' hb =>
  Nat.lt_of_lt_of_le (by rw [<- aq];simp <;> omega) hb.size)
 have zb:Below w.heap.size w W0:=by rw [<- aq];exact bN _ _
 rw [aq]
 clear aq
 have i0:=hw.to zb
 have i1:=hm.to zb
 have i2:=ho.to zb
 have gb:Below W0.heap.size W0 W0:=Below.refl _ _
 obtain ⟨ae,af,ag,am,an,aM,aN⟩:=al.out _ gb
 obtain ⟨ah,ai,ak,au,aw,aR,aS⟩:=bQ.out _ gb
 obtain z0:=bR.out _ gb
 obtain ⟨e0,e1,e2,e3,e4⟩:=(i1.to gb)
 obtain ⟨o0,o1,o2,q0,q1,q2⟩:=(i2.to gb)
 go_wp2_with fail
 have htab:=tab_9
 have hgb:=gb
 go_upto_region 4 with fail
 go_cut [5,6] from 28 (fun s5 s6 wx => zaw W0 (v) s5 wx/\s6=.int .i64 0)
 case first =>
  go_region_held3 (fun W' => W'.cell? ⟨w.heap.size,0,none⟩=some (.int .i64 9)/\W'.cell? ⟨w.heap.size,1,none⟩=some (.int .i64 (T:Int))/\W'.cell? ⟨w.heap.size,2,none⟩=some (.int .i64 xa)/\W'.cell? ⟨w.heap.size,3,none⟩=some (.int .i64 xb)/\W'.cell? ⟨w.heap.size,4,none⟩=some (.bool ng)/\W'.cell? ⟨w.heap.size,5,none⟩=some (.slice a0 n0 c0)/\W'.cell? ⟨w.heap.size,6,none⟩=some (.slice a1 n1 c1)) (first|(with_reducible exact al.out _ gb)|((with_reducible refine al.out _ ?_);repeat' (first|(with_reducible exact gb)|(with_reducible refine Below.drew ?_)|(with_reducible refine bS ?_ (bN _ _))|(with_reducible refine bT ?_ ?_ _ _ _)|(with_reducible exact ay)|(with_reducible exact az)|omega))) (first
   | (go_at_call 34;(refine zf w1 (by with_reducible first|exact Below.refl _ _|exact bN _ _) ?_);intro V2 cH bn;have cS:=bn.size;have cN:=gb.size;have gb:=bS gb bn;(try have ac:=ac.to bn);(try have ap:Tri V2 (w1.heap.size) (.bool false) (.slice none 0 0) (.slice none 0 0):=(by rw [cH];with_reducible first|exact zd _ (.bool false) (.slice none 0 0) (.slice none 0 0) _|exact (zd _ (.bool false) (.slice none 0 0) (.slice none 0 0) _).alloc _));have az:W0.heap.size<=w1.heap.size:=(cN);(try have aH:=ac.lt);(try have aI:=ap.lt);(with_reducible refine (HC.out _ (bS zb gb)).mono ?_);rintro e w2 ⟨ng2,a2_,n2_,c2_,p2_,m2_,k2_,rfl,g2,aL⟩;have gb:=bS gb aL;have da:=aL.size;(try have ac:=ac.to aL);(try have ap:=ap.to aL);(try have bC:=ac.lt);(try have bE:=ap.lt);(try (have aG:=ac;obtain ⟨aU,aV,aW,aX,aY,aZ⟩:=aG));(try (have bj:=ap;obtain ⟨bU,bV,bW,bX,bY,bZ⟩:=bj)))
   | (go_at_call 21;(refine zf W0 (by with_reducible first|exact (Below.refl _ _).drew|exact (bN _ _).drew) ?_);intro V1 cI bP;have cR:=bP.size;have cC:=gb.size;have gb:=bS gb bP;(try have ac:Tri V1 (W0.heap.size) (.bool false) (.slice none 0 0) (.slice none 0 0):=(by rw [cI];with_reducible first|exact (zd _ (.bool false) (.slice none 0 0) (.slice none 0 0) _).drew|exact ((zd _ (.bool false) (.slice none 0 0) (.slice none 0 0) _).alloc _).drew));have ay:W0.heap.size<=W0.heap.size:=(cC);(try have aQ:=ac.lt);(with_reducible refine (zK _).mono ?_);rintro e w1 ⟨rfl,aT⟩;have gb:=bS gb aT;have c8:=aT.size;(try have ac:=ac.to aT);(try have bi:=ac.lt);(try (have aG:=ac;obtain ⟨aU,aV,aW,aX,aY,aZ⟩:=aG))))
  all_goals (go_wp2_with fail;go_meet)
  all_goals refine ⟨?_,rfl⟩
  all_goals first
   | (with_reducible exact zk ac g2 (.inl aH) gb ay)
   | (with_reducible exact zk ap g2 (.inl aI) gb az)
   | (with_reducible exact zG g2 gb)
 case rest =>
 obtain ⟨⟨B3,ng2,a2_,n2_,c2_,p2_,m2_,k2_,lo3,hi3,rfl,hB3,T3,g2,hc3⟩,rfl⟩:=hcut
 clear ae ah af ai ag ak am au an aw aM aR aN aS e0 e1 e2 e3 e4 o0 o1 o2 q0 q1 q2
 have gb:=hc3
 obtain ⟨ae,af,ag,am,an,aM,aN⟩:=al.out _ gb
 obtain ⟨ah,ai,ak,au,aw,aR,aS⟩:=bQ.out _ gb
 obtain z0:=bR.out _ gb
 obtain ⟨e0,e1,e2,e3,e4⟩:=(i1.to gb)
 obtain ⟨o0,o1,o2,q0,q1,q2⟩:=(i2.to gb)
 have z3:=T3.lt
 obtain ⟨b9,cd,ch,ce,cf,ci⟩:=T3
 clear hgb
 obtain ⟨W1,aK⟩:∃ W,wc=W:=⟨_,rfl⟩
 subst aK
 replace i0:=i0.to gb
 replace i1:=i1.to gb
 replace i2:=i2.to gb
 replace zb:=bS zb gb
 have HXwc:=Lib.hid (show ∀ W',Below wc.heap.size wc W'->(Bx7 W' w.heap.size (.int .i64 9) (.int .i64 (T:Int)) (.int .i64 xa) (.int .i64 xb) (.bool ng) (.slice a0 n0 c0) (.slice a1 n1 c1)/\Bx3 W' B3 (.bool ng2) (.slice a2_ n2_ c2_) (.slice p2_ m2_ k2_)) from fun W' hb => by
   refine ⟨bx7 hb ?_ ?_ ?_ ?_ ?_ ?_ ?_ ?_ ?_ ?_ ?_ ?_ ?_ ?_,bx3 hb ?_ ?_ ?_ ?_ ?_ ?_⟩
   all_goals first|assumption|assumption)
 replace gb:=Below.refl wc.heap.size wc
 go_wp2_with fail
 obtain ⟨m,hm9⟩:∃ m:Nat,((max (zc v.num.natAbs).length (zc v.den).length:Nat))=m:=⟨_,rfl⟩
 have HM:=Lib.hid (show ((max (zc v.num.natAbs).length (zc v.den).length:Nat):Int)=(m:Int) by rw [hm9])
 have hm4:m<=4096:=by have:=Hs.out;unfold szq at this;rw [ze,ze] at hm9;omega
 have t4:decide (4096<m)=false:=decide_eq_false (by omega)
 have t5:decide ((4096:Int)<(m:Int))=false:=decide_eq_false (by omega)
 clear hm9 hm4
 refine (zx ng2 _ _ _ _ _ (g2.to gb).isF (m:Int) HM.out).mono ?_
 clear ae ah af ai ag ak am au an aw aM aR aN aS b9 ce cd cf ch ci e0 e1 e2 e3 e4 o0 o1 o2 q0 q1 q2
 rintro e w3 ⟨rfl,bM⟩
 replace gb:=bS gb bM
 obtain ⟨⟨z0,ae,af,ag,am,an,aM,aN,ah,ai,ak,au,aw,aR,aS⟩,⟨z3,b9,cd,ch,ce,cf,ci⟩⟩:=HXwc.out _ gb
 obtain ⟨e0,e1,e2,e3,e4⟩:=(i1.to gb)
 obtain ⟨o0,o1,o2,q0,q1,q2⟩:=(i2.to gb)
 go_wp2_with fail
 go_region
 go_wp2_with fail
 go_ret
 exact ⟨_,_,_,_,rfl,bS zb gb,(g2.to gb).isK,.inr rfl⟩

end Go.Proofs.Ytkjcdnlpjldhaaa


namespace Go.Proofs.Ytkjcdnlpjldhaaa
open Go.RowKit Tw
attribute [local go_sem ↓] Go.wp_at_zero Go.wp_at_succ

theorem zfX (mB g N:Nat) (u vJ:Value) (rows cols:Int) (T:Nat) (xa xb:Int) (ng:Bool) (vn vd:Value) (ln ld:List Nat) (d0 d1 d2:Value)  (w:World) (hw:IsF w vn vd ln ld) (hm:zy w mB g N u vJ rows cols) (hN:N<=100000) (hT:T<N) (ho:zE w g (T*3) d0 d1 d2) (hcall:∀ V,Below w.heap.size w V->Calls Try.prog 37 #[.pointer (some ⟨mB,0,none⟩),.agg #[.int .i64 5,.int .i64 (T:Int),.int .i64 xa,.int .i64 xb,.bool ng,vn,vd]] V (fun e w' => e=.returned (.tuple #[aggR false (.slice none 0 0) (.slice none 0 0),.int .i64 3])/\Below V.heap.size V w'))  :
  Calls Try.prog 11 #[.pointer (some ⟨mB,0,none⟩),.agg #[.int .i64 5,.int .i64 (T:Int),.int .i64 xa,.int .i64 xb,.bool ng,vn,vd]] w (fun e w' => e=.returned (.int .i64 3)/\Below w.heap.size w w'):=by
 obtain ⟨a0,n0,c0,rfl,H0,hm0⟩:=hw.1.open
 obtain ⟨a1,n1,c1,rfl,H1,hm1⟩:=hw.2.open
 have hTi:(T:Int)<(N:Int):=by omega
 have lm:=hm.lt
 have lo:=ho.lt
 have HC:=Lib.hid hcall
 clear hcall
 go_enter Try.func11,Try.ntmps11
 go_wp2_with fail
 obtain ⟨W0,aq⟩:∃ W0,w.alloc (.cells #[.int .i64 5,.int .i64 (T:Int),.int .i64 xa,.int .i64 xb,.bool ng,.slice a0 n0 c0,.slice a1 n1 c1] 27)=W0:=⟨_,rfl⟩
 have al:=Lib.hid (show ∀ W',Below W0.heap.size W0 W'->(W'.cell? ⟨w.heap.size,0,none⟩=some (.int .i64 5)/\W'.cell? ⟨w.heap.size,1,none⟩=some (.int .i64 (T:Int))/\W'.cell? ⟨w.heap.size,2,none⟩=some (.int .i64 xa)/\W'.cell? ⟨w.heap.size,3,none⟩=some (.int .i64 xb)/\W'.cell? ⟨w.heap.size,4,none⟩=some (.bool ng)/\W'.cell? ⟨w.heap.size,5,none⟩=some (.slice a0 n0 c0)/\W'.cell? ⟨w.heap.size,6,none⟩=some (.slice a1 n1 c1)) from fun W' hb =>
  by and_intros <;> exact kc hb (by first|assumption|(rw [<- aq];simp [go_sem])))
 have bQ:=Lib.hid (show ∀ W',Below W0.heap.size W0 W'->(W'.frozen? ⟨w.heap.size,0,none⟩=false/\W'.frozen? ⟨w.heap.size,1,none⟩=false/\W'.frozen? ⟨w.heap.size,2,none⟩=false/\W'.frozen? ⟨w.heap.size,3,none⟩=false/\W'.frozen? ⟨w.heap.size,4,none⟩=false/\W'.frozen? ⟨w.heap.size,5,none⟩=false/\W'.frozen? ⟨w.heap.size,6,none⟩=false) from fun W' hb =>
  by and_intros <;> refine (hb.frozen ?_).trans ?_ <;> first|assumption|(rw [<- aq];simp [go_sem])|(rw [<- aq];simp <;> omega))
 have bR:=Lib.hid (show ∀ W',Below W0.heap.size W0 W'->(w.heap.size<W'.heap.size) from fun W' hb =>
  Nat.lt_of_lt_of_le (by rw [<- aq];simp <;> omega) hb.size)
 have zb:Below w.heap.size w W0:=by rw [<- aq];exact bN _ _
 rw [aq]
 clear aq
 have i0:=hw.to zb
 have i1:=hm.to zb
 have i2:=ho.to zb
 have gb:Below W0.heap.size W0 W0:=Below.refl _ _
 obtain ⟨ae,af,ag,am,an,aM,aN⟩:=al.out _ gb
 obtain ⟨ah,ai,ak,au,aw,aR,aS⟩:=bQ.out _ gb
 obtain z0:=bR.out _ gb
 obtain ⟨e0,e1,e2,e3,e4⟩:=(i1.to gb)
 obtain ⟨o0,o1,o2,q0,q1,q2⟩:=(i2.to gb)
 go_wp2_with fail
 have htab:=tab_5
 have hgb:=gb
 go_upto_region 4 with fail
 go_cut [6] from 28 (fun s6 wx => Below W0.heap.size W0 wx/\s6=.int .i64 3)
 case first =>
  go_region_held3 (fun W' => W'.cell? ⟨w.heap.size,0,none⟩=some (.int .i64 5)/\W'.cell? ⟨w.heap.size,1,none⟩=some (.int .i64 (T:Int))/\W'.cell? ⟨w.heap.size,2,none⟩=some (.int .i64 xa)/\W'.cell? ⟨w.heap.size,3,none⟩=some (.int .i64 xb)/\W'.cell? ⟨w.heap.size,4,none⟩=some (.bool ng)/\W'.cell? ⟨w.heap.size,5,none⟩=some (.slice a0 n0 c0)/\W'.cell? ⟨w.heap.size,6,none⟩=some (.slice a1 n1 c1)) (first|(with_reducible exact al.out _ gb)|((with_reducible refine al.out _ ?_);repeat' (first|(with_reducible exact gb)|(with_reducible refine Below.drew ?_)|(with_reducible refine bS ?_ (bN _ _))|(with_reducible refine bT ?_ ?_ _ _ _)|(with_reducible exact ay)|(with_reducible exact az)|omega))) (first
   | (go_at_call 37;(refine zf w1 (by with_reducible first|exact Below.refl _ _|exact bN _ _) ?_);intro V2 cH bn;have cS:=bn.size;have cN:=gb.size;have gb:=bS gb bn;(try have ac:=ac.to bn);(try have ap:Tri V2 (w1.heap.size) (.bool false) (.slice none 0 0) (.slice none 0 0):=(by rw [cH];with_reducible first|exact zd _ (.bool false) (.slice none 0 0) (.slice none 0 0) _|exact (zd _ (.bool false) (.slice none 0 0) (.slice none 0 0) _).alloc _));have az:W0.heap.size<=w1.heap.size:=(cN);(try have aH:=ac.lt);(try have aI:=ap.lt);(with_reducible refine (HC.out _ (bS zb gb)).mono ?_);rintro e w2 ⟨rfl,aL⟩;have gb:=bS gb aL;have da:=aL.size;(try have ac:=ac.to aL);(try have ap:=ap.to aL);(try have bC:=ac.lt);(try have bE:=ap.lt);(try (have aG:=ac;obtain ⟨aU,aV,aW,aX,aY,aZ⟩:=aG));(try (have bj:=ap;obtain ⟨bU,bV,bW,bX,bY,bZ⟩:=bj)))
   | (go_at_call 21;(refine zf W0 (by with_reducible first|exact (Below.refl _ _).drew|exact (bN _ _).drew) ?_);intro V1 cI bP;have cR:=bP.size;have cC:=gb.size;have gb:=bS gb bP;(try have ac:Tri V1 (W0.heap.size) (.bool false) (.slice none 0 0) (.slice none 0 0):=(by rw [cI];with_reducible first|exact (zd _ (.bool false) (.slice none 0 0) (.slice none 0 0) _).drew|exact ((zd _ (.bool false) (.slice none 0 0) (.slice none 0 0) _).alloc _).drew));have ay:W0.heap.size<=W0.heap.size:=(cC);(try have aQ:=ac.lt);(with_reducible refine (zK _).mono ?_);rintro e w1 ⟨rfl,aT⟩;have gb:=bS gb aT;have c8:=aT.size;(try have ac:=ac.to aT);(try have bi:=ac.lt);(try (have aG:=ac;obtain ⟨aU,aV,aW,aX,aY,aZ⟩:=aG))))
  all_goals (go_wp2_with fail;go_meet)
  all_goals refine ⟨?_,rfl⟩
  all_goals first
   | (repeat' (first|(with_reducible exact gb)|(with_reducible refine Below.drew ?_)|(with_reducible refine bS ?_ (bN _ _))|(with_reducible refine bT ?_ ?_ _ _ _)|(with_reducible exact ay)|(with_reducible exact az)|omega))
 case rest =>
 obtain ⟨hc0,rfl⟩:=hcut
 clear ae ah af ai ag ak am au an aw aM aR aN aS e0 e1 e2 e3 e4 o0 o1 o2 q0 q1 q2
 have gb:=hc0
 obtain ⟨ae,af,ag,am,an,aM,aN⟩:=al.out _ gb
 obtain ⟨ah,ai,ak,au,aw,aR,aS⟩:=bQ.out _ gb
 obtain z0:=bR.out _ gb
 obtain ⟨e0,e1,e2,e3,e4⟩:=(i1.to gb)
 obtain ⟨o0,o1,o2,q0,q1,q2⟩:=(i2.to gb)
 clear hgb
 obtain ⟨W1,aK⟩:∃ W,wc=W:=⟨_,rfl⟩
 subst aK
 replace i0:=i0.to gb
 replace i1:=i1.to gb
 replace i2:=i2.to gb
 replace zb:=bS zb gb
 have HXwc:=Lib.hid (show ∀ W',Below wc.heap.size wc W'->(Bx7 W' w.heap.size (.int .i64 5) (.int .i64 (T:Int)) (.int .i64 xa) (.int .i64 xb) (.bool ng) (.slice a0 n0 c0) (.slice a1 n1 c1)) from fun W' hb => by
   apply bx7 hb
   all_goals first|assumption|assumption)
 replace gb:=Below.refl wc.heap.size wc
 go_wp2_with fail
 go_ret
 exact ⟨rfl,bS zb gb⟩

theorem zfY (mB g N:Nat) (u vJ:Value) (rows cols:Int) (T:Nat) (xa xb:Int) (ng:Bool) (vn vd:Value) (ln ld:List Nat) (d0 d1 d2:Value)  (w:World) (hw:IsF w vn vd ln ld) (hm:zy w mB g N u vJ rows cols) (hN:N<=100000) (hT:T<N) (ho:zE w g (T*3) d0 d1 d2) (hcall:∀ V,Below w.heap.size w V->Calls Try.prog 39 #[.pointer (some ⟨mB,0,none⟩),.agg #[.int .i64 7,.int .i64 (T:Int),.int .i64 xa,.int .i64 xb,.bool ng,vn,vd]] V (fun e w' => e=.returned (.tuple #[aggR false (.slice none 0 0) (.slice none 0 0),.int .i64 3])/\Below V.heap.size V w'))  :
  Calls Try.prog 11 #[.pointer (some ⟨mB,0,none⟩),.agg #[.int .i64 7,.int .i64 (T:Int),.int .i64 xa,.int .i64 xb,.bool ng,vn,vd]] w (fun e w' => e=.returned (.int .i64 3)/\Below w.heap.size w w'):=by
 obtain ⟨a0,n0,c0,rfl,H0,hm0⟩:=hw.1.open
 obtain ⟨a1,n1,c1,rfl,H1,hm1⟩:=hw.2.open
 have hTi:(T:Int)<(N:Int):=by omega
 have lm:=hm.lt
 have lo:=ho.lt
 have HC:=Lib.hid hcall
 clear hcall
 go_enter Try.func11,Try.ntmps11
 go_wp2_with fail
 obtain ⟨W0,aq⟩:∃ W0,w.alloc (.cells #[.int .i64 7,.int .i64 (T:Int),.int .i64 xa,.int .i64 xb,.bool ng,.slice a0 n0 c0,.slice a1 n1 c1] 27)=W0:=⟨_,rfl⟩
 have al:=Lib.hid (show ∀ W',Below W0.heap.size W0 W'->(W'.cell? ⟨w.heap.size,0,none⟩=some (.int .i64 7)/\W'.cell? ⟨w.heap.size,1,none⟩=some (.int .i64 (T:Int))/\W'.cell? ⟨w.heap.size,2,none⟩=some (.int .i64 xa)/\W'.cell? ⟨w.heap.size,3,none⟩=some (.int .i64 xb)/\W'.cell? ⟨w.heap.size,4,none⟩=some (.bool ng)/\W'.cell? ⟨w.heap.size,5,none⟩=some (.slice a0 n0 c0)/\W'.cell? ⟨w.heap.size,6,none⟩=some (.slice a1 n1 c1)) from fun W' hb =>
  by and_intros <;> exact kc hb (by first|assumption|(rw [<- aq];simp [go_sem])))
 have bQ:=Lib.hid (show ∀ W',Below W0.heap.size W0 W'->(W'.frozen? ⟨w.heap.size,0,none⟩=false/\W'.frozen? ⟨w.heap.size,1,none⟩=false/\W'.frozen? ⟨w.heap.size,2,none⟩=false/\W'.frozen? ⟨w.heap.size,3,none⟩=false/\W'.frozen? ⟨w.heap.size,4,none⟩=false/\W'.frozen? ⟨w.heap.size,5,none⟩=false/\W'.frozen? ⟨w.heap.size,6,none⟩=false) from fun W' hb =>
  by and_intros <;> refine (hb.frozen ?_).trans ?_ <;> first|assumption|(rw [<- aq];simp [go_sem])|(rw [<- aq];simp <;> omega))
 have bR:=Lib.hid (show ∀ W',Below W0.heap.size W0 W'->(w.heap.size<W'.heap.size) from fun W' hb =>
  Nat.lt_of_lt_of_le (by rw [<- aq];simp <;> omega) hb.size)
 have zb:Below w.heap.size w W0:=by rw [<- aq];exact bN _ _
 rw [aq]
 clear aq
 have i0:=hw.to zb
 have i1:=hm.to zb
 have i2:=ho.to zb
 have gb:Below W0.heap.size W0 W0:=Below.refl _ _
 obtain ⟨ae,af,ag,am,an,aM,aN⟩:=al.out _ gb
 obtain ⟨ah,ai,ak,au,aw,aR,aS⟩:=bQ.out _ gb
 obtain z0:=bR.out _ gb
 obtain ⟨e0,e1,e2,e3,e4⟩:=(i1.to gb)
 obtain ⟨o0,o1,o2,q0,q1,q2⟩:=(i2.to gb)
 go_wp2_with fail
 have htab:=tab_7
 have hgb:=gb
 go_upto_region 4 with fail
 go_cut [6] from 28 (fun s6 wx => Below W0.heap.size W0 wx/\s6=.int .i64 3)
 case first =>
  go_region_held3 (fun W' => W'.cell? ⟨w.heap.size,0,none⟩=some (.int .i64 7)/\W'.cell? ⟨w.heap.size,1,none⟩=some (.int .i64 (T:Int))/\W'.cell? ⟨w.heap.size,2,none⟩=some (.int .i64 xa)/\W'.cell? ⟨w.heap.size,3,none⟩=some (.int .i64 xb)/\W'.cell? ⟨w.heap.size,4,none⟩=some (.bool ng)/\W'.cell? ⟨w.heap.size,5,none⟩=some (.slice a0 n0 c0)/\W'.cell? ⟨w.heap.size,6,none⟩=some (.slice a1 n1 c1)) (first|(with_reducible exact al.out _ gb)|((with_reducible refine al.out _ ?_);repeat' (first|(with_reducible exact gb)|(with_reducible refine Below.drew ?_)|(with_reducible refine bS ?_ (bN _ _))|(with_reducible refine bT ?_ ?_ _ _ _)|(with_reducible exact ay)|(with_reducible exact az)|omega))) (first
   | (go_at_call 39;(refine zf w1 (by with_reducible first|exact Below.refl _ _|exact bN _ _) ?_);intro V2 cH bn;have cS:=bn.size;have cN:=gb.size;have gb:=bS gb bn;(try have ac:=ac.to bn);(try have ap:Tri V2 (w1.heap.size) (.bool false) (.slice none 0 0) (.slice none 0 0):=(by rw [cH];with_reducible first|exact zd _ (.bool false) (.slice none 0 0) (.slice none 0 0) _|exact (zd _ (.bool false) (.slice none 0 0) (.slice none 0 0) _).alloc _));have az:W0.heap.size<=w1.heap.size:=(cN);(try have aH:=ac.lt);(try have aI:=ap.lt);(with_reducible refine (HC.out _ (bS zb gb)).mono ?_);rintro e w2 ⟨rfl,aL⟩;have gb:=bS gb aL;have da:=aL.size;(try have ac:=ac.to aL);(try have ap:=ap.to aL);(try have bC:=ac.lt);(try have bE:=ap.lt);(try (have aG:=ac;obtain ⟨aU,aV,aW,aX,aY,aZ⟩:=aG));(try (have bj:=ap;obtain ⟨bU,bV,bW,bX,bY,bZ⟩:=bj)))
   | (go_at_call 21;(refine zf W0 (by with_reducible first|exact (Below.refl _ _).drew|exact (bN _ _).drew) ?_);intro V1 cI bP;have cR:=bP.size;have cC:=gb.size;have gb:=bS gb bP;(try have ac:Tri V1 (W0.heap.size) (.bool false) (.slice none 0 0) (.slice none 0 0):=(by rw [cI];with_reducible first|exact (zd _ (.bool false) (.slice none 0 0) (.slice none 0 0) _).drew|exact ((zd _ (.bool false) (.slice none 0 0) (.slice none 0 0) _).alloc _).drew));have ay:W0.heap.size<=W0.heap.size:=(cC);(try have aQ:=ac.lt);(with_reducible refine (zK _).mono ?_);rintro e w1 ⟨rfl,aT⟩;have gb:=bS gb aT;have c8:=aT.size;(try have ac:=ac.to aT);(try have bi:=ac.lt);(try (have aG:=ac;obtain ⟨aU,aV,aW,aX,aY,aZ⟩:=aG))))
  all_goals (go_wp2_with fail;go_meet)
  all_goals refine ⟨?_,rfl⟩
  all_goals first
   | (repeat' (first|(with_reducible exact gb)|(with_reducible refine Below.drew ?_)|(with_reducible refine bS ?_ (bN _ _))|(with_reducible refine bT ?_ ?_ _ _ _)|(with_reducible exact ay)|(with_reducible exact az)|omega))
 case rest =>
 obtain ⟨hc0,rfl⟩:=hcut
 clear ae ah af ai ag ak am au an aw aM aR aN aS e0 e1 e2 e3 e4 o0 o1 o2 q0 q1 q2
 have gb:=hc0
 obtain ⟨ae,af,ag,am,an,aM,aN⟩:=al.out _ gb
 obtain ⟨ah,ai,ak,au,aw,aR,aS⟩:=bQ.out _ gb
 obtain z0:=bR.out _ gb
 obtain ⟨e0,e1,e2,e3,e4⟩:=(i1.to gb)
 obtain ⟨o0,o1,o2,q0,q1,q2⟩:=(i2.to gb)
 clear hgb
 obtain ⟨W1,aK⟩:∃ W,wc=W:=⟨_,rfl⟩
 subst aK
 replace i0:=i0.to gb
 replace i1:=i1.to gb
 replace i2:=i2.to gb
 replace zb:=bS zb gb
 have HXwc:=Lib.hid (show ∀ W',Below wc.heap.size wc W'->(Bx7 W' w.heap.size (.int .i64 7) (.int .i64 (T:Int)) (.int .i64 xa) (.int .i64 xb) (.bool ng) (.slice a0 n0 c0) (.slice a1 n1 c1)) from fun W' hb => by
   apply bx7 hb
   all_goals first|assumption|assumption)
 replace gb:=Below.refl wc.heap.size wc
 go_wp2_with fail
 go_ret
 exact ⟨rfl,bS zb gb⟩

theorem zfZ (mB g N:Nat) (u vJ:Value) (rows cols:Int) (T:Nat) (xa xb:Int) (ng:Bool) (vn vd:Value) (ln ld:List Nat) (d0 d1 d2:Value)  (w:World) (hw:IsF w vn vd ln ld) (hm:zy w mB g N u vJ rows cols) (hN:N<=100000) (hT:T<N) (ho:zE w g (T*3) d0 d1 d2) (hcall:∀ V,Below w.heap.size w V->Calls Try.prog 39 #[.pointer (some ⟨mB,0,none⟩),.agg #[.int .i64 7,.int .i64 (T:Int),.int .i64 xa,.int .i64 xb,.bool ng,vn,vd]] V (fun e w' => e=.returned (.tuple #[aggR false (.slice none 0 0) (.slice none 0 0),.int .i64 4])/\Below V.heap.size V w'))  :
  Calls Try.prog 11 #[.pointer (some ⟨mB,0,none⟩),.agg #[.int .i64 7,.int .i64 (T:Int),.int .i64 xa,.int .i64 xb,.bool ng,vn,vd]] w (fun e w' => e=.returned (.int .i64 4)/\Below w.heap.size w w'):=by
 obtain ⟨a0,n0,c0,rfl,H0,hm0⟩:=hw.1.open
 obtain ⟨a1,n1,c1,rfl,H1,hm1⟩:=hw.2.open
 have hTi:(T:Int)<(N:Int):=by omega
 have lm:=hm.lt
 have lo:=ho.lt
 have HC:=Lib.hid hcall
 clear hcall
 go_enter Try.func11,Try.ntmps11
 go_wp2_with fail
 obtain ⟨W0,aq⟩:∃ W0,w.alloc (.cells #[.int .i64 7,.int .i64 (T:Int),.int .i64 xa,.int .i64 xb,.bool ng,.slice a0 n0 c0,.slice a1 n1 c1] 27)=W0:=⟨_,rfl⟩
 have al:=Lib.hid (show ∀ W',Below W0.heap.size W0 W'->(W'.cell? ⟨w.heap.size,0,none⟩=some (.int .i64 7)/\W'.cell? ⟨w.heap.size,1,none⟩=some (.int .i64 (T:Int))/\W'.cell? ⟨w.heap.size,2,none⟩=some (.int .i64 xa)/\W'.cell? ⟨w.heap.size,3,none⟩=some (.int .i64 xb)/\W'.cell? ⟨w.heap.size,4,none⟩=some (.bool ng)/\W'.cell? ⟨w.heap.size,5,none⟩=some (.slice a0 n0 c0)/\W'.cell? ⟨w.heap.size,6,none⟩=some (.slice a1 n1 c1)) from fun W' hb =>
  by and_intros <;> exact kc hb (by first|assumption|(rw [<- aq];simp [go_sem])))
 have bQ:=Lib.hid (show ∀ W',Below W0.heap.size W0 W'->(W'.frozen? ⟨w.heap.size,0,none⟩=false/\W'.frozen? ⟨w.heap.size,1,none⟩=false/\W'.frozen? ⟨w.heap.size,2,none⟩=false/\W'.frozen? ⟨w.heap.size,3,none⟩=false/\W'.frozen? ⟨w.heap.size,4,none⟩=false/\W'.frozen? ⟨w.heap.size,5,none⟩=false/\W'.frozen? ⟨w.heap.size,6,none⟩=false) from fun W' hb =>
  by and_intros <;> refine (hb.frozen ?_).trans ?_ <;> first|assumption|(rw [<- aq];simp [go_sem])|(rw [<- aq];simp <;> omega))
 have bR:=Lib.hid (show ∀ W',Below W0.heap.size W0 W'->(w.heap.size<W'.heap.size) from fun W' hb =>
  Nat.lt_of_lt_of_le (by rw [<- aq];simp <;> omega) hb.size)
 have zb:Below w.heap.size w W0:=by rw [<- aq];exact bN _ _
 rw [aq]
 clear aq
 have i0:=hw.to zb
 have i1:=hm.to zb
 have i2:=ho.to zb
 have gb:Below W0.heap.size W0 W0:=Below.refl _ _
 obtain ⟨ae,af,ag,am,an,aM,aN⟩:=al.out _ gb
 obtain ⟨ah,ai,ak,au,aw,aR,aS⟩:=bQ.out _ gb
 obtain z0:=bR.out _ gb
 obtain ⟨e0,e1,e2,e3,e4⟩:=(i1.to gb)
 obtain ⟨o0,o1,o2,q0,q1,q2⟩:=(i2.to gb)
 go_wp2_with fail
 have htab:=tab_7
 have hgb:=gb
 go_upto_region 4 with fail
 go_cut [6] from 28 (fun s6 wx => Below W0.heap.size W0 wx/\s6=.int .i64 4)
 case first =>
  go_region_held3 (fun W' => W'.cell? ⟨w.heap.size,0,none⟩=some (.int .i64 7)/\W'.cell? ⟨w.heap.size,1,none⟩=some (.int .i64 (T:Int))/\W'.cell? ⟨w.heap.size,2,none⟩=some (.int .i64 xa)/\W'.cell? ⟨w.heap.size,3,none⟩=some (.int .i64 xb)/\W'.cell? ⟨w.heap.size,4,none⟩=some (.bool ng)/\W'.cell? ⟨w.heap.size,5,none⟩=some (.slice a0 n0 c0)/\W'.cell? ⟨w.heap.size,6,none⟩=some (.slice a1 n1 c1)) (first|(with_reducible exact al.out _ gb)|((with_reducible refine al.out _ ?_);repeat' (first|(with_reducible exact gb)|(with_reducible refine Below.drew ?_)|(with_reducible refine bS ?_ (bN _ _))|(with_reducible refine bT ?_ ?_ _ _ _)|(with_reducible exact ay)|(with_reducible exact az)|omega))) (first
   | (go_at_call 39;(refine zf w1 (by with_reducible first|exact Below.refl _ _|exact bN _ _) ?_);intro V2 cH bn;have cS:=bn.size;have cN:=gb.size;have gb:=bS gb bn;(try have ac:=ac.to bn);(try have ap:Tri V2 (w1.heap.size) (.bool false) (.slice none 0 0) (.slice none 0 0):=(by rw [cH];with_reducible first|exact zd _ (.bool false) (.slice none 0 0) (.slice none 0 0) _|exact (zd _ (.bool false) (.slice none 0 0) (.slice none 0 0) _).alloc _));have az:W0.heap.size<=w1.heap.size:=(cN);(try have aH:=ac.lt);(try have aI:=ap.lt);(with_reducible refine (HC.out _ (bS zb gb)).mono ?_);rintro e w2 ⟨rfl,aL⟩;have gb:=bS gb aL;have da:=aL.size;(try have ac:=ac.to aL);(try have ap:=ap.to aL);(try have bC:=ac.lt);(try have bE:=ap.lt);(try (have aG:=ac;obtain ⟨aU,aV,aW,aX,aY,aZ⟩:=aG));(try (have bj:=ap;obtain ⟨bU,bV,bW,bX,bY,bZ⟩:=bj)))
   | (go_at_call 21;(refine zf W0 (by with_reducible first|exact (Below.refl _ _).drew|exact (bN _ _).drew) ?_);intro V1 cI bP;have cR:=bP.size;have cC:=gb.size;have gb:=bS gb bP;(try have ac:Tri V1 (W0.heap.size) (.bool false) (.slice none 0 0) (.slice none 0 0):=(by rw [cI];with_reducible first|exact (zd _ (.bool false) (.slice none 0 0) (.slice none 0 0) _).drew|exact ((zd _ (.bool false) (.slice none 0 0) (.slice none 0 0) _).alloc _).drew));have ay:W0.heap.size<=W0.heap.size:=(cC);(try have aQ:=ac.lt);(with_reducible refine (zK _).mono ?_);rintro e w1 ⟨rfl,aT⟩;have gb:=bS gb aT;have c8:=aT.size;(try have ac:=ac.to aT);(try have bi:=ac.lt);(try (have aG:=ac;obtain ⟨aU,aV,aW,aX,aY,aZ⟩:=aG))))
  all_goals (go_wp2_with fail;go_meet)
  all_goals refine ⟨?_,rfl⟩
  all_goals first
   | (repeat' (first|(with_reducible exact gb)|(with_reducible refine Below.drew ?_)|(with_reducible refine bS ?_ (bN _ _))|(with_reducible refine bT ?_ ?_ _ _ _)|(with_reducible exact ay)|(with_reducible exact az)|omega))
 case rest =>
 obtain ⟨hc0,rfl⟩:=hcut
 clear ae ah af ai ag ak am au an aw aM aR aN aS e0 e1 e2 e3 e4 o0 o1 o2 q0 q1 q2
 have gb:=hc0
 obtain ⟨ae,af,ag,am,an,aM,aN⟩:=al.out _ gb
 obtain ⟨ah,ai,ak,au,aw,aR,aS⟩:=bQ.out _ gb
 obtain z0:=bR.out _ gb
 obtain ⟨e0,e1,e2,e3,e4⟩:=(i1.to gb)
 obtain ⟨o0,o1,o2,q0,q1,q2⟩:=(i2.to gb)
 clear hgb
 obtain ⟨W1,aK⟩:∃ W,wc=W:=⟨_,rfl⟩
 subst aK
 replace i0:=i0.to gb
 replace i1:=i1.to gb
 replace i2:=i2.to gb
 replace zb:=bS zb gb
 have HXwc:=Lib.hid (show ∀ W',Below wc.heap.size wc W'->(Bx7 W' w.heap.size (.int .i64 7) (.int .i64 (T:Int)) (.int .i64 xa) (.int .i64 xb) (.bool ng) (.slice a0 n0 c0) (.slice a1 n1 c1)) from fun W' hb => by
   apply bx7 hb
   all_goals first|assumption|assumption)
 replace gb:=Below.refl wc.heap.size wc
 go_wp2_with fail
 go_ret
 exact ⟨rfl,bS zb gb⟩

theorem zjM (mB g N h nJ cJ:Nat) (u:Value) (rows cols:Int) (T:Nat) (xb:Int) (ng:Bool) (vn vd:Value) (ln ld:List Nat) (d0 d1 d2:Value) (R1:Nat) (nr1:Bool) (vr1 ur1:Value) {x:Rat}  (w:World) (hw:IsF w vn vd ln ld) (hm:zy w mB g N u (.slice (some ⟨h,0,none⟩) nJ cJ) rows cols) (hN:N<=100000) (hJ:nJ<=100000) (hT:T<nJ) (ho:zE w h (T*3) d0 d1 d2) (hr1:R1<N) (tr1:zaW w g (R1*3) (.bool nr1) vr1 ur1) (qr1:IsK w nr1 vr1 ur1 x) (nh1:h≠g) (nh2:h≠mB)  :
  Calls Try.prog 11 #[.pointer (some ⟨mB,0,none⟩),.agg #[.int .i64 10,.int .i64 (T:Int),.int .i64 (R1:Int),.int .i64 xb,.bool ng,vn,vd]] w (zbU w h (T*3) x):=by
 obtain ⟨a0,n0,c0,rfl,H0,hm0⟩:=hw.1.open
 obtain ⟨a1,n1,c1,rfl,H1,hm1⟩:=hw.2.open
 have qq:=qr1.1
 have Hx1:=zas qq
 obtain ⟨ra1,rn1,rc1,rfl,RH1,rm1⟩:=qr1.1.1.open
 obtain ⟨sa1,sn1,sc1,rfl,SH1,sm1⟩:=qr1.1.2.1.open
 have ri1:(R1:Int)<(N:Int):=by omega
 have ti1:(T:Int)<(nJ:Int):=by omega
 have lm:=hm.lt
 have lt1:=tr1.lt
 have lo:=ho.lt
 have m1:=Ne.symm nh1
 have m2:=Ne.symm nh2
 have m3:w.heap.size≠h:=by omega
 go_enter Try.func11,Try.ntmps11
 go_wp2_with fail
 obtain ⟨W0,aq⟩:∃ W0,w.alloc (.cells #[.int .i64 10,.int .i64 (T:Int),.int .i64 (R1:Int),.int .i64 xb,.bool ng,.slice a0 n0 c0,.slice a1 n1 c1] 27)=W0:=⟨_,rfl⟩
 have al:=Lib.hid (show ∀ W',Below W0.heap.size W0 W'->(Bx7 W' w.heap.size (.int .i64 10) (.int .i64 (T:Int)) (.int .i64 (R1:Int)) (.int .i64 xb) (.bool ng) (.slice a0 n0 c0) (.slice a1 n1 c1)) from fun W' hb => by
   apply bx7 hb
   all_goals first|assumption|(rw [<- aq];simp [go_sem]))
 have zb:Below w.heap.size w W0:=by rw [<- aq];exact bN _ _
 rw [aq]
 clear aq
 have i0:=hw.to zb
 have i1:=hm.to zb
 have i2:=tr1.to zb
 have i3:=qq.to zb
 have i4:=ho.to zb
 have gb:Below W0.heap.size W0 W0:=Below.refl _ _
 obtain ⟨z0,ae,af,ag,am,an,aM,aN,ah,ai,ak,au,aw,aR,aS⟩:=al.out _ gb
 obtain ⟨e0,e1,e2,e3,e4⟩:=(i1.to gb)
 obtain ⟨t10,t11,t12⟩:=(i2.to gb)
 obtain ⟨o0,o1,o2,q0,q1,q2⟩:=(i4.to gb)
 go_wp2_with fail
 go_region_held3 (fun W' => W'.cell? ⟨w.heap.size,0,none⟩=some (.int .i64 10)/\W'.cell? ⟨w.heap.size,1,none⟩=some (.int .i64 (T:Int))/\W'.cell? ⟨w.heap.size,2,none⟩=some (.int .i64 (R1:Int))/\W'.cell? ⟨w.heap.size,3,none⟩=some (.int .i64 xb)/\W'.cell? ⟨w.heap.size,4,none⟩=some (.bool ng)/\W'.cell? ⟨w.heap.size,5,none⟩=some (.slice a0 n0 c0)/\W'.cell? ⟨w.heap.size,6,none⟩=some (.slice a1 n1 c1)/\W'.cell? ⟨mB,1,none⟩=some (.slice (some ⟨g,0,none⟩) N N)/\W'.cell? ⟨mB,4,none⟩=some (.slice (some ⟨h,0,none⟩) nJ cJ)/\W'.cell? ⟨g,R1*3,none⟩=some (.bool nr1)/\W'.cell? ⟨g,R1*3+1,none⟩=some (.slice ra1 rn1 rc1)/\W'.cell? ⟨g,R1*3+2,none⟩=some (.slice sa1 sn1 sc1)) (first|(with_reducible exact ⟨ae,af,ag,am,an,aM,aN,e1,e4,t10,t11,t12⟩)|(with_reducible exact ⟨cP (cP (cP ae (.inl m3) _) (.inl m3) _) (.inl m3) _,cP (cP (cP af (.inl m3) _) (.inl m3) _) (.inl m3) _,cP (cP (cP ag (.inl m3) _) (.inl m3) _) (.inl m3) _,cP (cP (cP am (.inl m3) _) (.inl m3) _) (.inl m3) _,cP (cP (cP an (.inl m3) _) (.inl m3) _) (.inl m3) _,cP (cP (cP aM (.inl m3) _) (.inl m3) _) (.inl m3) _,cP (cP (cP aN (.inl m3) _) (.inl m3) _) (.inl m3) _,cP (cP (cP e1 (.inl m2) _) (.inl m2) _) (.inl m2) _,cP (cP (cP e4 (.inl m2) _) (.inl m2) _) (.inl m2) _,cP (cP (cP t10 (.inl m1) _) (.inl m1) _) (.inl m1) _,cP (cP (cP t11 (.inl m1) _) (.inl m1) _) (.inl m1) _,cP (cP (cP t12 (.inl m1) _) (.inl m1) _) (.inl m1) _⟩)|exact ⟨ae,af,ag,am,an,aM,aN,e1,e4,t10,t11,t12⟩) (first
  | (go_at_call 20;have gb:=gb.drew;(with_reducible refine (zcA nr1 _ _ _ _ _ (i3.to gb) x rfl Hx1).mono ?_);rintro e w1 ⟨ng1,a1_,n1_,c1_,p1_,m1_,k1_,rfl,g1,aT⟩;have gb:=bS gb aT;obtain ⟨z0,ae,af,ag,am,an,aM,aN,ah,ai,ak,au,aw,aR,aS⟩:=al.out _ gb;obtain ⟨e0,e1,e2,e3,e4⟩:=(i1.to gb);obtain ⟨t10,t11,t12⟩:=(i2.to gb);obtain ⟨o0,o1,o2,q0,q1,q2⟩:=(i4.to gb)))
 go_wp2_with fail
 go_ret
 exact ⟨_,_,_,_,rfl,bS zb gb,g1.isK,.inl rfl⟩

end Go.Proofs.Ytkjcdnlpjldhaaa

