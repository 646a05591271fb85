/-
  The texts Vm9, VmPushM, Vm9b, Vm9c, Vm9d, merged.
-/
import Derived.Test.YtkjcdnlpjldhaaaGreatK25
import Derived.Test.YtkjcdnlpjldhaaaGreatK11
import Derived.Deep.RegionHeld3
import Derived.FnLit
import Derived.Test.YtkjcdnlpjldhaaaGreatK21
set_option linter.unusedVariables false
set_option linter.unusedSimpArgs false
set_option maxRecDepth 100000
set_option maxHeartbeats 400000000
namespace Go.Proofs.YtkjcdnlpjldhaaaGreat
open Go.RowKit Tw
attribute [local go_sem ↓] Go.wp_at_zero Go.wp_at_succ

def zcm (w:World) (b o:Nat) (q:Rat) (e:Ending) (w':World):Prop :=
 ∃ w2 ng v u,e=.returned (.int .i64 0)/\Below w.heap.size w w2/\IsK w2 ng v u q/\(w'=put3 w2 b o (.bool ng) v u\/w'=(put3 w2 b o (.bool ng) v u).drew)

theorem zaO  (w:World)  :
  Calls Tryz.prog 65 #[] w (fun e w' => e=.returned (.agg #[.func (.func 91) #[] #[],.func (.func 92) #[] #[],.func (.func 93) #[] #[],.func (.func 94) #[] #[],.func (.func 95) #[] #[],.func (.func 96) #[] #[],.func (.func 97) #[] #[],.func (.func 98) #[] #[],.func (.func 95) #[] #[],.func (.func 93) #[] #[]])/\Below w.heap.size w w'):=by
 go_enter Tryz.func65,Tryz.ntmps65
 go_wp2_with fail
 exact bodyPost_ret (v:=.agg #[.func (.func 91) #[] #[],.func (.func 92) #[] #[],.func (.func 93) #[] #[],.func (.func 94) #[] #[],.func (.func 95) #[] #[],.func (.func 96) #[] #[],.func (.func 97) #[] #[],.func (.func 98) #[] #[],.func (.func 95) #[] #[],.func (.func 93) #[] #[]]) (by simp [results,Tryz.results65,go_sem]) rfl ⟨rfl,bN _ _⟩

theorem tab_0 (w:World):(Instr.index 121 (.agg #[.func (.func 91) #[] #[],.func (.func 92) #[] #[],.func (.func 93) #[] #[],.func (.func 94) #[] #[],.func (.func 95) #[] #[],.func (.func 96) #[] #[],.func (.func 97) #[] #[],.func (.func 98) #[] #[],.func (.func 95) #[] #[],.func (.func 93) #[] #[]]) (.int .i64 0)).run Tryz.prog w=.ok (.func (.func 91) #[] #[]) w:=by
 kernel_rfl

theorem tab_1 (w:World):(Instr.index 121 (.agg #[.func (.func 91) #[] #[],.func (.func 92) #[] #[],.func (.func 93) #[] #[],.func (.func 94) #[] #[],.func (.func 95) #[] #[],.func (.func 96) #[] #[],.func (.func 97) #[] #[],.func (.func 98) #[] #[],.func (.func 95) #[] #[],.func (.func 93) #[] #[]]) (.int .i64 1)).run Tryz.prog w=.ok (.func (.func 92) #[] #[]) w:=by
 kernel_rfl

theorem tab_2 (w:World):(Instr.index 121 (.agg #[.func (.func 91) #[] #[],.func (.func 92) #[] #[],.func (.func 93) #[] #[],.func (.func 94) #[] #[],.func (.func 95) #[] #[],.func (.func 96) #[] #[],.func (.func 97) #[] #[],.func (.func 98) #[] #[],.func (.func 95) #[] #[],.func (.func 93) #[] #[]]) (.int .i64 2)).run Tryz.prog w=.ok (.func (.func 93) #[] #[]) w:=by
 kernel_rfl

theorem tab_3 (w:World):(Instr.index 121 (.agg #[.func (.func 91) #[] #[],.func (.func 92) #[] #[],.func (.func 93) #[] #[],.func (.func 94) #[] #[],.func (.func 95) #[] #[],.func (.func 96) #[] #[],.func (.func 97) #[] #[],.func (.func 98) #[] #[],.func (.func 95) #[] #[],.func (.func 93) #[] #[]]) (.int .i64 3)).run Tryz.prog w=.ok (.func (.func 94) #[] #[]) w:=by
 kernel_rfl

theorem tab_4 (w:World):(Instr.index 121 (.agg #[.func (.func 91) #[] #[],.func (.func 92) #[] #[],.func (.func 93) #[] #[],.func (.func 94) #[] #[],.func (.func 95) #[] #[],.func (.func 96) #[] #[],.func (.func 97) #[] #[],.func (.func 98) #[] #[],.func (.func 95) #[] #[],.func (.func 93) #[] #[]]) (.int .i64 4)).run Tryz.prog w=.ok (.func (.func 95) #[] #[]) w:=by
 kernel_rfl

theorem tab_5 (w:World):(Instr.index 121 (.agg #[.func (.func 91) #[] #[],.func (.func 92) #[] #[],.func (.func 93) #[] #[],.func (.func 94) #[] #[],.func (.func 95) #[] #[],.func (.func 96) #[] #[],.func (.func 97) #[] #[],.func (.func 98) #[] #[],.func (.func 95) #[] #[],.func (.func 93) #[] #[]]) (.int .i64 5)).run Tryz.prog w=.ok (.func (.func 96) #[] #[]) w:=by
 kernel_rfl

theorem tab_6 (w:World):(Instr.index 121 (.agg #[.func (.func 91) #[] #[],.func (.func 92) #[] #[],.func (.func 93) #[] #[],.func (.func 94) #[] #[],.func (.func 95) #[] #[],.func (.func 96) #[] #[],.func (.func 97) #[] #[],.func (.func 98) #[] #[],.func (.func 95) #[] #[],.func (.func 93) #[] #[]]) (.int .i64 6)).run Tryz.prog w=.ok (.func (.func 97) #[] #[]) w:=by
 kernel_rfl

theorem tab_7 (w:World):(Instr.index 121 (.agg #[.func (.func 91) #[] #[],.func (.func 92) #[] #[],.func (.func 93) #[] #[],.func (.func 94) #[] #[],.func (.func 95) #[] #[],.func (.func 96) #[] #[],.func (.func 97) #[] #[],.func (.func 98) #[] #[],.func (.func 95) #[] #[],.func (.func 93) #[] #[]]) (.int .i64 7)).run Tryz.prog w=.ok (.func (.func 98) #[] #[]) w:=by
 kernel_rfl

theorem tab_8 (w:World):(Instr.index 121 (.agg #[.func (.func 91) #[] #[],.func (.func 92) #[] #[],.func (.func 93) #[] #[],.func (.func 94) #[] #[],.func (.func 95) #[] #[],.func (.func 96) #[] #[],.func (.func 97) #[] #[],.func (.func 98) #[] #[],.func (.func 95) #[] #[],.func (.func 93) #[] #[]]) (.int .i64 8)).run Tryz.prog w=.ok (.func (.func 95) #[] #[]) w:=by
 kernel_rfl

theorem tab_9 (w:World):(Instr.index 121 (.agg #[.func (.func 91) #[] #[],.func (.func 92) #[] #[],.func (.func 93) #[] #[],.func (.func 94) #[] #[],.func (.func 95) #[] #[],.func (.func 96) #[] #[],.func (.func 97) #[] #[],.func (.func 98) #[] #[],.func (.func 95) #[] #[],.func (.func 93) #[] #[]]) (.int .i64 9)).run Tryz.prog w=.ok (.func (.func 93) #[] #[]) w:=by
 kernel_rfl

theorem ziF (mB g N:Nat) (u vJ:Value) (rows cols:Int) (T:Nat) (xa xb:Int) (ng:Bool) (vn vd:Value) (ln ld:List Nat) (d0 d1 d2:Value) {v:Rat}  (w:World) (hw:IsF w vn vd ln ld) (hm:zE w mB g N u vJ rows cols) (hN:N<=100000) (hT:T<N) (ho:zV w g (T*3) d0 d1 d2) (hs:szq v<=4096) (hcall:∀ V,Below w.heap.size w V->Calls Tryz.prog 91 #[.pointer (some ⟨mB,0,none⟩),.agg #[.int .i64 0,.int .i64 (T:Int),.int .i64 xa,.int .i64 xb,.bool ng,vn,vd]] V (zD V v))  :
  Calls Tryz.prog 39 #[.pointer (some ⟨mB,0,none⟩),.agg #[.int .i64 0,.int .i64 (T:Int),.int .i64 xa,.int .i64 xb,.bool ng,vn,vd]] w (zcm w g (T*3) v):=by
 obtain ⟨a0,n0,c0,rfl,H0,hm0⟩:=hw.1.open
 obtain ⟨a1,n1,c1,rfl,H1,hm1⟩:=hw.2.open
 have hTi:(T:Int)<(N:Int):=by omega
 have lm:=hm.lt
 have lo:=ho.lt
 have Hs:=Lib.hid hs
 have HC:=Lib.hid hcall
 clear hs hcall
 go_enter Tryz.func39,Tryz.ntmps39
 go_wp2_with fail
 obtain ⟨W0,ap⟩:∃ W0,w.alloc (.cells #[.int .i64 0,.int .i64 (T:Int),.int .i64 xa,.int .i64 xb,.bool ng,.slice a0 n0 c0,.slice a1 n1 c1] 49)=W0:=⟨_,rfl⟩
 have aq:=Lib.hid (show ∀ W',Below W0.heap.size W0 W'->(W'.cell? ⟨w.heap.size,0,none⟩=some (.int .i64 0)/\W'.cell? ⟨w.heap.size,1,none⟩=some (.int .i64 (T:Int))/\W'.cell? ⟨w.heap.size,2,none⟩=some (.int .i64 xa)/\W'.cell? ⟨w.heap.size,3,none⟩=some (.int .i64 xb)/\W'.cell? ⟨w.heap.size,4,none⟩=some (.bool ng)/\W'.cell? ⟨w.heap.size,5,none⟩=some (.slice a0 n0 c0)/\W'.cell? ⟨w.heap.size,6,none⟩=some (.slice a1 n1 c1)) from fun W' hb =>
  by and_intros <;> exact kc hb (by first|assumption|(rw [<- ap];simp [go_sem])))
 have cf:=Lib.hid (show ∀ W',Below W0.heap.size W0 W'->(W'.frozen? ⟨w.heap.size,0,none⟩=false/\W'.frozen? ⟨w.heap.size,1,none⟩=false/\W'.frozen? ⟨w.heap.size,2,none⟩=false/\W'.frozen? ⟨w.heap.size,3,none⟩=false/\W'.frozen? ⟨w.heap.size,4,none⟩=false/\W'.frozen? ⟨w.heap.size,5,none⟩=false/\W'.frozen? ⟨w.heap.size,6,none⟩=false) from fun W' hb =>
  by and_intros <;> refine (hb.frozen ?_).trans ?_ <;> first|assumption|(rw [<- ap];simp [go_sem])|(rw [<- ap];simp <;> omega))
 have cg:=Lib.hid (show ∀ W',Below W0.heap.size W0 W'->(w.heap.size<W'.heap.size) from fun W' hb =>
  Nat.lt_of_lt_of_le (by rw [<- ap];simp <;> omega) hb.size)
 have zb:Below w.heap.size w W0:=by rw [<- ap];exact bN _ _
 rw [ap]
 clear ap
 have i0:=hw.to zb
 have i1:=hm.to zb
 have i2:=ho.to zb
 have gb:Below W0.heap.size W0 W0:=Below.refl _ _
 obtain ⟨ae,af,ah,az,aA,aP,aQ⟩:=aq.out _ gb
 obtain ⟨ai,ak,al,aE,aF,be,bf⟩:=cf.out _ gb
 obtain z0:=cg.out _ gb
 obtain ⟨e0,e1,e2,e3,e4⟩:=(i1.to gb)
 obtain ⟨o0,o1,o2,q0,q1,q2⟩:=(i2.to gb)
 go_wp2_with fail
 have htab:=tab_0
 have hgb:=gb
 go_upto_region 4 with fail
 go_cut [5,6] from 28 (fun s5 s6 wx => zbC W0 (v) s5 wx/\s6=.int .i64 0)
 case first =>
  go_region_held3 (fun W' => W'.cell? ⟨w.heap.size,0,none⟩=some (.int .i64 0)/\W'.cell? ⟨w.heap.size,1,none⟩=some (.int .i64 (T:Int))/\W'.cell? ⟨w.heap.size,2,none⟩=some (.int .i64 xa)/\W'.cell? ⟨w.heap.size,3,none⟩=some (.int .i64 xb)/\W'.cell? ⟨w.heap.size,4,none⟩=some (.bool ng)/\W'.cell? ⟨w.heap.size,5,none⟩=some (.slice a0 n0 c0)/\W'.cell? ⟨w.heap.size,6,none⟩=some (.slice a1 n1 c1)) (first|(with_reducible exact aq.out _ gb)|((with_reducible refine aq.out _ ?_);repeat' (first|(with_reducible exact gb)|(with_reducible refine Below.drew ?_)|(with_reducible refine bS ?_ (bN _ _))|(with_reducible refine bT ?_ ?_ _ _ _)|(with_reducible exact aG)|(with_reducible exact aH)|omega))) (first
   | (go_at_call 91;(refine zg w1 (by with_reducible first|exact Below.refl _ _|exact bN _ _) ?_);intro V2 dE bV;have dY:=bV.size;have dH:=gb.size;have gb:=bS gb bV;(try have ag:=ag.to bV);(try have aI:Tri V2 (w1.heap.size) (.bool false) (.slice none 0 0) (.slice none 0 0):=(by rw [dE];with_reducible first|exact zd _ (.bool false) (.slice none 0 0) (.slice none 0 0) _|exact (zd _ (.bool false) (.slice none 0 0) (.slice none 0 0) _).alloc _));have aH:W0.heap.size<=w1.heap.size:=(dH);(try have aN:=ag.lt);(try have aO:=aI.lt);(with_reducible refine (HC.out _ (bS zb gb)).mono ?_);rintro e w2 ⟨ng2,a2_,n2_,c2_,p2_,m2_,k2_,rfl,g2,aM⟩;have gb:=bS gb aM;have dF:=aM.size;(try have ag:=ag.to aM);(try have aI:=aI.to aM);(try have b5:=ag.lt);(try have b6:=aI.lt);(try (have aR:=ag;obtain ⟨bo,bq,bs,bt,bu,bv⟩:=aR));(try (have bQ:=aI;obtain ⟨ci,ck,cl,cm,cn,cq⟩:=bQ)))
   | (go_at_call 65;(refine zg W0 (by with_reducible first|exact (Below.refl _ _).drew|exact (bN _ _).drew) ?_);intro V1 dD ch;have dX:=ch.size;have dG:=gb.size;have gb:=bS gb ch;(try have ag:Tri V1 (W0.heap.size) (.bool false) (.slice none 0 0) (.slice none 0 0):=(by rw [dD];with_reducible first|exact (zd _ (.bool false) (.slice none 0 0) (.slice none 0 0) _).drew|exact ((zd _ (.bool false) (.slice none 0 0) (.slice none 0 0) _).alloc _).drew));have aG:W0.heap.size<=W0.heap.size:=(dG);(try have bc:=ag.lt);(with_reducible refine (zaO _).mono ?_);rintro e w1 ⟨rfl,aS⟩;have gb:=bS gb aS;have dj:=aS.size;(try have ag:=ag.to aS);(try have bn:=ag.lt);(try (have aR:=ag;obtain ⟨bo,bq,bs,bt,bu,bv⟩:=aR))))
  all_goals (go_wp2_with fail;go_meet)
  all_goals refine ⟨?_,rfl⟩
  all_goals first
   | (with_reducible exact zG ag g2 (.inl aN) gb aG)
   | (with_reducible exact zG aI g2 (.inl aO) gb aH)
   | (with_reducible exact zaT g2 gb)
 case rest =>
 obtain ⟨⟨B3,ng2,a2_,n2_,c2_,p2_,m2_,k2_,lo3,hi3,rfl,hB3,T3,g2,hc3⟩,rfl⟩:=hcut
 clear ae ai af ak ah al az aE aA aF aP be aQ bf e0 e1 e2 e3 e4 o0 o1 o2 q0 q1 q2
 have gb:=hc3
 obtain ⟨ae,af,ah,az,aA,aP,aQ⟩:=aq.out _ gb
 obtain ⟨ai,ak,al,aE,aF,be,bf⟩:=cf.out _ gb
 obtain z0:=cg.out _ gb
 obtain ⟨e0,e1,e2,e3,e4⟩:=(i1.to gb)
 obtain ⟨o0,o1,o2,q0,q1,q2⟩:=(i2.to gb)
 have z3:=T3.lt
 obtain ⟨cK,cL,cS,cN,cO,cT⟩:=T3
 clear hgb
 obtain ⟨W1,aJ⟩:∃ W,wc=W:=⟨_,rfl⟩
 subst aJ
 replace i0:=i0.to gb
 replace i1:=i1.to gb
 replace i2:=i2.to gb
 replace zb:=bS zb gb
 have HXwc:=Lib.hid (show ∀ W',Below wc.heap.size wc W'->(Bx7 W' w.heap.size (.int .i64 0) (.int .i64 (T:Int)) (.int .i64 xa) (.int .i64 xb) (.bool ng) (.slice a0 n0 c0) (.slice a1 n1 c1)/\Bx3 W' B3 (.bool ng2) (.slice a2_ n2_ c2_) (.slice p2_ m2_ k2_)) from fun W' hb => by
   refine ⟨bx7 hb ?_ ?_ ?_ ?_ ?_ ?_ ?_ ?_ ?_ ?_ ?_ ?_ ?_ ?_,bx3 hb ?_ ?_ ?_ ?_ ?_ ?_⟩
   all_goals first|assumption|assumption)
 replace gb:=Below.refl wc.heap.size wc
 go_wp2_with fail
 obtain ⟨m,hm9⟩:∃ m:Nat,((max (za v.num.natAbs).length (za v.den).length:Nat))=m:=⟨_,rfl⟩
 have HM:=Lib.hid (show ((max (za v.num.natAbs).length (za v.den).length:Nat):Int)=(m:Int) by rw [hm9])
 have hm4:m<=4096:=by have:=Hs.out;unfold szq at this;rw [zc,zc] at hm9;omega
 have t4:decide (4096<m)=false:=decide_eq_false (by omega)
 have t5:decide ((4096:Int)<(m:Int))=false:=decide_eq_false (by omega)
 clear hm9 hm4
 refine (zab ng2 _ _ _ _ _ (g2.to gb).isF (m:Int) HM.out).mono ?_
 clear ae ai af ak ah al az aE aA aF aP be aQ bf cK cN cL cO cS cT e0 e1 e2 e3 e4 o0 o1 o2 q0 q1 q2
 rintro e w3 ⟨rfl,bY⟩
 replace gb:=bS gb bY
 obtain ⟨⟨z0,ae,af,ah,az,aA,aP,aQ,ai,ak,al,aE,aF,be,bf⟩,⟨z3,cK,cL,cS,cN,cO,cT⟩⟩:=HXwc.out _ gb
 obtain ⟨e0,e1,e2,e3,e4⟩:=(i1.to gb)
 obtain ⟨o0,o1,o2,q0,q1,q2⟩:=(i2.to gb)
 go_wp2_with fail
 go_region
 go_wp2_with fail
 go_ret
 exact ⟨_,_,_,_,rfl,bS zb gb,(g2.to gb).isK,.inr rfl⟩

end Go.Proofs.YtkjcdnlpjldhaaaGreat


namespace Go.Proofs.YtkjcdnlpjldhaaaGreat
open Go.RowKit Tw

section

variable {w w' wr w2 w4:World} {v u:Value} {base hi g cap:Nat} {qs:List Rat} {q:Rat} {xs:List Value} {ng:Bool} {a a':Option Addr} {n c n' c':Nat} {t:TypeId}

theorem zE.drew {B N:Nat} {rows cols:Int} (h:zE w B g N u v rows cols):zE w.drew B g N u v rows cols:=h.to (Below.refl _ _).drew

theorem zE.setJ {B N:Nat} {rows cols:Int} (h:zE w B g N u v rows cols) (x:Value):zE (w.setCell ⟨B,4,none⟩ x) B g N u x rows cols :=
 ⟨cP h.1 (.inr (by decide)) _,cP h.2.1 (.inr (by decide)) _,cP h.2.2.1 (.inr (by decide)) _,cP h.2.2.2.1 (.inr (by decide)) _,zk h.2.2.2.2 _⟩

theorem zE.grown {B N:Nat} {rows cols:Int} {row:Option Nat} (h:zE w B g N u v rows cols) (hg:w.grownBy w' row) (hne:row≠some B):zE w' B g N u v rows cols :=
 have f:∀ o,w'.cell? ⟨B,o,none⟩=w.cell? ⟨B,o,none⟩:=fun o => hg.cell_far ⟨B,o,none⟩ h.lt (fun e => hne e.symm)
 ⟨(f 0).trans h.1,(f 1).trans h.2.1,(f 2).trans h.2.2.1,(f 3).trans h.2.2.2.1,(f 4).trans h.2.2.2.2⟩

end

end Go.Proofs.YtkjcdnlpjldhaaaGreat


namespace Go.Proofs.YtkjcdnlpjldhaaaGreat
open Go.RowKit Tw
attribute [local go_sem ↓] Go.wp_at_zero Go.wp_at_succ

theorem ziG (mB g N:Nat) (u vJ:Value) (rows cols:Int) (T:Nat) (xa xb:Int) (ng:Bool) (vn vd:Value) (ln ld:List Nat) (d0 d1 d2:Value) {v:Rat}  (w:World) (hw:IsF w vn vd ln ld) (hm:zE w mB g N u vJ rows cols) (hN:N<=100000) (hT:T<N) (ho:zV w g (T*3) d0 d1 d2) (hs:szq v<=4096) (hcall:∀ V,Below w.heap.size w V->Calls Tryz.prog 92 #[.pointer (some ⟨mB,0,none⟩),.agg #[.int .i64 1,.int .i64 (T:Int),.int .i64 xa,.int .i64 xb,.bool ng,vn,vd]] V (zD V v))  :
  Calls Tryz.prog 39 #[.pointer (some ⟨mB,0,none⟩),.agg #[.int .i64 1,.int .i64 (T:Int),.int .i64 xa,.int .i64 xb,.bool ng,vn,vd]] w (zcm w g (T*3) v):=by
 obtain ⟨a0,n0,c0,rfl,H0,hm0⟩:=hw.1.open
 obtain ⟨a1,n1,c1,rfl,H1,hm1⟩:=hw.2.open
 have hTi:(T:Int)<(N:Int):=by omega
 have lm:=hm.lt
 have lo:=ho.lt
 have Hs:=Lib.hid hs
 have HC:=Lib.hid hcall
 clear hs hcall
 go_enter Tryz.func39,Tryz.ntmps39
 go_wp2_with fail
 obtain ⟨W0,ap⟩:∃ W0,w.alloc (.cells #[.int .i64 1,.int .i64 (T:Int),.int .i64 xa,.int .i64 xb,.bool ng,.slice a0 n0 c0,.slice a1 n1 c1] 49)=W0:=⟨_,rfl⟩
 have aq:=Lib.hid (show ∀ W',Below W0.heap.size W0 W'->(W'.cell? ⟨w.heap.size,0,none⟩=some (.int .i64 1)/\W'.cell? ⟨w.heap.size,1,none⟩=some (.int .i64 (T:Int))/\W'.cell? ⟨w.heap.size,2,none⟩=some (.int .i64 xa)/\W'.cell? ⟨w.heap.size,3,none⟩=some (.int .i64 xb)/\W'.cell? ⟨w.heap.size,4,none⟩=some (.bool ng)/\W'.cell? ⟨w.heap.size,5,none⟩=some (.slice a0 n0 c0)/\W'.cell? ⟨w.heap.size,6,none⟩=some (.slice a1 n1 c1)) from fun W' hb =>
  by and_intros <;> exact kc hb (by first|assumption|(rw [<- ap];simp [go_sem])))
 have cf:=Lib.hid (show ∀ W',Below W0.heap.size W0 W'->(W'.frozen? ⟨w.heap.size,0,none⟩=false/\W'.frozen? ⟨w.heap.size,1,none⟩=false/\W'.frozen? ⟨w.heap.size,2,none⟩=false/\W'.frozen? ⟨w.heap.size,3,none⟩=false/\W'.frozen? ⟨w.heap.size,4,none⟩=false/\W'.frozen? ⟨w.heap.size,5,none⟩=false/\W'.frozen? ⟨w.heap.size,6,none⟩=false) from fun W' hb =>
  by and_intros <;> refine (hb.frozen ?_).trans ?_ <;> first|assumption|(rw [<- ap];simp [go_sem])|(rw [<- ap];simp <;> omega))
 have cg:=Lib.hid (show ∀ W',Below W0.heap.size W0 W'->(w.heap.size<W'.heap.size) from fun W' hb =>
  Nat.lt_of_lt_of_le (by rw [<- ap];simp <;> omega) hb.size)
 have zb:Below w.heap.size w W0:=by rw [<- ap];exact bN _ _
 rw [ap]
 clear ap
 have i0:=hw.to zb
 have i1:=hm.to zb
 have i2:=ho.to zb
 have gb:Below W0.heap.size W0 W0:=Below.refl _ _
 obtain ⟨ae,af,ah,az,aA,aP,aQ⟩:=aq.out _ gb
 obtain ⟨ai,ak,al,aE,aF,be,bf⟩:=cf.out _ gb
 obtain z0:=cg.out _ gb
 obtain ⟨e0,e1,e2,e3,e4⟩:=(i1.to gb)
 obtain ⟨o0,o1,o2,q0,q1,q2⟩:=(i2.to gb)
 go_wp2_with fail
 have htab:=tab_1
 have hgb:=gb
 go_upto_region 4 with fail
 go_cut [5,6] from 28 (fun s5 s6 wx => zbC W0 (v) s5 wx/\s6=.int .i64 0)
 case first =>
  go_region_held3 (fun W' => W'.cell? ⟨w.heap.size,0,none⟩=some (.int .i64 1)/\W'.cell? ⟨w.heap.size,1,none⟩=some (.int .i64 (T:Int))/\W'.cell? ⟨w.heap.size,2,none⟩=some (.int .i64 xa)/\W'.cell? ⟨w.heap.size,3,none⟩=some (.int .i64 xb)/\W'.cell? ⟨w.heap.size,4,none⟩=some (.bool ng)/\W'.cell? ⟨w.heap.size,5,none⟩=some (.slice a0 n0 c0)/\W'.cell? ⟨w.heap.size,6,none⟩=some (.slice a1 n1 c1)) (first|(with_reducible exact aq.out _ gb)|((with_reducible refine aq.out _ ?_);repeat' (first|(with_reducible exact gb)|(with_reducible refine Below.drew ?_)|(with_reducible refine bS ?_ (bN _ _))|(with_reducible refine bT ?_ ?_ _ _ _)|(with_reducible exact aG)|(with_reducible exact aH)|omega))) (first
   | (go_at_call 92;(refine zg w1 (by with_reducible first|exact Below.refl _ _|exact bN _ _) ?_);intro V2 dE bV;have dY:=bV.size;have dH:=gb.size;have gb:=bS gb bV;(try have ag:=ag.to bV);(try have aI:Tri V2 (w1.heap.size) (.bool false) (.slice none 0 0) (.slice none 0 0):=(by rw [dE];with_reducible first|exact zd _ (.bool false) (.slice none 0 0) (.slice none 0 0) _|exact (zd _ (.bool false) (.slice none 0 0) (.slice none 0 0) _).alloc _));have aH:W0.heap.size<=w1.heap.size:=(dH);(try have aN:=ag.lt);(try have aO:=aI.lt);(with_reducible refine (HC.out _ (bS zb gb)).mono ?_);rintro e w2 ⟨ng2,a2_,n2_,c2_,p2_,m2_,k2_,rfl,g2,aM⟩;have gb:=bS gb aM;have dF:=aM.size;(try have ag:=ag.to aM);(try have aI:=aI.to aM);(try have b5:=ag.lt);(try have b6:=aI.lt);(try (have aR:=ag;obtain ⟨bo,bq,bs,bt,bu,bv⟩:=aR));(try (have bQ:=aI;obtain ⟨ci,ck,cl,cm,cn,cq⟩:=bQ)))
   | (go_at_call 65;(refine zg W0 (by with_reducible first|exact (Below.refl _ _).drew|exact (bN _ _).drew) ?_);intro V1 dD ch;have dX:=ch.size;have dG:=gb.size;have gb:=bS gb ch;(try have ag:Tri V1 (W0.heap.size) (.bool false) (.slice none 0 0) (.slice none 0 0):=(by rw [dD];with_reducible first|exact (zd _ (.bool false) (.slice none 0 0) (.slice none 0 0) _).drew|exact ((zd _ (.bool false) (.slice none 0 0) (.slice none 0 0) _).alloc _).drew));have aG:W0.heap.size<=W0.heap.size:=(dG);(try have bc:=ag.lt);(with_reducible refine (zaO _).mono ?_);rintro e w1 ⟨rfl,aS⟩;have gb:=bS gb aS;have dj:=aS.size;(try have ag:=ag.to aS);(try have bn:=ag.lt);(try (have aR:=ag;obtain ⟨bo,bq,bs,bt,bu,bv⟩:=aR))))
  all_goals (go_wp2_with fail;go_meet)
  all_goals refine ⟨?_,rfl⟩
  all_goals first
   | (with_reducible exact zG ag g2 (.inl aN) gb aG)
   | (with_reducible exact zG aI g2 (.inl aO) gb aH)
   | (with_reducible exact zaT g2 gb)
 case rest =>
 obtain ⟨⟨B3,ng2,a2_,n2_,c2_,p2_,m2_,k2_,lo3,hi3,rfl,hB3,T3,g2,hc3⟩,rfl⟩:=hcut
 clear ae ai af ak ah al az aE aA aF aP be aQ bf e0 e1 e2 e3 e4 o0 o1 o2 q0 q1 q2
 have gb:=hc3
 obtain ⟨ae,af,ah,az,aA,aP,aQ⟩:=aq.out _ gb
 obtain ⟨ai,ak,al,aE,aF,be,bf⟩:=cf.out _ gb
 obtain z0:=cg.out _ gb
 obtain ⟨e0,e1,e2,e3,e4⟩:=(i1.to gb)
 obtain ⟨o0,o1,o2,q0,q1,q2⟩:=(i2.to gb)
 have z3:=T3.lt
 obtain ⟨cK,cL,cS,cN,cO,cT⟩:=T3
 clear hgb
 obtain ⟨W1,aJ⟩:∃ W,wc=W:=⟨_,rfl⟩
 subst aJ
 replace i0:=i0.to gb
 replace i1:=i1.to gb
 replace i2:=i2.to gb
 replace zb:=bS zb gb
 have HXwc:=Lib.hid (show ∀ W',Below wc.heap.size wc W'->(Bx7 W' w.heap.size (.int .i64 1) (.int .i64 (T:Int)) (.int .i64 xa) (.int .i64 xb) (.bool ng) (.slice a0 n0 c0) (.slice a1 n1 c1)/\Bx3 W' B3 (.bool ng2) (.slice a2_ n2_ c2_) (.slice p2_ m2_ k2_)) from fun W' hb => by
   refine ⟨bx7 hb ?_ ?_ ?_ ?_ ?_ ?_ ?_ ?_ ?_ ?_ ?_ ?_ ?_ ?_,bx3 hb ?_ ?_ ?_ ?_ ?_ ?_⟩
   all_goals first|assumption|assumption)
 replace gb:=Below.refl wc.heap.size wc
 go_wp2_with fail
 obtain ⟨m,hm9⟩:∃ m:Nat,((max (za v.num.natAbs).length (za v.den).length:Nat))=m:=⟨_,rfl⟩
 have HM:=Lib.hid (show ((max (za v.num.natAbs).length (za v.den).length:Nat):Int)=(m:Int) by rw [hm9])
 have hm4:m<=4096:=by have:=Hs.out;unfold szq at this;rw [zc,zc] at hm9;omega
 have t4:decide (4096<m)=false:=decide_eq_false (by omega)
 have t5:decide ((4096:Int)<(m:Int))=false:=decide_eq_false (by omega)
 clear hm9 hm4
 refine (zab ng2 _ _ _ _ _ (g2.to gb).isF (m:Int) HM.out).mono ?_
 clear ae ai af ak ah al az aE aA aF aP be aQ bf cK cN cL cO cS cT e0 e1 e2 e3 e4 o0 o1 o2 q0 q1 q2
 rintro e w3 ⟨rfl,bY⟩
 replace gb:=bS gb bY
 obtain ⟨⟨z0,ae,af,ah,az,aA,aP,aQ,ai,ak,al,aE,aF,be,bf⟩,⟨z3,cK,cL,cS,cN,cO,cT⟩⟩:=HXwc.out _ gb
 obtain ⟨e0,e1,e2,e3,e4⟩:=(i1.to gb)
 obtain ⟨o0,o1,o2,q0,q1,q2⟩:=(i2.to gb)
 go_wp2_with fail
 go_region
 go_wp2_with fail
 go_ret
 exact ⟨_,_,_,_,rfl,bS zb gb,(g2.to gb).isK,.inr rfl⟩

theorem ziH (mB g N:Nat) (u vJ:Value) (rows cols:Int) (T:Nat) (xa xb:Int) (ng:Bool) (vn vd:Value) (ln ld:List Nat) (d0 d1 d2:Value) {v:Rat}  (w:World) (hw:IsF w vn vd ln ld) (hm:zE w mB g N u vJ rows cols) (hN:N<=100000) (hT:T<N) (ho:zV w g (T*3) d0 d1 d2) (hs:szq v<=4096) (hcall:∀ V,Below w.heap.size w V->Calls Tryz.prog 93 #[.pointer (some ⟨mB,0,none⟩),.agg #[.int .i64 2,.int .i64 (T:Int),.int .i64 xa,.int .i64 xb,.bool ng,vn,vd]] V (zD V v))  :
  Calls Tryz.prog 39 #[.pointer (some ⟨mB,0,none⟩),.agg #[.int .i64 2,.int .i64 (T:Int),.int .i64 xa,.int .i64 xb,.bool ng,vn,vd]] w (zcm w g (T*3) v):=by
 obtain ⟨a0,n0,c0,rfl,H0,hm0⟩:=hw.1.open
 obtain ⟨a1,n1,c1,rfl,H1,hm1⟩:=hw.2.open
 have hTi:(T:Int)<(N:Int):=by omega
 have lm:=hm.lt
 have lo:=ho.lt
 have Hs:=Lib.hid hs
 have HC:=Lib.hid hcall
 clear hs hcall
 go_enter Tryz.func39,Tryz.ntmps39
 go_wp2_with fail
 obtain ⟨W0,ap⟩:∃ W0,w.alloc (.cells #[.int .i64 2,.int .i64 (T:Int),.int .i64 xa,.int .i64 xb,.bool ng,.slice a0 n0 c0,.slice a1 n1 c1] 49)=W0:=⟨_,rfl⟩
 have aq:=Lib.hid (show ∀ W',Below W0.heap.size W0 W'->(W'.cell? ⟨w.heap.size,0,none⟩=some (.int .i64 2)/\W'.cell? ⟨w.heap.size,1,none⟩=some (.int .i64 (T:Int))/\W'.cell? ⟨w.heap.size,2,none⟩=some (.int .i64 xa)/\W'.cell? ⟨w.heap.size,3,none⟩=some (.int .i64 xb)/\W'.cell? ⟨w.heap.size,4,none⟩=some (.bool ng)/\W'.cell? ⟨w.heap.size,5,none⟩=some (.slice a0 n0 c0)/\W'.cell? ⟨w.heap.size,6,none⟩=some (.slice a1 n1 c1)) from fun W' hb =>
  by and_intros <;> exact kc hb (by first|assumption|(rw [<- ap];simp [go_sem])))
 have cf:=Lib.hid (show ∀ W',Below W0.heap.size W0 W'->(W'.frozen? ⟨w.heap.size,0,none⟩=false/\W'.frozen? ⟨w.heap.size,1,none⟩=false/\W'.frozen? ⟨w.heap.size,2,none⟩=false/\W'.frozen? ⟨w.heap.size,3,none⟩=false/\W'.frozen? ⟨w.heap.size,4,none⟩=false/\W'.frozen? ⟨w.heap.size,5,none⟩=false/\W'.frozen? ⟨w.heap.size,6,none⟩=false) from fun W' hb =>
  by and_intros <;> refine (hb.frozen ?_).trans ?_ <;> first|assumption|(rw [<- ap];simp [go_sem])|(rw [<- ap];simp <;> omega))
 have cg:=Lib.hid (show ∀ W',Below W0.heap.size W0 W'->(w.heap.size<W'.heap.size) from fun W' hb =>
  Nat.lt_of_lt_of_le (by rw [<- ap];simp <;> omega) hb.size)
 have zb:Below w.heap.size w W0:=by rw [<- ap];exact bN _ _
 rw [ap]
 clear ap
 have i0:=hw.to zb
 have i1:=hm.to zb
 have i2:=ho.to zb
 have gb:Below W0.heap.size W0 W0:=Below.refl _ _
 obtain ⟨ae,af,ah,az,aA,aP,aQ⟩:=aq.out _ gb
 obtain ⟨ai,ak,al,aE,aF,be,bf⟩:=cf.out _ gb
 obtain z0:=cg.out _ gb
 obtain ⟨e0,e1,e2,e3,e4⟩:=(i1.to gb)
 obtain ⟨o0,o1,o2,q0,q1,q2⟩:=(i2.to gb)
 go_wp2_with fail
 have htab:=tab_2
 have hgb:=gb
 go_upto_region 4 with fail
 go_cut [5,6] from 28 (fun s5 s6 wx => zbC W0 (v) s5 wx/\s6=.int .i64 0)
 case first =>
  go_region_held3 (fun W' => W'.cell? ⟨w.heap.size,0,none⟩=some (.int .i64 2)/\W'.cell? ⟨w.heap.size,1,none⟩=some (.int .i64 (T:Int))/\W'.cell? ⟨w.heap.size,2,none⟩=some (.int .i64 xa)/\W'.cell? ⟨w.heap.size,3,none⟩=some (.int .i64 xb)/\W'.cell? ⟨w.heap.size,4,none⟩=some (.bool ng)/\W'.cell? ⟨w.heap.size,5,none⟩=some (.slice a0 n0 c0)/\W'.cell? ⟨w.heap.size,6,none⟩=some (.slice a1 n1 c1)) (first|(with_reducible exact aq.out _ gb)|((with_reducible refine aq.out _ ?_);repeat' (first|(with_reducible exact gb)|(with_reducible refine Below.drew ?_)|(with_reducible refine bS ?_ (bN _ _))|(with_reducible refine bT ?_ ?_ _ _ _)|(with_reducible exact aG)|(with_reducible exact aH)|omega))) (first
   | (go_at_call 93;(refine zg w1 (by with_reducible first|exact Below.refl _ _|exact bN _ _) ?_);intro V2 dE bV;have dY:=bV.size;have dH:=gb.size;have gb:=bS gb bV;(try have ag:=ag.to bV);(try have aI:Tri V2 (w1.heap.size) (.bool false) (.slice none 0 0) (.slice none 0 0):=(by rw [dE];with_reducible first|exact zd _ (.bool false) (.slice none 0 0) (.slice none 0 0) _|exact (zd _ (.bool false) (.slice none 0 0) (.slice none 0 0) _).alloc _));have aH:W0.heap.size<=w1.heap.size:=(dH);(try have aN:=ag.lt);(try have aO:=aI.lt);(with_reducible refine (HC.out _ (bS zb gb)).mono ?_);rintro e w2 ⟨ng2,a2_,n2_,c2_,p2_,m2_,k2_,rfl,g2,aM⟩;have gb:=bS gb aM;have dF:=aM.size;(try have ag:=ag.to aM);(try have aI:=aI.to aM);(try have b5:=ag.lt);(try have b6:=aI.lt);(try (have aR:=ag;obtain ⟨bo,bq,bs,bt,bu,bv⟩:=aR));(try (have bQ:=aI;obtain ⟨ci,ck,cl,cm,cn,cq⟩:=bQ)))
   | (go_at_call 65;(refine zg W0 (by with_reducible first|exact (Below.refl _ _).drew|exact (bN _ _).drew) ?_);intro V1 dD ch;have dX:=ch.size;have dG:=gb.size;have gb:=bS gb ch;(try have ag:Tri V1 (W0.heap.size) (.bool false) (.slice none 0 0) (.slice none 0 0):=(by rw [dD];with_reducible first|exact (zd _ (.bool false) (.slice none 0 0) (.slice none 0 0) _).drew|exact ((zd _ (.bool false) (.slice none 0 0) (.slice none 0 0) _).alloc _).drew));have aG:W0.heap.size<=W0.heap.size:=(dG);(try have bc:=ag.lt);(with_reducible refine (zaO _).mono ?_);rintro e w1 ⟨rfl,aS⟩;have gb:=bS gb aS;have dj:=aS.size;(try have ag:=ag.to aS);(try have bn:=ag.lt);(try (have aR:=ag;obtain ⟨bo,bq,bs,bt,bu,bv⟩:=aR))))
  all_goals (go_wp2_with fail;go_meet)
  all_goals refine ⟨?_,rfl⟩
  all_goals first
   | (with_reducible exact zG ag g2 (.inl aN) gb aG)
   | (with_reducible exact zG aI g2 (.inl aO) gb aH)
   | (with_reducible exact zaT g2 gb)
 case rest =>
 obtain ⟨⟨B3,ng2,a2_,n2_,c2_,p2_,m2_,k2_,lo3,hi3,rfl,hB3,T3,g2,hc3⟩,rfl⟩:=hcut
 clear ae ai af ak ah al az aE aA aF aP be aQ bf e0 e1 e2 e3 e4 o0 o1 o2 q0 q1 q2
 have gb:=hc3
 obtain ⟨ae,af,ah,az,aA,aP,aQ⟩:=aq.out _ gb
 obtain ⟨ai,ak,al,aE,aF,be,bf⟩:=cf.out _ gb
 obtain z0:=cg.out _ gb
 obtain ⟨e0,e1,e2,e3,e4⟩:=(i1.to gb)
 obtain ⟨o0,o1,o2,q0,q1,q2⟩:=(i2.to gb)
 have z3:=T3.lt
 obtain ⟨cK,cL,cS,cN,cO,cT⟩:=T3
 clear hgb
 obtain ⟨W1,aJ⟩:∃ W,wc=W:=⟨_,rfl⟩
 subst aJ
 replace i0:=i0.to gb
 replace i1:=i1.to gb
 replace i2:=i2.to gb
 replace zb:=bS zb gb
 have HXwc:=Lib.hid (show ∀ W',Below wc.heap.size wc W'->(Bx7 W' w.heap.size (.int .i64 2) (.int .i64 (T:Int)) (.int .i64 xa) (.int .i64 xb) (.bool ng) (.slice a0 n0 c0) (.slice a1 n1 c1)/\Bx3 W' B3 (.bool ng2) (.slice a2_ n2_ c2_) (.slice p2_ m2_ k2_)) from fun W' hb => by
   refine ⟨bx7 hb ?_ ?_ ?_ ?_ ?_ ?_ ?_ ?_ ?_ ?_ ?_ ?_ ?_ ?_,bx3 hb ?_ ?_ ?_ ?_ ?_ ?_⟩
   all_goals first|assumption|assumption)
 replace gb:=Below.refl wc.heap.size wc
 go_wp2_with fail
 obtain ⟨m,hm9⟩:∃ m:Nat,((max (za v.num.natAbs).length (za v.den).length:Nat))=m:=⟨_,rfl⟩
 have HM:=Lib.hid (show ((max (za v.num.natAbs).length (za v.den).length:Nat):Int)=(m:Int) by rw [hm9])
 have hm4:m<=4096:=by have:=Hs.out;unfold szq at this;rw [zc,zc] at hm9;omega
 have t4:decide (4096<m)=false:=decide_eq_false (by omega)
 have t5:decide ((4096:Int)<(m:Int))=false:=decide_eq_false (by omega)
 clear hm9 hm4
 refine (zab ng2 _ _ _ _ _ (g2.to gb).isF (m:Int) HM.out).mono ?_
 clear ae ai af ak ah al az aE aA aF aP be aQ bf cK cN cL cO cS cT e0 e1 e2 e3 e4 o0 o1 o2 q0 q1 q2
 rintro e w3 ⟨rfl,bY⟩
 replace gb:=bS gb bY
 obtain ⟨⟨z0,ae,af,ah,az,aA,aP,aQ,ai,ak,al,aE,aF,be,bf⟩,⟨z3,cK,cL,cS,cN,cO,cT⟩⟩:=HXwc.out _ gb
 obtain ⟨e0,e1,e2,e3,e4⟩:=(i1.to gb)
 obtain ⟨o0,o1,o2,q0,q1,q2⟩:=(i2.to gb)
 go_wp2_with fail
 go_region
 go_wp2_with fail
 go_ret
 exact ⟨_,_,_,_,rfl,bS zb gb,(g2.to gb).isK,.inr rfl⟩

theorem ziI (mB g N:Nat) (u vJ:Value) (rows cols:Int) (T:Nat) (xa xb:Int) (ng:Bool) (vn vd:Value) (ln ld:List Nat) (d0 d1 d2:Value) {v:Rat}  (w:World) (hw:IsF w vn vd ln ld) (hm:zE w mB g N u vJ rows cols) (hN:N<=100000) (hT:T<N) (ho:zV w g (T*3) d0 d1 d2) (hs:szq v<=4096) (hcall:∀ V,Below w.heap.size w V->Calls Tryz.prog 94 #[.pointer (some ⟨mB,0,none⟩),.agg #[.int .i64 3,.int .i64 (T:Int),.int .i64 xa,.int .i64 xb,.bool ng,vn,vd]] V (zD V v))  :
  Calls Tryz.prog 39 #[.pointer (some ⟨mB,0,none⟩),.agg #[.int .i64 3,.int .i64 (T:Int),.int .i64 xa,.int .i64 xb,.bool ng,vn,vd]] w (zcm w g (T*3) v):=by
 obtain ⟨a0,n0,c0,rfl,H0,hm0⟩:=hw.1.open
 obtain ⟨a1,n1,c1,rfl,H1,hm1⟩:=hw.2.open
 have hTi:(T:Int)<(N:Int):=by omega
 have lm:=hm.lt
 have lo:=ho.lt
 have Hs:=Lib.hid hs
 have HC:=Lib.hid hcall
 clear hs hcall
 go_enter Tryz.func39,Tryz.ntmps39
 go_wp2_with fail
 obtain ⟨W0,ap⟩:∃ W0,w.alloc (.cells #[.int .i64 3,.int .i64 (T:Int),.int .i64 xa,.int .i64 xb,.bool ng,.slice a0 n0 c0,.slice a1 n1 c1] 49)=W0:=⟨_,rfl⟩
 have aq:=Lib.hid (show ∀ W',Below W0.heap.size W0 W'->(W'.cell? ⟨w.heap.size,0,none⟩=some (.int .i64 3)/\W'.cell? ⟨w.heap.size,1,none⟩=some (.int .i64 (T:Int))/\W'.cell? ⟨w.heap.size,2,none⟩=some (.int .i64 xa)/\W'.cell? ⟨w.heap.size,3,none⟩=some (.int .i64 xb)/\W'.cell? ⟨w.heap.size,4,none⟩=some (.bool ng)/\W'.cell? ⟨w.heap.size,5,none⟩=some (.slice a0 n0 c0)/\W'.cell? ⟨w.heap.size,6,none⟩=some (.slice a1 n1 c1)) from fun W' hb =>
  by and_intros <;> exact kc hb (by first|assumption|(rw [<- ap];simp [go_sem])))
 have cf:=Lib.hid (show ∀ W',Below W0.heap.size W0 W'->(W'.frozen? ⟨w.heap.size,0,none⟩=false/\W'.frozen? ⟨w.heap.size,1,none⟩=false/\W'.frozen? ⟨w.heap.size,2,none⟩=false/\W'.frozen? ⟨w.heap.size,3,none⟩=false/\W'.frozen? ⟨w.heap.size,4,none⟩=false/\W'.frozen? ⟨w.heap.size,5,none⟩=false/\W'.frozen? ⟨w.heap.size,6,none⟩=false) from fun W' hb =>
  by and_intros <;> refine (hb.frozen ?_).trans ?_ <;> first|assumption|(rw [<- ap];simp [go_sem])|(rw [<- ap];simp <;> omega))
 have cg:=Lib.hid (show ∀ W',Below W0.heap.size W0 W'->(w.heap.size<W'.heap.size) from fun W' hb =>
  Nat.lt_of_lt_of_le (by rw [<- ap];simp <;> omega) hb.size)
 have zb:Below w.heap.size w W0:=by rw [<- ap];exact bN _ _
 rw [ap]
 clear ap
 have i0:=hw.to zb
 have i1:=hm.to zb
 have i2:=ho.to zb
 have gb:Below W0.heap.size W0 W0:=Below.refl _ _
 obtain ⟨ae,af,ah,az,aA,aP,aQ⟩:=aq.out _ gb
 obtain ⟨ai,ak,al,aE,aF,be,bf⟩:=cf.out _ gb
 obtain z0:=cg.out _ gb
 obtain ⟨e0,e1,e2,e3,e4⟩:=(i1.to gb)
 obtain ⟨o0,o1,o2,q0,q1,q2⟩:=(i2.to gb)
 go_wp2_with fail
 have htab:=tab_3
 have hgb:=gb
 go_upto_region 4 with fail
 go_cut [5,6] from 28 (fun s5 s6 wx => zbC W0 (v) s5 wx/\s6=.int .i64 0)
 case first =>
  go_region_held3 (fun W' => W'.cell? ⟨w.heap.size,0,none⟩=some (.int .i64 3)/\W'.cell? ⟨w.heap.size,1,none⟩=some (.int .i64 (T:Int))/\W'.cell? ⟨w.heap.size,2,none⟩=some (.int .i64 xa)/\W'.cell? ⟨w.heap.size,3,none⟩=some (.int .i64 xb)/\W'.cell? ⟨w.heap.size,4,none⟩=some (.bool ng)/\W'.cell? ⟨w.heap.size,5,none⟩=some (.slice a0 n0 c0)/\W'.cell? ⟨w.heap.size,6,none⟩=some (.slice a1 n1 c1)) (first|(with_reducible exact aq.out _ gb)|((with_reducible refine aq.out _ ?_);repeat' (first|(with_reducible exact gb)|(with_reducible refine Below.drew ?_)|(with_reducible refine bS ?_ (bN _ _))|(with_reducible refine bT ?_ ?_ _ _ _)|(with_reducible exact aG)|(with_reducible exact aH)|omega))) (first
   | (go_at_call 94;(refine zg w1 (by with_reducible first|exact Below.refl _ _|exact bN _ _) ?_);intro V2 dE bV;have dY:=bV.size;have dH:=gb.size;have gb:=bS gb bV;(try have ag:=ag.to bV);(try have aI:Tri V2 (w1.heap.size) (.bool false) (.slice none 0 0) (.slice none 0 0):=(by rw [dE];with_reducible first|exact zd _ (.bool false) (.slice none 0 0) (.slice none 0 0) _|exact (zd _ (.bool false) (.slice none 0 0) (.slice none 0 0) _).alloc _));have aH:W0.heap.size<=w1.heap.size:=(dH);(try have aN:=ag.lt);(try have aO:=aI.lt);(with_reducible refine (HC.out _ (bS zb gb)).mono ?_);rintro e w2 ⟨ng2,a2_,n2_,c2_,p2_,m2_,k2_,rfl,g2,aM⟩;have gb:=bS gb aM;have dF:=aM.size;(try have ag:=ag.to aM);(try have aI:=aI.to aM);(try have b5:=ag.lt);(try have b6:=aI.lt);(try (have aR:=ag;obtain ⟨bo,bq,bs,bt,bu,bv⟩:=aR));(try (have bQ:=aI;obtain ⟨ci,ck,cl,cm,cn,cq⟩:=bQ)))
   | (go_at_call 65;(refine zg W0 (by with_reducible first|exact (Below.refl _ _).drew|exact (bN _ _).drew) ?_);intro V1 dD ch;have dX:=ch.size;have dG:=gb.size;have gb:=bS gb ch;(try have ag:Tri V1 (W0.heap.size) (.bool false) (.slice none 0 0) (.slice none 0 0):=(by rw [dD];with_reducible first|exact (zd _ (.bool false) (.slice none 0 0) (.slice none 0 0) _).drew|exact ((zd _ (.bool false) (.slice none 0 0) (.slice none 0 0) _).alloc _).drew));have aG:W0.heap.size<=W0.heap.size:=(dG);(try have bc:=ag.lt);(with_reducible refine (zaO _).mono ?_);rintro e w1 ⟨rfl,aS⟩;have gb:=bS gb aS;have dj:=aS.size;(try have ag:=ag.to aS);(try have bn:=ag.lt);(try (have aR:=ag;obtain ⟨bo,bq,bs,bt,bu,bv⟩:=aR))))
  all_goals (go_wp2_with fail;go_meet)
  all_goals refine ⟨?_,rfl⟩
  all_goals first
   | (with_reducible exact zG ag g2 (.inl aN) gb aG)
   | (with_reducible exact zG aI g2 (.inl aO) gb aH)
   | (with_reducible exact zaT g2 gb)
 case rest =>
 obtain ⟨⟨B3,ng2,a2_,n2_,c2_,p2_,m2_,k2_,lo3,hi3,rfl,hB3,T3,g2,hc3⟩,rfl⟩:=hcut
 clear ae ai af ak ah al az aE aA aF aP be aQ bf e0 e1 e2 e3 e4 o0 o1 o2 q0 q1 q2
 have gb:=hc3
 obtain ⟨ae,af,ah,az,aA,aP,aQ⟩:=aq.out _ gb
 obtain ⟨ai,ak,al,aE,aF,be,bf⟩:=cf.out _ gb
 obtain z0:=cg.out _ gb
 obtain ⟨e0,e1,e2,e3,e4⟩:=(i1.to gb)
 obtain ⟨o0,o1,o2,q0,q1,q2⟩:=(i2.to gb)
 have z3:=T3.lt
 obtain ⟨cK,cL,cS,cN,cO,cT⟩:=T3
 clear hgb
 obtain ⟨W1,aJ⟩:∃ W,wc=W:=⟨_,rfl⟩
 subst aJ
 replace i0:=i0.to gb
 replace i1:=i1.to gb
 replace i2:=i2.to gb
 replace zb:=bS zb gb
 have HXwc:=Lib.hid (show ∀ W',Below wc.heap.size wc W'->(Bx7 W' w.heap.size (.int .i64 3) (.int .i64 (T:Int)) (.int .i64 xa) (.int .i64 xb) (.bool ng) (.slice a0 n0 c0) (.slice a1 n1 c1)/\Bx3 W' B3 (.bool ng2) (.slice a2_ n2_ c2_) (.slice p2_ m2_ k2_)) from fun W' hb => by
   refine ⟨bx7 hb ?_ ?_ ?_ ?_ ?_ ?_ ?_ ?_ ?_ ?_ ?_ ?_ ?_ ?_,bx3 hb ?_ ?_ ?_ ?_ ?_ ?_⟩
   all_goals first|assumption|assumption)
 replace gb:=Below.refl wc.heap.size wc
 go_wp2_with fail
 obtain ⟨m,hm9⟩:∃ m:Nat,((max (za v.num.natAbs).length (za v.den).length:Nat))=m:=⟨_,rfl⟩
 have HM:=Lib.hid (show ((max (za v.num.natAbs).length (za v.den).length:Nat):Int)=(m:Int) by rw [hm9])
 have hm4:m<=4096:=by have:=Hs.out;unfold szq at this;rw [zc,zc] at hm9;omega
 have t4:decide (4096<m)=false:=decide_eq_false (by omega)
 have t5:decide ((4096:Int)<(m:Int))=false:=decide_eq_false (by omega)
 clear hm9 hm4
 refine (zab ng2 _ _ _ _ _ (g2.to gb).isF (m:Int) HM.out).mono ?_
 clear ae ai af ak ah al az aE aA aF aP be aQ bf cK cN cL cO cS cT e0 e1 e2 e3 e4 o0 o1 o2 q0 q1 q2
 rintro e w3 ⟨rfl,bY⟩
 replace gb:=bS gb bY
 obtain ⟨⟨z0,ae,af,ah,az,aA,aP,aQ,ai,ak,al,aE,aF,be,bf⟩,⟨z3,cK,cL,cS,cN,cO,cT⟩⟩:=HXwc.out _ gb
 obtain ⟨e0,e1,e2,e3,e4⟩:=(i1.to gb)
 obtain ⟨o0,o1,o2,q0,q1,q2⟩:=(i2.to gb)
 go_wp2_with fail
 go_region
 go_wp2_with fail
 go_ret
 exact ⟨_,_,_,_,rfl,bS zb gb,(g2.to gb).isK,.inr rfl⟩

theorem ziJ (mB g N:Nat) (u vJ:Value) (rows cols:Int) (T:Nat) (xa xb:Int) (ng:Bool) (vn vd:Value) (ln ld:List Nat) (d0 d1 d2:Value) {v:Rat}  (w:World) (hw:IsF w vn vd ln ld) (hm:zE w mB g N u vJ rows cols) (hN:N<=100000) (hT:T<N) (ho:zV w g (T*3) d0 d1 d2) (hs:szq v<=4096) (hcall:∀ V,Below w.heap.size w V->Calls Tryz.prog 95 #[.pointer (some ⟨mB,0,none⟩),.agg #[.int .i64 4,.int .i64 (T:Int),.int .i64 xa,.int .i64 xb,.bool ng,vn,vd]] V (zD V v))  :
  Calls Tryz.prog 39 #[.pointer (some ⟨mB,0,none⟩),.agg #[.int .i64 4,.int .i64 (T:Int),.int .i64 xa,.int .i64 xb,.bool ng,vn,vd]] w (zcm w g (T*3) v):=by
 obtain ⟨a0,n0,c0,rfl,H0,hm0⟩:=hw.1.open
 obtain ⟨a1,n1,c1,rfl,H1,hm1⟩:=hw.2.open
 have hTi:(T:Int)<(N:Int):=by omega
 have lm:=hm.lt
 have lo:=ho.lt
 have Hs:=Lib.hid hs
 have HC:=Lib.hid hcall
 clear hs hcall
 go_enter Tryz.func39,Tryz.ntmps39
 go_wp2_with fail
 obtain ⟨W0,ap⟩:∃ W0,w.alloc (.cells #[.int .i64 4,.int .i64 (T:Int),.int .i64 xa,.int .i64 xb,.bool ng,.slice a0 n0 c0,.slice a1 n1 c1] 49)=W0:=⟨_,rfl⟩
 have aq:=Lib.hid (show ∀ W',Below W0.heap.size W0 W'->(W'.cell? ⟨w.heap.size,0,none⟩=some (.int .i64 4)/\W'.cell? ⟨w.heap.size,1,none⟩=some (.int .i64 (T:Int))/\W'.cell? ⟨w.heap.size,2,none⟩=some (.int .i64 xa)/\W'.cell? ⟨w.heap.size,3,none⟩=some (.int .i64 xb)/\W'.cell? ⟨w.heap.size,4,none⟩=some (.bool ng)/\W'.cell? ⟨w.heap.size,5,none⟩=some (.slice a0 n0 c0)/\W'.cell? ⟨w.heap.size,6,none⟩=some (.slice a1 n1 c1)) from fun W' hb =>
  by and_intros <;> exact kc hb (by first|assumption|(rw [<- ap];simp [go_sem])))
 have cf:=Lib.hid (show ∀ W',Below W0.heap.size W0 W'->(W'.frozen? ⟨w.heap.size,0,none⟩=false/\W'.frozen? ⟨w.heap.size,1,none⟩=false/\W'.frozen? ⟨w.heap.size,2,none⟩=false/\W'.frozen? ⟨w.heap.size,3,none⟩=false/\W'.frozen? ⟨w.heap.size,4,none⟩=false/\W'.frozen? ⟨w.heap.size,5,none⟩=false/\W'.frozen? ⟨w.heap.size,6,none⟩=false) from fun W' hb =>
  by and_intros <;> refine (hb.frozen ?_).trans ?_ <;> first|assumption|(rw [<- ap];simp [go_sem])|(rw [<- ap];simp <;> omega))
 have cg:=Lib.hid (show ∀ W',Below W0.heap.size W0 W'->(w.heap.size<W'.heap.size) from fun W' hb =>
  Nat.lt_of_lt_of_le (by rw [<- ap];simp <;> omega) hb.size)
 have zb:Below w.heap.size w W0:=by rw [<- ap];exact bN _ _
 rw [ap]
 clear ap
 have i0:=hw.to zb
 have i1:=hm.to zb
 have i2:=ho.to zb
 have gb:Below W0.heap.size W0 W0:=Below.refl _ _
 obtain ⟨ae,af,ah,az,aA,aP,aQ⟩:=aq.out _ gb
 obtain ⟨ai,ak,al,aE,aF,be,bf⟩:=cf.out _ gb
 obtain z0:=cg.out _ gb
 obtain ⟨e0,e1,e2,e3,e4⟩:=(i1.to gb)
 obtain ⟨o0,o1,o2,q0,q1,q2⟩:=(i2.to gb)
 go_wp2_with fail
 have htab:=tab_4
 have hgb:=gb
 go_upto_region 4 with fail
 go_cut [5,6] from 28 (fun s5 s6 wx => zbC W0 (v) s5 wx/\s6=.int .i64 0)
 case first =>
  go_region_held3 (fun W' => W'.cell? ⟨w.heap.size,0,none⟩=some (.int .i64 4)/\W'.cell? ⟨w.heap.size,1,none⟩=some (.int .i64 (T:Int))/\W'.cell? ⟨w.heap.size,2,none⟩=some (.int .i64 xa)/\W'.cell? ⟨w.heap.size,3,none⟩=some (.int .i64 xb)/\W'.cell? ⟨w.heap.size,4,none⟩=some (.bool ng)/\W'.cell? ⟨w.heap.size,5,none⟩=some (.slice a0 n0 c0)/\W'.cell? ⟨w.heap.size,6,none⟩=some (.slice a1 n1 c1)) (first|(with_reducible exact aq.out _ gb)|((with_reducible refine aq.out _ ?_);repeat' (first|(with_reducible exact gb)|(with_reducible refine Below.drew ?_)|(with_reducible refine bS ?_ (bN _ _))|(with_reducible refine bT ?_ ?_ _ _ _)|(with_reducible exact aG)|(with_reducible exact aH)|omega))) (first
   | (go_at_call 95;(refine zg w1 (by with_reducible first|exact Below.refl _ _|exact bN _ _) ?_);intro V2 dE bV;have dY:=bV.size;have dH:=gb.size;have gb:=bS gb bV;(try have ag:=ag.to bV);(try have aI:Tri V2 (w1.heap.size) (.bool false) (.slice none 0 0) (.slice none 0 0):=(by rw [dE];with_reducible first|exact zd _ (.bool false) (.slice none 0 0) (.slice none 0 0) _|exact (zd _ (.bool false) (.slice none 0 0) (.slice none 0 0) _).alloc _));have aH:W0.heap.size<=w1.heap.size:=(dH);(try have aN:=ag.lt);(try have aO:=aI.lt);(with_reducible refine (HC.out _ (bS zb gb)).mono ?_);rintro e w2 ⟨ng2,a2_,n2_,c2_,p2_,m2_,k2_,rfl,g2,aM⟩;have gb:=bS gb aM;have dF:=aM.size;(try have ag:=ag.to aM);(try have aI:=aI.to aM);(try have b5:=ag.lt);(try have b6:=aI.lt);(try (have aR:=ag;obtain ⟨bo,bq,bs,bt,bu,bv⟩:=aR));(try (have bQ:=aI;obtain ⟨ci,ck,cl,cm,cn,cq⟩:=bQ)))
   | (go_at_call 65;(refine zg W0 (by with_reducible first|exact (Below.refl _ _).drew|exact (bN _ _).drew) ?_);intro V1 dD ch;have dX:=ch.size;have dG:=gb.size;have gb:=bS gb ch;(try have ag:Tri V1 (W0.heap.size) (.bool false) (.slice none 0 0) (.slice none 0 0):=(by rw [dD];with_reducible first|exact (zd _ (.bool false) (.slice none 0 0) (.slice none 0 0) _).drew|exact ((zd _ (.bool false) (.slice none 0 0) (.slice none 0 0) _).alloc _).drew));have aG:W0.heap.size<=W0.heap.size:=(dG);(try have bc:=ag.lt);(with_reducible refine (zaO _).mono ?_);rintro e w1 ⟨rfl,aS⟩;have gb:=bS gb aS;have dj:=aS.size;(try have ag:=ag.to aS);(try have bn:=ag.lt);(try (have aR:=ag;obtain ⟨bo,bq,bs,bt,bu,bv⟩:=aR))))
  all_goals (go_wp2_with fail;go_meet)
  all_goals refine ⟨?_,rfl⟩
  all_goals first
   | (with_reducible exact zG ag g2 (.inl aN) gb aG)
   | (with_reducible exact zG aI g2 (.inl aO) gb aH)
   | (with_reducible exact zaT g2 gb)
 case rest =>
 obtain ⟨⟨B3,ng2,a2_,n2_,c2_,p2_,m2_,k2_,lo3,hi3,rfl,hB3,T3,g2,hc3⟩,rfl⟩:=hcut
 clear ae ai af ak ah al az aE aA aF aP be aQ bf e0 e1 e2 e3 e4 o0 o1 o2 q0 q1 q2
 have gb:=hc3
 obtain ⟨ae,af,ah,az,aA,aP,aQ⟩:=aq.out _ gb
 obtain ⟨ai,ak,al,aE,aF,be,bf⟩:=cf.out _ gb
 obtain z0:=cg.out _ gb
 obtain ⟨e0,e1,e2,e3,e4⟩:=(i1.to gb)
 obtain ⟨o0,o1,o2,q0,q1,q2⟩:=(i2.to gb)
 have z3:=T3.lt
 obtain ⟨cK,cL,cS,cN,cO,cT⟩:=T3
 clear hgb
 obtain ⟨W1,aJ⟩:∃ W,wc=W:=⟨_,rfl⟩
 subst aJ
 replace i0:=i0.to gb
 replace i1:=i1.to gb
 replace i2:=i2.to gb
 replace zb:=bS zb gb
 have HXwc:=Lib.hid (show ∀ W',Below wc.heap.size wc W'->(Bx7 W' w.heap.size (.int .i64 4) (.int .i64 (T:Int)) (.int .i64 xa) (.int .i64 xb) (.bool ng) (.slice a0 n0 c0) (.slice a1 n1 c1)/\Bx3 W' B3 (.bool ng2) (.slice a2_ n2_ c2_) (.slice p2_ m2_ k2_)) from fun W' hb => by
   refine ⟨bx7 hb ?_ ?_ ?_ ?_ ?_ ?_ ?_ ?_ ?_ ?_ ?_ ?_ ?_ ?_,bx3 hb ?_ ?_ ?_ ?_ ?_ ?_⟩
   all_goals first|assumption|assumption)
 replace gb:=Below.refl wc.heap.size wc
 go_wp2_with fail
 obtain ⟨m,hm9⟩:∃ m:Nat,((max (za v.num.natAbs).length (za v.den).length:Nat))=m:=⟨_,rfl⟩
 have HM:=Lib.hid (show ((max (za v.num.natAbs).length (za v.den).length:Nat):Int)=(m:Int) by rw [hm9])
 have hm4:m<=4096:=by have:=Hs.out;unfold szq at this;rw [zc,zc] at hm9;omega
 have t4:decide (4096<m)=false:=decide_eq_false (by omega)
 have t5:decide ((4096:Int)<(m:Int))=false:=decide_eq_false (by omega)
 clear hm9 hm4
 refine (zab ng2 _ _ _ _ _ (g2.to gb).isF (m:Int) HM.out).mono ?_
 clear ae ai af ak ah al az aE aA aF aP be aQ bf cK cN cL cO cS cT e0 e1 e2 e3 e4 o0 o1 o2 q0 q1 q2
 rintro e w3 ⟨rfl,bY⟩
 replace gb:=bS gb bY
 obtain ⟨⟨z0,ae,af,ah,az,aA,aP,aQ,ai,ak,al,aE,aF,be,bf⟩,⟨z3,cK,cL,cS,cN,cO,cT⟩⟩:=HXwc.out _ gb
 obtain ⟨e0,e1,e2,e3,e4⟩:=(i1.to gb)
 obtain ⟨o0,o1,o2,q0,q1,q2⟩:=(i2.to gb)
 go_wp2_with fail
 go_region
 go_wp2_with fail
 go_ret
 exact ⟨_,_,_,_,rfl,bS zb gb,(g2.to gb).isK,.inr rfl⟩

end Go.Proofs.YtkjcdnlpjldhaaaGreat


namespace Go.Proofs.YtkjcdnlpjldhaaaGreat
open Go.RowKit Tw
attribute [local go_sem ↓] Go.wp_at_zero Go.wp_at_succ

theorem ziK (mB g N:Nat) (u vJ:Value) (rows cols:Int) (T:Nat) (xa xb:Int) (ng:Bool) (vn vd:Value) (ln ld:List Nat) (d0 d1 d2:Value) {v:Rat}  (w:World) (hw:IsF w vn vd ln ld) (hm:zE w mB g N u vJ rows cols) (hN:N<=100000) (hT:T<N) (ho:zV w g (T*3) d0 d1 d2) (hs:szq v<=4096) (hcall:∀ V,Below w.heap.size w V->Calls Tryz.prog 96 #[.pointer (some ⟨mB,0,none⟩),.agg #[.int .i64 5,.int .i64 (T:Int),.int .i64 xa,.int .i64 xb,.bool ng,vn,vd]] V (zD V v))  :
  Calls Tryz.prog 39 #[.pointer (some ⟨mB,0,none⟩),.agg #[.int .i64 5,.int .i64 (T:Int),.int .i64 xa,.int .i64 xb,.bool ng,vn,vd]] w (zcm w g (T*3) v):=by
 obtain ⟨a0,n0,c0,rfl,H0,hm0⟩:=hw.1.open
 obtain ⟨a1,n1,c1,rfl,H1,hm1⟩:=hw.2.open
 have hTi:(T:Int)<(N:Int):=by omega
 have lm:=hm.lt
 have lo:=ho.lt
 have Hs:=Lib.hid hs
 have HC:=Lib.hid hcall
 clear hs hcall
 go_enter Tryz.func39,Tryz.ntmps39
 go_wp2_with fail
 obtain ⟨W0,ap⟩:∃ W0,w.alloc (.cells #[.int .i64 5,.int .i64 (T:Int),.int .i64 xa,.int .i64 xb,.bool ng,.slice a0 n0 c0,.slice a1 n1 c1] 49)=W0:=⟨_,rfl⟩
 have aq:=Lib.hid (show ∀ W',Below W0.heap.size W0 W'->(W'.cell? ⟨w.heap.size,0,none⟩=some (.int .i64 5)/\W'.cell? ⟨w.heap.size,1,none⟩=some (.int .i64 (T:Int))/\W'.cell? ⟨w.heap.size,2,none⟩=some (.int .i64 xa)/\W'.cell? ⟨w.heap.size,3,none⟩=some (.int .i64 xb)/\W'.cell? ⟨w.heap.size,4,none⟩=some (.bool ng)/\W'.cell? ⟨w.heap.size,5,none⟩=some (.slice a0 n0 c0)/\W'.cell? ⟨w.heap.size,6,none⟩=some (.slice a1 n1 c1)) from fun W' hb =>
  by and_intros <;> exact kc hb (by first|assumption|(rw [<- ap];simp [go_sem])))
 have cf:=Lib.hid (show ∀ W',Below W0.heap.size W0 W'->(W'.frozen? ⟨w.heap.size,0,none⟩=false/\W'.frozen? ⟨w.heap.size,1,none⟩=false/\W'.frozen? ⟨w.heap.size,2,none⟩=false/\W'.frozen? ⟨w.heap.size,3,none⟩=false/\W'.frozen? ⟨w.heap.size,4,none⟩=false/\W'.frozen? ⟨w.heap.size,5,none⟩=false/\W'.frozen? ⟨w.heap.size,6,none⟩=false) from fun W' hb =>
  by and_intros <;> refine (hb.frozen ?_).trans ?_ <;> first|assumption|(rw [<- ap];simp [go_sem])|(rw [<- ap];simp <;> omega))
 have cg:=Lib.hid (show ∀ W',Below W0.heap.size W0 W'->(w.heap.size<W'.heap.size) from fun W' hb =>
  Nat.lt_of_lt_of_le (by rw [<- ap];simp <;> omega) hb.size)
 have zb:Below w.heap.size w W0:=by rw [<- ap];exact bN _ _
 rw [ap]
 clear ap
 have i0:=hw.to zb
 have i1:=hm.to zb
 have i2:=ho.to zb
 have gb:Below W0.heap.size W0 W0:=Below.refl _ _
 obtain ⟨ae,af,ah,az,aA,aP,aQ⟩:=aq.out _ gb
 obtain ⟨ai,ak,al,aE,aF,be,bf⟩:=cf.out _ gb
 obtain z0:=cg.out _ gb
 obtain ⟨e0,e1,e2,e3,e4⟩:=(i1.to gb)
 obtain ⟨o0,o1,o2,q0,q1,q2⟩:=(i2.to gb)
 go_wp2_with fail
 have htab:=tab_5
 have hgb:=gb
 go_upto_region 4 with fail
 go_cut [5,6] from 28 (fun s5 s6 wx => zbC W0 (v) s5 wx/\s6=.int .i64 0)
 case first =>
  go_region_held3 (fun W' => W'.cell? ⟨w.heap.size,0,none⟩=some (.int .i64 5)/\W'.cell? ⟨w.heap.size,1,none⟩=some (.int .i64 (T:Int))/\W'.cell? ⟨w.heap.size,2,none⟩=some (.int .i64 xa)/\W'.cell? ⟨w.heap.size,3,none⟩=some (.int .i64 xb)/\W'.cell? ⟨w.heap.size,4,none⟩=some (.bool ng)/\W'.cell? ⟨w.heap.size,5,none⟩=some (.slice a0 n0 c0)/\W'.cell? ⟨w.heap.size,6,none⟩=some (.slice a1 n1 c1)) (first|(with_reducible exact aq.out _ gb)|((with_reducible refine aq.out _ ?_);repeat' (first|(with_reducible exact gb)|(with_reducible refine Below.drew ?_)|(with_reducible refine bS ?_ (bN _ _))|(with_reducible refine bT ?_ ?_ _ _ _)|(with_reducible exact aG)|(with_reducible exact aH)|omega))) (first
   | (go_at_call 96;(refine zg w1 (by with_reducible first|exact Below.refl _ _|exact bN _ _) ?_);intro V2 dE bV;have dY:=bV.size;have dH:=gb.size;have gb:=bS gb bV;(try have ag:=ag.to bV);(try have aI:Tri V2 (w1.heap.size) (.bool false) (.slice none 0 0) (.slice none 0 0):=(by rw [dE];with_reducible first|exact zd _ (.bool false) (.slice none 0 0) (.slice none 0 0) _|exact (zd _ (.bool false) (.slice none 0 0) (.slice none 0 0) _).alloc _));have aH:W0.heap.size<=w1.heap.size:=(dH);(try have aN:=ag.lt);(try have aO:=aI.lt);(with_reducible refine (HC.out _ (bS zb gb)).mono ?_);rintro e w2 ⟨ng2,a2_,n2_,c2_,p2_,m2_,k2_,rfl,g2,aM⟩;have gb:=bS gb aM;have dF:=aM.size;(try have ag:=ag.to aM);(try have aI:=aI.to aM);(try have b5:=ag.lt);(try have b6:=aI.lt);(try (have aR:=ag;obtain ⟨bo,bq,bs,bt,bu,bv⟩:=aR));(try (have bQ:=aI;obtain ⟨ci,ck,cl,cm,cn,cq⟩:=bQ)))
   | (go_at_call 65;(refine zg W0 (by with_reducible first|exact (Below.refl _ _).drew|exact (bN _ _).drew) ?_);intro V1 dD ch;have dX:=ch.size;have dG:=gb.size;have gb:=bS gb ch;(try have ag:Tri V1 (W0.heap.size) (.bool false) (.slice none 0 0) (.slice none 0 0):=(by rw [dD];with_reducible first|exact (zd _ (.bool false) (.slice none 0 0) (.slice none 0 0) _).drew|exact ((zd _ (.bool false) (.slice none 0 0) (.slice none 0 0) _).alloc _).drew));have aG:W0.heap.size<=W0.heap.size:=(dG);(try have bc:=ag.lt);(with_reducible refine (zaO _).mono ?_);rintro e w1 ⟨rfl,aS⟩;have gb:=bS gb aS;have dj:=aS.size;(try have ag:=ag.to aS);(try have bn:=ag.lt);(try (have aR:=ag;obtain ⟨bo,bq,bs,bt,bu,bv⟩:=aR))))
  all_goals (go_wp2_with fail;go_meet)
  all_goals refine ⟨?_,rfl⟩
  all_goals first
   | (with_reducible exact zG ag g2 (.inl aN) gb aG)
   | (with_reducible exact zG aI g2 (.inl aO) gb aH)
   | (with_reducible exact zaT g2 gb)
 case rest =>
 obtain ⟨⟨B3,ng2,a2_,n2_,c2_,p2_,m2_,k2_,lo3,hi3,rfl,hB3,T3,g2,hc3⟩,rfl⟩:=hcut
 clear ae ai af ak ah al az aE aA aF aP be aQ bf e0 e1 e2 e3 e4 o0 o1 o2 q0 q1 q2
 have gb:=hc3
 obtain ⟨ae,af,ah,az,aA,aP,aQ⟩:=aq.out _ gb
 obtain ⟨ai,ak,al,aE,aF,be,bf⟩:=cf.out _ gb
 obtain z0:=cg.out _ gb
 obtain ⟨e0,e1,e2,e3,e4⟩:=(i1.to gb)
 obtain ⟨o0,o1,o2,q0,q1,q2⟩:=(i2.to gb)
 have z3:=T3.lt
 obtain ⟨cK,cL,cS,cN,cO,cT⟩:=T3
 clear hgb
 obtain ⟨W1,aJ⟩:∃ W,wc=W:=⟨_,rfl⟩
 subst aJ
 replace i0:=i0.to gb
 replace i1:=i1.to gb
 replace i2:=i2.to gb
 replace zb:=bS zb gb
 have HXwc:=Lib.hid (show ∀ W',Below wc.heap.size wc W'->(Bx7 W' w.heap.size (.int .i64 5) (.int .i64 (T:Int)) (.int .i64 xa) (.int .i64 xb) (.bool ng) (.slice a0 n0 c0) (.slice a1 n1 c1)/\Bx3 W' B3 (.bool ng2) (.slice a2_ n2_ c2_) (.slice p2_ m2_ k2_)) from fun W' hb => by
   refine ⟨bx7 hb ?_ ?_ ?_ ?_ ?_ ?_ ?_ ?_ ?_ ?_ ?_ ?_ ?_ ?_,bx3 hb ?_ ?_ ?_ ?_ ?_ ?_⟩
   all_goals first|assumption|assumption)
 replace gb:=Below.refl wc.heap.size wc
 go_wp2_with fail
 obtain ⟨m,hm9⟩:∃ m:Nat,((max (za v.num.natAbs).length (za v.den).length:Nat))=m:=⟨_,rfl⟩
 have HM:=Lib.hid (show ((max (za v.num.natAbs).length (za v.den).length:Nat):Int)=(m:Int) by rw [hm9])
 have hm4:m<=4096:=by have:=Hs.out;unfold szq at this;rw [zc,zc] at hm9;omega
 have t4:decide (4096<m)=false:=decide_eq_false (by omega)
 have t5:decide ((4096:Int)<(m:Int))=false:=decide_eq_false (by omega)
 clear hm9 hm4
 refine (zab ng2 _ _ _ _ _ (g2.to gb).isF (m:Int) HM.out).mono ?_
 clear ae ai af ak ah al az aE aA aF aP be aQ bf cK cN cL cO cS cT e0 e1 e2 e3 e4 o0 o1 o2 q0 q1 q2
 rintro e w3 ⟨rfl,bY⟩
 replace gb:=bS gb bY
 obtain ⟨⟨z0,ae,af,ah,az,aA,aP,aQ,ai,ak,al,aE,aF,be,bf⟩,⟨z3,cK,cL,cS,cN,cO,cT⟩⟩:=HXwc.out _ gb
 obtain ⟨e0,e1,e2,e3,e4⟩:=(i1.to gb)
 obtain ⟨o0,o1,o2,q0,q1,q2⟩:=(i2.to gb)
 go_wp2_with fail
 go_region
 go_wp2_with fail
 go_ret
 exact ⟨_,_,_,_,rfl,bS zb gb,(g2.to gb).isK,.inr rfl⟩

theorem ziL (mB g N:Nat) (u vJ:Value) (rows cols:Int) (T:Nat) (xa xb:Int) (ng:Bool) (vn vd:Value) (ln ld:List Nat) (d0 d1 d2:Value) {v:Rat}  (w:World) (hw:IsF w vn vd ln ld) (hm:zE w mB g N u vJ rows cols) (hN:N<=100000) (hT:T<N) (ho:zV w g (T*3) d0 d1 d2) (hs:szq v<=4096) (hcall:∀ V,Below w.heap.size w V->Calls Tryz.prog 97 #[.pointer (some ⟨mB,0,none⟩),.agg #[.int .i64 6,.int .i64 (T:Int),.int .i64 xa,.int .i64 xb,.bool ng,vn,vd]] V (zD V v))  :
  Calls Tryz.prog 39 #[.pointer (some ⟨mB,0,none⟩),.agg #[.int .i64 6,.int .i64 (T:Int),.int .i64 xa,.int .i64 xb,.bool ng,vn,vd]] w (zcm w g (T*3) v):=by
 obtain ⟨a0,n0,c0,rfl,H0,hm0⟩:=hw.1.open
 obtain ⟨a1,n1,c1,rfl,H1,hm1⟩:=hw.2.open
 have hTi:(T:Int)<(N:Int):=by omega
 have lm:=hm.lt
 have lo:=ho.lt
 have Hs:=Lib.hid hs
 have HC:=Lib.hid hcall
 clear hs hcall
 go_enter Tryz.func39,Tryz.ntmps39
 go_wp2_with fail
 obtain ⟨W0,ap⟩:∃ W0,w.alloc (.cells #[.int .i64 6,.int .i64 (T:Int),.int .i64 xa,.int .i64 xb,.bool ng,.slice a0 n0 c0,.slice a1 n1 c1] 49)=W0:=⟨_,rfl⟩
 have aq:=Lib.hid (show ∀ W',Below W0.heap.size W0 W'->(W'.cell? ⟨w.heap.size,0,none⟩=some (.int .i64 6)/\W'.cell? ⟨w.heap.size,1,none⟩=some (.int .i64 (T:Int))/\W'.cell? ⟨w.heap.size,2,none⟩=some (.int .i64 xa)/\W'.cell? ⟨w.heap.size,3,none⟩=some (.int .i64 xb)/\W'.cell? ⟨w.heap.size,4,none⟩=some (.bool ng)/\W'.cell? ⟨w.heap.size,5,none⟩=some (.slice a0 n0 c0)/\W'.cell? ⟨w.heap.size,6,none⟩=some (.slice a1 n1 c1)) from fun W' hb =>
  by and_intros <;> exact kc hb (by first|assumption|(rw [<- ap];simp [go_sem])))
 have cf:=Lib.hid (show ∀ W',Below W0.heap.size W0 W'->(W'.frozen? ⟨w.heap.size,0,none⟩=false/\W'.frozen? ⟨w.heap.size,1,none⟩=false/\W'.frozen? ⟨w.heap.size,2,none⟩=false/\W'.frozen? ⟨w.heap.size,3,none⟩=false/\W'.frozen? ⟨w.heap.size,4,none⟩=false/\W'.frozen? ⟨w.heap.size,5,none⟩=false/\W'.frozen? ⟨w.heap.size,6,none⟩=false) from fun W' hb =>
  by and_intros <;> refine (hb.frozen ?_).trans ?_ <;> first|assumption|(rw [<- ap];simp [go_sem])|(rw [<- ap];simp <;> omega))
 have cg:=Lib.hid (show ∀ W',Below W0.heap.size W0 W'->(w.heap.size<W'.heap.size) from fun W' hb =>
  Nat.lt_of_lt_of_le (by rw [<- ap];simp <;> omega) hb.size)
 have zb:Below w.heap.size w W0:=by rw [<- ap];exact bN _ _
 rw [ap]
 clear ap
 have i0:=hw.to zb
 have i1:=hm.to zb
 have i2:=ho.to zb
 have gb:Below W0.heap.size W0 W0:=Below.refl _ _
 obtain ⟨ae,af,ah,az,aA,aP,aQ⟩:=aq.out _ gb
 obtain ⟨ai,ak,al,aE,aF,be,bf⟩:=cf.out _ gb
 obtain z0:=cg.out _ gb
 obtain ⟨e0,e1,e2,e3,e4⟩:=(i1.to gb)
 obtain ⟨o0,o1,o2,q0,q1,q2⟩:=(i2.to gb)
 go_wp2_with fail
 have htab:=tab_6
 have hgb:=gb
 go_upto_region 4 with fail
 go_cut [5,6] from 28 (fun s5 s6 wx => zbC W0 (v) s5 wx/\s6=.int .i64 0)
 case first =>
  go_region_held3 (fun W' => W'.cell? ⟨w.heap.size,0,none⟩=some (.int .i64 6)/\W'.cell? ⟨w.heap.size,1,none⟩=some (.int .i64 (T:Int))/\W'.cell? ⟨w.heap.size,2,none⟩=some (.int .i64 xa)/\W'.cell? ⟨w.heap.size,3,none⟩=some (.int .i64 xb)/\W'.cell? ⟨w.heap.size,4,none⟩=some (.bool ng)/\W'.cell? ⟨w.heap.size,5,none⟩=some (.slice a0 n0 c0)/\W'.cell? ⟨w.heap.size,6,none⟩=some (.slice a1 n1 c1)) (first|(with_reducible exact aq.out _ gb)|((with_reducible refine aq.out _ ?_);repeat' (first|(with_reducible exact gb)|(with_reducible refine Below.drew ?_)|(with_reducible refine bS ?_ (bN _ _))|(with_reducible refine bT ?_ ?_ _ _ _)|(with_reducible exact aG)|(with_reducible exact aH)|omega))) (first
   | (go_at_call 97;(refine zg w1 (by with_reducible first|exact Below.refl _ _|exact bN _ _) ?_);intro V2 dE bV;have dY:=bV.size;have dH:=gb.size;have gb:=bS gb bV;(try have ag:=ag.to bV);(try have aI:Tri V2 (w1.heap.size) (.bool false) (.slice none 0 0) (.slice none 0 0):=(by rw [dE];with_reducible first|exact zd _ (.bool false) (.slice none 0 0) (.slice none 0 0) _|exact (zd _ (.bool false) (.slice none 0 0) (.slice none 0 0) _).alloc _));have aH:W0.heap.size<=w1.heap.size:=(dH);(try have aN:=ag.lt);(try have aO:=aI.lt);(with_reducible refine (HC.out _ (bS zb gb)).mono ?_);rintro e w2 ⟨ng2,a2_,n2_,c2_,p2_,m2_,k2_,rfl,g2,aM⟩;have gb:=bS gb aM;have dF:=aM.size;(try have ag:=ag.to aM);(try have aI:=aI.to aM);(try have b5:=ag.lt);(try have b6:=aI.lt);(try (have aR:=ag;obtain ⟨bo,bq,bs,bt,bu,bv⟩:=aR));(try (have bQ:=aI;obtain ⟨ci,ck,cl,cm,cn,cq⟩:=bQ)))
   | (go_at_call 65;(refine zg W0 (by with_reducible first|exact (Below.refl _ _).drew|exact (bN _ _).drew) ?_);intro V1 dD ch;have dX:=ch.size;have dG:=gb.size;have gb:=bS gb ch;(try have ag:Tri V1 (W0.heap.size) (.bool false) (.slice none 0 0) (.slice none 0 0):=(by rw [dD];with_reducible first|exact (zd _ (.bool false) (.slice none 0 0) (.slice none 0 0) _).drew|exact ((zd _ (.bool false) (.slice none 0 0) (.slice none 0 0) _).alloc _).drew));have aG:W0.heap.size<=W0.heap.size:=(dG);(try have bc:=ag.lt);(with_reducible refine (zaO _).mono ?_);rintro e w1 ⟨rfl,aS⟩;have gb:=bS gb aS;have dj:=aS.size;(try have ag:=ag.to aS);(try have bn:=ag.lt);(try (have aR:=ag;obtain ⟨bo,bq,bs,bt,bu,bv⟩:=aR))))
  all_goals (go_wp2_with fail;go_meet)
  all_goals refine ⟨?_,rfl⟩
  all_goals first
   | (with_reducible exact zG ag g2 (.inl aN) gb aG)
   | (with_reducible exact zG aI g2 (.inl aO) gb aH)
   | (with_reducible exact zaT g2 gb)
 case rest =>
 obtain ⟨⟨B3,ng2,a2_,n2_,c2_,p2_,m2_,k2_,lo3,hi3,rfl,hB3,T3,g2,hc3⟩,rfl⟩:=hcut
 clear ae ai af ak ah al az aE aA aF aP be aQ bf e0 e1 e2 e3 e4 o0 o1 o2 q0 q1 q2
 have gb:=hc3
 obtain ⟨ae,af,ah,az,aA,aP,aQ⟩:=aq.out _ gb
 obtain ⟨ai,ak,al,aE,aF,be,bf⟩:=cf.out _ gb
 obtain z0:=cg.out _ gb
 obtain ⟨e0,e1,e2,e3,e4⟩:=(i1.to gb)
 obtain ⟨o0,o1,o2,q0,q1,q2⟩:=(i2.to gb)
 have z3:=T3.lt
 obtain ⟨cK,cL,cS,cN,cO,cT⟩:=T3
 clear hgb
 obtain ⟨W1,aJ⟩:∃ W,wc=W:=⟨_,rfl⟩
 subst aJ
 replace i0:=i0.to gb
 replace i1:=i1.to gb
 replace i2:=i2.to gb
 replace zb:=bS zb gb
 have HXwc:=Lib.hid (show ∀ W',Below wc.heap.size wc W'->(Bx7 W' w.heap.size (.int .i64 6) (.int .i64 (T:Int)) (.int .i64 xa) (.int .i64 xb) (.bool ng) (.slice a0 n0 c0) (.slice a1 n1 c1)/\Bx3 W' B3 (.bool ng2) (.slice a2_ n2_ c2_) (.slice p2_ m2_ k2_)) from fun W' hb => by
   refine ⟨bx7 hb ?_ ?_ ?_ ?_ ?_ ?_ ?_ ?_ ?_ ?_ ?_ ?_ ?_ ?_,bx3 hb ?_ ?_ ?_ ?_ ?_ ?_⟩
   all_goals first|assumption|assumption)
 replace gb:=Below.refl wc.heap.size wc
 go_wp2_with fail
 obtain ⟨m,hm9⟩:∃ m:Nat,((max (za v.num.natAbs).length (za v.den).length:Nat))=m:=⟨_,rfl⟩
 have HM:=Lib.hid (show ((max (za v.num.natAbs).length (za v.den).length:Nat):Int)=(m:Int) by rw [hm9])
 have hm4:m<=4096:=by have:=Hs.out;unfold szq at this;rw [zc,zc] at hm9;omega
 have t4:decide (4096<m)=false:=decide_eq_false (by omega)
 have t5:decide ((4096:Int)<(m:Int))=false:=decide_eq_false (by omega)
 clear hm9 hm4
 refine (zab ng2 _ _ _ _ _ (g2.to gb).isF (m:Int) HM.out).mono ?_
 clear ae ai af ak ah al az aE aA aF aP be aQ bf cK cN cL cO cS cT e0 e1 e2 e3 e4 o0 o1 o2 q0 q1 q2
 rintro e w3 ⟨rfl,bY⟩
 replace gb:=bS gb bY
 obtain ⟨⟨z0,ae,af,ah,az,aA,aP,aQ,ai,ak,al,aE,aF,be,bf⟩,⟨z3,cK,cL,cS,cN,cO,cT⟩⟩:=HXwc.out _ gb
 obtain ⟨e0,e1,e2,e3,e4⟩:=(i1.to gb)
 obtain ⟨o0,o1,o2,q0,q1,q2⟩:=(i2.to gb)
 go_wp2_with fail
 go_region
 go_wp2_with fail
 go_ret
 exact ⟨_,_,_,_,rfl,bS zb gb,(g2.to gb).isK,.inr rfl⟩

theorem ziM (mB g N:Nat) (u vJ:Value) (rows cols:Int) (T:Nat) (xa xb:Int) (ng:Bool) (vn vd:Value) (ln ld:List Nat) (d0 d1 d2:Value) {v:Rat}  (w:World) (hw:IsF w vn vd ln ld) (hm:zE w mB g N u vJ rows cols) (hN:N<=100000) (hT:T<N) (ho:zV w g (T*3) d0 d1 d2) (hs:szq v<=4096) (hcall:∀ V,Below w.heap.size w V->Calls Tryz.prog 98 #[.pointer (some ⟨mB,0,none⟩),.agg #[.int .i64 7,.int .i64 (T:Int),.int .i64 xa,.int .i64 xb,.bool ng,vn,vd]] V (zD V v))  :
  Calls Tryz.prog 39 #[.pointer (some ⟨mB,0,none⟩),.agg #[.int .i64 7,.int .i64 (T:Int),.int .i64 xa,.int .i64 xb,.bool ng,vn,vd]] w (zcm w g (T*3) v):=by
 obtain ⟨a0,n0,c0,rfl,H0,hm0⟩:=hw.1.open
 obtain ⟨a1,n1,c1,rfl,H1,hm1⟩:=hw.2.open
 have hTi:(T:Int)<(N:Int):=by omega
 have lm:=hm.lt
 have lo:=ho.lt
 have Hs:=Lib.hid hs
 have HC:=Lib.hid hcall
 clear hs hcall
 go_enter Tryz.func39,Tryz.ntmps39
 go_wp2_with fail
 obtain ⟨W0,ap⟩:∃ W0,w.alloc (.cells #[.int .i64 7,.int .i64 (T:Int),.int .i64 xa,.int .i64 xb,.bool ng,.slice a0 n0 c0,.slice a1 n1 c1] 49)=W0:=⟨_,rfl⟩
 have aq:=Lib.hid (show ∀ W',Below W0.heap.size W0 W'->(W'.cell? ⟨w.heap.size,0,none⟩=some (.int .i64 7)/\W'.cell? ⟨w.heap.size,1,none⟩=some (.int .i64 (T:Int))/\W'.cell? ⟨w.heap.size,2,none⟩=some (.int .i64 xa)/\W'.cell? ⟨w.heap.size,3,none⟩=some (.int .i64 xb)/\W'.cell? ⟨w.heap.size,4,none⟩=some (.bool ng)/\W'.cell? ⟨w.heap.size,5,none⟩=some (.slice a0 n0 c0)/\W'.cell? ⟨w.heap.size,6,none⟩=some (.slice a1 n1 c1)) from fun W' hb =>
  by and_intros <;> exact kc hb (by first|assumption|(rw [<- ap];simp [go_sem])))
 have cf:=Lib.hid (show ∀ W',Below W0.heap.size W0 W'->(W'.frozen? ⟨w.heap.size,0,none⟩=false/\W'.frozen? ⟨w.heap.size,1,none⟩=false/\W'.frozen? ⟨w.heap.size,2,none⟩=false/\W'.frozen? ⟨w.heap.size,3,none⟩=false/\W'.frozen? ⟨w.heap.size,4,none⟩=false/\W'.frozen? ⟨w.heap.size,5,none⟩=false/\W'.frozen? ⟨w.heap.size,6,none⟩=false) from fun W' hb =>
  by and_intros <;> refine (hb.frozen ?_).trans ?_ <;> first|assumption|(rw [<- ap];simp [go_sem])|(rw [<- ap];simp <;> omega))
 have cg:=Lib.hid (show ∀ W',Below W0.heap.size W0 W'->(w.heap.size<W'.heap.size) from fun W' hb =>
  Nat.lt_of_lt_of_le (by rw [<- ap];simp <;> omega) hb.size)
 have zb:Below w.heap.size w W0:=by rw [<- ap];exact bN _ _
 rw [ap]
 clear ap
 have i0:=hw.to zb
 have i1:=hm.to zb
 have i2:=ho.to zb
 have gb:Below W0.heap.size W0 W0:=Below.refl _ _
 obtain ⟨ae,af,ah,az,aA,aP,aQ⟩:=aq.out _ gb
 obtain ⟨ai,ak,al,aE,aF,be,bf⟩:=cf.out _ gb
 obtain z0:=cg.out _ gb
 obtain ⟨e0,e1,e2,e3,e4⟩:=(i1.to gb)
 obtain ⟨o0,o1,o2,q0,q1,q2⟩:=(i2.to gb)
 go_wp2_with fail
 have htab:=tab_7
 have hgb:=gb
 go_upto_region 4 with fail
 go_cut [5,6] from 28 (fun s5 s6 wx => zbC W0 (v) s5 wx/\s6=.int .i64 0)
 case first =>
  go_region_held3 (fun W' => W'.cell? ⟨w.heap.size,0,none⟩=some (.int .i64 7)/\W'.cell? ⟨w.heap.size,1,none⟩=some (.int .i64 (T:Int))/\W'.cell? ⟨w.heap.size,2,none⟩=some (.int .i64 xa)/\W'.cell? ⟨w.heap.size,3,none⟩=some (.int .i64 xb)/\W'.cell? ⟨w.heap.size,4,none⟩=some (.bool ng)/\W'.cell? ⟨w.heap.size,5,none⟩=some (.slice a0 n0 c0)/\W'.cell? ⟨w.heap.size,6,none⟩=some (.slice a1 n1 c1)) (first|(with_reducible exact aq.out _ gb)|((with_reducible refine aq.out _ ?_);repeat' (first|(with_reducible exact gb)|(with_reducible refine Below.drew ?_)|(with_reducible refine bS ?_ (bN _ _))|(with_reducible refine bT ?_ ?_ _ _ _)|(with_reducible exact aG)|(with_reducible exact aH)|omega))) (first
   | (go_at_call 98;(refine zg w1 (by with_reducible first|exact Below.refl _ _|exact bN _ _) ?_);intro V2 dE bV;have dY:=bV.size;have dH:=gb.size;have gb:=bS gb bV;(try have ag:=ag.to bV);(try have aI:Tri V2 (w1.heap.size) (.bool false) (.slice none 0 0) (.slice none 0 0):=(by rw [dE];with_reducible first|exact zd _ (.bool false) (.slice none 0 0) (.slice none 0 0) _|exact (zd _ (.bool false) (.slice none 0 0) (.slice none 0 0) _).alloc _));have aH:W0.heap.size<=w1.heap.size:=(dH);(try have aN:=ag.lt);(try have aO:=aI.lt);(with_reducible refine (HC.out _ (bS zb gb)).mono ?_);rintro e w2 ⟨ng2,a2_,n2_,c2_,p2_,m2_,k2_,rfl,g2,aM⟩;have gb:=bS gb aM;have dF:=aM.size;(try have ag:=ag.to aM);(try have aI:=aI.to aM);(try have b5:=ag.lt);(try have b6:=aI.lt);(try (have aR:=ag;obtain ⟨bo,bq,bs,bt,bu,bv⟩:=aR));(try (have bQ:=aI;obtain ⟨ci,ck,cl,cm,cn,cq⟩:=bQ)))
   | (go_at_call 65;(refine zg W0 (by with_reducible first|exact (Below.refl _ _).drew|exact (bN _ _).drew) ?_);intro V1 dD ch;have dX:=ch.size;have dG:=gb.size;have gb:=bS gb ch;(try have ag:Tri V1 (W0.heap.size) (.bool false) (.slice none 0 0) (.slice none 0 0):=(by rw [dD];with_reducible first|exact (zd _ (.bool false) (.slice none 0 0) (.slice none 0 0) _).drew|exact ((zd _ (.bool false) (.slice none 0 0) (.slice none 0 0) _).alloc _).drew));have aG:W0.heap.size<=W0.heap.size:=(dG);(try have bc:=ag.lt);(with_reducible refine (zaO _).mono ?_);rintro e w1 ⟨rfl,aS⟩;have gb:=bS gb aS;have dj:=aS.size;(try have ag:=ag.to aS);(try have bn:=ag.lt);(try (have aR:=ag;obtain ⟨bo,bq,bs,bt,bu,bv⟩:=aR))))
  all_goals (go_wp2_with fail;go_meet)
  all_goals refine ⟨?_,rfl⟩
  all_goals first
   | (with_reducible exact zG ag g2 (.inl aN) gb aG)
   | (with_reducible exact zG aI g2 (.inl aO) gb aH)
   | (with_reducible exact zaT g2 gb)
 case rest =>
 obtain ⟨⟨B3,ng2,a2_,n2_,c2_,p2_,m2_,k2_,lo3,hi3,rfl,hB3,T3,g2,hc3⟩,rfl⟩:=hcut
 clear ae ai af ak ah al az aE aA aF aP be aQ bf e0 e1 e2 e3 e4 o0 o1 o2 q0 q1 q2
 have gb:=hc3
 obtain ⟨ae,af,ah,az,aA,aP,aQ⟩:=aq.out _ gb
 obtain ⟨ai,ak,al,aE,aF,be,bf⟩:=cf.out _ gb
 obtain z0:=cg.out _ gb
 obtain ⟨e0,e1,e2,e3,e4⟩:=(i1.to gb)
 obtain ⟨o0,o1,o2,q0,q1,q2⟩:=(i2.to gb)
 have z3:=T3.lt
 obtain ⟨cK,cL,cS,cN,cO,cT⟩:=T3
 clear hgb
 obtain ⟨W1,aJ⟩:∃ W,wc=W:=⟨_,rfl⟩
 subst aJ
 replace i0:=i0.to gb
 replace i1:=i1.to gb
 replace i2:=i2.to gb
 replace zb:=bS zb gb
 have HXwc:=Lib.hid (show ∀ W',Below wc.heap.size wc W'->(Bx7 W' w.heap.size (.int .i64 7) (.int .i64 (T:Int)) (.int .i64 xa) (.int .i64 xb) (.bool ng) (.slice a0 n0 c0) (.slice a1 n1 c1)/\Bx3 W' B3 (.bool ng2) (.slice a2_ n2_ c2_) (.slice p2_ m2_ k2_)) from fun W' hb => by
   refine ⟨bx7 hb ?_ ?_ ?_ ?_ ?_ ?_ ?_ ?_ ?_ ?_ ?_ ?_ ?_ ?_,bx3 hb ?_ ?_ ?_ ?_ ?_ ?_⟩
   all_goals first|assumption|assumption)
 replace gb:=Below.refl wc.heap.size wc
 go_wp2_with fail
 obtain ⟨m,hm9⟩:∃ m:Nat,((max (za v.num.natAbs).length (za v.den).length:Nat))=m:=⟨_,rfl⟩
 have HM:=Lib.hid (show ((max (za v.num.natAbs).length (za v.den).length:Nat):Int)=(m:Int) by rw [hm9])
 have hm4:m<=4096:=by have:=Hs.out;unfold szq at this;rw [zc,zc] at hm9;omega
 have t4:decide (4096<m)=false:=decide_eq_false (by omega)
 have t5:decide ((4096:Int)<(m:Int))=false:=decide_eq_false (by omega)
 clear hm9 hm4
 refine (zab ng2 _ _ _ _ _ (g2.to gb).isF (m:Int) HM.out).mono ?_
 clear ae ai af ak ah al az aE aA aF aP be aQ bf cK cN cL cO cS cT e0 e1 e2 e3 e4 o0 o1 o2 q0 q1 q2
 rintro e w3 ⟨rfl,bY⟩
 replace gb:=bS gb bY
 obtain ⟨⟨z0,ae,af,ah,az,aA,aP,aQ,ai,ak,al,aE,aF,be,bf⟩,⟨z3,cK,cL,cS,cN,cO,cT⟩⟩:=HXwc.out _ gb
 obtain ⟨e0,e1,e2,e3,e4⟩:=(i1.to gb)
 obtain ⟨o0,o1,o2,q0,q1,q2⟩:=(i2.to gb)
 go_wp2_with fail
 go_region
 go_wp2_with fail
 go_ret
 exact ⟨_,_,_,_,rfl,bS zb gb,(g2.to gb).isK,.inr rfl⟩

theorem ziN (mB g N:Nat) (u vJ:Value) (rows cols:Int) (T:Nat) (xa xb:Int) (ng:Bool) (vn vd:Value) (ln ld:List Nat) (d0 d1 d2:Value) {v:Rat}  (w:World) (hw:IsF w vn vd ln ld) (hm:zE w mB g N u vJ rows cols) (hN:N<=100000) (hT:T<N) (ho:zV w g (T*3) d0 d1 d2) (hs:szq v<=4096) (hcall:∀ V,Below w.heap.size w V->Calls Tryz.prog 95 #[.pointer (some ⟨mB,0,none⟩),.agg #[.int .i64 8,.int .i64 (T:Int),.int .i64 xa,.int .i64 xb,.bool ng,vn,vd]] V (zD V v))  :
  Calls Tryz.prog 39 #[.pointer (some ⟨mB,0,none⟩),.agg #[.int .i64 8,.int .i64 (T:Int),.int .i64 xa,.int .i64 xb,.bool ng,vn,vd]] w (zcm w g (T*3) v):=by
 obtain ⟨a0,n0,c0,rfl,H0,hm0⟩:=hw.1.open
 obtain ⟨a1,n1,c1,rfl,H1,hm1⟩:=hw.2.open
 have hTi:(T:Int)<(N:Int):=by omega
 have lm:=hm.lt
 have lo:=ho.lt
 have Hs:=Lib.hid hs
 have HC:=Lib.hid hcall
 clear hs hcall
 go_enter Tryz.func39,Tryz.ntmps39
 go_wp2_with fail
 obtain ⟨W0,ap⟩:∃ W0,w.alloc (.cells #[.int .i64 8,.int .i64 (T:Int),.int .i64 xa,.int .i64 xb,.bool ng,.slice a0 n0 c0,.slice a1 n1 c1] 49)=W0:=⟨_,rfl⟩
 have aq:=Lib.hid (show ∀ W',Below W0.heap.size W0 W'->(W'.cell? ⟨w.heap.size,0,none⟩=some (.int .i64 8)/\W'.cell? ⟨w.heap.size,1,none⟩=some (.int .i64 (T:Int))/\W'.cell? ⟨w.heap.size,2,none⟩=some (.int .i64 xa)/\W'.cell? ⟨w.heap.size,3,none⟩=some (.int .i64 xb)/\W'.cell? ⟨w.heap.size,4,none⟩=some (.bool ng)/\W'.cell? ⟨w.heap.size,5,none⟩=some (.slice a0 n0 c0)/\W'.cell? ⟨w.heap.size,6,none⟩=some (.slice a1 n1 c1)) from fun W' hb =>
  by and_intros <;> exact kc hb (by first|assumption|(rw [<- ap];simp [go_sem])))
 have cf:=Lib.hid (show ∀ W',Below W0.heap.size W0 W'->(W'.frozen? ⟨w.heap.size,0,none⟩=false/\W'.frozen? ⟨w.heap.size,1,none⟩=false/\W'.frozen? ⟨w.heap.size,2,none⟩=false/\W'.frozen? ⟨w.heap.size,3,none⟩=false/\W'.frozen? ⟨w.heap.size,4,none⟩=false/\W'.frozen? ⟨w.heap.size,5,none⟩=false/\W'.frozen? ⟨w.heap.size,6,none⟩=false) from fun W' hb =>
  by and_intros <;> refine (hb.frozen ?_).trans ?_ <;> first|assumption|(rw [<- ap];simp [go_sem])|(rw [<- ap];simp <;> omega))
 have cg:=Lib.hid (show ∀ W',Below W0.heap.size W0 W'->(w.heap.size<W'.heap.size) from fun W' hb =>
  Nat.lt_of_lt_of_le (by rw [<- ap];simp <;> omega) hb.size)
 have zb:Below w.heap.size w W0:=by rw [<- ap];exact bN _ _
 rw [ap]
 clear ap
 have i0:=hw.to zb
 have i1:=hm.to zb
 have i2:=ho.to zb
 have gb:Below W0.heap.size W0 W0:=Below.refl _ _
 obtain ⟨ae,af,ah,az,aA,aP,aQ⟩:=aq.out _ gb
 obtain ⟨ai,ak,al,aE,aF,be,bf⟩:=cf.out _ gb
 obtain z0:=cg.out _ gb
 obtain ⟨e0,e1,e2,e3,e4⟩:=(i1.to gb)
 obtain ⟨o0,o1,o2,q0,q1,q2⟩:=(i2.to gb)
 go_wp2_with fail
 have htab:=tab_8
 have hgb:=gb
 go_upto_region 4 with fail
 go_cut [5,6] from 28 (fun s5 s6 wx => zbC W0 (v) s5 wx/\s6=.int .i64 0)
 case first =>
  go_region_held3 (fun W' => W'.cell? ⟨w.heap.size,0,none⟩=some (.int .i64 8)/\W'.cell? ⟨w.heap.size,1,none⟩=some (.int .i64 (T:Int))/\W'.cell? ⟨w.heap.size,2,none⟩=some (.int .i64 xa)/\W'.cell? ⟨w.heap.size,3,none⟩=some (.int .i64 xb)/\W'.cell? ⟨w.heap.size,4,none⟩=some (.bool ng)/\W'.cell? ⟨w.heap.size,5,none⟩=some (.slice a0 n0 c0)/\W'.cell? ⟨w.heap.size,6,none⟩=some (.slice a1 n1 c1)) (first|(with_reducible exact aq.out _ gb)|((with_reducible refine aq.out _ ?_);repeat' (first|(with_reducible exact gb)|(with_reducible refine Below.drew ?_)|(with_reducible refine bS ?_ (bN _ _))|(with_reducible refine bT ?_ ?_ _ _ _)|(with_reducible exact aG)|(with_reducible exact aH)|omega))) (first
   | (go_at_call 95;(refine zg w1 (by with_reducible first|exact Below.refl _ _|exact bN _ _) ?_);intro V2 dE bV;have dY:=bV.size;have dH:=gb.size;have gb:=bS gb bV;(try have ag:=ag.to bV);(try have aI:Tri V2 (w1.heap.size) (.bool false) (.slice none 0 0) (.slice none 0 0):=(by rw [dE];with_reducible first|exact zd _ (.bool false) (.slice none 0 0) (.slice none 0 0) _|exact (zd _ (.bool false) (.slice none 0 0) (.slice none 0 0) _).alloc _));have aH:W0.heap.size<=w1.heap.size:=(dH);(try have aN:=ag.lt);(try have aO:=aI.lt);(with_reducible refine (HC.out _ (bS zb gb)).mono ?_);rintro e w2 ⟨ng2,a2_,n2_,c2_,p2_,m2_,k2_,rfl,g2,aM⟩;have gb:=bS gb aM;have dF:=aM.size;(try have ag:=ag.to aM);(try have aI:=aI.to aM);(try have b5:=ag.lt);(try have b6:=aI.lt);(try (have aR:=ag;obtain ⟨bo,bq,bs,bt,bu,bv⟩:=aR));(try (have bQ:=aI;obtain ⟨ci,ck,cl,cm,cn,cq⟩:=bQ)))
   | (go_at_call 65;(refine zg W0 (by with_reducible first|exact (Below.refl _ _).drew|exact (bN _ _).drew) ?_);intro V1 dD ch;have dX:=ch.size;have dG:=gb.size;have gb:=bS gb ch;(try have ag:Tri V1 (W0.heap.size) (.bool false) (.slice none 0 0) (.slice none 0 0):=(by rw [dD];with_reducible first|exact (zd _ (.bool false) (.slice none 0 0) (.slice none 0 0) _).drew|exact ((zd _ (.bool false) (.slice none 0 0) (.slice none 0 0) _).alloc _).drew));have aG:W0.heap.size<=W0.heap.size:=(dG);(try have bc:=ag.lt);(with_reducible refine (zaO _).mono ?_);rintro e w1 ⟨rfl,aS⟩;have gb:=bS gb aS;have dj:=aS.size;(try have ag:=ag.to aS);(try have bn:=ag.lt);(try (have aR:=ag;obtain ⟨bo,bq,bs,bt,bu,bv⟩:=aR))))
  all_goals (go_wp2_with fail;go_meet)
  all_goals refine ⟨?_,rfl⟩
  all_goals first
   | (with_reducible exact zG ag g2 (.inl aN) gb aG)
   | (with_reducible exact zG aI g2 (.inl aO) gb aH)
   | (with_reducible exact zaT g2 gb)
 case rest =>
 obtain ⟨⟨B3,ng2,a2_,n2_,c2_,p2_,m2_,k2_,lo3,hi3,rfl,hB3,T3,g2,hc3⟩,rfl⟩:=hcut
 clear ae ai af ak ah al az aE aA aF aP be aQ bf e0 e1 e2 e3 e4 o0 o1 o2 q0 q1 q2
 have gb:=hc3
 obtain ⟨ae,af,ah,az,aA,aP,aQ⟩:=aq.out _ gb
 obtain ⟨ai,ak,al,aE,aF,be,bf⟩:=cf.out _ gb
 obtain z0:=cg.out _ gb
 obtain ⟨e0,e1,e2,e3,e4⟩:=(i1.to gb)
 obtain ⟨o0,o1,o2,q0,q1,q2⟩:=(i2.to gb)
 have z3:=T3.lt
 obtain ⟨cK,cL,cS,cN,cO,cT⟩:=T3
 clear hgb
 obtain ⟨W1,aJ⟩:∃ W,wc=W:=⟨_,rfl⟩
 subst aJ
 replace i0:=i0.to gb
 replace i1:=i1.to gb
 replace i2:=i2.to gb
 replace zb:=bS zb gb
 have HXwc:=Lib.hid (show ∀ W',Below wc.heap.size wc W'->(Bx7 W' w.heap.size (.int .i64 8) (.int .i64 (T:Int)) (.int .i64 xa) (.int .i64 xb) (.bool ng) (.slice a0 n0 c0) (.slice a1 n1 c1)/\Bx3 W' B3 (.bool ng2) (.slice a2_ n2_ c2_) (.slice p2_ m2_ k2_)) from fun W' hb => by
   refine ⟨bx7 hb ?_ ?_ ?_ ?_ ?_ ?_ ?_ ?_ ?_ ?_ ?_ ?_ ?_ ?_,bx3 hb ?_ ?_ ?_ ?_ ?_ ?_⟩
   all_goals first|assumption|assumption)
 replace gb:=Below.refl wc.heap.size wc
 go_wp2_with fail
 obtain ⟨m,hm9⟩:∃ m:Nat,((max (za v.num.natAbs).length (za v.den).length:Nat))=m:=⟨_,rfl⟩
 have HM:=Lib.hid (show ((max (za v.num.natAbs).length (za v.den).length:Nat):Int)=(m:Int) by rw [hm9])
 have hm4:m<=4096:=by have:=Hs.out;unfold szq at this;rw [zc,zc] at hm9;omega
 have t4:decide (4096<m)=false:=decide_eq_false (by omega)
 have t5:decide ((4096:Int)<(m:Int))=false:=decide_eq_false (by omega)
 clear hm9 hm4
 refine (zab ng2 _ _ _ _ _ (g2.to gb).isF (m:Int) HM.out).mono ?_
 clear ae ai af ak ah al az aE aA aF aP be aQ bf cK cN cL cO cS cT e0 e1 e2 e3 e4 o0 o1 o2 q0 q1 q2
 rintro e w3 ⟨rfl,bY⟩
 replace gb:=bS gb bY
 obtain ⟨⟨z0,ae,af,ah,az,aA,aP,aQ,ai,ak,al,aE,aF,be,bf⟩,⟨z3,cK,cL,cS,cN,cO,cT⟩⟩:=HXwc.out _ gb
 obtain ⟨e0,e1,e2,e3,e4⟩:=(i1.to gb)
 obtain ⟨o0,o1,o2,q0,q1,q2⟩:=(i2.to gb)
 go_wp2_with fail
 go_region
 go_wp2_with fail
 go_ret
 exact ⟨_,_,_,_,rfl,bS zb gb,(g2.to gb).isK,.inr rfl⟩

theorem ziO (mB g N:Nat) (u vJ:Value) (rows cols:Int) (T:Nat) (xa xb:Int) (ng:Bool) (vn vd:Value) (ln ld:List Nat) (d0 d1 d2:Value) {v:Rat}  (w:World) (hw:IsF w vn vd ln ld) (hm:zE w mB g N u vJ rows cols) (hN:N<=100000) (hT:T<N) (ho:zV w g (T*3) d0 d1 d2) (hs:szq v<=4096) (hcall:∀ V,Below w.heap.size w V->Calls Tryz.prog 93 #[.pointer (some ⟨mB,0,none⟩),.agg #[.int .i64 9,.int .i64 (T:Int),.int .i64 xa,.int .i64 xb,.bool ng,vn,vd]] V (zD V v))  :
  Calls Tryz.prog 39 #[.pointer (some ⟨mB,0,none⟩),.agg #[.int .i64 9,.int .i64 (T:Int),.int .i64 xa,.int .i64 xb,.bool ng,vn,vd]] w (zcm w g (T*3) v):=by
 obtain ⟨a0,n0,c0,rfl,H0,hm0⟩:=hw.1.open
 obtain ⟨a1,n1,c1,rfl,H1,hm1⟩:=hw.2.open
 have hTi:(T:Int)<(N:Int):=by omega
 have lm:=hm.lt
 have lo:=ho.lt
 have Hs:=Lib.hid hs
 have HC:=Lib.hid hcall
 clear hs hcall
 go_enter Tryz.func39,Tryz.ntmps39
 go_wp2_with fail
 obtain ⟨W0,ap⟩:∃ W0,w.alloc (.cells #[.int .i64 9,.int .i64 (T:Int),.int .i64 xa,.int .i64 xb,.bool ng,.slice a0 n0 c0,.slice a1 n1 c1] 49)=W0:=⟨_,rfl⟩
 have aq:=Lib.hid (show ∀ W',Below W0.heap.size W0 W'->(W'.cell? ⟨w.heap.size,0,none⟩=some (.int .i64 9)/\W'.cell? ⟨w.heap.size,1,none⟩=some (.int .i64 (T:Int))/\W'.cell? ⟨w.heap.size,2,none⟩=some (.int .i64 xa)/\W'.cell? ⟨w.heap.size,3,none⟩=some (.int .i64 xb)/\W'.cell? ⟨w.heap.size,4,none⟩=some (.bool ng)/\W'.cell? ⟨w.heap.size,5,none⟩=some (.slice a0 n0 c0)/\W'.cell? ⟨w.heap.size,6,none⟩=some (.slice a1 n1 c1)) from fun W' hb =>
  by and_intros <;> exact kc hb (by first|assumption|(rw [<- ap];simp [go_sem])))
 have cf:=Lib.hid (show ∀ W',Below W0.heap.size W0 W'->(W'.frozen? ⟨w.heap.size,0,none⟩=false/\W'.frozen? ⟨w.heap.size,1,none⟩=false/\W'.frozen? ⟨w.heap.size,2,none⟩=false/\W'.frozen? ⟨w.heap.size,3,none⟩=false/\W'.frozen? ⟨w.heap.size,4,none⟩=false/\W'.frozen? ⟨w.heap.size,5,none⟩=false/\W'.frozen? ⟨w.heap.size,6,none⟩=false) from fun W' hb =>
  by and_intros <;> refine (hb.frozen ?_).trans ?_ <;> first|assumption|(rw [<- ap];simp [go_sem])|(rw [<- ap];simp <;> omega))
 have cg:=Lib.hid (show ∀ W',Below W0.heap.size W0 W'->(w.heap.size<W'.heap.size) from fun W' hb =>
  Nat.lt_of_lt_of_le (by rw [<- ap];simp <;> omega) hb.size)
 have zb:Below w.heap.size w W0:=by rw [<- ap];exact bN _ _
 rw [ap]
 clear ap
 have i0:=hw.to zb
 have i1:=hm.to zb
 have i2:=ho.to zb
 have gb:Below W0.heap.size W0 W0:=Below.refl _ _
 obtain ⟨ae,af,ah,az,aA,aP,aQ⟩:=aq.out _ gb
 obtain ⟨ai,ak,al,aE,aF,be,bf⟩:=cf.out _ gb
 obtain z0:=cg.out _ gb
 obtain ⟨e0,e1,e2,e3,e4⟩:=(i1.to gb)
 obtain ⟨o0,o1,o2,q0,q1,q2⟩:=(i2.to gb)
 go_wp2_with fail
 have htab:=tab_9
 have hgb:=gb
 go_upto_region 4 with fail
 go_cut [5,6] from 28 (fun s5 s6 wx => zbC W0 (v) s5 wx/\s6=.int .i64 0)
 case first =>
  go_region_held3 (fun W' => W'.cell? ⟨w.heap.size,0,none⟩=some (.int .i64 9)/\W'.cell? ⟨w.heap.size,1,none⟩=some (.int .i64 (T:Int))/\W'.cell? ⟨w.heap.size,2,none⟩=some (.int .i64 xa)/\W'.cell? ⟨w.heap.size,3,none⟩=some (.int .i64 xb)/\W'.cell? ⟨w.heap.size,4,none⟩=some (.bool ng)/\W'.cell? ⟨w.heap.size,5,none⟩=some (.slice a0 n0 c0)/\W'.cell? ⟨w.heap.size,6,none⟩=some (.slice a1 n1 c1)) (first|(with_reducible exact aq.out _ gb)|((with_reducible refine aq.out _ ?_);repeat' (first|(with_reducible exact gb)|(with_reducible refine Below.drew ?_)|(with_reducible refine bS ?_ (bN _ _))|(with_reducible refine bT ?_ ?_ _ _ _)|(with_reducible exact aG)|(with_reducible exact aH)|omega))) (first
   | (go_at_call 93;(refine zg w1 (by with_reducible first|exact Below.refl _ _|exact bN _ _) ?_);intro V2 dE bV;have dY:=bV.size;have dH:=gb.size;have gb:=bS gb bV;(try have ag:=ag.to bV);(try have aI:Tri V2 (w1.heap.size) (.bool false) (.slice none 0 0) (.slice none 0 0):=(by rw [dE];with_reducible first|exact zd _ (.bool false) (.slice none 0 0) (.slice none 0 0) _|exact (zd _ (.bool false) (.slice none 0 0) (.slice none 0 0) _).alloc _));have aH:W0.heap.size<=w1.heap.size:=(dH);(try have aN:=ag.lt);(try have aO:=aI.lt);(with_reducible refine (HC.out _ (bS zb gb)).mono ?_);rintro e w2 ⟨ng2,a2_,n2_,c2_,p2_,m2_,k2_,rfl,g2,aM⟩;have gb:=bS gb aM;have dF:=aM.size;(try have ag:=ag.to aM);(try have aI:=aI.to aM);(try have b5:=ag.lt);(try have b6:=aI.lt);(try (have aR:=ag;obtain ⟨bo,bq,bs,bt,bu,bv⟩:=aR));(try (have bQ:=aI;obtain ⟨ci,ck,cl,cm,cn,cq⟩:=bQ)))
   | (go_at_call 65;(refine zg W0 (by with_reducible first|exact (Below.refl _ _).drew|exact (bN _ _).drew) ?_);intro V1 dD ch;have dX:=ch.size;have dG:=gb.size;have gb:=bS gb ch;(try have ag:Tri V1 (W0.heap.size) (.bool false) (.slice none 0 0) (.slice none 0 0):=(by rw [dD];with_reducible first|exact (zd _ (.bool false) (.slice none 0 0) (.slice none 0 0) _).drew|exact ((zd _ (.bool false) (.slice none 0 0) (.slice none 0 0) _).alloc _).drew));have aG:W0.heap.size<=W0.heap.size:=(dG);(try have bc:=ag.lt);(with_reducible refine (zaO _).mono ?_);rintro e w1 ⟨rfl,aS⟩;have gb:=bS gb aS;have dj:=aS.size;(try have ag:=ag.to aS);(try have bn:=ag.lt);(try (have aR:=ag;obtain ⟨bo,bq,bs,bt,bu,bv⟩:=aR))))
  all_goals (go_wp2_with fail;go_meet)
  all_goals refine ⟨?_,rfl⟩
  all_goals first
   | (with_reducible exact zG ag g2 (.inl aN) gb aG)
   | (with_reducible exact zG aI g2 (.inl aO) gb aH)
   | (with_reducible exact zaT g2 gb)
 case rest =>
 obtain ⟨⟨B3,ng2,a2_,n2_,c2_,p2_,m2_,k2_,lo3,hi3,rfl,hB3,T3,g2,hc3⟩,rfl⟩:=hcut
 clear ae ai af ak ah al az aE aA aF aP be aQ bf e0 e1 e2 e3 e4 o0 o1 o2 q0 q1 q2
 have gb:=hc3
 obtain ⟨ae,af,ah,az,aA,aP,aQ⟩:=aq.out _ gb
 obtain ⟨ai,ak,al,aE,aF,be,bf⟩:=cf.out _ gb
 obtain z0:=cg.out _ gb
 obtain ⟨e0,e1,e2,e3,e4⟩:=(i1.to gb)
 obtain ⟨o0,o1,o2,q0,q1,q2⟩:=(i2.to gb)
 have z3:=T3.lt
 obtain ⟨cK,cL,cS,cN,cO,cT⟩:=T3
 clear hgb
 obtain ⟨W1,aJ⟩:∃ W,wc=W:=⟨_,rfl⟩
 subst aJ
 replace i0:=i0.to gb
 replace i1:=i1.to gb
 replace i2:=i2.to gb
 replace zb:=bS zb gb
 have HXwc:=Lib.hid (show ∀ W',Below wc.heap.size wc W'->(Bx7 W' w.heap.size (.int .i64 9) (.int .i64 (T:Int)) (.int .i64 xa) (.int .i64 xb) (.bool ng) (.slice a0 n0 c0) (.slice a1 n1 c1)/\Bx3 W' B3 (.bool ng2) (.slice a2_ n2_ c2_) (.slice p2_ m2_ k2_)) from fun W' hb => by
   refine ⟨bx7 hb ?_ ?_ ?_ ?_ ?_ ?_ ?_ ?_ ?_ ?_ ?_ ?_ ?_ ?_,bx3 hb ?_ ?_ ?_ ?_ ?_ ?_⟩
   all_goals first|assumption|assumption)
 replace gb:=Below.refl wc.heap.size wc
 go_wp2_with fail
 obtain ⟨m,hm9⟩:∃ m:Nat,((max (za v.num.natAbs).length (za v.den).length:Nat))=m:=⟨_,rfl⟩
 have HM:=Lib.hid (show ((max (za v.num.natAbs).length (za v.den).length:Nat):Int)=(m:Int) by rw [hm9])
 have hm4:m<=4096:=by have:=Hs.out;unfold szq at this;rw [zc,zc] at hm9;omega
 have t4:decide (4096<m)=false:=decide_eq_false (by omega)
 have t5:decide ((4096:Int)<(m:Int))=false:=decide_eq_false (by omega)
 clear hm9 hm4
 refine (zab ng2 _ _ _ _ _ (g2.to gb).isF (m:Int) HM.out).mono ?_
 clear ae ai af ak ah al az aE aA aF aP be aQ bf cK cN cL cO cS cT e0 e1 e2 e3 e4 o0 o1 o2 q0 q1 q2
 rintro e w3 ⟨rfl,bY⟩
 replace gb:=bS gb bY
 obtain ⟨⟨z0,ae,af,ah,az,aA,aP,aQ,ai,ak,al,aE,aF,be,bf⟩,⟨z3,cK,cL,cS,cN,cO,cT⟩⟩:=HXwc.out _ gb
 obtain ⟨e0,e1,e2,e3,e4⟩:=(i1.to gb)
 obtain ⟨o0,o1,o2,q0,q1,q2⟩:=(i2.to gb)
 go_wp2_with fail
 go_region
 go_wp2_with fail
 go_ret
 exact ⟨_,_,_,_,rfl,bS zb gb,(g2.to gb).isK,.inr rfl⟩

end Go.Proofs.YtkjcdnlpjldhaaaGreat


namespace Go.Proofs.YtkjcdnlpjldhaaaGreat
open Go.RowKit Tw
attribute [local go_sem ↓] Go.wp_at_zero Go.wp_at_succ

theorem zgA (mB g N:Nat) (u vJ:Value) (rows cols:Int) (T:Nat) (xa xb:Int) (ng:Bool) (vn vd:Value) (ln ld:List Nat) (d0 d1 d2:Value)  (w:World) (hw:IsF w vn vd ln ld) (hm:zE w mB g N u vJ rows cols) (hN:N<=100000) (hT:T<N) (ho:zV w g (T*3) d0 d1 d2) (hcall:∀ V,Below w.heap.size w V->Calls Tryz.prog 96 #[.pointer (some ⟨mB,0,none⟩),.agg #[.int .i64 5,.int .i64 (T:Int),.int .i64 xa,.int .i64 xb,.bool ng,vn,vd]] V (fun e w' => e=.returned (.tuple #[aggR false (.slice none 0 0) (.slice none 0 0),.int .i64 3])/\Below V.heap.size V w'))  :
  Calls Tryz.prog 39 #[.pointer (some ⟨mB,0,none⟩),.agg #[.int .i64 5,.int .i64 (T:Int),.int .i64 xa,.int .i64 xb,.bool ng,vn,vd]] w (fun e w' => e=.returned (.int .i64 3)/\Below w.heap.size w w'):=by
 obtain ⟨a0,n0,c0,rfl,H0,hm0⟩:=hw.1.open
 obtain ⟨a1,n1,c1,rfl,H1,hm1⟩:=hw.2.open
 have hTi:(T:Int)<(N:Int):=by omega
 have lm:=hm.lt
 have lo:=ho.lt
 have HC:=Lib.hid hcall
 clear hcall
 go_enter Tryz.func39,Tryz.ntmps39
 go_wp2_with fail
 obtain ⟨W0,ap⟩:∃ W0,w.alloc (.cells #[.int .i64 5,.int .i64 (T:Int),.int .i64 xa,.int .i64 xb,.bool ng,.slice a0 n0 c0,.slice a1 n1 c1] 49)=W0:=⟨_,rfl⟩
 have aq:=Lib.hid (show ∀ W',Below W0.heap.size W0 W'->(W'.cell? ⟨w.heap.size,0,none⟩=some (.int .i64 5)/\W'.cell? ⟨w.heap.size,1,none⟩=some (.int .i64 (T:Int))/\W'.cell? ⟨w.heap.size,2,none⟩=some (.int .i64 xa)/\W'.cell? ⟨w.heap.size,3,none⟩=some (.int .i64 xb)/\W'.cell? ⟨w.heap.size,4,none⟩=some (.bool ng)/\W'.cell? ⟨w.heap.size,5,none⟩=some (.slice a0 n0 c0)/\W'.cell? ⟨w.heap.size,6,none⟩=some (.slice a1 n1 c1)) from fun W' hb =>
  by and_intros <;> exact kc hb (by first|assumption|(rw [<- ap];simp [go_sem])))
 have cf:=Lib.hid (show ∀ W',Below W0.heap.size W0 W'->(W'.frozen? ⟨w.heap.size,0,none⟩=false/\W'.frozen? ⟨w.heap.size,1,none⟩=false/\W'.frozen? ⟨w.heap.size,2,none⟩=false/\W'.frozen? ⟨w.heap.size,3,none⟩=false/\W'.frozen? ⟨w.heap.size,4,none⟩=false/\W'.frozen? ⟨w.heap.size,5,none⟩=false/\W'.frozen? ⟨w.heap.size,6,none⟩=false) from fun W' hb =>
  by and_intros <;> refine (hb.frozen ?_).trans ?_ <;> first|assumption|(rw [<- ap];simp [go_sem])|(rw [<- ap];simp <;> omega))
 have cg:=Lib.hid (show ∀ W',Below W0.heap.size W0 W'->(w.heap.size<W'.heap.size) from fun W' hb =>
  Nat.lt_of_lt_of_le (by rw [<- ap];simp <;> omega) hb.size)
 have zb:Below w.heap.size w W0:=by rw [<- ap];exact bN _ _
 rw [ap]
 clear ap
 have i0:=hw.to zb
 have i1:=hm.to zb
 have i2:=ho.to zb
 have gb:Below W0.heap.size W0 W0:=Below.refl _ _
 obtain ⟨ae,af,ah,az,aA,aP,aQ⟩:=aq.out _ gb
 obtain ⟨ai,ak,al,aE,aF,be,bf⟩:=cf.out _ gb
 obtain z0:=cg.out _ gb
 obtain ⟨e0,e1,e2,e3,e4⟩:=(i1.to gb)
 obtain ⟨o0,o1,o2,q0,q1,q2⟩:=(i2.to gb)
 go_wp2_with fail
 have htab:=tab_5
 have hgb:=gb
 go_upto_region 4 with fail
 go_cut [6] from 28 (fun s6 wx => Below W0.heap.size W0 wx/\s6=.int .i64 3)
 case first =>
  go_region_held3 (fun W' => W'.cell? ⟨w.heap.size,0,none⟩=some (.int .i64 5)/\W'.cell? ⟨w.heap.size,1,none⟩=some (.int .i64 (T:Int))/\W'.cell? ⟨w.heap.size,2,none⟩=some (.int .i64 xa)/\W'.cell? ⟨w.heap.size,3,none⟩=some (.int .i64 xb)/\W'.cell? ⟨w.heap.size,4,none⟩=some (.bool ng)/\W'.cell? ⟨w.heap.size,5,none⟩=some (.slice a0 n0 c0)/\W'.cell? ⟨w.heap.size,6,none⟩=some (.slice a1 n1 c1)) (first|(with_reducible exact aq.out _ gb)|((with_reducible refine aq.out _ ?_);repeat' (first|(with_reducible exact gb)|(with_reducible refine Below.drew ?_)|(with_reducible refine bS ?_ (bN _ _))|(with_reducible refine bT ?_ ?_ _ _ _)|(with_reducible exact aG)|(with_reducible exact aH)|omega))) (first
   | (go_at_call 96;(refine zg w1 (by with_reducible first|exact Below.refl _ _|exact bN _ _) ?_);intro V2 dE bV;have dY:=bV.size;have dH:=gb.size;have gb:=bS gb bV;(try have ag:=ag.to bV);(try have aI:Tri V2 (w1.heap.size) (.bool false) (.slice none 0 0) (.slice none 0 0):=(by rw [dE];with_reducible first|exact zd _ (.bool false) (.slice none 0 0) (.slice none 0 0) _|exact (zd _ (.bool false) (.slice none 0 0) (.slice none 0 0) _).alloc _));have aH:W0.heap.size<=w1.heap.size:=(dH);(try have aN:=ag.lt);(try have aO:=aI.lt);(with_reducible refine (HC.out _ (bS zb gb)).mono ?_);rintro e w2 ⟨rfl,aM⟩;have gb:=bS gb aM;have dF:=aM.size;(try have ag:=ag.to aM);(try have aI:=aI.to aM);(try have b5:=ag.lt);(try have b6:=aI.lt);(try (have aR:=ag;obtain ⟨bo,bq,bs,bt,bu,bv⟩:=aR));(try (have bQ:=aI;obtain ⟨ci,ck,cl,cm,cn,cq⟩:=bQ)))
   | (go_at_call 65;(refine zg W0 (by with_reducible first|exact (Below.refl _ _).drew|exact (bN _ _).drew) ?_);intro V1 dD ch;have dX:=ch.size;have dG:=gb.size;have gb:=bS gb ch;(try have ag:Tri V1 (W0.heap.size) (.bool false) (.slice none 0 0) (.slice none 0 0):=(by rw [dD];with_reducible first|exact (zd _ (.bool false) (.slice none 0 0) (.slice none 0 0) _).drew|exact ((zd _ (.bool false) (.slice none 0 0) (.slice none 0 0) _).alloc _).drew));have aG:W0.heap.size<=W0.heap.size:=(dG);(try have bc:=ag.lt);(with_reducible refine (zaO _).mono ?_);rintro e w1 ⟨rfl,aS⟩;have gb:=bS gb aS;have dj:=aS.size;(try have ag:=ag.to aS);(try have bn:=ag.lt);(try (have aR:=ag;obtain ⟨bo,bq,bs,bt,bu,bv⟩:=aR))))
  all_goals (go_wp2_with fail;go_meet)
  all_goals refine ⟨?_,rfl⟩
  all_goals first
   | (repeat' (first|(with_reducible exact gb)|(with_reducible refine Below.drew ?_)|(with_reducible refine bS ?_ (bN _ _))|(with_reducible refine bT ?_ ?_ _ _ _)|(with_reducible exact aG)|(with_reducible exact aH)|omega))
 case rest =>
 obtain ⟨hc0,rfl⟩:=hcut
 clear ae ai af ak ah al az aE aA aF aP be aQ bf e0 e1 e2 e3 e4 o0 o1 o2 q0 q1 q2
 have gb:=hc0
 obtain ⟨ae,af,ah,az,aA,aP,aQ⟩:=aq.out _ gb
 obtain ⟨ai,ak,al,aE,aF,be,bf⟩:=cf.out _ gb
 obtain z0:=cg.out _ gb
 obtain ⟨e0,e1,e2,e3,e4⟩:=(i1.to gb)
 obtain ⟨o0,o1,o2,q0,q1,q2⟩:=(i2.to gb)
 clear hgb
 obtain ⟨W1,aJ⟩:∃ W,wc=W:=⟨_,rfl⟩
 subst aJ
 replace i0:=i0.to gb
 replace i1:=i1.to gb
 replace i2:=i2.to gb
 replace zb:=bS zb gb
 have HXwc:=Lib.hid (show ∀ W',Below wc.heap.size wc W'->(Bx7 W' w.heap.size (.int .i64 5) (.int .i64 (T:Int)) (.int .i64 xa) (.int .i64 xb) (.bool ng) (.slice a0 n0 c0) (.slice a1 n1 c1)) from fun W' hb => by
   apply bx7 hb
   all_goals first|assumption|assumption)
 replace gb:=Below.refl wc.heap.size wc
 go_wp2_with fail
 go_ret
 exact ⟨rfl,bS zb gb⟩

theorem zgB (mB g N:Nat) (u vJ:Value) (rows cols:Int) (T:Nat) (xa xb:Int) (ng:Bool) (vn vd:Value) (ln ld:List Nat) (d0 d1 d2:Value)  (w:World) (hw:IsF w vn vd ln ld) (hm:zE w mB g N u vJ rows cols) (hN:N<=100000) (hT:T<N) (ho:zV w g (T*3) d0 d1 d2) (hcall:∀ V,Below w.heap.size w V->Calls Tryz.prog 98 #[.pointer (some ⟨mB,0,none⟩),.agg #[.int .i64 7,.int .i64 (T:Int),.int .i64 xa,.int .i64 xb,.bool ng,vn,vd]] V (fun e w' => e=.returned (.tuple #[aggR false (.slice none 0 0) (.slice none 0 0),.int .i64 3])/\Below V.heap.size V w'))  :
  Calls Tryz.prog 39 #[.pointer (some ⟨mB,0,none⟩),.agg #[.int .i64 7,.int .i64 (T:Int),.int .i64 xa,.int .i64 xb,.bool ng,vn,vd]] w (fun e w' => e=.returned (.int .i64 3)/\Below w.heap.size w w'):=by
 obtain ⟨a0,n0,c0,rfl,H0,hm0⟩:=hw.1.open
 obtain ⟨a1,n1,c1,rfl,H1,hm1⟩:=hw.2.open
 have hTi:(T:Int)<(N:Int):=by omega
 have lm:=hm.lt
 have lo:=ho.lt
 have HC:=Lib.hid hcall
 clear hcall
 go_enter Tryz.func39,Tryz.ntmps39
 go_wp2_with fail
 obtain ⟨W0,ap⟩:∃ W0,w.alloc (.cells #[.int .i64 7,.int .i64 (T:Int),.int .i64 xa,.int .i64 xb,.bool ng,.slice a0 n0 c0,.slice a1 n1 c1] 49)=W0:=⟨_,rfl⟩
 have aq:=Lib.hid (show ∀ W',Below W0.heap.size W0 W'->(W'.cell? ⟨w.heap.size,0,none⟩=some (.int .i64 7)/\W'.cell? ⟨w.heap.size,1,none⟩=some (.int .i64 (T:Int))/\W'.cell? ⟨w.heap.size,2,none⟩=some (.int .i64 xa)/\W'.cell? ⟨w.heap.size,3,none⟩=some (.int .i64 xb)/\W'.cell? ⟨w.heap.size,4,none⟩=some (.bool ng)/\W'.cell? ⟨w.heap.size,5,none⟩=some (.slice a0 n0 c0)/\W'.cell? ⟨w.heap.size,6,none⟩=some (.slice a1 n1 c1)) from fun W' hb =>
  by and_intros <;> exact kc hb (by first|assumption|(rw [<- ap];simp [go_sem])))
 have cf:=Lib.hid (show ∀ W',Below W0.heap.size W0 W'->(W'.frozen? ⟨w.heap.size,0,none⟩=false/\W'.frozen? ⟨w.heap.size,1,none⟩=false/\W'.frozen? ⟨w.heap.size,2,none⟩=false/\W'.frozen? ⟨w.heap.size,3,none⟩=false/\W'.frozen? ⟨w.heap.size,4,none⟩=false/\W'.frozen? ⟨w.heap.size,5,none⟩=false/\W'.frozen? ⟨w.heap.size,6,none⟩=false) from fun W' hb =>
  by and_intros <;> refine (hb.frozen ?_).trans ?_ <;> first|assumption|(rw [<- ap];simp [go_sem])|(rw [<- ap];simp <;> omega))
 have cg:=Lib.hid (show ∀ W',Below W0.heap.size W0 W'->(w.heap.size<W'.heap.size) from fun W' hb =>
  Nat.lt_of_lt_of_le (by rw [<- ap];simp <;> omega) hb.size)
 have zb:Below w.heap.size w W0:=by rw [<- ap];exact bN _ _
 rw [ap]
 clear ap
 have i0:=hw.to zb
 have i1:=hm.to zb
 have i2:=ho.to zb
 have gb:Below W0.heap.size W0 W0:=Below.refl _ _
 obtain ⟨ae,af,ah,az,aA,aP,aQ⟩:=aq.out _ gb
 obtain ⟨ai,ak,al,aE,aF,be,bf⟩:=cf.out _ gb
 obtain z0:=cg.out _ gb
 obtain ⟨e0,e1,e2,e3,e4⟩:=(i1.to gb)
 obtain ⟨o0,o1,o2,q0,q1,q2⟩:=(i2.to gb)
 go_wp2_with fail
 have htab:=tab_7
 have hgb:=gb
 go_upto_region 4 with fail
 go_cut [6] from 28 (fun s6 wx => Below W0.heap.size W0 wx/\s6=.int .i64 3)
 case first =>
  go_region_held3 (fun W' => W'.cell? ⟨w.heap.size,0,none⟩=some (.int .i64 7)/\W'.cell? ⟨w.heap.size,1,none⟩=some (.int .i64 (T:Int))/\W'.cell? ⟨w.heap.size,2,none⟩=some (.int .i64 xa)/\W'.cell? ⟨w.heap.size,3,none⟩=some (.int .i64 xb)/\W'.cell? ⟨w.heap.size,4,none⟩=some (.bool ng)/\W'.cell? ⟨w.heap.size,5,none⟩=some (.slice a0 n0 c0)/\W'.cell? ⟨w.heap.size,6,none⟩=some (.slice a1 n1 c1)) (first|(with_reducible exact aq.out _ gb)|((with_reducible refine aq.out _ ?_);repeat' (first|(with_reducible exact gb)|(with_reducible refine Below.drew ?_)|(with_reducible refine bS ?_ (bN _ _))|(with_reducible refine bT ?_ ?_ _ _ _)|(with_reducible exact aG)|(with_reducible exact aH)|omega))) (first
   | (go_at_call 98;(refine zg w1 (by with_reducible first|exact Below.refl _ _|exact bN _ _) ?_);intro V2 dE bV;have dY:=bV.size;have dH:=gb.size;have gb:=bS gb bV;(try have ag:=ag.to bV);(try have aI:Tri V2 (w1.heap.size) (.bool false) (.slice none 0 0) (.slice none 0 0):=(by rw [dE];with_reducible first|exact zd _ (.bool false) (.slice none 0 0) (.slice none 0 0) _|exact (zd _ (.bool false) (.slice none 0 0) (.slice none 0 0) _).alloc _));have aH:W0.heap.size<=w1.heap.size:=(dH);(try have aN:=ag.lt);(try have aO:=aI.lt);(with_reducible refine (HC.out _ (bS zb gb)).mono ?_);rintro e w2 ⟨rfl,aM⟩;have gb:=bS gb aM;have dF:=aM.size;(try have ag:=ag.to aM);(try have aI:=aI.to aM);(try have b5:=ag.lt);(try have b6:=aI.lt);(try (have aR:=ag;obtain ⟨bo,bq,bs,bt,bu,bv⟩:=aR));(try (have bQ:=aI;obtain ⟨ci,ck,cl,cm,cn,cq⟩:=bQ)))
   | (go_at_call 65;(refine zg W0 (by with_reducible first|exact (Below.refl _ _).drew|exact (bN _ _).drew) ?_);intro V1 dD ch;have dX:=ch.size;have dG:=gb.size;have gb:=bS gb ch;(try have ag:Tri V1 (W0.heap.size) (.bool false) (.slice none 0 0) (.slice none 0 0):=(by rw [dD];with_reducible first|exact (zd _ (.bool false) (.slice none 0 0) (.slice none 0 0) _).drew|exact ((zd _ (.bool false) (.slice none 0 0) (.slice none 0 0) _).alloc _).drew));have aG:W0.heap.size<=W0.heap.size:=(dG);(try have bc:=ag.lt);(with_reducible refine (zaO _).mono ?_);rintro e w1 ⟨rfl,aS⟩;have gb:=bS gb aS;have dj:=aS.size;(try have ag:=ag.to aS);(try have bn:=ag.lt);(try (have aR:=ag;obtain ⟨bo,bq,bs,bt,bu,bv⟩:=aR))))
  all_goals (go_wp2_with fail;go_meet)
  all_goals refine ⟨?_,rfl⟩
  all_goals first
   | (repeat' (first|(with_reducible exact gb)|(with_reducible refine Below.drew ?_)|(with_reducible refine bS ?_ (bN _ _))|(with_reducible refine bT ?_ ?_ _ _ _)|(with_reducible exact aG)|(with_reducible exact aH)|omega))
 case rest =>
 obtain ⟨hc0,rfl⟩:=hcut
 clear ae ai af ak ah al az aE aA aF aP be aQ bf e0 e1 e2 e3 e4 o0 o1 o2 q0 q1 q2
 have gb:=hc0
 obtain ⟨ae,af,ah,az,aA,aP,aQ⟩:=aq.out _ gb
 obtain ⟨ai,ak,al,aE,aF,be,bf⟩:=cf.out _ gb
 obtain z0:=cg.out _ gb
 obtain ⟨e0,e1,e2,e3,e4⟩:=(i1.to gb)
 obtain ⟨o0,o1,o2,q0,q1,q2⟩:=(i2.to gb)
 clear hgb
 obtain ⟨W1,aJ⟩:∃ W,wc=W:=⟨_,rfl⟩
 subst aJ
 replace i0:=i0.to gb
 replace i1:=i1.to gb
 replace i2:=i2.to gb
 replace zb:=bS zb gb
 have HXwc:=Lib.hid (show ∀ W',Below wc.heap.size wc W'->(Bx7 W' w.heap.size (.int .i64 7) (.int .i64 (T:Int)) (.int .i64 xa) (.int .i64 xb) (.bool ng) (.slice a0 n0 c0) (.slice a1 n1 c1)) from fun W' hb => by
   apply bx7 hb
   all_goals first|assumption|assumption)
 replace gb:=Below.refl wc.heap.size wc
 go_wp2_with fail
 go_ret
 exact ⟨rfl,bS zb gb⟩

theorem zgC (mB g N:Nat) (u vJ:Value) (rows cols:Int) (T:Nat) (xa xb:Int) (ng:Bool) (vn vd:Value) (ln ld:List Nat) (d0 d1 d2:Value)  (w:World) (hw:IsF w vn vd ln ld) (hm:zE w mB g N u vJ rows cols) (hN:N<=100000) (hT:T<N) (ho:zV w g (T*3) d0 d1 d2) (hcall:∀ V,Below w.heap.size w V->Calls Tryz.prog 98 #[.pointer (some ⟨mB,0,none⟩),.agg #[.int .i64 7,.int .i64 (T:Int),.int .i64 xa,.int .i64 xb,.bool ng,vn,vd]] V (fun e w' => e=.returned (.tuple #[aggR false (.slice none 0 0) (.slice none 0 0),.int .i64 4])/\Below V.heap.size V w'))  :
  Calls Tryz.prog 39 #[.pointer (some ⟨mB,0,none⟩),.agg #[.int .i64 7,.int .i64 (T:Int),.int .i64 xa,.int .i64 xb,.bool ng,vn,vd]] w (fun e w' => e=.returned (.int .i64 4)/\Below w.heap.size w w'):=by
 obtain ⟨a0,n0,c0,rfl,H0,hm0⟩:=hw.1.open
 obtain ⟨a1,n1,c1,rfl,H1,hm1⟩:=hw.2.open
 have hTi:(T:Int)<(N:Int):=by omega
 have lm:=hm.lt
 have lo:=ho.lt
 have HC:=Lib.hid hcall
 clear hcall
 go_enter Tryz.func39,Tryz.ntmps39
 go_wp2_with fail
 obtain ⟨W0,ap⟩:∃ W0,w.alloc (.cells #[.int .i64 7,.int .i64 (T:Int),.int .i64 xa,.int .i64 xb,.bool ng,.slice a0 n0 c0,.slice a1 n1 c1] 49)=W0:=⟨_,rfl⟩
 have aq:=Lib.hid (show ∀ W',Below W0.heap.size W0 W'->(W'.cell? ⟨w.heap.size,0,none⟩=some (.int .i64 7)/\W'.cell? ⟨w.heap.size,1,none⟩=some (.int .i64 (T:Int))/\W'.cell? ⟨w.heap.size,2,none⟩=some (.int .i64 xa)/\W'.cell? ⟨w.heap.size,3,none⟩=some (.int .i64 xb)/\W'.cell? ⟨w.heap.size,4,none⟩=some (.bool ng)/\W'.cell? ⟨w.heap.size,5,none⟩=some (.slice a0 n0 c0)/\W'.cell? ⟨w.heap.size,6,none⟩=some (.slice a1 n1 c1)) from fun W' hb =>
  by and_intros <;> exact kc hb (by first|assumption|(rw [<- ap];simp [go_sem])))
 have cf:=Lib.hid (show ∀ W',Below W0.heap.size W0 W'->(W'.frozen? ⟨w.heap.size,0,none⟩=false/\W'.frozen? ⟨w.heap.size,1,none⟩=false/\W'.frozen? ⟨w.heap.size,2,none⟩=false/\W'.frozen? ⟨w.heap.size,3,none⟩=false/\W'.frozen? ⟨w.heap.size,4,none⟩=false/\W'.frozen? ⟨w.heap.size,5,none⟩=false/\W'.frozen? ⟨w.heap.size,6,none⟩=false) from fun W' hb =>
  by and_intros <;> refine (hb.frozen ?_).trans ?_ <;> first|assumption|(rw [<- ap];simp [go_sem])|(rw [<- ap];simp <;> omega))
 have cg:=Lib.hid (show ∀ W',Below W0.heap.size W0 W'->(w.heap.size<W'.heap.size) from fun W' hb =>
  Nat.lt_of_lt_of_le (by rw [<- ap];simp <;> omega) hb.size)
 have zb:Below w.heap.size w W0:=by rw [<- ap];exact bN _ _
 rw [ap]
 clear ap
 have i0:=hw.to zb
 have i1:=hm.to zb
 have i2:=ho.to zb
 have gb:Below W0.heap.size W0 W0:=Below.refl _ _
 obtain ⟨ae,af,ah,az,aA,aP,aQ⟩:=aq.out _ gb
 obtain ⟨ai,ak,al,aE,aF,be,bf⟩:=cf.out _ gb
 obtain z0:=cg.out _ gb
 obtain ⟨e0,e1,e2,e3,e4⟩:=(i1.to gb)
 obtain ⟨o0,o1,o2,q0,q1,q2⟩:=(i2.to gb)
 go_wp2_with fail
 have htab:=tab_7
 have hgb:=gb
 go_upto_region 4 with fail
 go_cut [6] from 28 (fun s6 wx => Below W0.heap.size W0 wx/\s6=.int .i64 4)
 case first =>
  go_region_held3 (fun W' => W'.cell? ⟨w.heap.size,0,none⟩=some (.int .i64 7)/\W'.cell? ⟨w.heap.size,1,none⟩=some (.int .i64 (T:Int))/\W'.cell? ⟨w.heap.size,2,none⟩=some (.int .i64 xa)/\W'.cell? ⟨w.heap.size,3,none⟩=some (.int .i64 xb)/\W'.cell? ⟨w.heap.size,4,none⟩=some (.bool ng)/\W'.cell? ⟨w.heap.size,5,none⟩=some (.slice a0 n0 c0)/\W'.cell? ⟨w.heap.size,6,none⟩=some (.slice a1 n1 c1)) (first|(with_reducible exact aq.out _ gb)|((with_reducible refine aq.out _ ?_);repeat' (first|(with_reducible exact gb)|(with_reducible refine Below.drew ?_)|(with_reducible refine bS ?_ (bN _ _))|(with_reducible refine bT ?_ ?_ _ _ _)|(with_reducible exact aG)|(with_reducible exact aH)|omega))) (first
   | (go_at_call 98;(refine zg w1 (by with_reducible first|exact Below.refl _ _|exact bN _ _) ?_);intro V2 dE bV;have dY:=bV.size;have dH:=gb.size;have gb:=bS gb bV;(try have ag:=ag.to bV);(try have aI:Tri V2 (w1.heap.size) (.bool false) (.slice none 0 0) (.slice none 0 0):=(by rw [dE];with_reducible first|exact zd _ (.bool false) (.slice none 0 0) (.slice none 0 0) _|exact (zd _ (.bool false) (.slice none 0 0) (.slice none 0 0) _).alloc _));have aH:W0.heap.size<=w1.heap.size:=(dH);(try have aN:=ag.lt);(try have aO:=aI.lt);(with_reducible refine (HC.out _ (bS zb gb)).mono ?_);rintro e w2 ⟨rfl,aM⟩;have gb:=bS gb aM;have dF:=aM.size;(try have ag:=ag.to aM);(try have aI:=aI.to aM);(try have b5:=ag.lt);(try have b6:=aI.lt);(try (have aR:=ag;obtain ⟨bo,bq,bs,bt,bu,bv⟩:=aR));(try (have bQ:=aI;obtain ⟨ci,ck,cl,cm,cn,cq⟩:=bQ)))
   | (go_at_call 65;(refine zg W0 (by with_reducible first|exact (Below.refl _ _).drew|exact (bN _ _).drew) ?_);intro V1 dD ch;have dX:=ch.size;have dG:=gb.size;have gb:=bS gb ch;(try have ag:Tri V1 (W0.heap.size) (.bool false) (.slice none 0 0) (.slice none 0 0):=(by rw [dD];with_reducible first|exact (zd _ (.bool false) (.slice none 0 0) (.slice none 0 0) _).drew|exact ((zd _ (.bool false) (.slice none 0 0) (.slice none 0 0) _).alloc _).drew));have aG:W0.heap.size<=W0.heap.size:=(dG);(try have bc:=ag.lt);(with_reducible refine (zaO _).mono ?_);rintro e w1 ⟨rfl,aS⟩;have gb:=bS gb aS;have dj:=aS.size;(try have ag:=ag.to aS);(try have bn:=ag.lt);(try (have aR:=ag;obtain ⟨bo,bq,bs,bt,bu,bv⟩:=aR))))
  all_goals (go_wp2_with fail;go_meet)
  all_goals refine ⟨?_,rfl⟩
  all_goals first
   | (repeat' (first|(with_reducible exact gb)|(with_reducible refine Below.drew ?_)|(with_reducible refine bS ?_ (bN _ _))|(with_reducible refine bT ?_ ?_ _ _ _)|(with_reducible exact aG)|(with_reducible exact aH)|omega))
 case rest =>
 obtain ⟨hc0,rfl⟩:=hcut
 clear ae ai af ak ah al az aE aA aF aP be aQ bf e0 e1 e2 e3 e4 o0 o1 o2 q0 q1 q2
 have gb:=hc0
 obtain ⟨ae,af,ah,az,aA,aP,aQ⟩:=aq.out _ gb
 obtain ⟨ai,ak,al,aE,aF,be,bf⟩:=cf.out _ gb
 obtain z0:=cg.out _ gb
 obtain ⟨e0,e1,e2,e3,e4⟩:=(i1.to gb)
 obtain ⟨o0,o1,o2,q0,q1,q2⟩:=(i2.to gb)
 clear hgb
 obtain ⟨W1,aJ⟩:∃ W,wc=W:=⟨_,rfl⟩
 subst aJ
 replace i0:=i0.to gb
 replace i1:=i1.to gb
 replace i2:=i2.to gb
 replace zb:=bS zb gb
 have HXwc:=Lib.hid (show ∀ W',Below wc.heap.size wc W'->(Bx7 W' w.heap.size (.int .i64 7) (.int .i64 (T:Int)) (.int .i64 xa) (.int .i64 xb) (.bool ng) (.slice a0 n0 c0) (.slice a1 n1 c1)) from fun W' hb => by
   apply bx7 hb
   all_goals first|assumption|assumption)
 replace gb:=Below.refl wc.heap.size wc
 go_wp2_with fail
 go_ret
 exact ⟨rfl,bS zb gb⟩

theorem zkq (mB g N h nJ cJ:Nat) (u:Value) (rows cols:Int) (T:Nat) (xb:Int) (ng:Bool) (vn vd:Value) (ln ld:List Nat) (d0 d1 d2:Value) (R1:Nat) (nr1:Bool) (vr1 ur1:Value) {x:Rat}  (w:World) (hw:IsF w vn vd ln ld) (hm:zE w mB g N u (.slice (some ⟨h,0,none⟩) nJ cJ) rows cols) (hN:N<=100000) (hJ:nJ<=100000) (hT:T<nJ) (ho:zV w h (T*3) d0 d1 d2) (hr1:R1<N) (tr1:zbu w g (R1*3) (.bool nr1) vr1 ur1) (qr1:IsK w nr1 vr1 ur1 x) (nh1:h≠g) (nh2:h≠mB)  :
  Calls Tryz.prog 39 #[.pointer (some ⟨mB,0,none⟩),.agg #[.int .i64 10,.int .i64 (T:Int),.int .i64 (R1:Int),.int .i64 xb,.bool ng,vn,vd]] w (zcm w h (T*3) x):=by
 obtain ⟨a0,n0,c0,rfl,H0,hm0⟩:=hw.1.open
 obtain ⟨a1,n1,c1,rfl,H1,hm1⟩:=hw.2.open
 have qq:=qr1.1
 have Hx1:=zaG qq
 obtain ⟨ra1,rn1,rc1,rfl,RH1,rm1⟩:=qr1.1.1.open
 obtain ⟨sa1,sn1,sc1,rfl,SH1,sm1⟩:=qr1.1.2.1.open
 have ri1:(R1:Int)<(N:Int):=by omega
 have ti1:(T:Int)<(nJ:Int):=by omega
 have lm:=hm.lt
 have lt1:=tr1.lt
 have lo:=ho.lt
 have m1:=Ne.symm nh1
 have m2:=Ne.symm nh2
 have m3:w.heap.size≠h:=by omega
 go_enter Tryz.func39,Tryz.ntmps39
 go_wp2_with fail
 obtain ⟨W0,ap⟩:∃ W0,w.alloc (.cells #[.int .i64 10,.int .i64 (T:Int),.int .i64 (R1:Int),.int .i64 xb,.bool ng,.slice a0 n0 c0,.slice a1 n1 c1] 49)=W0:=⟨_,rfl⟩
 have aq:=Lib.hid (show ∀ W',Below W0.heap.size W0 W'->(Bx7 W' w.heap.size (.int .i64 10) (.int .i64 (T:Int)) (.int .i64 (R1:Int)) (.int .i64 xb) (.bool ng) (.slice a0 n0 c0) (.slice a1 n1 c1)) from fun W' hb => by
   apply bx7 hb
   all_goals first|assumption|(rw [<- ap];simp [go_sem]))
 have zb:Below w.heap.size w W0:=by rw [<- ap];exact bN _ _
 rw [ap]
 clear ap
 have i0:=hw.to zb
 have i1:=hm.to zb
 have i2:=tr1.to zb
 have i3:=qq.to zb
 have i4:=ho.to zb
 have gb:Below W0.heap.size W0 W0:=Below.refl _ _
 obtain ⟨z0,ae,af,ah,az,aA,aP,aQ,ai,ak,al,aE,aF,be,bf⟩:=aq.out _ gb
 obtain ⟨e0,e1,e2,e3,e4⟩:=(i1.to gb)
 obtain ⟨t10,t11,t12⟩:=(i2.to gb)
 obtain ⟨o0,o1,o2,q0,q1,q2⟩:=(i4.to gb)
 go_wp2_with fail
 go_region_held3 (fun W' => W'.cell? ⟨w.heap.size,0,none⟩=some (.int .i64 10)/\W'.cell? ⟨w.heap.size,1,none⟩=some (.int .i64 (T:Int))/\W'.cell? ⟨w.heap.size,2,none⟩=some (.int .i64 (R1:Int))/\W'.cell? ⟨w.heap.size,3,none⟩=some (.int .i64 xb)/\W'.cell? ⟨w.heap.size,4,none⟩=some (.bool ng)/\W'.cell? ⟨w.heap.size,5,none⟩=some (.slice a0 n0 c0)/\W'.cell? ⟨w.heap.size,6,none⟩=some (.slice a1 n1 c1)/\W'.cell? ⟨mB,1,none⟩=some (.slice (some ⟨g,0,none⟩) N N)/\W'.cell? ⟨mB,4,none⟩=some (.slice (some ⟨h,0,none⟩) nJ cJ)/\W'.cell? ⟨g,R1*3,none⟩=some (.bool nr1)/\W'.cell? ⟨g,R1*3+1,none⟩=some (.slice ra1 rn1 rc1)/\W'.cell? ⟨g,R1*3+2,none⟩=some (.slice sa1 sn1 sc1)) (first|(with_reducible exact ⟨ae,af,ah,az,aA,aP,aQ,e1,e4,t10,t11,t12⟩)|(with_reducible exact ⟨cP (cP (cP ae (.inl m3) _) (.inl m3) _) (.inl m3) _,cP (cP (cP af (.inl m3) _) (.inl m3) _) (.inl m3) _,cP (cP (cP ah (.inl m3) _) (.inl m3) _) (.inl m3) _,cP (cP (cP az (.inl m3) _) (.inl m3) _) (.inl m3) _,cP (cP (cP aA (.inl m3) _) (.inl m3) _) (.inl m3) _,cP (cP (cP aP (.inl m3) _) (.inl m3) _) (.inl m3) _,cP (cP (cP aQ (.inl m3) _) (.inl m3) _) (.inl m3) _,cP (cP (cP e1 (.inl m2) _) (.inl m2) _) (.inl m2) _,cP (cP (cP e4 (.inl m2) _) (.inl m2) _) (.inl m2) _,cP (cP (cP t10 (.inl m1) _) (.inl m1) _) (.inl m1) _,cP (cP (cP t11 (.inl m1) _) (.inl m1) _) (.inl m1) _,cP (cP (cP t12 (.inl m1) _) (.inl m1) _) (.inl m1) _⟩)|exact ⟨ae,af,ah,az,aA,aP,aQ,e1,e4,t10,t11,t12⟩) (first
  | (go_at_call 64;have gb:=gb.drew;(with_reducible refine (zcS nr1 _ _ _ _ _ (i3.to gb) x rfl Hx1).mono ?_);rintro e w1 ⟨ng1,a1_,n1_,c1_,p1_,m1_,k1_,rfl,g1,aS⟩;have gb:=bS gb aS;obtain ⟨z0,ae,af,ah,az,aA,aP,aQ,ai,ak,al,aE,aF,be,bf⟩:=aq.out _ gb;obtain ⟨e0,e1,e2,e3,e4⟩:=(i1.to gb);obtain ⟨t10,t11,t12⟩:=(i2.to gb);obtain ⟨o0,o1,o2,q0,q1,q2⟩:=(i4.to gb)))
 go_wp2_with fail
 go_ret
 exact ⟨_,_,_,_,rfl,bS zb gb,g1.isK,.inl rfl⟩

end Go.Proofs.YtkjcdnlpjldhaaaGreat

