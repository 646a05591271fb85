/-
  The texts Vm9, VmPushM, Vm9b, Vm9c, Vm9d, merged.
-/
import Derived.Test.YtkjcdnlpjldhaaaGreatK26
import Derived.Test.YtkjcdnlpjldhaaaGreatK11
import Derived.Deep.RegionHeld3
import Derived.FnLit
import Derived.Test.YtkjcdnlpjldhaaaGreatK20
set_option linter.unusedVariables false
set_option linter.unusedSimpArgs false
set_option maxRecDepth 100000
set_option maxHeartbeats 400000000
namespace Go.Proofs.YtkjcdnlpjldhaaaGreat
open Go.RowKit Tw
attribute [local go_sem ↓] Go.wp_at_zero Go.wp_at_succ

def zcQ (w:World) (b o:Nat) (q:Rat) (e:Ending) (w':World):Prop :=
 ∃ w2 ng v u,e=.returned (.int .i64 0)/\Below w.heap.size w w2/\IsK w2 ng v u q/\(w'=put3 w2 b o (.bool ng) v u\/w'=(put3 w2 b o (.bool ng) v u).drew)

theorem zbl  (w:World)  :
  Calls Tryz.prog 65 #[] w (fun e w' => e=.returned (.agg #[.func (.func 91) #[] #[],.func (.func 92) #[] #[],.func (.func 93) #[] #[],.func (.func 94) #[] #[],.func (.func 95) #[] #[],.func (.func 96) #[] #[],.func (.func 97) #[] #[],.func (.func 98) #[] #[],.func (.func 95) #[] #[],.func (.func 93) #[] #[]])/\Below w.heap.size w w'):=by
 go_enter Tryz.func65,Tryz.ntmps65
 go_wp2_with fail
 exact bodyPost_ret (v:=.agg #[.func (.func 91) #[] #[],.func (.func 92) #[] #[],.func (.func 93) #[] #[],.func (.func 94) #[] #[],.func (.func 95) #[] #[],.func (.func 96) #[] #[],.func (.func 97) #[] #[],.func (.func 98) #[] #[],.func (.func 95) #[] #[],.func (.func 93) #[] #[]]) (by simp [results,Tryz.results65,go_sem]) rfl ⟨rfl,bN _ _⟩

theorem tab_0 (w:World):(Instr.index 121 (.agg #[.func (.func 91) #[] #[],.func (.func 92) #[] #[],.func (.func 93) #[] #[],.func (.func 94) #[] #[],.func (.func 95) #[] #[],.func (.func 96) #[] #[],.func (.func 97) #[] #[],.func (.func 98) #[] #[],.func (.func 95) #[] #[],.func (.func 93) #[] #[]]) (.int .i64 0)).run Tryz.prog w=.ok (.func (.func 91) #[] #[]) w:=by
 kernel_rfl

theorem tab_1 (w:World):(Instr.index 121 (.agg #[.func (.func 91) #[] #[],.func (.func 92) #[] #[],.func (.func 93) #[] #[],.func (.func 94) #[] #[],.func (.func 95) #[] #[],.func (.func 96) #[] #[],.func (.func 97) #[] #[],.func (.func 98) #[] #[],.func (.func 95) #[] #[],.func (.func 93) #[] #[]]) (.int .i64 1)).run Tryz.prog w=.ok (.func (.func 92) #[] #[]) w:=by
 kernel_rfl

theorem tab_2 (w:World):(Instr.index 121 (.agg #[.func (.func 91) #[] #[],.func (.func 92) #[] #[],.func (.func 93) #[] #[],.func (.func 94) #[] #[],.func (.func 95) #[] #[],.func (.func 96) #[] #[],.func (.func 97) #[] #[],.func (.func 98) #[] #[],.func (.func 95) #[] #[],.func (.func 93) #[] #[]]) (.int .i64 2)).run Tryz.prog w=.ok (.func (.func 93) #[] #[]) w:=by
 kernel_rfl

theorem tab_3 (w:World):(Instr.index 121 (.agg #[.func (.func 91) #[] #[],.func (.func 92) #[] #[],.func (.func 93) #[] #[],.func (.func 94) #[] #[],.func (.func 95) #[] #[],.func (.func 96) #[] #[],.func (.func 97) #[] #[],.func (.func 98) #[] #[],.func (.func 95) #[] #[],.func (.func 93) #[] #[]]) (.int .i64 3)).run Tryz.prog w=.ok (.func (.func 94) #[] #[]) w:=by
 kernel_rfl

theorem tab_4 (w:World):(Instr.index 121 (.agg #[.func (.func 91) #[] #[],.func (.func 92) #[] #[],.func (.func 93) #[] #[],.func (.func 94) #[] #[],.func (.func 95) #[] #[],.func (.func 96) #[] #[],.func (.func 97) #[] #[],.func (.func 98) #[] #[],.func (.func 95) #[] #[],.func (.func 93) #[] #[]]) (.int .i64 4)).run Tryz.prog w=.ok (.func (.func 95) #[] #[]) w:=by
 kernel_rfl

theorem tab_5 (w:World):(Instr.index 121 (.agg #[.func (.func 91) #[] #[],.func (.func 92) #[] #[],.func (.func 93) #[] #[],.func (.func 94) #[] #[],.func (.func 95) #[] #[],.func (.func 96) #[] #[],.func (.func 97) #[] #[],.func (.func 98) #[] #[],.func (.func 95) #[] #[],.func (.func 93) #[] #[]]) (.int .i64 5)).run Tryz.prog w=.ok (.func (.func 96) #[] #[]) w:=by
 kernel_rfl

theorem tab_6 (w:World):(Instr.index 121 (.agg #[.func (.func 91) #[] #[],.func (.func 92) #[] #[],.func (.func 93) #[] #[],.func (.func 94) #[] #[],.func (.func 95) #[] #[],.func (.func 96) #[] #[],.func (.func 97) #[] #[],.func (.func 98) #[] #[],.func (.func 95) #[] #[],.func (.func 93) #[] #[]]) (.int .i64 6)).run Tryz.prog w=.ok (.func (.func 97) #[] #[]) w:=by
 kernel_rfl

theorem tab_7 (w:World):(Instr.index 121 (.agg #[.func (.func 91) #[] #[],.func (.func 92) #[] #[],.func (.func 93) #[] #[],.func (.func 94) #[] #[],.func (.func 95) #[] #[],.func (.func 96) #[] #[],.func (.func 97) #[] #[],.func (.func 98) #[] #[],.func (.func 95) #[] #[],.func (.func 93) #[] #[]]) (.int .i64 7)).run Tryz.prog w=.ok (.func (.func 98) #[] #[]) w:=by
 kernel_rfl

theorem tab_8 (w:World):(Instr.index 121 (.agg #[.func (.func 91) #[] #[],.func (.func 92) #[] #[],.func (.func 93) #[] #[],.func (.func 94) #[] #[],.func (.func 95) #[] #[],.func (.func 96) #[] #[],.func (.func 97) #[] #[],.func (.func 98) #[] #[],.func (.func 95) #[] #[],.func (.func 93) #[] #[]]) (.int .i64 8)).run Tryz.prog w=.ok (.func (.func 95) #[] #[]) w:=by
 kernel_rfl

theorem tab_9 (w:World):(Instr.index 121 (.agg #[.func (.func 91) #[] #[],.func (.func 92) #[] #[],.func (.func 93) #[] #[],.func (.func 94) #[] #[],.func (.func 95) #[] #[],.func (.func 96) #[] #[],.func (.func 97) #[] #[],.func (.func 98) #[] #[],.func (.func 95) #[] #[],.func (.func 93) #[] #[]]) (.int .i64 9)).run Tryz.prog w=.ok (.func (.func 93) #[] #[]) w:=by
 kernel_rfl

theorem zkV (mB g N:Nat) (u vJ:Value) (rows cols:Int) (T:Nat) (xa xb:Int) (ng:Bool) (vn vd:Value) (ln ld:List Nat) (d0 d1 d2:Value) {v:Rat}  (w:World) (hw:IsF w vn vd ln ld) (hm:zM w mB g N u vJ rows cols) (hN:N<=100000) (hT:T<N) (ho:zai w g (T*3) d0 d1 d2) (hs:szq v<=4096) (hcall:∀ V,Below w.heap.size w V->Calls Tryz.prog 91 #[.pointer (some ⟨mB,0,none⟩),.agg #[.int .i64 0,.int .i64 (T:Int),.int .i64 xa,.int .i64 xb,.bool ng,vn,vd]] V (zL V v))  :
  Calls Tryz.prog 39 #[.pointer (some ⟨mB,0,none⟩),.agg #[.int .i64 0,.int .i64 (T:Int),.int .i64 xa,.int .i64 xb,.bool ng,vn,vd]] w (zcQ w g (T*3) v):=by
 obtain ⟨a0,n0,c0,rfl,H0,hm0⟩:=hw.1.open
 obtain ⟨a1,n1,c1,rfl,H1,hm1⟩:=hw.2.open
 have hTi:(T:Int)<(N:Int):=by omega
 have lm:=hm.lt
 have lo:=ho.lt
 have Hs:=Lib.hid hs
 have HC:=Lib.hid hcall
 clear hs hcall
 go_enter Tryz.func39,Tryz.ntmps39
 go_wp2_with fail
 obtain ⟨W0,an⟩:∃ W0,w.alloc (.cells #[.int .i64 0,.int .i64 (T:Int),.int .i64 xa,.int .i64 xb,.bool ng,.slice a0 n0 c0,.slice a1 n1 c1] 49)=W0:=⟨_,rfl⟩
 have ap:=Lib.hid (show ∀ W',Below W0.heap.size W0 W'->(W'.cell? ⟨w.heap.size,0,none⟩=some (.int .i64 0)/\W'.cell? ⟨w.heap.size,1,none⟩=some (.int .i64 (T:Int))/\W'.cell? ⟨w.heap.size,2,none⟩=some (.int .i64 xa)/\W'.cell? ⟨w.heap.size,3,none⟩=some (.int .i64 xb)/\W'.cell? ⟨w.heap.size,4,none⟩=some (.bool ng)/\W'.cell? ⟨w.heap.size,5,none⟩=some (.slice a0 n0 c0)/\W'.cell? ⟨w.heap.size,6,none⟩=some (.slice a1 n1 c1)) from fun W' hb =>
  by and_intros <;> exact kc hb (by first|assumption|(rw [<- an];simp [go_sem])))
 have cE:=Lib.hid (show ∀ W',Below W0.heap.size W0 W'->(W'.frozen? ⟨w.heap.size,0,none⟩=false/\W'.frozen? ⟨w.heap.size,1,none⟩=false/\W'.frozen? ⟨w.heap.size,2,none⟩=false/\W'.frozen? ⟨w.heap.size,3,none⟩=false/\W'.frozen? ⟨w.heap.size,4,none⟩=false/\W'.frozen? ⟨w.heap.size,5,none⟩=false/\W'.frozen? ⟨w.heap.size,6,none⟩=false) from fun W' hb =>
  by and_intros <;> refine (hb.frozen ?_).trans ?_ <;> first|assumption|(rw [<- an];simp [go_sem])|(rw [<- an];simp <;> omega))
 have cF:=Lib.hid (show ∀ W',Below W0.heap.size W0 W'->(w.heap.size<W'.heap.size) from fun W' hb =>
  Nat.lt_of_lt_of_le (by rw [<- an];simp <;> omega) hb.size)
 have zb:Below w.heap.size w W0:=by rw [<- an];exact bN _ _
 rw [an]
 clear an
 have i0:=hw.to zb
 have i1:=hm.to zb
 have i2:=ho.to zb
 have gb:Below W0.heap.size W0 W0:=Below.refl _ _
 obtain ⟨ae,af,ag,az,aA,bf,bh⟩:=ap.out _ gb
 obtain ⟨ah,ak,al,aJ,aK,bm,bn⟩:=cE.out _ gb
 obtain z0:=cF.out _ gb
 obtain ⟨e0,e1,e2,e3,e4⟩:=(i1.to gb)
 obtain ⟨o0,o1,o2,q0,q1,q2⟩:=(i2.to gb)
 go_wp2_with fail
 have htab:=tab_0
 have hgb:=gb
 go_upto_region 4 with fail
 go_cut [5,6] from 28 (fun s5 s6 wx => zcg W0 (v) s5 wx/\s6=.int .i64 0)
 case first =>
  go_region_held3 (fun W' => W'.cell? ⟨w.heap.size,0,none⟩=some (.int .i64 0)/\W'.cell? ⟨w.heap.size,1,none⟩=some (.int .i64 (T:Int))/\W'.cell? ⟨w.heap.size,2,none⟩=some (.int .i64 xa)/\W'.cell? ⟨w.heap.size,3,none⟩=some (.int .i64 xb)/\W'.cell? ⟨w.heap.size,4,none⟩=some (.bool ng)/\W'.cell? ⟨w.heap.size,5,none⟩=some (.slice a0 n0 c0)/\W'.cell? ⟨w.heap.size,6,none⟩=some (.slice a1 n1 c1)) (first|(with_reducible exact ap.out _ gb)|((with_reducible refine ap.out _ ?_);repeat' (first|(with_reducible exact gb)|(with_reducible refine Below.drew ?_)|(with_reducible refine bS ?_ (bN _ _))|(with_reducible refine bT ?_ ?_ _ _ _)|(with_reducible exact aL)|(with_reducible exact aM)|omega))) (first
   | (go_at_call 91;(refine zl w1 (by with_reducible first|exact Below.refl _ _|exact bN _ _) ?_);intro V2 dY ch;have ep:=ch.size;have dH:=gb.size;have gb:=bS gb ch;(try have am:=am.to ch);(try have aN:Tri V2 (w1.heap.size) (.bool false) (.slice none 0 0) (.slice none 0 0):=(by rw [dY];with_reducible first|exact zi _ (.bool false) (.slice none 0 0) (.slice none 0 0) _|exact (zi _ (.bool false) (.slice none 0 0) (.slice none 0 0) _).alloc _));have aM:W0.heap.size<=w1.heap.size:=(dH);(try have a9:=am.lt);(try have bc:=aN.lt);(with_reducible refine (HC.out _ (bS zb gb)).mono ?_);rintro e w2 ⟨ng2,a2_,n2_,c2_,p2_,m2_,k2_,rfl,g2,aZ⟩;have gb:=bS gb aZ;have dZ:=aZ.size;(try have am:=am.to aZ);(try have aN:=aN.to aZ);(try have cn:=am.lt);(try have cq:=aN.lt);(try (have bj:=am;obtain ⟨bx,bA,bB,bE,bH,bJ⟩:=bj));(try (have cf:=aN;obtain ⟨cH,cI,cK,cL,cM,cN⟩:=cf)))
   | (go_at_call 65;(refine zl W0 (by with_reducible first|exact (Below.refl _ _).drew|exact (bN _ _).drew) ?_);intro V1 dX cG;have eo:=cG.size;have dG:=gb.size;have gb:=bS gb cG;(try have am:Tri V1 (W0.heap.size) (.bool false) (.slice none 0 0) (.slice none 0 0):=(by rw [dX];with_reducible first|exact (zi _ (.bool false) (.slice none 0 0) (.slice none 0 0) _).drew|exact ((zi _ (.bool false) (.slice none 0 0) (.slice none 0 0) _).alloc _).drew));have aL:W0.heap.size<=W0.heap.size:=(dG);(try have bk:=am.lt);(with_reducible refine (zbl _).mono ?_);rintro e w1 ⟨rfl,be⟩;have gb:=bS gb be;have dD:=be.size;(try have am:=am.to be);(try have bw:=am.lt);(try (have bj:=am;obtain ⟨bx,bA,bB,bE,bH,bJ⟩:=bj))))
  all_goals (go_wp2_with fail;go_meet)
  all_goals refine ⟨?_,rfl⟩
  all_goals first
   | (with_reducible exact zO am g2 (.inl a9) gb aL)
   | (with_reducible exact zO aN g2 (.inl bc) gb aM)
   | (with_reducible exact zbq g2 gb)
 case rest =>
 obtain ⟨⟨B3,ng2,a2_,n2_,c2_,p2_,m2_,k2_,lo3,hi3,rfl,hB3,T3,g2,hc3⟩,rfl⟩:=hcut
 clear ae ah af ak ag al az aJ aA aK bf bm bh bn e0 e1 e2 e3 e4 o0 o1 o2 q0 q1 q2
 have gb:=hc3
 obtain ⟨ae,af,ag,az,aA,bf,bh⟩:=ap.out _ gb
 obtain ⟨ah,ak,al,aJ,aK,bm,bn⟩:=cE.out _ gb
 obtain z0:=cF.out _ gb
 obtain ⟨e0,e1,e2,e3,e4⟩:=(i1.to gb)
 obtain ⟨o0,o1,o2,q0,q1,q2⟩:=(i2.to gb)
 have z3:=T3.lt
 obtain ⟨cZ,da,dj,de,dg,dk⟩:=T3
 clear hgb
 obtain ⟨W1,aO⟩:∃ W,wc=W:=⟨_,rfl⟩
 subst aO
 replace i0:=i0.to gb
 replace i1:=i1.to gb
 replace i2:=i2.to gb
 replace zb:=bS zb gb
 have HXwc:=Lib.hid (show ∀ W',Below wc.heap.size wc W'->(Bx7 W' w.heap.size (.int .i64 0) (.int .i64 (T:Int)) (.int .i64 xa) (.int .i64 xb) (.bool ng) (.slice a0 n0 c0) (.slice a1 n1 c1)/\Bx3 W' B3 (.bool ng2) (.slice a2_ n2_ c2_) (.slice p2_ m2_ k2_)) from fun W' hb => by
   refine ⟨bx7 hb ?_ ?_ ?_ ?_ ?_ ?_ ?_ ?_ ?_ ?_ ?_ ?_ ?_ ?_,bx3 hb ?_ ?_ ?_ ?_ ?_ ?_⟩
   all_goals first|assumption|assumption)
 replace gb:=Below.refl wc.heap.size wc
 go_wp2_with fail
 obtain ⟨m,hm9⟩:∃ m:Nat,((max (za v.num.natAbs).length (za v.den).length:Nat))=m:=⟨_,rfl⟩
 have HM:=Lib.hid (show ((max (za v.num.natAbs).length (za v.den).length:Nat):Int)=(m:Int) by rw [hm9])
 have hm4:m<=4096:=by have:=Hs.out;unfold szq at this;rw [ze,ze] at hm9;omega
 have t4:decide (4096<m)=false:=decide_eq_false (by omega)
 have t5:decide ((4096:Int)<(m:Int))=false:=decide_eq_false (by omega)
 clear hm9 hm4
 refine (zar ng2 _ _ _ _ _ (g2.to gb).isF (m:Int) HM.out).mono ?_
 clear ae ah af ak ag al az aJ aA aK bf bm bh bn cZ de da dg dj dk e0 e1 e2 e3 e4 o0 o1 o2 q0 q1 q2
 rintro e w3 ⟨rfl,cl⟩
 replace gb:=bS gb cl
 obtain ⟨⟨z0,ae,af,ag,az,aA,bf,bh,ah,ak,al,aJ,aK,bm,bn⟩,⟨z3,cZ,da,dj,de,dg,dk⟩⟩:=HXwc.out _ gb
 obtain ⟨e0,e1,e2,e3,e4⟩:=(i1.to gb)
 obtain ⟨o0,o1,o2,q0,q1,q2⟩:=(i2.to gb)
 go_wp2_with fail
 go_region
 go_wp2_with fail
 go_ret
 exact ⟨_,_,_,_,rfl,bS zb gb,(g2.to gb).isK,.inr rfl⟩

end Go.Proofs.YtkjcdnlpjldhaaaGreat


namespace Go.Proofs.YtkjcdnlpjldhaaaGreat
open Go.RowKit Tw

section

variable {w w' wr w2 w4:World} {v u:Value} {base hi g cap:Nat} {qs:List Rat} {q:Rat} {xs:List Value} {ng:Bool} {a a':Option Addr} {n c n' c':Nat} {t:TypeId}

theorem zM.drew {B N:Nat} {rows cols:Int} (h:zM w B g N u v rows cols):zM w.drew B g N u v rows cols:=h.to (Below.refl _ _).drew

theorem zM.setJ {B N:Nat} {rows cols:Int} (h:zM w B g N u v rows cols) (x:Value):zM (w.setCell ⟨B,4,none⟩ x) B g N u x rows cols :=
 ⟨cP h.1 (.inr (by decide)) _,cP h.2.1 (.inr (by decide)) _,cP h.2.2.1 (.inr (by decide)) _,cP h.2.2.2.1 (.inr (by decide)) _,zh h.2.2.2.2 _⟩

theorem zM.grown {B N:Nat} {rows cols:Int} {row:Option Nat} (h:zM w B g N u v rows cols) (hg:w.grownBy w' row) (hne:row≠some B):zM w' B g N u v rows cols :=
 have f:∀ o,w'.cell? ⟨B,o,none⟩=w.cell? ⟨B,o,none⟩:=fun o => hg.cell_far ⟨B,o,none⟩ h.lt (fun e => hne e.symm)
 ⟨(f 0).trans h.1,(f 1).trans h.2.1,(f 2).trans h.2.2.1,(f 3).trans h.2.2.2.1,(f 4).trans h.2.2.2.2⟩

end

end Go.Proofs.YtkjcdnlpjldhaaaGreat


namespace Go.Proofs.YtkjcdnlpjldhaaaGreat
open Go.RowKit Tw
attribute [local go_sem ↓] Go.wp_at_zero Go.wp_at_succ

theorem zkW (mB g N:Nat) (u vJ:Value) (rows cols:Int) (T:Nat) (xa xb:Int) (ng:Bool) (vn vd:Value) (ln ld:List Nat) (d0 d1 d2:Value) {v:Rat}  (w:World) (hw:IsF w vn vd ln ld) (hm:zM w mB g N u vJ rows cols) (hN:N<=100000) (hT:T<N) (ho:zai w g (T*3) d0 d1 d2) (hs:szq v<=4096) (hcall:∀ V,Below w.heap.size w V->Calls Tryz.prog 92 #[.pointer (some ⟨mB,0,none⟩),.agg #[.int .i64 1,.int .i64 (T:Int),.int .i64 xa,.int .i64 xb,.bool ng,vn,vd]] V (zL V v))  :
  Calls Tryz.prog 39 #[.pointer (some ⟨mB,0,none⟩),.agg #[.int .i64 1,.int .i64 (T:Int),.int .i64 xa,.int .i64 xb,.bool ng,vn,vd]] w (zcQ w g (T*3) v):=by
 obtain ⟨a0,n0,c0,rfl,H0,hm0⟩:=hw.1.open
 obtain ⟨a1,n1,c1,rfl,H1,hm1⟩:=hw.2.open
 have hTi:(T:Int)<(N:Int):=by omega
 have lm:=hm.lt
 have lo:=ho.lt
 have Hs:=Lib.hid hs
 have HC:=Lib.hid hcall
 clear hs hcall
 go_enter Tryz.func39,Tryz.ntmps39
 go_wp2_with fail
 obtain ⟨W0,an⟩:∃ W0,w.alloc (.cells #[.int .i64 1,.int .i64 (T:Int),.int .i64 xa,.int .i64 xb,.bool ng,.slice a0 n0 c0,.slice a1 n1 c1] 49)=W0:=⟨_,rfl⟩
 have ap:=Lib.hid (show ∀ W',Below W0.heap.size W0 W'->(W'.cell? ⟨w.heap.size,0,none⟩=some (.int .i64 1)/\W'.cell? ⟨w.heap.size,1,none⟩=some (.int .i64 (T:Int))/\W'.cell? ⟨w.heap.size,2,none⟩=some (.int .i64 xa)/\W'.cell? ⟨w.heap.size,3,none⟩=some (.int .i64 xb)/\W'.cell? ⟨w.heap.size,4,none⟩=some (.bool ng)/\W'.cell? ⟨w.heap.size,5,none⟩=some (.slice a0 n0 c0)/\W'.cell? ⟨w.heap.size,6,none⟩=some (.slice a1 n1 c1)) from fun W' hb =>
  by and_intros <;> exact kc hb (by first|assumption|(rw [<- an];simp [go_sem])))
 have cE:=Lib.hid (show ∀ W',Below W0.heap.size W0 W'->(W'.frozen? ⟨w.heap.size,0,none⟩=false/\W'.frozen? ⟨w.heap.size,1,none⟩=false/\W'.frozen? ⟨w.heap.size,2,none⟩=false/\W'.frozen? ⟨w.heap.size,3,none⟩=false/\W'.frozen? ⟨w.heap.size,4,none⟩=false/\W'.frozen? ⟨w.heap.size,5,none⟩=false/\W'.frozen? ⟨w.heap.size,6,none⟩=false) from fun W' hb =>
  by and_intros <;> refine (hb.frozen ?_).trans ?_ <;> first|assumption|(rw [<- an];simp [go_sem])|(rw [<- an];simp <;> omega))
 have cF:=Lib.hid (show ∀ W',Below W0.heap.size W0 W'->(w.heap.size<W'.heap.size) from fun W' hb =>
  Nat.lt_of_lt_of_le (by rw [<- an];simp <;> omega) hb.size)
 have zb:Below w.heap.size w W0:=by rw [<- an];exact bN _ _
 rw [an]
 clear an
 have i0:=hw.to zb
 have i1:=hm.to zb
 have i2:=ho.to zb
 have gb:Below W0.heap.size W0 W0:=Below.refl _ _
 obtain ⟨ae,af,ag,az,aA,bf,bh⟩:=ap.out _ gb
 obtain ⟨ah,ak,al,aJ,aK,bm,bn⟩:=cE.out _ gb
 obtain z0:=cF.out _ gb
 obtain ⟨e0,e1,e2,e3,e4⟩:=(i1.to gb)
 obtain ⟨o0,o1,o2,q0,q1,q2⟩:=(i2.to gb)
 go_wp2_with fail
 have htab:=tab_1
 have hgb:=gb
 go_upto_region 4 with fail
 go_cut [5,6] from 28 (fun s5 s6 wx => zcg W0 (v) s5 wx/\s6=.int .i64 0)
 case first =>
  go_region_held3 (fun W' => W'.cell? ⟨w.heap.size,0,none⟩=some (.int .i64 1)/\W'.cell? ⟨w.heap.size,1,none⟩=some (.int .i64 (T:Int))/\W'.cell? ⟨w.heap.size,2,none⟩=some (.int .i64 xa)/\W'.cell? ⟨w.heap.size,3,none⟩=some (.int .i64 xb)/\W'.cell? ⟨w.heap.size,4,none⟩=some (.bool ng)/\W'.cell? ⟨w.heap.size,5,none⟩=some (.slice a0 n0 c0)/\W'.cell? ⟨w.heap.size,6,none⟩=some (.slice a1 n1 c1)) (first|(with_reducible exact ap.out _ gb)|((with_reducible refine ap.out _ ?_);repeat' (first|(with_reducible exact gb)|(with_reducible refine Below.drew ?_)|(with_reducible refine bS ?_ (bN _ _))|(with_reducible refine bT ?_ ?_ _ _ _)|(with_reducible exact aL)|(with_reducible exact aM)|omega))) (first
   | (go_at_call 92;(refine zl w1 (by with_reducible first|exact Below.refl _ _|exact bN _ _) ?_);intro V2 dY ch;have ep:=ch.size;have dH:=gb.size;have gb:=bS gb ch;(try have am:=am.to ch);(try have aN:Tri V2 (w1.heap.size) (.bool false) (.slice none 0 0) (.slice none 0 0):=(by rw [dY];with_reducible first|exact zi _ (.bool false) (.slice none 0 0) (.slice none 0 0) _|exact (zi _ (.bool false) (.slice none 0 0) (.slice none 0 0) _).alloc _));have aM:W0.heap.size<=w1.heap.size:=(dH);(try have a9:=am.lt);(try have bc:=aN.lt);(with_reducible refine (HC.out _ (bS zb gb)).mono ?_);rintro e w2 ⟨ng2,a2_,n2_,c2_,p2_,m2_,k2_,rfl,g2,aZ⟩;have gb:=bS gb aZ;have dZ:=aZ.size;(try have am:=am.to aZ);(try have aN:=aN.to aZ);(try have cn:=am.lt);(try have cq:=aN.lt);(try (have bj:=am;obtain ⟨bx,bA,bB,bE,bH,bJ⟩:=bj));(try (have cf:=aN;obtain ⟨cH,cI,cK,cL,cM,cN⟩:=cf)))
   | (go_at_call 65;(refine zl W0 (by with_reducible first|exact (Below.refl _ _).drew|exact (bN _ _).drew) ?_);intro V1 dX cG;have eo:=cG.size;have dG:=gb.size;have gb:=bS gb cG;(try have am:Tri V1 (W0.heap.size) (.bool false) (.slice none 0 0) (.slice none 0 0):=(by rw [dX];with_reducible first|exact (zi _ (.bool false) (.slice none 0 0) (.slice none 0 0) _).drew|exact ((zi _ (.bool false) (.slice none 0 0) (.slice none 0 0) _).alloc _).drew));have aL:W0.heap.size<=W0.heap.size:=(dG);(try have bk:=am.lt);(with_reducible refine (zbl _).mono ?_);rintro e w1 ⟨rfl,be⟩;have gb:=bS gb be;have dD:=be.size;(try have am:=am.to be);(try have bw:=am.lt);(try (have bj:=am;obtain ⟨bx,bA,bB,bE,bH,bJ⟩:=bj))))
  all_goals (go_wp2_with fail;go_meet)
  all_goals refine ⟨?_,rfl⟩
  all_goals first
   | (with_reducible exact zO am g2 (.inl a9) gb aL)
   | (with_reducible exact zO aN g2 (.inl bc) gb aM)
   | (with_reducible exact zbq g2 gb)
 case rest =>
 obtain ⟨⟨B3,ng2,a2_,n2_,c2_,p2_,m2_,k2_,lo3,hi3,rfl,hB3,T3,g2,hc3⟩,rfl⟩:=hcut
 clear ae ah af ak ag al az aJ aA aK bf bm bh bn e0 e1 e2 e3 e4 o0 o1 o2 q0 q1 q2
 have gb:=hc3
 obtain ⟨ae,af,ag,az,aA,bf,bh⟩:=ap.out _ gb
 obtain ⟨ah,ak,al,aJ,aK,bm,bn⟩:=cE.out _ gb
 obtain z0:=cF.out _ gb
 obtain ⟨e0,e1,e2,e3,e4⟩:=(i1.to gb)
 obtain ⟨o0,o1,o2,q0,q1,q2⟩:=(i2.to gb)
 have z3:=T3.lt
 obtain ⟨cZ,da,dj,de,dg,dk⟩:=T3
 clear hgb
 obtain ⟨W1,aO⟩:∃ W,wc=W:=⟨_,rfl⟩
 subst aO
 replace i0:=i0.to gb
 replace i1:=i1.to gb
 replace i2:=i2.to gb
 replace zb:=bS zb gb
 have HXwc:=Lib.hid (show ∀ W',Below wc.heap.size wc W'->(Bx7 W' w.heap.size (.int .i64 1) (.int .i64 (T:Int)) (.int .i64 xa) (.int .i64 xb) (.bool ng) (.slice a0 n0 c0) (.slice a1 n1 c1)/\Bx3 W' B3 (.bool ng2) (.slice a2_ n2_ c2_) (.slice p2_ m2_ k2_)) from fun W' hb => by
   refine ⟨bx7 hb ?_ ?_ ?_ ?_ ?_ ?_ ?_ ?_ ?_ ?_ ?_ ?_ ?_ ?_,bx3 hb ?_ ?_ ?_ ?_ ?_ ?_⟩
   all_goals first|assumption|assumption)
 replace gb:=Below.refl wc.heap.size wc
 go_wp2_with fail
 obtain ⟨m,hm9⟩:∃ m:Nat,((max (za v.num.natAbs).length (za v.den).length:Nat))=m:=⟨_,rfl⟩
 have HM:=Lib.hid (show ((max (za v.num.natAbs).length (za v.den).length:Nat):Int)=(m:Int) by rw [hm9])
 have hm4:m<=4096:=by have:=Hs.out;unfold szq at this;rw [ze,ze] at hm9;omega
 have t4:decide (4096<m)=false:=decide_eq_false (by omega)
 have t5:decide ((4096:Int)<(m:Int))=false:=decide_eq_false (by omega)
 clear hm9 hm4
 refine (zar ng2 _ _ _ _ _ (g2.to gb).isF (m:Int) HM.out).mono ?_
 clear ae ah af ak ag al az aJ aA aK bf bm bh bn cZ de da dg dj dk e0 e1 e2 e3 e4 o0 o1 o2 q0 q1 q2
 rintro e w3 ⟨rfl,cl⟩
 replace gb:=bS gb cl
 obtain ⟨⟨z0,ae,af,ag,az,aA,bf,bh,ah,ak,al,aJ,aK,bm,bn⟩,⟨z3,cZ,da,dj,de,dg,dk⟩⟩:=HXwc.out _ gb
 obtain ⟨e0,e1,e2,e3,e4⟩:=(i1.to gb)
 obtain ⟨o0,o1,o2,q0,q1,q2⟩:=(i2.to gb)
 go_wp2_with fail
 go_region
 go_wp2_with fail
 go_ret
 exact ⟨_,_,_,_,rfl,bS zb gb,(g2.to gb).isK,.inr rfl⟩

theorem zkX (mB g N:Nat) (u vJ:Value) (rows cols:Int) (T:Nat) (xa xb:Int) (ng:Bool) (vn vd:Value) (ln ld:List Nat) (d0 d1 d2:Value) {v:Rat}  (w:World) (hw:IsF w vn vd ln ld) (hm:zM w mB g N u vJ rows cols) (hN:N<=100000) (hT:T<N) (ho:zai w g (T*3) d0 d1 d2) (hs:szq v<=4096) (hcall:∀ V,Below w.heap.size w V->Calls Tryz.prog 93 #[.pointer (some ⟨mB,0,none⟩),.agg #[.int .i64 2,.int .i64 (T:Int),.int .i64 xa,.int .i64 xb,.bool ng,vn,vd]] V (zL V v))  :
  Calls Tryz.prog 39 #[.pointer (some ⟨mB,0,none⟩),.agg #[.int .i64 2,.int .i64 (T:Int),.int .i64 xa,.int .i64 xb,.bool ng,vn,vd]] w (zcQ w g (T*3) v):=by
 obtain ⟨a0,n0,c0,rfl,H0,hm0⟩:=hw.1.open
 obtain ⟨a1,n1,c1,rfl,H1,hm1⟩:=hw.2.open
 have hTi:(T:Int)<(N:Int):=by omega
 have lm:=hm.lt
 have lo:=ho.lt
 have Hs:=Lib.hid hs
 have HC:=Lib.hid hcall
 clear hs hcall
 go_enter Tryz.func39,Tryz.ntmps39
 go_wp2_with fail
 obtain ⟨W0,an⟩:∃ W0,w.alloc (.cells #[.int .i64 2,.int .i64 (T:Int),.int .i64 xa,.int .i64 xb,.bool ng,.slice a0 n0 c0,.slice a1 n1 c1] 49)=W0:=⟨_,rfl⟩
 have ap:=Lib.hid (show ∀ W',Below W0.heap.size W0 W'->(W'.cell? ⟨w.heap.size,0,none⟩=some (.int .i64 2)/\W'.cell? ⟨w.heap.size,1,none⟩=some (.int .i64 (T:Int))/\W'.cell? ⟨w.heap.size,2,none⟩=some (.int .i64 xa)/\W'.cell? ⟨w.heap.size,3,none⟩=some (.int .i64 xb)/\W'.cell? ⟨w.heap.size,4,none⟩=some (.bool ng)/\W'.cell? ⟨w.heap.size,5,none⟩=some (.slice a0 n0 c0)/\W'.cell? ⟨w.heap.size,6,none⟩=some (.slice a1 n1 c1)) from fun W' hb =>
  by and_intros <;> exact kc hb (by first|assumption|(rw [<- an];simp [go_sem])))
 have cE:=Lib.hid (show ∀ W',Below W0.heap.size W0 W'->(W'.frozen? ⟨w.heap.size,0,none⟩=false/\W'.frozen? ⟨w.heap.size,1,none⟩=false/\W'.frozen? ⟨w.heap.size,2,none⟩=false/\W'.frozen? ⟨w.heap.size,3,none⟩=false/\W'.frozen? ⟨w.heap.size,4,none⟩=false/\W'.frozen? ⟨w.heap.size,5,none⟩=false/\W'.frozen? ⟨w.heap.size,6,none⟩=false) from fun W' hb =>
  by and_intros <;> refine (hb.frozen ?_).trans ?_ <;> first|assumption|(rw [<- an];simp [go_sem])|(rw [<- an];simp <;> omega))
 have cF:=Lib.hid (show ∀ W',Below W0.heap.size W0 W'->(w.heap.size<W'.heap.size) from fun W' hb =>
  Nat.lt_of_lt_of_le (by rw [<- an];simp <;> omega) hb.size)
 have zb:Below w.heap.size w W0:=by rw [<- an];exact bN _ _
 rw [an]
 clear an
 have i0:=hw.to zb
 have i1:=hm.to zb
 have i2:=ho.to zb
 have gb:Below W0.heap.size W0 W0:=Below.refl _ _
 obtain ⟨ae,af,ag,az,aA,bf,bh⟩:=ap.out _ gb
 obtain ⟨ah,ak,al,aJ,aK,bm,bn⟩:=cE.out _ gb
 obtain z0:=cF.out _ gb
 obtain ⟨e0,e1,e2,e3,e4⟩:=(i1.to gb)
 obtain ⟨o0,o1,o2,q0,q1,q2⟩:=(i2.to gb)
 go_wp2_with fail
 have htab:=tab_2
 have hgb:=gb
 go_upto_region 4 with fail
 go_cut [5,6] from 28 (fun s5 s6 wx => zcg W0 (v) s5 wx/\s6=.int .i64 0)
 case first =>
  go_region_held3 (fun W' => W'.cell? ⟨w.heap.size,0,none⟩=some (.int .i64 2)/\W'.cell? ⟨w.heap.size,1,none⟩=some (.int .i64 (T:Int))/\W'.cell? ⟨w.heap.size,2,none⟩=some (.int .i64 xa)/\W'.cell? ⟨w.heap.size,3,none⟩=some (.int .i64 xb)/\W'.cell? ⟨w.heap.size,4,none⟩=some (.bool ng)/\W'.cell? ⟨w.heap.size,5,none⟩=some (.slice a0 n0 c0)/\W'.cell? ⟨w.heap.size,6,none⟩=some (.slice a1 n1 c1)) (first|(with_reducible exact ap.out _ gb)|((with_reducible refine ap.out _ ?_);repeat' (first|(with_reducible exact gb)|(with_reducible refine Below.drew ?_)|(with_reducible refine bS ?_ (bN _ _))|(with_reducible refine bT ?_ ?_ _ _ _)|(with_reducible exact aL)|(with_reducible exact aM)|omega))) (first
   | (go_at_call 93;(refine zl w1 (by with_reducible first|exact Below.refl _ _|exact bN _ _) ?_);intro V2 dY ch;have ep:=ch.size;have dH:=gb.size;have gb:=bS gb ch;(try have am:=am.to ch);(try have aN:Tri V2 (w1.heap.size) (.bool false) (.slice none 0 0) (.slice none 0 0):=(by rw [dY];with_reducible first|exact zi _ (.bool false) (.slice none 0 0) (.slice none 0 0) _|exact (zi _ (.bool false) (.slice none 0 0) (.slice none 0 0) _).alloc _));have aM:W0.heap.size<=w1.heap.size:=(dH);(try have a9:=am.lt);(try have bc:=aN.lt);(with_reducible refine (HC.out _ (bS zb gb)).mono ?_);rintro e w2 ⟨ng2,a2_,n2_,c2_,p2_,m2_,k2_,rfl,g2,aZ⟩;have gb:=bS gb aZ;have dZ:=aZ.size;(try have am:=am.to aZ);(try have aN:=aN.to aZ);(try have cn:=am.lt);(try have cq:=aN.lt);(try (have bj:=am;obtain ⟨bx,bA,bB,bE,bH,bJ⟩:=bj));(try (have cf:=aN;obtain ⟨cH,cI,cK,cL,cM,cN⟩:=cf)))
   | (go_at_call 65;(refine zl W0 (by with_reducible first|exact (Below.refl _ _).drew|exact (bN _ _).drew) ?_);intro V1 dX cG;have eo:=cG.size;have dG:=gb.size;have gb:=bS gb cG;(try have am:Tri V1 (W0.heap.size) (.bool false) (.slice none 0 0) (.slice none 0 0):=(by rw [dX];with_reducible first|exact (zi _ (.bool false) (.slice none 0 0) (.slice none 0 0) _).drew|exact ((zi _ (.bool false) (.slice none 0 0) (.slice none 0 0) _).alloc _).drew));have aL:W0.heap.size<=W0.heap.size:=(dG);(try have bk:=am.lt);(with_reducible refine (zbl _).mono ?_);rintro e w1 ⟨rfl,be⟩;have gb:=bS gb be;have dD:=be.size;(try have am:=am.to be);(try have bw:=am.lt);(try (have bj:=am;obtain ⟨bx,bA,bB,bE,bH,bJ⟩:=bj))))
  all_goals (go_wp2_with fail;go_meet)
  all_goals refine ⟨?_,rfl⟩
  all_goals first
   | (with_reducible exact zO am g2 (.inl a9) gb aL)
   | (with_reducible exact zO aN g2 (.inl bc) gb aM)
   | (with_reducible exact zbq g2 gb)
 case rest =>
 obtain ⟨⟨B3,ng2,a2_,n2_,c2_,p2_,m2_,k2_,lo3,hi3,rfl,hB3,T3,g2,hc3⟩,rfl⟩:=hcut
 clear ae ah af ak ag al az aJ aA aK bf bm bh bn e0 e1 e2 e3 e4 o0 o1 o2 q0 q1 q2
 have gb:=hc3
 obtain ⟨ae,af,ag,az,aA,bf,bh⟩:=ap.out _ gb
 obtain ⟨ah,ak,al,aJ,aK,bm,bn⟩:=cE.out _ gb
 obtain z0:=cF.out _ gb
 obtain ⟨e0,e1,e2,e3,e4⟩:=(i1.to gb)
 obtain ⟨o0,o1,o2,q0,q1,q2⟩:=(i2.to gb)
 have z3:=T3.lt
 obtain ⟨cZ,da,dj,de,dg,dk⟩:=T3
 clear hgb
 obtain ⟨W1,aO⟩:∃ W,wc=W:=⟨_,rfl⟩
 subst aO
 replace i0:=i0.to gb
 replace i1:=i1.to gb
 replace i2:=i2.to gb
 replace zb:=bS zb gb
 have HXwc:=Lib.hid (show ∀ W',Below wc.heap.size wc W'->(Bx7 W' w.heap.size (.int .i64 2) (.int .i64 (T:Int)) (.int .i64 xa) (.int .i64 xb) (.bool ng) (.slice a0 n0 c0) (.slice a1 n1 c1)/\Bx3 W' B3 (.bool ng2) (.slice a2_ n2_ c2_) (.slice p2_ m2_ k2_)) from fun W' hb => by
   refine ⟨bx7 hb ?_ ?_ ?_ ?_ ?_ ?_ ?_ ?_ ?_ ?_ ?_ ?_ ?_ ?_,bx3 hb ?_ ?_ ?_ ?_ ?_ ?_⟩
   all_goals first|assumption|assumption)
 replace gb:=Below.refl wc.heap.size wc
 go_wp2_with fail
 obtain ⟨m,hm9⟩:∃ m:Nat,((max (za v.num.natAbs).length (za v.den).length:Nat))=m:=⟨_,rfl⟩
 have HM:=Lib.hid (show ((max (za v.num.natAbs).length (za v.den).length:Nat):Int)=(m:Int) by rw [hm9])
 have hm4:m<=4096:=by have:=Hs.out;unfold szq at this;rw [ze,ze] at hm9;omega
 have t4:decide (4096<m)=false:=decide_eq_false (by omega)
 have t5:decide ((4096:Int)<(m:Int))=false:=decide_eq_false (by omega)
 clear hm9 hm4
 refine (zar ng2 _ _ _ _ _ (g2.to gb).isF (m:Int) HM.out).mono ?_
 clear ae ah af ak ag al az aJ aA aK bf bm bh bn cZ de da dg dj dk e0 e1 e2 e3 e4 o0 o1 o2 q0 q1 q2
 rintro e w3 ⟨rfl,cl⟩
 replace gb:=bS gb cl
 obtain ⟨⟨z0,ae,af,ag,az,aA,bf,bh,ah,ak,al,aJ,aK,bm,bn⟩,⟨z3,cZ,da,dj,de,dg,dk⟩⟩:=HXwc.out _ gb
 obtain ⟨e0,e1,e2,e3,e4⟩:=(i1.to gb)
 obtain ⟨o0,o1,o2,q0,q1,q2⟩:=(i2.to gb)
 go_wp2_with fail
 go_region
 go_wp2_with fail
 go_ret
 exact ⟨_,_,_,_,rfl,bS zb gb,(g2.to gb).isK,.inr rfl⟩

theorem zkY (mB g N:Nat) (u vJ:Value) (rows cols:Int) (T:Nat) (xa xb:Int) (ng:Bool) (vn vd:Value) (ln ld:List Nat) (d0 d1 d2:Value) {v:Rat}  (w:World) (hw:IsF w vn vd ln ld) (hm:zM w mB g N u vJ rows cols) (hN:N<=100000) (hT:T<N) (ho:zai w g (T*3) d0 d1 d2) (hs:szq v<=4096) (hcall:∀ V,Below w.heap.size w V->Calls Tryz.prog 94 #[.pointer (some ⟨mB,0,none⟩),.agg #[.int .i64 3,.int .i64 (T:Int),.int .i64 xa,.int .i64 xb,.bool ng,vn,vd]] V (zL V v))  :
  Calls Tryz.prog 39 #[.pointer (some ⟨mB,0,none⟩),.agg #[.int .i64 3,.int .i64 (T:Int),.int .i64 xa,.int .i64 xb,.bool ng,vn,vd]] w (zcQ w g (T*3) v):=by
 obtain ⟨a0,n0,c0,rfl,H0,hm0⟩:=hw.1.open
 obtain ⟨a1,n1,c1,rfl,H1,hm1⟩:=hw.2.open
 have hTi:(T:Int)<(N:Int):=by omega
 have lm:=hm.lt
 have lo:=ho.lt
 have Hs:=Lib.hid hs
 have HC:=Lib.hid hcall
 clear hs hcall
 go_enter Tryz.func39,Tryz.ntmps39
 go_wp2_with fail
 obtain ⟨W0,an⟩:∃ W0,w.alloc (.cells #[.int .i64 3,.int .i64 (T:Int),.int .i64 xa,.int .i64 xb,.bool ng,.slice a0 n0 c0,.slice a1 n1 c1] 49)=W0:=⟨_,rfl⟩
 have ap:=Lib.hid (show ∀ W',Below W0.heap.size W0 W'->(W'.cell? ⟨w.heap.size,0,none⟩=some (.int .i64 3)/\W'.cell? ⟨w.heap.size,1,none⟩=some (.int .i64 (T:Int))/\W'.cell? ⟨w.heap.size,2,none⟩=some (.int .i64 xa)/\W'.cell? ⟨w.heap.size,3,none⟩=some (.int .i64 xb)/\W'.cell? ⟨w.heap.size,4,none⟩=some (.bool ng)/\W'.cell? ⟨w.heap.size,5,none⟩=some (.slice a0 n0 c0)/\W'.cell? ⟨w.heap.size,6,none⟩=some (.slice a1 n1 c1)) from fun W' hb =>
  by and_intros <;> exact kc hb (by first|assumption|(rw [<- an];simp [go_sem])))
 have cE:=Lib.hid (show ∀ W',Below W0.heap.size W0 W'->(W'.frozen? ⟨w.heap.size,0,none⟩=false/\W'.frozen? ⟨w.heap.size,1,none⟩=false/\W'.frozen? ⟨w.heap.size,2,none⟩=false/\W'.frozen? ⟨w.heap.size,3,none⟩=false/\W'.frozen? ⟨w.heap.size,4,none⟩=false/\W'.frozen? ⟨w.heap.size,5,none⟩=false/\W'.frozen? ⟨w.heap.size,6,none⟩=false) from fun W' hb =>
  by and_intros <;> refine (hb.frozen ?_).trans ?_ <;> first|assumption|(rw [<- an];simp [go_sem])|(rw [<- an];simp <;> omega))
 have cF:=Lib.hid (show ∀ W',Below W0.heap.size W0 W'->(w.heap.size<W'.heap.size) from fun W' hb =>
  Nat.lt_of_lt_of_le (by rw [<- an];simp <;> omega) hb.size)
 have zb:Below w.heap.size w W0:=by rw [<- an];exact bN _ _
 rw [an]
 clear an
 have i0:=hw.to zb
 have i1:=hm.to zb
 have i2:=ho.to zb
 have gb:Below W0.heap.size W0 W0:=Below.refl _ _
 obtain ⟨ae,af,ag,az,aA,bf,bh⟩:=ap.out _ gb
 obtain ⟨ah,ak,al,aJ,aK,bm,bn⟩:=cE.out _ gb
 obtain z0:=cF.out _ gb
 obtain ⟨e0,e1,e2,e3,e4⟩:=(i1.to gb)
 obtain ⟨o0,o1,o2,q0,q1,q2⟩:=(i2.to gb)
 go_wp2_with fail
 have htab:=tab_3
 have hgb:=gb
 go_upto_region 4 with fail
 go_cut [5,6] from 28 (fun s5 s6 wx => zcg W0 (v) s5 wx/\s6=.int .i64 0)
 case first =>
  go_region_held3 (fun W' => W'.cell? ⟨w.heap.size,0,none⟩=some (.int .i64 3)/\W'.cell? ⟨w.heap.size,1,none⟩=some (.int .i64 (T:Int))/\W'.cell? ⟨w.heap.size,2,none⟩=some (.int .i64 xa)/\W'.cell? ⟨w.heap.size,3,none⟩=some (.int .i64 xb)/\W'.cell? ⟨w.heap.size,4,none⟩=some (.bool ng)/\W'.cell? ⟨w.heap.size,5,none⟩=some (.slice a0 n0 c0)/\W'.cell? ⟨w.heap.size,6,none⟩=some (.slice a1 n1 c1)) (first|(with_reducible exact ap.out _ gb)|((with_reducible refine ap.out _ ?_);repeat' (first|(with_reducible exact gb)|(with_reducible refine Below.drew ?_)|(with_reducible refine bS ?_ (bN _ _))|(with_reducible refine bT ?_ ?_ _ _ _)|(with_reducible exact aL)|(with_reducible exact aM)|omega))) (first
   | (go_at_call 94;(refine zl w1 (by with_reducible first|exact Below.refl _ _|exact bN _ _) ?_);intro V2 dY ch;have ep:=ch.size;have dH:=gb.size;have gb:=bS gb ch;(try have am:=am.to ch);(try have aN:Tri V2 (w1.heap.size) (.bool false) (.slice none 0 0) (.slice none 0 0):=(by rw [dY];with_reducible first|exact zi _ (.bool false) (.slice none 0 0) (.slice none 0 0) _|exact (zi _ (.bool false) (.slice none 0 0) (.slice none 0 0) _).alloc _));have aM:W0.heap.size<=w1.heap.size:=(dH);(try have a9:=am.lt);(try have bc:=aN.lt);(with_reducible refine (HC.out _ (bS zb gb)).mono ?_);rintro e w2 ⟨ng2,a2_,n2_,c2_,p2_,m2_,k2_,rfl,g2,aZ⟩;have gb:=bS gb aZ;have dZ:=aZ.size;(try have am:=am.to aZ);(try have aN:=aN.to aZ);(try have cn:=am.lt);(try have cq:=aN.lt);(try (have bj:=am;obtain ⟨bx,bA,bB,bE,bH,bJ⟩:=bj));(try (have cf:=aN;obtain ⟨cH,cI,cK,cL,cM,cN⟩:=cf)))
   | (go_at_call 65;(refine zl W0 (by with_reducible first|exact (Below.refl _ _).drew|exact (bN _ _).drew) ?_);intro V1 dX cG;have eo:=cG.size;have dG:=gb.size;have gb:=bS gb cG;(try have am:Tri V1 (W0.heap.size) (.bool false) (.slice none 0 0) (.slice none 0 0):=(by rw [dX];with_reducible first|exact (zi _ (.bool false) (.slice none 0 0) (.slice none 0 0) _).drew|exact ((zi _ (.bool false) (.slice none 0 0) (.slice none 0 0) _).alloc _).drew));have aL:W0.heap.size<=W0.heap.size:=(dG);(try have bk:=am.lt);(with_reducible refine (zbl _).mono ?_);rintro e w1 ⟨rfl,be⟩;have gb:=bS gb be;have dD:=be.size;(try have am:=am.to be);(try have bw:=am.lt);(try (have bj:=am;obtain ⟨bx,bA,bB,bE,bH,bJ⟩:=bj))))
  all_goals (go_wp2_with fail;go_meet)
  all_goals refine ⟨?_,rfl⟩
  all_goals first
   | (with_reducible exact zO am g2 (.inl a9) gb aL)
   | (with_reducible exact zO aN g2 (.inl bc) gb aM)
   | (with_reducible exact zbq g2 gb)
 case rest =>
 obtain ⟨⟨B3,ng2,a2_,n2_,c2_,p2_,m2_,k2_,lo3,hi3,rfl,hB3,T3,g2,hc3⟩,rfl⟩:=hcut
 clear ae ah af ak ag al az aJ aA aK bf bm bh bn e0 e1 e2 e3 e4 o0 o1 o2 q0 q1 q2
 have gb:=hc3
 obtain ⟨ae,af,ag,az,aA,bf,bh⟩:=ap.out _ gb
 obtain ⟨ah,ak,al,aJ,aK,bm,bn⟩:=cE.out _ gb
 obtain z0:=cF.out _ gb
 obtain ⟨e0,e1,e2,e3,e4⟩:=(i1.to gb)
 obtain ⟨o0,o1,o2,q0,q1,q2⟩:=(i2.to gb)
 have z3:=T3.lt
 obtain ⟨cZ,da,dj,de,dg,dk⟩:=T3
 clear hgb
 obtain ⟨W1,aO⟩:∃ W,wc=W:=⟨_,rfl⟩
 subst aO
 replace i0:=i0.to gb
 replace i1:=i1.to gb
 replace i2:=i2.to gb
 replace zb:=bS zb gb
 have HXwc:=Lib.hid (show ∀ W',Below wc.heap.size wc W'->(Bx7 W' w.heap.size (.int .i64 3) (.int .i64 (T:Int)) (.int .i64 xa) (.int .i64 xb) (.bool ng) (.slice a0 n0 c0) (.slice a1 n1 c1)/\Bx3 W' B3 (.bool ng2) (.slice a2_ n2_ c2_) (.slice p2_ m2_ k2_)) from fun W' hb => by
   refine ⟨bx7 hb ?_ ?_ ?_ ?_ ?_ ?_ ?_ ?_ ?_ ?_ ?_ ?_ ?_ ?_,bx3 hb ?_ ?_ ?_ ?_ ?_ ?_⟩
   all_goals first|assumption|assumption)
 replace gb:=Below.refl wc.heap.size wc
 go_wp2_with fail
 obtain ⟨m,hm9⟩:∃ m:Nat,((max (za v.num.natAbs).length (za v.den).length:Nat))=m:=⟨_,rfl⟩
 have HM:=Lib.hid (show ((max (za v.num.natAbs).length (za v.den).length:Nat):Int)=(m:Int) by rw [hm9])
 have hm4:m<=4096:=by have:=Hs.out;unfold szq at this;rw [ze,ze] at hm9;omega
 have t4:decide (4096<m)=false:=decide_eq_false (by omega)
 have t5:decide ((4096:Int)<(m:Int))=false:=decide_eq_false (by omega)
 clear hm9 hm4
 refine (zar ng2 _ _ _ _ _ (g2.to gb).isF (m:Int) HM.out).mono ?_
 clear ae ah af ak ag al az aJ aA aK bf bm bh bn cZ de da dg dj dk e0 e1 e2 e3 e4 o0 o1 o2 q0 q1 q2
 rintro e w3 ⟨rfl,cl⟩
 replace gb:=bS gb cl
 obtain ⟨⟨z0,ae,af,ag,az,aA,bf,bh,ah,ak,al,aJ,aK,bm,bn⟩,⟨z3,cZ,da,dj,de,dg,dk⟩⟩:=HXwc.out _ gb
 obtain ⟨e0,e1,e2,e3,e4⟩:=(i1.to gb)
 obtain ⟨o0,o1,o2,q0,q1,q2⟩:=(i2.to gb)
 go_wp2_with fail
 go_region
 go_wp2_with fail
 go_ret
 exact ⟨_,_,_,_,rfl,bS zb gb,(g2.to gb).isK,.inr rfl⟩

theorem zkZ (mB g N:Nat) (u vJ:Value) (rows cols:Int) (T:Nat) (xa xb:Int) (ng:Bool) (vn vd:Value) (ln ld:List Nat) (d0 d1 d2:Value) {v:Rat}  (w:World) (hw:IsF w vn vd ln ld) (hm:zM w mB g N u vJ rows cols) (hN:N<=100000) (hT:T<N) (ho:zai w g (T*3) d0 d1 d2) (hs:szq v<=4096) (hcall:∀ V,Below w.heap.size w V->Calls Tryz.prog 95 #[.pointer (some ⟨mB,0,none⟩),.agg #[.int .i64 4,.int .i64 (T:Int),.int .i64 xa,.int .i64 xb,.bool ng,vn,vd]] V (zL V v))  :
  Calls Tryz.prog 39 #[.pointer (some ⟨mB,0,none⟩),.agg #[.int .i64 4,.int .i64 (T:Int),.int .i64 xa,.int .i64 xb,.bool ng,vn,vd]] w (zcQ w g (T*3) v):=by
 obtain ⟨a0,n0,c0,rfl,H0,hm0⟩:=hw.1.open
 obtain ⟨a1,n1,c1,rfl,H1,hm1⟩:=hw.2.open
 have hTi:(T:Int)<(N:Int):=by omega
 have lm:=hm.lt
 have lo:=ho.lt
 have Hs:=Lib.hid hs
 have HC:=Lib.hid hcall
 clear hs hcall
 go_enter Tryz.func39,Tryz.ntmps39
 go_wp2_with fail
 obtain ⟨W0,an⟩:∃ W0,w.alloc (.cells #[.int .i64 4,.int .i64 (T:Int),.int .i64 xa,.int .i64 xb,.bool ng,.slice a0 n0 c0,.slice a1 n1 c1] 49)=W0:=⟨_,rfl⟩
 have ap:=Lib.hid (show ∀ W',Below W0.heap.size W0 W'->(W'.cell? ⟨w.heap.size,0,none⟩=some (.int .i64 4)/\W'.cell? ⟨w.heap.size,1,none⟩=some (.int .i64 (T:Int))/\W'.cell? ⟨w.heap.size,2,none⟩=some (.int .i64 xa)/\W'.cell? ⟨w.heap.size,3,none⟩=some (.int .i64 xb)/\W'.cell? ⟨w.heap.size,4,none⟩=some (.bool ng)/\W'.cell? ⟨w.heap.size,5,none⟩=some (.slice a0 n0 c0)/\W'.cell? ⟨w.heap.size,6,none⟩=some (.slice a1 n1 c1)) from fun W' hb =>
  by and_intros <;> exact kc hb (by first|assumption|(rw [<- an];simp [go_sem])))
 have cE:=Lib.hid (show ∀ W',Below W0.heap.size W0 W'->(W'.frozen? ⟨w.heap.size,0,none⟩=false/\W'.frozen? ⟨w.heap.size,1,none⟩=false/\W'.frozen? ⟨w.heap.size,2,none⟩=false/\W'.frozen? ⟨w.heap.size,3,none⟩=false/\W'.frozen? ⟨w.heap.size,4,none⟩=false/\W'.frozen? ⟨w.heap.size,5,none⟩=false/\W'.frozen? ⟨w.heap.size,6,none⟩=false) from fun W' hb =>
  by and_intros <;> refine (hb.frozen ?_).trans ?_ <;> first|assumption|(rw [<- an];simp [go_sem])|(rw [<- an];simp <;> omega))
 have cF:=Lib.hid (show ∀ W',Below W0.heap.size W0 W'->(w.heap.size<W'.heap.size) from fun W' hb =>
  Nat.lt_of_lt_of_le (by rw [<- an];simp <;> omega) hb.size)
 have zb:Below w.heap.size w W0:=by rw [<- an];exact bN _ _
 rw [an]
 clear an
 have i0:=hw.to zb
 have i1:=hm.to zb
 have i2:=ho.to zb
 have gb:Below W0.heap.size W0 W0:=Below.refl _ _
 obtain ⟨ae,af,ag,az,aA,bf,bh⟩:=ap.out _ gb
 obtain ⟨ah,ak,al,aJ,aK,bm,bn⟩:=cE.out _ gb
 obtain z0:=cF.out _ gb
 obtain ⟨e0,e1,e2,e3,e4⟩:=(i1.to gb)
 obtain ⟨o0,o1,o2,q0,q1,q2⟩:=(i2.to gb)
 go_wp2_with fail
 have htab:=tab_4
 have hgb:=gb
 go_upto_region 4 with fail
 go_cut [5,6] from 28 (fun s5 s6 wx => zcg W0 (v) s5 wx/\s6=.int .i64 0)
 case first =>
  go_region_held3 (fun W' => W'.cell? ⟨w.heap.size,0,none⟩=some (.int .i64 4)/\W'.cell? ⟨w.heap.size,1,none⟩=some (.int .i64 (T:Int))/\W'.cell? ⟨w.heap.size,2,none⟩=some (.int .i64 xa)/\W'.cell? ⟨w.heap.size,3,none⟩=some (.int .i64 xb)/\W'.cell? ⟨w.heap.size,4,none⟩=some (.bool ng)/\W'.cell? ⟨w.heap.size,5,none⟩=some (.slice a0 n0 c0)/\W'.cell? ⟨w.heap.size,6,none⟩=some (.slice a1 n1 c1)) (first|(with_reducible exact ap.out _ gb)|((with_reducible refine ap.out _ ?_);repeat' (first|(with_reducible exact gb)|(with_reducible refine Below.drew ?_)|(with_reducible refine bS ?_ (bN _ _))|(with_reducible refine bT ?_ ?_ _ _ _)|(with_reducible exact aL)|(with_reducible exact aM)|omega))) (first
   | (go_at_call 95;(refine zl w1 (by with_reducible first|exact Below.refl _ _|exact bN _ _) ?_);intro V2 dY ch;have ep:=ch.size;have dH:=gb.size;have gb:=bS gb ch;(try have am:=am.to ch);(try have aN:Tri V2 (w1.heap.size) (.bool false) (.slice none 0 0) (.slice none 0 0):=(by rw [dY];with_reducible first|exact zi _ (.bool false) (.slice none 0 0) (.slice none 0 0) _|exact (zi _ (.bool false) (.slice none 0 0) (.slice none 0 0) _).alloc _));have aM:W0.heap.size<=w1.heap.size:=(dH);(try have a9:=am.lt);(try have bc:=aN.lt);(with_reducible refine (HC.out _ (bS zb gb)).mono ?_);rintro e w2 ⟨ng2,a2_,n2_,c2_,p2_,m2_,k2_,rfl,g2,aZ⟩;have gb:=bS gb aZ;have dZ:=aZ.size;(try have am:=am.to aZ);(try have aN:=aN.to aZ);(try have cn:=am.lt);(try have cq:=aN.lt);(try (have bj:=am;obtain ⟨bx,bA,bB,bE,bH,bJ⟩:=bj));(try (have cf:=aN;obtain ⟨cH,cI,cK,cL,cM,cN⟩:=cf)))
   | (go_at_call 65;(refine zl W0 (by with_reducible first|exact (Below.refl _ _).drew|exact (bN _ _).drew) ?_);intro V1 dX cG;have eo:=cG.size;have dG:=gb.size;have gb:=bS gb cG;(try have am:Tri V1 (W0.heap.size) (.bool false) (.slice none 0 0) (.slice none 0 0):=(by rw [dX];with_reducible first|exact (zi _ (.bool false) (.slice none 0 0) (.slice none 0 0) _).drew|exact ((zi _ (.bool false) (.slice none 0 0) (.slice none 0 0) _).alloc _).drew));have aL:W0.heap.size<=W0.heap.size:=(dG);(try have bk:=am.lt);(with_reducible refine (zbl _).mono ?_);rintro e w1 ⟨rfl,be⟩;have gb:=bS gb be;have dD:=be.size;(try have am:=am.to be);(try have bw:=am.lt);(try (have bj:=am;obtain ⟨bx,bA,bB,bE,bH,bJ⟩:=bj))))
  all_goals (go_wp2_with fail;go_meet)
  all_goals refine ⟨?_,rfl⟩
  all_goals first
   | (with_reducible exact zO am g2 (.inl a9) gb aL)
   | (with_reducible exact zO aN g2 (.inl bc) gb aM)
   | (with_reducible exact zbq g2 gb)
 case rest =>
 obtain ⟨⟨B3,ng2,a2_,n2_,c2_,p2_,m2_,k2_,lo3,hi3,rfl,hB3,T3,g2,hc3⟩,rfl⟩:=hcut
 clear ae ah af ak ag al az aJ aA aK bf bm bh bn e0 e1 e2 e3 e4 o0 o1 o2 q0 q1 q2
 have gb:=hc3
 obtain ⟨ae,af,ag,az,aA,bf,bh⟩:=ap.out _ gb
 obtain ⟨ah,ak,al,aJ,aK,bm,bn⟩:=cE.out _ gb
 obtain z0:=cF.out _ gb
 obtain ⟨e0,e1,e2,e3,e4⟩:=(i1.to gb)
 obtain ⟨o0,o1,o2,q0,q1,q2⟩:=(i2.to gb)
 have z3:=T3.lt
 obtain ⟨cZ,da,dj,de,dg,dk⟩:=T3
 clear hgb
 obtain ⟨W1,aO⟩:∃ W,wc=W:=⟨_,rfl⟩
 subst aO
 replace i0:=i0.to gb
 replace i1:=i1.to gb
 replace i2:=i2.to gb
 replace zb:=bS zb gb
 have HXwc:=Lib.hid (show ∀ W',Below wc.heap.size wc W'->(Bx7 W' w.heap.size (.int .i64 4) (.int .i64 (T:Int)) (.int .i64 xa) (.int .i64 xb) (.bool ng) (.slice a0 n0 c0) (.slice a1 n1 c1)/\Bx3 W' B3 (.bool ng2) (.slice a2_ n2_ c2_) (.slice p2_ m2_ k2_)) from fun W' hb => by
   refine ⟨bx7 hb ?_ ?_ ?_ ?_ ?_ ?_ ?_ ?_ ?_ ?_ ?_ ?_ ?_ ?_,bx3 hb ?_ ?_ ?_ ?_ ?_ ?_⟩
   all_goals first|assumption|assumption)
 replace gb:=Below.refl wc.heap.size wc
 go_wp2_with fail
 obtain ⟨m,hm9⟩:∃ m:Nat,((max (za v.num.natAbs).length (za v.den).length:Nat))=m:=⟨_,rfl⟩
 have HM:=Lib.hid (show ((max (za v.num.natAbs).length (za v.den).length:Nat):Int)=(m:Int) by rw [hm9])
 have hm4:m<=4096:=by have:=Hs.out;unfold szq at this;rw [ze,ze] at hm9;omega
 have t4:decide (4096<m)=false:=decide_eq_false (by omega)
 have t5:decide ((4096:Int)<(m:Int))=false:=decide_eq_false (by omega)
 clear hm9 hm4
 refine (zar ng2 _ _ _ _ _ (g2.to gb).isF (m:Int) HM.out).mono ?_
 clear ae ah af ak ag al az aJ aA aK bf bm bh bn cZ de da dg dj dk e0 e1 e2 e3 e4 o0 o1 o2 q0 q1 q2
 rintro e w3 ⟨rfl,cl⟩
 replace gb:=bS gb cl
 obtain ⟨⟨z0,ae,af,ag,az,aA,bf,bh,ah,ak,al,aJ,aK,bm,bn⟩,⟨z3,cZ,da,dj,de,dg,dk⟩⟩:=HXwc.out _ gb
 obtain ⟨e0,e1,e2,e3,e4⟩:=(i1.to gb)
 obtain ⟨o0,o1,o2,q0,q1,q2⟩:=(i2.to gb)
 go_wp2_with fail
 go_region
 go_wp2_with fail
 go_ret
 exact ⟨_,_,_,_,rfl,bS zb gb,(g2.to gb).isK,.inr rfl⟩

end Go.Proofs.YtkjcdnlpjldhaaaGreat


namespace Go.Proofs.YtkjcdnlpjldhaaaGreat
open Go.RowKit Tw
attribute [local go_sem ↓] Go.wp_at_zero Go.wp_at_succ

theorem zla (mB g N:Nat) (u vJ:Value) (rows cols:Int) (T:Nat) (xa xb:Int) (ng:Bool) (vn vd:Value) (ln ld:List Nat) (d0 d1 d2:Value) {v:Rat}  (w:World) (hw:IsF w vn vd ln ld) (hm:zM w mB g N u vJ rows cols) (hN:N<=100000) (hT:T<N) (ho:zai w g (T*3) d0 d1 d2) (hs:szq v<=4096) (hcall:∀ V,Below w.heap.size w V->Calls Tryz.prog 96 #[.pointer (some ⟨mB,0,none⟩),.agg #[.int .i64 5,.int .i64 (T:Int),.int .i64 xa,.int .i64 xb,.bool ng,vn,vd]] V (zL V v))  :
  Calls Tryz.prog 39 #[.pointer (some ⟨mB,0,none⟩),.agg #[.int .i64 5,.int .i64 (T:Int),.int .i64 xa,.int .i64 xb,.bool ng,vn,vd]] w (zcQ w g (T*3) v):=by
 obtain ⟨a0,n0,c0,rfl,H0,hm0⟩:=hw.1.open
 obtain ⟨a1,n1,c1,rfl,H1,hm1⟩:=hw.2.open
 have hTi:(T:Int)<(N:Int):=by omega
 have lm:=hm.lt
 have lo:=ho.lt
 have Hs:=Lib.hid hs
 have HC:=Lib.hid hcall
 clear hs hcall
 go_enter Tryz.func39,Tryz.ntmps39
 go_wp2_with fail
 obtain ⟨W0,an⟩:∃ W0,w.alloc (.cells #[.int .i64 5,.int .i64 (T:Int),.int .i64 xa,.int .i64 xb,.bool ng,.slice a0 n0 c0,.slice a1 n1 c1] 49)=W0:=⟨_,rfl⟩
 have ap:=Lib.hid (show ∀ W',Below W0.heap.size W0 W'->(W'.cell? ⟨w.heap.size,0,none⟩=some (.int .i64 5)/\W'.cell? ⟨w.heap.size,1,none⟩=some (.int .i64 (T:Int))/\W'.cell? ⟨w.heap.size,2,none⟩=some (.int .i64 xa)/\W'.cell? ⟨w.heap.size,3,none⟩=some (.int .i64 xb)/\W'.cell? ⟨w.heap.size,4,none⟩=some (.bool ng)/\W'.cell? ⟨w.heap.size,5,none⟩=some (.slice a0 n0 c0)/\W'.cell? ⟨w.heap.size,6,none⟩=some (.slice a1 n1 c1)) from fun W' hb =>
  by and_intros <;> exact kc hb (by first|assumption|(rw [<- an];simp [go_sem])))
 have cE:=Lib.hid (show ∀ W',Below W0.heap.size W0 W'->(W'.frozen? ⟨w.heap.size,0,none⟩=false/\W'.frozen? ⟨w.heap.size,1,none⟩=false/\W'.frozen? ⟨w.heap.size,2,none⟩=false/\W'.frozen? ⟨w.heap.size,3,none⟩=false/\W'.frozen? ⟨w.heap.size,4,none⟩=false/\W'.frozen? ⟨w.heap.size,5,none⟩=false/\W'.frozen? ⟨w.heap.size,6,none⟩=false) from fun W' hb =>
  by and_intros <;> refine (hb.frozen ?_).trans ?_ <;> first|assumption|(rw [<- an];simp [go_sem])|(rw [<- an];simp <;> omega))
 have cF:=Lib.hid (show ∀ W',Below W0.heap.size W0 W'->(w.heap.size<W'.heap.size) from fun W' hb =>
  Nat.lt_of_lt_of_le (by rw [<- an];simp <;> omega) hb.size)
 have zb:Below w.heap.size w W0:=by rw [<- an];exact bN _ _
 rw [an]
 clear an
 have i0:=hw.to zb
 have i1:=hm.to zb
 have i2:=ho.to zb
 have gb:Below W0.heap.size W0 W0:=Below.refl _ _
 obtain ⟨ae,af,ag,az,aA,bf,bh⟩:=ap.out _ gb
 obtain ⟨ah,ak,al,aJ,aK,bm,bn⟩:=cE.out _ gb
 obtain z0:=cF.out _ gb
 obtain ⟨e0,e1,e2,e3,e4⟩:=(i1.to gb)
 obtain ⟨o0,o1,o2,q0,q1,q2⟩:=(i2.to gb)
 go_wp2_with fail
 have htab:=tab_5
 have hgb:=gb
 go_upto_region 4 with fail
 go_cut [5,6] from 28 (fun s5 s6 wx => zcg W0 (v) s5 wx/\s6=.int .i64 0)
 case first =>
  go_region_held3 (fun W' => W'.cell? ⟨w.heap.size,0,none⟩=some (.int .i64 5)/\W'.cell? ⟨w.heap.size,1,none⟩=some (.int .i64 (T:Int))/\W'.cell? ⟨w.heap.size,2,none⟩=some (.int .i64 xa)/\W'.cell? ⟨w.heap.size,3,none⟩=some (.int .i64 xb)/\W'.cell? ⟨w.heap.size,4,none⟩=some (.bool ng)/\W'.cell? ⟨w.heap.size,5,none⟩=some (.slice a0 n0 c0)/\W'.cell? ⟨w.heap.size,6,none⟩=some (.slice a1 n1 c1)) (first|(with_reducible exact ap.out _ gb)|((with_reducible refine ap.out _ ?_);repeat' (first|(with_reducible exact gb)|(with_reducible refine Below.drew ?_)|(with_reducible refine bS ?_ (bN _ _))|(with_reducible refine bT ?_ ?_ _ _ _)|(with_reducible exact aL)|(with_reducible exact aM)|omega))) (first
   | (go_at_call 96;(refine zl w1 (by with_reducible first|exact Below.refl _ _|exact bN _ _) ?_);intro V2 dY ch;have ep:=ch.size;have dH:=gb.size;have gb:=bS gb ch;(try have am:=am.to ch);(try have aN:Tri V2 (w1.heap.size) (.bool false) (.slice none 0 0) (.slice none 0 0):=(by rw [dY];with_reducible first|exact zi _ (.bool false) (.slice none 0 0) (.slice none 0 0) _|exact (zi _ (.bool false) (.slice none 0 0) (.slice none 0 0) _).alloc _));have aM:W0.heap.size<=w1.heap.size:=(dH);(try have a9:=am.lt);(try have bc:=aN.lt);(with_reducible refine (HC.out _ (bS zb gb)).mono ?_);rintro e w2 ⟨ng2,a2_,n2_,c2_,p2_,m2_,k2_,rfl,g2,aZ⟩;have gb:=bS gb aZ;have dZ:=aZ.size;(try have am:=am.to aZ);(try have aN:=aN.to aZ);(try have cn:=am.lt);(try have cq:=aN.lt);(try (have bj:=am;obtain ⟨bx,bA,bB,bE,bH,bJ⟩:=bj));(try (have cf:=aN;obtain ⟨cH,cI,cK,cL,cM,cN⟩:=cf)))
   | (go_at_call 65;(refine zl W0 (by with_reducible first|exact (Below.refl _ _).drew|exact (bN _ _).drew) ?_);intro V1 dX cG;have eo:=cG.size;have dG:=gb.size;have gb:=bS gb cG;(try have am:Tri V1 (W0.heap.size) (.bool false) (.slice none 0 0) (.slice none 0 0):=(by rw [dX];with_reducible first|exact (zi _ (.bool false) (.slice none 0 0) (.slice none 0 0) _).drew|exact ((zi _ (.bool false) (.slice none 0 0) (.slice none 0 0) _).alloc _).drew));have aL:W0.heap.size<=W0.heap.size:=(dG);(try have bk:=am.lt);(with_reducible refine (zbl _).mono ?_);rintro e w1 ⟨rfl,be⟩;have gb:=bS gb be;have dD:=be.size;(try have am:=am.to be);(try have bw:=am.lt);(try (have bj:=am;obtain ⟨bx,bA,bB,bE,bH,bJ⟩:=bj))))
  all_goals (go_wp2_with fail;go_meet)
  all_goals refine ⟨?_,rfl⟩
  all_goals first
   | (with_reducible exact zO am g2 (.inl a9) gb aL)
   | (with_reducible exact zO aN g2 (.inl bc) gb aM)
   | (with_reducible exact zbq g2 gb)
 case rest =>
 obtain ⟨⟨B3,ng2,a2_,n2_,c2_,p2_,m2_,k2_,lo3,hi3,rfl,hB3,T3,g2,hc3⟩,rfl⟩:=hcut
 clear ae ah af ak ag al az aJ aA aK bf bm bh bn e0 e1 e2 e3 e4 o0 o1 o2 q0 q1 q2
 have gb:=hc3
 obtain ⟨ae,af,ag,az,aA,bf,bh⟩:=ap.out _ gb
 obtain ⟨ah,ak,al,aJ,aK,bm,bn⟩:=cE.out _ gb
 obtain z0:=cF.out _ gb
 obtain ⟨e0,e1,e2,e3,e4⟩:=(i1.to gb)
 obtain ⟨o0,o1,o2,q0,q1,q2⟩:=(i2.to gb)
 have z3:=T3.lt
 obtain ⟨cZ,da,dj,de,dg,dk⟩:=T3
 clear hgb
 obtain ⟨W1,aO⟩:∃ W,wc=W:=⟨_,rfl⟩
 subst aO
 replace i0:=i0.to gb
 replace i1:=i1.to gb
 replace i2:=i2.to gb
 replace zb:=bS zb gb
 have HXwc:=Lib.hid (show ∀ W',Below wc.heap.size wc W'->(Bx7 W' w.heap.size (.int .i64 5) (.int .i64 (T:Int)) (.int .i64 xa) (.int .i64 xb) (.bool ng) (.slice a0 n0 c0) (.slice a1 n1 c1)/\Bx3 W' B3 (.bool ng2) (.slice a2_ n2_ c2_) (.slice p2_ m2_ k2_)) from fun W' hb => by
   refine ⟨bx7 hb ?_ ?_ ?_ ?_ ?_ ?_ ?_ ?_ ?_ ?_ ?_ ?_ ?_ ?_,bx3 hb ?_ ?_ ?_ ?_ ?_ ?_⟩
   all_goals first|assumption|assumption)
 replace gb:=Below.refl wc.heap.size wc
 go_wp2_with fail
 obtain ⟨m,hm9⟩:∃ m:Nat,((max (za v.num.natAbs).length (za v.den).length:Nat))=m:=⟨_,rfl⟩
 have HM:=Lib.hid (show ((max (za v.num.natAbs).length (za v.den).length:Nat):Int)=(m:Int) by rw [hm9])
 have hm4:m<=4096:=by have:=Hs.out;unfold szq at this;rw [ze,ze] at hm9;omega
 have t4:decide (4096<m)=false:=decide_eq_false (by omega)
 have t5:decide ((4096:Int)<(m:Int))=false:=decide_eq_false (by omega)
 clear hm9 hm4
 refine (zar ng2 _ _ _ _ _ (g2.to gb).isF (m:Int) HM.out).mono ?_
 clear ae ah af ak ag al az aJ aA aK bf bm bh bn cZ de da dg dj dk e0 e1 e2 e3 e4 o0 o1 o2 q0 q1 q2
 rintro e w3 ⟨rfl,cl⟩
 replace gb:=bS gb cl
 obtain ⟨⟨z0,ae,af,ag,az,aA,bf,bh,ah,ak,al,aJ,aK,bm,bn⟩,⟨z3,cZ,da,dj,de,dg,dk⟩⟩:=HXwc.out _ gb
 obtain ⟨e0,e1,e2,e3,e4⟩:=(i1.to gb)
 obtain ⟨o0,o1,o2,q0,q1,q2⟩:=(i2.to gb)
 go_wp2_with fail
 go_region
 go_wp2_with fail
 go_ret
 exact ⟨_,_,_,_,rfl,bS zb gb,(g2.to gb).isK,.inr rfl⟩

theorem zlb (mB g N:Nat) (u vJ:Value) (rows cols:Int) (T:Nat) (xa xb:Int) (ng:Bool) (vn vd:Value) (ln ld:List Nat) (d0 d1 d2:Value) {v:Rat}  (w:World) (hw:IsF w vn vd ln ld) (hm:zM w mB g N u vJ rows cols) (hN:N<=100000) (hT:T<N) (ho:zai w g (T*3) d0 d1 d2) (hs:szq v<=4096) (hcall:∀ V,Below w.heap.size w V->Calls Tryz.prog 97 #[.pointer (some ⟨mB,0,none⟩),.agg #[.int .i64 6,.int .i64 (T:Int),.int .i64 xa,.int .i64 xb,.bool ng,vn,vd]] V (zL V v))  :
  Calls Tryz.prog 39 #[.pointer (some ⟨mB,0,none⟩),.agg #[.int .i64 6,.int .i64 (T:Int),.int .i64 xa,.int .i64 xb,.bool ng,vn,vd]] w (zcQ w g (T*3) v):=by
 obtain ⟨a0,n0,c0,rfl,H0,hm0⟩:=hw.1.open
 obtain ⟨a1,n1,c1,rfl,H1,hm1⟩:=hw.2.open
 have hTi:(T:Int)<(N:Int):=by omega
 have lm:=hm.lt
 have lo:=ho.lt
 have Hs:=Lib.hid hs
 have HC:=Lib.hid hcall
 clear hs hcall
 go_enter Tryz.func39,Tryz.ntmps39
 go_wp2_with fail
 obtain ⟨W0,an⟩:∃ W0,w.alloc (.cells #[.int .i64 6,.int .i64 (T:Int),.int .i64 xa,.int .i64 xb,.bool ng,.slice a0 n0 c0,.slice a1 n1 c1] 49)=W0:=⟨_,rfl⟩
 have ap:=Lib.hid (show ∀ W',Below W0.heap.size W0 W'->(W'.cell? ⟨w.heap.size,0,none⟩=some (.int .i64 6)/\W'.cell? ⟨w.heap.size,1,none⟩=some (.int .i64 (T:Int))/\W'.cell? ⟨w.heap.size,2,none⟩=some (.int .i64 xa)/\W'.cell? ⟨w.heap.size,3,none⟩=some (.int .i64 xb)/\W'.cell? ⟨w.heap.size,4,none⟩=some (.bool ng)/\W'.cell? ⟨w.heap.size,5,none⟩=some (.slice a0 n0 c0)/\W'.cell? ⟨w.heap.size,6,none⟩=some (.slice a1 n1 c1)) from fun W' hb =>
  by and_intros <;> exact kc hb (by first|assumption|(rw [<- an];simp [go_sem])))
 have cE:=Lib.hid (show ∀ W',Below W0.heap.size W0 W'->(W'.frozen? ⟨w.heap.size,0,none⟩=false/\W'.frozen? ⟨w.heap.size,1,none⟩=false/\W'.frozen? ⟨w.heap.size,2,none⟩=false/\W'.frozen? ⟨w.heap.size,3,none⟩=false/\W'.frozen? ⟨w.heap.size,4,none⟩=false/\W'.frozen? ⟨w.heap.size,5,none⟩=false/\W'.frozen? ⟨w.heap.size,6,none⟩=false) from fun W' hb =>
  by and_intros <;> refine (hb.frozen ?_).trans ?_ <;> first|assumption|(rw [<- an];simp [go_sem])|(rw [<- an];simp <;> omega))
 have cF:=Lib.hid (show ∀ W',Below W0.heap.size W0 W'->(w.heap.size<W'.heap.size) from fun W' hb =>
  Nat.lt_of_lt_of_le (by rw [<- an];simp <;> omega) hb.size)
 have zb:Below w.heap.size w W0:=by rw [<- an];exact bN _ _
 rw [an]
 clear an
 have i0:=hw.to zb
 have i1:=hm.to zb
 have i2:=ho.to zb
 have gb:Below W0.heap.size W0 W0:=Below.refl _ _
 obtain ⟨ae,af,ag,az,aA,bf,bh⟩:=ap.out _ gb
 obtain ⟨ah,ak,al,aJ,aK,bm,bn⟩:=cE.out _ gb
 obtain z0:=cF.out _ gb
 obtain ⟨e0,e1,e2,e3,e4⟩:=(i1.to gb)
 obtain ⟨o0,o1,o2,q0,q1,q2⟩:=(i2.to gb)
 go_wp2_with fail
 have htab:=tab_6
 have hgb:=gb
 go_upto_region 4 with fail
 go_cut [5,6] from 28 (fun s5 s6 wx => zcg W0 (v) s5 wx/\s6=.int .i64 0)
 case first =>
  go_region_held3 (fun W' => W'.cell? ⟨w.heap.size,0,none⟩=some (.int .i64 6)/\W'.cell? ⟨w.heap.size,1,none⟩=some (.int .i64 (T:Int))/\W'.cell? ⟨w.heap.size,2,none⟩=some (.int .i64 xa)/\W'.cell? ⟨w.heap.size,3,none⟩=some (.int .i64 xb)/\W'.cell? ⟨w.heap.size,4,none⟩=some (.bool ng)/\W'.cell? ⟨w.heap.size,5,none⟩=some (.slice a0 n0 c0)/\W'.cell? ⟨w.heap.size,6,none⟩=some (.slice a1 n1 c1)) (first|(with_reducible exact ap.out _ gb)|((with_reducible refine ap.out _ ?_);repeat' (first|(with_reducible exact gb)|(with_reducible refine Below.drew ?_)|(with_reducible refine bS ?_ (bN _ _))|(with_reducible refine bT ?_ ?_ _ _ _)|(with_reducible exact aL)|(with_reducible exact aM)|omega))) (first
   | (go_at_call 97;(refine zl w1 (by with_reducible first|exact Below.refl _ _|exact bN _ _) ?_);intro V2 dY ch;have ep:=ch.size;have dH:=gb.size;have gb:=bS gb ch;(try have am:=am.to ch);(try have aN:Tri V2 (w1.heap.size) (.bool false) (.slice none 0 0) (.slice none 0 0):=(by rw [dY];with_reducible first|exact zi _ (.bool false) (.slice none 0 0) (.slice none 0 0) _|exact (zi _ (.bool false) (.slice none 0 0) (.slice none 0 0) _).alloc _));have aM:W0.heap.size<=w1.heap.size:=(dH);(try have a9:=am.lt);(try have bc:=aN.lt);(with_reducible refine (HC.out _ (bS zb gb)).mono ?_);rintro e w2 ⟨ng2,a2_,n2_,c2_,p2_,m2_,k2_,rfl,g2,aZ⟩;have gb:=bS gb aZ;have dZ:=aZ.size;(try have am:=am.to aZ);(try have aN:=aN.to aZ);(try have cn:=am.lt);(try have cq:=aN.lt);(try (have bj:=am;obtain ⟨bx,bA,bB,bE,bH,bJ⟩:=bj));(try (have cf:=aN;obtain ⟨cH,cI,cK,cL,cM,cN⟩:=cf)))
   | (go_at_call 65;(refine zl W0 (by with_reducible first|exact (Below.refl _ _).drew|exact (bN _ _).drew) ?_);intro V1 dX cG;have eo:=cG.size;have dG:=gb.size;have gb:=bS gb cG;(try have am:Tri V1 (W0.heap.size) (.bool false) (.slice none 0 0) (.slice none 0 0):=(by rw [dX];with_reducible first|exact (zi _ (.bool false) (.slice none 0 0) (.slice none 0 0) _).drew|exact ((zi _ (.bool false) (.slice none 0 0) (.slice none 0 0) _).alloc _).drew));have aL:W0.heap.size<=W0.heap.size:=(dG);(try have bk:=am.lt);(with_reducible refine (zbl _).mono ?_);rintro e w1 ⟨rfl,be⟩;have gb:=bS gb be;have dD:=be.size;(try have am:=am.to be);(try have bw:=am.lt);(try (have bj:=am;obtain ⟨bx,bA,bB,bE,bH,bJ⟩:=bj))))
  all_goals (go_wp2_with fail;go_meet)
  all_goals refine ⟨?_,rfl⟩
  all_goals first
   | (with_reducible exact zO am g2 (.inl a9) gb aL)
   | (with_reducible exact zO aN g2 (.inl bc) gb aM)
   | (with_reducible exact zbq g2 gb)
 case rest =>
 obtain ⟨⟨B3,ng2,a2_,n2_,c2_,p2_,m2_,k2_,lo3,hi3,rfl,hB3,T3,g2,hc3⟩,rfl⟩:=hcut
 clear ae ah af ak ag al az aJ aA aK bf bm bh bn e0 e1 e2 e3 e4 o0 o1 o2 q0 q1 q2
 have gb:=hc3
 obtain ⟨ae,af,ag,az,aA,bf,bh⟩:=ap.out _ gb
 obtain ⟨ah,ak,al,aJ,aK,bm,bn⟩:=cE.out _ gb
 obtain z0:=cF.out _ gb
 obtain ⟨e0,e1,e2,e3,e4⟩:=(i1.to gb)
 obtain ⟨o0,o1,o2,q0,q1,q2⟩:=(i2.to gb)
 have z3:=T3.lt
 obtain ⟨cZ,da,dj,de,dg,dk⟩:=T3
 clear hgb
 obtain ⟨W1,aO⟩:∃ W,wc=W:=⟨_,rfl⟩
 subst aO
 replace i0:=i0.to gb
 replace i1:=i1.to gb
 replace i2:=i2.to gb
 replace zb:=bS zb gb
 have HXwc:=Lib.hid (show ∀ W',Below wc.heap.size wc W'->(Bx7 W' w.heap.size (.int .i64 6) (.int .i64 (T:Int)) (.int .i64 xa) (.int .i64 xb) (.bool ng) (.slice a0 n0 c0) (.slice a1 n1 c1)/\Bx3 W' B3 (.bool ng2) (.slice a2_ n2_ c2_) (.slice p2_ m2_ k2_)) from fun W' hb => by
   refine ⟨bx7 hb ?_ ?_ ?_ ?_ ?_ ?_ ?_ ?_ ?_ ?_ ?_ ?_ ?_ ?_,bx3 hb ?_ ?_ ?_ ?_ ?_ ?_⟩
   all_goals first|assumption|assumption)
 replace gb:=Below.refl wc.heap.size wc
 go_wp2_with fail
 obtain ⟨m,hm9⟩:∃ m:Nat,((max (za v.num.natAbs).length (za v.den).length:Nat))=m:=⟨_,rfl⟩
 have HM:=Lib.hid (show ((max (za v.num.natAbs).length (za v.den).length:Nat):Int)=(m:Int) by rw [hm9])
 have hm4:m<=4096:=by have:=Hs.out;unfold szq at this;rw [ze,ze] at hm9;omega
 have t4:decide (4096<m)=false:=decide_eq_false (by omega)
 have t5:decide ((4096:Int)<(m:Int))=false:=decide_eq_false (by omega)
 clear hm9 hm4
 refine (zar ng2 _ _ _ _ _ (g2.to gb).isF (m:Int) HM.out).mono ?_
 clear ae ah af ak ag al az aJ aA aK bf bm bh bn cZ de da dg dj dk e0 e1 e2 e3 e4 o0 o1 o2 q0 q1 q2
 rintro e w3 ⟨rfl,cl⟩
 replace gb:=bS gb cl
 obtain ⟨⟨z0,ae,af,ag,az,aA,bf,bh,ah,ak,al,aJ,aK,bm,bn⟩,⟨z3,cZ,da,dj,de,dg,dk⟩⟩:=HXwc.out _ gb
 obtain ⟨e0,e1,e2,e3,e4⟩:=(i1.to gb)
 obtain ⟨o0,o1,o2,q0,q1,q2⟩:=(i2.to gb)
 go_wp2_with fail
 go_region
 go_wp2_with fail
 go_ret
 exact ⟨_,_,_,_,rfl,bS zb gb,(g2.to gb).isK,.inr rfl⟩

theorem zlc (mB g N:Nat) (u vJ:Value) (rows cols:Int) (T:Nat) (xa xb:Int) (ng:Bool) (vn vd:Value) (ln ld:List Nat) (d0 d1 d2:Value) {v:Rat}  (w:World) (hw:IsF w vn vd ln ld) (hm:zM w mB g N u vJ rows cols) (hN:N<=100000) (hT:T<N) (ho:zai w g (T*3) d0 d1 d2) (hs:szq v<=4096) (hcall:∀ V,Below w.heap.size w V->Calls Tryz.prog 98 #[.pointer (some ⟨mB,0,none⟩),.agg #[.int .i64 7,.int .i64 (T:Int),.int .i64 xa,.int .i64 xb,.bool ng,vn,vd]] V (zL V v))  :
  Calls Tryz.prog 39 #[.pointer (some ⟨mB,0,none⟩),.agg #[.int .i64 7,.int .i64 (T:Int),.int .i64 xa,.int .i64 xb,.bool ng,vn,vd]] w (zcQ w g (T*3) v):=by
 obtain ⟨a0,n0,c0,rfl,H0,hm0⟩:=hw.1.open
 obtain ⟨a1,n1,c1,rfl,H1,hm1⟩:=hw.2.open
 have hTi:(T:Int)<(N:Int):=by omega
 have lm:=hm.lt
 have lo:=ho.lt
 have Hs:=Lib.hid hs
 have HC:=Lib.hid hcall
 clear hs hcall
 go_enter Tryz.func39,Tryz.ntmps39
 go_wp2_with fail
 obtain ⟨W0,an⟩:∃ W0,w.alloc (.cells #[.int .i64 7,.int .i64 (T:Int),.int .i64 xa,.int .i64 xb,.bool ng,.slice a0 n0 c0,.slice a1 n1 c1] 49)=W0:=⟨_,rfl⟩
 have ap:=Lib.hid (show ∀ W',Below W0.heap.size W0 W'->(W'.cell? ⟨w.heap.size,0,none⟩=some (.int .i64 7)/\W'.cell? ⟨w.heap.size,1,none⟩=some (.int .i64 (T:Int))/\W'.cell? ⟨w.heap.size,2,none⟩=some (.int .i64 xa)/\W'.cell? ⟨w.heap.size,3,none⟩=some (.int .i64 xb)/\W'.cell? ⟨w.heap.size,4,none⟩=some (.bool ng)/\W'.cell? ⟨w.heap.size,5,none⟩=some (.slice a0 n0 c0)/\W'.cell? ⟨w.heap.size,6,none⟩=some (.slice a1 n1 c1)) from fun W' hb =>
  by and_intros <;> exact kc hb (by first|assumption|(rw [<- an];simp [go_sem])))
 have cE:=Lib.hid (show ∀ W',Below W0.heap.size W0 W'->(W'.frozen? ⟨w.heap.size,0,none⟩=false/\W'.frozen? ⟨w.heap.size,1,none⟩=false/\W'.frozen? ⟨w.heap.size,2,none⟩=false/\W'.frozen? ⟨w.heap.size,3,none⟩=false/\W'.frozen? ⟨w.heap.size,4,none⟩=false/\W'.frozen? ⟨w.heap.size,5,none⟩=false/\W'.frozen? ⟨w.heap.size,6,none⟩=false) from fun W' hb =>
  by and_intros <;> refine (hb.frozen ?_).trans ?_ <;> first|assumption|(rw [<- an];simp [go_sem])|(rw [<- an];simp <;> omega))
 have cF:=Lib.hid (show ∀ W',Below W0.heap.size W0 W'->(w.heap.size<W'.heap.size) from fun W' hb =>
  Nat.lt_of_lt_of_le (by rw [<- an];simp <;> omega) hb.size)
 have zb:Below w.heap.size w W0:=by rw [<- an];exact bN _ _
 rw [an]
 clear an
 have i0:=hw.to zb
 have i1:=hm.to zb
 have i2:=ho.to zb
 have gb:Below W0.heap.size W0 W0:=Below.refl _ _
 obtain ⟨ae,af,ag,az,aA,bf,bh⟩:=ap.out _ gb
 obtain ⟨ah,ak,al,aJ,aK,bm,bn⟩:=cE.out _ gb
 obtain z0:=cF.out _ gb
 obtain ⟨e0,e1,e2,e3,e4⟩:=(i1.to gb)
 obtain ⟨o0,o1,o2,q0,q1,q2⟩:=(i2.to gb)
 go_wp2_with fail
 have htab:=tab_7
 have hgb:=gb
 go_upto_region 4 with fail
 go_cut [5,6] from 28 (fun s5 s6 wx => zcg W0 (v) s5 wx/\s6=.int .i64 0)
 case first =>
  go_region_held3 (fun W' => W'.cell? ⟨w.heap.size,0,none⟩=some (.int .i64 7)/\W'.cell? ⟨w.heap.size,1,none⟩=some (.int .i64 (T:Int))/\W'.cell? ⟨w.heap.size,2,none⟩=some (.int .i64 xa)/\W'.cell? ⟨w.heap.size,3,none⟩=some (.int .i64 xb)/\W'.cell? ⟨w.heap.size,4,none⟩=some (.bool ng)/\W'.cell? ⟨w.heap.size,5,none⟩=some (.slice a0 n0 c0)/\W'.cell? ⟨w.heap.size,6,none⟩=some (.slice a1 n1 c1)) (first|(with_reducible exact ap.out _ gb)|((with_reducible refine ap.out _ ?_);repeat' (first|(with_reducible exact gb)|(with_reducible refine Below.drew ?_)|(with_reducible refine bS ?_ (bN _ _))|(with_reducible refine bT ?_ ?_ _ _ _)|(with_reducible exact aL)|(with_reducible exact aM)|omega))) (first
   | (go_at_call 98;(refine zl w1 (by with_reducible first|exact Below.refl _ _|exact bN _ _) ?_);intro V2 dY ch;have ep:=ch.size;have dH:=gb.size;have gb:=bS gb ch;(try have am:=am.to ch);(try have aN:Tri V2 (w1.heap.size) (.bool false) (.slice none 0 0) (.slice none 0 0):=(by rw [dY];with_reducible first|exact zi _ (.bool false) (.slice none 0 0) (.slice none 0 0) _|exact (zi _ (.bool false) (.slice none 0 0) (.slice none 0 0) _).alloc _));have aM:W0.heap.size<=w1.heap.size:=(dH);(try have a9:=am.lt);(try have bc:=aN.lt);(with_reducible refine (HC.out _ (bS zb gb)).mono ?_);rintro e w2 ⟨ng2,a2_,n2_,c2_,p2_,m2_,k2_,rfl,g2,aZ⟩;have gb:=bS gb aZ;have dZ:=aZ.size;(try have am:=am.to aZ);(try have aN:=aN.to aZ);(try have cn:=am.lt);(try have cq:=aN.lt);(try (have bj:=am;obtain ⟨bx,bA,bB,bE,bH,bJ⟩:=bj));(try (have cf:=aN;obtain ⟨cH,cI,cK,cL,cM,cN⟩:=cf)))
   | (go_at_call 65;(refine zl W0 (by with_reducible first|exact (Below.refl _ _).drew|exact (bN _ _).drew) ?_);intro V1 dX cG;have eo:=cG.size;have dG:=gb.size;have gb:=bS gb cG;(try have am:Tri V1 (W0.heap.size) (.bool false) (.slice none 0 0) (.slice none 0 0):=(by rw [dX];with_reducible first|exact (zi _ (.bool false) (.slice none 0 0) (.slice none 0 0) _).drew|exact ((zi _ (.bool false) (.slice none 0 0) (.slice none 0 0) _).alloc _).drew));have aL:W0.heap.size<=W0.heap.size:=(dG);(try have bk:=am.lt);(with_reducible refine (zbl _).mono ?_);rintro e w1 ⟨rfl,be⟩;have gb:=bS gb be;have dD:=be.size;(try have am:=am.to be);(try have bw:=am.lt);(try (have bj:=am;obtain ⟨bx,bA,bB,bE,bH,bJ⟩:=bj))))
  all_goals (go_wp2_with fail;go_meet)
  all_goals refine ⟨?_,rfl⟩
  all_goals first
   | (with_reducible exact zO am g2 (.inl a9) gb aL)
   | (with_reducible exact zO aN g2 (.inl bc) gb aM)
   | (with_reducible exact zbq g2 gb)
 case rest =>
 obtain ⟨⟨B3,ng2,a2_,n2_,c2_,p2_,m2_,k2_,lo3,hi3,rfl,hB3,T3,g2,hc3⟩,rfl⟩:=hcut
 clear ae ah af ak ag al az aJ aA aK bf bm bh bn e0 e1 e2 e3 e4 o0 o1 o2 q0 q1 q2
 have gb:=hc3
 obtain ⟨ae,af,ag,az,aA,bf,bh⟩:=ap.out _ gb
 obtain ⟨ah,ak,al,aJ,aK,bm,bn⟩:=cE.out _ gb
 obtain z0:=cF.out _ gb
 obtain ⟨e0,e1,e2,e3,e4⟩:=(i1.to gb)
 obtain ⟨o0,o1,o2,q0,q1,q2⟩:=(i2.to gb)
 have z3:=T3.lt
 obtain ⟨cZ,da,dj,de,dg,dk⟩:=T3
 clear hgb
 obtain ⟨W1,aO⟩:∃ W,wc=W:=⟨_,rfl⟩
 subst aO
 replace i0:=i0.to gb
 replace i1:=i1.to gb
 replace i2:=i2.to gb
 replace zb:=bS zb gb
 have HXwc:=Lib.hid (show ∀ W',Below wc.heap.size wc W'->(Bx7 W' w.heap.size (.int .i64 7) (.int .i64 (T:Int)) (.int .i64 xa) (.int .i64 xb) (.bool ng) (.slice a0 n0 c0) (.slice a1 n1 c1)/\Bx3 W' B3 (.bool ng2) (.slice a2_ n2_ c2_) (.slice p2_ m2_ k2_)) from fun W' hb => by
   refine ⟨bx7 hb ?_ ?_ ?_ ?_ ?_ ?_ ?_ ?_ ?_ ?_ ?_ ?_ ?_ ?_,bx3 hb ?_ ?_ ?_ ?_ ?_ ?_⟩
   all_goals first|assumption|assumption)
 replace gb:=Below.refl wc.heap.size wc
 go_wp2_with fail
 obtain ⟨m,hm9⟩:∃ m:Nat,((max (za v.num.natAbs).length (za v.den).length:Nat))=m:=⟨_,rfl⟩
 have HM:=Lib.hid (show ((max (za v.num.natAbs).length (za v.den).length:Nat):Int)=(m:Int) by rw [hm9])
 have hm4:m<=4096:=by have:=Hs.out;unfold szq at this;rw [ze,ze] at hm9;omega
 have t4:decide (4096<m)=false:=decide_eq_false (by omega)
 have t5:decide ((4096:Int)<(m:Int))=false:=decide_eq_false (by omega)
 clear hm9 hm4
 refine (zar ng2 _ _ _ _ _ (g2.to gb).isF (m:Int) HM.out).mono ?_
 clear ae ah af ak ag al az aJ aA aK bf bm bh bn cZ de da dg dj dk e0 e1 e2 e3 e4 o0 o1 o2 q0 q1 q2
 rintro e w3 ⟨rfl,cl⟩
 replace gb:=bS gb cl
 obtain ⟨⟨z0,ae,af,ag,az,aA,bf,bh,ah,ak,al,aJ,aK,bm,bn⟩,⟨z3,cZ,da,dj,de,dg,dk⟩⟩:=HXwc.out _ gb
 obtain ⟨e0,e1,e2,e3,e4⟩:=(i1.to gb)
 obtain ⟨o0,o1,o2,q0,q1,q2⟩:=(i2.to gb)
 go_wp2_with fail
 go_region
 go_wp2_with fail
 go_ret
 exact ⟨_,_,_,_,rfl,bS zb gb,(g2.to gb).isK,.inr rfl⟩

theorem zld (mB g N:Nat) (u vJ:Value) (rows cols:Int) (T:Nat) (xa xb:Int) (ng:Bool) (vn vd:Value) (ln ld:List Nat) (d0 d1 d2:Value) {v:Rat}  (w:World) (hw:IsF w vn vd ln ld) (hm:zM w mB g N u vJ rows cols) (hN:N<=100000) (hT:T<N) (ho:zai w g (T*3) d0 d1 d2) (hs:szq v<=4096) (hcall:∀ V,Below w.heap.size w V->Calls Tryz.prog 95 #[.pointer (some ⟨mB,0,none⟩),.agg #[.int .i64 8,.int .i64 (T:Int),.int .i64 xa,.int .i64 xb,.bool ng,vn,vd]] V (zL V v))  :
  Calls Tryz.prog 39 #[.pointer (some ⟨mB,0,none⟩),.agg #[.int .i64 8,.int .i64 (T:Int),.int .i64 xa,.int .i64 xb,.bool ng,vn,vd]] w (zcQ w g (T*3) v):=by
 obtain ⟨a0,n0,c0,rfl,H0,hm0⟩:=hw.1.open
 obtain ⟨a1,n1,c1,rfl,H1,hm1⟩:=hw.2.open
 have hTi:(T:Int)<(N:Int):=by omega
 have lm:=hm.lt
 have lo:=ho.lt
 have Hs:=Lib.hid hs
 have HC:=Lib.hid hcall
 clear hs hcall
 go_enter Tryz.func39,Tryz.ntmps39
 go_wp2_with fail
 obtain ⟨W0,an⟩:∃ W0,w.alloc (.cells #[.int .i64 8,.int .i64 (T:Int),.int .i64 xa,.int .i64 xb,.bool ng,.slice a0 n0 c0,.slice a1 n1 c1] 49)=W0:=⟨_,rfl⟩
 have ap:=Lib.hid (show ∀ W',Below W0.heap.size W0 W'->(W'.cell? ⟨w.heap.size,0,none⟩=some (.int .i64 8)/\W'.cell? ⟨w.heap.size,1,none⟩=some (.int .i64 (T:Int))/\W'.cell? ⟨w.heap.size,2,none⟩=some (.int .i64 xa)/\W'.cell? ⟨w.heap.size,3,none⟩=some (.int .i64 xb)/\W'.cell? ⟨w.heap.size,4,none⟩=some (.bool ng)/\W'.cell? ⟨w.heap.size,5,none⟩=some (.slice a0 n0 c0)/\W'.cell? ⟨w.heap.size,6,none⟩=some (.slice a1 n1 c1)) from fun W' hb =>
  by and_intros <;> exact kc hb (by first|assumption|(rw [<- an];simp [go_sem])))
 have cE:=Lib.hid (show ∀ W',Below W0.heap.size W0 W'->(W'.frozen? ⟨w.heap.size,0,none⟩=false/\W'.frozen? ⟨w.heap.size,1,none⟩=false/\W'.frozen? ⟨w.heap.size,2,none⟩=false/\W'.frozen? ⟨w.heap.size,3,none⟩=false/\W'.frozen? ⟨w.heap.size,4,none⟩=false/\W'.frozen? ⟨w.heap.size,5,none⟩=false/\W'.frozen? ⟨w.heap.size,6,none⟩=false) from fun W' hb =>
  by and_intros <;> refine (hb.frozen ?_).trans ?_ <;> first|assumption|(rw [<- an];simp [go_sem])|(rw [<- an];simp <;> omega))
 have cF:=Lib.hid (show ∀ W',Below W0.heap.size W0 W'->(w.heap.size<W'.heap.size) from fun W' hb =>
  Nat.lt_of_lt_of_le (by rw [<- an];simp <;> omega) hb.size)
 have zb:Below w.heap.size w W0:=by rw [<- an];exact bN _ _
 rw [an]
 clear an
 have i0:=hw.to zb
 have i1:=hm.to zb
 have i2:=ho.to zb
 have gb:Below W0.heap.size W0 W0:=Below.refl _ _
 obtain ⟨ae,af,ag,az,aA,bf,bh⟩:=ap.out _ gb
 obtain ⟨ah,ak,al,aJ,aK,bm,bn⟩:=cE.out _ gb
 obtain z0:=cF.out _ gb
 obtain ⟨e0,e1,e2,e3,e4⟩:=(i1.to gb)
 obtain ⟨o0,o1,o2,q0,q1,q2⟩:=(i2.to gb)
 go_wp2_with fail
 have htab:=tab_8
 have hgb:=gb
 go_upto_region 4 with fail
 go_cut [5,6] from 28 (fun s5 s6 wx => zcg W0 (v) s5 wx/\s6=.int .i64 0)
 case first =>
  go_region_held3 (fun W' => W'.cell? ⟨w.heap.size,0,none⟩=some (.int .i64 8)/\W'.cell? ⟨w.heap.size,1,none⟩=some (.int .i64 (T:Int))/\W'.cell? ⟨w.heap.size,2,none⟩=some (.int .i64 xa)/\W'.cell? ⟨w.heap.size,3,none⟩=some (.int .i64 xb)/\W'.cell? ⟨w.heap.size,4,none⟩=some (.bool ng)/\W'.cell? ⟨w.heap.size,5,none⟩=some (.slice a0 n0 c0)/\W'.cell? ⟨w.heap.size,6,none⟩=some (.slice a1 n1 c1)) (first|(with_reducible exact ap.out _ gb)|((with_reducible refine ap.out _ ?_);repeat' (first|(with_reducible exact gb)|(with_reducible refine Below.drew ?_)|(with_reducible refine bS ?_ (bN _ _))|(with_reducible refine bT ?_ ?_ _ _ _)|(with_reducible exact aL)|(with_reducible exact aM)|omega))) (first
   | (go_at_call 95;(refine zl w1 (by with_reducible first|exact Below.refl _ _|exact bN _ _) ?_);intro V2 dY ch;have ep:=ch.size;have dH:=gb.size;have gb:=bS gb ch;(try have am:=am.to ch);(try have aN:Tri V2 (w1.heap.size) (.bool false) (.slice none 0 0) (.slice none 0 0):=(by rw [dY];with_reducible first|exact zi _ (.bool false) (.slice none 0 0) (.slice none 0 0) _|exact (zi _ (.bool false) (.slice none 0 0) (.slice none 0 0) _).alloc _));have aM:W0.heap.size<=w1.heap.size:=(dH);(try have a9:=am.lt);(try have bc:=aN.lt);(with_reducible refine (HC.out _ (bS zb gb)).mono ?_);rintro e w2 ⟨ng2,a2_,n2_,c2_,p2_,m2_,k2_,rfl,g2,aZ⟩;have gb:=bS gb aZ;have dZ:=aZ.size;(try have am:=am.to aZ);(try have aN:=aN.to aZ);(try have cn:=am.lt);(try have cq:=aN.lt);(try (have bj:=am;obtain ⟨bx,bA,bB,bE,bH,bJ⟩:=bj));(try (have cf:=aN;obtain ⟨cH,cI,cK,cL,cM,cN⟩:=cf)))
   | (go_at_call 65;(refine zl W0 (by with_reducible first|exact (Below.refl _ _).drew|exact (bN _ _).drew) ?_);intro V1 dX cG;have eo:=cG.size;have dG:=gb.size;have gb:=bS gb cG;(try have am:Tri V1 (W0.heap.size) (.bool false) (.slice none 0 0) (.slice none 0 0):=(by rw [dX];with_reducible first|exact (zi _ (.bool false) (.slice none 0 0) (.slice none 0 0) _).drew|exact ((zi _ (.bool false) (.slice none 0 0) (.slice none 0 0) _).alloc _).drew));have aL:W0.heap.size<=W0.heap.size:=(dG);(try have bk:=am.lt);(with_reducible refine (zbl _).mono ?_);rintro e w1 ⟨rfl,be⟩;have gb:=bS gb be;have dD:=be.size;(try have am:=am.to be);(try have bw:=am.lt);(try (have bj:=am;obtain ⟨bx,bA,bB,bE,bH,bJ⟩:=bj))))
  all_goals (go_wp2_with fail;go_meet)
  all_goals refine ⟨?_,rfl⟩
  all_goals first
   | (with_reducible exact zO am g2 (.inl a9) gb aL)
   | (with_reducible exact zO aN g2 (.inl bc) gb aM)
   | (with_reducible exact zbq g2 gb)
 case rest =>
 obtain ⟨⟨B3,ng2,a2_,n2_,c2_,p2_,m2_,k2_,lo3,hi3,rfl,hB3,T3,g2,hc3⟩,rfl⟩:=hcut
 clear ae ah af ak ag al az aJ aA aK bf bm bh bn e0 e1 e2 e3 e4 o0 o1 o2 q0 q1 q2
 have gb:=hc3
 obtain ⟨ae,af,ag,az,aA,bf,bh⟩:=ap.out _ gb
 obtain ⟨ah,ak,al,aJ,aK,bm,bn⟩:=cE.out _ gb
 obtain z0:=cF.out _ gb
 obtain ⟨e0,e1,e2,e3,e4⟩:=(i1.to gb)
 obtain ⟨o0,o1,o2,q0,q1,q2⟩:=(i2.to gb)
 have z3:=T3.lt
 obtain ⟨cZ,da,dj,de,dg,dk⟩:=T3
 clear hgb
 obtain ⟨W1,aO⟩:∃ W,wc=W:=⟨_,rfl⟩
 subst aO
 replace i0:=i0.to gb
 replace i1:=i1.to gb
 replace i2:=i2.to gb
 replace zb:=bS zb gb
 have HXwc:=Lib.hid (show ∀ W',Below wc.heap.size wc W'->(Bx7 W' w.heap.size (.int .i64 8) (.int .i64 (T:Int)) (.int .i64 xa) (.int .i64 xb) (.bool ng) (.slice a0 n0 c0) (.slice a1 n1 c1)/\Bx3 W' B3 (.bool ng2) (.slice a2_ n2_ c2_) (.slice p2_ m2_ k2_)) from fun W' hb => by
   refine ⟨bx7 hb ?_ ?_ ?_ ?_ ?_ ?_ ?_ ?_ ?_ ?_ ?_ ?_ ?_ ?_,bx3 hb ?_ ?_ ?_ ?_ ?_ ?_⟩
   all_goals first|assumption|assumption)
 replace gb:=Below.refl wc.heap.size wc
 go_wp2_with fail
 obtain ⟨m,hm9⟩:∃ m:Nat,((max (za v.num.natAbs).length (za v.den).length:Nat))=m:=⟨_,rfl⟩
 have HM:=Lib.hid (show ((max (za v.num.natAbs).length (za v.den).length:Nat):Int)=(m:Int) by rw [hm9])
 have hm4:m<=4096:=by have:=Hs.out;unfold szq at this;rw [ze,ze] at hm9;omega
 have t4:decide (4096<m)=false:=decide_eq_false (by omega)
 have t5:decide ((4096:Int)<(m:Int))=false:=decide_eq_false (by omega)
 clear hm9 hm4
 refine (zar ng2 _ _ _ _ _ (g2.to gb).isF (m:Int) HM.out).mono ?_
 clear ae ah af ak ag al az aJ aA aK bf bm bh bn cZ de da dg dj dk e0 e1 e2 e3 e4 o0 o1 o2 q0 q1 q2
 rintro e w3 ⟨rfl,cl⟩
 replace gb:=bS gb cl
 obtain ⟨⟨z0,ae,af,ag,az,aA,bf,bh,ah,ak,al,aJ,aK,bm,bn⟩,⟨z3,cZ,da,dj,de,dg,dk⟩⟩:=HXwc.out _ gb
 obtain ⟨e0,e1,e2,e3,e4⟩:=(i1.to gb)
 obtain ⟨o0,o1,o2,q0,q1,q2⟩:=(i2.to gb)
 go_wp2_with fail
 go_region
 go_wp2_with fail
 go_ret
 exact ⟨_,_,_,_,rfl,bS zb gb,(g2.to gb).isK,.inr rfl⟩

theorem zle (mB g N:Nat) (u vJ:Value) (rows cols:Int) (T:Nat) (xa xb:Int) (ng:Bool) (vn vd:Value) (ln ld:List Nat) (d0 d1 d2:Value) {v:Rat}  (w:World) (hw:IsF w vn vd ln ld) (hm:zM w mB g N u vJ rows cols) (hN:N<=100000) (hT:T<N) (ho:zai w g (T*3) d0 d1 d2) (hs:szq v<=4096) (hcall:∀ V,Below w.heap.size w V->Calls Tryz.prog 93 #[.pointer (some ⟨mB,0,none⟩),.agg #[.int .i64 9,.int .i64 (T:Int),.int .i64 xa,.int .i64 xb,.bool ng,vn,vd]] V (zL V v))  :
  Calls Tryz.prog 39 #[.pointer (some ⟨mB,0,none⟩),.agg #[.int .i64 9,.int .i64 (T:Int),.int .i64 xa,.int .i64 xb,.bool ng,vn,vd]] w (zcQ w g (T*3) v):=by
 obtain ⟨a0,n0,c0,rfl,H0,hm0⟩:=hw.1.open
 obtain ⟨a1,n1,c1,rfl,H1,hm1⟩:=hw.2.open
 have hTi:(T:Int)<(N:Int):=by omega
 have lm:=hm.lt
 have lo:=ho.lt
 have Hs:=Lib.hid hs
 have HC:=Lib.hid hcall
 clear hs hcall
 go_enter Tryz.func39,Tryz.ntmps39
 go_wp2_with fail
 obtain ⟨W0,an⟩:∃ W0,w.alloc (.cells #[.int .i64 9,.int .i64 (T:Int),.int .i64 xa,.int .i64 xb,.bool ng,.slice a0 n0 c0,.slice a1 n1 c1] 49)=W0:=⟨_,rfl⟩
 have ap:=Lib.hid (show ∀ W',Below W0.heap.size W0 W'->(W'.cell? ⟨w.heap.size,0,none⟩=some (.int .i64 9)/\W'.cell? ⟨w.heap.size,1,none⟩=some (.int .i64 (T:Int))/\W'.cell? ⟨w.heap.size,2,none⟩=some (.int .i64 xa)/\W'.cell? ⟨w.heap.size,3,none⟩=some (.int .i64 xb)/\W'.cell? ⟨w.heap.size,4,none⟩=some (.bool ng)/\W'.cell? ⟨w.heap.size,5,none⟩=some (.slice a0 n0 c0)/\W'.cell? ⟨w.heap.size,6,none⟩=some (.slice a1 n1 c1)) from fun W' hb =>
  by and_intros <;> exact kc hb (by first|assumption|(rw [<- an];simp [go_sem])))
 have cE:=Lib.hid (show ∀ W',Below W0.heap.size W0 W'->(W'.frozen? ⟨w.heap.size,0,none⟩=false/\W'.frozen? ⟨w.heap.size,1,none⟩=false/\W'.frozen? ⟨w.heap.size,2,none⟩=false/\W'.frozen? ⟨w.heap.size,3,none⟩=false/\W'.frozen? ⟨w.heap.size,4,none⟩=false/\W'.frozen? ⟨w.heap.size,5,none⟩=false/\W'.frozen? ⟨w.heap.size,6,none⟩=false) from fun W' hb =>
  by and_intros <;> refine (hb.frozen ?_).trans ?_ <;> first|assumption|(rw [<- an];simp [go_sem])|(rw [<- an];simp <;> omega))
 have cF:=Lib.hid (show ∀ W',Below W0.heap.size W0 W'->(w.heap.size<W'.heap.size) from fun W' hb =>
  Nat.lt_of_lt_of_le (by rw [<- an];simp <;> omega) hb.size)
 have zb:Below w.heap.size w W0:=by rw [<- an];exact bN _ _
 rw [an]
 clear an
 have i0:=hw.to zb
 have i1:=hm.to zb
 have i2:=ho.to zb
 have gb:Below W0.heap.size W0 W0:=Below.refl _ _
 obtain ⟨ae,af,ag,az,aA,bf,bh⟩:=ap.out _ gb
 obtain ⟨ah,ak,al,aJ,aK,bm,bn⟩:=cE.out _ gb
 obtain z0:=cF.out _ gb
 obtain ⟨e0,e1,e2,e3,e4⟩:=(i1.to gb)
 obtain ⟨o0,o1,o2,q0,q1,q2⟩:=(i2.to gb)
 go_wp2_with fail
 have htab:=tab_9
 have hgb:=gb
 go_upto_region 4 with fail
 go_cut [5,6] from 28 (fun s5 s6 wx => zcg W0 (v) s5 wx/\s6=.int .i64 0)
 case first =>
  go_region_held3 (fun W' => W'.cell? ⟨w.heap.size,0,none⟩=some (.int .i64 9)/\W'.cell? ⟨w.heap.size,1,none⟩=some (.int .i64 (T:Int))/\W'.cell? ⟨w.heap.size,2,none⟩=some (.int .i64 xa)/\W'.cell? ⟨w.heap.size,3,none⟩=some (.int .i64 xb)/\W'.cell? ⟨w.heap.size,4,none⟩=some (.bool ng)/\W'.cell? ⟨w.heap.size,5,none⟩=some (.slice a0 n0 c0)/\W'.cell? ⟨w.heap.size,6,none⟩=some (.slice a1 n1 c1)) (first|(with_reducible exact ap.out _ gb)|((with_reducible refine ap.out _ ?_);repeat' (first|(with_reducible exact gb)|(with_reducible refine Below.drew ?_)|(with_reducible refine bS ?_ (bN _ _))|(with_reducible refine bT ?_ ?_ _ _ _)|(with_reducible exact aL)|(with_reducible exact aM)|omega))) (first
   | (go_at_call 93;(refine zl w1 (by with_reducible first|exact Below.refl _ _|exact bN _ _) ?_);intro V2 dY ch;have ep:=ch.size;have dH:=gb.size;have gb:=bS gb ch;(try have am:=am.to ch);(try have aN:Tri V2 (w1.heap.size) (.bool false) (.slice none 0 0) (.slice none 0 0):=(by rw [dY];with_reducible first|exact zi _ (.bool false) (.slice none 0 0) (.slice none 0 0) _|exact (zi _ (.bool false) (.slice none 0 0) (.slice none 0 0) _).alloc _));have aM:W0.heap.size<=w1.heap.size:=(dH);(try have a9:=am.lt);(try have bc:=aN.lt);(with_reducible refine (HC.out _ (bS zb gb)).mono ?_);rintro e w2 ⟨ng2,a2_,n2_,c2_,p2_,m2_,k2_,rfl,g2,aZ⟩;have gb:=bS gb aZ;have dZ:=aZ.size;(try have am:=am.to aZ);(try have aN:=aN.to aZ);(try have cn:=am.lt);(try have cq:=aN.lt);(try (have bj:=am;obtain ⟨bx,bA,bB,bE,bH,bJ⟩:=bj));(try (have cf:=aN;obtain ⟨cH,cI,cK,cL,cM,cN⟩:=cf)))
   | (go_at_call 65;(refine zl W0 (by with_reducible first|exact (Below.refl _ _).drew|exact (bN _ _).drew) ?_);intro V1 dX cG;have eo:=cG.size;have dG:=gb.size;have gb:=bS gb cG;(try have am:Tri V1 (W0.heap.size) (.bool false) (.slice none 0 0) (.slice none 0 0):=(by rw [dX];with_reducible first|exact (zi _ (.bool false) (.slice none 0 0) (.slice none 0 0) _).drew|exact ((zi _ (.bool false) (.slice none 0 0) (.slice none 0 0) _).alloc _).drew));have aL:W0.heap.size<=W0.heap.size:=(dG);(try have bk:=am.lt);(with_reducible refine (zbl _).mono ?_);rintro e w1 ⟨rfl,be⟩;have gb:=bS gb be;have dD:=be.size;(try have am:=am.to be);(try have bw:=am.lt);(try (have bj:=am;obtain ⟨bx,bA,bB,bE,bH,bJ⟩:=bj))))
  all_goals (go_wp2_with fail;go_meet)
  all_goals refine ⟨?_,rfl⟩
  all_goals first
   | (with_reducible exact zO am g2 (.inl a9) gb aL)
   | (with_reducible exact zO aN g2 (.inl bc) gb aM)
   | (with_reducible exact zbq g2 gb)
 case rest =>
 obtain ⟨⟨B3,ng2,a2_,n2_,c2_,p2_,m2_,k2_,lo3,hi3,rfl,hB3,T3,g2,hc3⟩,rfl⟩:=hcut
 clear ae ah af ak ag al az aJ aA aK bf bm bh bn e0 e1 e2 e3 e4 o0 o1 o2 q0 q1 q2
 have gb:=hc3
 obtain ⟨ae,af,ag,az,aA,bf,bh⟩:=ap.out _ gb
 obtain ⟨ah,ak,al,aJ,aK,bm,bn⟩:=cE.out _ gb
 obtain z0:=cF.out _ gb
 obtain ⟨e0,e1,e2,e3,e4⟩:=(i1.to gb)
 obtain ⟨o0,o1,o2,q0,q1,q2⟩:=(i2.to gb)
 have z3:=T3.lt
 obtain ⟨cZ,da,dj,de,dg,dk⟩:=T3
 clear hgb
 obtain ⟨W1,aO⟩:∃ W,wc=W:=⟨_,rfl⟩
 subst aO
 replace i0:=i0.to gb
 replace i1:=i1.to gb
 replace i2:=i2.to gb
 replace zb:=bS zb gb
 have HXwc:=Lib.hid (show ∀ W',Below wc.heap.size wc W'->(Bx7 W' w.heap.size (.int .i64 9) (.int .i64 (T:Int)) (.int .i64 xa) (.int .i64 xb) (.bool ng) (.slice a0 n0 c0) (.slice a1 n1 c1)/\Bx3 W' B3 (.bool ng2) (.slice a2_ n2_ c2_) (.slice p2_ m2_ k2_)) from fun W' hb => by
   refine ⟨bx7 hb ?_ ?_ ?_ ?_ ?_ ?_ ?_ ?_ ?_ ?_ ?_ ?_ ?_ ?_,bx3 hb ?_ ?_ ?_ ?_ ?_ ?_⟩
   all_goals first|assumption|assumption)
 replace gb:=Below.refl wc.heap.size wc
 go_wp2_with fail
 obtain ⟨m,hm9⟩:∃ m:Nat,((max (za v.num.natAbs).length (za v.den).length:Nat))=m:=⟨_,rfl⟩
 have HM:=Lib.hid (show ((max (za v.num.natAbs).length (za v.den).length:Nat):Int)=(m:Int) by rw [hm9])
 have hm4:m<=4096:=by have:=Hs.out;unfold szq at this;rw [ze,ze] at hm9;omega
 have t4:decide (4096<m)=false:=decide_eq_false (by omega)
 have t5:decide ((4096:Int)<(m:Int))=false:=decide_eq_false (by omega)
 clear hm9 hm4
 refine (zar ng2 _ _ _ _ _ (g2.to gb).isF (m:Int) HM.out).mono ?_
 clear ae ah af ak ag al az aJ aA aK bf bm bh bn cZ de da dg dj dk e0 e1 e2 e3 e4 o0 o1 o2 q0 q1 q2
 rintro e w3 ⟨rfl,cl⟩
 replace gb:=bS gb cl
 obtain ⟨⟨z0,ae,af,ag,az,aA,bf,bh,ah,ak,al,aJ,aK,bm,bn⟩,⟨z3,cZ,da,dj,de,dg,dk⟩⟩:=HXwc.out _ gb
 obtain ⟨e0,e1,e2,e3,e4⟩:=(i1.to gb)
 obtain ⟨o0,o1,o2,q0,q1,q2⟩:=(i2.to gb)
 go_wp2_with fail
 go_region
 go_wp2_with fail
 go_ret
 exact ⟨_,_,_,_,rfl,bS zb gb,(g2.to gb).isK,.inr rfl⟩

end Go.Proofs.YtkjcdnlpjldhaaaGreat


namespace Go.Proofs.YtkjcdnlpjldhaaaGreat
open Go.RowKit Tw
attribute [local go_sem ↓] Go.wp_at_zero Go.wp_at_succ

theorem ziG (mB g N:Nat) (u vJ:Value) (rows cols:Int) (T:Nat) (xa xb:Int) (ng:Bool) (vn vd:Value) (ln ld:List Nat) (d0 d1 d2:Value)  (w:World) (hw:IsF w vn vd ln ld) (hm:zM w mB g N u vJ rows cols) (hN:N<=100000) (hT:T<N) (ho:zai w g (T*3) d0 d1 d2) (hcall:∀ V,Below w.heap.size w V->Calls Tryz.prog 96 #[.pointer (some ⟨mB,0,none⟩),.agg #[.int .i64 5,.int .i64 (T:Int),.int .i64 xa,.int .i64 xb,.bool ng,vn,vd]] V (fun e w' => e=.returned (.tuple #[aggR false (.slice none 0 0) (.slice none 0 0),.int .i64 3])/\Below V.heap.size V w'))  :
  Calls Tryz.prog 39 #[.pointer (some ⟨mB,0,none⟩),.agg #[.int .i64 5,.int .i64 (T:Int),.int .i64 xa,.int .i64 xb,.bool ng,vn,vd]] w (fun e w' => e=.returned (.int .i64 3)/\Below w.heap.size w w'):=by
 obtain ⟨a0,n0,c0,rfl,H0,hm0⟩:=hw.1.open
 obtain ⟨a1,n1,c1,rfl,H1,hm1⟩:=hw.2.open
 have hTi:(T:Int)<(N:Int):=by omega
 have lm:=hm.lt
 have lo:=ho.lt
 have HC:=Lib.hid hcall
 clear hcall
 go_enter Tryz.func39,Tryz.ntmps39
 go_wp2_with fail
 obtain ⟨W0,an⟩:∃ W0,w.alloc (.cells #[.int .i64 5,.int .i64 (T:Int),.int .i64 xa,.int .i64 xb,.bool ng,.slice a0 n0 c0,.slice a1 n1 c1] 49)=W0:=⟨_,rfl⟩
 have ap:=Lib.hid (show ∀ W',Below W0.heap.size W0 W'->(W'.cell? ⟨w.heap.size,0,none⟩=some (.int .i64 5)/\W'.cell? ⟨w.heap.size,1,none⟩=some (.int .i64 (T:Int))/\W'.cell? ⟨w.heap.size,2,none⟩=some (.int .i64 xa)/\W'.cell? ⟨w.heap.size,3,none⟩=some (.int .i64 xb)/\W'.cell? ⟨w.heap.size,4,none⟩=some (.bool ng)/\W'.cell? ⟨w.heap.size,5,none⟩=some (.slice a0 n0 c0)/\W'.cell? ⟨w.heap.size,6,none⟩=some (.slice a1 n1 c1)) from fun W' hb =>
  by and_intros <;> exact kc hb (by first|assumption|(rw [<- an];simp [go_sem])))
 have cE:=Lib.hid (show ∀ W',Below W0.heap.size W0 W'->(W'.frozen? ⟨w.heap.size,0,none⟩=false/\W'.frozen? ⟨w.heap.size,1,none⟩=false/\W'.frozen? ⟨w.heap.size,2,none⟩=false/\W'.frozen? ⟨w.heap.size,3,none⟩=false/\W'.frozen? ⟨w.heap.size,4,none⟩=false/\W'.frozen? ⟨w.heap.size,5,none⟩=false/\W'.frozen? ⟨w.heap.size,6,none⟩=false) from fun W' hb =>
  by and_intros <;> refine (hb.frozen ?_).trans ?_ <;> first|assumption|(rw [<- an];simp [go_sem])|(rw [<- an];simp <;> omega))
 have cF:=Lib.hid (show ∀ W',Below W0.heap.size W0 W'->(w.heap.size<W'.heap.size) from fun W' hb =>
  Nat.lt_of_lt_of_le (by rw [<- an];simp <;> omega) hb.size)
 have zb:Below w.heap.size w W0:=by rw [<- an];exact bN _ _
 rw [an]
 clear an
 have i0:=hw.to zb
 have i1:=hm.to zb
 have i2:=ho.to zb
 have gb:Below W0.heap.size W0 W0:=Below.refl _ _
 obtain ⟨ae,af,ag,az,aA,bf,bh⟩:=ap.out _ gb
 obtain ⟨ah,ak,al,aJ,aK,bm,bn⟩:=cE.out _ gb
 obtain z0:=cF.out _ gb
 obtain ⟨e0,e1,e2,e3,e4⟩:=(i1.to gb)
 obtain ⟨o0,o1,o2,q0,q1,q2⟩:=(i2.to gb)
 go_wp2_with fail
 have htab:=tab_5
 have hgb:=gb
 go_upto_region 4 with fail
 go_cut [6] from 28 (fun s6 wx => Below W0.heap.size W0 wx/\s6=.int .i64 3)
 case first =>
  go_region_held3 (fun W' => W'.cell? ⟨w.heap.size,0,none⟩=some (.int .i64 5)/\W'.cell? ⟨w.heap.size,1,none⟩=some (.int .i64 (T:Int))/\W'.cell? ⟨w.heap.size,2,none⟩=some (.int .i64 xa)/\W'.cell? ⟨w.heap.size,3,none⟩=some (.int .i64 xb)/\W'.cell? ⟨w.heap.size,4,none⟩=some (.bool ng)/\W'.cell? ⟨w.heap.size,5,none⟩=some (.slice a0 n0 c0)/\W'.cell? ⟨w.heap.size,6,none⟩=some (.slice a1 n1 c1)) (first|(with_reducible exact ap.out _ gb)|((with_reducible refine ap.out _ ?_);repeat' (first|(with_reducible exact gb)|(with_reducible refine Below.drew ?_)|(with_reducible refine bS ?_ (bN _ _))|(with_reducible refine bT ?_ ?_ _ _ _)|(with_reducible exact aL)|(with_reducible exact aM)|omega))) (first
   | (go_at_call 96;(refine zl w1 (by with_reducible first|exact Below.refl _ _|exact bN _ _) ?_);intro V2 dY ch;have ep:=ch.size;have dH:=gb.size;have gb:=bS gb ch;(try have am:=am.to ch);(try have aN:Tri V2 (w1.heap.size) (.bool false) (.slice none 0 0) (.slice none 0 0):=(by rw [dY];with_reducible first|exact zi _ (.bool false) (.slice none 0 0) (.slice none 0 0) _|exact (zi _ (.bool false) (.slice none 0 0) (.slice none 0 0) _).alloc _));have aM:W0.heap.size<=w1.heap.size:=(dH);(try have a9:=am.lt);(try have bc:=aN.lt);(with_reducible refine (HC.out _ (bS zb gb)).mono ?_);rintro e w2 ⟨rfl,aZ⟩;have gb:=bS gb aZ;have dZ:=aZ.size;(try have am:=am.to aZ);(try have aN:=aN.to aZ);(try have cn:=am.lt);(try have cq:=aN.lt);(try (have bj:=am;obtain ⟨bx,bA,bB,bE,bH,bJ⟩:=bj));(try (have cf:=aN;obtain ⟨cH,cI,cK,cL,cM,cN⟩:=cf)))
   | (go_at_call 65;(refine zl W0 (by with_reducible first|exact (Below.refl _ _).drew|exact (bN _ _).drew) ?_);intro V1 dX cG;have eo:=cG.size;have dG:=gb.size;have gb:=bS gb cG;(try have am:Tri V1 (W0.heap.size) (.bool false) (.slice none 0 0) (.slice none 0 0):=(by rw [dX];with_reducible first|exact (zi _ (.bool false) (.slice none 0 0) (.slice none 0 0) _).drew|exact ((zi _ (.bool false) (.slice none 0 0) (.slice none 0 0) _).alloc _).drew));have aL:W0.heap.size<=W0.heap.size:=(dG);(try have bk:=am.lt);(with_reducible refine (zbl _).mono ?_);rintro e w1 ⟨rfl,be⟩;have gb:=bS gb be;have dD:=be.size;(try have am:=am.to be);(try have bw:=am.lt);(try (have bj:=am;obtain ⟨bx,bA,bB,bE,bH,bJ⟩:=bj))))
  all_goals (go_wp2_with fail;go_meet)
  all_goals refine ⟨?_,rfl⟩
  all_goals first
   | (repeat' (first|(with_reducible exact gb)|(with_reducible refine Below.drew ?_)|(with_reducible refine bS ?_ (bN _ _))|(with_reducible refine bT ?_ ?_ _ _ _)|(with_reducible exact aL)|(with_reducible exact aM)|omega))
 case rest =>
 obtain ⟨hc0,rfl⟩:=hcut
 clear ae ah af ak ag al az aJ aA aK bf bm bh bn e0 e1 e2 e3 e4 o0 o1 o2 q0 q1 q2
 have gb:=hc0
 obtain ⟨ae,af,ag,az,aA,bf,bh⟩:=ap.out _ gb
 obtain ⟨ah,ak,al,aJ,aK,bm,bn⟩:=cE.out _ gb
 obtain z0:=cF.out _ gb
 obtain ⟨e0,e1,e2,e3,e4⟩:=(i1.to gb)
 obtain ⟨o0,o1,o2,q0,q1,q2⟩:=(i2.to gb)
 clear hgb
 obtain ⟨W1,aO⟩:∃ W,wc=W:=⟨_,rfl⟩
 subst aO
 replace i0:=i0.to gb
 replace i1:=i1.to gb
 replace i2:=i2.to gb
 replace zb:=bS zb gb
 have HXwc:=Lib.hid (show ∀ W',Below wc.heap.size wc W'->(Bx7 W' w.heap.size (.int .i64 5) (.int .i64 (T:Int)) (.int .i64 xa) (.int .i64 xb) (.bool ng) (.slice a0 n0 c0) (.slice a1 n1 c1)) from fun W' hb => by
   apply bx7 hb
   all_goals first|assumption|assumption)
 replace gb:=Below.refl wc.heap.size wc
 go_wp2_with fail
 go_ret
 exact ⟨rfl,bS zb gb⟩

theorem ziH (mB g N:Nat) (u vJ:Value) (rows cols:Int) (T:Nat) (xa xb:Int) (ng:Bool) (vn vd:Value) (ln ld:List Nat) (d0 d1 d2:Value)  (w:World) (hw:IsF w vn vd ln ld) (hm:zM w mB g N u vJ rows cols) (hN:N<=100000) (hT:T<N) (ho:zai w g (T*3) d0 d1 d2) (hcall:∀ V,Below w.heap.size w V->Calls Tryz.prog 98 #[.pointer (some ⟨mB,0,none⟩),.agg #[.int .i64 7,.int .i64 (T:Int),.int .i64 xa,.int .i64 xb,.bool ng,vn,vd]] V (fun e w' => e=.returned (.tuple #[aggR false (.slice none 0 0) (.slice none 0 0),.int .i64 3])/\Below V.heap.size V w'))  :
  Calls Tryz.prog 39 #[.pointer (some ⟨mB,0,none⟩),.agg #[.int .i64 7,.int .i64 (T:Int),.int .i64 xa,.int .i64 xb,.bool ng,vn,vd]] w (fun e w' => e=.returned (.int .i64 3)/\Below w.heap.size w w'):=by
 obtain ⟨a0,n0,c0,rfl,H0,hm0⟩:=hw.1.open
 obtain ⟨a1,n1,c1,rfl,H1,hm1⟩:=hw.2.open
 have hTi:(T:Int)<(N:Int):=by omega
 have lm:=hm.lt
 have lo:=ho.lt
 have HC:=Lib.hid hcall
 clear hcall
 go_enter Tryz.func39,Tryz.ntmps39
 go_wp2_with fail
 obtain ⟨W0,an⟩:∃ W0,w.alloc (.cells #[.int .i64 7,.int .i64 (T:Int),.int .i64 xa,.int .i64 xb,.bool ng,.slice a0 n0 c0,.slice a1 n1 c1] 49)=W0:=⟨_,rfl⟩
 have ap:=Lib.hid (show ∀ W',Below W0.heap.size W0 W'->(W'.cell? ⟨w.heap.size,0,none⟩=some (.int .i64 7)/\W'.cell? ⟨w.heap.size,1,none⟩=some (.int .i64 (T:Int))/\W'.cell? ⟨w.heap.size,2,none⟩=some (.int .i64 xa)/\W'.cell? ⟨w.heap.size,3,none⟩=some (.int .i64 xb)/\W'.cell? ⟨w.heap.size,4,none⟩=some (.bool ng)/\W'.cell? ⟨w.heap.size,5,none⟩=some (.slice a0 n0 c0)/\W'.cell? ⟨w.heap.size,6,none⟩=some (.slice a1 n1 c1)) from fun W' hb =>
  by and_intros <;> exact kc hb (by first|assumption|(rw [<- an];simp [go_sem])))
 have cE:=Lib.hid (show ∀ W',Below W0.heap.size W0 W'->(W'.frozen? ⟨w.heap.size,0,none⟩=false/\W'.frozen? ⟨w.heap.size,1,none⟩=false/\W'.frozen? ⟨w.heap.size,2,none⟩=false/\W'.frozen? ⟨w.heap.size,3,none⟩=false/\W'.frozen? ⟨w.heap.size,4,none⟩=false/\W'.frozen? ⟨w.heap.size,5,none⟩=false/\W'.frozen? ⟨w.heap.size,6,none⟩=false) from fun W' hb =>
  by and_intros <;> refine (hb.frozen ?_).trans ?_ <;> first|assumption|(rw [<- an];simp [go_sem])|(rw [<- an];simp <;> omega))
 have cF:=Lib.hid (show ∀ W',Below W0.heap.size W0 W'->(w.heap.size<W'.heap.size) from fun W' hb =>
  Nat.lt_of_lt_of_le (by rw [<- an];simp <;> omega) hb.size)
 have zb:Below w.heap.size w W0:=by rw [<- an];exact bN _ _
 rw [an]
 clear an
 have i0:=hw.to zb
 have i1:=hm.to zb
 have i2:=ho.to zb
 have gb:Below W0.heap.size W0 W0:=Below.refl _ _
 obtain ⟨ae,af,ag,az,aA,bf,bh⟩:=ap.out _ gb
 obtain ⟨ah,ak,al,aJ,aK,bm,bn⟩:=cE.out _ gb
 obtain z0:=cF.out _ gb
 obtain ⟨e0,e1,e2,e3,e4⟩:=(i1.to gb)
 obtain ⟨o0,o1,o2,q0,q1,q2⟩:=(i2.to gb)
 go_wp2_with fail
 have htab:=tab_7
 have hgb:=gb
 go_upto_region 4 with fail
 go_cut [6] from 28 (fun s6 wx => Below W0.heap.size W0 wx/\s6=.int .i64 3)
 case first =>
  go_region_held3 (fun W' => W'.cell? ⟨w.heap.size,0,none⟩=some (.int .i64 7)/\W'.cell? ⟨w.heap.size,1,none⟩=some (.int .i64 (T:Int))/\W'.cell? ⟨w.heap.size,2,none⟩=some (.int .i64 xa)/\W'.cell? ⟨w.heap.size,3,none⟩=some (.int .i64 xb)/\W'.cell? ⟨w.heap.size,4,none⟩=some (.bool ng)/\W'.cell? ⟨w.heap.size,5,none⟩=some (.slice a0 n0 c0)/\W'.cell? ⟨w.heap.size,6,none⟩=some (.slice a1 n1 c1)) (first|(with_reducible exact ap.out _ gb)|((with_reducible refine ap.out _ ?_);repeat' (first|(with_reducible exact gb)|(with_reducible refine Below.drew ?_)|(with_reducible refine bS ?_ (bN _ _))|(with_reducible refine bT ?_ ?_ _ _ _)|(with_reducible exact aL)|(with_reducible exact aM)|omega))) (first
   | (go_at_call 98;(refine zl w1 (by with_reducible first|exact Below.refl _ _|exact bN _ _) ?_);intro V2 dY ch;have ep:=ch.size;have dH:=gb.size;have gb:=bS gb ch;(try have am:=am.to ch);(try have aN:Tri V2 (w1.heap.size) (.bool false) (.slice none 0 0) (.slice none 0 0):=(by rw [dY];with_reducible first|exact zi _ (.bool false) (.slice none 0 0) (.slice none 0 0) _|exact (zi _ (.bool false) (.slice none 0 0) (.slice none 0 0) _).alloc _));have aM:W0.heap.size<=w1.heap.size:=(dH);(try have a9:=am.lt);(try have bc:=aN.lt);(with_reducible refine (HC.out _ (bS zb gb)).mono ?_);rintro e w2 ⟨rfl,aZ⟩;have gb:=bS gb aZ;have dZ:=aZ.size;(try have am:=am.to aZ);(try have aN:=aN.to aZ);(try have cn:=am.lt);(try have cq:=aN.lt);(try (have bj:=am;obtain ⟨bx,bA,bB,bE,bH,bJ⟩:=bj));(try (have cf:=aN;obtain ⟨cH,cI,cK,cL,cM,cN⟩:=cf)))
   | (go_at_call 65;(refine zl W0 (by with_reducible first|exact (Below.refl _ _).drew|exact (bN _ _).drew) ?_);intro V1 dX cG;have eo:=cG.size;have dG:=gb.size;have gb:=bS gb cG;(try have am:Tri V1 (W0.heap.size) (.bool false) (.slice none 0 0) (.slice none 0 0):=(by rw [dX];with_reducible first|exact (zi _ (.bool false) (.slice none 0 0) (.slice none 0 0) _).drew|exact ((zi _ (.bool false) (.slice none 0 0) (.slice none 0 0) _).alloc _).drew));have aL:W0.heap.size<=W0.heap.size:=(dG);(try have bk:=am.lt);(with_reducible refine (zbl _).mono ?_);rintro e w1 ⟨rfl,be⟩;have gb:=bS gb be;have dD:=be.size;(try have am:=am.to be);(try have bw:=am.lt);(try (have bj:=am;obtain ⟨bx,bA,bB,bE,bH,bJ⟩:=bj))))
  all_goals (go_wp2_with fail;go_meet)
  all_goals refine ⟨?_,rfl⟩
  all_goals first
   | (repeat' (first|(with_reducible exact gb)|(with_reducible refine Below.drew ?_)|(with_reducible refine bS ?_ (bN _ _))|(with_reducible refine bT ?_ ?_ _ _ _)|(with_reducible exact aL)|(with_reducible exact aM)|omega))
 case rest =>
 obtain ⟨hc0,rfl⟩:=hcut
 clear ae ah af ak ag al az aJ aA aK bf bm bh bn e0 e1 e2 e3 e4 o0 o1 o2 q0 q1 q2
 have gb:=hc0
 obtain ⟨ae,af,ag,az,aA,bf,bh⟩:=ap.out _ gb
 obtain ⟨ah,ak,al,aJ,aK,bm,bn⟩:=cE.out _ gb
 obtain z0:=cF.out _ gb
 obtain ⟨e0,e1,e2,e3,e4⟩:=(i1.to gb)
 obtain ⟨o0,o1,o2,q0,q1,q2⟩:=(i2.to gb)
 clear hgb
 obtain ⟨W1,aO⟩:∃ W,wc=W:=⟨_,rfl⟩
 subst aO
 replace i0:=i0.to gb
 replace i1:=i1.to gb
 replace i2:=i2.to gb
 replace zb:=bS zb gb
 have HXwc:=Lib.hid (show ∀ W',Below wc.heap.size wc W'->(Bx7 W' w.heap.size (.int .i64 7) (.int .i64 (T:Int)) (.int .i64 xa) (.int .i64 xb) (.bool ng) (.slice a0 n0 c0) (.slice a1 n1 c1)) from fun W' hb => by
   apply bx7 hb
   all_goals first|assumption|assumption)
 replace gb:=Below.refl wc.heap.size wc
 go_wp2_with fail
 go_ret
 exact ⟨rfl,bS zb gb⟩

theorem ziI (mB g N:Nat) (u vJ:Value) (rows cols:Int) (T:Nat) (xa xb:Int) (ng:Bool) (vn vd:Value) (ln ld:List Nat) (d0 d1 d2:Value)  (w:World) (hw:IsF w vn vd ln ld) (hm:zM w mB g N u vJ rows cols) (hN:N<=100000) (hT:T<N) (ho:zai w g (T*3) d0 d1 d2) (hcall:∀ V,Below w.heap.size w V->Calls Tryz.prog 98 #[.pointer (some ⟨mB,0,none⟩),.agg #[.int .i64 7,.int .i64 (T:Int),.int .i64 xa,.int .i64 xb,.bool ng,vn,vd]] V (fun e w' => e=.returned (.tuple #[aggR false (.slice none 0 0) (.slice none 0 0),.int .i64 4])/\Below V.heap.size V w'))  :
  Calls Tryz.prog 39 #[.pointer (some ⟨mB,0,none⟩),.agg #[.int .i64 7,.int .i64 (T:Int),.int .i64 xa,.int .i64 xb,.bool ng,vn,vd]] w (fun e w' => e=.returned (.int .i64 4)/\Below w.heap.size w w'):=by
 obtain ⟨a0,n0,c0,rfl,H0,hm0⟩:=hw.1.open
 obtain ⟨a1,n1,c1,rfl,H1,hm1⟩:=hw.2.open
 have hTi:(T:Int)<(N:Int):=by omega
 have lm:=hm.lt
 have lo:=ho.lt
 have HC:=Lib.hid hcall
 clear hcall
 go_enter Tryz.func39,Tryz.ntmps39
 go_wp2_with fail
 obtain ⟨W0,an⟩:∃ W0,w.alloc (.cells #[.int .i64 7,.int .i64 (T:Int),.int .i64 xa,.int .i64 xb,.bool ng,.slice a0 n0 c0,.slice a1 n1 c1] 49)=W0:=⟨_,rfl⟩
 have ap:=Lib.hid (show ∀ W',Below W0.heap.size W0 W'->(W'.cell? ⟨w.heap.size,0,none⟩=some (.int .i64 7)/\W'.cell? ⟨w.heap.size,1,none⟩=some (.int .i64 (T:Int))/\W'.cell? ⟨w.heap.size,2,none⟩=some (.int .i64 xa)/\W'.cell? ⟨w.heap.size,3,none⟩=some (.int .i64 xb)/\W'.cell? ⟨w.heap.size,4,none⟩=some (.bool ng)/\W'.cell? ⟨w.heap.size,5,none⟩=some (.slice a0 n0 c0)/\W'.cell? ⟨w.heap.size,6,none⟩=some (.slice a1 n1 c1)) from fun W' hb =>
  by and_intros <;> exact kc hb (by first|assumption|(rw [<- an];simp [go_sem])))
 have cE:=Lib.hid (show ∀ W',Below W0.heap.size W0 W'->(W'.frozen? ⟨w.heap.size,0,none⟩=false/\W'.frozen? ⟨w.heap.size,1,none⟩=false/\W'.frozen? ⟨w.heap.size,2,none⟩=false/\W'.frozen? ⟨w.heap.size,3,none⟩=false/\W'.frozen? ⟨w.heap.size,4,none⟩=false/\W'.frozen? ⟨w.heap.size,5,none⟩=false/\W'.frozen? ⟨w.heap.size,6,none⟩=false) from fun W' hb =>
  by and_intros <;> refine (hb.frozen ?_).trans ?_ <;> first|assumption|(rw [<- an];simp [go_sem])|(rw [<- an];simp <;> omega))
 have cF:=Lib.hid (show ∀ W',Below W0.heap.size W0 W'->(w.heap.size<W'.heap.size) from fun W' hb =>
  Nat.lt_of_lt_of_le (by rw [<- an];simp <;> omega) hb.size)
 have zb:Below w.heap.size w W0:=by rw [<- an];exact bN _ _
 rw [an]
 clear an
 have i0:=hw.to zb
 have i1:=hm.to zb
 have i2:=ho.to zb
 have gb:Below W0.heap.size W0 W0:=Below.refl _ _
 obtain ⟨ae,af,ag,az,aA,bf,bh⟩:=ap.out _ gb
 obtain ⟨ah,ak,al,aJ,aK,bm,bn⟩:=cE.out _ gb
 obtain z0:=cF.out _ gb
 obtain ⟨e0,e1,e2,e3,e4⟩:=(i1.to gb)
 obtain ⟨o0,o1,o2,q0,q1,q2⟩:=(i2.to gb)
 go_wp2_with fail
 have htab:=tab_7
 have hgb:=gb
 go_upto_region 4 with fail
 go_cut [6] from 28 (fun s6 wx => Below W0.heap.size W0 wx/\s6=.int .i64 4)
 case first =>
  go_region_held3 (fun W' => W'.cell? ⟨w.heap.size,0,none⟩=some (.int .i64 7)/\W'.cell? ⟨w.heap.size,1,none⟩=some (.int .i64 (T:Int))/\W'.cell? ⟨w.heap.size,2,none⟩=some (.int .i64 xa)/\W'.cell? ⟨w.heap.size,3,none⟩=some (.int .i64 xb)/\W'.cell? ⟨w.heap.size,4,none⟩=some (.bool ng)/\W'.cell? ⟨w.heap.size,5,none⟩=some (.slice a0 n0 c0)/\W'.cell? ⟨w.heap.size,6,none⟩=some (.slice a1 n1 c1)) (first|(with_reducible exact ap.out _ gb)|((with_reducible refine ap.out _ ?_);repeat' (first|(with_reducible exact gb)|(with_reducible refine Below.drew ?_)|(with_reducible refine bS ?_ (bN _ _))|(with_reducible refine bT ?_ ?_ _ _ _)|(with_reducible exact aL)|(with_reducible exact aM)|omega))) (first
   | (go_at_call 98;(refine zl w1 (by with_reducible first|exact Below.refl _ _|exact bN _ _) ?_);intro V2 dY ch;have ep:=ch.size;have dH:=gb.size;have gb:=bS gb ch;(try have am:=am.to ch);(try have aN:Tri V2 (w1.heap.size) (.bool false) (.slice none 0 0) (.slice none 0 0):=(by rw [dY];with_reducible first|exact zi _ (.bool false) (.slice none 0 0) (.slice none 0 0) _|exact (zi _ (.bool false) (.slice none 0 0) (.slice none 0 0) _).alloc _));have aM:W0.heap.size<=w1.heap.size:=(dH);(try have a9:=am.lt);(try have bc:=aN.lt);(with_reducible refine (HC.out _ (bS zb gb)).mono ?_);rintro e w2 ⟨rfl,aZ⟩;have gb:=bS gb aZ;have dZ:=aZ.size;(try have am:=am.to aZ);(try have aN:=aN.to aZ);(try have cn:=am.lt);(try have cq:=aN.lt);(try (have bj:=am;obtain ⟨bx,bA,bB,bE,bH,bJ⟩:=bj));(try (have cf:=aN;obtain ⟨cH,cI,cK,cL,cM,cN⟩:=cf)))
   | (go_at_call 65;(refine zl W0 (by with_reducible first|exact (Below.refl _ _).drew|exact (bN _ _).drew) ?_);intro V1 dX cG;have eo:=cG.size;have dG:=gb.size;have gb:=bS gb cG;(try have am:Tri V1 (W0.heap.size) (.bool false) (.slice none 0 0) (.slice none 0 0):=(by rw [dX];with_reducible first|exact (zi _ (.bool false) (.slice none 0 0) (.slice none 0 0) _).drew|exact ((zi _ (.bool false) (.slice none 0 0) (.slice none 0 0) _).alloc _).drew));have aL:W0.heap.size<=W0.heap.size:=(dG);(try have bk:=am.lt);(with_reducible refine (zbl _).mono ?_);rintro e w1 ⟨rfl,be⟩;have gb:=bS gb be;have dD:=be.size;(try have am:=am.to be);(try have bw:=am.lt);(try (have bj:=am;obtain ⟨bx,bA,bB,bE,bH,bJ⟩:=bj))))
  all_goals (go_wp2_with fail;go_meet)
  all_goals refine ⟨?_,rfl⟩
  all_goals first
   | (repeat' (first|(with_reducible exact gb)|(with_reducible refine Below.drew ?_)|(with_reducible refine bS ?_ (bN _ _))|(with_reducible refine bT ?_ ?_ _ _ _)|(with_reducible exact aL)|(with_reducible exact aM)|omega))
 case rest =>
 obtain ⟨hc0,rfl⟩:=hcut
 clear ae ah af ak ag al az aJ aA aK bf bm bh bn e0 e1 e2 e3 e4 o0 o1 o2 q0 q1 q2
 have gb:=hc0
 obtain ⟨ae,af,ag,az,aA,bf,bh⟩:=ap.out _ gb
 obtain ⟨ah,ak,al,aJ,aK,bm,bn⟩:=cE.out _ gb
 obtain z0:=cF.out _ gb
 obtain ⟨e0,e1,e2,e3,e4⟩:=(i1.to gb)
 obtain ⟨o0,o1,o2,q0,q1,q2⟩:=(i2.to gb)
 clear hgb
 obtain ⟨W1,aO⟩:∃ W,wc=W:=⟨_,rfl⟩
 subst aO
 replace i0:=i0.to gb
 replace i1:=i1.to gb
 replace i2:=i2.to gb
 replace zb:=bS zb gb
 have HXwc:=Lib.hid (show ∀ W',Below wc.heap.size wc W'->(Bx7 W' w.heap.size (.int .i64 7) (.int .i64 (T:Int)) (.int .i64 xa) (.int .i64 xb) (.bool ng) (.slice a0 n0 c0) (.slice a1 n1 c1)) from fun W' hb => by
   apply bx7 hb
   all_goals first|assumption|assumption)
 replace gb:=Below.refl wc.heap.size wc
 go_wp2_with fail
 go_ret
 exact ⟨rfl,bS zb gb⟩

theorem zmS (mB g N h nJ cJ:Nat) (u:Value) (rows cols:Int) (T:Nat) (xb:Int) (ng:Bool) (vn vd:Value) (ln ld:List Nat) (d0 d1 d2:Value) (R1:Nat) (nr1:Bool) (vr1 ur1:Value) {x:Rat}  (w:World) (hw:IsF w vn vd ln ld) (hm:zM w mB g N u (.slice (some ⟨h,0,none⟩) nJ cJ) rows cols) (hN:N<=100000) (hJ:nJ<=100000) (hT:T<nJ) (ho:zai w h (T*3) d0 d1 d2) (hr1:R1<N) (tr1:zbW w g (R1*3) (.bool nr1) vr1 ur1) (qr1:IsK w nr1 vr1 ur1 x) (nh1:h≠g) (nh2:h≠mB)  :
  Calls Tryz.prog 39 #[.pointer (some ⟨mB,0,none⟩),.agg #[.int .i64 10,.int .i64 (T:Int),.int .i64 (R1:Int),.int .i64 xb,.bool ng,vn,vd]] w (zcQ w h (T*3) x):=by
 obtain ⟨a0,n0,c0,rfl,H0,hm0⟩:=hw.1.open
 obtain ⟨a1,n1,c1,rfl,H1,hm1⟩:=hw.2.open
 have qq:=qr1.1
 have Hx1:=zaY qq
 obtain ⟨ra1,rn1,rc1,rfl,RH1,rm1⟩:=qr1.1.1.open
 obtain ⟨sa1,sn1,sc1,rfl,SH1,sm1⟩:=qr1.1.2.1.open
 have ri1:(R1:Int)<(N:Int):=by omega
 have ti1:(T:Int)<(nJ:Int):=by omega
 have lm:=hm.lt
 have lt1:=tr1.lt
 have lo:=ho.lt
 have m1:=Ne.symm nh1
 have m2:=Ne.symm nh2
 have m3:w.heap.size≠h:=by omega
 go_enter Tryz.func39,Tryz.ntmps39
 go_wp2_with fail
 obtain ⟨W0,an⟩:∃ W0,w.alloc (.cells #[.int .i64 10,.int .i64 (T:Int),.int .i64 (R1:Int),.int .i64 xb,.bool ng,.slice a0 n0 c0,.slice a1 n1 c1] 49)=W0:=⟨_,rfl⟩
 have ap:=Lib.hid (show ∀ W',Below W0.heap.size W0 W'->(Bx7 W' w.heap.size (.int .i64 10) (.int .i64 (T:Int)) (.int .i64 (R1:Int)) (.int .i64 xb) (.bool ng) (.slice a0 n0 c0) (.slice a1 n1 c1)) from fun W' hb => by
   apply bx7 hb
   all_goals first|assumption|(rw [<- an];simp [go_sem]))
 have zb:Below w.heap.size w W0:=by rw [<- an];exact bN _ _
 rw [an]
 clear an
 have i0:=hw.to zb
 have i1:=hm.to zb
 have i2:=tr1.to zb
 have i3:=qq.to zb
 have i4:=ho.to zb
 have gb:Below W0.heap.size W0 W0:=Below.refl _ _
 obtain ⟨z0,ae,af,ag,az,aA,bf,bh,ah,ak,al,aJ,aK,bm,bn⟩:=ap.out _ gb
 obtain ⟨e0,e1,e2,e3,e4⟩:=(i1.to gb)
 obtain ⟨t10,t11,t12⟩:=(i2.to gb)
 obtain ⟨o0,o1,o2,q0,q1,q2⟩:=(i4.to gb)
 go_wp2_with fail
 go_region_held3 (fun W' => W'.cell? ⟨w.heap.size,0,none⟩=some (.int .i64 10)/\W'.cell? ⟨w.heap.size,1,none⟩=some (.int .i64 (T:Int))/\W'.cell? ⟨w.heap.size,2,none⟩=some (.int .i64 (R1:Int))/\W'.cell? ⟨w.heap.size,3,none⟩=some (.int .i64 xb)/\W'.cell? ⟨w.heap.size,4,none⟩=some (.bool ng)/\W'.cell? ⟨w.heap.size,5,none⟩=some (.slice a0 n0 c0)/\W'.cell? ⟨w.heap.size,6,none⟩=some (.slice a1 n1 c1)/\W'.cell? ⟨mB,1,none⟩=some (.slice (some ⟨g,0,none⟩) N N)/\W'.cell? ⟨mB,4,none⟩=some (.slice (some ⟨h,0,none⟩) nJ cJ)/\W'.cell? ⟨g,R1*3,none⟩=some (.bool nr1)/\W'.cell? ⟨g,R1*3+1,none⟩=some (.slice ra1 rn1 rc1)/\W'.cell? ⟨g,R1*3+2,none⟩=some (.slice sa1 sn1 sc1)) (first|(with_reducible exact ⟨ae,af,ag,az,aA,bf,bh,e1,e4,t10,t11,t12⟩)|(with_reducible exact ⟨cP (cP (cP ae (.inl m3) _) (.inl m3) _) (.inl m3) _,cP (cP (cP af (.inl m3) _) (.inl m3) _) (.inl m3) _,cP (cP (cP ag (.inl m3) _) (.inl m3) _) (.inl m3) _,cP (cP (cP az (.inl m3) _) (.inl m3) _) (.inl m3) _,cP (cP (cP aA (.inl m3) _) (.inl m3) _) (.inl m3) _,cP (cP (cP bf (.inl m3) _) (.inl m3) _) (.inl m3) _,cP (cP (cP bh (.inl m3) _) (.inl m3) _) (.inl m3) _,cP (cP (cP e1 (.inl m2) _) (.inl m2) _) (.inl m2) _,cP (cP (cP e4 (.inl m2) _) (.inl m2) _) (.inl m2) _,cP (cP (cP t10 (.inl m1) _) (.inl m1) _) (.inl m1) _,cP (cP (cP t11 (.inl m1) _) (.inl m1) _) (.inl m1) _,cP (cP (cP t12 (.inl m1) _) (.inl m1) _) (.inl m1) _⟩)|exact ⟨ae,af,ag,az,aA,bf,bh,e1,e4,t10,t11,t12⟩) (first
  | (go_at_call 64;have gb:=gb.drew;(with_reducible refine (zdO nr1 _ _ _ _ _ (i3.to gb) x rfl Hx1).mono ?_);rintro e w1 ⟨ng1,a1_,n1_,c1_,p1_,m1_,k1_,rfl,g1,be⟩;have gb:=bS gb be;obtain ⟨z0,ae,af,ag,az,aA,bf,bh,ah,ak,al,aJ,aK,bm,bn⟩:=ap.out _ gb;obtain ⟨e0,e1,e2,e3,e4⟩:=(i1.to gb);obtain ⟨t10,t11,t12⟩:=(i2.to gb);obtain ⟨o0,o1,o2,q0,q1,q2⟩:=(i4.to gb)))
 go_wp2_with fail
 go_ret
 exact ⟨_,_,_,_,rfl,bS zb gb,g1.isK,.inl rfl⟩

end Go.Proofs.YtkjcdnlpjldhaaaGreat

