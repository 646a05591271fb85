/-
  The texts Rat2, Rat3, Rat4, Ref8, Ref8b, Rat6, merged.
-/
import Derived.Test.YtkjcdnlpjldhaaaG12
import Derived.Test.YtkjcdnlpjldhaaaG14
import Derived.Deep.RegionHeld3
import Derived.Deep.Cut
import Derived.Deep.DrawnRows
import Derived.Laws.EntriesVeiled
import Derived.Test.YtkjcdnlpjldhaaaG07
import Derived.Test.YtkjcdnlpjldhaaaG05
set_option linter.unusedVariables false
set_option linter.unusedSimpArgs false
set_option maxRecDepth 100000
set_option maxHeartbeats 400000000
namespace Go.Proofs.Ytkjcdnlpjldhaaa
open Go.RowKit Tw
attribute [local go_sem ↓] Go.wp_at_zero Go.wp_at_succ

theorem zas {w:World} {b:Bool} {v u:Value} {ln ld:List Nat} {x:Rat} (h:IsQ w b v u ln ld x):Hid (szq x<=4097):=by
 show _<=_
 rw [<- h.2.2.1]
 refine Nat.le_trans (zge _ _ _) ?_
 have h1:=zu h.1.1
 have h2:=zu h.2.1.1
 have h3:=h.2.2.2.1
 have h4:=h.2.2.2.2
 omega

theorem zcz {x y:Rat} (hx:szq x<=4097) (hy:szq y<=4097):szi (x.num*(y.den:Int))<=90000:=by
 have h1:=zce x.num (y.den:Int)
 have h2:=zaq x
 have h3:=zac y
 unfold szi at *
 rw [Int.natAbs_natCast] at h1
 omega

theorem sum_sz {x y:Rat} (hx:szq x<=4097) (hy:szq y<=4097):szi (x.num*(y.den:Int)+y.num*(x.den:Int))<=8195:=by
 have h0:=ziP (x.num*(y.den:Int)) (y.num*(x.den:Int))
 have h1:=zce x.num (y.den:Int)
 have h1':=zce y.num (x.den:Int)
 have h2:=zaq x
 have h3:=zac y
 have h2':=zaq y
 have h3':=zac x
 unfold szi at *
 rw [Int.natAbs_natCast] at h1 h1'
 omega

theorem den_sz {x y:Rat} (hx:szq x<=4097) (hy:szq y<=4097):(zc (val (zc x.den)*val (zc y.den))).length<=15000:=by
 rw [ze,vL,vL]
 have h1:=zap x.den y.den
 have h2:=zac x
 have h3:=zac y
 omega

theorem zaT {x:Rat} (b:Bool) (v u:Value) (ln ld:List Nat) (w:World) (h:IsQ w b v u ln ld x) (hs:Hid (szq x<=4097)) :
  Calls Try.prog 76 #[aggR b v u] w (zae w x):=by
 obtain ⟨a0,n0,c0,rfl,H0,hm0⟩:=h.1.open
 obtain ⟨a1,n1,c1,rfl,H1,hm1⟩:=h.2.1.open
 go_enter Try.func76,Try.ntmps76
 go_wp2_with fail
 obtain ⟨W0,aq⟩:∃ W0,(w.alloc (.cells #[.bool b,.slice a0 n0 c0,.slice a1 n1 c1] 25)).alloc (.cells #[.bool false,.slice none 0 0,.slice none 0 0] 112)=W0:=⟨_,rfl⟩
 have al:=Lib.hid (show ∀ W',Below W0.heap.size W0 W'->(Bx3 W' w.heap.size (.bool b) (.slice a0 n0 c0) (.slice a1 n1 c1)/\Bx3 W' (w.heap.size+1) (.bool false) (.slice none 0 0) (.slice none 0 0)) from fun W' hb => by
   refine ⟨bx3 hb ?_ ?_ ?_ ?_ ?_ ?_,bx3 hb ?_ ?_ ?_ ?_ ?_ ?_⟩
   all_goals first|assumption|(rw [<- aq];simp [go_sem]))
 have zb:Below w.heap.size w W0:=by rw [<- aq];exact bS (bN _ _) (bN _ _)
 rw [aq]
 clear aq
 have i0:=h.to zb
 have gb:Below W0.heap.size W0 W0:=Below.refl _ _
 obtain ⟨⟨z0,ae,af,ag,ah,ai,ak⟩,⟨z1,aA,aB,aC,aD,aE,aF⟩⟩:=al.out _ gb
 refine (zcA b _ _ ln ld _ (i0.to gb) x rfl hs).mono ?_
 clear ae ah af ai ag ak aA aD aB aE aC aF
 rintro e w1 ⟨ng1,a1_,n1_,c1_,p1_,m1_,k1_,rfl,g1,aT⟩
 replace gb:=bS gb aT
 obtain ⟨⟨z0,ae,af,ag,ah,ai,ak⟩,⟨z1,aA,aB,aC,aD,aE,aF⟩⟩:=al.out _ gb
 go_wp2_with fail
 refine bodyPost_ret (zjD Try.results76 _ _ _ _ _ _ rfl (Tri.set (x0:=.bool false) (y0:=.slice none 0 0) (z0:=.slice none 0 0) ⟨aA,aB,aC,aD,aE,aF⟩ _ _ _)) rfl (zds (bS zb gb) (by omega) ?_ g1)
 omega

theorem zjA {x y:Rat} (b:Bool) (v u:Value) (ln ld:List Nat) (c:Bool) (v' u':Value) (ln' ld':List Nat) (w:World) (h:IsQ w b v u ln ld x) (h':IsQ w c v' u' ln' ld' y) (q:Rat) (hq:x*y=q) (hs:Hid (szq q<=4097)) :
  Calls Try.prog 54 #[aggR b v u,aggR c v' u'] w (zae w q):=by
 have K1:=Lib.hid (show (zc (val ln*val ln')).length<=15000 by
  rw [ze];have:=zap (val ln) (val ln');have:=zu h.1.1;have:=zu h'.1.1;have:=h.2.2.2.1;have:=h'.2.2.2.1;omega)
 have K2:=Lib.hid (show (zc (val ld*val ld')).length<=15000 by
  rw [ze];have:=zap (val ld) (val ld');have:=zu h.2.1.1;have:=zu h'.2.1.1;have:=h.2.2.2.2;have:=h'.2.2.2.2;omega)
 have H9:=Lib.hid (show rat (!b == c) (val (zc (val ln*val ln'))) (val (zc (val ld*val ld')))=q by show rat (b != c) _ _=q;rw [vL,vL,<- zde,h.2.2.1,h'.2.2.1,hq])
 obtain ⟨a0,n0,c0,rfl,H0,hm0⟩:=h.1.open
 obtain ⟨a1,n1,c1,rfl,H1,hm1⟩:=h.2.1.open
 obtain ⟨a2,n2,c2,rfl,H2,hm2⟩:=h'.1.open
 obtain ⟨a3,n3,c3,rfl,H3,hm3⟩:=h'.2.1.open
 clear hq
 go_enter Try.func54,Try.ntmps54
 go_wp2_with fail
 obtain ⟨W0,aq⟩:∃ W0,((w.alloc (.cells #[.bool b,.slice a0 n0 c0,.slice a1 n1 c1] 25)).alloc (.cells #[.bool c,.slice a2 n2 c2,.slice a3 n3 c3] 25)).alloc (.cells #[.bool false,.slice none 0 0,.slice none 0 0] 25)=W0:=⟨_,rfl⟩
 have al:=Lib.hid (show ∀ W',Below W0.heap.size W0 W'->(Bx3 W' w.heap.size (.bool b) (.slice a0 n0 c0) (.slice a1 n1 c1)/\Bx3 W' (w.heap.size+1) (.bool c) (.slice a2 n2 c2) (.slice a3 n3 c3)/\Bx3 W' (w.heap.size+1+1) (.bool false) (.slice none 0 0) (.slice none 0 0)) from fun W' hb => by
   refine ⟨bx3 hb ?_ ?_ ?_ ?_ ?_ ?_,bx3 hb ?_ ?_ ?_ ?_ ?_ ?_,bx3 hb ?_ ?_ ?_ ?_ ?_ ?_⟩
   all_goals first|assumption|(rw [<- aq];simp [go_sem]))
 have zb:Below w.heap.size w W0:=by rw [<- aq];exact bS (bS (bN _ _) (bN _ _)) (bN _ _)
 rw [aq]
 clear aq
 have i0:=h.to zb
 have i1:=h'.to zb
 have gb:Below W0.heap.size W0 W0:=Below.refl _ _
 obtain ⟨⟨z0,ae,af,ag,ah,ai,ak⟩,⟨z1,aA,aB,aC,aD,aE,aF⟩,⟨z2,bt,bu,b6,bG,bH,cg⟩⟩:=al.out _ gb
 have nz0:w.heap.size≠w.heap.size+1+1:=by omega
 have nz1:w.heap.size+1≠w.heap.size+1+1:=by omega
 go_region_held3 (fun W' => W'.cell? ⟨w.heap.size,0,none⟩=some (.bool b)/\W'.cell? ⟨w.heap.size,1,none⟩=some (.slice a0 n0 c0)/\W'.cell? ⟨w.heap.size,2,none⟩=some (.slice a1 n1 c1)/\W'.cell? ⟨w.heap.size+1,0,none⟩=some (.bool c)/\W'.cell? ⟨w.heap.size+1,1,none⟩=some (.slice a2 n2 c2)/\W'.cell? ⟨w.heap.size+1,2,none⟩=some (.slice a3 n3 c3)) (first|(with_reducible exact ⟨ae,af,ag,aA,aB,aC⟩)|(with_reducible exact ⟨cP (cP (cP (ae) (.inl nz0) _) (.inl nz0) _) (.inl nz0) _,cP (cP (cP (af) (.inl nz0) _) (.inl nz0) _) (.inl nz0) _,cP (cP (cP (ag) (.inl nz0) _) (.inl nz0) _) (.inl nz0) _,cP (cP (cP (aA) (.inl nz1) _) (.inl nz1) _) (.inl nz1) _,cP (cP (cP (aB) (.inl nz1) _) (.inl nz1) _) (.inl nz1) _,cP (cP (cP (aC) (.inl nz1) _) (.inl nz1) _) (.inl nz1) _⟩)|exact ⟨ae,af,ag,aA,aB,aC⟩) (first
  | (go_at_call 18;(with_reducible refine (zO (!b == c) _ _ _ _ _ g1.rd g2.rd K1.out K2.out q H9.out hs).mono ?_);rintro e w3 ⟨ng3,a3_,n3_,c3_,p3_,m3_,k3_,rfl,g3,bM⟩;have g1:=g1.to bM;have g2:=g2.to bM;have gb:=bS gb bM;obtain ⟨⟨z0,ae,af,ag,ah,ai,ak⟩,⟨z1,aA,aB,aC,aD,aE,aF⟩,⟨z2,bt,bu,b6,bG,bH,cg⟩⟩:=al.out _ gb)
  | (go_at_call 81;(with_reducible refine (zbx _ _ ld ld' _ (i0.to gb).dn (i1.to gb).dn (Nat.le_trans h.ldn (by omega)) (Nat.le_trans h'.ldn (by omega))).mono ?_);rintro e w2 ⟨v2,rfl,g2,aL⟩;obtain ⟨a2_,n2_,c2_,rfl,H2,hm2⟩:=g2.rd.open;have g1:=g1.to aL;have gb:=bS gb aL;obtain ⟨⟨z0,ae,af,ag,ah,ai,ak⟩,⟨z1,aA,aB,aC,aD,aE,aF⟩,⟨z2,bt,bu,b6,bG,bH,cg⟩⟩:=al.out _ gb)
  | (go_at_call 81;have gb:=gb.drew;(with_reducible refine (zbx _ _ ln ln' _ (i0.to gb).up (i1.to gb).up (Nat.le_trans h.lup (by omega)) (Nat.le_trans h'.lup (by omega))).mono ?_);rintro e w1 ⟨v1,rfl,g1,aT⟩;obtain ⟨a1_,n1_,c1_,rfl,H1,hm1⟩:=g1.rd.open;have gb:=bS gb aT;obtain ⟨⟨z0,ae,af,ag,ah,ai,ak⟩,⟨z1,aA,aB,aC,aD,aE,aF⟩,⟨z2,bt,bu,b6,bG,bH,cg⟩⟩:=al.out _ gb))
 go_wp2_with fail
 refine bodyPost_ret (zU Try.results54 _ _ _ _ _ _ rfl (Tri.set (x0:=.bool false) (y0:=.slice none 0 0) (z0:=.slice none 0 0) ⟨bt,bu,b6,bG,bH,cg⟩ _ _ _)) rfl (zds (bS zb gb) (by omega) ?_ g3)
 omega

end Go.Proofs.Ytkjcdnlpjldhaaa


namespace Go.Proofs.Ytkjcdnlpjldhaaa
open Go.RowKit Tw
attribute [local go_sem ↓] Go.wp_at_zero Go.wp_at_succ

theorem zfr {x y:Rat} (b:Bool) (v u:Value) (ln ld:List Nat) (c:Bool) (v' u':Value) (ln' ld':List Nat) (w:World) (h:IsQ w b v u ln ld x) (h':IsQ w c v' u' ln' ld' y) (q:Rat) (hq:x+y=q) (hs:Hid (szq q<=4097)) :
  Calls Try.prog 52 #[aggR b v u,aggR c v' u'] w (zae w q):=by
 have Hx:Hid (szq x<=4097):=zas h
 have Hy:Hid (szq y<=4097):=zas h'
 have S1:=Lib.hid (show szi (x.num*(y.den:Int))<=90000 from zcz Hx.out Hy.out)
 have S2:=Lib.hid (show szi (y.num*(x.den:Int))<=90000 from zcz Hy.out Hx.out)
 have S3:=Lib.hid (show szi (x.num*(y.den:Int)+y.num*(x.den:Int))<=8195 from sum_sz Hx.out Hy.out)
 have S4:=Lib.hid (show szi (x.num*(y.den:Int)+y.num*(x.den:Int))<=90000 from Nat.le_trans S3.out (by omega))
 have K2:=Lib.hid (show (zc (val (zc x.den)*val (zc y.den))).length<=15000 from den_sz Hx.out Hy.out)
 have H9:=Lib.hid (show ∀ ng,decide (x.num*(y.den:Int)+y.num*(x.den:Int)<0)=ng->rat ng (val (zc (x.num*(y.den:Int)+y.num*(x.den:Int)).natAbs)) (val (zc (val (zc x.den)*val (zc y.den))))=q from fun ng e => by
  rw [<- e,vL,vL,vL,vL,<- zdw,<- Rat.add_def',hq])
 obtain ⟨a0,n0,c0,rfl,H0,hm0⟩:=h.1.open
 obtain ⟨a1,n1,c1,rfl,H1,hm1⟩:=h.2.1.open
 obtain ⟨a2,n2,c2,rfl,H2,hm2⟩:=h'.1.open
 obtain ⟨a3,n3,c3,rfl,H3,hm3⟩:=h'.2.1.open
 clear hq
 go_enter Try.func52,Try.ntmps52
 go_wp2_with fail
 obtain ⟨W0,aq⟩:∃ W0,((w.alloc (.cells #[.bool b,.slice a0 n0 c0,.slice a1 n1 c1] 25)).alloc (.cells #[.bool c,.slice a2 n2 c2,.slice a3 n3 c3] 25)).alloc (.cells #[.bool false,.slice none 0 0,.slice none 0 0] 25)=W0:=⟨_,rfl⟩
 have al:=Lib.hid (show ∀ W',Below W0.heap.size W0 W'->(W'.cell? ⟨w.heap.size,0,none⟩=some (.bool b)/\W'.cell? ⟨w.heap.size,1,none⟩=some (.slice a0 n0 c0)/\W'.cell? ⟨w.heap.size,2,none⟩=some (.slice a1 n1 c1)/\W'.cell? ⟨w.heap.size+1,0,none⟩=some (.bool c)/\W'.cell? ⟨w.heap.size+1,1,none⟩=some (.slice a2 n2 c2)/\W'.cell? ⟨w.heap.size+1,2,none⟩=some (.slice a3 n3 c3)/\W'.cell? ⟨w.heap.size+1+1,0,none⟩=some (.bool false)/\W'.cell? ⟨w.heap.size+1+1,1,none⟩=some (.slice none 0 0)/\W'.cell? ⟨w.heap.size+1+1,2,none⟩=some (.slice none 0 0)) from fun W' hb =>
  by and_intros <;> exact kc hb (by first|assumption|(rw [<- aq];simp [go_sem])))
 have bQ:=Lib.hid (show ∀ W',Below W0.heap.size W0 W'->(W'.frozen? ⟨w.heap.size,0,none⟩=false/\W'.frozen? ⟨w.heap.size,1,none⟩=false/\W'.frozen? ⟨w.heap.size,2,none⟩=false/\W'.frozen? ⟨w.heap.size+1,0,none⟩=false/\W'.frozen? ⟨w.heap.size+1,1,none⟩=false/\W'.frozen? ⟨w.heap.size+1,2,none⟩=false/\W'.frozen? ⟨w.heap.size+1+1,0,none⟩=false/\W'.frozen? ⟨w.heap.size+1+1,1,none⟩=false/\W'.frozen? ⟨w.heap.size+1+1,2,none⟩=false) from fun W' hb =>
  by and_intros <;> refine (hb.frozen ?_).trans ?_ <;> first|assumption|(rw [<- aq];simp [go_sem])|(rw [<- aq];simp <;> omega))
 have bR:=Lib.hid (show ∀ W',Below W0.heap.size W0 W'->(w.heap.size<W'.heap.size/\w.heap.size+1<W'.heap.size/\w.heap.size+1+1<W'.heap.size) from fun W' hb =>
  by and_intros <;> refine Nat.lt_of_lt_of_le ?_ hb.size <;> first|assumption|(rw [<- aq];simp <;> omega))
 have zb:Below w.heap.size w W0:=by rw [<- aq];exact bS (bS (bN _ _) (bN _ _)) (bN _ _)
 rw [aq]
 clear aq
 have i0:=h.to zb
 have i1:=h'.to zb
 have gb:Below W0.heap.size W0 W0:=Below.refl _ _
 obtain ⟨ae,af,ag,aA,aB,aC,bt,bu,b6⟩:=al.out _ gb
 obtain ⟨ah,ai,ak,aD,aE,aF,bG,bH,cg⟩:=bQ.out _ gb
 obtain ⟨z0,z1,z2⟩:=bR.out _ gb
 have hgb:=gb
 go_upto_region 1 with fail
 go_cut [5,6] from 8 (fun s5 s6 wx => zaw W0 (x) s5 wx/\zaw W0 (y) s6 wx)
 case first =>
  go_region_held3 (fun W' => W'.cell? ⟨w.heap.size,0,none⟩=some (.bool b)/\W'.cell? ⟨w.heap.size,1,none⟩=some (.slice a0 n0 c0)/\W'.cell? ⟨w.heap.size,2,none⟩=some (.slice a1 n1 c1)/\W'.cell? ⟨w.heap.size+1,0,none⟩=some (.bool c)/\W'.cell? ⟨w.heap.size+1,1,none⟩=some (.slice a2 n2 c2)/\W'.cell? ⟨w.heap.size+1,2,none⟩=some (.slice a3 n3 c3)/\W'.cell? ⟨w.heap.size+1+1,0,none⟩=some (.bool false)/\W'.cell? ⟨w.heap.size+1+1,1,none⟩=some (.slice none 0 0)/\W'.cell? ⟨w.heap.size+1+1,2,none⟩=some (.slice none 0 0)) (with_reducible first|(exact al.out _ gb)|((refine al.out _ ?_);first|((refine Below.drew ?_);first|(exact gb)|((refine bT ?_ ?_ _ _ _);rotate_left;(first|(exact ay)|(exact aO)|(exact az)|(exact aP));first|(exact gb)|((refine bT ?_ ?_ _ _ _);rotate_left;(first|(exact ay)|(exact aO)|(exact az)|(exact aP));exact gb)|((refine bS ?_ (bN _ _));exact gb))|((refine bS ?_ (bN _ _));first|(exact gb)|((refine bT ?_ ?_ _ _ _);rotate_left;(first|(exact ay)|(exact aO)|(exact az)|(exact aP));exact gb)|((refine bS ?_ (bN _ _));exact gb)))|(first|(exact gb)|((refine bT ?_ ?_ _ _ _);rotate_left;(first|(exact ay)|(exact aO)|(exact az)|(exact aP));first|(exact gb)|((refine bT ?_ ?_ _ _ _);rotate_left;(first|(exact ay)|(exact aO)|(exact az)|(exact aP));first|(exact gb)|((refine bT ?_ ?_ _ _ _);rotate_left;(first|(exact ay)|(exact aO)|(exact az)|(exact aP));first|(exact gb)|((refine bT ?_ ?_ _ _ _);rotate_left;(first|(exact ay)|(exact aO)|(exact az)|(exact aP));exact gb)|((refine bS ?_ (bN _ _));exact gb))|((refine bS ?_ (bN _ _));first|(exact gb)|((refine bT ?_ ?_ _ _ _);rotate_left;(first|(exact ay)|(exact aO)|(exact az)|(exact aP));exact gb)|((refine bS ?_ (bN _ _));exact gb)))|((refine bS ?_ (bN _ _));first|(exact gb)|((refine bT ?_ ?_ _ _ _);rotate_left;(first|(exact ay)|(exact aO)|(exact az)|(exact aP));first|(exact gb)|((refine bT ?_ ?_ _ _ _);rotate_left;(first|(exact ay)|(exact aO)|(exact az)|(exact aP));exact gb)|((refine bS ?_ (bN _ _));exact gb))|((refine bS ?_ (bN _ _));first|(exact gb)|((refine bT ?_ ?_ _ _ _);rotate_left;(first|(exact ay)|(exact aO)|(exact az)|(exact aP));exact gb)|((refine bS ?_ (bN _ _));exact gb))))|((refine bS ?_ (bN _ _));first|(exact gb)|((refine bT ?_ ?_ _ _ _);rotate_left;(first|(exact ay)|(exact aO)|(exact az)|(exact aP));first|(exact gb)|((refine bT ?_ ?_ _ _ _);rotate_left;(first|(exact ay)|(exact aO)|(exact az)|(exact aP));first|(exact gb)|((refine bT ?_ ?_ _ _ _);rotate_left;(first|(exact ay)|(exact aO)|(exact az)|(exact aP));exact gb)|((refine bS ?_ (bN _ _));exact gb))|((refine bS ?_ (bN _ _));first|(exact gb)|((refine bT ?_ ?_ _ _ _);rotate_left;(first|(exact ay)|(exact aO)|(exact az)|(exact aP));exact gb)|((refine bS ?_ (bN _ _));exact gb)))|((refine bS ?_ (bN _ _));first|(exact gb)|((refine bT ?_ ?_ _ _ _);rotate_left;(first|(exact ay)|(exact aO)|(exact az)|(exact aP));first|(exact gb)|((refine bT ?_ ?_ _ _ _);rotate_left;(first|(exact ay)|(exact aO)|(exact az)|(exact aP));exact gb)|((refine bS ?_ (bN _ _));exact gb))|((refine bS ?_ (bN _ _));first|(exact gb)|((refine bT ?_ ?_ _ _ _);rotate_left;(first|(exact ay)|(exact aO)|(exact az)|(exact aP));exact gb)|((refine bS ?_ (bN _ _));exact gb))))))) (first
   | (go_at_call 76;(refine zf w1 (by with_reducible first|exact Below.refl _ _|exact bN _ _|exact bS (bN _ _) (bN _ _)) ?_);intro V2 cH bn;have cS:=bn.size;have cN:=gb.size;have g1:=g1.to bn;have gb:=bS gb bn;(try have ac:=ac.to bn);(try have bl:=bl.to bn);(try have ap:Tri V2 (w1.heap.size) (.bool false) (.slice none 0 0) (.slice none 0 0):=(by rw [cH];with_reducible first|exact zd _ (.bool false) (.slice none 0 0) (.slice none 0 0) _|exact (zd _ (.bool false) (.slice none 0 0) (.slice none 0 0) _).alloc _));have az:W0.heap.size<=w1.heap.size:=(cN);have bo:w1.heap.size<=w1.heap.size:=(Nat.le_refl _);(try have bO:Tri V2 (w1.heap.size+1) (.bool false) (.slice none 0 0) (.slice none 0 0):=(by rw [cH];first|with_reducible exact zad _ _ (.bool false) (.slice none 0 0) (.slice none 0 0) _));have aP:W0.heap.size<=w1.heap.size+1:=(Nat.le_succ_of_le cN);have bq:w1.heap.size<=w1.heap.size+1:=(Nat.le_succ _);(try have aH:=ac.lt);(try have bA:=bl.lt);(try have aI:=ap.lt);(try have bB:=bO.lt);(with_reducible refine (zaT c _ _ ln' ld' _ (i1.to gb) Hy).mono ?_);rintro e w2 ⟨ng2,a2_,n2_,c2_,p2_,m2_,k2_,rfl,g2,aL⟩;have g1:=g1.to aL;have gb:=bS gb aL;have da:=aL.size;(try have ac:=ac.to aL);(try have bl:=bl.to aL);(try have ap:=ap.to aL);(try have bO:=bO.to aL);(try have bC:=ac.lt);(try have el:=bl.lt);(try have bE:=ap.lt);(try have en:=bO.lt);(try (have aG:=ac;obtain ⟨aU,aV,aW,aX,aY,aZ⟩:=aG));(try (have cM:=bl;obtain ⟨du,dv,dw,dx,dy,dz⟩:=cM));(try (have bj:=ap;obtain ⟨bU,bV,bW,bX,bY,bZ⟩:=bj));(try (have d4:=bO;obtain ⟨eF,eG,eH,eI,eJ,eL⟩:=d4)))
   | (go_at_call 76;(refine zf W0 (by with_reducible first|exact (Below.refl _ _).drew|exact (bN _ _).drew|exact (bS (bN _ _) (bN _ _)).drew) ?_);intro V1 cI bP;have cR:=bP.size;have cC:=gb.size;have gb:=bS gb bP;(try have ac:Tri V1 (W0.heap.size) (.bool false) (.slice none 0 0) (.slice none 0 0):=(by rw [cI];with_reducible first|exact (zd _ (.bool false) (.slice none 0 0) (.slice none 0 0) _).drew|exact ((zd _ (.bool false) (.slice none 0 0) (.slice none 0 0) _).alloc _).drew));have ay:W0.heap.size<=W0.heap.size:=(cC);(try have bl:Tri V1 (W0.heap.size+1) (.bool false) (.slice none 0 0) (.slice none 0 0):=(by rw [cI];first|with_reducible exact (zad _ _ (.bool false) (.slice none 0 0) (.slice none 0 0) _).drew));have aO:W0.heap.size<=W0.heap.size+1:=(Nat.le_succ_of_le cC);(try have aQ:=ac.lt);(try have bz:=bl.lt);(with_reducible refine (zaT b _ _ ln ld _ (i0.to gb) Hx).mono ?_);rintro e w1 ⟨ng1,a1_,n1_,c1_,p1_,m1_,k1_,rfl,g1,aT⟩;have gb:=bS gb aT;have c8:=aT.size;(try have ac:=ac.to aT);(try have bl:=bl.to aT);(try have bi:=ac.lt);(try have cn:=bl.lt);(try (have aG:=ac;obtain ⟨aU,aV,aW,aX,aY,aZ⟩:=aG));(try (have cM:=bl;obtain ⟨du,dv,dw,dx,dy,dz⟩:=cM))))
  all_goals (go_wp2_with fail;go_meet)
  all_goals first
   | (with_reducible exact zi ac bl (Nat.ne_of_lt (Nat.lt_succ_self _)) g1 g2 (.inl aQ) (.inl bz) (.inl aH) (.inl bA) gb ay aO)
   | (with_reducible exact zi ac ap (Nat.ne_of_lt bi) g1 g2 (.inl aQ) (.inr bo) (.inl aH) (.inl aI) gb ay az)
   | (with_reducible exact zi ac bO (Nat.ne_of_lt (Nat.lt_succ_of_lt bi)) g1 g2 (.inl aQ) (.inr bq) (.inl aH) (.inl bB) gb ay aP)
   | (with_reducible exact zi bl ac ((Nat.ne_of_lt (Nat.lt_succ_self _)).symm) g1 g2 (.inl bz) (.inl aQ) (.inl bA) (.inl aH) gb aO ay)
   | (with_reducible exact zi bl ap (Nat.ne_of_lt cn) g1 g2 (.inl bz) (.inr bo) (.inl bA) (.inl aI) gb aO az)
   | (with_reducible exact zi bl bO (Nat.ne_of_lt (Nat.lt_succ_of_lt cn)) g1 g2 (.inl bz) (.inr bq) (.inl bA) (.inl bB) gb aO aP)
   | (with_reducible exact zi ap ac ((Nat.ne_of_lt bi).symm) g1 g2 (.inr bo) (.inl aQ) (.inl aI) (.inl aH) gb az ay)
   | (with_reducible exact zi ap bl ((Nat.ne_of_lt cn).symm) g1 g2 (.inr bo) (.inl bz) (.inl aI) (.inl bA) gb az aO)
   | (with_reducible exact zi ap bO (Nat.ne_of_lt (Nat.lt_succ_self _)) g1 g2 (.inr bo) (.inr bq) (.inl aI) (.inl bB) gb az aP)
   | (with_reducible exact zi bO ac ((Nat.ne_of_lt (Nat.lt_succ_of_lt bi)).symm) g1 g2 (.inr bq) (.inl aQ) (.inl bB) (.inl aH) gb aP ay)
   | (with_reducible exact zi bO bl ((Nat.ne_of_lt (Nat.lt_succ_of_lt cn)).symm) g1 g2 (.inr bq) (.inl bz) (.inl bB) (.inl bA) gb aP aO)
   | (with_reducible exact zi bO ap ((Nat.ne_of_lt (Nat.lt_succ_self _)).symm) g1 g2 (.inr bq) (.inr bo) (.inl bB) (.inl aI) gb aP az)
   | (with_reducible exact zq ac g1 g2 (.inl aQ) (.inl aH) gb ay)
   | (with_reducible exact (zq ac g2 g1 (.inl aH) (.inl aQ) gb ay).symm)
   | (with_reducible exact zq bl g1 g2 (.inl bz) (.inl bA) gb aO)
   | (with_reducible exact (zq bl g2 g1 (.inl bA) (.inl bz) gb aO).symm)
   | (with_reducible exact zq ap g1 g2 (.inr bo) (.inl aI) gb az)
   | (with_reducible exact (zq ap g2 g1 (.inl aI) (.inr bo) gb az).symm)
   | (with_reducible exact zq bO g1 g2 (.inr bq) (.inl bB) gb aP)
   | (with_reducible exact (zq bO g2 g1 (.inl bB) (.inr bq) gb aP).symm)
   | (with_reducible exact zbs g1 g2 gb)
   | (with_reducible exact (zbs g2 g1 gb).symm)
 case rest =>
 obtain ⟨⟨B5,ng1,a1_,n1_,c1_,p1_,m1_,k1_,lo5,hi5,rfl,hB5,T5,g1,hc5⟩,⟨B6,ng2,a2_,n2_,c2_,p2_,m2_,k2_,lo6,hi6,rfl,hB6,T6,g2,hc6⟩⟩:=hcut
 clear ae ah af ai ag ak aA aD aB aE aC aF bt bG bu bH b6 cg
 have gb:=hc5
 obtain ⟨ae,af,ag,aA,aB,aC,bt,bu,b6⟩:=al.out _ gb
 obtain ⟨ah,ai,ak,aD,aE,aF,bG,bH,cg⟩:=bQ.out _ gb
 obtain ⟨z0,z1,z2⟩:=bR.out _ gb
 have z5:=T5.lt
 obtain ⟨bv,bw,bx,bJ,bK,bL⟩:=T5
 have z6:=T6.lt
 obtain ⟨ck,cm,cu,cx,cy,cB⟩:=T6
 clear hgb
 obtain ⟨W1,aK⟩:∃ W,wc=W:=⟨_,rfl⟩
 subst aK
 replace i0:=i0.to gb
 replace i1:=i1.to gb
 replace zb:=bS zb gb
 have HXwc:=Lib.hid (show ∀ W',Below wc.heap.size wc W'->(W'.cell? ⟨w.heap.size,0,none⟩=some (.bool b)/\W'.cell? ⟨w.heap.size,1,none⟩=some (.slice a0 n0 c0)/\W'.cell? ⟨w.heap.size,2,none⟩=some (.slice a1 n1 c1)/\W'.cell? ⟨w.heap.size+1,0,none⟩=some (.bool c)/\W'.cell? ⟨w.heap.size+1,1,none⟩=some (.slice a2 n2 c2)/\W'.cell? ⟨w.heap.size+1,2,none⟩=some (.slice a3 n3 c3)/\W'.cell? ⟨w.heap.size+1+1,0,none⟩=some (.bool false)/\W'.cell? ⟨w.heap.size+1+1,1,none⟩=some (.slice none 0 0)/\W'.cell? ⟨w.heap.size+1+1,2,none⟩=some (.slice none 0 0)/\W'.cell? ⟨B5,0,none⟩=some (.bool ng1)/\W'.cell? ⟨B5,1,none⟩=some (.slice a1_ n1_ c1_)/\W'.cell? ⟨B5,2,none⟩=some (.slice p1_ m1_ k1_)/\W'.cell? ⟨B6,0,none⟩=some (.bool ng2)/\W'.cell? ⟨B6,1,none⟩=some (.slice a2_ n2_ c2_)/\W'.cell? ⟨B6,2,none⟩=some (.slice p2_ m2_ k2_)) from fun W' hb =>
  by and_intros <;> exact kc hb (by first|assumption|assumption))
 have HYwc:=Lib.hid (show ∀ W',Below wc.heap.size wc W'->(W'.frozen? ⟨w.heap.size,0,none⟩=false/\W'.frozen? ⟨w.heap.size,1,none⟩=false/\W'.frozen? ⟨w.heap.size,2,none⟩=false/\W'.frozen? ⟨w.heap.size+1,0,none⟩=false/\W'.frozen? ⟨w.heap.size+1,1,none⟩=false/\W'.frozen? ⟨w.heap.size+1,2,none⟩=false/\W'.frozen? ⟨w.heap.size+1+1,0,none⟩=false/\W'.frozen? ⟨w.heap.size+1+1,1,none⟩=false/\W'.frozen? ⟨w.heap.size+1+1,2,none⟩=false/\W'.frozen? ⟨B5,0,none⟩=false/\W'.frozen? ⟨B5,1,none⟩=false/\W'.frozen? ⟨B5,2,none⟩=false/\W'.frozen? ⟨B6,0,none⟩=false/\W'.frozen? ⟨B6,1,none⟩=false/\W'.frozen? ⟨B6,2,none⟩=false) from fun W' hb =>
  by and_intros <;> refine (hb.frozen ?_).trans ?_ <;> first|assumption|assumption)
 have HZwc:=Lib.hid (show ∀ W',Below wc.heap.size wc W'->(w.heap.size<W'.heap.size/\w.heap.size+1<W'.heap.size/\w.heap.size+1+1<W'.heap.size/\B5<W'.heap.size/\B6<W'.heap.size) from fun W' hb =>
  by and_intros <;> refine Nat.lt_of_lt_of_le ?_ hb.size <;> first|assumption)
 replace gb:=Below.refl wc.heap.size wc
 go_wp2_with fail
 have hgb:=gb
 go_upto_region 2 with fail
 go_cut [7] from 12 (fun s7 wx => BoxC wc (x.num*(y.den:Int)+y.num*(x.den:Int)) s7 wx)
 case first =>
  go_region_held3 (fun W' => W'.cell? ⟨w.heap.size,0,none⟩=some (.bool b)/\W'.cell? ⟨w.heap.size,1,none⟩=some (.slice a0 n0 c0)/\W'.cell? ⟨w.heap.size,2,none⟩=some (.slice a1 n1 c1)/\W'.cell? ⟨w.heap.size+1,0,none⟩=some (.bool c)/\W'.cell? ⟨w.heap.size+1,1,none⟩=some (.slice a2 n2 c2)/\W'.cell? ⟨w.heap.size+1,2,none⟩=some (.slice a3 n3 c3)/\W'.cell? ⟨w.heap.size+1+1,0,none⟩=some (.bool false)/\W'.cell? ⟨w.heap.size+1+1,1,none⟩=some (.slice none 0 0)/\W'.cell? ⟨w.heap.size+1+1,2,none⟩=some (.slice none 0 0)/\W'.cell? ⟨B5,0,none⟩=some (.bool ng1)/\W'.cell? ⟨B5,1,none⟩=some (.slice a1_ n1_ c1_)/\W'.cell? ⟨B5,2,none⟩=some (.slice p1_ m1_ k1_)/\W'.cell? ⟨B6,0,none⟩=some (.bool ng2)/\W'.cell? ⟨B6,1,none⟩=some (.slice a2_ n2_ c2_)/\W'.cell? ⟨B6,2,none⟩=some (.slice p2_ m2_ k2_)) (with_reducible first|(exact HXwc.out _ gb)|((refine HXwc.out _ ?_);first|((refine Below.drew ?_);first|(exact gb)|((refine bD ?_ ?_ _ _);rotate_left;(first|(exact dk)|(exact dl)|(exact dm)|(exact dp)|(exact dq)|(exact dr)|(exact ds));exact gb)|((refine bS ?_ (bN _ _));exact gb))|(first|(exact gb)|((refine bD ?_ ?_ _ _);rotate_left;(first|(exact dk)|(exact dl)|(exact dm)|(exact dp)|(exact dq)|(exact dr)|(exact ds));first|(exact gb)|((refine bD ?_ ?_ _ _);rotate_left;(first|(exact dk)|(exact dl)|(exact dm)|(exact dp)|(exact dq)|(exact dr)|(exact ds));exact gb)|((refine bS ?_ (bN _ _));exact gb))|((refine bS ?_ (bN _ _));first|(exact gb)|((refine bD ?_ ?_ _ _);rotate_left;(first|(exact dk)|(exact dl)|(exact dm)|(exact dp)|(exact dq)|(exact dr)|(exact ds));exact gb)|((refine bS ?_ (bN _ _));exact gb))))) (first
   | (go_at_call 77;(refine zf w16 (by with_reducible first|exact Below.refl _ _|exact bN _ _) ?_);intro V17 jE dT;have hsV17:=dT.size;have jS:=gb.size;have g13:=g13.to dT;have g16:=g16.to dT;have gb:=bS gb dT;(try have bm:=bm.to dT);(try have bs:=bs.to dT);(try have bI:=bI.to dT);(try have b8:=b8.to dT);(try have cq:=cq.to dT);(try have cE:=cE.to dT);(try have dF:Duo V17 (w16.heap.size) (.bool false) (.slice none 0 0):=(by rw [jE];with_reducible first|exact zC _ (.bool false) (.slice none 0 0) _|exact (zC _ (.bool false) (.slice none 0 0) _).alloc _));have ds:wc.heap.size<=w16.heap.size:=(jS);(try have eM:=bm.lt);(try have eN:=bs.lt);(try have eO:=bI.lt);(try have eP:=b8.lt);(try have eQ:=cq.lt);(try have eR:=cE.lt);(try have eS:=dF.lt);(with_reducible refine (add_c _ g13.isI g16.isI (x.num*(y.den:Int)+y.num*(x.den:Int)) rfl S4).mono ?_);rintro e w17 ⟨ng17,a17_,n17_,c17_,rfl,g17,df⟩;have g13:=g13.to df;have g16:=g16.to df;have gb:=bS gb df;have hs17:=df.size;(try have bm:=bm.to df);(try have bs:=bs.to df);(try have bI:=bI.to df);(try have b8:=b8.to df);(try have cq:=cq.to df);(try have cE:=cE.to df);(try have dF:=dF.to df);(try have lt11_I_0_17:=bm.lt);(try have lt12_I_0_17:=bs.lt);(try have lt13_I_0_17:=bI.lt);(try have lt14_I_0_17:=b8.lt);(try have lt15_I_0_17:=cq.lt);(try have lt16_I_0_17:=cE.lt);(try have lt17_I_0_17:=dF.lt);(try (have cA:=bm;obtain ⟨cW,cX,cY,cZ⟩:=cA));(try (have cD:=bs;obtain ⟨db,dc,dd,de⟩:=cD));(try (have cK:=bI;obtain ⟨dB,dC,dD,dE⟩:=cK));(try (have c7:=b8;obtain ⟨d7,d8,d9,ea⟩:=c7));(try (have dt:=cq;obtain ⟨eo,ep,eq,er⟩:=dt));(try (have ee:=cE;obtain ⟨eY,eZ,e8,fc⟩:=ee));(try (have fh:=dF;obtain ⟨rt17_I_00,rt17_I_01,st17_I_00,st17_I_01⟩:=fh)))
   | (go_at_call 78;(refine zf w15 (by with_reducible first|exact Below.refl _ _|exact bN _ _) ?_);intro V16 jD eb;have hsV16:=eb.size;have jR:=gb.size;have g13:=g13.to eb;have gb:=bS gb eb;(try have bm:=bm.to eb);(try have bs:=bs.to eb);(try have bI:=bI.to eb);(try have b8:=b8.to eb);(try have cq:=cq.to eb);(try have cE:Duo V16 (w15.heap.size) (.bool false) (.slice none 0 0):=(by rw [jD];with_reducible first|exact zC _ (.bool false) (.slice none 0 0) _|exact (zC _ (.bool false) (.slice none 0 0) _).alloc _));have dr:wc.heap.size<=w15.heap.size:=(jR);(try have vt11_I_0_16:=bm.lt);(try have vt12_I_0_16:=bs.lt);(try have vt13_I_0_16:=bI.lt);(try have vt14_I_0_16:=b8.lt);(try have vt15_I_0_16:=cq.lt);(try have vt16_I_0_16:=cE.lt);(with_reducible refine (zfp _ (g2.to gb).above (g1.to gb).below (y.num*(x.den:Int)) rfl S2).mono ?_);rintro e w16 ⟨ng16,a16_,n16_,c16_,rfl,g16,dU⟩;have g13:=g13.to dU;have gb:=bS gb dU;have hs16:=dU.size;(try have bm:=bm.to dU);(try have bs:=bs.to dU);(try have bI:=bI.to dU);(try have b8:=b8.to dU);(try have cq:=cq.to dU);(try have cE:=cE.to dU);(try have lt11_I_0_16:=bm.lt);(try have lt12_I_0_16:=bs.lt);(try have lt13_I_0_16:=bI.lt);(try have lt14_I_0_16:=b8.lt);(try have lt15_I_0_16:=cq.lt);(try have lt16_I_0_16:=cE.lt);(try (have cA:=bm;obtain ⟨cW,cX,cY,cZ⟩:=cA));(try (have cD:=bs;obtain ⟨db,dc,dd,de⟩:=cD));(try (have cK:=bI;obtain ⟨dB,dC,dD,dE⟩:=cK));(try (have c7:=b8;obtain ⟨d7,d8,d9,ea⟩:=c7));(try (have dt:=cq;obtain ⟨eo,ep,eq,er⟩:=dt));(try (have ee:=cE;obtain ⟨eY,eZ,e8,fc⟩:=ee)))
   | (go_at_call 80;(refine zf w14 (by with_reducible first|exact Below.refl _ _|exact bN _ _) ?_);intro V15 jC ed;have hsV15:=ed.size;have jQ:=gb.size;have g13:=g13.to ed;have gb:=bS gb ed;(try have bm:=bm.to ed);(try have bs:=bs.to ed);(try have bI:=bI.to ed);(try have b8:=b8.to ed);(try have cq:Duo V15 (w14.heap.size) (.bool false) (.slice none 0 0):=(by rw [jC];with_reducible first|exact zC _ (.bool false) (.slice none 0 0) _|exact (zC _ (.bool false) (.slice none 0 0) _).alloc _));have dq:wc.heap.size<=w14.heap.size:=(jQ);(try have vt11_I_0_15:=bm.lt);(try have vt12_I_0_15:=bs.lt);(try have vt13_I_0_15:=bI.lt);(try have vt14_I_0_15:=b8.lt);(try have vt15_I_0_15:=cq.lt);(with_reducible refine (zaN _ _ _ _ _ _ (g1.to gb).isQ).mono ?_);rintro e w15 ⟨rfl,dZ⟩;have g13:=g13.to dZ;have gb:=bS gb dZ;have hs15:=dZ.size;(try have bm:=bm.to dZ);(try have bs:=bs.to dZ);(try have bI:=bI.to dZ);(try have b8:=b8.to dZ);(try have cq:=cq.to dZ);(try have lt11_I_0_15:=bm.lt);(try have lt12_I_0_15:=bs.lt);(try have lt13_I_0_15:=bI.lt);(try have lt14_I_0_15:=b8.lt);(try have lt15_I_0_15:=cq.lt);(try (have cA:=bm;obtain ⟨cW,cX,cY,cZ⟩:=cA));(try (have cD:=bs;obtain ⟨db,dc,dd,de⟩:=cD));(try (have cK:=bI;obtain ⟨dB,dC,dD,dE⟩:=cK));(try (have c7:=b8;obtain ⟨d7,d8,d9,ea⟩:=c7));(try (have dt:=cq;obtain ⟨eo,ep,eq,er⟩:=dt)))
   | (go_at_call 79;(refine zf w13 (by with_reducible first|exact Below.refl _ _|exact bN _ _) ?_);intro V14 jB ei;have hsV14:=ei.size;have jP:=gb.size;have g13:=g13.to ei;have gb:=bS gb ei;(try have bm:=bm.to ei);(try have bs:=bs.to ei);(try have bI:=bI.to ei);(try have b8:Duo V14 (w13.heap.size) (.bool false) (.slice none 0 0):=(by rw [jB];with_reducible first|exact zC _ (.bool false) (.slice none 0 0) _|exact (zC _ (.bool false) (.slice none 0 0) _).alloc _));have dp:wc.heap.size<=w13.heap.size:=(jP);(try have vt11_I_0_14:=bm.lt);(try have vt12_I_0_14:=bs.lt);(try have vt13_I_0_14:=bI.lt);(try have vt14_I_0_14:=b8.lt);(with_reducible refine (zaM _ _ _ _ _ _ (g2.to gb).isQ).mono ?_);rintro e w14 ⟨rfl,d5⟩;have g13:=g13.to d5;have gb:=bS gb d5;have hs14:=d5.size;(try have bm:=bm.to d5);(try have bs:=bs.to d5);(try have bI:=bI.to d5);(try have b8:=b8.to d5);(try have lt11_I_0_14:=bm.lt);(try have lt12_I_0_14:=bs.lt);(try have lt13_I_0_14:=bI.lt);(try have lt14_I_0_14:=b8.lt);(try (have cA:=bm;obtain ⟨cW,cX,cY,cZ⟩:=cA));(try (have cD:=bs;obtain ⟨db,dc,dd,de⟩:=cD));(try (have cK:=bI;obtain ⟨dB,dC,dD,dE⟩:=cK));(try (have c7:=b8;obtain ⟨d7,d8,d9,ea⟩:=c7)))
   | (go_at_call 78;(refine zf w12 (by with_reducible first|exact Below.refl _ _|exact bN _ _) ?_);intro V13 jA eV;have hsV13:=eV.size;have jO:=gb.size;have gb:=bS gb eV;(try have bm:=bm.to eV);(try have bs:=bs.to eV);(try have bI:Duo V13 (w12.heap.size) (.bool false) (.slice none 0 0):=(by rw [jA];with_reducible first|exact zC _ (.bool false) (.slice none 0 0) _|exact (zC _ (.bool false) (.slice none 0 0) _).alloc _));have dm:wc.heap.size<=w12.heap.size:=(jO);(try have vt11_I_0_13:=bm.lt);(try have vt12_I_0_13:=bs.lt);(try have vt13_I_0_13:=bI.lt);(with_reducible refine (zfp _ (g1.to gb).above (g2.to gb).below (x.num*(y.den:Int)) rfl S1).mono ?_);rintro e w13 ⟨ng13,a13_,n13_,c13_,rfl,g13,ec⟩;have gb:=bS gb ec;have hs13:=ec.size;(try have bm:=bm.to ec);(try have bs:=bs.to ec);(try have bI:=bI.to ec);(try have lt11_I_0_13:=bm.lt);(try have lt12_I_0_13:=bs.lt);(try have lt13_I_0_13:=bI.lt);(try (have cA:=bm;obtain ⟨cW,cX,cY,cZ⟩:=cA));(try (have cD:=bs;obtain ⟨db,dc,dd,de⟩:=cD));(try (have cK:=bI;obtain ⟨dB,dC,dD,dE⟩:=cK)))
   | (go_at_call 80;(refine zf w11 (by with_reducible first|exact Below.refl _ _|exact bN _ _) ?_);intro V12 jz fg;have hsV12:=fg.size;have jN:=gb.size;have gb:=bS gb fg;(try have bm:=bm.to fg);(try have bs:Duo V12 (w11.heap.size) (.bool false) (.slice none 0 0):=(by rw [jz];with_reducible first|exact zC _ (.bool false) (.slice none 0 0) _|exact (zC _ (.bool false) (.slice none 0 0) _).alloc _));have dl:wc.heap.size<=w11.heap.size:=(jN);(try have vt11_I_0_12:=bm.lt);(try have vt12_I_0_12:=bs.lt);(with_reducible refine (zaN _ _ _ _ _ _ (g2.to gb).isQ).mono ?_);rintro e w12 ⟨rfl,dM⟩;have gb:=bS gb dM;have hs12:=dM.size;(try have bm:=bm.to dM);(try have bs:=bs.to dM);(try have lt11_I_0_12:=bm.lt);(try have lt12_I_0_12:=bs.lt);(try (have cA:=bm;obtain ⟨cW,cX,cY,cZ⟩:=cA));(try (have cD:=bs;obtain ⟨db,dc,dd,de⟩:=cD)))
   | (go_at_call 79;(refine zf wc (by with_reducible first|exact (Below.refl _ _).drew|exact (bN _ _).drew) ?_);intro V11 jy f9;have hsV11:=f9.size;have jM:=gb.size;have gb:=bS gb f9;(try have bm:Duo V11 (wc.heap.size) (.bool false) (.slice none 0 0):=(by rw [jy];with_reducible first|exact (zC _ (.bool false) (.slice none 0 0) _).drew|exact ((zC _ (.bool false) (.slice none 0 0) _).alloc _).drew));have dk:wc.heap.size<=wc.heap.size:=(jM);(try have vt11_I_0_11:=bm.lt);(with_reducible refine (zaM _ _ _ _ _ _ (g1.to gb).isQ).mono ?_);rintro e w11 ⟨rfl,eU⟩;have gb:=bS gb eU;have hs11:=eU.size;(try have bm:=bm.to eU);(try have lt11_I_0_11:=bm.lt);(try (have cA:=bm;obtain ⟨cW,cX,cY,cZ⟩:=cA))))
  all_goals (go_wp2_with fail;go_meet)
  all_goals first
   | (with_reducible exact zbz bm g17 (.inl eM) gb dk)
   | (with_reducible exact zbz bs g17 (.inl eN) gb dl)
   | (with_reducible exact zbz bI g17 (.inl eO) gb dm)
   | (with_reducible exact zbz b8 g17 (.inl eP) gb dp)
   | (with_reducible exact zbz cq g17 (.inl eQ) gb dq)
   | (with_reducible exact zbz cE g17 (.inl eR) gb dr)
   | (with_reducible exact zbz dF g17 (.inl eS) gb ds)
   | (with_reducible exact boxC_new g17 gb)
 case rest =>
 obtain ⟨B7,ng17,a17_,n17_,c17_,lo7,hi7,rfl,hB7,T7,g17,hc7⟩:=hcut
 clear ae ah af ai ag ak aA aD aB aE aC aF bt bG bu bH b6 cg bv bJ bw bK bx bL ck cx cm cy cu cB
 have gb:=hc7
 obtain ⟨ae,af,ag,aA,aB,aC,bt,bu,b6,bv,bw,bx,ck,cm,cu⟩:=HXwc.out _ gb
 obtain ⟨ah,ai,ak,aD,aE,aF,bG,bH,cg,bJ,bK,bL,cx,cy,cB⟩:=HYwc.out _ gb
 obtain ⟨z0,z1,z2,z5,z6⟩:=HZwc.out _ gb
 have z7:=T7.lt
 obtain ⟨fQ,fR,ju,jv⟩:=T7
 clear hgb
 obtain ⟨W2,dX⟩:∃ W,wc=W:=⟨_,rfl⟩
 subst dX
 replace i0:=i0.to gb
 replace i1:=i1.to gb
 replace g1:=g1.to gb
 replace g2:=g2.to gb
 replace zb:=bS zb gb
 have HXwc:=Lib.hid (show ∀ W',Below wc.heap.size wc W'->(W'.cell? ⟨w.heap.size,0,none⟩=some (.bool b)/\W'.cell? ⟨w.heap.size,1,none⟩=some (.slice a0 n0 c0)/\W'.cell? ⟨w.heap.size,2,none⟩=some (.slice a1 n1 c1)/\W'.cell? ⟨w.heap.size+1,0,none⟩=some (.bool c)/\W'.cell? ⟨w.heap.size+1,1,none⟩=some (.slice a2 n2 c2)/\W'.cell? ⟨w.heap.size+1,2,none⟩=some (.slice a3 n3 c3)/\W'.cell? ⟨w.heap.size+1+1,0,none⟩=some (.bool false)/\W'.cell? ⟨w.heap.size+1+1,1,none⟩=some (.slice none 0 0)/\W'.cell? ⟨w.heap.size+1+1,2,none⟩=some (.slice none 0 0)/\W'.cell? ⟨B5,0,none⟩=some (.bool ng1)/\W'.cell? ⟨B5,1,none⟩=some (.slice a1_ n1_ c1_)/\W'.cell? ⟨B5,2,none⟩=some (.slice p1_ m1_ k1_)/\W'.cell? ⟨B6,0,none⟩=some (.bool ng2)/\W'.cell? ⟨B6,1,none⟩=some (.slice a2_ n2_ c2_)/\W'.cell? ⟨B6,2,none⟩=some (.slice p2_ m2_ k2_)/\W'.cell? ⟨B7,0,none⟩=some (.bool ng17)/\W'.cell? ⟨B7,1,none⟩=some (.slice a17_ n17_ c17_)) from fun W' hb =>
  by and_intros <;> exact kc hb (by first|assumption|assumption))
 have HYwc:=Lib.hid (show ∀ W',Below wc.heap.size wc W'->(W'.frozen? ⟨w.heap.size,0,none⟩=false/\W'.frozen? ⟨w.heap.size,1,none⟩=false/\W'.frozen? ⟨w.heap.size,2,none⟩=false/\W'.frozen? ⟨w.heap.size+1,0,none⟩=false/\W'.frozen? ⟨w.heap.size+1,1,none⟩=false/\W'.frozen? ⟨w.heap.size+1,2,none⟩=false/\W'.frozen? ⟨w.heap.size+1+1,0,none⟩=false/\W'.frozen? ⟨w.heap.size+1+1,1,none⟩=false/\W'.frozen? ⟨w.heap.size+1+1,2,none⟩=false/\W'.frozen? ⟨B5,0,none⟩=false/\W'.frozen? ⟨B5,1,none⟩=false/\W'.frozen? ⟨B5,2,none⟩=false/\W'.frozen? ⟨B6,0,none⟩=false/\W'.frozen? ⟨B6,1,none⟩=false/\W'.frozen? ⟨B6,2,none⟩=false/\W'.frozen? ⟨B7,0,none⟩=false/\W'.frozen? ⟨B7,1,none⟩=false) from fun W' hb =>
  by and_intros <;> refine (hb.frozen ?_).trans ?_ <;> first|assumption|assumption)
 have HZwc:=Lib.hid (show ∀ W',Below wc.heap.size wc W'->(w.heap.size<W'.heap.size/\w.heap.size+1<W'.heap.size/\w.heap.size+1+1<W'.heap.size/\B5<W'.heap.size/\B6<W'.heap.size/\B7<W'.heap.size) from fun W' hb =>
  by and_intros <;> refine Nat.lt_of_lt_of_le ?_ hb.size <;> first|assumption)
 replace gb:=Below.refl wc.heap.size wc
 go_wp2_with fail
 have H8:=Lib.hid (H9.out ng17 (by have k:=g17.2.1;exact k))
 have nz0:w.heap.size≠w.heap.size+1+1:=by omega
 have nz1:w.heap.size+1≠w.heap.size+1+1:=by omega
 have nz5:B5≠w.heap.size+1+1:=by omega
 have nz6:B6≠w.heap.size+1+1:=by omega
 have nz7:B7≠w.heap.size+1+1:=by omega
 go_region_held3 (fun W' => W'.cell? ⟨w.heap.size,0,none⟩=some (.bool b)/\W'.cell? ⟨w.heap.size,1,none⟩=some (.slice a0 n0 c0)/\W'.cell? ⟨w.heap.size,2,none⟩=some (.slice a1 n1 c1)/\W'.cell? ⟨w.heap.size+1,0,none⟩=some (.bool c)/\W'.cell? ⟨w.heap.size+1,1,none⟩=some (.slice a2 n2 c2)/\W'.cell? ⟨w.heap.size+1,2,none⟩=some (.slice a3 n3 c3)/\W'.cell? ⟨B5,0,none⟩=some (.bool ng1)/\W'.cell? ⟨B5,1,none⟩=some (.slice a1_ n1_ c1_)/\W'.cell? ⟨B5,2,none⟩=some (.slice p1_ m1_ k1_)/\W'.cell? ⟨B6,0,none⟩=some (.bool ng2)/\W'.cell? ⟨B6,1,none⟩=some (.slice a2_ n2_ c2_)/\W'.cell? ⟨B6,2,none⟩=some (.slice p2_ m2_ k2_)/\W'.cell? ⟨B7,0,none⟩=some (.bool ng17)/\W'.cell? ⟨B7,1,none⟩=some (.slice a17_ n17_ c17_)) (first|(with_reducible exact ⟨ae,af,ag,aA,aB,aC,bv,bw,bx,ck,cm,cu,fQ,fR⟩)|(with_reducible exact ⟨cP (cP (cP (ae) (.inl nz0) _) (.inl nz0) _) (.inl nz0) _,cP (cP (cP (af) (.inl nz0) _) (.inl nz0) _) (.inl nz0) _,cP (cP (cP (ag) (.inl nz0) _) (.inl nz0) _) (.inl nz0) _,cP (cP (cP (aA) (.inl nz1) _) (.inl nz1) _) (.inl nz1) _,cP (cP (cP (aB) (.inl nz1) _) (.inl nz1) _) (.inl nz1) _,cP (cP (cP (aC) (.inl nz1) _) (.inl nz1) _) (.inl nz1) _,cP (cP (cP (bv) (.inl nz5) _) (.inl nz5) _) (.inl nz5) _,cP (cP (cP (bw) (.inl nz5) _) (.inl nz5) _) (.inl nz5) _,cP (cP (cP (bx) (.inl nz5) _) (.inl nz5) _) (.inl nz5) _,cP (cP (cP (ck) (.inl nz6) _) (.inl nz6) _) (.inl nz6) _,cP (cP (cP (cm) (.inl nz6) _) (.inl nz6) _) (.inl nz6) _,cP (cP (cP (cu) (.inl nz6) _) (.inl nz6) _) (.inl nz6) _,cP (cP (cP (fQ) (.inl nz7) _) (.inl nz7) _) (.inl nz7) _,cP (cP (cP (fR) (.inl nz7) _) (.inl nz7) _) (.inl nz7) _⟩)|exact ⟨ae,af,ag,aA,aB,aC,bv,bw,bx,ck,cm,cu,fQ,fR⟩) (first
  | (go_at_call 18;(with_reducible refine (zO ng17 _ _ _ _ _ (g17.to gb).isI.up g21.rd (Nat.le_trans S3.out (by omega)) K2.out q H8.out hs).mono ?_);rintro e w22 ⟨ng22,a22_,n22_,c22_,p22_,m22_,k22_,rfl,g22,iM⟩;have g21:=g21.to iM;have gb:=bS gb iM;obtain ⟨ae,af,ag,aA,aB,aC,bt,bu,b6,bv,bw,bx,ck,cm,cu,fQ,fR⟩:=HXwc.out _ gb;obtain ⟨ah,ai,ak,aD,aE,aF,bG,bH,cg,bJ,bK,bL,cx,cy,cB,ju,jv⟩:=HYwc.out _ gb;obtain ⟨z0,z1,z2,z5,z6,z7⟩:=HZwc.out _ gb)
  | (go_at_call 81;have gb:=gb.drew;(with_reducible refine (zbx _ _ (zc x.den) (zc y.den) _ (g1.to gb).isQ.dn (g2.to gb).isQ.dn (Nat.le_trans (g1.to gb).isQ.ldn (by omega)) (Nat.le_trans (g2.to gb).isQ.ldn (by omega))).mono ?_);rintro e w21 ⟨v21,rfl,g21,jF⟩;obtain ⟨a21_,n21_,c21_,rfl,H21,hm21⟩:=g21.rd.open;have gb:=bS gb jF;obtain ⟨ae,af,ag,aA,aB,aC,bt,bu,b6,bv,bw,bx,ck,cm,cu,fQ,fR⟩:=HXwc.out _ gb;obtain ⟨ah,ai,ak,aD,aE,aF,bG,bH,cg,bJ,bK,bL,cx,cy,cB,ju,jv⟩:=HYwc.out _ gb;obtain ⟨z0,z1,z2,z5,z6,z7⟩:=HZwc.out _ gb))
 go_wp2_with fail
 refine bodyPost_ret (zU Try.results52 _ _ _ _ _ _ rfl (Tri.set (x0:=.bool false) (y0:=.slice none 0 0) (z0:=.slice none 0 0) ⟨bt,bu,b6,bG,bH,cg⟩ _ _ _)) rfl (zds (bS zb gb) (by omega) ?_ g22)
 omega

end Go.Proofs.Ytkjcdnlpjldhaaa


namespace Go.Proofs.Ytkjcdnlpjldhaaa
open Go.RowKit Tw
attribute [local go_sem ↓] Go.wp_at_zero Go.wp_at_succ

theorem zdL {z:Int} (n0:-9223372036854775808<=z) (n1:z<9223372036854775808):szi z<=3:=by
 unfold szi
 have:=zV (show z.natAbs<=18446744073709551616 by omega)
 rwa [show sz 18446744073709551616=3 by decide +kernel] at this

theorem ziR {z:Int} (h:szi z<=3):szq (z:Rat)<=4097:=by
 unfold szq
 have h1:(z:Rat).num=z:=Rat.num_intCast z
 have h2:(z:Rat).den=1:=Rat.den_intCast z
 rw [h1,h2]
 unfold szi at h
 have:sz 1<=1:=by decide +kernel
 omega

theorem ziH (z:Int):rat (decide (z<0)) (val (zc z.natAbs)) (val (zc (1:Int).toNat))=(z:Rat):=by
 rw [vL,vL]
 have h:=zbW (z:Rat)
 have h1:(z:Rat).num=z:=Rat.num_intCast z
 have h2:(z:Rat).den=1:=Rat.den_intCast z
 rw [zcc,h1,h2] at h
 exact h

def zp (w:World) (q:Rat) (e:Ending) (w':World):Prop :=
 ∃ ng a n c a' n' c',e=.returned (.tuple #[aggR ng (.slice a n c) (.slice a' n' c'),.int .i64 0])/\zW w.heap.size w'.heap.size w' ng (.slice a n c) (.slice a' n' c') q/\Below w.heap.size w w'

theorem zbn {w w2:World} {lo hi rb:Nat} {ng:Bool} {a a':Option Addr} {n c n' c':Nat} {q:Rat} (hb:Below w.heap.size w w2) (hrb:w.heap.size<=rb) (hlo:rb<lo) (hv:zW lo hi w2 ng (.slice a n c) (.slice a' n' c') q) :
  zp w q (.returned (.tuple #[aggR ng (.slice a n c) (.slice a' n' c'),.int .i64 0])) (zbE w2 rb (.bool ng) (.slice a n c) (.slice a' n' c')):=by
 obtain ⟨_,_,_,_,_,_,_,e,h1,h2⟩:=zds hb hrb hlo hv
 injection e with e
 injection e with e
 simp only [Array.mk.injEq,List.cons.injEq,Value.bool.injEq,Value.slice.injEq,and_true] at e
 obtain ⟨rfl,⟨rfl,rfl,rfl⟩,rfl,rfl,rfl⟩:=e
 exact ⟨_,_,_,_,_,_,_,rfl,h1,h2⟩

theorem zjB {x y:Rat} (b:Bool) (v u:Value) (ln ld:List Nat) (c:Bool) (v' u':Value) (ln' ld':List Nat) (w:World) (h:IsQ w b v u ln ld x) (h':IsQ w c v' u' ln' ld' y) (q:Rat) (hq:x - y=q) (hs:Hid (szq q<=4097)) :
  Calls Try.prog 53 #[aggR b v u,aggR c v' u'] w (zae w q):=by
 have Hn:Hid (szq (-y)<=4097):=by show _<=_;rw [zgd];exact (zas h').out
 have H9:=Lib.hid (show x+-y=q by rw [<- Rat.sub_eq_add_neg,hq])
 obtain ⟨a0,n0,c0,rfl,H0,hm0⟩:=h.1.open
 obtain ⟨a1,n1,c1,rfl,H1,hm1⟩:=h.2.1.open
 obtain ⟨a2,n2,c2,rfl,H2,hm2⟩:=h'.1.open
 obtain ⟨a3,n3,c3,rfl,H3,hm3⟩:=h'.2.1.open
 clear hq
 go_enter Try.func53,Try.ntmps53
 go_wp2_with fail
 obtain ⟨W0,aq⟩:∃ W0,((w.alloc (.cells #[.bool b,.slice a0 n0 c0,.slice a1 n1 c1] 25)).alloc (.cells #[.bool c,.slice a2 n2 c2,.slice a3 n3 c3] 25)).alloc (.cells #[.bool false,.slice none 0 0,.slice none 0 0] 25)=W0:=⟨_,rfl⟩
 have al:=Lib.hid (show ∀ W',Below W0.heap.size W0 W'->(Bx3 W' w.heap.size (.bool b) (.slice a0 n0 c0) (.slice a1 n1 c1)/\Bx3 W' (w.heap.size+1) (.bool c) (.slice a2 n2 c2) (.slice a3 n3 c3)/\Bx3 W' (w.heap.size+1+1) (.bool false) (.slice none 0 0) (.slice none 0 0)) from fun W' hb => by
   refine ⟨bx3 hb ?_ ?_ ?_ ?_ ?_ ?_,bx3 hb ?_ ?_ ?_ ?_ ?_ ?_,bx3 hb ?_ ?_ ?_ ?_ ?_ ?_⟩
   all_goals first|assumption|(rw [<- aq];simp [go_sem]))
 have zb:Below w.heap.size w W0:=by rw [<- aq];exact bS (bS (bN _ _) (bN _ _)) (bN _ _)
 rw [aq]
 clear aq
 have i0:=h.to zb
 have i1:=h'.to zb
 have gb:Below W0.heap.size W0 W0:=Below.refl _ _
 obtain ⟨⟨z0,ae,af,ag,ah,ai,ak⟩,⟨z1,aA,aB,aC,aD,aE,aF⟩,⟨z2,bt,bu,b6,bG,bH,cg⟩⟩:=al.out _ gb
 have nz0:w.heap.size≠w.heap.size+1+1:=by omega
 have nz1:w.heap.size+1≠w.heap.size+1+1:=by omega
 go_region_held3 (fun W' => W'.cell? ⟨w.heap.size,0,none⟩=some (.bool b)/\W'.cell? ⟨w.heap.size,1,none⟩=some (.slice a0 n0 c0)/\W'.cell? ⟨w.heap.size,2,none⟩=some (.slice a1 n1 c1)/\W'.cell? ⟨w.heap.size+1,0,none⟩=some (.bool c)/\W'.cell? ⟨w.heap.size+1,1,none⟩=some (.slice a2 n2 c2)/\W'.cell? ⟨w.heap.size+1,2,none⟩=some (.slice a3 n3 c3)) (first|(with_reducible exact ⟨ae,af,ag,aA,aB,aC⟩)|(with_reducible exact ⟨cP (cP (cP (ae) (.inl nz0) _) (.inl nz0) _) (.inl nz0) _,cP (cP (cP (af) (.inl nz0) _) (.inl nz0) _) (.inl nz0) _,cP (cP (cP (ag) (.inl nz0) _) (.inl nz0) _) (.inl nz0) _,cP (cP (cP (aA) (.inl nz1) _) (.inl nz1) _) (.inl nz1) _,cP (cP (cP (aB) (.inl nz1) _) (.inl nz1) _) (.inl nz1) _,cP (cP (cP (aC) (.inl nz1) _) (.inl nz1) _) (.inl nz1) _⟩)|exact ⟨ae,af,ag,aA,aB,aC⟩) (first
  | (go_at_call 52;(with_reducible refine (zfr b _ _ ln ld _ _ _ _ _ _ (i0.to gb) g1.isQ q H9.out hs).mono ?_);rintro e w2 ⟨ng2,a2_,n2_,c2_,p2_,m2_,k2_,rfl,g2,aL⟩;have g1:=g1.to aL;have gb:=bS gb aL;obtain ⟨⟨z0,ae,af,ag,ah,ai,ak⟩,⟨z1,aA,aB,aC,aD,aE,aF⟩,⟨z2,bt,bu,b6,bG,bH,cg⟩⟩:=al.out _ gb)
  | (go_at_call 56;have gb:=gb.drew;(with_reducible refine (zfs c _ _ ln' ld' _ (i1.to gb) (-y) rfl Hn).mono ?_);rintro e w1 ⟨ng1,a1_,n1_,c1_,p1_,m1_,k1_,rfl,g1,aT⟩;have gb:=bS gb aT;obtain ⟨⟨z0,ae,af,ag,ah,ai,ak⟩,⟨z1,aA,aB,aC,aD,aE,aF⟩,⟨z2,bt,bu,b6,bG,bH,cg⟩⟩:=al.out _ gb))
 go_wp2_with fail
 refine bodyPost_ret (zU Try.results53 _ _ _ _ _ _ rfl (Tri.set (x0:=.bool false) (y0:=.slice none 0 0) (z0:=.slice none 0 0) ⟨bt,bu,b6,bG,bH,cg⟩ _ _ _)) rfl (zds (bS zb gb) (by omega) ?_ g2)
 omega

theorem zeZ (b c:Bool) (v u:Value) (ln ld:List Nat) (w:World) (hv:Rd w v ln) (hu:Rd w u ld) (h2:ld.length<=15000) (h0:val ld=0) :
  Calls Try.prog 82 #[aggI b v,aggI c u] w (fun e w' => e=.returned (.tuple #[aggR false (.slice none 0 0) (.slice none 0 0),.int .i64 3])/\Below w.heap.size w w'):=by
 have Z0:=Lib.hid (show zD (val ld)=0 by rw [h0];rfl)
 clear h0
 obtain ⟨a0,n0,c0,rfl,H0,hm0⟩:=hv.open
 obtain ⟨a1,n1,c1,rfl,H1,hm1⟩:=hu.open
 go_enter Try.func82,Try.ntmps82
 go_wp2_with fail
 obtain ⟨W0,aq⟩:∃ W0,((w.alloc (.cells #[.bool b,.slice a0 n0 c0] 51)).alloc (.cells #[.bool c,.slice a1 n1 c1] 51)).alloc (.cells #[.bool false,.slice none 0 0,.slice none 0 0] 25)=W0:=⟨_,rfl⟩
 have al:=Lib.hid (show ∀ W',Below W0.heap.size W0 W'->(Bx2 W' w.heap.size (.bool b) (.slice a0 n0 c0)/\Bx2 W' (w.heap.size+1) (.bool c) (.slice a1 n1 c1)/\Bx3 W' (w.heap.size+1+1) (.bool false) (.slice none 0 0) (.slice none 0 0)) from fun W' hb => by
   refine ⟨bx2 hb ?_ ?_ ?_ ?_,bx2 hb ?_ ?_ ?_ ?_,bx3 hb ?_ ?_ ?_ ?_ ?_ ?_⟩
   all_goals first|assumption|(rw [<- aq];simp [go_sem]))
 have zb:Below w.heap.size w W0:=by rw [<- aq];exact bS (bS (bN _ _) (bN _ _)) (bN _ _)
 rw [aq]
 clear aq
 have i0:=hv.to zb
 have i1:=hu.to zb
 have gb:Below W0.heap.size W0 W0:=Below.refl _ _
 obtain ⟨⟨z0,ae,af,ah,ai⟩,⟨z1,aA,aB,aD,aE⟩,⟨z2,bt,bu,b6,bG,bH,cg⟩⟩:=al.out _ gb
 refine (zat _ ld _ (i1.to gb) (by omega)).mono ?_
 rintro e w1 ⟨rfl,rfl⟩
 rw [Z0.out]
 go_wp2_with fail
 refine bodyPost_ret (zn Try.results82 _ _ _ _ _ _ rfl (Tri.set (x0:=.bool false) (y0:=.slice none 0 0) (z0:=.slice none 0 0) ⟨bt,bu,b6,bG,bH,cg⟩ _ _ _)) rfl ⟨rfl,bT (bS zb gb) (by omega) _ _ _⟩

theorem zhV (b c:Bool) (v u:Value) (ln ld:List Nat) (w:World) (hv:Rd w v ln) (hu:Rd w u ld) (h1:ln.length<=15000) (h2:ld.length<=15000) (h0:val ld≠0) (q:Rat) (hq:rat (b != c) (val ln) (val ld)=q) (hs:Hid (szq q<=4097)) :
  Calls Try.prog 82 #[aggI b v,aggI c u] w (zp w q):=by
 have hnb:0<zD (val ld):=Nat.pos_of_ne_zero (fun e => h0 (zaC.1 e))
 have Z0:=Lib.hid h0
 have H9:=Lib.hid (show rat (!b == c) (val ln) (val ld)=q from hq)
 clear h0 hq
 obtain ⟨a0,n0,c0,rfl,H0,hm0⟩:=hv.open
 obtain ⟨a1,n1,c1,rfl,H1,hm1⟩:=hu.open
 go_enter Try.func82,Try.ntmps82
 go_wp2_with fail
 obtain ⟨W0,aq⟩:∃ W0,((w.alloc (.cells #[.bool b,.slice a0 n0 c0] 51)).alloc (.cells #[.bool c,.slice a1 n1 c1] 51)).alloc (.cells #[.bool false,.slice none 0 0,.slice none 0 0] 25)=W0:=⟨_,rfl⟩
 have al:=Lib.hid (show ∀ W',Below W0.heap.size W0 W'->(Bx2 W' w.heap.size (.bool b) (.slice a0 n0 c0)/\Bx2 W' (w.heap.size+1) (.bool c) (.slice a1 n1 c1)/\Bx3 W' (w.heap.size+1+1) (.bool false) (.slice none 0 0) (.slice none 0 0)) from fun W' hb => by
   refine ⟨bx2 hb ?_ ?_ ?_ ?_,bx2 hb ?_ ?_ ?_ ?_,bx3 hb ?_ ?_ ?_ ?_ ?_ ?_⟩
   all_goals first|assumption|(rw [<- aq];simp [go_sem]))
 have zb:Below w.heap.size w W0:=by rw [<- aq];exact bS (bS (bN _ _) (bN _ _)) (bN _ _)
 rw [aq]
 clear aq
 have i0:=hv.to zb
 have i1:=hu.to zb
 have gb:Below W0.heap.size W0 W0:=Below.refl _ _
 obtain ⟨⟨z0,ae,af,ah,ai⟩,⟨z1,aA,aB,aD,aE⟩,⟨z2,bt,bu,b6,bG,bH,cg⟩⟩:=al.out _ gb
 refine (zat _ ld _ (i1.to gb) (by omega)).mono ?_
 rintro e w1 ⟨rfl,rfl⟩
 go_wp2_with fail
 refine (zO (!b == c) _ _ _ _ _ (i0.to gb) (i1.to gb) h1 h2 q H9.out hs).mono ?_
 clear ae ah af ai aA aD aB aE bt bG bu bH b6 cg
 rintro e w2 ⟨ng2,a2_,n2_,c2_,p2_,m2_,k2_,rfl,g2,aL⟩
 replace gb:=bS gb aL
 obtain ⟨⟨z0,ae,af,ah,ai⟩,⟨z1,aA,aB,aD,aE⟩,⟨z2,bt,bu,b6,bG,bH,cg⟩⟩:=al.out _ gb
 go_wp2_with fail
 refine bodyPost_ret (zn Try.results82 _ _ _ _ _ _ rfl (Tri.set (x0:=.bool false) (y0:=.slice none 0 0) (z0:=.slice none 0 0) ⟨bt,bu,b6,bG,bH,cg⟩ _ _ _)) rfl (zbn (bS zb gb) (by omega) ?_ g2)
 omega

theorem zfT (n z:Int) (w:World) (hz:z=n) (m0:-9223372036854775808<=n) (m1:n<9223372036854775808) :
  Calls Try.prog 10 #[.int .i64 n] w (zae w (z:Rat)):=by
 have Hz:=Lib.hid hz
 have S1:=Lib.hid (zdL (z:=z) (by omega) (by omega))
 have S2:=Lib.hid (show szq (z:Rat)<=4097 from ziR S1.out)
 have K2:=Lib.hid (show (zc (1:Int).toNat).length<=15000 by decide +kernel)
 have H9:=Lib.hid (show ∀ ng,decide (z<0)=ng->rat ng (val (zc z.natAbs)) (val (zc (1:Int).toNat))=(z:Rat) from fun ng e => by rw [<- e];exact ziH z)
 clear hz
 go_enter Try.func10,Try.ntmps10
 go_wp2_with fail
 obtain ⟨W0,aq⟩:∃ W0,w.alloc (.cells #[.bool false,.slice none 0 0,.slice none 0 0] 25)=W0:=⟨_,rfl⟩
 have al:=Lib.hid (show ∀ W',Below W0.heap.size W0 W'->(Bx3 W' w.heap.size (.bool false) (.slice none 0 0) (.slice none 0 0)) from fun W' hb => by
   apply bx3 hb
   all_goals first|assumption|(rw [<- aq];simp [go_sem]))
 have zb:Below w.heap.size w W0:=by rw [<- aq];exact bN _ _
 rw [aq]
 clear aq
 have gb:Below W0.heap.size W0 W0:=Below.refl _ _
 obtain ⟨z0,ae,af,ag,ah,ai,ak⟩:=al.out _ gb
 refine (of_c n z _ Hz.out m0 m1).mono ?_
 clear ae ah af ai ag ak
 rintro e w1 ⟨ng1,a1_,n1_,c1_,rfl,g1,aT⟩
 replace gb:=bS gb aT
 obtain ⟨z0,ae,af,ag,ah,ai,ak⟩:=al.out _ gb
 go_wp2_with fail
 obtain ⟨W1,aK⟩:∃ W1,w1.alloc (.cells #[.bool ng1,.slice a1_ n1_ c1_] 51)=W1:=⟨_,rfl⟩
 have hb_W1:Below w1.heap.size w1 W1:=by rw [<- aK];exact bN _ _
 clear ae ah af ai ag ak
 replace g1:=g1.to hb_W1
 replace gb:=bS gb hb_W1
 obtain ⟨z0,ae,af,ag,ah,ai,ak⟩:=al.out _ gb
 have b9:W1.cell? ⟨w1.heap.size,0,none⟩=some (.bool ng1):=by rw [<- aK];simp [go_sem]
 have ce:W1.frozen? ⟨w1.heap.size,0,none⟩=false:=by rw [<- aK];simp [go_sem]
 have cd:W1.cell? ⟨w1.heap.size,1,none⟩=some (.slice a1_ n1_ c1_):=by rw [<- aK];simp [go_sem]
 have cf:W1.frozen? ⟨w1.heap.size,1,none⟩=false:=by rw [<- aK];simp [go_sem]
 have z3:w1.heap.size<W1.heap.size:=by rw [<- aK];simp
 rw [aK]
 clear aK
 replace zb:=bS zb gb
 have b7:=Lib.hid (show ∀ W',Below W1.heap.size W1 W'->(Bx3 W' w.heap.size (.bool false) (.slice none 0 0) (.slice none 0 0)/\Bx2 W' w1.heap.size (.bool ng1) (.slice a1_ n1_ c1_)) from fun W' hb => by
   refine ⟨bx3 hb ?_ ?_ ?_ ?_ ?_ ?_,bx2 hb ?_ ?_ ?_ ?_⟩
   all_goals first|assumption|assumption)
 replace gb:=Below.refl W1.heap.size W1
 go_wp2_with fail
 have H8:=Lib.hid (H9.out ng1 (by have k:=g1.2.1;exact k))
 have nz3:w1.heap.size≠w.heap.size:=by omega
 go_region_held3 (fun W' => W'.cell? ⟨w1.heap.size,0,none⟩=some (.bool ng1)/\W'.cell? ⟨w1.heap.size,1,none⟩=some (.slice a1_ n1_ c1_)) (first|(with_reducible exact ⟨b9,cd⟩)|(with_reducible exact ⟨cP (cP (cP (b9) (.inl nz3) _) (.inl nz3) _) (.inl nz3) _,cP (cP (cP (cd) (.inl nz3) _) (.inl nz3) _) (.inl nz3) _⟩)|exact ⟨b9,cd⟩) (first
  | (go_at_call 18;(with_reducible refine (zO ng1 _ _ _ _ _ (g1.to gb).isI.up g2.rd (Nat.le_trans S1.out (by omega)) K2.out (z:Rat) H8.out S2).mono ?_);rintro e w3 ⟨ng3,a3_,n3_,c3_,p3_,m3_,k3_,rfl,g3,bM⟩;have g2:=g2.to bM;have gb:=bS gb bM;obtain ⟨⟨z0,ae,af,ag,ah,ai,ak⟩,⟨z3,b9,cd,ce,cf⟩⟩:=b7.out _ gb)
  | (go_at_call 19;have gb:=gb.drew;(with_reducible refine (zcb 1 _ (by omega) (by omega)).mono ?_);rintro e w2 ⟨v2,rfl,g2,aL⟩;obtain ⟨a2_,n2_,c2_,rfl,H2,hm2⟩:=g2.rd.open;have gb:=bS gb aL;obtain ⟨⟨z0,ae,af,ag,ah,ai,ak⟩,⟨z3,b9,cd,ce,cf⟩⟩:=b7.out _ gb))
 go_wp2_with fail
 refine bodyPost_ret (zU Try.results10 _ _ _ _ _ _ rfl (Tri.set (x0:=.bool false) (y0:=.slice none 0 0) (z0:=.slice none 0 0) ⟨ae,af,ag,ah,ai,ak⟩ _ _ _)) rfl (zds (bS zb gb) (by omega) ?_ g3)
 omega

end Go.Proofs.Ytkjcdnlpjldhaaa


namespace Go.Proofs.Ytkjcdnlpjldhaaa
open Go.RowKit Tw
attribute [local go_sem ↓] Go.wp_at_zero Go.wp_at_succ

theorem finZ1 {w w1:World} {rb:Nat} (hb:Below w.heap.size w w1) (hrb:w.heap.size<=rb) (hlt:rb<w1.heap.size) :
  zae w 0 (.returned (aggR false (.slice none 0 0) (.slice (some ⟨w1.heap.size,0,none⟩) 1 1))) ((zbE w1 rb (.bool false) (.slice none 0 0) (.slice (some ⟨w1.heap.size,0,none⟩) 1 1)).alloc (.cells #[zau 1] 31)):=by
 have bM:=bT hb hrb (.bool false) (.slice none 0 0) (.slice (some ⟨w1.heap.size,0,none⟩) 1 1)
 refine ⟨false,none,0,0,_,_,_,rfl,zeh (by rw [show zc (0:Rat).num.natAbs=[] by decide +kernel];exact Own.nil _ _) ?_ (by decide +kernel) (by decide +kernel),bS bM (bN _ _)⟩
 rw [show zc (0:Rat).den=[1] by decide +kernel]
 exact (zaJ (zbE w1 rb (.bool false) (.slice none 0 0) (.slice (some ⟨w1.heap.size,0,none⟩) 1 1)) w1.heap.size [1] (by simp) (zbQ (by omega)) (by simp [maxLen])).mono bM.size

theorem zgq (va vb:Value) (la lb:List Nat) (o:Bool) (w:World) (ha:Rd w va la) (hb:Rd w vb lb) (ho:Hid (decide (la=lb)=o)) :
  Calls Try.prog 43 #[va,vb] w fun e w' => e=.returned (.bool o)/\Below w.heap.size w w':=by
 by_cases h:la=lb
 ·subst h
  rw [<- ho.out,decide_eq_true rfl]
  exact zis va vb la w ha hb
 ·rw [<- ho.out,decide_eq_false h]
  exact zir va vb la lb w ha hb h

def IsF (w:World) (v u:Value) (ln ld:List Nat):Prop:=Rd w v ln/\Rd w u ld

theorem IsF.to {w w':World} {v u:Value} {ln ld:List Nat} (h:IsF w v u ln ld) (hb:Below w.heap.size w w'):IsF w' v u ln ld:=⟨h.1.to hb,h.2.to hb⟩

theorem IsF.drew {w:World} {v u:Value} {ln ld:List Nat} (h:IsF w v u ln ld):IsF w.drew v u ln ld:=⟨h.1.drew,h.2.drew⟩

theorem IsQ.isF {w:World} {b:Bool} {v u:Value} {ln ld:List Nat} {q:Rat} (h:IsQ w b v u ln ld q):IsF w v u ln ld:=⟨h.1,h.2.1⟩

theorem zW.isF {lo hi:Nat} {w:World} {b:Bool} {v u:Value} {q:Rat} (h:zW lo hi w b v u q):IsF w v u (zc q.num.natAbs) (zc q.den):=⟨h.1.rd,h.2.1.rd⟩

theorem zW.ng {lo hi:Nat} {w:World} {b:Bool} {v u:Value} {q:Rat} (h:zW lo hi w b v u q):decide (q<0)=b:=h.2.2.1

def zdE (b:Bool) (ln ld:List Nat) (x:Rat):Bool:=decide (x<0) == b && decide (zc x.num.natAbs=ln) && decide (zc x.den=ld)

theorem zeP (b:Bool) (v u:Value) (ln ld:List Nat) (w:World) (hv:Rd w v ln) (hu:Rd w u ld) (h1:ln.length<=3000) (h2:ld.length<=3000) (h0:val ld=0) :
  Calls Try.prog 12 #[aggI b v,u] w (zae w (rat b (val ln) (val ld))):=by
 rw [h0,zbq]
 have Z0:=Lib.hid h0
 clear h0
 obtain ⟨a0,n0,c0,rfl,H0,hm0⟩:=hv.open
 obtain ⟨a1,n1,c1,rfl,H1,hm1⟩:=hu.open
 go_enter Try.func12,Try.ntmps12
 go_wp2_with fail
 obtain ⟨W0,aq⟩:∃ W0,(w.alloc (.cells #[.bool b,.slice a0 n0 c0] 51)).alloc (.cells #[.bool false,.slice none 0 0,.slice none 0 0] 25)=W0:=⟨_,rfl⟩
 have al:=Lib.hid (show ∀ W',Below W0.heap.size W0 W'->(Bx2 W' w.heap.size (.bool b) (.slice a0 n0 c0)/\Bx3 W' (w.heap.size+1) (.bool false) (.slice none 0 0) (.slice none 0 0)) from fun W' hb => by
   refine ⟨bx2 hb ?_ ?_ ?_ ?_,bx3 hb ?_ ?_ ?_ ?_ ?_ ?_⟩
   all_goals first|assumption|(rw [<- aq];simp [go_sem]))
 have zb:Below w.heap.size w W0:=by rw [<- aq];exact bS (bN _ _) (bN _ _)
 rw [aq]
 clear aq
 have i0:=hv.to zb
 have i1:=hu.to zb
 have gb:Below W0.heap.size W0 W0:=Below.refl _ _
 obtain ⟨⟨z0,ae,af,ah,ai⟩,⟨z1,aA,aB,aC,aD,aE,aF⟩⟩:=al.out _ gb
 refine (zeO _ _ ln ld _ (i0.to gb) (i1.to gb) (by omega) Z0.out).mono ?_
 clear ae ah af ai aA aD aB aE aC aF
 rintro e w1 ⟨rfl,aT⟩
 replace gb:=bS gb aT
 obtain ⟨⟨z0,ae,af,ah,ai⟩,⟨z1,aA,aB,aC,aD,aE,aF⟩⟩:=al.out _ gb
 go_wp2_with fail
 refine bodyPost_ret (zU Try.results12 _ _ _ _ _ _ rfl (Tri.alloc (Tri.set (x0:=.bool false) (y0:=.slice none 0 0) (z0:=.slice none 0 0) ⟨aA,aB,aC,aD,aE,aF⟩ _ _ _) _)) rfl (finZ1 (bS zb gb) (by omega) (by omega))

theorem zdD (b:Bool) (v u:Value) (ln ld:List Nat) (w:World) (hv:Rd w v ln) (hu:Rd w u ld) (h1:ln.length<=3000) (h2:ld.length<=3000) (h0:0<val ld) (h3:val ln=0) :
  Calls Try.prog 12 #[aggI b v,u] w (zae w (rat b (val ln) (val ld))):=by
 rw [h3,zbr]
 have Z0:=Lib.hid h0
 have Z3:=Lib.hid (show zc (val ln / Nat.gcd (val ln) (val ld))=[] by rw [h3,Nat.zero_div];rfl)
 clear h0 h3
 obtain ⟨a0,n0,c0,rfl,H0,hm0⟩:=hv.open
 obtain ⟨a1,n1,c1,rfl,H1,hm1⟩:=hu.open
 go_enter Try.func12,Try.ntmps12
 go_wp2_with fail
 obtain ⟨W0,aq⟩:∃ W0,(w.alloc (.cells #[.bool b,.slice a0 n0 c0] 51)).alloc (.cells #[.bool false,.slice none 0 0,.slice none 0 0] 25)=W0:=⟨_,rfl⟩
 have al:=Lib.hid (show ∀ W',Below W0.heap.size W0 W'->(Bx2 W' w.heap.size (.bool b) (.slice a0 n0 c0)/\Bx3 W' (w.heap.size+1) (.bool false) (.slice none 0 0) (.slice none 0 0)) from fun W' hb => by
   refine ⟨bx2 hb ?_ ?_ ?_ ?_,bx3 hb ?_ ?_ ?_ ?_ ?_ ?_⟩
   all_goals first|assumption|(rw [<- aq];simp [go_sem]))
 have zb:Below w.heap.size w W0:=by rw [<- aq];exact bS (bN _ _) (bN _ _)
 rw [aq]
 clear aq
 have i0:=hv.to zb
 have i1:=hu.to zb
 have gb:Below W0.heap.size W0 W0:=Below.refl _ _
 obtain ⟨⟨z0,ae,af,ah,ai⟩,⟨z1,aA,aB,aC,aD,aE,aF⟩⟩:=al.out _ gb
 refine (zdU _ _ ln ld _ (i0.to gb) (i1.to gb) (by omega) (by omega) Z0.out).mono ?_
 clear ae ah af ai aA aD aB aE aC aF
 rintro e w1 ⟨v1,u1,rfl,g1,d1,aT⟩
 obtain ⟨a1_,n1_,c1_,rfl,H1,hm1⟩:=g1.rd.open
 obtain ⟨p1_,m1_,k1_,rfl,J1,jm1⟩:=d1.rd.open
 replace gb:=bS gb aT
 obtain ⟨⟨z0,ae,af,ah,ai⟩,⟨z1,aA,aB,aC,aD,aE,aF⟩⟩:=al.out _ gb
 obtain rfl:n1_=0:=by rw [<- H1.out,Z3.out];rfl
 go_wp2_with fail
 refine bodyPost_ret (zU Try.results12 _ _ _ _ _ _ rfl (Tri.alloc (Tri.set (x0:=.bool false) (y0:=.slice none 0 0) (z0:=.slice none 0 0) ⟨aA,aB,aC,aD,aE,aF⟩ _ _ _) _)) rfl (finZ1 (bS zb gb) (by omega) (by omega))

theorem zdC (b:Bool) (v u:Value) (ln ld:List Nat) (w:World) (hv:Rd w v ln) (hu:Rd w u ld) (h1:ln.length<=3000) (h2:ld.length<=3000) (h0:0<val ld) (h3:0<val ln) (hs:szq (rat b (val ln) (val ld))<=4097) :
  Calls Try.prog 12 #[aggI b v,u] w (zae w (rat b (val ln) (val ld))):=by
 have Z0:=Lib.hid h0
 have Z3:=Lib.hid h3
 have Hs:=Lib.hid hs
 have H4:=Lib.hid (Nat.ne_of_gt (zeD h3 h0))
 clear h0 h3 hs
 obtain ⟨a0,n0,c0,rfl,H0,hm0⟩:=hv.open
 obtain ⟨a1,n1,c1,rfl,H1,hm1⟩:=hu.open
 go_enter Try.func12,Try.ntmps12
 go_wp2_with fail
 obtain ⟨W0,aq⟩:∃ W0,(w.alloc (.cells #[.bool b,.slice a0 n0 c0] 51)).alloc (.cells #[.bool false,.slice none 0 0,.slice none 0 0] 25)=W0:=⟨_,rfl⟩
 have al:=Lib.hid (show ∀ W',Below W0.heap.size W0 W'->(Bx2 W' w.heap.size (.bool b) (.slice a0 n0 c0)/\Bx3 W' (w.heap.size+1) (.bool false) (.slice none 0 0) (.slice none 0 0)) from fun W' hb => by
   refine ⟨bx2 hb ?_ ?_ ?_ ?_,bx3 hb ?_ ?_ ?_ ?_ ?_ ?_⟩
   all_goals first|assumption|(rw [<- aq];simp [go_sem]))
 have zb:Below w.heap.size w W0:=by rw [<- aq];exact bS (bN _ _) (bN _ _)
 rw [aq]
 clear aq
 have i0:=hv.to zb
 have i1:=hu.to zb
 have gb:Below W0.heap.size W0 W0:=Below.refl _ _
 obtain ⟨⟨z0,ae,af,ah,ai⟩,⟨z1,aA,aB,aC,aD,aE,aF⟩⟩:=al.out _ gb
 refine (zdU _ _ ln ld _ (i0.to gb) (i1.to gb) (by omega) (by omega) Z0.out).mono ?_
 clear ae ah af ai aA aD aB aE aC aF
 rintro e w1 ⟨v1,u1,rfl,g1,d1,aT⟩
 obtain ⟨a1_,n1_,c1_,rfl,H1,hm1⟩:=g1.rd.open
 obtain ⟨p1_,m1_,k1_,rfl,J1,jm1⟩:=d1.rd.open
 replace gb:=bS gb aT
 obtain ⟨⟨z0,ae,af,ah,ai⟩,⟨z1,aA,aB,aC,aD,aE,aF⟩⟩:=al.out _ gb
 have hn1:0<n1_:=by rw [<- H1.out];have:=H4.out;rw [ze];exact Nat.pos_of_ne_zero fun e => this (zA.1 e)
 go_wp2_with fail
 have gg:=canR g1 d1 Z0.out Z3.out Hs.out
 refine bodyPost_ret (zU Try.results12 _ _ _ _ _ _ rfl (Tri.set (x0:=.bool false) (y0:=.slice none 0 0) (z0:=.slice none 0 0) (⟨aA,aB,aC,aD,aE,aF⟩) _ _ _)) rfl (zds (bS zb gb) (by omega) ?_ gg)
 omega

theorem zgT (b:Bool) (v u:Value) (ln ld:List Nat) (w:World) (hv:Rd w v ln) (hu:Rd w u ld) (h1:ln.length<=3000) (h2:ld.length<=3000) (q:Rat) (hq:rat b (val ln) (val ld)=q) (hs:Hid (szq q<=4097)) :
  Calls Try.prog 12 #[aggI b v,u] w (zae w q):=by
 subst hq
 rcases Nat.eq_zero_or_pos (val ld) with h0|h0
 ·exact zeP b v u ln ld w hv hu h1 h2 h0
 rcases Nat.eq_zero_or_pos (val ln) with h3|h3
 ·exact zdD b v u ln ld w hv hu h1 h2 h0 h3
 ·exact zdC b v u ln ld w hv hu h1 h2 h0 h3 hs.out

theorem zhY (b:Bool) (v u:Value) (ln ld:List Nat) (c:Bool) (v' u':Value) (ln' ld':List Nat) (w:World) (h:IsF w v u ln ld) (h':IsF w v' u' ln' ld') (o:Bool) (ho:(b == c && decide (ln=ln') && decide (ld=ld'))=o) :
  Calls Try.prog 25 #[aggR b v u,aggR c v' u'] w (fun e w' => e=.returned (.bool o)/\Below w.heap.size w w'):=by
 obtain ⟨o1,ho1⟩:∃ o,decide (ln=ln')=o:=⟨_,rfl⟩
 obtain ⟨o2,ho2⟩:∃ o,decide (ld=ld')=o:=⟨_,rfl⟩
 have O1:=Lib.hid ho1
 have O2:=Lib.hid ho2
 rw [ho1,ho2] at ho
 clear ho1 ho2
 obtain ⟨a0,n0,c0,rfl,H0,hm0⟩:=h.1.open
 obtain ⟨a1,n1,c1,rfl,H1,hm1⟩:=h.2.open
 obtain ⟨a2,n2,c2,rfl,H2,hm2⟩:=h'.1.open
 obtain ⟨a3,n3,c3,rfl,H3,hm3⟩:=h'.2.open
 have ho':=Lib.hid ho
 clear ho
 rcases Bool.eq_false_or_eq_true (b == c) with e1|e1
 rotate_left
 ·rw [e1] at ho'
  go_enter Try.func25,Try.ntmps25
  go_wp2_with fail
  obtain ⟨W0,aq⟩:∃ W0,(w.alloc (.cells #[.bool b,.slice a0 n0 c0,.slice a1 n1 c1] 25)).alloc (.cells #[.bool c,.slice a2 n2 c2,.slice a3 n3 c3] 25)=W0:=⟨_,rfl⟩
  have al:=Lib.hid (show ∀ W',Below W0.heap.size W0 W'->(Bx3 W' w.heap.size (.bool b) (.slice a0 n0 c0) (.slice a1 n1 c1)/\Bx3 W' (w.heap.size+1) (.bool c) (.slice a2 n2 c2) (.slice a3 n3 c3)) from fun W' hb => by
    refine ⟨bx3 hb ?_ ?_ ?_ ?_ ?_ ?_,bx3 hb ?_ ?_ ?_ ?_ ?_ ?_⟩
    all_goals first|assumption|(rw [<- aq];simp [go_sem]))
  have zb:Below w.heap.size w W0:=by rw [<- aq];exact bS (bN _ _) (bN _ _)
  rw [aq]
  clear aq
  have i0:=h.to zb
  have i1:=h'.to zb
  have gb:Below W0.heap.size W0 W0:=Below.refl _ _
  obtain ⟨⟨z0,ae,af,ag,ah,ai,ak⟩,⟨z1,aA,aB,aC,aD,aE,aF⟩⟩:=al.out _ gb
  go_ret
  exact ⟨zo (congrArg Value.bool (by have k:=ho'.out;simpa using k)),bS zb gb⟩
 rcases Bool.eq_false_or_eq_true o1 with e2|e2
 rotate_left
 ·rw [e1] at ho'
  go_enter Try.func25,Try.ntmps25
  go_wp2_with fail
  obtain ⟨W0,aq⟩:∃ W0,(w.alloc (.cells #[.bool b,.slice a0 n0 c0,.slice a1 n1 c1] 25)).alloc (.cells #[.bool c,.slice a2 n2 c2,.slice a3 n3 c3] 25)=W0:=⟨_,rfl⟩
  have al:=Lib.hid (show ∀ W',Below W0.heap.size W0 W'->(Bx3 W' w.heap.size (.bool b) (.slice a0 n0 c0) (.slice a1 n1 c1)/\Bx3 W' (w.heap.size+1) (.bool c) (.slice a2 n2 c2) (.slice a3 n3 c3)) from fun W' hb => by
    refine ⟨bx3 hb ?_ ?_ ?_ ?_ ?_ ?_,bx3 hb ?_ ?_ ?_ ?_ ?_ ?_⟩
    all_goals first|assumption|(rw [<- aq];simp [go_sem]))
  have zb:Below w.heap.size w W0:=by rw [<- aq];exact bS (bN _ _) (bN _ _)
  rw [aq]
  clear aq
  have i0:=h.to zb
  have i1:=h'.to zb
  have gb:Below W0.heap.size W0 W0:=Below.refl _ _
  obtain ⟨⟨z0,ae,af,ag,ah,ai,ak⟩,⟨z1,aA,aB,aC,aD,aE,aF⟩⟩:=al.out _ gb
  refine (zgq _ _ _ _ o1 _ (i0.to gb).1 (i1.to gb).1 O1).mono ?_
  clear ae ah af ai ag ak aA aD aB aE aC aF
  rintro e w1 ⟨rfl,aT⟩
  replace gb:=bS gb aT
  obtain ⟨⟨z0,ae,af,ag,ah,ai,ak⟩,⟨z1,aA,aB,aC,aD,aE,aF⟩⟩:=al.out _ gb
  obtain rfl:=e2
  go_wp2_with fail
  go_ret
  exact ⟨zo (congrArg Value.bool (by have k:=ho'.out;simpa using k)),bS zb gb⟩
 ·rw [e1] at ho'
  go_enter Try.func25,Try.ntmps25
  go_wp2_with fail
  obtain ⟨W0,aq⟩:∃ W0,(w.alloc (.cells #[.bool b,.slice a0 n0 c0,.slice a1 n1 c1] 25)).alloc (.cells #[.bool c,.slice a2 n2 c2,.slice a3 n3 c3] 25)=W0:=⟨_,rfl⟩
  have al:=Lib.hid (show ∀ W',Below W0.heap.size W0 W'->(Bx3 W' w.heap.size (.bool b) (.slice a0 n0 c0) (.slice a1 n1 c1)/\Bx3 W' (w.heap.size+1) (.bool c) (.slice a2 n2 c2) (.slice a3 n3 c3)) from fun W' hb => by
    refine ⟨bx3 hb ?_ ?_ ?_ ?_ ?_ ?_,bx3 hb ?_ ?_ ?_ ?_ ?_ ?_⟩
    all_goals first|assumption|(rw [<- aq];simp [go_sem]))
  have zb:Below w.heap.size w W0:=by rw [<- aq];exact bS (bN _ _) (bN _ _)
  rw [aq]
  clear aq
  have i0:=h.to zb
  have i1:=h'.to zb
  have gb:Below W0.heap.size W0 W0:=Below.refl _ _
  obtain ⟨⟨z0,ae,af,ag,ah,ai,ak⟩,⟨z1,aA,aB,aC,aD,aE,aF⟩⟩:=al.out _ gb
  refine (zgq _ _ _ _ o1 _ (i0.to gb).1 (i1.to gb).1 O1).mono ?_
  clear ae ah af ai ag ak aA aD aB aE aC aF
  rintro e w1 ⟨rfl,aT⟩
  replace gb:=bS gb aT
  obtain ⟨⟨z0,ae,af,ag,ah,ai,ak⟩,⟨z1,aA,aB,aC,aD,aE,aF⟩⟩:=al.out _ gb
  obtain rfl:=e2
  go_wp2_with fail
  refine (zgq _ _ _ _ o2 _ (i0.to gb).2 (i1.to gb).2 O2).mono ?_
  clear ae ah af ai ag ak aA aD aB aE aC aF
  rintro e w2 ⟨rfl,aL⟩
  replace gb:=bS gb aL
  obtain ⟨⟨z0,ae,af,ag,ah,ai,ak⟩,⟨z1,aA,aB,aC,aD,aE,aF⟩⟩:=al.out _ gb
  go_wp2_with fail
  go_ret
  exact ⟨zo (congrArg Value.bool (by have k:=ho'.out;simpa using k)),bS zb gb⟩

end Go.Proofs.Ytkjcdnlpjldhaaa


namespace Go.Proofs.Ytkjcdnlpjldhaaa
open Go.RowKit Tw
attribute [local go_sem ↓] Go.wp_at_zero Go.wp_at_succ

theorem rof_c (n z:Int) (w:World) (hz:z=n) (n0:-9223372036854775808<=n) (n1:n<9223372036854775808) :
  Calls Try.prog 13 #[.int .i64 n] w (zev w z) :=
 (ref7_of n z w hz n0 n1).mono fun e w' h => zfI rfl (Nat.le_trans (zdL (by omega) (by omega)) (by omega)) h

theorem zbI (n:Nat):((n:Int) == 0)=decide (n=0):=by
 rw [Bool.eq_iff_iff];simp

theorem zae.more {w w':World} {q:Rat} {e:Ending} (h:zae w q e w') (o:Obj):zae w q e (w'.alloc o):=by
 obtain ⟨ng,a,n,c,a',n',c',rfl,g,hb⟩:=h
 exact ⟨_,_,_,_,_,_,_,rfl,(g.alloc o).mono (Nat.le_refl _) (by simp),bS hb (bN _ _)⟩

theorem num_ne {x:Rat} (h:x≠0):x.num≠0:=fun e => h (Rat.num_eq_zero.1 e)

theorem zW.zeroQ {lo hi:Nat} {w:World} {ng o:Bool} {a:Option Addr} {n c:Nat} {u:Value} {x:Rat} (g:zW lo hi w ng (.slice a n c) u x) (h:decide (x=0)=o):decide (n=0)=o:=by
 obtain ⟨_,_,e⟩:=g.1.rd.shape
 injection e with _ e _
 rw [<- h,e,ze,decide_eq_decide,zA,Int.natAbs_eq_zero]
 exact Rat.num_eq_zero

theorem zia {b:Bool} {ln ld:List Nat} (hn:Small ln) (hd:Small ld) :
  zdE b ln ld (rat b (val ln) (val ld))=(decide (sz (val ln)=ln.length) && decide (sz (val ld)=ld.length) && (Nat.gcd (val ln) (val ld) == 1) && decide (0<ld.length) && !(b && decide (ln.length=0))):=by
 rw [Bool.eq_iff_iff]
 unfold zdE
 simp only [Bool.and_eq_true,beq_iff_eq,decide_eq_true_eq,Bool.not_eq_true',<- zcI hn,<- zcI hd]
 by_cases h0:val ld=0
 ·rw [h0,zbq]
  constructor
  ·rintro ⟨_,h⟩
   rw [<- h,vL] at h0
   exact absurd h0 (by decide)
  ·rintro ⟨⟨⟨⟨_,h1⟩,_⟩,h2⟩,_⟩
   rw [<- h1] at h2
   exact absurd h2 (by simp [zt])
 ·rw [zer h0,zeq h0]
  have hp:0<ld.length:=by
   refine Nat.pos_of_ne_zero fun e => h0 ?_
   rw [List.length_eq_zero_iff.1 e];rfl
  constructor
  ·rintro ⟨⟨h1,h2⟩,h3⟩
   have e2:=congrArg val h2
   have e3:=congrArg val h3
   rw [vL] at e2 e3
   have hg:Nat.gcd (val ln) (val ld)=1:=by
    have h5:Nat.gcd (val ln) (val ld) ∣ val ld:=Nat.gcd_dvd_right _ _
    have h6:=Nat.div_mul_cancel h5
    rw [e3] at h6
    exact Nat.eq_of_mul_eq_mul_left (Nat.pos_of_ne_zero h0) (by rw [h6,Nat.mul_one])
   rw [hg,Nat.div_one] at h2 h3
   refine ⟨⟨⟨⟨h2,h3⟩,hg⟩,hp⟩,?_⟩
   cases b with
   | false => rfl
   | true =>
    simp only [Bool.true_and,decide_eq_false_iff_not]
    intro hl
    rw [List.length_eq_zero_iff.1 hl,show val []=0 from rfl,zbr] at h1
    exact absurd h1 (by decide +kernel)
  ·rintro ⟨⟨⟨⟨h2,h3⟩,hg⟩,_⟩,h5⟩
   rw [hg,Nat.div_one,Nat.div_one]
   refine ⟨⟨?_,h2⟩,h3⟩
   by_cases hz:val ln=0
   ·rw [hz,zbr]
    rw [hz,zt] at h2
    rw [<- h2] at h5
    cases b with
    | false => decide +kernel
    | true => simp at h5
   ·exact ziI b h0 hz

theorem zjE {w:World} {b:Bool} {v u:Value} {ln ld:List Nat} {x:Rat} (h:IsQ w b v u ln ld x) :
  zdE b ln ld x=(decide (sz (val ln)=ln.length) && decide (sz (val ld)=ld.length) && (Nat.gcd (val ln) (val ld) == 1) && decide (0<ld.length) && !(b && decide (ln.length=0))):=by
 rw [<- h.2.2.1]
 exact zia h.1.1 h.2.1.1

theorem ziK (n z:Int) (w:World) (hz:z=n) (m0:-9223372036854775808<=n) (m1:n<9223372036854775808) :
  Calls Try.prog 6 #[.int .i64 n] w (zae w (z:Rat)):=by
 have Hz:=Lib.hid hz
 have S1:=Lib.hid (zdL (z:=z) (by omega) (by omega))
 have S2:=Lib.hid (show szq (z:Rat)<=4097 from ziR S1.out)
 have H9:=Lib.hid (show ∀ ng,decide (z<0)=ng->rat ng (val (zc z.natAbs)) (val [1])=(z:Rat) from fun ng e => by rw [<- e,show val [1]=val (zc (1:Int).toNat) by decide +kernel];exact ziH z)
 clear hz
 go_enter Try.func6,Try.ntmps6
 go_wp2_with fail
 obtain ⟨W0,aq⟩:∃ W0,w.alloc (.cells #[.bool false,.slice none 0 0,.slice none 0 0] 25)=W0:=⟨_,rfl⟩
 have al:=Lib.hid (show ∀ W',Below W0.heap.size W0 W'->(Bx3 W' w.heap.size (.bool false) (.slice none 0 0) (.slice none 0 0)) from fun W' hb => by
   apply bx3 hb
   all_goals first|assumption|(rw [<- aq];simp [go_sem]))
 have zb:Below w.heap.size w W0:=by rw [<- aq];exact bN _ _
 rw [aq]
 clear aq
 have gb:Below W0.heap.size W0 W0:=Below.refl _ _
 obtain ⟨z0,ae,af,ag,ah,ai,ak⟩:=al.out _ gb
 refine (rof_c n z _ Hz.out m0 m1).mono ?_
 clear ae ah af ai ag ak
 rintro e w1 ⟨ng1,a1_,n1_,c1_,rfl,g1,aT⟩
 replace gb:=bS gb aT
 obtain ⟨z0,ae,af,ag,ah,ai,ak⟩:=al.out _ gb
 go_wp2_with fail
 have H8:=Lib.hid (H9.out ng1 (by have k:=g1.2.1;exact k))
 obtain ⟨W1,aK⟩:∃ W1,w1.alloc (.cells #[.int .u32 1] 31)=W1:=⟨_,rfl⟩
 have hb_W1:Below w1.heap.size w1 W1:=by rw [<- aK];exact bN _ _
 have d_W1:Rd W1 (.slice (some ⟨w1.heap.size,0,none⟩) 1 1) [1]:=by rw [<- aK];exact lit1 (a:=1) w1 (by omega)
 clear ae ah af ai ag ak
 replace g1:=g1.to hb_W1
 replace gb:=bS gb hb_W1
 obtain ⟨z0,ae,af,ag,ah,ai,ak⟩:=al.out _ gb
 rw [aK]
 clear aK
 refine (zgT ng1 _ _ _ _ _ g1.isI.up d_W1 (Nat.le_trans S1.out (by omega)) (by simp) (z:Rat) H8.out S2).mono ?_
 clear ae ah af ai ag ak
 rintro e w2 ⟨ng2,a2_,n2_,c2_,p2_,m2_,k2_,rfl,g2,aL⟩
 replace g1:=g1.to aL
 replace d_W1:=d_W1.to aL
 replace gb:=bS gb aL
 obtain ⟨z0,ae,af,ag,ah,ai,ak⟩:=al.out _ gb
 go_wp2_with fail
 refine bodyPost_ret (zU Try.results6 _ _ _ _ _ _ rfl (Tri.set (x0:=.bool false) (y0:=.slice none 0 0) (z0:=.slice none 0 0) ⟨ae,af,ag,ah,ai,ak⟩ _ _ _)) rfl (zds (bS zb gb) (by omega) ?_ g2)
 omega

theorem zcq {x:Rat} (b:Bool) (v u:Value) (ln ld:List Nat) (w:World) (h:IsQ w b v u ln ld x) (o:Bool) (ho:zdE b ln ld x=o) :
  Calls Try.prog 44 #[aggR b v u] w (fun e w' => e=.returned (.bool o)/\Below w.heap.size w w'):=by
 obtain ⟨r1,h1⟩:∃ r,decide (sz (val ln)=ln.length)=r:=⟨_,rfl⟩
 obtain ⟨r2,h2⟩:∃ r,decide (sz (val ld)=ld.length)=r:=⟨_,rfl⟩
 obtain ⟨r3,h3⟩:∃ r,(Nat.gcd (val ln) (val ld) == 1)=r:=⟨_,rfl⟩
 have R1:=Lib.hid h1
 have R2:=Lib.hid h2
 have R3:=Lib.hid h3
 have HO:=Lib.hid (show (r1 && r2 && r3 && decide (0<ld.length) && !(b && decide (ln.length=0)))=o by rw [<- ho,zjE h,h1,h2,h3])
 clear ho h1 h2 h3
 have L1:=h.lup
 have L2:=h.ldn
 obtain ⟨a0,n0,c0,rfl,H0,hm0⟩:=h.1.open
 obtain ⟨a1,n1,c1,rfl,H1,hm1⟩:=h.2.1.open
 rw [H0.out,H1.out] at HO
 have l1:=H0.out
 have l2:=H1.out
 rw [l1] at L1
 rw [l2] at L2
 clear l1 l2
 rcases Bool.eq_false_or_eq_true r1 with rfl|rfl
 rotate_left
 
 ·skip
  go_enter Try.func44,Try.ntmps44
  go_wp2_with fail
  obtain ⟨W0,aq⟩:∃ W0,w.alloc (.cells #[.bool b,.slice a0 n0 c0,.slice a1 n1 c1] 25)=W0:=⟨_,rfl⟩
  have al:=Lib.hid (show ∀ W',Below W0.heap.size W0 W'->(Bx3 W' w.heap.size (.bool b) (.slice a0 n0 c0) (.slice a1 n1 c1)) from fun W' hb => by
    apply bx3 hb
    all_goals first|assumption|(rw [<- aq];simp [go_sem]))
  have zb:Below w.heap.size w W0:=by rw [<- aq];exact bN _ _
  rw [aq]
  clear aq
  have i0:=h.to zb
  have gb:Below W0.heap.size W0 W0:=Below.refl _ _
  obtain ⟨z0,ae,af,ag,ah,ai,ak⟩:=al.out _ gb
  refine (zaX _ _ _ (i0.to gb).up).mono ?_
  rintro e w1 ⟨rfl,rfl⟩
  rw [R1.out]
  go_wp2_with fail
  go_ret
  exact ⟨zo (congrArg Value.bool (by have k:=HO.out;first|(simpa using k)|(simpa [*] using k)|(rw [<- k];simp [*,zbI]))),bS zb gb⟩
 rcases Bool.eq_false_or_eq_true r2 with rfl|rfl
 rotate_left
 
 ·skip
  go_enter Try.func44,Try.ntmps44
  go_wp2_with fail
  obtain ⟨W0,aq⟩:∃ W0,w.alloc (.cells #[.bool b,.slice a0 n0 c0,.slice a1 n1 c1] 25)=W0:=⟨_,rfl⟩
  have al:=Lib.hid (show ∀ W',Below W0.heap.size W0 W'->(Bx3 W' w.heap.size (.bool b) (.slice a0 n0 c0) (.slice a1 n1 c1)) from fun W' hb => by
    apply bx3 hb
    all_goals first|assumption|(rw [<- aq];simp [go_sem]))
  have zb:Below w.heap.size w W0:=by rw [<- aq];exact bN _ _
  rw [aq]
  clear aq
  have i0:=h.to zb
  have gb:Below W0.heap.size W0 W0:=Below.refl _ _
  obtain ⟨z0,ae,af,ag,ah,ai,ak⟩:=al.out _ gb
  refine (zaX _ _ _ (i0.to gb).up).mono ?_
  rintro e w1 ⟨rfl,rfl⟩
  rw [R1.out]
  go_wp2_with fail
  refine (zaX _ _ _ (i0.to gb).dn).mono ?_
  rintro e w1 ⟨rfl,rfl⟩
  rw [R2.out]
  go_wp2_with fail
  go_ret
  exact ⟨zo (congrArg Value.bool (by have k:=HO.out;first|(simpa using k)|(simpa [*] using k)|(rw [<- k];simp [*,zbI]))),bS zb gb⟩
 rcases Bool.eq_false_or_eq_true r3 with rfl|rfl
 rotate_left
 
 ·skip
  go_enter Try.func44,Try.ntmps44
  go_wp2_with fail
  obtain ⟨W0,aq⟩:∃ W0,w.alloc (.cells #[.bool b,.slice a0 n0 c0,.slice a1 n1 c1] 25)=W0:=⟨_,rfl⟩
  have al:=Lib.hid (show ∀ W',Below W0.heap.size W0 W'->(Bx3 W' w.heap.size (.bool b) (.slice a0 n0 c0) (.slice a1 n1 c1)) from fun W' hb => by
    apply bx3 hb
    all_goals first|assumption|(rw [<- aq];simp [go_sem]))
  have zb:Below w.heap.size w W0:=by rw [<- aq];exact bN _ _
  rw [aq]
  clear aq
  have i0:=h.to zb
  have gb:Below W0.heap.size W0 W0:=Below.refl _ _
  obtain ⟨z0,ae,af,ag,ah,ai,ak⟩:=al.out _ gb
  refine (zaX _ _ _ (i0.to gb).up).mono ?_
  rintro e w1 ⟨rfl,rfl⟩
  rw [R1.out]
  go_wp2_with fail
  refine (zaX _ _ _ (i0.to gb).dn).mono ?_
  rintro e w1 ⟨rfl,rfl⟩
  rw [R2.out]
  go_wp2_with fail
  refine (zcS _ _ _ _ false _ (i0.to gb).up (i0.to gb).dn (by have:=h.lup;omega) (by have:=h.ldn;omega) R3).mono ?_
  clear ae ah af ai ag ak
  rintro e w2 ⟨rfl,aL⟩
  replace gb:=bS gb aL
  obtain ⟨z0,ae,af,ag,ah,ai,ak⟩:=al.out _ gb
  go_wp2_with fail
  go_ret
  exact ⟨zo (congrArg Value.bool (by have k:=HO.out;first|(simpa using k)|(simpa [*] using k)|(rw [<- k];simp [*,zbI]))),bS zb gb⟩
 go_enter Try.func44,Try.ntmps44
 go_wp2_with fail
 obtain ⟨W0,aq⟩:∃ W0,w.alloc (.cells #[.bool b,.slice a0 n0 c0,.slice a1 n1 c1] 25)=W0:=⟨_,rfl⟩
 have al:=Lib.hid (show ∀ W',Below W0.heap.size W0 W'->(Bx3 W' w.heap.size (.bool b) (.slice a0 n0 c0) (.slice a1 n1 c1)) from fun W' hb => by
   apply bx3 hb
   all_goals first|assumption|(rw [<- aq];simp [go_sem]))
 have zb:Below w.heap.size w W0:=by rw [<- aq];exact bN _ _
 rw [aq]
 clear aq
 have i0:=h.to zb
 have gb:Below W0.heap.size W0 W0:=Below.refl _ _
 obtain ⟨z0,ae,af,ag,ah,ai,ak⟩:=al.out _ gb
 refine (zaX _ _ _ (i0.to gb).up).mono ?_
 rintro e w1 ⟨rfl,rfl⟩
 rw [R1.out]
 go_wp2_with fail
 refine (zaX _ _ _ (i0.to gb).dn).mono ?_
 rintro e w1 ⟨rfl,rfl⟩
 rw [R2.out]
 go_wp2_with fail
 refine (zcS _ _ _ _ true _ (i0.to gb).up (i0.to gb).dn (by have:=h.lup;omega) (by have:=h.ldn;omega) R3).mono ?_
 clear ae ah af ai ag ak
 rintro e w2 ⟨rfl,aL⟩
 replace gb:=bS gb aL
 obtain ⟨z0,ae,af,ag,ah,ai,ak⟩:=al.out _ gb
 rcases Nat.eq_zero_or_pos n1 with rfl|e1
 ·skip
  go_wp2_with fail
  go_ret
  exact ⟨zo (congrArg Value.bool (by have k:=HO.out;first|(simpa using k)|(simpa [*] using k)|(rw [<- k];simp [*,zbI]))),bS zb gb⟩
 rcases Bool.eq_false_or_eq_true b with rfl|rfl
 rotate_left
 ·skip
  go_wp2_with fail
  go_ret
  exact ⟨zo (congrArg Value.bool (by have k:=HO.out;first|(simpa using k)|(simpa [*] using k)|(rw [<- k];simp [*,zbI]))),bS zb gb⟩
 ·skip
  go_wp2_with fail
  go_ret
  exact ⟨zo (congrArg Value.bool (by have k:=HO.out;first|(simpa using k)|(simpa [*] using k)|(rw [<- k];simp [*,zbI]))),bS zb gb⟩

end Go.Proofs.Ytkjcdnlpjldhaaa


namespace Go.Proofs.Ytkjcdnlpjldhaaa
open Go.RowKit Tw
attribute [local go_sem ↓] Go.wp_at_zero Go.wp_at_succ

theorem zbT.ng {lo hi:Nat} {w:World} {b:Bool} {v:Value} {z:Int} (h:zbT lo hi w b v z):decide (z<0)=b:=h.2.1

theorem zdc {x y:Rat} (hx:szq x<=4097) (hy:szq y<=4097):(zc (x.num*(y.den:Int)).natAbs).length<=15000:=by
 rw [ze]
 have h1:=zce x.num (y.den:Int)
 have h2:=zaq x
 have h3:=zac y
 unfold szi at h1
 rw [Int.natAbs_natCast] at h1
 omega

theorem div_rat (x:Rat) {y:Rat} (h0:y≠0) :
  rat (decide (x.num*(y.den:Int)<0) != decide ((x.den:Int)*y.num<0)) (x.num*(y.den:Int)).natAbs ((x.den:Int)*y.num).natAbs=x / y:=by
 have h1:y.num≠0:=fun e => h0 (Rat.num_eq_zero.1 e)
 have hx:=x.den_pos
 have hy:=y.den_pos
 have e1:decide (x.num*(y.den:Int)<0)=decide (x.num<0):=by
  rw [decide_eq_decide]
  exact ⟨fun k => Int.not_le.1 fun k' => absurd (Int.mul_nonneg k' (Int.natCast_nonneg y.den)) (by omega),fun k => Int.mul_neg_of_neg_of_pos k (by omega)⟩
 have e2:decide ((x.den:Int)*y.num<0)=decide (y.num<0):=by
  rw [decide_eq_decide]
  exact ⟨fun k => Int.not_le.1 fun k' => absurd (Int.mul_nonneg (Int.natCast_nonneg x.den) k') (by omega),fun k => by rw [Int.mul_comm];exact Int.mul_neg_of_neg_of_pos k (by omega)⟩
 rw [e1,e2,Int.natAbs_mul,Int.natAbs_mul,Int.natAbs_natCast,Int.natAbs_natCast,<- zde,Rat.div_def,<- zcc,<- zcc,zbW]
 congr 1
 have hi:=zbW y⁻¹
 rw [<- hi]
 have h3:=(zcc y⁻¹)
 rw [Rat.num_inv,Rat.den_inv,if_neg h1,Int.natAbs_mul,Int.natAbs_sign_of_ne_zero h1,Nat.one_mul,Int.natAbs_natCast]
 congr 1
 rw [zcc,zcc,Rat.num_inv,decide_eq_decide]
 rcases Int.lt_trichotomy y.num 0 with k|k|k
 ·rw [Int.sign_eq_neg_one_of_neg k];omega
 ·exact absurd k h1
 ·rw [Int.sign_eq_one_of_pos k];omega

theorem zfS {x y:Rat} (b:Bool) (v u:Value) (ln ld:List Nat) (c:Bool) (v' u':Value) (ln' ld':List Nat) (w:World) (h:IsQ w b v u ln ld x) (h':IsQ w c v' u' ln' ld' y) (h0:y=0) :
  Calls Try.prog 55 #[aggR b v u,aggR c v' u'] w (fun e w' => e=.returned (.tuple #[aggR false (.slice none 0 0) (.slice none 0 0),.int .i64 3])/\Below w.heap.size w w'):=by
 have Hx:Hid (szq x<=4097):=zas h
 have Hy:Hid (szq y<=4097):=zas h'
 have S1:=Lib.hid (show szi (x.num*(y.den:Int))<=90000 from zcz Hx.out Hy.out)
 have S2:=Lib.hid (show szi ((x.den:Int)*y.num)<=90000 by rw [Int.mul_comm];exact zcz Hy.out Hx.out)
 have S5:=Lib.hid (show (zc (x.num*(y.den:Int)).natAbs).length<=15000 from zdc Hx.out Hy.out)
 have S6:=Lib.hid (show (zc ((x.den:Int)*y.num).natAbs).length<=15000 by rw [Int.mul_comm];exact zdc Hy.out Hx.out)
 have HZ:=Lib.hid (show val (zc ((x.den:Int)*y.num).natAbs)=0 by rw [vL,h0];simp)
 obtain ⟨a0,n0,c0,rfl,H0,hm0⟩:=h.1.open
 obtain ⟨a1,n1,c1,rfl,H1,hm1⟩:=h.2.1.open
 obtain ⟨a2,n2,c2,rfl,H2,hm2⟩:=h'.1.open
 obtain ⟨a3,n3,c3,rfl,H3,hm3⟩:=h'.2.1.open
 clear h0
 go_enter Try.func55,Try.ntmps55
 go_wp2_with fail
 obtain ⟨W0,aq⟩:∃ W0,((w.alloc (.cells #[.bool b,.slice a0 n0 c0,.slice a1 n1 c1] 25)).alloc (.cells #[.bool c,.slice a2 n2 c2,.slice a3 n3 c3] 25)).alloc (.cells #[.bool false,.slice none 0 0,.slice none 0 0] 25)=W0:=⟨_,rfl⟩
 have al:=Lib.hid (show ∀ W',Below W0.heap.size W0 W'->(W'.cell? ⟨w.heap.size,0,none⟩=some (.bool b)/\W'.cell? ⟨w.heap.size,1,none⟩=some (.slice a0 n0 c0)/\W'.cell? ⟨w.heap.size,2,none⟩=some (.slice a1 n1 c1)/\W'.cell? ⟨w.heap.size+1,0,none⟩=some (.bool c)/\W'.cell? ⟨w.heap.size+1,1,none⟩=some (.slice a2 n2 c2)/\W'.cell? ⟨w.heap.size+1,2,none⟩=some (.slice a3 n3 c3)/\W'.cell? ⟨w.heap.size+1+1,0,none⟩=some (.bool false)/\W'.cell? ⟨w.heap.size+1+1,1,none⟩=some (.slice none 0 0)/\W'.cell? ⟨w.heap.size+1+1,2,none⟩=some (.slice none 0 0)) from fun W' hb =>
  by and_intros <;> exact kc hb (by first|assumption|(rw [<- aq];simp [go_sem])))
 have bQ:=Lib.hid (show ∀ W',Below W0.heap.size W0 W'->(W'.frozen? ⟨w.heap.size,0,none⟩=false/\W'.frozen? ⟨w.heap.size,1,none⟩=false/\W'.frozen? ⟨w.heap.size,2,none⟩=false/\W'.frozen? ⟨w.heap.size+1,0,none⟩=false/\W'.frozen? ⟨w.heap.size+1,1,none⟩=false/\W'.frozen? ⟨w.heap.size+1,2,none⟩=false/\W'.frozen? ⟨w.heap.size+1+1,0,none⟩=false/\W'.frozen? ⟨w.heap.size+1+1,1,none⟩=false/\W'.frozen? ⟨w.heap.size+1+1,2,none⟩=false) from fun W' hb =>
  by and_intros <;> refine (hb.frozen ?_).trans ?_ <;> first|assumption|(rw [<- aq];simp [go_sem])|(rw [<- aq];simp <;> omega))
 have bR:=Lib.hid (show ∀ W',Below W0.heap.size W0 W'->(w.heap.size<W'.heap.size/\w.heap.size+1<W'.heap.size/\w.heap.size+1+1<W'.heap.size) from fun W' hb =>
  by and_intros <;> refine Nat.lt_of_lt_of_le ?_ hb.size <;> first|assumption|(rw [<- aq];simp <;> omega))
 have zb:Below w.heap.size w W0:=by rw [<- aq];exact bS (bS (bN _ _) (bN _ _)) (bN _ _)
 rw [aq]
 clear aq
 have i0:=h.to zb
 have i1:=h'.to zb
 have gb:Below W0.heap.size W0 W0:=Below.refl _ _
 obtain ⟨ae,af,ag,aA,aB,aC,bt,bu,b6⟩:=al.out _ gb
 obtain ⟨ah,ai,ak,aD,aE,aF,bG,bH,cg⟩:=bQ.out _ gb
 obtain ⟨z0,z1,z2⟩:=bR.out _ gb
 have hgb:=gb
 go_upto_region 1 with fail
 go_cut [6,7] from 8 (fun s6 s7 wx => zaw W0 (x) s6 wx/\zaw W0 (y) s7 wx)
 case first =>
  go_region_held3 (fun W' => W'.cell? ⟨w.heap.size,0,none⟩=some (.bool b)/\W'.cell? ⟨w.heap.size,1,none⟩=some (.slice a0 n0 c0)/\W'.cell? ⟨w.heap.size,2,none⟩=some (.slice a1 n1 c1)/\W'.cell? ⟨w.heap.size+1,0,none⟩=some (.bool c)/\W'.cell? ⟨w.heap.size+1,1,none⟩=some (.slice a2 n2 c2)/\W'.cell? ⟨w.heap.size+1,2,none⟩=some (.slice a3 n3 c3)/\W'.cell? ⟨w.heap.size+1+1,0,none⟩=some (.bool false)/\W'.cell? ⟨w.heap.size+1+1,1,none⟩=some (.slice none 0 0)/\W'.cell? ⟨w.heap.size+1+1,2,none⟩=some (.slice none 0 0)) (with_reducible first|(exact al.out _ gb)|((refine al.out _ ?_);first|((refine Below.drew ?_);first|(exact gb)|((refine bT ?_ ?_ _ _ _);rotate_left;(first|(exact ay)|(exact aO)|(exact az)|(exact aP));first|(exact gb)|((refine bT ?_ ?_ _ _ _);rotate_left;(first|(exact ay)|(exact aO)|(exact az)|(exact aP));exact gb)|((refine bS ?_ (bN _ _));exact gb))|((refine bS ?_ (bN _ _));first|(exact gb)|((refine bT ?_ ?_ _ _ _);rotate_left;(first|(exact ay)|(exact aO)|(exact az)|(exact aP));exact gb)|((refine bS ?_ (bN _ _));exact gb)))|(first|(exact gb)|((refine bT ?_ ?_ _ _ _);rotate_left;(first|(exact ay)|(exact aO)|(exact az)|(exact aP));first|(exact gb)|((refine bT ?_ ?_ _ _ _);rotate_left;(first|(exact ay)|(exact aO)|(exact az)|(exact aP));first|(exact gb)|((refine bT ?_ ?_ _ _ _);rotate_left;(first|(exact ay)|(exact aO)|(exact az)|(exact aP));first|(exact gb)|((refine bT ?_ ?_ _ _ _);rotate_left;(first|(exact ay)|(exact aO)|(exact az)|(exact aP));exact gb)|((refine bS ?_ (bN _ _));exact gb))|((refine bS ?_ (bN _ _));first|(exact gb)|((refine bT ?_ ?_ _ _ _);rotate_left;(first|(exact ay)|(exact aO)|(exact az)|(exact aP));exact gb)|((refine bS ?_ (bN _ _));exact gb)))|((refine bS ?_ (bN _ _));first|(exact gb)|((refine bT ?_ ?_ _ _ _);rotate_left;(first|(exact ay)|(exact aO)|(exact az)|(exact aP));first|(exact gb)|((refine bT ?_ ?_ _ _ _);rotate_left;(first|(exact ay)|(exact aO)|(exact az)|(exact aP));exact gb)|((refine bS ?_ (bN _ _));exact gb))|((refine bS ?_ (bN _ _));first|(exact gb)|((refine bT ?_ ?_ _ _ _);rotate_left;(first|(exact ay)|(exact aO)|(exact az)|(exact aP));exact gb)|((refine bS ?_ (bN _ _));exact gb))))|((refine bS ?_ (bN _ _));first|(exact gb)|((refine bT ?_ ?_ _ _ _);rotate_left;(first|(exact ay)|(exact aO)|(exact az)|(exact aP));first|(exact gb)|((refine bT ?_ ?_ _ _ _);rotate_left;(first|(exact ay)|(exact aO)|(exact az)|(exact aP));first|(exact gb)|((refine bT ?_ ?_ _ _ _);rotate_left;(first|(exact ay)|(exact aO)|(exact az)|(exact aP));exact gb)|((refine bS ?_ (bN _ _));exact gb))|((refine bS ?_ (bN _ _));first|(exact gb)|((refine bT ?_ ?_ _ _ _);rotate_left;(first|(exact ay)|(exact aO)|(exact az)|(exact aP));exact gb)|((refine bS ?_ (bN _ _));exact gb)))|((refine bS ?_ (bN _ _));first|(exact gb)|((refine bT ?_ ?_ _ _ _);rotate_left;(first|(exact ay)|(exact aO)|(exact az)|(exact aP));first|(exact gb)|((refine bT ?_ ?_ _ _ _);rotate_left;(first|(exact ay)|(exact aO)|(exact az)|(exact aP));exact gb)|((refine bS ?_ (bN _ _));exact gb))|((refine bS ?_ (bN _ _));first|(exact gb)|((refine bT ?_ ?_ _ _ _);rotate_left;(first|(exact ay)|(exact aO)|(exact az)|(exact aP));exact gb)|((refine bS ?_ (bN _ _));exact gb))))))) (first
   | (go_at_call 76;(refine zf w1 (by with_reducible first|exact Below.refl _ _|exact bN _ _|exact bS (bN _ _) (bN _ _)) ?_);intro V2 cH bn;have cS:=bn.size;have cN:=gb.size;have g1:=g1.to bn;have gb:=bS gb bn;(try have ac:=ac.to bn);(try have bl:=bl.to bn);(try have ap:Tri V2 (w1.heap.size) (.bool false) (.slice none 0 0) (.slice none 0 0):=(by rw [cH];with_reducible first|exact zd _ (.bool false) (.slice none 0 0) (.slice none 0 0) _|exact (zd _ (.bool false) (.slice none 0 0) (.slice none 0 0) _).alloc _));have az:W0.heap.size<=w1.heap.size:=(cN);have bo:w1.heap.size<=w1.heap.size:=(Nat.le_refl _);(try have bO:Tri V2 (w1.heap.size+1) (.bool false) (.slice none 0 0) (.slice none 0 0):=(by rw [cH];first|with_reducible exact zad _ _ (.bool false) (.slice none 0 0) (.slice none 0 0) _));have aP:W0.heap.size<=w1.heap.size+1:=(Nat.le_succ_of_le cN);have bq:w1.heap.size<=w1.heap.size+1:=(Nat.le_succ _);(try have aH:=ac.lt);(try have bA:=bl.lt);(try have aI:=ap.lt);(try have bB:=bO.lt);(with_reducible refine (zaT c _ _ ln' ld' _ (i1.to gb) Hy).mono ?_);rintro e w2 ⟨ng2,a2_,n2_,c2_,p2_,m2_,k2_,rfl,g2,aL⟩;have g1:=g1.to aL;have gb:=bS gb aL;have da:=aL.size;(try have ac:=ac.to aL);(try have bl:=bl.to aL);(try have ap:=ap.to aL);(try have bO:=bO.to aL);(try have bC:=ac.lt);(try have el:=bl.lt);(try have bE:=ap.lt);(try have en:=bO.lt);(try (have aG:=ac;obtain ⟨aU,aV,aW,aX,aY,aZ⟩:=aG));(try (have cM:=bl;obtain ⟨du,dv,dw,dx,dy,dz⟩:=cM));(try (have bj:=ap;obtain ⟨bU,bV,bW,bX,bY,bZ⟩:=bj));(try (have d4:=bO;obtain ⟨eF,eG,eH,eI,eJ,eL⟩:=d4)))
   | (go_at_call 76;(refine zf W0 (by with_reducible first|exact (Below.refl _ _).drew|exact (bN _ _).drew|exact (bS (bN _ _) (bN _ _)).drew) ?_);intro V1 cI bP;have cR:=bP.size;have cC:=gb.size;have gb:=bS gb bP;(try have ac:Tri V1 (W0.heap.size) (.bool false) (.slice none 0 0) (.slice none 0 0):=(by rw [cI];with_reducible first|exact (zd _ (.bool false) (.slice none 0 0) (.slice none 0 0) _).drew|exact ((zd _ (.bool false) (.slice none 0 0) (.slice none 0 0) _).alloc _).drew));have ay:W0.heap.size<=W0.heap.size:=(cC);(try have bl:Tri V1 (W0.heap.size+1) (.bool false) (.slice none 0 0) (.slice none 0 0):=(by rw [cI];first|with_reducible exact (zad _ _ (.bool false) (.slice none 0 0) (.slice none 0 0) _).drew));have aO:W0.heap.size<=W0.heap.size+1:=(Nat.le_succ_of_le cC);(try have aQ:=ac.lt);(try have bz:=bl.lt);(with_reducible refine (zaT b _ _ ln ld _ (i0.to gb) Hx).mono ?_);rintro e w1 ⟨ng1,a1_,n1_,c1_,p1_,m1_,k1_,rfl,g1,aT⟩;have gb:=bS gb aT;have c8:=aT.size;(try have ac:=ac.to aT);(try have bl:=bl.to aT);(try have bi:=ac.lt);(try have cn:=bl.lt);(try (have aG:=ac;obtain ⟨aU,aV,aW,aX,aY,aZ⟩:=aG));(try (have cM:=bl;obtain ⟨du,dv,dw,dx,dy,dz⟩:=cM))))
  all_goals (go_wp2_with fail;go_meet)
  all_goals first
   | (with_reducible exact zi ac bl (Nat.ne_of_lt (Nat.lt_succ_self _)) g1 g2 (.inl aQ) (.inl bz) (.inl aH) (.inl bA) gb ay aO)
   | (with_reducible exact zi ac ap (Nat.ne_of_lt bi) g1 g2 (.inl aQ) (.inr bo) (.inl aH) (.inl aI) gb ay az)
   | (with_reducible exact zi ac bO (Nat.ne_of_lt (Nat.lt_succ_of_lt bi)) g1 g2 (.inl aQ) (.inr bq) (.inl aH) (.inl bB) gb ay aP)
   | (with_reducible exact zi bl ac ((Nat.ne_of_lt (Nat.lt_succ_self _)).symm) g1 g2 (.inl bz) (.inl aQ) (.inl bA) (.inl aH) gb aO ay)
   | (with_reducible exact zi bl ap (Nat.ne_of_lt cn) g1 g2 (.inl bz) (.inr bo) (.inl bA) (.inl aI) gb aO az)
   | (with_reducible exact zi bl bO (Nat.ne_of_lt (Nat.lt_succ_of_lt cn)) g1 g2 (.inl bz) (.inr bq) (.inl bA) (.inl bB) gb aO aP)
   | (with_reducible exact zi ap ac ((Nat.ne_of_lt bi).symm) g1 g2 (.inr bo) (.inl aQ) (.inl aI) (.inl aH) gb az ay)
   | (with_reducible exact zi ap bl ((Nat.ne_of_lt cn).symm) g1 g2 (.inr bo) (.inl bz) (.inl aI) (.inl bA) gb az aO)
   | (with_reducible exact zi ap bO (Nat.ne_of_lt (Nat.lt_succ_self _)) g1 g2 (.inr bo) (.inr bq) (.inl aI) (.inl bB) gb az aP)
   | (with_reducible exact zi bO ac ((Nat.ne_of_lt (Nat.lt_succ_of_lt bi)).symm) g1 g2 (.inr bq) (.inl aQ) (.inl bB) (.inl aH) gb aP ay)
   | (with_reducible exact zi bO bl ((Nat.ne_of_lt (Nat.lt_succ_of_lt cn)).symm) g1 g2 (.inr bq) (.inl bz) (.inl bB) (.inl bA) gb aP aO)
   | (with_reducible exact zi bO ap ((Nat.ne_of_lt (Nat.lt_succ_self _)).symm) g1 g2 (.inr bq) (.inr bo) (.inl bB) (.inl aI) gb aP az)
   | (with_reducible exact zq ac g1 g2 (.inl aQ) (.inl aH) gb ay)
   | (with_reducible exact (zq ac g2 g1 (.inl aH) (.inl aQ) gb ay).symm)
   | (with_reducible exact zq bl g1 g2 (.inl bz) (.inl bA) gb aO)
   | (with_reducible exact (zq bl g2 g1 (.inl bA) (.inl bz) gb aO).symm)
   | (with_reducible exact zq ap g1 g2 (.inr bo) (.inl aI) gb az)
   | (with_reducible exact (zq ap g2 g1 (.inl aI) (.inr bo) gb az).symm)
   | (with_reducible exact zq bO g1 g2 (.inr bq) (.inl bB) gb aP)
   | (with_reducible exact (zq bO g2 g1 (.inl bB) (.inr bq) gb aP).symm)
   | (with_reducible exact zbs g1 g2 gb)
   | (with_reducible exact (zbs g2 g1 gb).symm)
 case rest =>
 obtain ⟨⟨B5,ng1,a1_,n1_,c1_,p1_,m1_,k1_,lo5,hi5,rfl,hB5,T5,g1,hc5⟩,⟨B6,ng2,a2_,n2_,c2_,p2_,m2_,k2_,lo6,hi6,rfl,hB6,T6,g2,hc6⟩⟩:=hcut
 clear ae ah af ai ag ak aA aD aB aE aC aF bt bG bu bH b6 cg
 have gb:=hc5
 obtain ⟨ae,af,ag,aA,aB,aC,bt,bu,b6⟩:=al.out _ gb
 obtain ⟨ah,ai,ak,aD,aE,aF,bG,bH,cg⟩:=bQ.out _ gb
 obtain ⟨z0,z1,z2⟩:=bR.out _ gb
 have z5:=T5.lt
 obtain ⟨bv,bw,bx,bJ,bK,bL⟩:=T5
 have z6:=T6.lt
 obtain ⟨ck,cm,cu,cx,cy,cB⟩:=T6
 clear hgb
 obtain ⟨W1,aK⟩:∃ W,wc=W:=⟨_,rfl⟩
 subst aK
 replace i0:=i0.to gb
 replace i1:=i1.to gb
 replace zb:=bS zb gb
 have HXwc:=Lib.hid (show ∀ W',Below wc.heap.size wc W'->(Bx3 W' w.heap.size (.bool b) (.slice a0 n0 c0) (.slice a1 n1 c1)/\Bx3 W' (w.heap.size+1) (.bool c) (.slice a2 n2 c2) (.slice a3 n3 c3)/\Bx3 W' (w.heap.size+1+1) (.bool false) (.slice none 0 0) (.slice none 0 0)/\Bx3 W' B5 (.bool ng1) (.slice a1_ n1_ c1_) (.slice p1_ m1_ k1_)/\Bx3 W' B6 (.bool ng2) (.slice a2_ n2_ c2_) (.slice p2_ m2_ k2_)) from fun W' hb => by
   refine ⟨bx3 hb ?_ ?_ ?_ ?_ ?_ ?_,bx3 hb ?_ ?_ ?_ ?_ ?_ ?_,bx3 hb ?_ ?_ ?_ ?_ ?_ ?_,bx3 hb ?_ ?_ ?_ ?_ ?_ ?_,bx3 hb ?_ ?_ ?_ ?_ ?_ ?_⟩
   all_goals first|assumption|assumption)
 replace gb:=Below.refl wc.heap.size wc
 go_wp2_with fail
 have nz0:w.heap.size≠w.heap.size+1+1:=by omega
 have nz1:w.heap.size+1≠w.heap.size+1+1:=by omega
 have nz5:B5≠w.heap.size+1+1:=by omega
 have nz6:B6≠w.heap.size+1+1:=by omega
 go_region_held3 (fun W' => W'.cell? ⟨w.heap.size,0,none⟩=some (.bool b)/\W'.cell? ⟨w.heap.size,1,none⟩=some (.slice a0 n0 c0)/\W'.cell? ⟨w.heap.size,2,none⟩=some (.slice a1 n1 c1)/\W'.cell? ⟨w.heap.size+1,0,none⟩=some (.bool c)/\W'.cell? ⟨w.heap.size+1,1,none⟩=some (.slice a2 n2 c2)/\W'.cell? ⟨w.heap.size+1,2,none⟩=some (.slice a3 n3 c3)/\W'.cell? ⟨B5,0,none⟩=some (.bool ng1)/\W'.cell? ⟨B5,1,none⟩=some (.slice a1_ n1_ c1_)/\W'.cell? ⟨B5,2,none⟩=some (.slice p1_ m1_ k1_)/\W'.cell? ⟨B6,0,none⟩=some (.bool ng2)/\W'.cell? ⟨B6,1,none⟩=some (.slice a2_ n2_ c2_)/\W'.cell? ⟨B6,2,none⟩=some (.slice p2_ m2_ k2_)) (first|(with_reducible exact ⟨ae,af,ag,aA,aB,aC,bv,bw,bx,ck,cm,cu⟩)|(with_reducible exact ⟨cP (cP (cP (ae) (.inl nz0) _) (.inl nz0) _) (.inl nz0) _,cP (cP (cP (af) (.inl nz0) _) (.inl nz0) _) (.inl nz0) _,cP (cP (cP (ag) (.inl nz0) _) (.inl nz0) _) (.inl nz0) _,cP (cP (cP (aA) (.inl nz1) _) (.inl nz1) _) (.inl nz1) _,cP (cP (cP (aB) (.inl nz1) _) (.inl nz1) _) (.inl nz1) _,cP (cP (cP (aC) (.inl nz1) _) (.inl nz1) _) (.inl nz1) _,cP (cP (cP (bv) (.inl nz5) _) (.inl nz5) _) (.inl nz5) _,cP (cP (cP (bw) (.inl nz5) _) (.inl nz5) _) (.inl nz5) _,cP (cP (cP (bx) (.inl nz5) _) (.inl nz5) _) (.inl nz5) _,cP (cP (cP (ck) (.inl nz6) _) (.inl nz6) _) (.inl nz6) _,cP (cP (cP (cm) (.inl nz6) _) (.inl nz6) _) (.inl nz6) _,cP (cP (cP (cu) (.inl nz6) _) (.inl nz6) _) (.inl nz6) _⟩)|exact ⟨ae,af,ag,aA,aB,aC,bv,bw,bx,ck,cm,cu⟩) (first
  | (go_at_call 82;(with_reducible refine (zeZ ng13 ng16 _ _ _ _ _ g13.isI.up g16.isI.up S6.out HZ.out).mono ?_);rintro e w17 ⟨rfl,df⟩;have g13:=g13.to df;have g16:=g16.to df;have gb:=bS gb df;obtain ⟨⟨z0,ae,af,ag,ah,ai,ak⟩,⟨z1,aA,aB,aC,aD,aE,aF⟩,⟨z2,bt,bu,b6,bG,bH,cg⟩,⟨z5,bv,bw,bx,bJ,bK,bL⟩,⟨z6,ck,cm,cu,cx,cy,cB⟩⟩:=HXwc.out _ gb)
  | (go_at_call 78;(with_reducible refine (zfp _ (g1.to gb).below (g2.to gb).above ((x.den:Int)*y.num) rfl S2).mono ?_);rintro e w16 ⟨ng16,a16_,n16_,c16_,rfl,g16,dU⟩;have g13:=g13.to dU;have gb:=bS gb dU;obtain ⟨⟨z0,ae,af,ag,ah,ai,ak⟩,⟨z1,aA,aB,aC,aD,aE,aF⟩,⟨z2,bt,bu,b6,bG,bH,cg⟩,⟨z5,bv,bw,bx,bJ,bK,bL⟩,⟨z6,ck,cm,cu,cx,cy,cB⟩⟩:=HXwc.out _ gb)
  | (go_at_call 79;(with_reducible refine (zaM _ _ _ _ _ _ (g2.to gb).isQ).mono ?_);rintro e w15 ⟨rfl,dZ⟩;have g13:=g13.to dZ;have gb:=bS gb dZ;obtain ⟨⟨z0,ae,af,ag,ah,ai,ak⟩,⟨z1,aA,aB,aC,aD,aE,aF⟩,⟨z2,bt,bu,b6,bG,bH,cg⟩,⟨z5,bv,bw,bx,bJ,bK,bL⟩,⟨z6,ck,cm,cu,cx,cy,cB⟩⟩:=HXwc.out _ gb)
  | (go_at_call 80;(with_reducible refine (zaN _ _ _ _ _ _ (g1.to gb).isQ).mono ?_);rintro e w14 ⟨rfl,d5⟩;have g13:=g13.to d5;have gb:=bS gb d5;obtain ⟨⟨z0,ae,af,ag,ah,ai,ak⟩,⟨z1,aA,aB,aC,aD,aE,aF⟩,⟨z2,bt,bu,b6,bG,bH,cg⟩,⟨z5,bv,bw,bx,bJ,bK,bL⟩,⟨z6,ck,cm,cu,cx,cy,cB⟩⟩:=HXwc.out _ gb)
  | (go_at_call 78;(with_reducible refine (zfp _ (g1.to gb).above (g2.to gb).below (x.num*(y.den:Int)) rfl S1).mono ?_);rintro e w13 ⟨ng13,a13_,n13_,c13_,rfl,g13,ec⟩;have gb:=bS gb ec;obtain ⟨⟨z0,ae,af,ag,ah,ai,ak⟩,⟨z1,aA,aB,aC,aD,aE,aF⟩,⟨z2,bt,bu,b6,bG,bH,cg⟩,⟨z5,bv,bw,bx,bJ,bK,bL⟩,⟨z6,ck,cm,cu,cx,cy,cB⟩⟩:=HXwc.out _ gb)
  | (go_at_call 80;(with_reducible refine (zaN _ _ _ _ _ _ (g2.to gb).isQ).mono ?_);rintro e w12 ⟨rfl,dM⟩;have gb:=bS gb dM;obtain ⟨⟨z0,ae,af,ag,ah,ai,ak⟩,⟨z1,aA,aB,aC,aD,aE,aF⟩,⟨z2,bt,bu,b6,bG,bH,cg⟩,⟨z5,bv,bw,bx,bJ,bK,bL⟩,⟨z6,ck,cm,cu,cx,cy,cB⟩⟩:=HXwc.out _ gb)
  | (go_at_call 79;have gb:=gb.drew;(with_reducible refine (zaM _ _ _ _ _ _ (g1.to gb).isQ).mono ?_);rintro e w11 ⟨rfl,eU⟩;have gb:=bS gb eU;obtain ⟨⟨z0,ae,af,ag,ah,ai,ak⟩,⟨z1,aA,aB,aC,aD,aE,aF⟩,⟨z2,bt,bu,b6,bG,bH,cg⟩,⟨z5,bv,bw,bx,bJ,bK,bL⟩,⟨z6,ck,cm,cu,cx,cy,cB⟩⟩:=HXwc.out _ gb))
 go_wp2_with fail
 refine bodyPost_ret (zn Try.results55 _ _ _ _ _ _ rfl (Tri.set (x0:=.bool false) (y0:=.slice none 0 0) (z0:=.slice none 0 0) ⟨bt,bu,b6,bG,bH,cg⟩ _ _ _)) rfl ⟨rfl,bT (bS zb gb) (by omega) _ _ _⟩

theorem zjz {x y:Rat} (b:Bool) (v u:Value) (ln ld:List Nat) (c:Bool) (v' u':Value) (ln' ld':List Nat) (w:World) (h:IsQ w b v u ln ld x) (h':IsQ w c v' u' ln' ld' y) (h0:y≠0) (q:Rat) (hq:x / y=q) (hs:Hid (szq q<=4097)) :
  Calls Try.prog 55 #[aggR b v u,aggR c v' u'] w (zp w q):=by
 have Hx:Hid (szq x<=4097):=zas h
 have Hy:Hid (szq y<=4097):=zas h'
 have S1:=Lib.hid (show szi (x.num*(y.den:Int))<=90000 from zcz Hx.out Hy.out)
 have S2:=Lib.hid (show szi ((x.den:Int)*y.num)<=90000 by rw [Int.mul_comm];exact zcz Hy.out Hx.out)
 have S5:=Lib.hid (show (zc (x.num*(y.den:Int)).natAbs).length<=15000 from zdc Hx.out Hy.out)
 have S6:=Lib.hid (show (zc ((x.den:Int)*y.num).natAbs).length<=15000 by rw [Int.mul_comm];exact zdc Hy.out Hx.out)
 have HZ:=Lib.hid (show val (zc ((x.den:Int)*y.num).natAbs)≠0 by
  rw [vL,Int.natAbs_mul]
  exact Nat.mul_ne_zero (by have:=x.den_nz;omega) (fun e => h0 (Rat.num_eq_zero.1 (Int.natAbs_eq_zero.1 e))))
 have H9:=Lib.hid (show ∀ ng ng',decide (x.num*(y.den:Int)<0)=ng->decide ((x.den:Int)*y.num<0)=ng'->rat (ng != ng') (val (zc (x.num*(y.den:Int)).natAbs)) (val (zc ((x.den:Int)*y.num).natAbs))=q from fun ng ng' e e' => by
  rw [<- e,<- e',vL,vL,div_rat x h0,hq])
 obtain ⟨a0,n0,c0,rfl,H0,hm0⟩:=h.1.open
 obtain ⟨a1,n1,c1,rfl,H1,hm1⟩:=h.2.1.open
 obtain ⟨a2,n2,c2,rfl,H2,hm2⟩:=h'.1.open
 obtain ⟨a3,n3,c3,rfl,H3,hm3⟩:=h'.2.1.open
 clear hq h0
 go_enter Try.func55,Try.ntmps55
 go_wp2_with fail
 obtain ⟨W0,aq⟩:∃ W0,((w.alloc (.cells #[.bool b,.slice a0 n0 c0,.slice a1 n1 c1] 25)).alloc (.cells #[.bool c,.slice a2 n2 c2,.slice a3 n3 c3] 25)).alloc (.cells #[.bool false,.slice none 0 0,.slice none 0 0] 25)=W0:=⟨_,rfl⟩
 have al:=Lib.hid (show ∀ W',Below W0.heap.size W0 W'->(W'.cell? ⟨w.heap.size,0,none⟩=some (.bool b)/\W'.cell? ⟨w.heap.size,1,none⟩=some (.slice a0 n0 c0)/\W'.cell? ⟨w.heap.size,2,none⟩=some (.slice a1 n1 c1)/\W'.cell? ⟨w.heap.size+1,0,none⟩=some (.bool c)/\W'.cell? ⟨w.heap.size+1,1,none⟩=some (.slice a2 n2 c2)/\W'.cell? ⟨w.heap.size+1,2,none⟩=some (.slice a3 n3 c3)/\W'.cell? ⟨w.heap.size+1+1,0,none⟩=some (.bool false)/\W'.cell? ⟨w.heap.size+1+1,1,none⟩=some (.slice none 0 0)/\W'.cell? ⟨w.heap.size+1+1,2,none⟩=some (.slice none 0 0)) from fun W' hb =>
  by and_intros <;> exact kc hb (by first|assumption|(rw [<- aq];simp [go_sem])))
 have bQ:=Lib.hid (show ∀ W',Below W0.heap.size W0 W'->(W'.frozen? ⟨w.heap.size,0,none⟩=false/\W'.frozen? ⟨w.heap.size,1,none⟩=false/\W'.frozen? ⟨w.heap.size,2,none⟩=false/\W'.frozen? ⟨w.heap.size+1,0,none⟩=false/\W'.frozen? ⟨w.heap.size+1,1,none⟩=false/\W'.frozen? ⟨w.heap.size+1,2,none⟩=false/\W'.frozen? ⟨w.heap.size+1+1,0,none⟩=false/\W'.frozen? ⟨w.heap.size+1+1,1,none⟩=false/\W'.frozen? ⟨w.heap.size+1+1,2,none⟩=false) from fun W' hb =>
  by and_intros <;> refine (hb.frozen ?_).trans ?_ <;> first|assumption|(rw [<- aq];simp [go_sem])|(rw [<- aq];simp <;> omega))
 have bR:=Lib.hid (show ∀ W',Below W0.heap.size W0 W'->(w.heap.size<W'.heap.size/\w.heap.size+1<W'.heap.size/\w.heap.size+1+1<W'.heap.size) from fun W' hb =>
  by and_intros <;> refine Nat.lt_of_lt_of_le ?_ hb.size <;> first|assumption|(rw [<- aq];simp <;> omega))
 have zb:Below w.heap.size w W0:=by rw [<- aq];exact bS (bS (bN _ _) (bN _ _)) (bN _ _)
 rw [aq]
 clear aq
 have i0:=h.to zb
 have i1:=h'.to zb
 have gb:Below W0.heap.size W0 W0:=Below.refl _ _
 obtain ⟨ae,af,ag,aA,aB,aC,bt,bu,b6⟩:=al.out _ gb
 obtain ⟨ah,ai,ak,aD,aE,aF,bG,bH,cg⟩:=bQ.out _ gb
 obtain ⟨z0,z1,z2⟩:=bR.out _ gb
 have hgb:=gb
 go_upto_region 1 with fail
 go_cut [6,7] from 8 (fun s6 s7 wx => zaw W0 (x) s6 wx/\zaw W0 (y) s7 wx)
 case first =>
  go_region_held3 (fun W' => W'.cell? ⟨w.heap.size,0,none⟩=some (.bool b)/\W'.cell? ⟨w.heap.size,1,none⟩=some (.slice a0 n0 c0)/\W'.cell? ⟨w.heap.size,2,none⟩=some (.slice a1 n1 c1)/\W'.cell? ⟨w.heap.size+1,0,none⟩=some (.bool c)/\W'.cell? ⟨w.heap.size+1,1,none⟩=some (.slice a2 n2 c2)/\W'.cell? ⟨w.heap.size+1,2,none⟩=some (.slice a3 n3 c3)/\W'.cell? ⟨w.heap.size+1+1,0,none⟩=some (.bool false)/\W'.cell? ⟨w.heap.size+1+1,1,none⟩=some (.slice none 0 0)/\W'.cell? ⟨w.heap.size+1+1,2,none⟩=some (.slice none 0 0)) (with_reducible first|(exact al.out _ gb)|((refine al.out _ ?_);first|((refine Below.drew ?_);first|(exact gb)|((refine bT ?_ ?_ _ _ _);rotate_left;(first|(exact ay)|(exact aO)|(exact az)|(exact aP));first|(exact gb)|((refine bT ?_ ?_ _ _ _);rotate_left;(first|(exact ay)|(exact aO)|(exact az)|(exact aP));exact gb)|((refine bS ?_ (bN _ _));exact gb))|((refine bS ?_ (bN _ _));first|(exact gb)|((refine bT ?_ ?_ _ _ _);rotate_left;(first|(exact ay)|(exact aO)|(exact az)|(exact aP));exact gb)|((refine bS ?_ (bN _ _));exact gb)))|(first|(exact gb)|((refine bT ?_ ?_ _ _ _);rotate_left;(first|(exact ay)|(exact aO)|(exact az)|(exact aP));first|(exact gb)|((refine bT ?_ ?_ _ _ _);rotate_left;(first|(exact ay)|(exact aO)|(exact az)|(exact aP));first|(exact gb)|((refine bT ?_ ?_ _ _ _);rotate_left;(first|(exact ay)|(exact aO)|(exact az)|(exact aP));first|(exact gb)|((refine bT ?_ ?_ _ _ _);rotate_left;(first|(exact ay)|(exact aO)|(exact az)|(exact aP));exact gb)|((refine bS ?_ (bN _ _));exact gb))|((refine bS ?_ (bN _ _));first|(exact gb)|((refine bT ?_ ?_ _ _ _);rotate_left;(first|(exact ay)|(exact aO)|(exact az)|(exact aP));exact gb)|((refine bS ?_ (bN _ _));exact gb)))|((refine bS ?_ (bN _ _));first|(exact gb)|((refine bT ?_ ?_ _ _ _);rotate_left;(first|(exact ay)|(exact aO)|(exact az)|(exact aP));first|(exact gb)|((refine bT ?_ ?_ _ _ _);rotate_left;(first|(exact ay)|(exact aO)|(exact az)|(exact aP));exact gb)|((refine bS ?_ (bN _ _));exact gb))|((refine bS ?_ (bN _ _));first|(exact gb)|((refine bT ?_ ?_ _ _ _);rotate_left;(first|(exact ay)|(exact aO)|(exact az)|(exact aP));exact gb)|((refine bS ?_ (bN _ _));exact gb))))|((refine bS ?_ (bN _ _));first|(exact gb)|((refine bT ?_ ?_ _ _ _);rotate_left;(first|(exact ay)|(exact aO)|(exact az)|(exact aP));first|(exact gb)|((refine bT ?_ ?_ _ _ _);rotate_left;(first|(exact ay)|(exact aO)|(exact az)|(exact aP));first|(exact gb)|((refine bT ?_ ?_ _ _ _);rotate_left;(first|(exact ay)|(exact aO)|(exact az)|(exact aP));exact gb)|((refine bS ?_ (bN _ _));exact gb))|((refine bS ?_ (bN _ _));first|(exact gb)|((refine bT ?_ ?_ _ _ _);rotate_left;(first|(exact ay)|(exact aO)|(exact az)|(exact aP));exact gb)|((refine bS ?_ (bN _ _));exact gb)))|((refine bS ?_ (bN _ _));first|(exact gb)|((refine bT ?_ ?_ _ _ _);rotate_left;(first|(exact ay)|(exact aO)|(exact az)|(exact aP));first|(exact gb)|((refine bT ?_ ?_ _ _ _);rotate_left;(first|(exact ay)|(exact aO)|(exact az)|(exact aP));exact gb)|((refine bS ?_ (bN _ _));exact gb))|((refine bS ?_ (bN _ _));first|(exact gb)|((refine bT ?_ ?_ _ _ _);rotate_left;(first|(exact ay)|(exact aO)|(exact az)|(exact aP));exact gb)|((refine bS ?_ (bN _ _));exact gb))))))) (first
   | (go_at_call 76;(refine zf w1 (by with_reducible first|exact Below.refl _ _|exact bN _ _|exact bS (bN _ _) (bN _ _)) ?_);intro V2 cH bn;have cS:=bn.size;have cN:=gb.size;have g1:=g1.to bn;have gb:=bS gb bn;(try have ac:=ac.to bn);(try have bl:=bl.to bn);(try have ap:Tri V2 (w1.heap.size) (.bool false) (.slice none 0 0) (.slice none 0 0):=(by rw [cH];with_reducible first|exact zd _ (.bool false) (.slice none 0 0) (.slice none 0 0) _|exact (zd _ (.bool false) (.slice none 0 0) (.slice none 0 0) _).alloc _));have az:W0.heap.size<=w1.heap.size:=(cN);have bo:w1.heap.size<=w1.heap.size:=(Nat.le_refl _);(try have bO:Tri V2 (w1.heap.size+1) (.bool false) (.slice none 0 0) (.slice none 0 0):=(by rw [cH];first|with_reducible exact zad _ _ (.bool false) (.slice none 0 0) (.slice none 0 0) _));have aP:W0.heap.size<=w1.heap.size+1:=(Nat.le_succ_of_le cN);have bq:w1.heap.size<=w1.heap.size+1:=(Nat.le_succ _);(try have aH:=ac.lt);(try have bA:=bl.lt);(try have aI:=ap.lt);(try have bB:=bO.lt);(with_reducible refine (zaT c _ _ ln' ld' _ (i1.to gb) Hy).mono ?_);rintro e w2 ⟨ng2,a2_,n2_,c2_,p2_,m2_,k2_,rfl,g2,aL⟩;have g1:=g1.to aL;have gb:=bS gb aL;have da:=aL.size;(try have ac:=ac.to aL);(try have bl:=bl.to aL);(try have ap:=ap.to aL);(try have bO:=bO.to aL);(try have bC:=ac.lt);(try have el:=bl.lt);(try have bE:=ap.lt);(try have en:=bO.lt);(try (have aG:=ac;obtain ⟨aU,aV,aW,aX,aY,aZ⟩:=aG));(try (have cM:=bl;obtain ⟨du,dv,dw,dx,dy,dz⟩:=cM));(try (have bj:=ap;obtain ⟨bU,bV,bW,bX,bY,bZ⟩:=bj));(try (have d4:=bO;obtain ⟨eF,eG,eH,eI,eJ,eL⟩:=d4)))
   | (go_at_call 76;(refine zf W0 (by with_reducible first|exact (Below.refl _ _).drew|exact (bN _ _).drew|exact (bS (bN _ _) (bN _ _)).drew) ?_);intro V1 cI bP;have cR:=bP.size;have cC:=gb.size;have gb:=bS gb bP;(try have ac:Tri V1 (W0.heap.size) (.bool false) (.slice none 0 0) (.slice none 0 0):=(by rw [cI];with_reducible first|exact (zd _ (.bool false) (.slice none 0 0) (.slice none 0 0) _).drew|exact ((zd _ (.bool false) (.slice none 0 0) (.slice none 0 0) _).alloc _).drew));have ay:W0.heap.size<=W0.heap.size:=(cC);(try have bl:Tri V1 (W0.heap.size+1) (.bool false) (.slice none 0 0) (.slice none 0 0):=(by rw [cI];first|with_reducible exact (zad _ _ (.bool false) (.slice none 0 0) (.slice none 0 0) _).drew));have aO:W0.heap.size<=W0.heap.size+1:=(Nat.le_succ_of_le cC);(try have aQ:=ac.lt);(try have bz:=bl.lt);(with_reducible refine (zaT b _ _ ln ld _ (i0.to gb) Hx).mono ?_);rintro e w1 ⟨ng1,a1_,n1_,c1_,p1_,m1_,k1_,rfl,g1,aT⟩;have gb:=bS gb aT;have c8:=aT.size;(try have ac:=ac.to aT);(try have bl:=bl.to aT);(try have bi:=ac.lt);(try have cn:=bl.lt);(try (have aG:=ac;obtain ⟨aU,aV,aW,aX,aY,aZ⟩:=aG));(try (have cM:=bl;obtain ⟨du,dv,dw,dx,dy,dz⟩:=cM))))
  all_goals (go_wp2_with fail;go_meet)
  all_goals first
   | (with_reducible exact zi ac bl (Nat.ne_of_lt (Nat.lt_succ_self _)) g1 g2 (.inl aQ) (.inl bz) (.inl aH) (.inl bA) gb ay aO)
   | (with_reducible exact zi ac ap (Nat.ne_of_lt bi) g1 g2 (.inl aQ) (.inr bo) (.inl aH) (.inl aI) gb ay az)
   | (with_reducible exact zi ac bO (Nat.ne_of_lt (Nat.lt_succ_of_lt bi)) g1 g2 (.inl aQ) (.inr bq) (.inl aH) (.inl bB) gb ay aP)
   | (with_reducible exact zi bl ac ((Nat.ne_of_lt (Nat.lt_succ_self _)).symm) g1 g2 (.inl bz) (.inl aQ) (.inl bA) (.inl aH) gb aO ay)
   | (with_reducible exact zi bl ap (Nat.ne_of_lt cn) g1 g2 (.inl bz) (.inr bo) (.inl bA) (.inl aI) gb aO az)
   | (with_reducible exact zi bl bO (Nat.ne_of_lt (Nat.lt_succ_of_lt cn)) g1 g2 (.inl bz) (.inr bq) (.inl bA) (.inl bB) gb aO aP)
   | (with_reducible exact zi ap ac ((Nat.ne_of_lt bi).symm) g1 g2 (.inr bo) (.inl aQ) (.inl aI) (.inl aH) gb az ay)
   | (with_reducible exact zi ap bl ((Nat.ne_of_lt cn).symm) g1 g2 (.inr bo) (.inl bz) (.inl aI) (.inl bA) gb az aO)
   | (with_reducible exact zi ap bO (Nat.ne_of_lt (Nat.lt_succ_self _)) g1 g2 (.inr bo) (.inr bq) (.inl aI) (.inl bB) gb az aP)
   | (with_reducible exact zi bO ac ((Nat.ne_of_lt (Nat.lt_succ_of_lt bi)).symm) g1 g2 (.inr bq) (.inl aQ) (.inl bB) (.inl aH) gb aP ay)
   | (with_reducible exact zi bO bl ((Nat.ne_of_lt (Nat.lt_succ_of_lt cn)).symm) g1 g2 (.inr bq) (.inl bz) (.inl bB) (.inl bA) gb aP aO)
   | (with_reducible exact zi bO ap ((Nat.ne_of_lt (Nat.lt_succ_self _)).symm) g1 g2 (.inr bq) (.inr bo) (.inl bB) (.inl aI) gb aP az)
   | (with_reducible exact zq ac g1 g2 (.inl aQ) (.inl aH) gb ay)
   | (with_reducible exact (zq ac g2 g1 (.inl aH) (.inl aQ) gb ay).symm)
   | (with_reducible exact zq bl g1 g2 (.inl bz) (.inl bA) gb aO)
   | (with_reducible exact (zq bl g2 g1 (.inl bA) (.inl bz) gb aO).symm)
   | (with_reducible exact zq ap g1 g2 (.inr bo) (.inl aI) gb az)
   | (with_reducible exact (zq ap g2 g1 (.inl aI) (.inr bo) gb az).symm)
   | (with_reducible exact zq bO g1 g2 (.inr bq) (.inl bB) gb aP)
   | (with_reducible exact (zq bO g2 g1 (.inl bB) (.inr bq) gb aP).symm)
   | (with_reducible exact zbs g1 g2 gb)
   | (with_reducible exact (zbs g2 g1 gb).symm)
 case rest =>
 obtain ⟨⟨B5,ng1,a1_,n1_,c1_,p1_,m1_,k1_,lo5,hi5,rfl,hB5,T5,g1,hc5⟩,⟨B6,ng2,a2_,n2_,c2_,p2_,m2_,k2_,lo6,hi6,rfl,hB6,T6,g2,hc6⟩⟩:=hcut
 clear ae ah af ai ag ak aA aD aB aE aC aF bt bG bu bH b6 cg
 have gb:=hc5
 obtain ⟨ae,af,ag,aA,aB,aC,bt,bu,b6⟩:=al.out _ gb
 obtain ⟨ah,ai,ak,aD,aE,aF,bG,bH,cg⟩:=bQ.out _ gb
 obtain ⟨z0,z1,z2⟩:=bR.out _ gb
 have z5:=T5.lt
 obtain ⟨bv,bw,bx,bJ,bK,bL⟩:=T5
 have z6:=T6.lt
 obtain ⟨ck,cm,cu,cx,cy,cB⟩:=T6
 clear hgb
 obtain ⟨W1,aK⟩:∃ W,wc=W:=⟨_,rfl⟩
 subst aK
 replace i0:=i0.to gb
 replace i1:=i1.to gb
 replace zb:=bS zb gb
 have HXwc:=Lib.hid (show ∀ W',Below wc.heap.size wc W'->(Bx3 W' w.heap.size (.bool b) (.slice a0 n0 c0) (.slice a1 n1 c1)/\Bx3 W' (w.heap.size+1) (.bool c) (.slice a2 n2 c2) (.slice a3 n3 c3)/\Bx3 W' (w.heap.size+1+1) (.bool false) (.slice none 0 0) (.slice none 0 0)/\Bx3 W' B5 (.bool ng1) (.slice a1_ n1_ c1_) (.slice p1_ m1_ k1_)/\Bx3 W' B6 (.bool ng2) (.slice a2_ n2_ c2_) (.slice p2_ m2_ k2_)) from fun W' hb => by
   refine ⟨bx3 hb ?_ ?_ ?_ ?_ ?_ ?_,bx3 hb ?_ ?_ ?_ ?_ ?_ ?_,bx3 hb ?_ ?_ ?_ ?_ ?_ ?_,bx3 hb ?_ ?_ ?_ ?_ ?_ ?_,bx3 hb ?_ ?_ ?_ ?_ ?_ ?_⟩
   all_goals first|assumption|assumption)
 replace gb:=Below.refl wc.heap.size wc
 go_wp2_with fail
 have nz0:w.heap.size≠w.heap.size+1+1:=by omega
 have nz1:w.heap.size+1≠w.heap.size+1+1:=by omega
 have nz5:B5≠w.heap.size+1+1:=by omega
 have nz6:B6≠w.heap.size+1+1:=by omega
 go_region_held3 (fun W' => W'.cell? ⟨w.heap.size,0,none⟩=some (.bool b)/\W'.cell? ⟨w.heap.size,1,none⟩=some (.slice a0 n0 c0)/\W'.cell? ⟨w.heap.size,2,none⟩=some (.slice a1 n1 c1)/\W'.cell? ⟨w.heap.size+1,0,none⟩=some (.bool c)/\W'.cell? ⟨w.heap.size+1,1,none⟩=some (.slice a2 n2 c2)/\W'.cell? ⟨w.heap.size+1,2,none⟩=some (.slice a3 n3 c3)/\W'.cell? ⟨B5,0,none⟩=some (.bool ng1)/\W'.cell? ⟨B5,1,none⟩=some (.slice a1_ n1_ c1_)/\W'.cell? ⟨B5,2,none⟩=some (.slice p1_ m1_ k1_)/\W'.cell? ⟨B6,0,none⟩=some (.bool ng2)/\W'.cell? ⟨B6,1,none⟩=some (.slice a2_ n2_ c2_)/\W'.cell? ⟨B6,2,none⟩=some (.slice p2_ m2_ k2_)) (first|(with_reducible exact ⟨ae,af,ag,aA,aB,aC,bv,bw,bx,ck,cm,cu⟩)|(with_reducible exact ⟨cP (cP (cP (ae) (.inl nz0) _) (.inl nz0) _) (.inl nz0) _,cP (cP (cP (af) (.inl nz0) _) (.inl nz0) _) (.inl nz0) _,cP (cP (cP (ag) (.inl nz0) _) (.inl nz0) _) (.inl nz0) _,cP (cP (cP (aA) (.inl nz1) _) (.inl nz1) _) (.inl nz1) _,cP (cP (cP (aB) (.inl nz1) _) (.inl nz1) _) (.inl nz1) _,cP (cP (cP (aC) (.inl nz1) _) (.inl nz1) _) (.inl nz1) _,cP (cP (cP (bv) (.inl nz5) _) (.inl nz5) _) (.inl nz5) _,cP (cP (cP (bw) (.inl nz5) _) (.inl nz5) _) (.inl nz5) _,cP (cP (cP (bx) (.inl nz5) _) (.inl nz5) _) (.inl nz5) _,cP (cP (cP (ck) (.inl nz6) _) (.inl nz6) _) (.inl nz6) _,cP (cP (cP (cm) (.inl nz6) _) (.inl nz6) _) (.inl nz6) _,cP (cP (cP (cu) (.inl nz6) _) (.inl nz6) _) (.inl nz6) _⟩)|exact ⟨ae,af,ag,aA,aB,aC,bv,bw,bx,ck,cm,cu⟩) (first
  | (go_at_call 82;(with_reducible refine (zhV ng13 ng16 _ _ _ _ _ g13.isI.up g16.isI.up S5.out S6.out HZ.out q (H9.out ng13 ng16 g13.ng g16.ng) hs).mono ?_);rintro e w17 ⟨ng17,a17_,n17_,c17_,p17_,m17_,k17_,rfl,g17,df⟩;have g13:=g13.to df;have g16:=g16.to df;have gb:=bS gb df;obtain ⟨⟨z0,ae,af,ag,ah,ai,ak⟩,⟨z1,aA,aB,aC,aD,aE,aF⟩,⟨z2,bt,bu,b6,bG,bH,cg⟩,⟨z5,bv,bw,bx,bJ,bK,bL⟩,⟨z6,ck,cm,cu,cx,cy,cB⟩⟩:=HXwc.out _ gb)
  | (go_at_call 78;(with_reducible refine (zfp _ (g1.to gb).below (g2.to gb).above ((x.den:Int)*y.num) rfl S2).mono ?_);rintro e w16 ⟨ng16,a16_,n16_,c16_,rfl,g16,dU⟩;have g13:=g13.to dU;have gb:=bS gb dU;obtain ⟨⟨z0,ae,af,ag,ah,ai,ak⟩,⟨z1,aA,aB,aC,aD,aE,aF⟩,⟨z2,bt,bu,b6,bG,bH,cg⟩,⟨z5,bv,bw,bx,bJ,bK,bL⟩,⟨z6,ck,cm,cu,cx,cy,cB⟩⟩:=HXwc.out _ gb)
  | (go_at_call 79;(with_reducible refine (zaM _ _ _ _ _ _ (g2.to gb).isQ).mono ?_);rintro e w15 ⟨rfl,dZ⟩;have g13:=g13.to dZ;have gb:=bS gb dZ;obtain ⟨⟨z0,ae,af,ag,ah,ai,ak⟩,⟨z1,aA,aB,aC,aD,aE,aF⟩,⟨z2,bt,bu,b6,bG,bH,cg⟩,⟨z5,bv,bw,bx,bJ,bK,bL⟩,⟨z6,ck,cm,cu,cx,cy,cB⟩⟩:=HXwc.out _ gb)
  | (go_at_call 80;(with_reducible refine (zaN _ _ _ _ _ _ (g1.to gb).isQ).mono ?_);rintro e w14 ⟨rfl,d5⟩;have g13:=g13.to d5;have gb:=bS gb d5;obtain ⟨⟨z0,ae,af,ag,ah,ai,ak⟩,⟨z1,aA,aB,aC,aD,aE,aF⟩,⟨z2,bt,bu,b6,bG,bH,cg⟩,⟨z5,bv,bw,bx,bJ,bK,bL⟩,⟨z6,ck,cm,cu,cx,cy,cB⟩⟩:=HXwc.out _ gb)
  | (go_at_call 78;(with_reducible refine (zfp _ (g1.to gb).above (g2.to gb).below (x.num*(y.den:Int)) rfl S1).mono ?_);rintro e w13 ⟨ng13,a13_,n13_,c13_,rfl,g13,ec⟩;have gb:=bS gb ec;obtain ⟨⟨z0,ae,af,ag,ah,ai,ak⟩,⟨z1,aA,aB,aC,aD,aE,aF⟩,⟨z2,bt,bu,b6,bG,bH,cg⟩,⟨z5,bv,bw,bx,bJ,bK,bL⟩,⟨z6,ck,cm,cu,cx,cy,cB⟩⟩:=HXwc.out _ gb)
  | (go_at_call 80;(with_reducible refine (zaN _ _ _ _ _ _ (g2.to gb).isQ).mono ?_);rintro e w12 ⟨rfl,dM⟩;have gb:=bS gb dM;obtain ⟨⟨z0,ae,af,ag,ah,ai,ak⟩,⟨z1,aA,aB,aC,aD,aE,aF⟩,⟨z2,bt,bu,b6,bG,bH,cg⟩,⟨z5,bv,bw,bx,bJ,bK,bL⟩,⟨z6,ck,cm,cu,cx,cy,cB⟩⟩:=HXwc.out _ gb)
  | (go_at_call 79;have gb:=gb.drew;(with_reducible refine (zaM _ _ _ _ _ _ (g1.to gb).isQ).mono ?_);rintro e w11 ⟨rfl,eU⟩;have gb:=bS gb eU;obtain ⟨⟨z0,ae,af,ag,ah,ai,ak⟩,⟨z1,aA,aB,aC,aD,aE,aF⟩,⟨z2,bt,bu,b6,bG,bH,cg⟩,⟨z5,bv,bw,bx,bJ,bK,bL⟩,⟨z6,ck,cm,cu,cx,cy,cB⟩⟩:=HXwc.out _ gb))
 go_wp2_with fail
 refine bodyPost_ret (zn Try.results55 _ _ _ _ _ _ rfl (Tri.set (x0:=.bool false) (y0:=.slice none 0 0) (z0:=.slice none 0 0) ⟨bt,bu,b6,bG,bH,cg⟩ _ _ _)) rfl (zbn (bS zb gb) (by omega) ?_ g17)
 omega

end Go.Proofs.Ytkjcdnlpjldhaaa

