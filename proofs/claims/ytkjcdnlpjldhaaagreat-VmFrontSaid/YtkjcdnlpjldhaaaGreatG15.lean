/-
  The texts Rat2, Rat3, Rat4, Ref8, Ref8b, Rat6, merged.
-/
import Derived.Test.YtkjcdnlpjldhaaaGreatG12
import Derived.Test.YtkjcdnlpjldhaaaGreatG14
import Derived.Deep.RegionHeld3
import Derived.Deep.Cut
import Derived.Deep.DrawnRows
import Derived.Laws.EntriesVeiled
import Derived.Test.YtkjcdnlpjldhaaaGreatG07
import Derived.Test.YtkjcdnlpjldhaaaGreatG05
set_option linter.unusedVariables false
set_option linter.unusedSimpArgs false
set_option maxRecDepth 100000
set_option maxHeartbeats 400000000
namespace Go.Proofs.YtkjcdnlpjldhaaaGreat
open Go.RowKit Tw
attribute [local go_sem ↓] Go.wp_at_zero Go.wp_at_succ

theorem zaF {w:World} {b:Bool} {v u:Value} {ln ld:List Nat} {x:Rat} (h:IsQ w b v u ln ld x):Hid (szq x<=1000):=by
 show _<=_
 rw [<- h.2.2.1]
 refine Nat.le_trans (zdm _ _ _) ?_
 have h1:=zu h.1.1
 have h2:=zu h.2.1.1
 have h3:=h.2.2.2.1
 have h4:=h.2.2.2.2
 omega

theorem zdf {x y:Rat} (hx:szq x<=1000) (hy:szq y<=1000):szi (x.num*(y.den:Int))<=90000:=by
 have h1:=zcF x.num (y.den:Int)
 have h2:=zak x
 have h3:=zX y
 unfold szi at *
 rw [Int.natAbs_natCast] at h1
 omega

theorem sum_sz {x y:Rat} (hx:szq x<=1000) (hy:szq y<=1000):szi (x.num*(y.den:Int)+y.num*(x.den:Int))<=2001:=by
 have h0:=zke (x.num*(y.den:Int)) (y.num*(x.den:Int))
 have h1:=zcF x.num (y.den:Int)
 have h1':=zcF y.num (x.den:Int)
 have h2:=zak x
 have h3:=zX y
 have h2':=zak y
 have h3':=zX x
 unfold szi at *
 rw [Int.natAbs_natCast] at h1 h1'
 omega

theorem den_sz {x y:Rat} (hx:szq x<=1000) (hy:szq y<=1000):(zc (val (zc x.den)*val (zc y.den))).length<=3000:=by
 rw [zd,vL,vL]
 have h1:=zaA x.den y.den
 have h2:=zX x
 have h3:=zX y
 omega

theorem zbm {x:Rat} (b:Bool) (v u:Value) (ln ld:List Nat) (w:World) (h:IsQ w b v u ln ld x) (hs:Hid (szq x<=1000)) :
  Calls Tryz.prog 142 #[aggR b v u] w (zaf w x):=by
 obtain ⟨a0,n0,c0,rfl,H0,hm0⟩:=h.1.open
 obtain ⟨a1,n1,c1,rfl,H1,hm1⟩:=h.2.1.open
 go_enter Tryz.func142,Tryz.ntmps142
 go_wp2_with fail
 obtain ⟨W0,aG⟩:∃ W0,(w.alloc (.cells #[.bool b,.slice a0 n0 c0,.slice a1 n1 c1] 47)).alloc (.cells #[.bool false,.slice none 0 0,.slice none 0 0] 166)=W0:=⟨_,rfl⟩
 have am:=Lib.hid (show ∀ W',Below W0.heap.size W0 W'->(Bx3 W' w.heap.size (.bool b) (.slice a0 n0 c0) (.slice a1 n1 c1)/\Bx3 W' (w.heap.size+1) (.bool false) (.slice none 0 0) (.slice none 0 0)) from fun W' hb => by
   refine ⟨bx3 hb ?_ ?_ ?_ ?_ ?_ ?_,bx3 hb ?_ ?_ ?_ ?_ ?_ ?_⟩
   all_goals first|assumption|(rw [<- aG];simp [go_sem]))
 have zb:Below w.heap.size w W0:=by rw [<- aG];exact bS (bN _ _) (bN _ _)
 rw [aG]
 clear aG
 have i0:=h.to zb
 have gb:Below W0.heap.size W0 W0:=Below.refl _ _
 obtain ⟨⟨z0,ac,ae,af,ag,ah,al⟩,⟨z1,ay,az,aA,aB,aE,aH⟩⟩:=am.out _ gb
 refine (zdh b _ _ ln ld _ (i0.to gb) x rfl hs).mono ?_
 clear ac ag ae ah af al ay aB az aE aA aH
 rintro e w1 ⟨ng1,a1_,n1_,c1_,p1_,m1_,k1_,rfl,g1,aX⟩
 replace gb:=bS gb aX
 obtain ⟨⟨z0,ac,ae,af,ag,ah,al⟩,⟨z1,ay,az,aA,aB,aE,aH⟩⟩:=am.out _ gb
 go_wp2_with fail
 refine bodyPost_ret (zkP Tryz.results142 _ _ _ _ _ _ rfl (Tri.set (x0:=.bool false) (y0:=.slice none 0 0) (z0:=.slice none 0 0) ⟨ay,az,aA,aB,aE,aH⟩ _ _ _)) rfl (zdL (bS zb gb) (by omega) ?_ g1)
 omega

theorem zkM {x y:Rat} (b:Bool) (v u:Value) (ln ld:List Nat) (c:Bool) (v' u':Value) (ln' ld':List Nat) (w:World) (h:IsQ w b v u ln ld x) (h':IsQ w c v' u' ln' ld' y) (q:Rat) (hq:x*y=q) (hs:Hid (szq q<=1000)) :
  Calls Tryz.prog 119 #[aggR b v u,aggR c v' u'] w (zaf w q):=by
 have K1:=Lib.hid (show (zc (val ln*val ln')).length<=3000 by
  rw [zd];have:=zaA (val ln) (val ln');have:=zu h.1.1;have:=zu h'.1.1;have:=h.2.2.2.1;have:=h'.2.2.2.1;omega)
 have K2:=Lib.hid (show (zc (val ld*val ld')).length<=3000 by
  rw [zd];have:=zaA (val ld) (val ld');have:=zu h.2.1.1;have:=zu h'.2.1.1;have:=h.2.2.2.2;have:=h'.2.2.2.2;omega)
 have H9:=Lib.hid (show rat (!b == c) (val (zc (val ln*val ln'))) (val (zc (val ld*val ld')))=q by show rat (b != c) _ _=q;rw [vL,vL,<- zfp,h.2.2.1,h'.2.2.1,hq])
 obtain ⟨a0,n0,c0,rfl,H0,hm0⟩:=h.1.open
 obtain ⟨a1,n1,c1,rfl,H1,hm1⟩:=h.2.1.open
 obtain ⟨a2,n2,c2,rfl,H2,hm2⟩:=h'.1.open
 obtain ⟨a3,n3,c3,rfl,H3,hm3⟩:=h'.2.1.open
 clear hq
 go_enter Tryz.func119,Tryz.ntmps119
 go_wp2_with fail
 obtain ⟨W0,aG⟩:∃ W0,((w.alloc (.cells #[.bool b,.slice a0 n0 c0,.slice a1 n1 c1] 47)).alloc (.cells #[.bool c,.slice a2 n2 c2,.slice a3 n3 c3] 47)).alloc (.cells #[.bool false,.slice none 0 0,.slice none 0 0] 47)=W0:=⟨_,rfl⟩
 have am:=Lib.hid (show ∀ W',Below W0.heap.size W0 W'->(Bx3 W' w.heap.size (.bool b) (.slice a0 n0 c0) (.slice a1 n1 c1)/\Bx3 W' (w.heap.size+1) (.bool c) (.slice a2 n2 c2) (.slice a3 n3 c3)/\Bx3 W' (w.heap.size+1+1) (.bool false) (.slice none 0 0) (.slice none 0 0)) from fun W' hb => by
   refine ⟨bx3 hb ?_ ?_ ?_ ?_ ?_ ?_,bx3 hb ?_ ?_ ?_ ?_ ?_ ?_,bx3 hb ?_ ?_ ?_ ?_ ?_ ?_⟩
   all_goals first|assumption|(rw [<- aG];simp [go_sem]))
 have zb:Below w.heap.size w W0:=by rw [<- aG];exact bS (bS (bN _ _) (bN _ _)) (bN _ _)
 rw [aG]
 clear aG
 have i0:=h.to zb
 have i1:=h'.to zb
 have gb:Below W0.heap.size W0 W0:=Below.refl _ _
 obtain ⟨⟨z0,ac,ae,af,ag,ah,al⟩,⟨z1,ay,az,aA,aB,aE,aH⟩,⟨z2,bs,bt,b8,bP,bQ,cf⟩⟩:=am.out _ gb
 have nz0:w.heap.size≠w.heap.size+1+1:=by omega
 have nz1:w.heap.size+1≠w.heap.size+1+1:=by omega
 go_region_held3 (fun W' => W'.cell? ⟨w.heap.size,0,none⟩=some (.bool b)/\W'.cell? ⟨w.heap.size,1,none⟩=some (.slice a0 n0 c0)/\W'.cell? ⟨w.heap.size,2,none⟩=some (.slice a1 n1 c1)/\W'.cell? ⟨w.heap.size+1,0,none⟩=some (.bool c)/\W'.cell? ⟨w.heap.size+1,1,none⟩=some (.slice a2 n2 c2)/\W'.cell? ⟨w.heap.size+1,2,none⟩=some (.slice a3 n3 c3)) (first|(with_reducible exact ⟨ac,ae,af,ay,az,aA⟩)|(with_reducible exact ⟨cP (cP (cP (ac) (.inl nz0) _) (.inl nz0) _) (.inl nz0) _,cP (cP (cP (ae) (.inl nz0) _) (.inl nz0) _) (.inl nz0) _,cP (cP (cP (af) (.inl nz0) _) (.inl nz0) _) (.inl nz0) _,cP (cP (cP (ay) (.inl nz1) _) (.inl nz1) _) (.inl nz1) _,cP (cP (cP (az) (.inl nz1) _) (.inl nz1) _) (.inl nz1) _,cP (cP (cP (aA) (.inl nz1) _) (.inl nz1) _) (.inl nz1) _⟩)|exact ⟨ac,ae,af,ay,az,aA⟩) (first
  | (go_at_call 62;(with_reducible refine (zT (!b == c) _ _ _ _ _ g1.rd g2.rd K1.out K2.out q H9.out hs).mono ?_);rintro e w3 ⟨ng3,a3_,n3_,c3_,p3_,m3_,k3_,rfl,g3,bZ⟩;have g1:=g1.to bZ;have g2:=g2.to bZ;have gb:=bS gb bZ;obtain ⟨⟨z0,ac,ae,af,ag,ah,al⟩,⟨z1,ay,az,aA,aB,aE,aH⟩,⟨z2,bs,bt,b8,bP,bQ,cf⟩⟩:=am.out _ gb)
  | (go_at_call 147;(with_reducible refine (zbQ _ _ ld ld' _ (i0.to gb).dn (i1.to gb).dn (Nat.le_trans h.ldn (by omega)) (Nat.le_trans h'.ldn (by omega))).mono ?_);rintro e w2 ⟨v2,rfl,g2,aR⟩;obtain ⟨a2_,n2_,c2_,rfl,H2,hm2⟩:=g2.rd.open;have g1:=g1.to aR;have gb:=bS gb aR;obtain ⟨⟨z0,ac,ae,af,ag,ah,al⟩,⟨z1,ay,az,aA,aB,aE,aH⟩,⟨z2,bs,bt,b8,bP,bQ,cf⟩⟩:=am.out _ gb)
  | (go_at_call 147;have gb:=gb.drew;(with_reducible refine (zbQ _ _ ln ln' _ (i0.to gb).up (i1.to gb).up (Nat.le_trans h.lup (by omega)) (Nat.le_trans h'.lup (by omega))).mono ?_);rintro e w1 ⟨v1,rfl,g1,aX⟩;obtain ⟨a1_,n1_,c1_,rfl,H1,hm1⟩:=g1.rd.open;have gb:=bS gb aX;obtain ⟨⟨z0,ac,ae,af,ag,ah,al⟩,⟨z1,ay,az,aA,aB,aE,aH⟩,⟨z2,bs,bt,b8,bP,bQ,cf⟩⟩:=am.out _ gb))
 go_wp2_with fail
 refine bodyPost_ret (zW Tryz.results119 _ _ _ _ _ _ rfl (Tri.set (x0:=.bool false) (y0:=.slice none 0 0) (z0:=.slice none 0 0) ⟨bs,bt,b8,bP,bQ,cf⟩ _ _ _)) rfl (zdL (bS zb gb) (by omega) ?_ g3)
 omega

end Go.Proofs.YtkjcdnlpjldhaaaGreat


namespace Go.Proofs.YtkjcdnlpjldhaaaGreat
open Go.RowKit Tw
attribute [local go_sem ↓] Go.wp_at_zero Go.wp_at_succ

theorem zgI {x y:Rat} (b:Bool) (v u:Value) (ln ld:List Nat) (c:Bool) (v' u':Value) (ln' ld':List Nat) (w:World) (h:IsQ w b v u ln ld x) (h':IsQ w c v' u' ln' ld' y) (q:Rat) (hq:x+y=q) (hs:Hid (szq q<=1000)) :
  Calls Tryz.prog 117 #[aggR b v u,aggR c v' u'] w (zaf w q):=by
 have Hx:Hid (szq x<=1000):=zaF h
 have Hy:Hid (szq y<=1000):=zaF h'
 have S1:=Lib.hid (show szi (x.num*(y.den:Int))<=90000 from zdf Hx.out Hy.out)
 have S2:=Lib.hid (show szi (y.num*(x.den:Int))<=90000 from zdf Hy.out Hx.out)
 have S3:=Lib.hid (show szi (x.num*(y.den:Int)+y.num*(x.den:Int))<=2001 from sum_sz Hx.out Hy.out)
 have S4:=Lib.hid (show szi (x.num*(y.den:Int)+y.num*(x.den:Int))<=90000 from Nat.le_trans S3.out (by omega))
 have K2:=Lib.hid (show (zc (val (zc x.den)*val (zc y.den))).length<=3000 from den_sz Hx.out Hy.out)
 have H9:=Lib.hid (show ∀ ng,decide (x.num*(y.den:Int)+y.num*(x.den:Int)<0)=ng->rat ng (val (zc (x.num*(y.den:Int)+y.num*(x.den:Int)).natAbs)) (val (zc (val (zc x.den)*val (zc y.den))))=q from fun ng e => by
  rw [<- e,vL,vL,vL,vL,<- zeo,<- Rat.add_def',hq])
 obtain ⟨a0,n0,c0,rfl,H0,hm0⟩:=h.1.open
 obtain ⟨a1,n1,c1,rfl,H1,hm1⟩:=h.2.1.open
 obtain ⟨a2,n2,c2,rfl,H2,hm2⟩:=h'.1.open
 obtain ⟨a3,n3,c3,rfl,H3,hm3⟩:=h'.2.1.open
 clear hq
 go_enter Tryz.func117,Tryz.ntmps117
 go_wp2_with fail
 obtain ⟨W0,aG⟩:∃ W0,((w.alloc (.cells #[.bool b,.slice a0 n0 c0,.slice a1 n1 c1] 47)).alloc (.cells #[.bool c,.slice a2 n2 c2,.slice a3 n3 c3] 47)).alloc (.cells #[.bool false,.slice none 0 0,.slice none 0 0] 47)=W0:=⟨_,rfl⟩
 have am:=Lib.hid (show ∀ W',Below W0.heap.size W0 W'->(W'.cell? ⟨w.heap.size,0,none⟩=some (.bool b)/\W'.cell? ⟨w.heap.size,1,none⟩=some (.slice a0 n0 c0)/\W'.cell? ⟨w.heap.size,2,none⟩=some (.slice a1 n1 c1)/\W'.cell? ⟨w.heap.size+1,0,none⟩=some (.bool c)/\W'.cell? ⟨w.heap.size+1,1,none⟩=some (.slice a2 n2 c2)/\W'.cell? ⟨w.heap.size+1,2,none⟩=some (.slice a3 n3 c3)/\W'.cell? ⟨w.heap.size+1+1,0,none⟩=some (.bool false)/\W'.cell? ⟨w.heap.size+1+1,1,none⟩=some (.slice none 0 0)/\W'.cell? ⟨w.heap.size+1+1,2,none⟩=some (.slice none 0 0)) from fun W' hb =>
  by and_intros <;> exact kc hb (by first|assumption|(rw [<- aG];simp [go_sem])))
 have cx:=Lib.hid (show ∀ W',Below W0.heap.size W0 W'->(W'.frozen? ⟨w.heap.size,0,none⟩=false/\W'.frozen? ⟨w.heap.size,1,none⟩=false/\W'.frozen? ⟨w.heap.size,2,none⟩=false/\W'.frozen? ⟨w.heap.size+1,0,none⟩=false/\W'.frozen? ⟨w.heap.size+1,1,none⟩=false/\W'.frozen? ⟨w.heap.size+1,2,none⟩=false/\W'.frozen? ⟨w.heap.size+1+1,0,none⟩=false/\W'.frozen? ⟨w.heap.size+1+1,1,none⟩=false/\W'.frozen? ⟨w.heap.size+1+1,2,none⟩=false) from fun W' hb =>
  by and_intros <;> refine (hb.frozen ?_).trans ?_ <;> first|assumption|(rw [<- aG];simp [go_sem])|(rw [<- aG];simp <;> omega))
 have cy:=Lib.hid (show ∀ W',Below W0.heap.size W0 W'->(w.heap.size<W'.heap.size/\w.heap.size+1<W'.heap.size/\w.heap.size+1+1<W'.heap.size) from fun W' hb =>
  by and_intros <;> refine Nat.lt_of_lt_of_le ?_ hb.size <;> first|assumption|(rw [<- aG];simp <;> omega))
 have zb:Below w.heap.size w W0:=by rw [<- aG];exact bS (bS (bN _ _) (bN _ _)) (bN _ _)
 rw [aG]
 clear aG
 have i0:=h.to zb
 have i1:=h'.to zb
 have gb:Below W0.heap.size W0 W0:=Below.refl _ _
 obtain ⟨ac,ae,af,ay,az,aA,bs,bt,b8⟩:=am.out _ gb
 obtain ⟨ag,ah,al,aB,aE,aH,bP,bQ,cf⟩:=cx.out _ gb
 obtain ⟨z0,z1,z2⟩:=cy.out _ gb
 have hgb:=gb
 go_upto_region 1 with fail
 go_cut [5,6] from 8 (fun s5 s6 wx => zbH W0 (x) s5 wx/\zbH W0 (y) s6 wx)
 case first =>
  go_region_held3 (fun W' => W'.cell? ⟨w.heap.size,0,none⟩=some (.bool b)/\W'.cell? ⟨w.heap.size,1,none⟩=some (.slice a0 n0 c0)/\W'.cell? ⟨w.heap.size,2,none⟩=some (.slice a1 n1 c1)/\W'.cell? ⟨w.heap.size+1,0,none⟩=some (.bool c)/\W'.cell? ⟨w.heap.size+1,1,none⟩=some (.slice a2 n2 c2)/\W'.cell? ⟨w.heap.size+1,2,none⟩=some (.slice a3 n3 c3)/\W'.cell? ⟨w.heap.size+1+1,0,none⟩=some (.bool false)/\W'.cell? ⟨w.heap.size+1+1,1,none⟩=some (.slice none 0 0)/\W'.cell? ⟨w.heap.size+1+1,2,none⟩=some (.slice none 0 0)) (with_reducible first|(exact am.out _ gb)|((refine am.out _ ?_);first|((refine Below.drew ?_);first|(exact gb)|((refine bT ?_ ?_ _ _ _);rotate_left;(first|(exact aL)|(exact aP)|(exact aM)|(exact aQ));first|(exact gb)|((refine bT ?_ ?_ _ _ _);rotate_left;(first|(exact aL)|(exact aP)|(exact aM)|(exact aQ));exact gb)|((refine bS ?_ (bN _ _));exact gb))|((refine bS ?_ (bN _ _));first|(exact gb)|((refine bT ?_ ?_ _ _ _);rotate_left;(first|(exact aL)|(exact aP)|(exact aM)|(exact aQ));exact gb)|((refine bS ?_ (bN _ _));exact gb)))|(first|(exact gb)|((refine bT ?_ ?_ _ _ _);rotate_left;(first|(exact aL)|(exact aP)|(exact aM)|(exact aQ));first|(exact gb)|((refine bT ?_ ?_ _ _ _);rotate_left;(first|(exact aL)|(exact aP)|(exact aM)|(exact aQ));first|(exact gb)|((refine bT ?_ ?_ _ _ _);rotate_left;(first|(exact aL)|(exact aP)|(exact aM)|(exact aQ));first|(exact gb)|((refine bT ?_ ?_ _ _ _);rotate_left;(first|(exact aL)|(exact aP)|(exact aM)|(exact aQ));exact gb)|((refine bS ?_ (bN _ _));exact gb))|((refine bS ?_ (bN _ _));first|(exact gb)|((refine bT ?_ ?_ _ _ _);rotate_left;(first|(exact aL)|(exact aP)|(exact aM)|(exact aQ));exact gb)|((refine bS ?_ (bN _ _));exact gb)))|((refine bS ?_ (bN _ _));first|(exact gb)|((refine bT ?_ ?_ _ _ _);rotate_left;(first|(exact aL)|(exact aP)|(exact aM)|(exact aQ));first|(exact gb)|((refine bT ?_ ?_ _ _ _);rotate_left;(first|(exact aL)|(exact aP)|(exact aM)|(exact aQ));exact gb)|((refine bS ?_ (bN _ _));exact gb))|((refine bS ?_ (bN _ _));first|(exact gb)|((refine bT ?_ ?_ _ _ _);rotate_left;(first|(exact aL)|(exact aP)|(exact aM)|(exact aQ));exact gb)|((refine bS ?_ (bN _ _));exact gb))))|((refine bS ?_ (bN _ _));first|(exact gb)|((refine bT ?_ ?_ _ _ _);rotate_left;(first|(exact aL)|(exact aP)|(exact aM)|(exact aQ));first|(exact gb)|((refine bT ?_ ?_ _ _ _);rotate_left;(first|(exact aL)|(exact aP)|(exact aM)|(exact aQ));first|(exact gb)|((refine bT ?_ ?_ _ _ _);rotate_left;(first|(exact aL)|(exact aP)|(exact aM)|(exact aQ));exact gb)|((refine bS ?_ (bN _ _));exact gb))|((refine bS ?_ (bN _ _));first|(exact gb)|((refine bT ?_ ?_ _ _ _);rotate_left;(first|(exact aL)|(exact aP)|(exact aM)|(exact aQ));exact gb)|((refine bS ?_ (bN _ _));exact gb)))|((refine bS ?_ (bN _ _));first|(exact gb)|((refine bT ?_ ?_ _ _ _);rotate_left;(first|(exact aL)|(exact aP)|(exact aM)|(exact aQ));first|(exact gb)|((refine bT ?_ ?_ _ _ _);rotate_left;(first|(exact aL)|(exact aP)|(exact aM)|(exact aQ));exact gb)|((refine bS ?_ (bN _ _));exact gb))|((refine bS ?_ (bN _ _));first|(exact gb)|((refine bT ?_ ?_ _ _ _);rotate_left;(first|(exact aL)|(exact aP)|(exact aM)|(exact aQ));exact gb)|((refine bS ?_ (bN _ _));exact gb))))))) (first
   | (go_at_call 142;(refine zf w1 (by with_reducible first|exact Below.refl _ _|exact bN _ _|exact bS (bN _ _) (bN _ _)) ?_);intro V2 dq b6;have ek:=b6.size;have dH:=gb.size;have g1:=g1.to b6;have gb:=bS gb b6;(try have ak:=ak.to b6);(try have bh:=bh.to b6);(try have aN:Tri V2 (w1.heap.size) (.bool false) (.slice none 0 0) (.slice none 0 0):=(by rw [dq];with_reducible first|exact ze _ (.bool false) (.slice none 0 0) (.slice none 0 0) _|exact (ze _ (.bool false) (.slice none 0 0) (.slice none 0 0) _).alloc _));have aM:W0.heap.size<=w1.heap.size:=(dH);have bm:w1.heap.size<=w1.heap.size:=(Nat.le_refl _);(try have bY:Tri V2 (w1.heap.size+1) (.bool false) (.slice none 0 0) (.slice none 0 0):=(by rw [dq];first|with_reducible exact zal _ _ (.bool false) (.slice none 0 0) (.slice none 0 0) _));have aQ:W0.heap.size<=w1.heap.size+1:=(Nat.le_succ_of_le dH);have bn:w1.heap.size<=w1.heap.size+1:=(Nat.le_succ _);(try have aS:=ak.lt);(try have bL:=bh.lt);(try have aT:=aN.lt);(try have bM:=bY.lt);(with_reducible refine (zbm c _ _ ln' ld' _ (i1.to gb) Hy).mono ?_);rintro e w2 ⟨ng2,a2_,n2_,c2_,p2_,m2_,k2_,rfl,g2,aR⟩;have g1:=g1.to aR;have gb:=bS gb aR;have dR:=aR.size;(try have ak:=ak.to aR);(try have bh:=bh.to aR);(try have aN:=aN.to aR);(try have bY:=bY.to aR);(try have cg:=ak.lt);(try have eU:=bh.lt);(try have ch:=aN.lt);(try have eV:=bY.lt);(try (have aW:=ak;obtain ⟨bv,bw,bx,bA,bB,bC⟩:=aW));(try (have c9:=bh;obtain ⟨dT,dU,dV,dW,dX,dY⟩:=c9));(try (have b7:=aN;obtain ⟨cA,cB,cE,cF,cG,cH⟩:=b7));(try (have eA:=bY;obtain ⟨fs,ft,fu,fw,fx,fy⟩:=eA)))
   | (go_at_call 142;(refine zf W0 (by with_reducible first|exact (Below.refl _ _).drew|exact (bN _ _).drew|exact (bS (bN _ _) (bN _ _)).drew) ?_);intro V1 dt cq;have ej:=cq.size;have dc:=gb.size;have gb:=bS gb cq;(try have ak:Tri V1 (W0.heap.size) (.bool false) (.slice none 0 0) (.slice none 0 0):=(by rw [dt];with_reducible first|exact (ze _ (.bool false) (.slice none 0 0) (.slice none 0 0) _).drew|exact ((ze _ (.bool false) (.slice none 0 0) (.slice none 0 0) _).alloc _).drew));have aL:W0.heap.size<=W0.heap.size:=(dc);(try have bh:Tri V1 (W0.heap.size+1) (.bool false) (.slice none 0 0) (.slice none 0 0):=(by rw [dt];first|with_reducible exact (zal _ _ (.bool false) (.slice none 0 0) (.slice none 0 0) _).drew));have aP:W0.heap.size<=W0.heap.size+1:=(Nat.le_succ_of_le dc);(try have bf:=ak.lt);(try have bK:=bh.lt);(with_reducible refine (zbm b _ _ ln ld _ (i0.to gb) Hx).mono ?_);rintro e w1 ⟨ng1,a1_,n1_,c1_,p1_,m1_,k1_,rfl,g1,aX⟩;have gb:=bS gb aX;have dI:=aX.size;(try have ak:=ak.to aX);(try have bh:=bh.to aX);(try have bu:=ak.lt);(try have cm:=bh.lt);(try (have aW:=ak;obtain ⟨bv,bw,bx,bA,bB,bC⟩:=aW));(try (have c9:=bh;obtain ⟨dT,dU,dV,dW,dX,dY⟩:=c9))))
  all_goals (go_wp2_with fail;go_meet)
  all_goals first
   | (with_reducible exact zk ak bh (Nat.ne_of_lt (Nat.lt_succ_self _)) g1 g2 (.inl bf) (.inl bK) (.inl aS) (.inl bL) gb aL aP)
   | (with_reducible exact zk ak aN (Nat.ne_of_lt bu) g1 g2 (.inl bf) (.inr bm) (.inl aS) (.inl aT) gb aL aM)
   | (with_reducible exact zk ak bY (Nat.ne_of_lt (Nat.lt_succ_of_lt bu)) g1 g2 (.inl bf) (.inr bn) (.inl aS) (.inl bM) gb aL aQ)
   | (with_reducible exact zk bh ak ((Nat.ne_of_lt (Nat.lt_succ_self _)).symm) g1 g2 (.inl bK) (.inl bf) (.inl bL) (.inl aS) gb aP aL)
   | (with_reducible exact zk bh aN (Nat.ne_of_lt cm) g1 g2 (.inl bK) (.inr bm) (.inl bL) (.inl aT) gb aP aM)
   | (with_reducible exact zk bh bY (Nat.ne_of_lt (Nat.lt_succ_of_lt cm)) g1 g2 (.inl bK) (.inr bn) (.inl bL) (.inl bM) gb aP aQ)
   | (with_reducible exact zk aN ak ((Nat.ne_of_lt bu).symm) g1 g2 (.inr bm) (.inl bf) (.inl aT) (.inl aS) gb aM aL)
   | (with_reducible exact zk aN bh ((Nat.ne_of_lt cm).symm) g1 g2 (.inr bm) (.inl bK) (.inl aT) (.inl bL) gb aM aP)
   | (with_reducible exact zk aN bY (Nat.ne_of_lt (Nat.lt_succ_self _)) g1 g2 (.inr bm) (.inr bn) (.inl aT) (.inl bM) gb aM aQ)
   | (with_reducible exact zk bY ak ((Nat.ne_of_lt (Nat.lt_succ_of_lt bu)).symm) g1 g2 (.inr bn) (.inl bf) (.inl bM) (.inl aS) gb aQ aL)
   | (with_reducible exact zk bY bh ((Nat.ne_of_lt (Nat.lt_succ_of_lt cm)).symm) g1 g2 (.inr bn) (.inl bK) (.inl bM) (.inl bL) gb aQ aP)
   | (with_reducible exact zk bY aN ((Nat.ne_of_lt (Nat.lt_succ_self _)).symm) g1 g2 (.inr bn) (.inr bm) (.inl bM) (.inl aT) gb aQ aM)
   | (with_reducible exact zt ak g1 g2 (.inl bf) (.inl aS) gb aL)
   | (with_reducible exact (zt ak g2 g1 (.inl aS) (.inl bf) gb aL).symm)
   | (with_reducible exact zt bh g1 g2 (.inl bK) (.inl bL) gb aP)
   | (with_reducible exact (zt bh g2 g1 (.inl bL) (.inl bK) gb aP).symm)
   | (with_reducible exact zt aN g1 g2 (.inr bm) (.inl aT) gb aM)
   | (with_reducible exact (zt aN g2 g1 (.inl aT) (.inr bm) gb aM).symm)
   | (with_reducible exact zt bY g1 g2 (.inr bn) (.inl bM) gb aQ)
   | (with_reducible exact (zt bY g2 g1 (.inl bM) (.inr bn) gb aQ).symm)
   | (with_reducible exact zbL g1 g2 gb)
   | (with_reducible exact (zbL g2 g1 gb).symm)
 case rest =>
 obtain ⟨⟨B5,ng1,a1_,n1_,c1_,p1_,m1_,k1_,lo5,hi5,rfl,hB5,T5,g1,hc5⟩,⟨B6,ng2,a2_,n2_,c2_,p2_,m2_,k2_,lo6,hi6,rfl,hB6,T6,g2,hc6⟩⟩:=hcut
 clear ac ag ae ah af al ay aB az aE aA aH bs bP bt bQ b8 cf
 have gb:=hc5
 obtain ⟨ac,ae,af,ay,az,aA,bs,bt,b8⟩:=am.out _ gb
 obtain ⟨ag,ah,al,aB,aE,aH,bP,bQ,cf⟩:=cx.out _ gb
 obtain ⟨z0,z1,z2⟩:=cy.out _ gb
 have z5:=T5.lt
 obtain ⟨bE,bH,bJ,bV,bW,bX⟩:=T5
 have z6:=T6.lt
 obtain ⟨ci,ck,cI,cL,cM,cO⟩:=T6
 clear hgb
 obtain ⟨W1,aO⟩:∃ W,wc=W:=⟨_,rfl⟩
 subst aO
 replace i0:=i0.to gb
 replace i1:=i1.to gb
 replace zb:=bS zb gb
 have HXwc:=Lib.hid (show ∀ W',Below wc.heap.size wc W'->(W'.cell? ⟨w.heap.size,0,none⟩=some (.bool b)/\W'.cell? ⟨w.heap.size,1,none⟩=some (.slice a0 n0 c0)/\W'.cell? ⟨w.heap.size,2,none⟩=some (.slice a1 n1 c1)/\W'.cell? ⟨w.heap.size+1,0,none⟩=some (.bool c)/\W'.cell? ⟨w.heap.size+1,1,none⟩=some (.slice a2 n2 c2)/\W'.cell? ⟨w.heap.size+1,2,none⟩=some (.slice a3 n3 c3)/\W'.cell? ⟨w.heap.size+1+1,0,none⟩=some (.bool false)/\W'.cell? ⟨w.heap.size+1+1,1,none⟩=some (.slice none 0 0)/\W'.cell? ⟨w.heap.size+1+1,2,none⟩=some (.slice none 0 0)/\W'.cell? ⟨B5,0,none⟩=some (.bool ng1)/\W'.cell? ⟨B5,1,none⟩=some (.slice a1_ n1_ c1_)/\W'.cell? ⟨B5,2,none⟩=some (.slice p1_ m1_ k1_)/\W'.cell? ⟨B6,0,none⟩=some (.bool ng2)/\W'.cell? ⟨B6,1,none⟩=some (.slice a2_ n2_ c2_)/\W'.cell? ⟨B6,2,none⟩=some (.slice p2_ m2_ k2_)) from fun W' hb =>
  by and_intros <;> exact kc hb (by first|assumption|assumption))
 have HYwc:=Lib.hid (show ∀ W',Below wc.heap.size wc W'->(W'.frozen? ⟨w.heap.size,0,none⟩=false/\W'.frozen? ⟨w.heap.size,1,none⟩=false/\W'.frozen? ⟨w.heap.size,2,none⟩=false/\W'.frozen? ⟨w.heap.size+1,0,none⟩=false/\W'.frozen? ⟨w.heap.size+1,1,none⟩=false/\W'.frozen? ⟨w.heap.size+1,2,none⟩=false/\W'.frozen? ⟨w.heap.size+1+1,0,none⟩=false/\W'.frozen? ⟨w.heap.size+1+1,1,none⟩=false/\W'.frozen? ⟨w.heap.size+1+1,2,none⟩=false/\W'.frozen? ⟨B5,0,none⟩=false/\W'.frozen? ⟨B5,1,none⟩=false/\W'.frozen? ⟨B5,2,none⟩=false/\W'.frozen? ⟨B6,0,none⟩=false/\W'.frozen? ⟨B6,1,none⟩=false/\W'.frozen? ⟨B6,2,none⟩=false) from fun W' hb =>
  by and_intros <;> refine (hb.frozen ?_).trans ?_ <;> first|assumption|assumption)
 have HZwc:=Lib.hid (show ∀ W',Below wc.heap.size wc W'->(w.heap.size<W'.heap.size/\w.heap.size+1<W'.heap.size/\w.heap.size+1+1<W'.heap.size/\B5<W'.heap.size/\B6<W'.heap.size) from fun W' hb =>
  by and_intros <;> refine Nat.lt_of_lt_of_le ?_ hb.size <;> first|assumption)
 replace gb:=Below.refl wc.heap.size wc
 go_wp2_with fail
 have hgb:=gb
 go_upto_region 2 with fail
 go_cut [7] from 12 (fun s7 wx => BoxC wc (x.num*(y.den:Int)+y.num*(x.den:Int)) s7 wx)
 case first =>
  go_region_held3 (fun W' => W'.cell? ⟨w.heap.size,0,none⟩=some (.bool b)/\W'.cell? ⟨w.heap.size,1,none⟩=some (.slice a0 n0 c0)/\W'.cell? ⟨w.heap.size,2,none⟩=some (.slice a1 n1 c1)/\W'.cell? ⟨w.heap.size+1,0,none⟩=some (.bool c)/\W'.cell? ⟨w.heap.size+1,1,none⟩=some (.slice a2 n2 c2)/\W'.cell? ⟨w.heap.size+1,2,none⟩=some (.slice a3 n3 c3)/\W'.cell? ⟨w.heap.size+1+1,0,none⟩=some (.bool false)/\W'.cell? ⟨w.heap.size+1+1,1,none⟩=some (.slice none 0 0)/\W'.cell? ⟨w.heap.size+1+1,2,none⟩=some (.slice none 0 0)/\W'.cell? ⟨B5,0,none⟩=some (.bool ng1)/\W'.cell? ⟨B5,1,none⟩=some (.slice a1_ n1_ c1_)/\W'.cell? ⟨B5,2,none⟩=some (.slice p1_ m1_ k1_)/\W'.cell? ⟨B6,0,none⟩=some (.bool ng2)/\W'.cell? ⟨B6,1,none⟩=some (.slice a2_ n2_ c2_)/\W'.cell? ⟨B6,2,none⟩=some (.slice p2_ m2_ k2_)) (with_reducible first|(exact HXwc.out _ gb)|((refine HXwc.out _ ?_);first|((refine Below.drew ?_);first|(exact gb)|((refine bD ?_ ?_ _ _);rotate_left;(first|(exact dJ)|(exact dK)|(exact dL)|(exact dM)|(exact dO)|(exact dP)|(exact dQ));exact gb)|((refine bS ?_ (bN _ _));exact gb))|(first|(exact gb)|((refine bD ?_ ?_ _ _);rotate_left;(first|(exact dJ)|(exact dK)|(exact dL)|(exact dM)|(exact dO)|(exact dP)|(exact dQ));first|(exact gb)|((refine bD ?_ ?_ _ _);rotate_left;(first|(exact dJ)|(exact dK)|(exact dL)|(exact dM)|(exact dO)|(exact dP)|(exact dQ));exact gb)|((refine bS ?_ (bN _ _));exact gb))|((refine bS ?_ (bN _ _));first|(exact gb)|((refine bD ?_ ?_ _ _);rotate_left;(first|(exact dJ)|(exact dK)|(exact dL)|(exact dM)|(exact dO)|(exact dP)|(exact dQ));exact gb)|((refine bS ?_ (bN _ _));exact gb))))) (first
   | (go_at_call 143;(refine zf w16 (by with_reducible first|exact Below.refl _ _|exact bN _ _) ?_);intro V17 kC et;have hsV17:=et.size;have kS:=gb.size;have g13:=g13.to et;have g16:=g16.to et;have gb:=bS gb et;(try have bl:=bl.to et);(try have bo:=bo.to et);(try have bU:=bU.to et);(try have ce:=ce.to et);(try have cn:=cn.to et);(try have cU:=cU.to et);(try have d8:Duo V17 (w16.heap.size) (.bool false) (.slice none 0 0):=(by rw [kC];with_reducible first|exact zC _ (.bool false) (.slice none 0 0) _|exact (zC _ (.bool false) (.slice none 0 0) _).alloc _));have dQ:wc.heap.size<=w16.heap.size:=(kS);(try have fz:=bl.lt);(try have fA:=bo.lt);(try have fB:=bU.lt);(try have fC:=ce.lt);(try have fD:=cn.lt);(try have fE:=cU.lt);(try have fF:=d8.lt);(with_reducible refine (add_c _ g13.isI g16.isI (x.num*(y.den:Int)+y.num*(x.den:Int)) rfl S4).mono ?_);rintro e w17 ⟨ng17,a17_,n17_,c17_,rfl,g17,dB⟩;have g13:=g13.to dB;have g16:=g16.to dB;have gb:=bS gb dB;have hs17:=dB.size;(try have bl:=bl.to dB);(try have bo:=bo.to dB);(try have bU:=bU.to dB);(try have ce:=ce.to dB);(try have cn:=cn.to dB);(try have cU:=cU.to dB);(try have d8:=d8.to dB);(try have lt11_I_0_17:=bl.lt);(try have lt12_I_0_17:=bo.lt);(try have lt13_I_0_17:=bU.lt);(try have lt14_I_0_17:=ce.lt);(try have lt15_I_0_17:=cn.lt);(try have lt16_I_0_17:=cU.lt);(try have lt17_I_0_17:=d8.lt);(try (have cN:=bl;obtain ⟨di,dj,dk,dl⟩:=cN));(try (have cR:=bo;obtain ⟨dv,dw,dx,dy⟩:=cR));(try (have c8:=bU;obtain ⟨dZ,d5,d6,d7⟩:=c8));(try (have dm:=ce;obtain ⟨eD,eF,eH,eJ⟩:=dm));(try (have dS:=cn;obtain ⟨eW,eX,eY,eZ⟩:=dS));(try (have eO:=cU;obtain ⟨fL,fM,fO,fP⟩:=eO));(try (have fX:=d8;obtain ⟨rt17_I_00,rt17_I_01,st17_I_00,st17_I_01⟩:=fX)))
   | (go_at_call 144;(refine zf w15 (by with_reducible first|exact Below.refl _ _|exact bN _ _) ?_);intro V16 kB eK;have hsV16:=eK.size;have kR:=gb.size;have g13:=g13.to eK;have gb:=bS gb eK;(try have bl:=bl.to eK);(try have bo:=bo.to eK);(try have bU:=bU.to eK);(try have ce:=ce.to eK);(try have cn:=cn.to eK);(try have cU:Duo V16 (w15.heap.size) (.bool false) (.slice none 0 0):=(by rw [kB];with_reducible first|exact zC _ (.bool false) (.slice none 0 0) _|exact (zC _ (.bool false) (.slice none 0 0) _).alloc _));have dP:wc.heap.size<=w15.heap.size:=(kR);(try have vt11_I_0_16:=bl.lt);(try have vt12_I_0_16:=bo.lt);(try have vt13_I_0_16:=bU.lt);(try have vt14_I_0_16:=ce.lt);(try have vt15_I_0_16:=cn.lt);(try have vt16_I_0_16:=cU.lt);(with_reducible refine (zgF _ (g2.to gb).above (g1.to gb).below (y.num*(x.den:Int)) rfl S2).mono ?_);rintro e w16 ⟨ng16,a16_,n16_,c16_,rfl,g16,eu⟩;have g13:=g13.to eu;have gb:=bS gb eu;have hs16:=eu.size;(try have bl:=bl.to eu);(try have bo:=bo.to eu);(try have bU:=bU.to eu);(try have ce:=ce.to eu);(try have cn:=cn.to eu);(try have cU:=cU.to eu);(try have lt11_I_0_16:=bl.lt);(try have lt12_I_0_16:=bo.lt);(try have lt13_I_0_16:=bU.lt);(try have lt14_I_0_16:=ce.lt);(try have lt15_I_0_16:=cn.lt);(try have lt16_I_0_16:=cU.lt);(try (have cN:=bl;obtain ⟨di,dj,dk,dl⟩:=cN));(try (have cR:=bo;obtain ⟨dv,dw,dx,dy⟩:=cR));(try (have c8:=bU;obtain ⟨dZ,d5,d6,d7⟩:=c8));(try (have dm:=ce;obtain ⟨eD,eF,eH,eJ⟩:=dm));(try (have dS:=cn;obtain ⟨eW,eX,eY,eZ⟩:=dS));(try (have eO:=cU;obtain ⟨fL,fM,fO,fP⟩:=eO)))
   | (go_at_call 146;(refine zf w14 (by with_reducible first|exact Below.refl _ _|exact bN _ _) ?_);intro V15 kA eM;have hsV15:=eM.size;have kQ:=gb.size;have g13:=g13.to eM;have gb:=bS gb eM;(try have bl:=bl.to eM);(try have bo:=bo.to eM);(try have bU:=bU.to eM);(try have ce:=ce.to eM);(try have cn:Duo V15 (w14.heap.size) (.bool false) (.slice none 0 0):=(by rw [kA];with_reducible first|exact zC _ (.bool false) (.slice none 0 0) _|exact (zC _ (.bool false) (.slice none 0 0) _).alloc _));have dO:wc.heap.size<=w14.heap.size:=(kQ);(try have vt11_I_0_15:=bl.lt);(try have vt12_I_0_15:=bo.lt);(try have vt13_I_0_15:=bU.lt);(try have vt14_I_0_15:=ce.lt);(try have vt15_I_0_15:=cn.lt);(with_reducible refine (zbh _ _ _ _ _ _ (g1.to gb).isQ).mono ?_);rintro e w15 ⟨rfl,ez⟩;have g13:=g13.to ez;have gb:=bS gb ez;have hs15:=ez.size;(try have bl:=bl.to ez);(try have bo:=bo.to ez);(try have bU:=bU.to ez);(try have ce:=ce.to ez);(try have cn:=cn.to ez);(try have lt11_I_0_15:=bl.lt);(try have lt12_I_0_15:=bo.lt);(try have lt13_I_0_15:=bU.lt);(try have lt14_I_0_15:=ce.lt);(try have lt15_I_0_15:=cn.lt);(try (have cN:=bl;obtain ⟨di,dj,dk,dl⟩:=cN));(try (have cR:=bo;obtain ⟨dv,dw,dx,dy⟩:=cR));(try (have c8:=bU;obtain ⟨dZ,d5,d6,d7⟩:=c8));(try (have dm:=ce;obtain ⟨eD,eF,eH,eJ⟩:=dm));(try (have dS:=cn;obtain ⟨eW,eX,eY,eZ⟩:=dS)))
   | (go_at_call 145;(refine zf w13 (by with_reducible first|exact Below.refl _ _|exact bN _ _) ?_);intro V14 kz eQ;have hsV14:=eQ.size;have kP:=gb.size;have g13:=g13.to eQ;have gb:=bS gb eQ;(try have bl:=bl.to eQ);(try have bo:=bo.to eQ);(try have bU:=bU.to eQ);(try have ce:Duo V14 (w13.heap.size) (.bool false) (.slice none 0 0):=(by rw [kz];with_reducible first|exact zC _ (.bool false) (.slice none 0 0) _|exact (zC _ (.bool false) (.slice none 0 0) _).alloc _));have dM:wc.heap.size<=w13.heap.size:=(kP);(try have vt11_I_0_14:=bl.lt);(try have vt12_I_0_14:=bo.lt);(try have vt13_I_0_14:=bU.lt);(try have vt14_I_0_14:=ce.lt);(with_reducible refine (zbg _ _ _ _ _ _ (g2.to gb).isQ).mono ?_);rintro e w14 ⟨rfl,eB⟩;have g13:=g13.to eB;have gb:=bS gb eB;have hs14:=eB.size;(try have bl:=bl.to eB);(try have bo:=bo.to eB);(try have bU:=bU.to eB);(try have ce:=ce.to eB);(try have lt11_I_0_14:=bl.lt);(try have lt12_I_0_14:=bo.lt);(try have lt13_I_0_14:=bU.lt);(try have lt14_I_0_14:=ce.lt);(try (have cN:=bl;obtain ⟨di,dj,dk,dl⟩:=cN));(try (have cR:=bo;obtain ⟨dv,dw,dx,dy⟩:=cR));(try (have c8:=bU;obtain ⟨dZ,d5,d6,d7⟩:=c8));(try (have dm:=ce;obtain ⟨eD,eF,eH,eJ⟩:=dm)))
   | (go_at_call 144;(refine zf w12 (by with_reducible first|exact Below.refl _ _|exact bN _ _) ?_);intro V13 ky fJ;have hsV13:=fJ.size;have kO:=gb.size;have gb:=bS gb fJ;(try have bl:=bl.to fJ);(try have bo:=bo.to fJ);(try have bU:Duo V13 (w12.heap.size) (.bool false) (.slice none 0 0):=(by rw [ky];with_reducible first|exact zC _ (.bool false) (.slice none 0 0) _|exact (zC _ (.bool false) (.slice none 0 0) _).alloc _));have dL:wc.heap.size<=w12.heap.size:=(kO);(try have vt11_I_0_13:=bl.lt);(try have vt12_I_0_13:=bo.lt);(try have vt13_I_0_13:=bU.lt);(with_reducible refine (zgF _ (g1.to gb).above (g2.to gb).below (x.num*(y.den:Int)) rfl S1).mono ?_);rintro e w13 ⟨ng13,a13_,n13_,c13_,rfl,g13,eL⟩;have gb:=bS gb eL;have hs13:=eL.size;(try have bl:=bl.to eL);(try have bo:=bo.to eL);(try have bU:=bU.to eL);(try have lt11_I_0_13:=bl.lt);(try have lt12_I_0_13:=bo.lt);(try have lt13_I_0_13:=bU.lt);(try (have cN:=bl;obtain ⟨di,dj,dk,dl⟩:=cN));(try (have cR:=bo;obtain ⟨dv,dw,dx,dy⟩:=cR));(try (have c8:=bU;obtain ⟨dZ,d5,d6,d7⟩:=c8)))
   | (go_at_call 146;(refine zf w11 (by with_reducible first|exact Below.refl _ _|exact bN _ _) ?_);intro V12 kx fV;have hsV12:=fV.size;have kN:=gb.size;have gb:=bS gb fV;(try have bl:=bl.to fV);(try have bo:Duo V12 (w11.heap.size) (.bool false) (.slice none 0 0):=(by rw [kx];with_reducible first|exact zC _ (.bool false) (.slice none 0 0) _|exact (zC _ (.bool false) (.slice none 0 0) _).alloc _));have dK:wc.heap.size<=w11.heap.size:=(kN);(try have vt11_I_0_12:=bl.lt);(try have vt12_I_0_12:=bo.lt);(with_reducible refine (zbh _ _ _ _ _ _ (g2.to gb).isQ).mono ?_);rintro e w12 ⟨rfl,dp⟩;have gb:=bS gb dp;have hs12:=dp.size;(try have bl:=bl.to dp);(try have bo:=bo.to dp);(try have lt11_I_0_12:=bl.lt);(try have lt12_I_0_12:=bo.lt);(try (have cN:=bl;obtain ⟨di,dj,dk,dl⟩:=cN));(try (have cR:=bo;obtain ⟨dv,dw,dx,dy⟩:=cR)))
   | (go_at_call 145;(refine zf wc (by with_reducible first|exact (Below.refl _ _).drew|exact (bN _ _).drew) ?_);intro V11 kw gS;have hsV11:=gS.size;have kM:=gb.size;have gb:=bS gb gS;(try have bl:Duo V11 (wc.heap.size) (.bool false) (.slice none 0 0):=(by rw [kw];with_reducible first|exact (zC _ (.bool false) (.slice none 0 0) _).drew|exact ((zC _ (.bool false) (.slice none 0 0) _).alloc _).drew));have dJ:wc.heap.size<=wc.heap.size:=(kM);(try have vt11_I_0_11:=bl.lt);(with_reducible refine (zbg _ _ _ _ _ _ (g1.to gb).isQ).mono ?_);rintro e w11 ⟨rfl,fH⟩;have gb:=bS gb fH;have hs11:=fH.size;(try have bl:=bl.to fH);(try have lt11_I_0_11:=bl.lt);(try (have cN:=bl;obtain ⟨di,dj,dk,dl⟩:=cN))))
  all_goals (go_wp2_with fail;go_meet)
  all_goals first
   | (with_reducible exact zbR bl g17 (.inl fz) gb dJ)
   | (with_reducible exact zbR bo g17 (.inl fA) gb dK)
   | (with_reducible exact zbR bU g17 (.inl fB) gb dL)
   | (with_reducible exact zbR ce g17 (.inl fC) gb dM)
   | (with_reducible exact zbR cn g17 (.inl fD) gb dO)
   | (with_reducible exact zbR cU g17 (.inl fE) gb dP)
   | (with_reducible exact zbR d8 g17 (.inl fF) gb dQ)
   | (with_reducible exact boxC_new g17 gb)
 case rest =>
 obtain ⟨B7,ng17,a17_,n17_,c17_,lo7,hi7,rfl,hB7,T7,g17,hc7⟩:=hcut
 clear ac ag ae ah af al ay aB az aE aA aH bs bP bt bQ b8 cf bE bV bH bW bJ bX ci cL ck cM cI cO
 have gb:=hc7
 obtain ⟨ac,ae,af,ay,az,aA,bs,bt,b8,bE,bH,bJ,ci,ck,cI⟩:=HXwc.out _ gb
 obtain ⟨ag,ah,al,aB,aE,aH,bP,bQ,cf,bV,bW,bX,cL,cM,cO⟩:=HYwc.out _ gb
 obtain ⟨z0,z1,z2,z5,z6⟩:=HZwc.out _ gb
 have z7:=T7.lt
 obtain ⟨gG,gH,kr,ks⟩:=T7
 clear hgb
 obtain ⟨W2,ds⟩:∃ W,wc=W:=⟨_,rfl⟩
 subst ds
 replace i0:=i0.to gb
 replace i1:=i1.to gb
 replace g1:=g1.to gb
 replace g2:=g2.to gb
 replace zb:=bS zb gb
 have HXwc:=Lib.hid (show ∀ W',Below wc.heap.size wc W'->(W'.cell? ⟨w.heap.size,0,none⟩=some (.bool b)/\W'.cell? ⟨w.heap.size,1,none⟩=some (.slice a0 n0 c0)/\W'.cell? ⟨w.heap.size,2,none⟩=some (.slice a1 n1 c1)/\W'.cell? ⟨w.heap.size+1,0,none⟩=some (.bool c)/\W'.cell? ⟨w.heap.size+1,1,none⟩=some (.slice a2 n2 c2)/\W'.cell? ⟨w.heap.size+1,2,none⟩=some (.slice a3 n3 c3)/\W'.cell? ⟨w.heap.size+1+1,0,none⟩=some (.bool false)/\W'.cell? ⟨w.heap.size+1+1,1,none⟩=some (.slice none 0 0)/\W'.cell? ⟨w.heap.size+1+1,2,none⟩=some (.slice none 0 0)/\W'.cell? ⟨B5,0,none⟩=some (.bool ng1)/\W'.cell? ⟨B5,1,none⟩=some (.slice a1_ n1_ c1_)/\W'.cell? ⟨B5,2,none⟩=some (.slice p1_ m1_ k1_)/\W'.cell? ⟨B6,0,none⟩=some (.bool ng2)/\W'.cell? ⟨B6,1,none⟩=some (.slice a2_ n2_ c2_)/\W'.cell? ⟨B6,2,none⟩=some (.slice p2_ m2_ k2_)/\W'.cell? ⟨B7,0,none⟩=some (.bool ng17)/\W'.cell? ⟨B7,1,none⟩=some (.slice a17_ n17_ c17_)) from fun W' hb =>
  by and_intros <;> exact kc hb (by first|assumption|assumption))
 have HYwc:=Lib.hid (show ∀ W',Below wc.heap.size wc W'->(W'.frozen? ⟨w.heap.size,0,none⟩=false/\W'.frozen? ⟨w.heap.size,1,none⟩=false/\W'.frozen? ⟨w.heap.size,2,none⟩=false/\W'.frozen? ⟨w.heap.size+1,0,none⟩=false/\W'.frozen? ⟨w.heap.size+1,1,none⟩=false/\W'.frozen? ⟨w.heap.size+1,2,none⟩=false/\W'.frozen? ⟨w.heap.size+1+1,0,none⟩=false/\W'.frozen? ⟨w.heap.size+1+1,1,none⟩=false/\W'.frozen? ⟨w.heap.size+1+1,2,none⟩=false/\W'.frozen? ⟨B5,0,none⟩=false/\W'.frozen? ⟨B5,1,none⟩=false/\W'.frozen? ⟨B5,2,none⟩=false/\W'.frozen? ⟨B6,0,none⟩=false/\W'.frozen? ⟨B6,1,none⟩=false/\W'.frozen? ⟨B6,2,none⟩=false/\W'.frozen? ⟨B7,0,none⟩=false/\W'.frozen? ⟨B7,1,none⟩=false) from fun W' hb =>
  by and_intros <;> refine (hb.frozen ?_).trans ?_ <;> first|assumption|assumption)
 have HZwc:=Lib.hid (show ∀ W',Below wc.heap.size wc W'->(w.heap.size<W'.heap.size/\w.heap.size+1<W'.heap.size/\w.heap.size+1+1<W'.heap.size/\B5<W'.heap.size/\B6<W'.heap.size/\B7<W'.heap.size) from fun W' hb =>
  by and_intros <;> refine Nat.lt_of_lt_of_le ?_ hb.size <;> first|assumption)
 replace gb:=Below.refl wc.heap.size wc
 go_wp2_with fail
 have H8:=Lib.hid (H9.out ng17 (by have k:=g17.2.1;exact k))
 have nz0:w.heap.size≠w.heap.size+1+1:=by omega
 have nz1:w.heap.size+1≠w.heap.size+1+1:=by omega
 have nz5:B5≠w.heap.size+1+1:=by omega
 have nz6:B6≠w.heap.size+1+1:=by omega
 have nz7:B7≠w.heap.size+1+1:=by omega
 go_region_held3 (fun W' => W'.cell? ⟨w.heap.size,0,none⟩=some (.bool b)/\W'.cell? ⟨w.heap.size,1,none⟩=some (.slice a0 n0 c0)/\W'.cell? ⟨w.heap.size,2,none⟩=some (.slice a1 n1 c1)/\W'.cell? ⟨w.heap.size+1,0,none⟩=some (.bool c)/\W'.cell? ⟨w.heap.size+1,1,none⟩=some (.slice a2 n2 c2)/\W'.cell? ⟨w.heap.size+1,2,none⟩=some (.slice a3 n3 c3)/\W'.cell? ⟨B5,0,none⟩=some (.bool ng1)/\W'.cell? ⟨B5,1,none⟩=some (.slice a1_ n1_ c1_)/\W'.cell? ⟨B5,2,none⟩=some (.slice p1_ m1_ k1_)/\W'.cell? ⟨B6,0,none⟩=some (.bool ng2)/\W'.cell? ⟨B6,1,none⟩=some (.slice a2_ n2_ c2_)/\W'.cell? ⟨B6,2,none⟩=some (.slice p2_ m2_ k2_)/\W'.cell? ⟨B7,0,none⟩=some (.bool ng17)/\W'.cell? ⟨B7,1,none⟩=some (.slice a17_ n17_ c17_)) (first|(with_reducible exact ⟨ac,ae,af,ay,az,aA,bE,bH,bJ,ci,ck,cI,gG,gH⟩)|(with_reducible exact ⟨cP (cP (cP (ac) (.inl nz0) _) (.inl nz0) _) (.inl nz0) _,cP (cP (cP (ae) (.inl nz0) _) (.inl nz0) _) (.inl nz0) _,cP (cP (cP (af) (.inl nz0) _) (.inl nz0) _) (.inl nz0) _,cP (cP (cP (ay) (.inl nz1) _) (.inl nz1) _) (.inl nz1) _,cP (cP (cP (az) (.inl nz1) _) (.inl nz1) _) (.inl nz1) _,cP (cP (cP (aA) (.inl nz1) _) (.inl nz1) _) (.inl nz1) _,cP (cP (cP (bE) (.inl nz5) _) (.inl nz5) _) (.inl nz5) _,cP (cP (cP (bH) (.inl nz5) _) (.inl nz5) _) (.inl nz5) _,cP (cP (cP (bJ) (.inl nz5) _) (.inl nz5) _) (.inl nz5) _,cP (cP (cP (ci) (.inl nz6) _) (.inl nz6) _) (.inl nz6) _,cP (cP (cP (ck) (.inl nz6) _) (.inl nz6) _) (.inl nz6) _,cP (cP (cP (cI) (.inl nz6) _) (.inl nz6) _) (.inl nz6) _,cP (cP (cP (gG) (.inl nz7) _) (.inl nz7) _) (.inl nz7) _,cP (cP (cP (gH) (.inl nz7) _) (.inl nz7) _) (.inl nz7) _⟩)|exact ⟨ac,ae,af,ay,az,aA,bE,bH,bJ,ci,ck,cI,gG,gH⟩) (first
  | (go_at_call 62;(with_reducible refine (zT ng17 _ _ _ _ _ (g17.to gb).isI.up g21.rd (Nat.le_trans S3.out (by omega)) K2.out q H8.out hs).mono ?_);rintro e w22 ⟨ng22,a22_,n22_,c22_,p22_,m22_,k22_,rfl,g22,jA⟩;have g21:=g21.to jA;have gb:=bS gb jA;obtain ⟨ac,ae,af,ay,az,aA,bs,bt,b8,bE,bH,bJ,ci,ck,cI,gG,gH⟩:=HXwc.out _ gb;obtain ⟨ag,ah,al,aB,aE,aH,bP,bQ,cf,bV,bW,bX,cL,cM,cO,kr,ks⟩:=HYwc.out _ gb;obtain ⟨z0,z1,z2,z5,z6,z7⟩:=HZwc.out _ gb)
  | (go_at_call 147;have gb:=gb.drew;(with_reducible refine (zbQ _ _ (zc x.den) (zc y.den) _ (g1.to gb).isQ.dn (g2.to gb).isQ.dn (Nat.le_trans (g1.to gb).isQ.ldn (by omega)) (Nat.le_trans (g2.to gb).isQ.ldn (by omega))).mono ?_);rintro e w21 ⟨v21,rfl,g21,kF⟩;obtain ⟨a21_,n21_,c21_,rfl,H21,hm21⟩:=g21.rd.open;have gb:=bS gb kF;obtain ⟨ac,ae,af,ay,az,aA,bs,bt,b8,bE,bH,bJ,ci,ck,cI,gG,gH⟩:=HXwc.out _ gb;obtain ⟨ag,ah,al,aB,aE,aH,bP,bQ,cf,bV,bW,bX,cL,cM,cO,kr,ks⟩:=HYwc.out _ gb;obtain ⟨z0,z1,z2,z5,z6,z7⟩:=HZwc.out _ gb))
 go_wp2_with fail
 refine bodyPost_ret (zW Tryz.results117 _ _ _ _ _ _ rfl (Tri.set (x0:=.bool false) (y0:=.slice none 0 0) (z0:=.slice none 0 0) ⟨bs,bt,b8,bP,bQ,cf⟩ _ _ _)) rfl (zdL (bS zb gb) (by omega) ?_ g22)
 omega

end Go.Proofs.YtkjcdnlpjldhaaaGreat


namespace Go.Proofs.YtkjcdnlpjldhaaaGreat
open Go.RowKit Tw
attribute [local go_sem ↓] Go.wp_at_zero Go.wp_at_succ

theorem zdj {z:Int} (n0:-9223372036854775808<=z) (n1:z<9223372036854775808):szi z<=3:=by
 unfold szi
 have:=zae (show z.natAbs<=18446744073709551616 by omega)
 rwa [show sz 18446744073709551616=3 by decide +kernel] at this

theorem zkg {z:Int} (h:szi z<=3):szq (z:Rat)<=1000:=by
 unfold szq
 have h1:(z:Rat).num=z:=Rat.num_intCast z
 have h2:(z:Rat).den=1:=Rat.den_intCast z
 rw [h1,h2]
 unfold szi at h
 have:sz 1<=1:=by decide +kernel
 omega

theorem zjW (z:Int):rat (decide (z<0)) (val (zc z.natAbs)) (val (zc (1:Int).toNat))=(z:Rat):=by
 rw [vL,vL]
 have h:=zcs (z:Rat)
 have h1:(z:Rat).num=z:=Rat.num_intCast z
 have h2:(z:Rat).den=1:=Rat.den_intCast z
 rw [zcz,h1,h2] at h
 exact h

def zG (w:World) (q:Rat) (e:Ending) (w':World):Prop :=
 ∃ ng a n c a' n' c',e=.returned (.tuple #[aggR ng (.slice a n c) (.slice a' n' c'),.int .i64 0])/\zab w.heap.size w'.heap.size w' ng (.slice a n c) (.slice a' n' c') q/\Below w.heap.size w w'

theorem zbG {w w2:World} {lo hi rb:Nat} {ng:Bool} {a a':Option Addr} {n c n' c':Nat} {q:Rat} (hb:Below w.heap.size w w2) (hrb:w.heap.size<=rb) (hlo:rb<lo) (hv:zab lo hi w2 ng (.slice a n c) (.slice a' n' c') q) :
  zG w q (.returned (.tuple #[aggR ng (.slice a n c) (.slice a' n' c'),.int .i64 0])) (zbW w2 rb (.bool ng) (.slice a n c) (.slice a' n' c')):=by
 obtain ⟨_,_,_,_,_,_,_,e,h1,h2⟩:=zdL hb hrb hlo hv
 injection e with e
 injection e with e
 simp only [Array.mk.injEq,List.cons.injEq,Value.bool.injEq,Value.slice.injEq,and_true] at e
 obtain ⟨rfl,⟨rfl,rfl,rfl⟩,rfl,rfl,rfl⟩:=e
 exact ⟨_,_,_,_,_,_,_,rfl,h1,h2⟩

theorem zkN {x y:Rat} (b:Bool) (v u:Value) (ln ld:List Nat) (c:Bool) (v' u':Value) (ln' ld':List Nat) (w:World) (h:IsQ w b v u ln ld x) (h':IsQ w c v' u' ln' ld' y) (q:Rat) (hq:x - y=q) (hs:Hid (szq q<=1000)) :
  Calls Tryz.prog 118 #[aggR b v u,aggR c v' u'] w (zaf w q):=by
 have Hn:Hid (szq (-y)<=1000):=by show _<=_;rw [zhB];exact (zaF h').out
 have H9:=Lib.hid (show x+-y=q by rw [<- Rat.sub_eq_add_neg,hq])
 obtain ⟨a0,n0,c0,rfl,H0,hm0⟩:=h.1.open
 obtain ⟨a1,n1,c1,rfl,H1,hm1⟩:=h.2.1.open
 obtain ⟨a2,n2,c2,rfl,H2,hm2⟩:=h'.1.open
 obtain ⟨a3,n3,c3,rfl,H3,hm3⟩:=h'.2.1.open
 clear hq
 go_enter Tryz.func118,Tryz.ntmps118
 go_wp2_with fail
 obtain ⟨W0,aG⟩:∃ W0,((w.alloc (.cells #[.bool b,.slice a0 n0 c0,.slice a1 n1 c1] 47)).alloc (.cells #[.bool c,.slice a2 n2 c2,.slice a3 n3 c3] 47)).alloc (.cells #[.bool false,.slice none 0 0,.slice none 0 0] 47)=W0:=⟨_,rfl⟩
 have am:=Lib.hid (show ∀ W',Below W0.heap.size W0 W'->(Bx3 W' w.heap.size (.bool b) (.slice a0 n0 c0) (.slice a1 n1 c1)/\Bx3 W' (w.heap.size+1) (.bool c) (.slice a2 n2 c2) (.slice a3 n3 c3)/\Bx3 W' (w.heap.size+1+1) (.bool false) (.slice none 0 0) (.slice none 0 0)) from fun W' hb => by
   refine ⟨bx3 hb ?_ ?_ ?_ ?_ ?_ ?_,bx3 hb ?_ ?_ ?_ ?_ ?_ ?_,bx3 hb ?_ ?_ ?_ ?_ ?_ ?_⟩
   all_goals first|assumption|(rw [<- aG];simp [go_sem]))
 have zb:Below w.heap.size w W0:=by rw [<- aG];exact bS (bS (bN _ _) (bN _ _)) (bN _ _)
 rw [aG]
 clear aG
 have i0:=h.to zb
 have i1:=h'.to zb
 have gb:Below W0.heap.size W0 W0:=Below.refl _ _
 obtain ⟨⟨z0,ac,ae,af,ag,ah,al⟩,⟨z1,ay,az,aA,aB,aE,aH⟩,⟨z2,bs,bt,b8,bP,bQ,cf⟩⟩:=am.out _ gb
 have nz0:w.heap.size≠w.heap.size+1+1:=by omega
 have nz1:w.heap.size+1≠w.heap.size+1+1:=by omega
 go_region_held3 (fun W' => W'.cell? ⟨w.heap.size,0,none⟩=some (.bool b)/\W'.cell? ⟨w.heap.size,1,none⟩=some (.slice a0 n0 c0)/\W'.cell? ⟨w.heap.size,2,none⟩=some (.slice a1 n1 c1)/\W'.cell? ⟨w.heap.size+1,0,none⟩=some (.bool c)/\W'.cell? ⟨w.heap.size+1,1,none⟩=some (.slice a2 n2 c2)/\W'.cell? ⟨w.heap.size+1,2,none⟩=some (.slice a3 n3 c3)) (first|(with_reducible exact ⟨ac,ae,af,ay,az,aA⟩)|(with_reducible exact ⟨cP (cP (cP (ac) (.inl nz0) _) (.inl nz0) _) (.inl nz0) _,cP (cP (cP (ae) (.inl nz0) _) (.inl nz0) _) (.inl nz0) _,cP (cP (cP (af) (.inl nz0) _) (.inl nz0) _) (.inl nz0) _,cP (cP (cP (ay) (.inl nz1) _) (.inl nz1) _) (.inl nz1) _,cP (cP (cP (az) (.inl nz1) _) (.inl nz1) _) (.inl nz1) _,cP (cP (cP (aA) (.inl nz1) _) (.inl nz1) _) (.inl nz1) _⟩)|exact ⟨ac,ae,af,ay,az,aA⟩) (first
  | (go_at_call 117;(with_reducible refine (zgI b _ _ ln ld _ _ _ _ _ _ (i0.to gb) g1.isQ q H9.out hs).mono ?_);rintro e w2 ⟨ng2,a2_,n2_,c2_,p2_,m2_,k2_,rfl,g2,aR⟩;have g1:=g1.to aR;have gb:=bS gb aR;obtain ⟨⟨z0,ac,ae,af,ag,ah,al⟩,⟨z1,ay,az,aA,aB,aE,aH⟩,⟨z2,bs,bt,b8,bP,bQ,cf⟩⟩:=am.out _ gb)
  | (go_at_call 121;have gb:=gb.drew;(with_reducible refine (zgJ c _ _ ln' ld' _ (i1.to gb) (-y) rfl Hn).mono ?_);rintro e w1 ⟨ng1,a1_,n1_,c1_,p1_,m1_,k1_,rfl,g1,aX⟩;have gb:=bS gb aX;obtain ⟨⟨z0,ac,ae,af,ag,ah,al⟩,⟨z1,ay,az,aA,aB,aE,aH⟩,⟨z2,bs,bt,b8,bP,bQ,cf⟩⟩:=am.out _ gb))
 go_wp2_with fail
 refine bodyPost_ret (zW Tryz.results118 _ _ _ _ _ _ rfl (Tri.set (x0:=.bool false) (y0:=.slice none 0 0) (z0:=.slice none 0 0) ⟨bs,bt,b8,bP,bQ,cf⟩ _ _ _)) rfl (zdL (bS zb gb) (by omega) ?_ g2)
 omega

theorem zgl (b c:Bool) (v u:Value) (ln ld:List Nat) (w:World) (hv:Rd w v ln) (hu:Rd w u ld) (h2:ld.length<=3000) (h0:val ld=0) :
  Calls Tryz.prog 148 #[aggI b v,aggI c u] w (fun e w' => e=.returned (.tuple #[aggR false (.slice none 0 0) (.slice none 0 0),.int .i64 3])/\Below w.heap.size w w'):=by
 have Z0:=Lib.hid (show zF (val ld)=0 by rw [h0];rfl)
 clear h0
 obtain ⟨a0,n0,c0,rfl,H0,hm0⟩:=hv.open
 obtain ⟨a1,n1,c1,rfl,H1,hm1⟩:=hu.open
 go_enter Tryz.func148,Tryz.ntmps148
 go_wp2_with fail
 obtain ⟨W0,aG⟩:∃ W0,((w.alloc (.cells #[.bool b,.slice a0 n0 c0] 95)).alloc (.cells #[.bool c,.slice a1 n1 c1] 95)).alloc (.cells #[.bool false,.slice none 0 0,.slice none 0 0] 47)=W0:=⟨_,rfl⟩
 have am:=Lib.hid (show ∀ W',Below W0.heap.size W0 W'->(Bx2 W' w.heap.size (.bool b) (.slice a0 n0 c0)/\Bx2 W' (w.heap.size+1) (.bool c) (.slice a1 n1 c1)/\Bx3 W' (w.heap.size+1+1) (.bool false) (.slice none 0 0) (.slice none 0 0)) from fun W' hb => by
   refine ⟨bx2 hb ?_ ?_ ?_ ?_,bx2 hb ?_ ?_ ?_ ?_,bx3 hb ?_ ?_ ?_ ?_ ?_ ?_⟩
   all_goals first|assumption|(rw [<- aG];simp [go_sem]))
 have zb:Below w.heap.size w W0:=by rw [<- aG];exact bS (bS (bN _ _) (bN _ _)) (bN _ _)
 rw [aG]
 clear aG
 have i0:=hv.to zb
 have i1:=hu.to zb
 have gb:Below W0.heap.size W0 W0:=Below.refl _ _
 obtain ⟨⟨z0,ac,ae,ag,ah⟩,⟨z1,ay,az,aB,aE⟩,⟨z2,bs,bt,b8,bP,bQ,cf⟩⟩:=am.out _ gb
 refine (zaG _ ld _ (i1.to gb) (by omega)).mono ?_
 rintro e w1 ⟨rfl,rfl⟩
 rw [Z0.out]
 go_wp2_with fail
 refine bodyPost_ret (zo Tryz.results148 _ _ _ _ _ _ rfl (Tri.set (x0:=.bool false) (y0:=.slice none 0 0) (z0:=.slice none 0 0) ⟨bs,bt,b8,bP,bQ,cf⟩ _ _ _)) rfl ⟨rfl,bT (bS zb gb) (by omega) _ _ _⟩

theorem zjj (b c:Bool) (v u:Value) (ln ld:List Nat) (w:World) (hv:Rd w v ln) (hu:Rd w u ld) (h1:ln.length<=3000) (h2:ld.length<=3000) (h0:val ld≠0) (q:Rat) (hq:rat (b != c) (val ln) (val ld)=q) (hs:Hid (szq q<=1000)) :
  Calls Tryz.prog 148 #[aggI b v,aggI c u] w (zG w q):=by
 have hnb:0<zF (val ld):=Nat.pos_of_ne_zero (fun e => h0 (zaU.1 e))
 have Z0:=Lib.hid h0
 have H9:=Lib.hid (show rat (!b == c) (val ln) (val ld)=q from hq)
 clear h0 hq
 obtain ⟨a0,n0,c0,rfl,H0,hm0⟩:=hv.open
 obtain ⟨a1,n1,c1,rfl,H1,hm1⟩:=hu.open
 go_enter Tryz.func148,Tryz.ntmps148
 go_wp2_with fail
 obtain ⟨W0,aG⟩:∃ W0,((w.alloc (.cells #[.bool b,.slice a0 n0 c0] 95)).alloc (.cells #[.bool c,.slice a1 n1 c1] 95)).alloc (.cells #[.bool false,.slice none 0 0,.slice none 0 0] 47)=W0:=⟨_,rfl⟩
 have am:=Lib.hid (show ∀ W',Below W0.heap.size W0 W'->(Bx2 W' w.heap.size (.bool b) (.slice a0 n0 c0)/\Bx2 W' (w.heap.size+1) (.bool c) (.slice a1 n1 c1)/\Bx3 W' (w.heap.size+1+1) (.bool false) (.slice none 0 0) (.slice none 0 0)) from fun W' hb => by
   refine ⟨bx2 hb ?_ ?_ ?_ ?_,bx2 hb ?_ ?_ ?_ ?_,bx3 hb ?_ ?_ ?_ ?_ ?_ ?_⟩
   all_goals first|assumption|(rw [<- aG];simp [go_sem]))
 have zb:Below w.heap.size w W0:=by rw [<- aG];exact bS (bS (bN _ _) (bN _ _)) (bN _ _)
 rw [aG]
 clear aG
 have i0:=hv.to zb
 have i1:=hu.to zb
 have gb:Below W0.heap.size W0 W0:=Below.refl _ _
 obtain ⟨⟨z0,ac,ae,ag,ah⟩,⟨z1,ay,az,aB,aE⟩,⟨z2,bs,bt,b8,bP,bQ,cf⟩⟩:=am.out _ gb
 refine (zaG _ ld _ (i1.to gb) (by omega)).mono ?_
 rintro e w1 ⟨rfl,rfl⟩
 go_wp2_with fail
 refine (zT (!b == c) _ _ _ _ _ (i0.to gb) (i1.to gb) h1 h2 q H9.out hs).mono ?_
 clear ac ag ae ah ay aB az aE bs bP bt bQ b8 cf
 rintro e w2 ⟨ng2,a2_,n2_,c2_,p2_,m2_,k2_,rfl,g2,aR⟩
 replace gb:=bS gb aR
 obtain ⟨⟨z0,ac,ae,ag,ah⟩,⟨z1,ay,az,aB,aE⟩,⟨z2,bs,bt,b8,bP,bQ,cf⟩⟩:=am.out _ gb
 go_wp2_with fail
 refine bodyPost_ret (zo Tryz.results148 _ _ _ _ _ _ rfl (Tri.set (x0:=.bool false) (y0:=.slice none 0 0) (z0:=.slice none 0 0) ⟨bs,bt,b8,bP,bQ,cf⟩ _ _ _)) rfl (zbG (bS zb gb) (by omega) ?_ g2)
 omega

theorem zhr (n z:Int) (w:World) (hz:z=n) (m0:-9223372036854775808<=n) (m1:n<9223372036854775808) :
  Calls Tryz.prog 38 #[.int .i64 n] w (zaf w (z:Rat)):=by
 have Hz:=Lib.hid hz
 have S1:=Lib.hid (zdj (z:=z) (by omega) (by omega))
 have S2:=Lib.hid (show szq (z:Rat)<=1000 from zkg S1.out)
 have K2:=Lib.hid (show (zc (1:Int).toNat).length<=3000 by decide +kernel)
 have H9:=Lib.hid (show ∀ ng,decide (z<0)=ng->rat ng (val (zc z.natAbs)) (val (zc (1:Int).toNat))=(z:Rat) from fun ng e => by rw [<- e];exact zjW z)
 clear hz
 go_enter Tryz.func38,Tryz.ntmps38
 go_wp2_with fail
 obtain ⟨W0,aG⟩:∃ W0,w.alloc (.cells #[.bool false,.slice none 0 0,.slice none 0 0] 47)=W0:=⟨_,rfl⟩
 have am:=Lib.hid (show ∀ W',Below W0.heap.size W0 W'->(Bx3 W' w.heap.size (.bool false) (.slice none 0 0) (.slice none 0 0)) from fun W' hb => by
   apply bx3 hb
   all_goals first|assumption|(rw [<- aG];simp [go_sem]))
 have zb:Below w.heap.size w W0:=by rw [<- aG];exact bN _ _
 rw [aG]
 clear aG
 have gb:Below W0.heap.size W0 W0:=Below.refl _ _
 obtain ⟨z0,ac,ae,af,ag,ah,al⟩:=am.out _ gb
 refine (of_c n z _ Hz.out m0 m1).mono ?_
 clear ac ag ae ah af al
 rintro e w1 ⟨ng1,a1_,n1_,c1_,rfl,g1,aX⟩
 replace gb:=bS gb aX
 obtain ⟨z0,ac,ae,af,ag,ah,al⟩:=am.out _ gb
 go_wp2_with fail
 obtain ⟨W1,aO⟩:∃ W1,w1.alloc (.cells #[.bool ng1,.slice a1_ n1_ c1_] 95)=W1:=⟨_,rfl⟩
 have hb_W1:Below w1.heap.size w1 W1:=by rw [<- aO];exact bN _ _
 clear ac ag ae ah af al
 replace g1:=g1.to hb_W1
 replace gb:=bS gb hb_W1
 obtain ⟨z0,ac,ae,af,ag,ah,al⟩:=am.out _ gb
 have cS:W1.cell? ⟨w1.heap.size,0,none⟩=some (.bool ng1):=by rw [<- aO];simp [go_sem]
 have cY:W1.frozen? ⟨w1.heap.size,0,none⟩=false:=by rw [<- aO];simp [go_sem]
 have cT:W1.cell? ⟨w1.heap.size,1,none⟩=some (.slice a1_ n1_ c1_):=by rw [<- aO];simp [go_sem]
 have cZ:W1.frozen? ⟨w1.heap.size,1,none⟩=false:=by rw [<- aO];simp [go_sem]
 have z3:w1.heap.size<W1.heap.size:=by rw [<- aO];simp
 rw [aO]
 clear aO
 replace zb:=bS zb gb
 have cd:=Lib.hid (show ∀ W',Below W1.heap.size W1 W'->(Bx3 W' w.heap.size (.bool false) (.slice none 0 0) (.slice none 0 0)/\Bx2 W' w1.heap.size (.bool ng1) (.slice a1_ n1_ c1_)) from fun W' hb => by
   refine ⟨bx3 hb ?_ ?_ ?_ ?_ ?_ ?_,bx2 hb ?_ ?_ ?_ ?_⟩
   all_goals first|assumption|assumption)
 replace gb:=Below.refl W1.heap.size W1
 go_wp2_with fail
 have H8:=Lib.hid (H9.out ng1 (by have k:=g1.2.1;exact k))
 have nz3:w1.heap.size≠w.heap.size:=by omega
 go_region_held3 (fun W' => W'.cell? ⟨w1.heap.size,0,none⟩=some (.bool ng1)/\W'.cell? ⟨w1.heap.size,1,none⟩=some (.slice a1_ n1_ c1_)) (first|(with_reducible exact ⟨cS,cT⟩)|(with_reducible exact ⟨cP (cP (cP (cS) (.inl nz3) _) (.inl nz3) _) (.inl nz3) _,cP (cP (cP (cT) (.inl nz3) _) (.inl nz3) _) (.inl nz3) _⟩)|exact ⟨cS,cT⟩) (first
  | (go_at_call 62;(with_reducible refine (zT ng1 _ _ _ _ _ (g1.to gb).isI.up g2.rd (Nat.le_trans S1.out (by omega)) K2.out (z:Rat) H8.out S2).mono ?_);rintro e w3 ⟨ng3,a3_,n3_,c3_,p3_,m3_,k3_,rfl,g3,bZ⟩;have g2:=g2.to bZ;have gb:=bS gb bZ;obtain ⟨⟨z0,ac,ae,af,ag,ah,al⟩,⟨z3,cS,cT,cY,cZ⟩⟩:=cd.out _ gb)
  | (go_at_call 63;have gb:=gb.drew;(with_reducible refine (zcy 1 _ (by omega) (by omega)).mono ?_);rintro e w2 ⟨v2,rfl,g2,aR⟩;obtain ⟨a2_,n2_,c2_,rfl,H2,hm2⟩:=g2.rd.open;have gb:=bS gb aR;obtain ⟨⟨z0,ac,ae,af,ag,ah,al⟩,⟨z3,cS,cT,cY,cZ⟩⟩:=cd.out _ gb))
 go_wp2_with fail
 refine bodyPost_ret (zW Tryz.results38 _ _ _ _ _ _ rfl (Tri.set (x0:=.bool false) (y0:=.slice none 0 0) (z0:=.slice none 0 0) ⟨ac,ae,af,ag,ah,al⟩ _ _ _)) rfl (zdL (bS zb gb) (by omega) ?_ g3)
 omega

end Go.Proofs.YtkjcdnlpjldhaaaGreat


namespace Go.Proofs.YtkjcdnlpjldhaaaGreat
open Go.RowKit Tw
attribute [local go_sem ↓] Go.wp_at_zero Go.wp_at_succ

theorem finZ1 {w w1:World} {rb:Nat} (hb:Below w.heap.size w w1) (hrb:w.heap.size<=rb) (hlt:rb<w1.heap.size) :
  zaf w 0 (.returned (aggR false (.slice none 0 0) (.slice (some ⟨w1.heap.size,0,none⟩) 1 1))) ((zbW w1 rb (.bool false) (.slice none 0 0) (.slice (some ⟨w1.heap.size,0,none⟩) 1 1)).alloc (.cells #[zaJ 1] 97)):=by
 have bZ:=bT hb hrb (.bool false) (.slice none 0 0) (.slice (some ⟨w1.heap.size,0,none⟩) 1 1)
 refine ⟨false,none,0,0,_,_,_,rfl,zff (by rw [show zc (0:Rat).num.natAbs=[] by decide +kernel];exact Own.nil _ _) ?_ (by decide +kernel) (by decide +kernel),bS bZ (bN _ _)⟩
 rw [show zc (0:Rat).den=[1] by decide +kernel]
 exact (zba (zbW w1 rb (.bool false) (.slice none 0 0) (.slice (some ⟨w1.heap.size,0,none⟩) 1 1)) w1.heap.size [1] (by simp) (zci (by omega)) (by simp [maxLen])).mono bZ.size

theorem zhO (va vb:Value) (la lb:List Nat) (o:Bool) (w:World) (ha:Rd w va la) (hb:Rd w vb lb) (ho:Hid (decide (la=lb)=o)) :
  Calls Tryz.prog 46 #[va,vb] w fun e w' => e=.returned (.bool o)/\Below w.heap.size w w':=by
 by_cases h:la=lb
 ·subst h
  rw [<- ho.out,decide_eq_true rfl]
  exact zjG va vb la w ha hb
 ·rw [<- ho.out,decide_eq_false h]
  exact zjF va vb la lb w ha hb h

def IsF (w:World) (v u:Value) (ln ld:List Nat):Prop:=Rd w v ln/\Rd w u ld

theorem IsF.to {w w':World} {v u:Value} {ln ld:List Nat} (h:IsF w v u ln ld) (hb:Below w.heap.size w w'):IsF w' v u ln ld:=⟨h.1.to hb,h.2.to hb⟩

theorem IsF.drew {w:World} {v u:Value} {ln ld:List Nat} (h:IsF w v u ln ld):IsF w.drew v u ln ld:=⟨h.1.drew,h.2.drew⟩

theorem IsQ.isF {w:World} {b:Bool} {v u:Value} {ln ld:List Nat} {q:Rat} (h:IsQ w b v u ln ld q):IsF w v u ln ld:=⟨h.1,h.2.1⟩

theorem zab.isF {lo hi:Nat} {w:World} {b:Bool} {v u:Value} {q:Rat} (h:zab lo hi w b v u q):IsF w v u (zc q.num.natAbs) (zc q.den):=⟨h.1.rd,h.2.1.rd⟩

theorem zab.ng {lo hi:Nat} {w:World} {b:Bool} {v u:Value} {q:Rat} (h:zab lo hi w b v u q):decide (q<0)=b:=h.2.2.1

def zcS (b:Bool) (ln ld:List Nat) (x:Rat):Bool:=decide (x<0) == b && decide (zc x.num.natAbs=ln) && decide (zc x.den=ld)

theorem zfX (b:Bool) (v u:Value) (ln ld:List Nat) (w:World) (hv:Rd w v ln) (hu:Rd w u ld) (h1:ln.length<=3000) (h2:ld.length<=3000) (h0:val ld=0) :
  Calls Tryz.prog 47 #[aggI b v,u] w (zaf w (rat b (val ln) (val ld))):=by
 rw [h0,zbI]
 have Z0:=Lib.hid h0
 clear h0
 obtain ⟨a0,n0,c0,rfl,H0,hm0⟩:=hv.open
 obtain ⟨a1,n1,c1,rfl,H1,hm1⟩:=hu.open
 go_enter Tryz.func47,Tryz.ntmps47
 go_wp2_with fail
 obtain ⟨W0,aG⟩:∃ W0,(w.alloc (.cells #[.bool b,.slice a0 n0 c0] 95)).alloc (.cells #[.bool false,.slice none 0 0,.slice none 0 0] 47)=W0:=⟨_,rfl⟩
 have am:=Lib.hid (show ∀ W',Below W0.heap.size W0 W'->(Bx2 W' w.heap.size (.bool b) (.slice a0 n0 c0)/\Bx3 W' (w.heap.size+1) (.bool false) (.slice none 0 0) (.slice none 0 0)) from fun W' hb => by
   refine ⟨bx2 hb ?_ ?_ ?_ ?_,bx3 hb ?_ ?_ ?_ ?_ ?_ ?_⟩
   all_goals first|assumption|(rw [<- aG];simp [go_sem]))
 have zb:Below w.heap.size w W0:=by rw [<- aG];exact bS (bN _ _) (bN _ _)
 rw [aG]
 clear aG
 have i0:=hv.to zb
 have i1:=hu.to zb
 have gb:Below W0.heap.size W0 W0:=Below.refl _ _
 obtain ⟨⟨z0,ac,ae,ag,ah⟩,⟨z1,ay,az,aA,aB,aE,aH⟩⟩:=am.out _ gb
 refine (zfV _ _ ln ld _ (i0.to gb) (i1.to gb) (by omega) Z0.out).mono ?_
 clear ac ag ae ah ay aB az aE aA aH
 rintro e w1 ⟨rfl,aX⟩
 replace gb:=bS gb aX
 obtain ⟨⟨z0,ac,ae,ag,ah⟩,⟨z1,ay,az,aA,aB,aE,aH⟩⟩:=am.out _ gb
 go_wp2_with fail
 refine bodyPost_ret (zW Tryz.results47 _ _ _ _ _ _ rfl (Tri.alloc (Tri.set (x0:=.bool false) (y0:=.slice none 0 0) (z0:=.slice none 0 0) ⟨ay,az,aA,aB,aE,aH⟩ _ _ _) _)) rfl (finZ1 (bS zb gb) (by omega) (by omega))

theorem zey (b:Bool) (v u:Value) (ln ld:List Nat) (w:World) (hv:Rd w v ln) (hu:Rd w u ld) (h1:ln.length<=3000) (h2:ld.length<=3000) (h0:0<val ld) (h3:val ln=0) :
  Calls Tryz.prog 47 #[aggI b v,u] w (zaf w (rat b (val ln) (val ld))):=by
 rw [h3,zbJ]
 have Z0:=Lib.hid h0
 have Z3:=Lib.hid (show zc (val ln / Nat.gcd (val ln) (val ld))=[] by rw [h3,Nat.zero_div];rfl)
 clear h0 h3
 obtain ⟨a0,n0,c0,rfl,H0,hm0⟩:=hv.open
 obtain ⟨a1,n1,c1,rfl,H1,hm1⟩:=hu.open
 go_enter Tryz.func47,Tryz.ntmps47
 go_wp2_with fail
 obtain ⟨W0,aG⟩:∃ W0,(w.alloc (.cells #[.bool b,.slice a0 n0 c0] 95)).alloc (.cells #[.bool false,.slice none 0 0,.slice none 0 0] 47)=W0:=⟨_,rfl⟩
 have am:=Lib.hid (show ∀ W',Below W0.heap.size W0 W'->(Bx2 W' w.heap.size (.bool b) (.slice a0 n0 c0)/\Bx3 W' (w.heap.size+1) (.bool false) (.slice none 0 0) (.slice none 0 0)) from fun W' hb => by
   refine ⟨bx2 hb ?_ ?_ ?_ ?_,bx3 hb ?_ ?_ ?_ ?_ ?_ ?_⟩
   all_goals first|assumption|(rw [<- aG];simp [go_sem]))
 have zb:Below w.heap.size w W0:=by rw [<- aG];exact bS (bN _ _) (bN _ _)
 rw [aG]
 clear aG
 have i0:=hv.to zb
 have i1:=hu.to zb
 have gb:Below W0.heap.size W0 W0:=Below.refl _ _
 obtain ⟨⟨z0,ac,ae,ag,ah⟩,⟨z1,ay,az,aA,aB,aE,aH⟩⟩:=am.out _ gb
 refine (zeS _ _ ln ld _ (i0.to gb) (i1.to gb) (by omega) (by omega) Z0.out).mono ?_
 clear ac ag ae ah ay aB az aE aA aH
 rintro e w1 ⟨v1,u1,rfl,g1,d1,aX⟩
 obtain ⟨a1_,n1_,c1_,rfl,H1,hm1⟩:=g1.rd.open
 obtain ⟨p1_,m1_,k1_,rfl,J1,jm1⟩:=d1.rd.open
 replace gb:=bS gb aX
 obtain ⟨⟨z0,ac,ae,ag,ah⟩,⟨z1,ay,az,aA,aB,aE,aH⟩⟩:=am.out _ gb
 obtain rfl:n1_=0:=by rw [<- H1.out,Z3.out];rfl
 go_wp2_with fail
 refine bodyPost_ret (zW Tryz.results47 _ _ _ _ _ _ rfl (Tri.alloc (Tri.set (x0:=.bool false) (y0:=.slice none 0 0) (z0:=.slice none 0 0) ⟨ay,az,aA,aB,aE,aH⟩ _ _ _) _)) rfl (finZ1 (bS zb gb) (by omega) (by omega))

theorem zex (b:Bool) (v u:Value) (ln ld:List Nat) (w:World) (hv:Rd w v ln) (hu:Rd w u ld) (h1:ln.length<=3000) (h2:ld.length<=3000) (h0:0<val ld) (h3:0<val ln) (hs:szq (rat b (val ln) (val ld))<=1000) :
  Calls Tryz.prog 47 #[aggI b v,u] w (zaf w (rat b (val ln) (val ld))):=by
 have Z0:=Lib.hid h0
 have Z3:=Lib.hid h3
 have Hs:=Lib.hid hs
 have H4:=Lib.hid (Nat.ne_of_gt (zfD h3 h0))
 clear h0 h3 hs
 obtain ⟨a0,n0,c0,rfl,H0,hm0⟩:=hv.open
 obtain ⟨a1,n1,c1,rfl,H1,hm1⟩:=hu.open
 go_enter Tryz.func47,Tryz.ntmps47
 go_wp2_with fail
 obtain ⟨W0,aG⟩:∃ W0,(w.alloc (.cells #[.bool b,.slice a0 n0 c0] 95)).alloc (.cells #[.bool false,.slice none 0 0,.slice none 0 0] 47)=W0:=⟨_,rfl⟩
 have am:=Lib.hid (show ∀ W',Below W0.heap.size W0 W'->(Bx2 W' w.heap.size (.bool b) (.slice a0 n0 c0)/\Bx3 W' (w.heap.size+1) (.bool false) (.slice none 0 0) (.slice none 0 0)) from fun W' hb => by
   refine ⟨bx2 hb ?_ ?_ ?_ ?_,bx3 hb ?_ ?_ ?_ ?_ ?_ ?_⟩
   all_goals first|assumption|(rw [<- aG];simp [go_sem]))
 have zb:Below w.heap.size w W0:=by rw [<- aG];exact bS (bN _ _) (bN _ _)
 rw [aG]
 clear aG
 have i0:=hv.to zb
 have i1:=hu.to zb
 have gb:Below W0.heap.size W0 W0:=Below.refl _ _
 obtain ⟨⟨z0,ac,ae,ag,ah⟩,⟨z1,ay,az,aA,aB,aE,aH⟩⟩:=am.out _ gb
 refine (zeS _ _ ln ld _ (i0.to gb) (i1.to gb) (by omega) (by omega) Z0.out).mono ?_
 clear ac ag ae ah ay aB az aE aA aH
 rintro e w1 ⟨v1,u1,rfl,g1,d1,aX⟩
 obtain ⟨a1_,n1_,c1_,rfl,H1,hm1⟩:=g1.rd.open
 obtain ⟨p1_,m1_,k1_,rfl,J1,jm1⟩:=d1.rd.open
 replace gb:=bS gb aX
 obtain ⟨⟨z0,ac,ae,ag,ah⟩,⟨z1,ay,az,aA,aB,aE,aH⟩⟩:=am.out _ gb
 have hn1:0<n1_:=by rw [<- H1.out];have:=H4.out;rw [zd];exact Nat.pos_of_ne_zero fun e => this (zz.1 e)
 go_wp2_with fail
 have gg:=canR g1 d1 Z0.out Z3.out Hs.out
 refine bodyPost_ret (zW Tryz.results47 _ _ _ _ _ _ rfl (Tri.set (x0:=.bool false) (y0:=.slice none 0 0) (z0:=.slice none 0 0) (⟨ay,az,aA,aB,aE,aH⟩) _ _ _)) rfl (zdL (bS zb gb) (by omega) ?_ gg)
 omega

theorem zeT (b:Bool) (v u:Value) (ln ld:List Nat) (w:World) (hv:Rd w v ln) (hu:Rd w u ld) (h1:ln.length<=3000) (h2:ld.length<=3000) (q:Rat) (hq:rat b (val ln) (val ld)=q) (hs:Hid (szq q<=1000)) :
  Calls Tryz.prog 47 #[aggI b v,u] w (zaf w q):=by
 subst hq
 rcases Nat.eq_zero_or_pos (val ld) with h0|h0
 ·exact zfX b v u ln ld w hv hu h1 h2 h0
 rcases Nat.eq_zero_or_pos (val ln) with h3|h3
 ·exact zey b v u ln ld w hv hu h1 h2 h0 h3
 ·exact zex b v u ln ld w hv hu h1 h2 h0 h3 hs.out

theorem zfW (b:Bool) (v u:Value) (ln ld:List Nat) (c:Bool) (v' u':Value) (ln' ld':List Nat) (w:World) (h:IsF w v u ln ld) (h':IsF w v' u' ln' ld') (o:Bool) (ho:(b == c && decide (ln=ln') && decide (ld=ld'))=o) :
  Calls Tryz.prog 24 #[aggR b v u,aggR c v' u'] w (fun e w' => e=.returned (.bool o)/\Below w.heap.size w w'):=by
 obtain ⟨o1,ho1⟩:∃ o,decide (ln=ln')=o:=⟨_,rfl⟩
 obtain ⟨o2,ho2⟩:∃ o,decide (ld=ld')=o:=⟨_,rfl⟩
 have O1:=Lib.hid ho1
 have O2:=Lib.hid ho2
 rw [ho1,ho2] at ho
 clear ho1 ho2
 obtain ⟨a0,n0,c0,rfl,H0,hm0⟩:=h.1.open
 obtain ⟨a1,n1,c1,rfl,H1,hm1⟩:=h.2.open
 obtain ⟨a2,n2,c2,rfl,H2,hm2⟩:=h'.1.open
 obtain ⟨a3,n3,c3,rfl,H3,hm3⟩:=h'.2.open
 have ho':=Lib.hid ho
 clear ho
 rcases Bool.eq_false_or_eq_true (b == c) with e1|e1
 rotate_left
 ·rw [e1] at ho'
  go_enter Tryz.func24,Tryz.ntmps24
  go_wp2_with fail
  obtain ⟨W0,aG⟩:∃ W0,(w.alloc (.cells #[.bool b,.slice a0 n0 c0,.slice a1 n1 c1] 47)).alloc (.cells #[.bool c,.slice a2 n2 c2,.slice a3 n3 c3] 47)=W0:=⟨_,rfl⟩
  have am:=Lib.hid (show ∀ W',Below W0.heap.size W0 W'->(Bx3 W' w.heap.size (.bool b) (.slice a0 n0 c0) (.slice a1 n1 c1)/\Bx3 W' (w.heap.size+1) (.bool c) (.slice a2 n2 c2) (.slice a3 n3 c3)) from fun W' hb => by
    refine ⟨bx3 hb ?_ ?_ ?_ ?_ ?_ ?_,bx3 hb ?_ ?_ ?_ ?_ ?_ ?_⟩
    all_goals first|assumption|(rw [<- aG];simp [go_sem]))
  have zb:Below w.heap.size w W0:=by rw [<- aG];exact bS (bN _ _) (bN _ _)
  rw [aG]
  clear aG
  have i0:=h.to zb
  have i1:=h'.to zb
  have gb:Below W0.heap.size W0 W0:=Below.refl _ _
  obtain ⟨⟨z0,ac,ae,af,ag,ah,al⟩,⟨z1,ay,az,aA,aB,aE,aH⟩⟩:=am.out _ gb
  go_ret
  exact ⟨zp (congrArg Value.bool (by have k:=ho'.out;simpa using k)),bS zb gb⟩
 rcases Bool.eq_false_or_eq_true o1 with e2|e2
 rotate_left
 ·rw [e1] at ho'
  go_enter Tryz.func24,Tryz.ntmps24
  go_wp2_with fail
  obtain ⟨W0,aG⟩:∃ W0,(w.alloc (.cells #[.bool b,.slice a0 n0 c0,.slice a1 n1 c1] 47)).alloc (.cells #[.bool c,.slice a2 n2 c2,.slice a3 n3 c3] 47)=W0:=⟨_,rfl⟩
  have am:=Lib.hid (show ∀ W',Below W0.heap.size W0 W'->(Bx3 W' w.heap.size (.bool b) (.slice a0 n0 c0) (.slice a1 n1 c1)/\Bx3 W' (w.heap.size+1) (.bool c) (.slice a2 n2 c2) (.slice a3 n3 c3)) from fun W' hb => by
    refine ⟨bx3 hb ?_ ?_ ?_ ?_ ?_ ?_,bx3 hb ?_ ?_ ?_ ?_ ?_ ?_⟩
    all_goals first|assumption|(rw [<- aG];simp [go_sem]))
  have zb:Below w.heap.size w W0:=by rw [<- aG];exact bS (bN _ _) (bN _ _)
  rw [aG]
  clear aG
  have i0:=h.to zb
  have i1:=h'.to zb
  have gb:Below W0.heap.size W0 W0:=Below.refl _ _
  obtain ⟨⟨z0,ac,ae,af,ag,ah,al⟩,⟨z1,ay,az,aA,aB,aE,aH⟩⟩:=am.out _ gb
  refine (zhO _ _ _ _ o1 _ (i0.to gb).1 (i1.to gb).1 O1).mono ?_
  clear ac ag ae ah af al ay aB az aE aA aH
  rintro e w1 ⟨rfl,aX⟩
  replace gb:=bS gb aX
  obtain ⟨⟨z0,ac,ae,af,ag,ah,al⟩,⟨z1,ay,az,aA,aB,aE,aH⟩⟩:=am.out _ gb
  obtain rfl:=e2
  go_wp2_with fail
  go_ret
  exact ⟨zp (congrArg Value.bool (by have k:=ho'.out;simpa using k)),bS zb gb⟩
 ·rw [e1] at ho'
  go_enter Tryz.func24,Tryz.ntmps24
  go_wp2_with fail
  obtain ⟨W0,aG⟩:∃ W0,(w.alloc (.cells #[.bool b,.slice a0 n0 c0,.slice a1 n1 c1] 47)).alloc (.cells #[.bool c,.slice a2 n2 c2,.slice a3 n3 c3] 47)=W0:=⟨_,rfl⟩
  have am:=Lib.hid (show ∀ W',Below W0.heap.size W0 W'->(Bx3 W' w.heap.size (.bool b) (.slice a0 n0 c0) (.slice a1 n1 c1)/\Bx3 W' (w.heap.size+1) (.bool c) (.slice a2 n2 c2) (.slice a3 n3 c3)) from fun W' hb => by
    refine ⟨bx3 hb ?_ ?_ ?_ ?_ ?_ ?_,bx3 hb ?_ ?_ ?_ ?_ ?_ ?_⟩
    all_goals first|assumption|(rw [<- aG];simp [go_sem]))
  have zb:Below w.heap.size w W0:=by rw [<- aG];exact bS (bN _ _) (bN _ _)
  rw [aG]
  clear aG
  have i0:=h.to zb
  have i1:=h'.to zb
  have gb:Below W0.heap.size W0 W0:=Below.refl _ _
  obtain ⟨⟨z0,ac,ae,af,ag,ah,al⟩,⟨z1,ay,az,aA,aB,aE,aH⟩⟩:=am.out _ gb
  refine (zhO _ _ _ _ o1 _ (i0.to gb).1 (i1.to gb).1 O1).mono ?_
  clear ac ag ae ah af al ay aB az aE aA aH
  rintro e w1 ⟨rfl,aX⟩
  replace gb:=bS gb aX
  obtain ⟨⟨z0,ac,ae,af,ag,ah,al⟩,⟨z1,ay,az,aA,aB,aE,aH⟩⟩:=am.out _ gb
  obtain rfl:=e2
  go_wp2_with fail
  refine (zhO _ _ _ _ o2 _ (i0.to gb).2 (i1.to gb).2 O2).mono ?_
  clear ac ag ae ah af al ay aB az aE aA aH
  rintro e w2 ⟨rfl,aR⟩
  replace gb:=bS gb aR
  obtain ⟨⟨z0,ac,ae,af,ag,ah,al⟩,⟨z1,ay,az,aA,aB,aE,aH⟩⟩:=am.out _ gb
  go_wp2_with fail
  go_ret
  exact ⟨zp (congrArg Value.bool (by have k:=ho'.out;simpa using k)),bS zb gb⟩

end Go.Proofs.YtkjcdnlpjldhaaaGreat


namespace Go.Proofs.YtkjcdnlpjldhaaaGreat
open Go.RowKit Tw
attribute [local go_sem ↓] Go.wp_at_zero Go.wp_at_succ

theorem rof_c (n z:Int) (w:World) (hz:z=n) (n0:-9223372036854775808<=n) (n1:n<9223372036854775808) :
  Calls Tryz.prog 48 #[.int .i64 n] w (zfs w z) :=
 (ref7_of n z w hz n0 n1).mono fun e w' h => zha rfl (Nat.le_trans (zdj (by omega) (by omega)) (by omega)) h

theorem zca (n:Nat):((n:Int) == 0)=decide (n=0):=by
 rw [Bool.eq_iff_iff];simp

theorem zaf.more {w w':World} {q:Rat} {e:Ending} (h:zaf w q e w') (o:Obj):zaf w q e (w'.alloc o):=by
 obtain ⟨ng,a,n,c,a',n',c',rfl,g,hb⟩:=h
 exact ⟨_,_,_,_,_,_,_,rfl,(g.alloc o).mono (Nat.le_refl _) (by simp),bS hb (bN _ _)⟩

theorem num_ne {x:Rat} (h:x≠0):x.num≠0:=fun e => h (Rat.num_eq_zero.1 e)

theorem zab.zeroQ {lo hi:Nat} {w:World} {ng o:Bool} {a:Option Addr} {n c:Nat} {u:Value} {x:Rat} (g:zab lo hi w ng (.slice a n c) u x) (h:decide (x=0)=o):decide (n=0)=o:=by
 obtain ⟨_,_,e⟩:=g.1.rd.shape
 injection e with _ e _
 rw [<- h,e,zd,decide_eq_decide,zz,Int.natAbs_eq_zero]
 exact Rat.num_eq_zero

theorem zjn {b:Bool} {ln ld:List Nat} (hn:Small ln) (hd:Small ld) :
  zcS b ln ld (rat b (val ln) (val ld))=(decide (sz (val ln)=ln.length) && decide (sz (val ld)=ld.length) && (Nat.gcd (val ln) (val ld) == 1) && decide (0<ld.length) && !(b && decide (ln.length=0))):=by
 rw [Bool.eq_iff_iff]
 unfold zcS
 simp only [Bool.and_eq_true,beq_iff_eq,decide_eq_true_eq,Bool.not_eq_true',<- zdr hn,<- zdr hd]
 by_cases h0:val ld=0
 ·rw [h0,zbI]
  constructor
  ·rintro ⟨_,h⟩
   rw [<- h,vL] at h0
   exact absurd h0 (by decide)
  ·rintro ⟨⟨⟨⟨_,h1⟩,_⟩,h2⟩,_⟩
   rw [<- h1] at h2
   exact absurd h2 (by simp [zw])
 ·rw [zhp h0,zho h0]
  have hp:0<ld.length:=by
   refine Nat.pos_of_ne_zero fun e => h0 ?_
   rw [List.length_eq_zero_iff.1 e];rfl
  constructor
  ·rintro ⟨⟨h1,h2⟩,h3⟩
   have e2:=congrArg val h2
   have e3:=congrArg val h3
   rw [vL] at e2 e3
   have hg:Nat.gcd (val ln) (val ld)=1:=by
    have h5:Nat.gcd (val ln) (val ld) ∣ val ld:=Nat.gcd_dvd_right _ _
    have h6:=Nat.div_mul_cancel h5
    rw [e3] at h6
    exact Nat.eq_of_mul_eq_mul_left (Nat.pos_of_ne_zero h0) (by rw [h6,Nat.mul_one])
   rw [hg,Nat.div_one] at h2 h3
   refine ⟨⟨⟨⟨h2,h3⟩,hg⟩,hp⟩,?_⟩
   cases b with
   | false => rfl
   | true =>
    simp only [Bool.true_and,decide_eq_false_iff_not]
    intro hl
    rw [List.length_eq_zero_iff.1 hl,show val []=0 from rfl,zbJ] at h1
    exact absurd h1 (by decide +kernel)
  ·rintro ⟨⟨⟨⟨h2,h3⟩,hg⟩,_⟩,h5⟩
   rw [hg,Nat.div_one,Nat.div_one]
   refine ⟨⟨?_,h2⟩,h3⟩
   by_cases hz:val ln=0
   ·rw [hz,zbJ]
    rw [hz,zw] at h2
    rw [<- h2] at h5
    cases b with
    | false => decide +kernel
    | true => simp at h5
   ·exact zjX b h0 hz

theorem zkQ {w:World} {b:Bool} {v u:Value} {ln ld:List Nat} {x:Rat} (h:IsQ w b v u ln ld x) :
  zcS b ln ld x=(decide (sz (val ln)=ln.length) && decide (sz (val ld)=ld.length) && (Nat.gcd (val ln) (val ld) == 1) && decide (0<ld.length) && !(b && decide (ln.length=0))):=by
 rw [<- h.2.2.1]
 exact zjn h.1.1 h.2.1.1

theorem zfq (n z:Int) (w:World) (hz:z=n) (m0:-9223372036854775808<=n) (m1:n<9223372036854775808) :
  Calls Tryz.prog 25 #[.int .i64 n] w (zaf w (z:Rat)):=by
 have Hz:=Lib.hid hz
 have S1:=Lib.hid (zdj (z:=z) (by omega) (by omega))
 have S2:=Lib.hid (show szq (z:Rat)<=1000 from zkg S1.out)
 have H9:=Lib.hid (show ∀ ng,decide (z<0)=ng->rat ng (val (zc z.natAbs)) (val [1])=(z:Rat) from fun ng e => by rw [<- e,show val [1]=val (zc (1:Int).toNat) by decide +kernel];exact zjW z)
 clear hz
 go_enter Tryz.func25,Tryz.ntmps25
 go_wp2_with fail
 obtain ⟨W0,aG⟩:∃ W0,w.alloc (.cells #[.bool false,.slice none 0 0,.slice none 0 0] 47)=W0:=⟨_,rfl⟩
 have am:=Lib.hid (show ∀ W',Below W0.heap.size W0 W'->(Bx3 W' w.heap.size (.bool false) (.slice none 0 0) (.slice none 0 0)) from fun W' hb => by
   apply bx3 hb
   all_goals first|assumption|(rw [<- aG];simp [go_sem]))
 have zb:Below w.heap.size w W0:=by rw [<- aG];exact bN _ _
 rw [aG]
 clear aG
 have gb:Below W0.heap.size W0 W0:=Below.refl _ _
 obtain ⟨z0,ac,ae,af,ag,ah,al⟩:=am.out _ gb
 refine (rof_c n z _ Hz.out m0 m1).mono ?_
 clear ac ag ae ah af al
 rintro e w1 ⟨ng1,a1_,n1_,c1_,rfl,g1,aX⟩
 replace gb:=bS gb aX
 obtain ⟨z0,ac,ae,af,ag,ah,al⟩:=am.out _ gb
 go_wp2_with fail
 have H8:=Lib.hid (H9.out ng1 (by have k:=g1.2.1;exact k))
 obtain ⟨W1,aO⟩:∃ W1,w1.alloc (.cells #[.int .u32 1] 97)=W1:=⟨_,rfl⟩
 have hb_W1:Below w1.heap.size w1 W1:=by rw [<- aO];exact bN _ _
 have d_W1:Rd W1 (.slice (some ⟨w1.heap.size,0,none⟩) 1 1) [1]:=by rw [<- aO];exact lit1 (a:=1) w1 (by omega)
 clear ac ag ae ah af al
 replace g1:=g1.to hb_W1
 replace gb:=bS gb hb_W1
 obtain ⟨z0,ac,ae,af,ag,ah,al⟩:=am.out _ gb
 rw [aO]
 clear aO
 refine (zeT ng1 _ _ _ _ _ g1.isI.up d_W1 (Nat.le_trans S1.out (by omega)) (by simp) (z:Rat) H8.out S2).mono ?_
 clear ac ag ae ah af al
 rintro e w2 ⟨ng2,a2_,n2_,c2_,p2_,m2_,k2_,rfl,g2,aR⟩
 replace g1:=g1.to aR
 replace d_W1:=d_W1.to aR
 replace gb:=bS gb aR
 obtain ⟨z0,ac,ae,af,ag,ah,al⟩:=am.out _ gb
 go_wp2_with fail
 refine bodyPost_ret (zW Tryz.results25 _ _ _ _ _ _ rfl (Tri.set (x0:=.bool false) (y0:=.slice none 0 0) (z0:=.slice none 0 0) ⟨ac,ae,af,ag,ah,al⟩ _ _ _)) rfl (zdL (bS zb gb) (by omega) ?_ g2)
 omega

theorem zcQ {x:Rat} (b:Bool) (v u:Value) (ln ld:List Nat) (w:World) (h:IsQ w b v u ln ld x) (o:Bool) (ho:zcS b ln ld x=o) :
  Calls Tryz.prog 83 #[aggR b v u] w (fun e w' => e=.returned (.bool o)/\Below w.heap.size w w'):=by
 obtain ⟨r1,h1⟩:∃ r,decide (sz (val ln)=ln.length)=r:=⟨_,rfl⟩
 obtain ⟨r2,h2⟩:∃ r,decide (sz (val ld)=ld.length)=r:=⟨_,rfl⟩
 obtain ⟨r3,h3⟩:∃ r,(Nat.gcd (val ln) (val ld) == 1)=r:=⟨_,rfl⟩
 have R1:=Lib.hid h1
 have R2:=Lib.hid h2
 have R3:=Lib.hid h3
 have HO:=Lib.hid (show (r1 && r2 && r3 && decide (0<ld.length) && !(b && decide (ln.length=0)))=o by rw [<- ho,zkQ h,h1,h2,h3])
 clear ho h1 h2 h3
 have L1:=h.lup
 have L2:=h.ldn
 obtain ⟨a0,n0,c0,rfl,H0,hm0⟩:=h.1.open
 obtain ⟨a1,n1,c1,rfl,H1,hm1⟩:=h.2.1.open
 rw [H0.out,H1.out] at HO
 have l1:=H0.out
 have l2:=H1.out
 rw [l1] at L1
 rw [l2] at L2
 clear l1 l2
 rcases Bool.eq_false_or_eq_true r1 with rfl|rfl
 rotate_left
 
 ·skip
  go_enter Tryz.func83,Tryz.ntmps83
  go_wp2_with fail
  obtain ⟨W0,aG⟩:∃ W0,w.alloc (.cells #[.bool b,.slice a0 n0 c0,.slice a1 n1 c1] 47)=W0:=⟨_,rfl⟩
  have am:=Lib.hid (show ∀ W',Below W0.heap.size W0 W'->(Bx3 W' w.heap.size (.bool b) (.slice a0 n0 c0) (.slice a1 n1 c1)) from fun W' hb => by
    apply bx3 hb
    all_goals first|assumption|(rw [<- aG];simp [go_sem]))
  have zb:Below w.heap.size w W0:=by rw [<- aG];exact bN _ _
  rw [aG]
  clear aG
  have i0:=h.to zb
  have gb:Below W0.heap.size W0 W0:=Below.refl _ _
  obtain ⟨z0,ac,ae,af,ag,ah,al⟩:=am.out _ gb
  refine (zbq _ _ _ (i0.to gb).up).mono ?_
  rintro e w1 ⟨rfl,rfl⟩
  rw [R1.out]
  go_wp2_with fail
  go_ret
  exact ⟨zp (congrArg Value.bool (by have k:=HO.out;first|(simpa using k)|(simpa [*] using k)|(rw [<- k];simp [*,zca]))),bS zb gb⟩
 rcases Bool.eq_false_or_eq_true r2 with rfl|rfl
 rotate_left
 
 ·skip
  go_enter Tryz.func83,Tryz.ntmps83
  go_wp2_with fail
  obtain ⟨W0,aG⟩:∃ W0,w.alloc (.cells #[.bool b,.slice a0 n0 c0,.slice a1 n1 c1] 47)=W0:=⟨_,rfl⟩
  have am:=Lib.hid (show ∀ W',Below W0.heap.size W0 W'->(Bx3 W' w.heap.size (.bool b) (.slice a0 n0 c0) (.slice a1 n1 c1)) from fun W' hb => by
    apply bx3 hb
    all_goals first|assumption|(rw [<- aG];simp [go_sem]))
  have zb:Below w.heap.size w W0:=by rw [<- aG];exact bN _ _
  rw [aG]
  clear aG
  have i0:=h.to zb
  have gb:Below W0.heap.size W0 W0:=Below.refl _ _
  obtain ⟨z0,ac,ae,af,ag,ah,al⟩:=am.out _ gb
  refine (zbq _ _ _ (i0.to gb).up).mono ?_
  rintro e w1 ⟨rfl,rfl⟩
  rw [R1.out]
  go_wp2_with fail
  refine (zbq _ _ _ (i0.to gb).dn).mono ?_
  rintro e w1 ⟨rfl,rfl⟩
  rw [R2.out]
  go_wp2_with fail
  go_ret
  exact ⟨zp (congrArg Value.bool (by have k:=HO.out;first|(simpa using k)|(simpa [*] using k)|(rw [<- k];simp [*,zca]))),bS zb gb⟩
 rcases Bool.eq_false_or_eq_true r3 with rfl|rfl
 rotate_left
 
 ·skip
  go_enter Tryz.func83,Tryz.ntmps83
  go_wp2_with fail
  obtain ⟨W0,aG⟩:∃ W0,w.alloc (.cells #[.bool b,.slice a0 n0 c0,.slice a1 n1 c1] 47)=W0:=⟨_,rfl⟩
  have am:=Lib.hid (show ∀ W',Below W0.heap.size W0 W'->(Bx3 W' w.heap.size (.bool b) (.slice a0 n0 c0) (.slice a1 n1 c1)) from fun W' hb => by
    apply bx3 hb
    all_goals first|assumption|(rw [<- aG];simp [go_sem]))
  have zb:Below w.heap.size w W0:=by rw [<- aG];exact bN _ _
  rw [aG]
  clear aG
  have i0:=h.to zb
  have gb:Below W0.heap.size W0 W0:=Below.refl _ _
  obtain ⟨z0,ac,ae,af,ag,ah,al⟩:=am.out _ gb
  refine (zbq _ _ _ (i0.to gb).up).mono ?_
  rintro e w1 ⟨rfl,rfl⟩
  rw [R1.out]
  go_wp2_with fail
  refine (zbq _ _ _ (i0.to gb).dn).mono ?_
  rintro e w1 ⟨rfl,rfl⟩
  rw [R2.out]
  go_wp2_with fail
  refine (zdI _ _ _ _ false _ (i0.to gb).up (i0.to gb).dn (by have:=h.lup;omega) (by have:=h.ldn;omega) R3).mono ?_
  clear ac ag ae ah af al
  rintro e w2 ⟨rfl,aR⟩
  replace gb:=bS gb aR
  obtain ⟨z0,ac,ae,af,ag,ah,al⟩:=am.out _ gb
  go_wp2_with fail
  go_ret
  exact ⟨zp (congrArg Value.bool (by have k:=HO.out;first|(simpa using k)|(simpa [*] using k)|(rw [<- k];simp [*,zca]))),bS zb gb⟩
 go_enter Tryz.func83,Tryz.ntmps83
 go_wp2_with fail
 obtain ⟨W0,aG⟩:∃ W0,w.alloc (.cells #[.bool b,.slice a0 n0 c0,.slice a1 n1 c1] 47)=W0:=⟨_,rfl⟩
 have am:=Lib.hid (show ∀ W',Below W0.heap.size W0 W'->(Bx3 W' w.heap.size (.bool b) (.slice a0 n0 c0) (.slice a1 n1 c1)) from fun W' hb => by
   apply bx3 hb
   all_goals first|assumption|(rw [<- aG];simp [go_sem]))
 have zb:Below w.heap.size w W0:=by rw [<- aG];exact bN _ _
 rw [aG]
 clear aG
 have i0:=h.to zb
 have gb:Below W0.heap.size W0 W0:=Below.refl _ _
 obtain ⟨z0,ac,ae,af,ag,ah,al⟩:=am.out _ gb
 refine (zbq _ _ _ (i0.to gb).up).mono ?_
 rintro e w1 ⟨rfl,rfl⟩
 rw [R1.out]
 go_wp2_with fail
 refine (zbq _ _ _ (i0.to gb).dn).mono ?_
 rintro e w1 ⟨rfl,rfl⟩
 rw [R2.out]
 go_wp2_with fail
 refine (zdI _ _ _ _ true _ (i0.to gb).up (i0.to gb).dn (by have:=h.lup;omega) (by have:=h.ldn;omega) R3).mono ?_
 clear ac ag ae ah af al
 rintro e w2 ⟨rfl,aR⟩
 replace gb:=bS gb aR
 obtain ⟨z0,ac,ae,af,ag,ah,al⟩:=am.out _ gb
 rcases Nat.eq_zero_or_pos n1 with rfl|e1
 ·skip
  go_wp2_with fail
  go_ret
  exact ⟨zp (congrArg Value.bool (by have k:=HO.out;first|(simpa using k)|(simpa [*] using k)|(rw [<- k];simp [*,zca]))),bS zb gb⟩
 rcases Bool.eq_false_or_eq_true b with rfl|rfl
 rotate_left
 ·skip
  go_wp2_with fail
  go_ret
  exact ⟨zp (congrArg Value.bool (by have k:=HO.out;first|(simpa using k)|(simpa [*] using k)|(rw [<- k];simp [*,zca]))),bS zb gb⟩
 ·skip
  go_wp2_with fail
  go_ret
  exact ⟨zp (congrArg Value.bool (by have k:=HO.out;first|(simpa using k)|(simpa [*] using k)|(rw [<- k];simp [*,zca]))),bS zb gb⟩

end Go.Proofs.YtkjcdnlpjldhaaaGreat


namespace Go.Proofs.YtkjcdnlpjldhaaaGreat
open Go.RowKit Tw
attribute [local go_sem ↓] Go.wp_at_zero Go.wp_at_succ

theorem zcm.ng {lo hi:Nat} {w:World} {b:Bool} {v:Value} {z:Int} (h:zcm lo hi w b v z):decide (z<0)=b:=h.2.1

theorem zdS {x y:Rat} (hx:szq x<=1000) (hy:szq y<=1000):(zc (x.num*(y.den:Int)).natAbs).length<=3000:=by
 rw [zd]
 have h1:=zcF x.num (y.den:Int)
 have h2:=zak x
 have h3:=zX y
 unfold szi at h1
 rw [Int.natAbs_natCast] at h1
 omega

theorem div_rat (x:Rat) {y:Rat} (h0:y≠0) :
  rat (decide (x.num*(y.den:Int)<0) != decide ((x.den:Int)*y.num<0)) (x.num*(y.den:Int)).natAbs ((x.den:Int)*y.num).natAbs=x / y:=by
 have h1:y.num≠0:=fun e => h0 (Rat.num_eq_zero.1 e)
 have hx:=x.den_pos
 have hy:=y.den_pos
 have e1:decide (x.num*(y.den:Int)<0)=decide (x.num<0):=by
  rw [decide_eq_decide]
  exact ⟨fun k => Int.not_le.1 fun k' => absurd (Int.mul_nonneg k' (Int.natCast_nonneg y.den)) (by omega),fun k => Int.mul_neg_of_neg_of_pos k (by omega)⟩
 have e2:decide ((x.den:Int)*y.num<0)=decide (y.num<0):=by
  rw [decide_eq_decide]
  exact ⟨fun k => Int.not_le.1 fun k' => absurd (Int.mul_nonneg (Int.natCast_nonneg x.den) k') (by omega),fun k => by rw [Int.mul_comm];exact Int.mul_neg_of_neg_of_pos k (by omega)⟩
 rw [e1,e2,Int.natAbs_mul,Int.natAbs_mul,Int.natAbs_natCast,Int.natAbs_natCast,<- zfp,Rat.div_def,<- zcz,<- zcz,zcs]
 congr 1
 have hi:=zcs y⁻¹
 rw [<- hi]
 have h3:=(zcz y⁻¹)
 rw [Rat.num_inv,Rat.den_inv,if_neg h1,Int.natAbs_mul,Int.natAbs_sign_of_ne_zero h1,Nat.one_mul,Int.natAbs_natCast]
 congr 1
 rw [zcz,zcz,Rat.num_inv,decide_eq_decide]
 rcases Int.lt_trichotomy y.num 0 with k|k|k
 ·rw [Int.sign_eq_neg_one_of_neg k];omega
 ·exact absurd k h1
 ·rw [Int.sign_eq_one_of_pos k];omega

theorem zhq {x y:Rat} (b:Bool) (v u:Value) (ln ld:List Nat) (c:Bool) (v' u':Value) (ln' ld':List Nat) (w:World) (h:IsQ w b v u ln ld x) (h':IsQ w c v' u' ln' ld' y) (h0:y=0) :
  Calls Tryz.prog 120 #[aggR b v u,aggR c v' u'] w (fun e w' => e=.returned (.tuple #[aggR false (.slice none 0 0) (.slice none 0 0),.int .i64 3])/\Below w.heap.size w w'):=by
 have Hx:Hid (szq x<=1000):=zaF h
 have Hy:Hid (szq y<=1000):=zaF h'
 have S1:=Lib.hid (show szi (x.num*(y.den:Int))<=90000 from zdf Hx.out Hy.out)
 have S2:=Lib.hid (show szi ((x.den:Int)*y.num)<=90000 by rw [Int.mul_comm];exact zdf Hy.out Hx.out)
 have S5:=Lib.hid (show (zc (x.num*(y.den:Int)).natAbs).length<=3000 from zdS Hx.out Hy.out)
 have S6:=Lib.hid (show (zc ((x.den:Int)*y.num).natAbs).length<=3000 by rw [Int.mul_comm];exact zdS Hy.out Hx.out)
 have HZ:=Lib.hid (show val (zc ((x.den:Int)*y.num).natAbs)=0 by rw [vL,h0];simp)
 obtain ⟨a0,n0,c0,rfl,H0,hm0⟩:=h.1.open
 obtain ⟨a1,n1,c1,rfl,H1,hm1⟩:=h.2.1.open
 obtain ⟨a2,n2,c2,rfl,H2,hm2⟩:=h'.1.open
 obtain ⟨a3,n3,c3,rfl,H3,hm3⟩:=h'.2.1.open
 clear h0
 go_enter Tryz.func120,Tryz.ntmps120
 go_wp2_with fail
 obtain ⟨W0,aG⟩:∃ W0,((w.alloc (.cells #[.bool b,.slice a0 n0 c0,.slice a1 n1 c1] 47)).alloc (.cells #[.bool c,.slice a2 n2 c2,.slice a3 n3 c3] 47)).alloc (.cells #[.bool false,.slice none 0 0,.slice none 0 0] 47)=W0:=⟨_,rfl⟩
 have am:=Lib.hid (show ∀ W',Below W0.heap.size W0 W'->(W'.cell? ⟨w.heap.size,0,none⟩=some (.bool b)/\W'.cell? ⟨w.heap.size,1,none⟩=some (.slice a0 n0 c0)/\W'.cell? ⟨w.heap.size,2,none⟩=some (.slice a1 n1 c1)/\W'.cell? ⟨w.heap.size+1,0,none⟩=some (.bool c)/\W'.cell? ⟨w.heap.size+1,1,none⟩=some (.slice a2 n2 c2)/\W'.cell? ⟨w.heap.size+1,2,none⟩=some (.slice a3 n3 c3)/\W'.cell? ⟨w.heap.size+1+1,0,none⟩=some (.bool false)/\W'.cell? ⟨w.heap.size+1+1,1,none⟩=some (.slice none 0 0)/\W'.cell? ⟨w.heap.size+1+1,2,none⟩=some (.slice none 0 0)) from fun W' hb =>
  by and_intros <;> exact kc hb (by first|assumption|(rw [<- aG];simp [go_sem])))
 have cx:=Lib.hid (show ∀ W',Below W0.heap.size W0 W'->(W'.frozen? ⟨w.heap.size,0,none⟩=false/\W'.frozen? ⟨w.heap.size,1,none⟩=false/\W'.frozen? ⟨w.heap.size,2,none⟩=false/\W'.frozen? ⟨w.heap.size+1,0,none⟩=false/\W'.frozen? ⟨w.heap.size+1,1,none⟩=false/\W'.frozen? ⟨w.heap.size+1,2,none⟩=false/\W'.frozen? ⟨w.heap.size+1+1,0,none⟩=false/\W'.frozen? ⟨w.heap.size+1+1,1,none⟩=false/\W'.frozen? ⟨w.heap.size+1+1,2,none⟩=false) from fun W' hb =>
  by and_intros <;> refine (hb.frozen ?_).trans ?_ <;> first|assumption|(rw [<- aG];simp [go_sem])|(rw [<- aG];simp <;> omega))
 have cy:=Lib.hid (show ∀ W',Below W0.heap.size W0 W'->(w.heap.size<W'.heap.size/\w.heap.size+1<W'.heap.size/\w.heap.size+1+1<W'.heap.size) from fun W' hb =>
  by and_intros <;> refine Nat.lt_of_lt_of_le ?_ hb.size <;> first|assumption|(rw [<- aG];simp <;> omega))
 have zb:Below w.heap.size w W0:=by rw [<- aG];exact bS (bS (bN _ _) (bN _ _)) (bN _ _)
 rw [aG]
 clear aG
 have i0:=h.to zb
 have i1:=h'.to zb
 have gb:Below W0.heap.size W0 W0:=Below.refl _ _
 obtain ⟨ac,ae,af,ay,az,aA,bs,bt,b8⟩:=am.out _ gb
 obtain ⟨ag,ah,al,aB,aE,aH,bP,bQ,cf⟩:=cx.out _ gb
 obtain ⟨z0,z1,z2⟩:=cy.out _ gb
 have hgb:=gb
 go_upto_region 1 with fail
 go_cut [6,7] from 8 (fun s6 s7 wx => zbH W0 (x) s6 wx/\zbH W0 (y) s7 wx)
 case first =>
  go_region_held3 (fun W' => W'.cell? ⟨w.heap.size,0,none⟩=some (.bool b)/\W'.cell? ⟨w.heap.size,1,none⟩=some (.slice a0 n0 c0)/\W'.cell? ⟨w.heap.size,2,none⟩=some (.slice a1 n1 c1)/\W'.cell? ⟨w.heap.size+1,0,none⟩=some (.bool c)/\W'.cell? ⟨w.heap.size+1,1,none⟩=some (.slice a2 n2 c2)/\W'.cell? ⟨w.heap.size+1,2,none⟩=some (.slice a3 n3 c3)/\W'.cell? ⟨w.heap.size+1+1,0,none⟩=some (.bool false)/\W'.cell? ⟨w.heap.size+1+1,1,none⟩=some (.slice none 0 0)/\W'.cell? ⟨w.heap.size+1+1,2,none⟩=some (.slice none 0 0)) (with_reducible first|(exact am.out _ gb)|((refine am.out _ ?_);first|((refine Below.drew ?_);first|(exact gb)|((refine bT ?_ ?_ _ _ _);rotate_left;(first|(exact aL)|(exact aP)|(exact aM)|(exact aQ));first|(exact gb)|((refine bT ?_ ?_ _ _ _);rotate_left;(first|(exact aL)|(exact aP)|(exact aM)|(exact aQ));exact gb)|((refine bS ?_ (bN _ _));exact gb))|((refine bS ?_ (bN _ _));first|(exact gb)|((refine bT ?_ ?_ _ _ _);rotate_left;(first|(exact aL)|(exact aP)|(exact aM)|(exact aQ));exact gb)|((refine bS ?_ (bN _ _));exact gb)))|(first|(exact gb)|((refine bT ?_ ?_ _ _ _);rotate_left;(first|(exact aL)|(exact aP)|(exact aM)|(exact aQ));first|(exact gb)|((refine bT ?_ ?_ _ _ _);rotate_left;(first|(exact aL)|(exact aP)|(exact aM)|(exact aQ));first|(exact gb)|((refine bT ?_ ?_ _ _ _);rotate_left;(first|(exact aL)|(exact aP)|(exact aM)|(exact aQ));first|(exact gb)|((refine bT ?_ ?_ _ _ _);rotate_left;(first|(exact aL)|(exact aP)|(exact aM)|(exact aQ));exact gb)|((refine bS ?_ (bN _ _));exact gb))|((refine bS ?_ (bN _ _));first|(exact gb)|((refine bT ?_ ?_ _ _ _);rotate_left;(first|(exact aL)|(exact aP)|(exact aM)|(exact aQ));exact gb)|((refine bS ?_ (bN _ _));exact gb)))|((refine bS ?_ (bN _ _));first|(exact gb)|((refine bT ?_ ?_ _ _ _);rotate_left;(first|(exact aL)|(exact aP)|(exact aM)|(exact aQ));first|(exact gb)|((refine bT ?_ ?_ _ _ _);rotate_left;(first|(exact aL)|(exact aP)|(exact aM)|(exact aQ));exact gb)|((refine bS ?_ (bN _ _));exact gb))|((refine bS ?_ (bN _ _));first|(exact gb)|((refine bT ?_ ?_ _ _ _);rotate_left;(first|(exact aL)|(exact aP)|(exact aM)|(exact aQ));exact gb)|((refine bS ?_ (bN _ _));exact gb))))|((refine bS ?_ (bN _ _));first|(exact gb)|((refine bT ?_ ?_ _ _ _);rotate_left;(first|(exact aL)|(exact aP)|(exact aM)|(exact aQ));first|(exact gb)|((refine bT ?_ ?_ _ _ _);rotate_left;(first|(exact aL)|(exact aP)|(exact aM)|(exact aQ));first|(exact gb)|((refine bT ?_ ?_ _ _ _);rotate_left;(first|(exact aL)|(exact aP)|(exact aM)|(exact aQ));exact gb)|((refine bS ?_ (bN _ _));exact gb))|((refine bS ?_ (bN _ _));first|(exact gb)|((refine bT ?_ ?_ _ _ _);rotate_left;(first|(exact aL)|(exact aP)|(exact aM)|(exact aQ));exact gb)|((refine bS ?_ (bN _ _));exact gb)))|((refine bS ?_ (bN _ _));first|(exact gb)|((refine bT ?_ ?_ _ _ _);rotate_left;(first|(exact aL)|(exact aP)|(exact aM)|(exact aQ));first|(exact gb)|((refine bT ?_ ?_ _ _ _);rotate_left;(first|(exact aL)|(exact aP)|(exact aM)|(exact aQ));exact gb)|((refine bS ?_ (bN _ _));exact gb))|((refine bS ?_ (bN _ _));first|(exact gb)|((refine bT ?_ ?_ _ _ _);rotate_left;(first|(exact aL)|(exact aP)|(exact aM)|(exact aQ));exact gb)|((refine bS ?_ (bN _ _));exact gb))))))) (first
   | (go_at_call 142;(refine zf w1 (by with_reducible first|exact Below.refl _ _|exact bN _ _|exact bS (bN _ _) (bN _ _)) ?_);intro V2 dq b6;have ek:=b6.size;have dH:=gb.size;have g1:=g1.to b6;have gb:=bS gb b6;(try have ak:=ak.to b6);(try have bh:=bh.to b6);(try have aN:Tri V2 (w1.heap.size) (.bool false) (.slice none 0 0) (.slice none 0 0):=(by rw [dq];with_reducible first|exact ze _ (.bool false) (.slice none 0 0) (.slice none 0 0) _|exact (ze _ (.bool false) (.slice none 0 0) (.slice none 0 0) _).alloc _));have aM:W0.heap.size<=w1.heap.size:=(dH);have bm:w1.heap.size<=w1.heap.size:=(Nat.le_refl _);(try have bY:Tri V2 (w1.heap.size+1) (.bool false) (.slice none 0 0) (.slice none 0 0):=(by rw [dq];first|with_reducible exact zal _ _ (.bool false) (.slice none 0 0) (.slice none 0 0) _));have aQ:W0.heap.size<=w1.heap.size+1:=(Nat.le_succ_of_le dH);have bn:w1.heap.size<=w1.heap.size+1:=(Nat.le_succ _);(try have aS:=ak.lt);(try have bL:=bh.lt);(try have aT:=aN.lt);(try have bM:=bY.lt);(with_reducible refine (zbm c _ _ ln' ld' _ (i1.to gb) Hy).mono ?_);rintro e w2 ⟨ng2,a2_,n2_,c2_,p2_,m2_,k2_,rfl,g2,aR⟩;have g1:=g1.to aR;have gb:=bS gb aR;have dR:=aR.size;(try have ak:=ak.to aR);(try have bh:=bh.to aR);(try have aN:=aN.to aR);(try have bY:=bY.to aR);(try have cg:=ak.lt);(try have eU:=bh.lt);(try have ch:=aN.lt);(try have eV:=bY.lt);(try (have aW:=ak;obtain ⟨bv,bw,bx,bA,bB,bC⟩:=aW));(try (have c9:=bh;obtain ⟨dT,dU,dV,dW,dX,dY⟩:=c9));(try (have b7:=aN;obtain ⟨cA,cB,cE,cF,cG,cH⟩:=b7));(try (have eA:=bY;obtain ⟨fs,ft,fu,fw,fx,fy⟩:=eA)))
   | (go_at_call 142;(refine zf W0 (by with_reducible first|exact (Below.refl _ _).drew|exact (bN _ _).drew|exact (bS (bN _ _) (bN _ _)).drew) ?_);intro V1 dt cq;have ej:=cq.size;have dc:=gb.size;have gb:=bS gb cq;(try have ak:Tri V1 (W0.heap.size) (.bool false) (.slice none 0 0) (.slice none 0 0):=(by rw [dt];with_reducible first|exact (ze _ (.bool false) (.slice none 0 0) (.slice none 0 0) _).drew|exact ((ze _ (.bool false) (.slice none 0 0) (.slice none 0 0) _).alloc _).drew));have aL:W0.heap.size<=W0.heap.size:=(dc);(try have bh:Tri V1 (W0.heap.size+1) (.bool false) (.slice none 0 0) (.slice none 0 0):=(by rw [dt];first|with_reducible exact (zal _ _ (.bool false) (.slice none 0 0) (.slice none 0 0) _).drew));have aP:W0.heap.size<=W0.heap.size+1:=(Nat.le_succ_of_le dc);(try have bf:=ak.lt);(try have bK:=bh.lt);(with_reducible refine (zbm b _ _ ln ld _ (i0.to gb) Hx).mono ?_);rintro e w1 ⟨ng1,a1_,n1_,c1_,p1_,m1_,k1_,rfl,g1,aX⟩;have gb:=bS gb aX;have dI:=aX.size;(try have ak:=ak.to aX);(try have bh:=bh.to aX);(try have bu:=ak.lt);(try have cm:=bh.lt);(try (have aW:=ak;obtain ⟨bv,bw,bx,bA,bB,bC⟩:=aW));(try (have c9:=bh;obtain ⟨dT,dU,dV,dW,dX,dY⟩:=c9))))
  all_goals (go_wp2_with fail;go_meet)
  all_goals first
   | (with_reducible exact zk ak bh (Nat.ne_of_lt (Nat.lt_succ_self _)) g1 g2 (.inl bf) (.inl bK) (.inl aS) (.inl bL) gb aL aP)
   | (with_reducible exact zk ak aN (Nat.ne_of_lt bu) g1 g2 (.inl bf) (.inr bm) (.inl aS) (.inl aT) gb aL aM)
   | (with_reducible exact zk ak bY (Nat.ne_of_lt (Nat.lt_succ_of_lt bu)) g1 g2 (.inl bf) (.inr bn) (.inl aS) (.inl bM) gb aL aQ)
   | (with_reducible exact zk bh ak ((Nat.ne_of_lt (Nat.lt_succ_self _)).symm) g1 g2 (.inl bK) (.inl bf) (.inl bL) (.inl aS) gb aP aL)
   | (with_reducible exact zk bh aN (Nat.ne_of_lt cm) g1 g2 (.inl bK) (.inr bm) (.inl bL) (.inl aT) gb aP aM)
   | (with_reducible exact zk bh bY (Nat.ne_of_lt (Nat.lt_succ_of_lt cm)) g1 g2 (.inl bK) (.inr bn) (.inl bL) (.inl bM) gb aP aQ)
   | (with_reducible exact zk aN ak ((Nat.ne_of_lt bu).symm) g1 g2 (.inr bm) (.inl bf) (.inl aT) (.inl aS) gb aM aL)
   | (with_reducible exact zk aN bh ((Nat.ne_of_lt cm).symm) g1 g2 (.inr bm) (.inl bK) (.inl aT) (.inl bL) gb aM aP)
   | (with_reducible exact zk aN bY (Nat.ne_of_lt (Nat.lt_succ_self _)) g1 g2 (.inr bm) (.inr bn) (.inl aT) (.inl bM) gb aM aQ)
   | (with_reducible exact zk bY ak ((Nat.ne_of_lt (Nat.lt_succ_of_lt bu)).symm) g1 g2 (.inr bn) (.inl bf) (.inl bM) (.inl aS) gb aQ aL)
   | (with_reducible exact zk bY bh ((Nat.ne_of_lt (Nat.lt_succ_of_lt cm)).symm) g1 g2 (.inr bn) (.inl bK) (.inl bM) (.inl bL) gb aQ aP)
   | (with_reducible exact zk bY aN ((Nat.ne_of_lt (Nat.lt_succ_self _)).symm) g1 g2 (.inr bn) (.inr bm) (.inl bM) (.inl aT) gb aQ aM)
   | (with_reducible exact zt ak g1 g2 (.inl bf) (.inl aS) gb aL)
   | (with_reducible exact (zt ak g2 g1 (.inl aS) (.inl bf) gb aL).symm)
   | (with_reducible exact zt bh g1 g2 (.inl bK) (.inl bL) gb aP)
   | (with_reducible exact (zt bh g2 g1 (.inl bL) (.inl bK) gb aP).symm)
   | (with_reducible exact zt aN g1 g2 (.inr bm) (.inl aT) gb aM)
   | (with_reducible exact (zt aN g2 g1 (.inl aT) (.inr bm) gb aM).symm)
   | (with_reducible exact zt bY g1 g2 (.inr bn) (.inl bM) gb aQ)
   | (with_reducible exact (zt bY g2 g1 (.inl bM) (.inr bn) gb aQ).symm)
   | (with_reducible exact zbL g1 g2 gb)
   | (with_reducible exact (zbL g2 g1 gb).symm)
 case rest =>
 obtain ⟨⟨B5,ng1,a1_,n1_,c1_,p1_,m1_,k1_,lo5,hi5,rfl,hB5,T5,g1,hc5⟩,⟨B6,ng2,a2_,n2_,c2_,p2_,m2_,k2_,lo6,hi6,rfl,hB6,T6,g2,hc6⟩⟩:=hcut
 clear ac ag ae ah af al ay aB az aE aA aH bs bP bt bQ b8 cf
 have gb:=hc5
 obtain ⟨ac,ae,af,ay,az,aA,bs,bt,b8⟩:=am.out _ gb
 obtain ⟨ag,ah,al,aB,aE,aH,bP,bQ,cf⟩:=cx.out _ gb
 obtain ⟨z0,z1,z2⟩:=cy.out _ gb
 have z5:=T5.lt
 obtain ⟨bE,bH,bJ,bV,bW,bX⟩:=T5
 have z6:=T6.lt
 obtain ⟨ci,ck,cI,cL,cM,cO⟩:=T6
 clear hgb
 obtain ⟨W1,aO⟩:∃ W,wc=W:=⟨_,rfl⟩
 subst aO
 replace i0:=i0.to gb
 replace i1:=i1.to gb
 replace zb:=bS zb gb
 have HXwc:=Lib.hid (show ∀ W',Below wc.heap.size wc W'->(Bx3 W' w.heap.size (.bool b) (.slice a0 n0 c0) (.slice a1 n1 c1)/\Bx3 W' (w.heap.size+1) (.bool c) (.slice a2 n2 c2) (.slice a3 n3 c3)/\Bx3 W' (w.heap.size+1+1) (.bool false) (.slice none 0 0) (.slice none 0 0)/\Bx3 W' B5 (.bool ng1) (.slice a1_ n1_ c1_) (.slice p1_ m1_ k1_)/\Bx3 W' B6 (.bool ng2) (.slice a2_ n2_ c2_) (.slice p2_ m2_ k2_)) from fun W' hb => by
   refine ⟨bx3 hb ?_ ?_ ?_ ?_ ?_ ?_,bx3 hb ?_ ?_ ?_ ?_ ?_ ?_,bx3 hb ?_ ?_ ?_ ?_ ?_ ?_,bx3 hb ?_ ?_ ?_ ?_ ?_ ?_,bx3 hb ?_ ?_ ?_ ?_ ?_ ?_⟩
   all_goals first|assumption|assumption)
 replace gb:=Below.refl wc.heap.size wc
 go_wp2_with fail
 have nz0:w.heap.size≠w.heap.size+1+1:=by omega
 have nz1:w.heap.size+1≠w.heap.size+1+1:=by omega
 have nz5:B5≠w.heap.size+1+1:=by omega
 have nz6:B6≠w.heap.size+1+1:=by omega
 go_region_held3 (fun W' => W'.cell? ⟨w.heap.size,0,none⟩=some (.bool b)/\W'.cell? ⟨w.heap.size,1,none⟩=some (.slice a0 n0 c0)/\W'.cell? ⟨w.heap.size,2,none⟩=some (.slice a1 n1 c1)/\W'.cell? ⟨w.heap.size+1,0,none⟩=some (.bool c)/\W'.cell? ⟨w.heap.size+1,1,none⟩=some (.slice a2 n2 c2)/\W'.cell? ⟨w.heap.size+1,2,none⟩=some (.slice a3 n3 c3)/\W'.cell? ⟨B5,0,none⟩=some (.bool ng1)/\W'.cell? ⟨B5,1,none⟩=some (.slice a1_ n1_ c1_)/\W'.cell? ⟨B5,2,none⟩=some (.slice p1_ m1_ k1_)/\W'.cell? ⟨B6,0,none⟩=some (.bool ng2)/\W'.cell? ⟨B6,1,none⟩=some (.slice a2_ n2_ c2_)/\W'.cell? ⟨B6,2,none⟩=some (.slice p2_ m2_ k2_)) (first|(with_reducible exact ⟨ac,ae,af,ay,az,aA,bE,bH,bJ,ci,ck,cI⟩)|(with_reducible exact ⟨cP (cP (cP (ac) (.inl nz0) _) (.inl nz0) _) (.inl nz0) _,cP (cP (cP (ae) (.inl nz0) _) (.inl nz0) _) (.inl nz0) _,cP (cP (cP (af) (.inl nz0) _) (.inl nz0) _) (.inl nz0) _,cP (cP (cP (ay) (.inl nz1) _) (.inl nz1) _) (.inl nz1) _,cP (cP (cP (az) (.inl nz1) _) (.inl nz1) _) (.inl nz1) _,cP (cP (cP (aA) (.inl nz1) _) (.inl nz1) _) (.inl nz1) _,cP (cP (cP (bE) (.inl nz5) _) (.inl nz5) _) (.inl nz5) _,cP (cP (cP (bH) (.inl nz5) _) (.inl nz5) _) (.inl nz5) _,cP (cP (cP (bJ) (.inl nz5) _) (.inl nz5) _) (.inl nz5) _,cP (cP (cP (ci) (.inl nz6) _) (.inl nz6) _) (.inl nz6) _,cP (cP (cP (ck) (.inl nz6) _) (.inl nz6) _) (.inl nz6) _,cP (cP (cP (cI) (.inl nz6) _) (.inl nz6) _) (.inl nz6) _⟩)|exact ⟨ac,ae,af,ay,az,aA,bE,bH,bJ,ci,ck,cI⟩) (first
  | (go_at_call 148;(with_reducible refine (zgl ng13 ng16 _ _ _ _ _ g13.isI.up g16.isI.up S6.out HZ.out).mono ?_);rintro e w17 ⟨rfl,dB⟩;have g13:=g13.to dB;have g16:=g16.to dB;have gb:=bS gb dB;obtain ⟨⟨z0,ac,ae,af,ag,ah,al⟩,⟨z1,ay,az,aA,aB,aE,aH⟩,⟨z2,bs,bt,b8,bP,bQ,cf⟩,⟨z5,bE,bH,bJ,bV,bW,bX⟩,⟨z6,ci,ck,cI,cL,cM,cO⟩⟩:=HXwc.out _ gb)
  | (go_at_call 144;(with_reducible refine (zgF _ (g1.to gb).below (g2.to gb).above ((x.den:Int)*y.num) rfl S2).mono ?_);rintro e w16 ⟨ng16,a16_,n16_,c16_,rfl,g16,eu⟩;have g13:=g13.to eu;have gb:=bS gb eu;obtain ⟨⟨z0,ac,ae,af,ag,ah,al⟩,⟨z1,ay,az,aA,aB,aE,aH⟩,⟨z2,bs,bt,b8,bP,bQ,cf⟩,⟨z5,bE,bH,bJ,bV,bW,bX⟩,⟨z6,ci,ck,cI,cL,cM,cO⟩⟩:=HXwc.out _ gb)
  | (go_at_call 145;(with_reducible refine (zbg _ _ _ _ _ _ (g2.to gb).isQ).mono ?_);rintro e w15 ⟨rfl,ez⟩;have g13:=g13.to ez;have gb:=bS gb ez;obtain ⟨⟨z0,ac,ae,af,ag,ah,al⟩,⟨z1,ay,az,aA,aB,aE,aH⟩,⟨z2,bs,bt,b8,bP,bQ,cf⟩,⟨z5,bE,bH,bJ,bV,bW,bX⟩,⟨z6,ci,ck,cI,cL,cM,cO⟩⟩:=HXwc.out _ gb)
  | (go_at_call 146;(with_reducible refine (zbh _ _ _ _ _ _ (g1.to gb).isQ).mono ?_);rintro e w14 ⟨rfl,eB⟩;have g13:=g13.to eB;have gb:=bS gb eB;obtain ⟨⟨z0,ac,ae,af,ag,ah,al⟩,⟨z1,ay,az,aA,aB,aE,aH⟩,⟨z2,bs,bt,b8,bP,bQ,cf⟩,⟨z5,bE,bH,bJ,bV,bW,bX⟩,⟨z6,ci,ck,cI,cL,cM,cO⟩⟩:=HXwc.out _ gb)
  | (go_at_call 144;(with_reducible refine (zgF _ (g1.to gb).above (g2.to gb).below (x.num*(y.den:Int)) rfl S1).mono ?_);rintro e w13 ⟨ng13,a13_,n13_,c13_,rfl,g13,eL⟩;have gb:=bS gb eL;obtain ⟨⟨z0,ac,ae,af,ag,ah,al⟩,⟨z1,ay,az,aA,aB,aE,aH⟩,⟨z2,bs,bt,b8,bP,bQ,cf⟩,⟨z5,bE,bH,bJ,bV,bW,bX⟩,⟨z6,ci,ck,cI,cL,cM,cO⟩⟩:=HXwc.out _ gb)
  | (go_at_call 146;(with_reducible refine (zbh _ _ _ _ _ _ (g2.to gb).isQ).mono ?_);rintro e w12 ⟨rfl,dp⟩;have gb:=bS gb dp;obtain ⟨⟨z0,ac,ae,af,ag,ah,al⟩,⟨z1,ay,az,aA,aB,aE,aH⟩,⟨z2,bs,bt,b8,bP,bQ,cf⟩,⟨z5,bE,bH,bJ,bV,bW,bX⟩,⟨z6,ci,ck,cI,cL,cM,cO⟩⟩:=HXwc.out _ gb)
  | (go_at_call 145;have gb:=gb.drew;(with_reducible refine (zbg _ _ _ _ _ _ (g1.to gb).isQ).mono ?_);rintro e w11 ⟨rfl,fH⟩;have gb:=bS gb fH;obtain ⟨⟨z0,ac,ae,af,ag,ah,al⟩,⟨z1,ay,az,aA,aB,aE,aH⟩,⟨z2,bs,bt,b8,bP,bQ,cf⟩,⟨z5,bE,bH,bJ,bV,bW,bX⟩,⟨z6,ci,ck,cI,cL,cM,cO⟩⟩:=HXwc.out _ gb))
 go_wp2_with fail
 refine bodyPost_ret (zo Tryz.results120 _ _ _ _ _ _ rfl (Tri.set (x0:=.bool false) (y0:=.slice none 0 0) (z0:=.slice none 0 0) ⟨bs,bt,b8,bP,bQ,cf⟩ _ _ _)) rfl ⟨rfl,bT (bS zb gb) (by omega) _ _ _⟩

theorem zkL {x y:Rat} (b:Bool) (v u:Value) (ln ld:List Nat) (c:Bool) (v' u':Value) (ln' ld':List Nat) (w:World) (h:IsQ w b v u ln ld x) (h':IsQ w c v' u' ln' ld' y) (h0:y≠0) (q:Rat) (hq:x / y=q) (hs:Hid (szq q<=1000)) :
  Calls Tryz.prog 120 #[aggR b v u,aggR c v' u'] w (zG w q):=by
 have Hx:Hid (szq x<=1000):=zaF h
 have Hy:Hid (szq y<=1000):=zaF h'
 have S1:=Lib.hid (show szi (x.num*(y.den:Int))<=90000 from zdf Hx.out Hy.out)
 have S2:=Lib.hid (show szi ((x.den:Int)*y.num)<=90000 by rw [Int.mul_comm];exact zdf Hy.out Hx.out)
 have S5:=Lib.hid (show (zc (x.num*(y.den:Int)).natAbs).length<=3000 from zdS Hx.out Hy.out)
 have S6:=Lib.hid (show (zc ((x.den:Int)*y.num).natAbs).length<=3000 by rw [Int.mul_comm];exact zdS Hy.out Hx.out)
 have HZ:=Lib.hid (show val (zc ((x.den:Int)*y.num).natAbs)≠0 by
  rw [vL,Int.natAbs_mul]
  exact Nat.mul_ne_zero (by have:=x.den_nz;omega) (fun e => h0 (Rat.num_eq_zero.1 (Int.natAbs_eq_zero.1 e))))
 have H9:=Lib.hid (show ∀ ng ng',decide (x.num*(y.den:Int)<0)=ng->decide ((x.den:Int)*y.num<0)=ng'->rat (ng != ng') (val (zc (x.num*(y.den:Int)).natAbs)) (val (zc ((x.den:Int)*y.num).natAbs))=q from fun ng ng' e e' => by
  rw [<- e,<- e',vL,vL,div_rat x h0,hq])
 obtain ⟨a0,n0,c0,rfl,H0,hm0⟩:=h.1.open
 obtain ⟨a1,n1,c1,rfl,H1,hm1⟩:=h.2.1.open
 obtain ⟨a2,n2,c2,rfl,H2,hm2⟩:=h'.1.open
 obtain ⟨a3,n3,c3,rfl,H3,hm3⟩:=h'.2.1.open
 clear hq h0
 go_enter Tryz.func120,Tryz.ntmps120
 go_wp2_with fail
 obtain ⟨W0,aG⟩:∃ W0,((w.alloc (.cells #[.bool b,.slice a0 n0 c0,.slice a1 n1 c1] 47)).alloc (.cells #[.bool c,.slice a2 n2 c2,.slice a3 n3 c3] 47)).alloc (.cells #[.bool false,.slice none 0 0,.slice none 0 0] 47)=W0:=⟨_,rfl⟩
 have am:=Lib.hid (show ∀ W',Below W0.heap.size W0 W'->(W'.cell? ⟨w.heap.size,0,none⟩=some (.bool b)/\W'.cell? ⟨w.heap.size,1,none⟩=some (.slice a0 n0 c0)/\W'.cell? ⟨w.heap.size,2,none⟩=some (.slice a1 n1 c1)/\W'.cell? ⟨w.heap.size+1,0,none⟩=some (.bool c)/\W'.cell? ⟨w.heap.size+1,1,none⟩=some (.slice a2 n2 c2)/\W'.cell? ⟨w.heap.size+1,2,none⟩=some (.slice a3 n3 c3)/\W'.cell? ⟨w.heap.size+1+1,0,none⟩=some (.bool false)/\W'.cell? ⟨w.heap.size+1+1,1,none⟩=some (.slice none 0 0)/\W'.cell? ⟨w.heap.size+1+1,2,none⟩=some (.slice none 0 0)) from fun W' hb =>
  by and_intros <;> exact kc hb (by first|assumption|(rw [<- aG];simp [go_sem])))
 have cx:=Lib.hid (show ∀ W',Below W0.heap.size W0 W'->(W'.frozen? ⟨w.heap.size,0,none⟩=false/\W'.frozen? ⟨w.heap.size,1,none⟩=false/\W'.frozen? ⟨w.heap.size,2,none⟩=false/\W'.frozen? ⟨w.heap.size+1,0,none⟩=false/\W'.frozen? ⟨w.heap.size+1,1,none⟩=false/\W'.frozen? ⟨w.heap.size+1,2,none⟩=false/\W'.frozen? ⟨w.heap.size+1+1,0,none⟩=false/\W'.frozen? ⟨w.heap.size+1+1,1,none⟩=false/\W'.frozen? ⟨w.heap.size+1+1,2,none⟩=false) from fun W' hb =>
  by and_intros <;> refine (hb.frozen ?_).trans ?_ <;> first|assumption|(rw [<- aG];simp [go_sem])|(rw [<- aG];simp <;> omega))
 have cy:=Lib.hid (show ∀ W',Below W0.heap.size W0 W'->(w.heap.size<W'.heap.size/\w.heap.size+1<W'.heap.size/\w.heap.size+1+1<W'.heap.size) from fun W' hb =>
  by and_intros <;> refine Nat.lt_of_lt_of_le ?_ hb.size <;> first|assumption|(rw [<- aG];simp <;> omega))
 have zb:Below w.heap.size w W0:=by rw [<- aG];exact bS (bS (bN _ _) (bN _ _)) (bN _ _)
 rw [aG]
 clear aG
 have i0:=h.to zb
 have i1:=h'.to zb
 have gb:Below W0.heap.size W0 W0:=Below.refl _ _
 obtain ⟨ac,ae,af,ay,az,aA,bs,bt,b8⟩:=am.out _ gb
 obtain ⟨ag,ah,al,aB,aE,aH,bP,bQ,cf⟩:=cx.out _ gb
 obtain ⟨z0,z1,z2⟩:=cy.out _ gb
 have hgb:=gb
 go_upto_region 1 with fail
 go_cut [6,7] from 8 (fun s6 s7 wx => zbH W0 (x) s6 wx/\zbH W0 (y) s7 wx)
 case first =>
  go_region_held3 (fun W' => W'.cell? ⟨w.heap.size,0,none⟩=some (.bool b)/\W'.cell? ⟨w.heap.size,1,none⟩=some (.slice a0 n0 c0)/\W'.cell? ⟨w.heap.size,2,none⟩=some (.slice a1 n1 c1)/\W'.cell? ⟨w.heap.size+1,0,none⟩=some (.bool c)/\W'.cell? ⟨w.heap.size+1,1,none⟩=some (.slice a2 n2 c2)/\W'.cell? ⟨w.heap.size+1,2,none⟩=some (.slice a3 n3 c3)/\W'.cell? ⟨w.heap.size+1+1,0,none⟩=some (.bool false)/\W'.cell? ⟨w.heap.size+1+1,1,none⟩=some (.slice none 0 0)/\W'.cell? ⟨w.heap.size+1+1,2,none⟩=some (.slice none 0 0)) (with_reducible first|(exact am.out _ gb)|((refine am.out _ ?_);first|((refine Below.drew ?_);first|(exact gb)|((refine bT ?_ ?_ _ _ _);rotate_left;(first|(exact aL)|(exact aP)|(exact aM)|(exact aQ));first|(exact gb)|((refine bT ?_ ?_ _ _ _);rotate_left;(first|(exact aL)|(exact aP)|(exact aM)|(exact aQ));exact gb)|((refine bS ?_ (bN _ _));exact gb))|((refine bS ?_ (bN _ _));first|(exact gb)|((refine bT ?_ ?_ _ _ _);rotate_left;(first|(exact aL)|(exact aP)|(exact aM)|(exact aQ));exact gb)|((refine bS ?_ (bN _ _));exact gb)))|(first|(exact gb)|((refine bT ?_ ?_ _ _ _);rotate_left;(first|(exact aL)|(exact aP)|(exact aM)|(exact aQ));first|(exact gb)|((refine bT ?_ ?_ _ _ _);rotate_left;(first|(exact aL)|(exact aP)|(exact aM)|(exact aQ));first|(exact gb)|((refine bT ?_ ?_ _ _ _);rotate_left;(first|(exact aL)|(exact aP)|(exact aM)|(exact aQ));first|(exact gb)|((refine bT ?_ ?_ _ _ _);rotate_left;(first|(exact aL)|(exact aP)|(exact aM)|(exact aQ));exact gb)|((refine bS ?_ (bN _ _));exact gb))|((refine bS ?_ (bN _ _));first|(exact gb)|((refine bT ?_ ?_ _ _ _);rotate_left;(first|(exact aL)|(exact aP)|(exact aM)|(exact aQ));exact gb)|((refine bS ?_ (bN _ _));exact gb)))|((refine bS ?_ (bN _ _));first|(exact gb)|((refine bT ?_ ?_ _ _ _);rotate_left;(first|(exact aL)|(exact aP)|(exact aM)|(exact aQ));first|(exact gb)|((refine bT ?_ ?_ _ _ _);rotate_left;(first|(exact aL)|(exact aP)|(exact aM)|(exact aQ));exact gb)|((refine bS ?_ (bN _ _));exact gb))|((refine bS ?_ (bN _ _));first|(exact gb)|((refine bT ?_ ?_ _ _ _);rotate_left;(first|(exact aL)|(exact aP)|(exact aM)|(exact aQ));exact gb)|((refine bS ?_ (bN _ _));exact gb))))|((refine bS ?_ (bN _ _));first|(exact gb)|((refine bT ?_ ?_ _ _ _);rotate_left;(first|(exact aL)|(exact aP)|(exact aM)|(exact aQ));first|(exact gb)|((refine bT ?_ ?_ _ _ _);rotate_left;(first|(exact aL)|(exact aP)|(exact aM)|(exact aQ));first|(exact gb)|((refine bT ?_ ?_ _ _ _);rotate_left;(first|(exact aL)|(exact aP)|(exact aM)|(exact aQ));exact gb)|((refine bS ?_ (bN _ _));exact gb))|((refine bS ?_ (bN _ _));first|(exact gb)|((refine bT ?_ ?_ _ _ _);rotate_left;(first|(exact aL)|(exact aP)|(exact aM)|(exact aQ));exact gb)|((refine bS ?_ (bN _ _));exact gb)))|((refine bS ?_ (bN _ _));first|(exact gb)|((refine bT ?_ ?_ _ _ _);rotate_left;(first|(exact aL)|(exact aP)|(exact aM)|(exact aQ));first|(exact gb)|((refine bT ?_ ?_ _ _ _);rotate_left;(first|(exact aL)|(exact aP)|(exact aM)|(exact aQ));exact gb)|((refine bS ?_ (bN _ _));exact gb))|((refine bS ?_ (bN _ _));first|(exact gb)|((refine bT ?_ ?_ _ _ _);rotate_left;(first|(exact aL)|(exact aP)|(exact aM)|(exact aQ));exact gb)|((refine bS ?_ (bN _ _));exact gb))))))) (first
   | (go_at_call 142;(refine zf w1 (by with_reducible first|exact Below.refl _ _|exact bN _ _|exact bS (bN _ _) (bN _ _)) ?_);intro V2 dq b6;have ek:=b6.size;have dH:=gb.size;have g1:=g1.to b6;have gb:=bS gb b6;(try have ak:=ak.to b6);(try have bh:=bh.to b6);(try have aN:Tri V2 (w1.heap.size) (.bool false) (.slice none 0 0) (.slice none 0 0):=(by rw [dq];with_reducible first|exact ze _ (.bool false) (.slice none 0 0) (.slice none 0 0) _|exact (ze _ (.bool false) (.slice none 0 0) (.slice none 0 0) _).alloc _));have aM:W0.heap.size<=w1.heap.size:=(dH);have bm:w1.heap.size<=w1.heap.size:=(Nat.le_refl _);(try have bY:Tri V2 (w1.heap.size+1) (.bool false) (.slice none 0 0) (.slice none 0 0):=(by rw [dq];first|with_reducible exact zal _ _ (.bool false) (.slice none 0 0) (.slice none 0 0) _));have aQ:W0.heap.size<=w1.heap.size+1:=(Nat.le_succ_of_le dH);have bn:w1.heap.size<=w1.heap.size+1:=(Nat.le_succ _);(try have aS:=ak.lt);(try have bL:=bh.lt);(try have aT:=aN.lt);(try have bM:=bY.lt);(with_reducible refine (zbm c _ _ ln' ld' _ (i1.to gb) Hy).mono ?_);rintro e w2 ⟨ng2,a2_,n2_,c2_,p2_,m2_,k2_,rfl,g2,aR⟩;have g1:=g1.to aR;have gb:=bS gb aR;have dR:=aR.size;(try have ak:=ak.to aR);(try have bh:=bh.to aR);(try have aN:=aN.to aR);(try have bY:=bY.to aR);(try have cg:=ak.lt);(try have eU:=bh.lt);(try have ch:=aN.lt);(try have eV:=bY.lt);(try (have aW:=ak;obtain ⟨bv,bw,bx,bA,bB,bC⟩:=aW));(try (have c9:=bh;obtain ⟨dT,dU,dV,dW,dX,dY⟩:=c9));(try (have b7:=aN;obtain ⟨cA,cB,cE,cF,cG,cH⟩:=b7));(try (have eA:=bY;obtain ⟨fs,ft,fu,fw,fx,fy⟩:=eA)))
   | (go_at_call 142;(refine zf W0 (by with_reducible first|exact (Below.refl _ _).drew|exact (bN _ _).drew|exact (bS (bN _ _) (bN _ _)).drew) ?_);intro V1 dt cq;have ej:=cq.size;have dc:=gb.size;have gb:=bS gb cq;(try have ak:Tri V1 (W0.heap.size) (.bool false) (.slice none 0 0) (.slice none 0 0):=(by rw [dt];with_reducible first|exact (ze _ (.bool false) (.slice none 0 0) (.slice none 0 0) _).drew|exact ((ze _ (.bool false) (.slice none 0 0) (.slice none 0 0) _).alloc _).drew));have aL:W0.heap.size<=W0.heap.size:=(dc);(try have bh:Tri V1 (W0.heap.size+1) (.bool false) (.slice none 0 0) (.slice none 0 0):=(by rw [dt];first|with_reducible exact (zal _ _ (.bool false) (.slice none 0 0) (.slice none 0 0) _).drew));have aP:W0.heap.size<=W0.heap.size+1:=(Nat.le_succ_of_le dc);(try have bf:=ak.lt);(try have bK:=bh.lt);(with_reducible refine (zbm b _ _ ln ld _ (i0.to gb) Hx).mono ?_);rintro e w1 ⟨ng1,a1_,n1_,c1_,p1_,m1_,k1_,rfl,g1,aX⟩;have gb:=bS gb aX;have dI:=aX.size;(try have ak:=ak.to aX);(try have bh:=bh.to aX);(try have bu:=ak.lt);(try have cm:=bh.lt);(try (have aW:=ak;obtain ⟨bv,bw,bx,bA,bB,bC⟩:=aW));(try (have c9:=bh;obtain ⟨dT,dU,dV,dW,dX,dY⟩:=c9))))
  all_goals (go_wp2_with fail;go_meet)
  all_goals first
   | (with_reducible exact zk ak bh (Nat.ne_of_lt (Nat.lt_succ_self _)) g1 g2 (.inl bf) (.inl bK) (.inl aS) (.inl bL) gb aL aP)
   | (with_reducible exact zk ak aN (Nat.ne_of_lt bu) g1 g2 (.inl bf) (.inr bm) (.inl aS) (.inl aT) gb aL aM)
   | (with_reducible exact zk ak bY (Nat.ne_of_lt (Nat.lt_succ_of_lt bu)) g1 g2 (.inl bf) (.inr bn) (.inl aS) (.inl bM) gb aL aQ)
   | (with_reducible exact zk bh ak ((Nat.ne_of_lt (Nat.lt_succ_self _)).symm) g1 g2 (.inl bK) (.inl bf) (.inl bL) (.inl aS) gb aP aL)
   | (with_reducible exact zk bh aN (Nat.ne_of_lt cm) g1 g2 (.inl bK) (.inr bm) (.inl bL) (.inl aT) gb aP aM)
   | (with_reducible exact zk bh bY (Nat.ne_of_lt (Nat.lt_succ_of_lt cm)) g1 g2 (.inl bK) (.inr bn) (.inl bL) (.inl bM) gb aP aQ)
   | (with_reducible exact zk aN ak ((Nat.ne_of_lt bu).symm) g1 g2 (.inr bm) (.inl bf) (.inl aT) (.inl aS) gb aM aL)
   | (with_reducible exact zk aN bh ((Nat.ne_of_lt cm).symm) g1 g2 (.inr bm) (.inl bK) (.inl aT) (.inl bL) gb aM aP)
   | (with_reducible exact zk aN bY (Nat.ne_of_lt (Nat.lt_succ_self _)) g1 g2 (.inr bm) (.inr bn) (.inl aT) (.inl bM) gb aM aQ)
   | (with_reducible exact zk bY ak ((Nat.ne_of_lt (Nat.lt_succ_of_lt bu)).symm) g1 g2 (.inr bn) (.inl bf) (.inl bM) (.inl aS) gb aQ aL)
   | (with_reducible exact zk bY bh ((Nat.ne_of_lt (Nat.lt_succ_of_lt cm)).symm) g1 g2 (.inr bn) (.inl bK) (.inl bM) (.inl bL) gb aQ aP)
   | (with_reducible exact zk bY aN ((Nat.ne_of_lt (Nat.lt_succ_self _)).symm) g1 g2 (.inr bn) (.inr bm) (.inl bM) (.inl aT) gb aQ aM)
   | (with_reducible exact zt ak g1 g2 (.inl bf) (.inl aS) gb aL)
   | (with_reducible exact (zt ak g2 g1 (.inl aS) (.inl bf) gb aL).symm)
   | (with_reducible exact zt bh g1 g2 (.inl bK) (.inl bL) gb aP)
   | (with_reducible exact (zt bh g2 g1 (.inl bL) (.inl bK) gb aP).symm)
   | (with_reducible exact zt aN g1 g2 (.inr bm) (.inl aT) gb aM)
   | (with_reducible exact (zt aN g2 g1 (.inl aT) (.inr bm) gb aM).symm)
   | (with_reducible exact zt bY g1 g2 (.inr bn) (.inl bM) gb aQ)
   | (with_reducible exact (zt bY g2 g1 (.inl bM) (.inr bn) gb aQ).symm)
   | (with_reducible exact zbL g1 g2 gb)
   | (with_reducible exact (zbL g2 g1 gb).symm)
 case rest =>
 obtain ⟨⟨B5,ng1,a1_,n1_,c1_,p1_,m1_,k1_,lo5,hi5,rfl,hB5,T5,g1,hc5⟩,⟨B6,ng2,a2_,n2_,c2_,p2_,m2_,k2_,lo6,hi6,rfl,hB6,T6,g2,hc6⟩⟩:=hcut
 clear ac ag ae ah af al ay aB az aE aA aH bs bP bt bQ b8 cf
 have gb:=hc5
 obtain ⟨ac,ae,af,ay,az,aA,bs,bt,b8⟩:=am.out _ gb
 obtain ⟨ag,ah,al,aB,aE,aH,bP,bQ,cf⟩:=cx.out _ gb
 obtain ⟨z0,z1,z2⟩:=cy.out _ gb
 have z5:=T5.lt
 obtain ⟨bE,bH,bJ,bV,bW,bX⟩:=T5
 have z6:=T6.lt
 obtain ⟨ci,ck,cI,cL,cM,cO⟩:=T6
 clear hgb
 obtain ⟨W1,aO⟩:∃ W,wc=W:=⟨_,rfl⟩
 subst aO
 replace i0:=i0.to gb
 replace i1:=i1.to gb
 replace zb:=bS zb gb
 have HXwc:=Lib.hid (show ∀ W',Below wc.heap.size wc W'->(Bx3 W' w.heap.size (.bool b) (.slice a0 n0 c0) (.slice a1 n1 c1)/\Bx3 W' (w.heap.size+1) (.bool c) (.slice a2 n2 c2) (.slice a3 n3 c3)/\Bx3 W' (w.heap.size+1+1) (.bool false) (.slice none 0 0) (.slice none 0 0)/\Bx3 W' B5 (.bool ng1) (.slice a1_ n1_ c1_) (.slice p1_ m1_ k1_)/\Bx3 W' B6 (.bool ng2) (.slice a2_ n2_ c2_) (.slice p2_ m2_ k2_)) from fun W' hb => by
   refine ⟨bx3 hb ?_ ?_ ?_ ?_ ?_ ?_,bx3 hb ?_ ?_ ?_ ?_ ?_ ?_,bx3 hb ?_ ?_ ?_ ?_ ?_ ?_,bx3 hb ?_ ?_ ?_ ?_ ?_ ?_,bx3 hb ?_ ?_ ?_ ?_ ?_ ?_⟩
   all_goals first|assumption|assumption)
 replace gb:=Below.refl wc.heap.size wc
 go_wp2_with fail
 have nz0:w.heap.size≠w.heap.size+1+1:=by omega
 have nz1:w.heap.size+1≠w.heap.size+1+1:=by omega
 have nz5:B5≠w.heap.size+1+1:=by omega
 have nz6:B6≠w.heap.size+1+1:=by omega
 go_region_held3 (fun W' => W'.cell? ⟨w.heap.size,0,none⟩=some (.bool b)/\W'.cell? ⟨w.heap.size,1,none⟩=some (.slice a0 n0 c0)/\W'.cell? ⟨w.heap.size,2,none⟩=some (.slice a1 n1 c1)/\W'.cell? ⟨w.heap.size+1,0,none⟩=some (.bool c)/\W'.cell? ⟨w.heap.size+1,1,none⟩=some (.slice a2 n2 c2)/\W'.cell? ⟨w.heap.size+1,2,none⟩=some (.slice a3 n3 c3)/\W'.cell? ⟨B5,0,none⟩=some (.bool ng1)/\W'.cell? ⟨B5,1,none⟩=some (.slice a1_ n1_ c1_)/\W'.cell? ⟨B5,2,none⟩=some (.slice p1_ m1_ k1_)/\W'.cell? ⟨B6,0,none⟩=some (.bool ng2)/\W'.cell? ⟨B6,1,none⟩=some (.slice a2_ n2_ c2_)/\W'.cell? ⟨B6,2,none⟩=some (.slice p2_ m2_ k2_)) (first|(with_reducible exact ⟨ac,ae,af,ay,az,aA,bE,bH,bJ,ci,ck,cI⟩)|(with_reducible exact ⟨cP (cP (cP (ac) (.inl nz0) _) (.inl nz0) _) (.inl nz0) _,cP (cP (cP (ae) (.inl nz0) _) (.inl nz0) _) (.inl nz0) _,cP (cP (cP (af) (.inl nz0) _) (.inl nz0) _) (.inl nz0) _,cP (cP (cP (ay) (.inl nz1) _) (.inl nz1) _) (.inl nz1) _,cP (cP (cP (az) (.inl nz1) _) (.inl nz1) _) (.inl nz1) _,cP (cP (cP (aA) (.inl nz1) _) (.inl nz1) _) (.inl nz1) _,cP (cP (cP (bE) (.inl nz5) _) (.inl nz5) _) (.inl nz5) _,cP (cP (cP (bH) (.inl nz5) _) (.inl nz5) _) (.inl nz5) _,cP (cP (cP (bJ) (.inl nz5) _) (.inl nz5) _) (.inl nz5) _,cP (cP (cP (ci) (.inl nz6) _) (.inl nz6) _) (.inl nz6) _,cP (cP (cP (ck) (.inl nz6) _) (.inl nz6) _) (.inl nz6) _,cP (cP (cP (cI) (.inl nz6) _) (.inl nz6) _) (.inl nz6) _⟩)|exact ⟨ac,ae,af,ay,az,aA,bE,bH,bJ,ci,ck,cI⟩) (first
  | (go_at_call 148;(with_reducible refine (zjj ng13 ng16 _ _ _ _ _ g13.isI.up g16.isI.up S5.out S6.out HZ.out q (H9.out ng13 ng16 g13.ng g16.ng) hs).mono ?_);rintro e w17 ⟨ng17,a17_,n17_,c17_,p17_,m17_,k17_,rfl,g17,dB⟩;have g13:=g13.to dB;have g16:=g16.to dB;have gb:=bS gb dB;obtain ⟨⟨z0,ac,ae,af,ag,ah,al⟩,⟨z1,ay,az,aA,aB,aE,aH⟩,⟨z2,bs,bt,b8,bP,bQ,cf⟩,⟨z5,bE,bH,bJ,bV,bW,bX⟩,⟨z6,ci,ck,cI,cL,cM,cO⟩⟩:=HXwc.out _ gb)
  | (go_at_call 144;(with_reducible refine (zgF _ (g1.to gb).below (g2.to gb).above ((x.den:Int)*y.num) rfl S2).mono ?_);rintro e w16 ⟨ng16,a16_,n16_,c16_,rfl,g16,eu⟩;have g13:=g13.to eu;have gb:=bS gb eu;obtain ⟨⟨z0,ac,ae,af,ag,ah,al⟩,⟨z1,ay,az,aA,aB,aE,aH⟩,⟨z2,bs,bt,b8,bP,bQ,cf⟩,⟨z5,bE,bH,bJ,bV,bW,bX⟩,⟨z6,ci,ck,cI,cL,cM,cO⟩⟩:=HXwc.out _ gb)
  | (go_at_call 145;(with_reducible refine (zbg _ _ _ _ _ _ (g2.to gb).isQ).mono ?_);rintro e w15 ⟨rfl,ez⟩;have g13:=g13.to ez;have gb:=bS gb ez;obtain ⟨⟨z0,ac,ae,af,ag,ah,al⟩,⟨z1,ay,az,aA,aB,aE,aH⟩,⟨z2,bs,bt,b8,bP,bQ,cf⟩,⟨z5,bE,bH,bJ,bV,bW,bX⟩,⟨z6,ci,ck,cI,cL,cM,cO⟩⟩:=HXwc.out _ gb)
  | (go_at_call 146;(with_reducible refine (zbh _ _ _ _ _ _ (g1.to gb).isQ).mono ?_);rintro e w14 ⟨rfl,eB⟩;have g13:=g13.to eB;have gb:=bS gb eB;obtain ⟨⟨z0,ac,ae,af,ag,ah,al⟩,⟨z1,ay,az,aA,aB,aE,aH⟩,⟨z2,bs,bt,b8,bP,bQ,cf⟩,⟨z5,bE,bH,bJ,bV,bW,bX⟩,⟨z6,ci,ck,cI,cL,cM,cO⟩⟩:=HXwc.out _ gb)
  | (go_at_call 144;(with_reducible refine (zgF _ (g1.to gb).above (g2.to gb).below (x.num*(y.den:Int)) rfl S1).mono ?_);rintro e w13 ⟨ng13,a13_,n13_,c13_,rfl,g13,eL⟩;have gb:=bS gb eL;obtain ⟨⟨z0,ac,ae,af,ag,ah,al⟩,⟨z1,ay,az,aA,aB,aE,aH⟩,⟨z2,bs,bt,b8,bP,bQ,cf⟩,⟨z5,bE,bH,bJ,bV,bW,bX⟩,⟨z6,ci,ck,cI,cL,cM,cO⟩⟩:=HXwc.out _ gb)
  | (go_at_call 146;(with_reducible refine (zbh _ _ _ _ _ _ (g2.to gb).isQ).mono ?_);rintro e w12 ⟨rfl,dp⟩;have gb:=bS gb dp;obtain ⟨⟨z0,ac,ae,af,ag,ah,al⟩,⟨z1,ay,az,aA,aB,aE,aH⟩,⟨z2,bs,bt,b8,bP,bQ,cf⟩,⟨z5,bE,bH,bJ,bV,bW,bX⟩,⟨z6,ci,ck,cI,cL,cM,cO⟩⟩:=HXwc.out _ gb)
  | (go_at_call 145;have gb:=gb.drew;(with_reducible refine (zbg _ _ _ _ _ _ (g1.to gb).isQ).mono ?_);rintro e w11 ⟨rfl,fH⟩;have gb:=bS gb fH;obtain ⟨⟨z0,ac,ae,af,ag,ah,al⟩,⟨z1,ay,az,aA,aB,aE,aH⟩,⟨z2,bs,bt,b8,bP,bQ,cf⟩,⟨z5,bE,bH,bJ,bV,bW,bX⟩,⟨z6,ci,ck,cI,cL,cM,cO⟩⟩:=HXwc.out _ gb))
 go_wp2_with fail
 refine bodyPost_ret (zo Tryz.results120 _ _ _ _ _ _ rfl (Tri.set (x0:=.bool false) (y0:=.slice none 0 0) (z0:=.slice none 0 0) ⟨bs,bt,b8,bP,bQ,cf⟩ _ _ _)) rfl (zbG (bS zb gb) (by omega) ?_ g17)
 omega

end Go.Proofs.YtkjcdnlpjldhaaaGreat

