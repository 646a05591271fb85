/-
  The texts Rat2, Rat3, Rat4, Ref8, Ref8b, Rat6, merged.
-/
import Derived.Test.YtkjcdnlpjldhaaaGreatK13
import Derived.Test.YtkjcdnlpjldhaaaGreatK15
import Derived.Deep.RegionHeld3
import Derived.Deep.Cut
import Derived.Deep.DrawnRows
import Derived.Laws.EntriesVeiled
import Derived.Test.YtkjcdnlpjldhaaaGreatK10
import Derived.Test.YtkjcdnlpjldhaaaGreatK08
set_option linter.unusedVariables false
set_option linter.unusedSimpArgs false
set_option maxRecDepth 100000
set_option maxHeartbeats 400000000
namespace Go.Proofs.YtkjcdnlpjldhaaaGreat
open Go.RowKit Tw
attribute [local go_sem ↓] Go.wp_at_zero Go.wp_at_succ

theorem zaY {w:World} {b:Bool} {v u:Value} {ln ld:List Nat} {x:Rat} (h:IsQ w b v u ln ld x):Hid (szq x<=1000):=by
 show _<=_
 rw [<- h.2.2.1]
 refine Nat.le_trans (zeR _ _ _) ?_
 have h1:=zy h.1.1
 have h2:=zy h.2.1.1
 have h3:=h.2.2.2.1
 have h4:=h.2.2.2.2
 omega

theorem zdK {x y:Rat} (hx:szq x<=1000) (hy:szq y<=1000):szi (x.num*(y.den:Int))<=90000:=by
 have h1:=zdh x.num (y.den:Int)
 have h2:=zaF x
 have h3:=zam y
 unfold szi at *
 rw [Int.natAbs_natCast] at h1
 omega

theorem sum_sz {x y:Rat} (hx:szq x<=1000) (hy:szq y<=1000):szi (x.num*(y.den:Int)+y.num*(x.den:Int))<=2001:=by
 have h0:=zlL (x.num*(y.den:Int)) (y.num*(x.den:Int))
 have h1:=zdh x.num (y.den:Int)
 have h1':=zdh y.num (x.den:Int)
 have h2:=zaF x
 have h3:=zam y
 have h2':=zaF y
 have h3':=zam x
 unfold szi at *
 rw [Int.natAbs_natCast] at h1 h1'
 omega

theorem den_sz {x y:Rat} (hx:szq x<=1000) (hy:szq y<=1000):(za (val (za x.den)*val (za y.den))).length<=3000:=by
 rw [ze,vL,vL]
 have h1:=zaZ x.den y.den
 have h2:=zam x
 have h3:=zam y
 omega

theorem zbJ {x:Rat} (b:Bool) (v u:Value) (ln ld:List Nat) (w:World) (h:IsQ w b v u ln ld x) (hs:Hid (szq x<=1000)) :
  Calls Tryz.prog 142 #[aggR b v u] w (zap w x):=by
 obtain ⟨a0,n0,c0,rfl,H0,hm0⟩:=h.1.open
 obtain ⟨a1,n1,c1,rfl,H1,hm1⟩:=h.2.1.open
 go_enter Tryz.func142,Tryz.ntmps142
 go_wp2_with fail
 obtain ⟨W0,an⟩:∃ W0,(w.alloc (.cells #[.bool b,.slice a0 n0 c0,.slice a1 n1 c1] 47)).alloc (.cells #[.bool false,.slice none 0 0,.slice none 0 0] 166)=W0:=⟨_,rfl⟩
 have ap:=Lib.hid (show ∀ W',Below W0.heap.size W0 W'->(Bx3 W' w.heap.size (.bool b) (.slice a0 n0 c0) (.slice a1 n1 c1)/\Bx3 W' (w.heap.size+1) (.bool false) (.slice none 0 0) (.slice none 0 0)) from fun W' hb => by
   refine ⟨bx3 hb ?_ ?_ ?_ ?_ ?_ ?_,bx3 hb ?_ ?_ ?_ ?_ ?_ ?_⟩
   all_goals first|assumption|(rw [<- an];simp [go_sem]))
 have zb:Below w.heap.size w W0:=by rw [<- an];exact bS (bN _ _) (bN _ _)
 rw [an]
 clear an
 have i0:=h.to zb
 have gb:Below W0.heap.size W0 W0:=Below.refl _ _
 obtain ⟨⟨z0,ae,af,ag,ah,ak,al⟩,⟨z1,aB,aD,aE,aG,aH,aI⟩⟩:=ap.out _ gb
 refine (zdO b _ _ ln ld _ (i0.to gb) x rfl hs).mono ?_
 clear ae ah af ak ag al aB aG aD aH aE aI
 rintro e w1 ⟨ng1,a1_,n1_,c1_,p1_,m1_,k1_,rfl,g1,be⟩
 replace gb:=bS gb be
 obtain ⟨⟨z0,ae,af,ag,ah,ak,al⟩,⟨z1,aB,aD,aE,aG,aH,aI⟩⟩:=ap.out _ gb
 go_wp2_with fail
 refine bodyPost_ret (zmK Tryz.results142 _ _ _ _ _ _ rfl (Tri.set (x0:=.bool false) (y0:=.slice none 0 0) (z0:=.slice none 0 0) ⟨aB,aD,aE,aG,aH,aI⟩ _ _ _)) rfl (zef (bS zb gb) (by omega) ?_ g1)
 omega

theorem zmE {x y:Rat} (b:Bool) (v u:Value) (ln ld:List Nat) (c:Bool) (v' u':Value) (ln' ld':List Nat) (w:World) (h:IsQ w b v u ln ld x) (h':IsQ w c v' u' ln' ld' y) (q:Rat) (hq:x*y=q) (hs:Hid (szq q<=1000)) :
  Calls Tryz.prog 119 #[aggR b v u,aggR c v' u'] w (zap w q):=by
 have K1:=Lib.hid (show (za (val ln*val ln')).length<=3000 by
  rw [ze];have:=zaZ (val ln) (val ln');have:=zy h.1.1;have:=zy h'.1.1;have:=h.2.2.2.1;have:=h'.2.2.2.1;omega)
 have K2:=Lib.hid (show (za (val ld*val ld')).length<=3000 by
  rw [ze];have:=zaZ (val ld) (val ld');have:=zy h.2.1.1;have:=zy h'.2.1.1;have:=h.2.2.2.2;have:=h'.2.2.2.2;omega)
 have H9:=Lib.hid (show rat (!b == c) (val (za (val ln*val ln'))) (val (za (val ld*val ld')))=q by show rat (b != c) _ _=q;rw [vL,vL,<- zgp,h.2.2.1,h'.2.2.1,hq])
 obtain ⟨a0,n0,c0,rfl,H0,hm0⟩:=h.1.open
 obtain ⟨a1,n1,c1,rfl,H1,hm1⟩:=h.2.1.open
 obtain ⟨a2,n2,c2,rfl,H2,hm2⟩:=h'.1.open
 obtain ⟨a3,n3,c3,rfl,H3,hm3⟩:=h'.2.1.open
 clear hq
 go_enter Tryz.func119,Tryz.ntmps119
 go_wp2_with fail
 obtain ⟨W0,an⟩:∃ W0,((w.alloc (.cells #[.bool b,.slice a0 n0 c0,.slice a1 n1 c1] 47)).alloc (.cells #[.bool c,.slice a2 n2 c2,.slice a3 n3 c3] 47)).alloc (.cells #[.bool false,.slice none 0 0,.slice none 0 0] 47)=W0:=⟨_,rfl⟩
 have ap:=Lib.hid (show ∀ W',Below W0.heap.size W0 W'->(Bx3 W' w.heap.size (.bool b) (.slice a0 n0 c0) (.slice a1 n1 c1)/\Bx3 W' (w.heap.size+1) (.bool c) (.slice a2 n2 c2) (.slice a3 n3 c3)/\Bx3 W' (w.heap.size+1+1) (.bool false) (.slice none 0 0) (.slice none 0 0)) from fun W' hb => by
   refine ⟨bx3 hb ?_ ?_ ?_ ?_ ?_ ?_,bx3 hb ?_ ?_ ?_ ?_ ?_ ?_,bx3 hb ?_ ?_ ?_ ?_ ?_ ?_⟩
   all_goals first|assumption|(rw [<- an];simp [go_sem]))
 have zb:Below w.heap.size w W0:=by rw [<- an];exact bS (bS (bN _ _) (bN _ _)) (bN _ _)
 rw [an]
 clear an
 have i0:=h.to zb
 have i1:=h'.to zb
 have gb:Below W0.heap.size W0 W0:=Below.refl _ _
 obtain ⟨⟨z0,ae,af,ag,ah,ak,al⟩,⟨z1,aB,aD,aE,aG,aH,aI⟩,⟨z2,bu,bv,cg,bV,bW,cm⟩⟩:=ap.out _ gb
 have nz0:w.heap.size≠w.heap.size+1+1:=by omega
 have nz1:w.heap.size+1≠w.heap.size+1+1:=by omega
 go_region_held3 (fun W' => W'.cell? ⟨w.heap.size,0,none⟩=some (.bool b)/\W'.cell? ⟨w.heap.size,1,none⟩=some (.slice a0 n0 c0)/\W'.cell? ⟨w.heap.size,2,none⟩=some (.slice a1 n1 c1)/\W'.cell? ⟨w.heap.size+1,0,none⟩=some (.bool c)/\W'.cell? ⟨w.heap.size+1,1,none⟩=some (.slice a2 n2 c2)/\W'.cell? ⟨w.heap.size+1,2,none⟩=some (.slice a3 n3 c3)) (first|(with_reducible exact ⟨ae,af,ag,aB,aD,aE⟩)|(with_reducible exact ⟨cP (cP (cP (ae) (.inl nz0) _) (.inl nz0) _) (.inl nz0) _,cP (cP (cP (af) (.inl nz0) _) (.inl nz0) _) (.inl nz0) _,cP (cP (cP (ag) (.inl nz0) _) (.inl nz0) _) (.inl nz0) _,cP (cP (cP (aB) (.inl nz1) _) (.inl nz1) _) (.inl nz1) _,cP (cP (cP (aD) (.inl nz1) _) (.inl nz1) _) (.inl nz1) _,cP (cP (cP (aE) (.inl nz1) _) (.inl nz1) _) (.inl nz1) _⟩)|exact ⟨ae,af,ag,aB,aD,aE⟩) (first
  | (go_at_call 62;(with_reducible refine (zab (!b == c) _ _ _ _ _ g1.rd g2.rd K1.out K2.out q H9.out hs).mono ?_);rintro e w3 ⟨ng3,a3_,n3_,c3_,p3_,m3_,k3_,rfl,g3,cl⟩;have g1:=g1.to cl;have g2:=g2.to cl;have gb:=bS gb cl;obtain ⟨⟨z0,ae,af,ag,ah,ak,al⟩,⟨z1,aB,aD,aE,aG,aH,aI⟩,⟨z2,bu,bv,cg,bV,bW,cm⟩⟩:=ap.out _ gb)
  | (go_at_call 147;(with_reducible refine (zcq _ _ ld ld' _ (i0.to gb).dn (i1.to gb).dn (Nat.le_trans h.ldn (by omega)) (Nat.le_trans h'.ldn (by omega))).mono ?_);rintro e w2 ⟨v2,rfl,g2,aZ⟩;obtain ⟨a2_,n2_,c2_,rfl,H2,hm2⟩:=g2.rd.open;have g1:=g1.to aZ;have gb:=bS gb aZ;obtain ⟨⟨z0,ae,af,ag,ah,ak,al⟩,⟨z1,aB,aD,aE,aG,aH,aI⟩,⟨z2,bu,bv,cg,bV,bW,cm⟩⟩:=ap.out _ gb)
  | (go_at_call 147;have gb:=gb.drew;(with_reducible refine (zcq _ _ ln ln' _ (i0.to gb).up (i1.to gb).up (Nat.le_trans h.lup (by omega)) (Nat.le_trans h'.lup (by omega))).mono ?_);rintro e w1 ⟨v1,rfl,g1,be⟩;obtain ⟨a1_,n1_,c1_,rfl,H1,hm1⟩:=g1.rd.open;have gb:=bS gb be;obtain ⟨⟨z0,ae,af,ag,ah,ak,al⟩,⟨z1,aB,aD,aE,aG,aH,aI⟩,⟨z2,bu,bv,cg,bV,bW,cm⟩⟩:=ap.out _ gb))
 go_wp2_with fail
 refine bodyPost_ret (zY Tryz.results119 _ _ _ _ _ _ rfl (Tri.set (x0:=.bool false) (y0:=.slice none 0 0) (z0:=.slice none 0 0) ⟨bu,bv,cg,bV,bW,cm⟩ _ _ _)) rfl (zef (bS zb gb) (by omega) ?_ g3)
 omega

end Go.Proofs.YtkjcdnlpjldhaaaGreat


namespace Go.Proofs.YtkjcdnlpjldhaaaGreat
open Go.RowKit Tw
attribute [local go_sem ↓] Go.wp_at_zero Go.wp_at_succ

theorem zhL {x y:Rat} (b:Bool) (v u:Value) (ln ld:List Nat) (c:Bool) (v' u':Value) (ln' ld':List Nat) (w:World) (h:IsQ w b v u ln ld x) (h':IsQ w c v' u' ln' ld' y) (q:Rat) (hq:x+y=q) (hs:Hid (szq q<=1000)) :
  Calls Tryz.prog 117 #[aggR b v u,aggR c v' u'] w (zap w q):=by
 have Hx:Hid (szq x<=1000):=zaY h
 have Hy:Hid (szq y<=1000):=zaY h'
 have S1:=Lib.hid (show szi (x.num*(y.den:Int))<=90000 from zdK Hx.out Hy.out)
 have S2:=Lib.hid (show szi (y.num*(x.den:Int))<=90000 from zdK Hy.out Hx.out)
 have S3:=Lib.hid (show szi (x.num*(y.den:Int)+y.num*(x.den:Int))<=2001 from sum_sz Hx.out Hy.out)
 have S4:=Lib.hid (show szi (x.num*(y.den:Int)+y.num*(x.den:Int))<=90000 from Nat.le_trans S3.out (by omega))
 have K2:=Lib.hid (show (za (val (za x.den)*val (za y.den))).length<=3000 from den_sz Hx.out Hy.out)
 have H9:=Lib.hid (show ∀ ng,decide (x.num*(y.den:Int)+y.num*(x.den:Int)<0)=ng->rat ng (val (za (x.num*(y.den:Int)+y.num*(x.den:Int)).natAbs)) (val (za (val (za x.den)*val (za y.den))))=q from fun ng e => by
  rw [<- e,vL,vL,vL,vL,<- zff,<- Rat.add_def',hq])
 obtain ⟨a0,n0,c0,rfl,H0,hm0⟩:=h.1.open
 obtain ⟨a1,n1,c1,rfl,H1,hm1⟩:=h.2.1.open
 obtain ⟨a2,n2,c2,rfl,H2,hm2⟩:=h'.1.open
 obtain ⟨a3,n3,c3,rfl,H3,hm3⟩:=h'.2.1.open
 clear hq
 go_enter Tryz.func117,Tryz.ntmps117
 go_wp2_with fail
 obtain ⟨W0,an⟩:∃ W0,((w.alloc (.cells #[.bool b,.slice a0 n0 c0,.slice a1 n1 c1] 47)).alloc (.cells #[.bool c,.slice a2 n2 c2,.slice a3 n3 c3] 47)).alloc (.cells #[.bool false,.slice none 0 0,.slice none 0 0] 47)=W0:=⟨_,rfl⟩
 have ap:=Lib.hid (show ∀ W',Below W0.heap.size W0 W'->(W'.cell? ⟨w.heap.size,0,none⟩=some (.bool b)/\W'.cell? ⟨w.heap.size,1,none⟩=some (.slice a0 n0 c0)/\W'.cell? ⟨w.heap.size,2,none⟩=some (.slice a1 n1 c1)/\W'.cell? ⟨w.heap.size+1,0,none⟩=some (.bool c)/\W'.cell? ⟨w.heap.size+1,1,none⟩=some (.slice a2 n2 c2)/\W'.cell? ⟨w.heap.size+1,2,none⟩=some (.slice a3 n3 c3)/\W'.cell? ⟨w.heap.size+1+1,0,none⟩=some (.bool false)/\W'.cell? ⟨w.heap.size+1+1,1,none⟩=some (.slice none 0 0)/\W'.cell? ⟨w.heap.size+1+1,2,none⟩=some (.slice none 0 0)) from fun W' hb =>
  by and_intros <;> exact kc hb (by first|assumption|(rw [<- an];simp [go_sem])))
 have cE:=Lib.hid (show ∀ W',Below W0.heap.size W0 W'->(W'.frozen? ⟨w.heap.size,0,none⟩=false/\W'.frozen? ⟨w.heap.size,1,none⟩=false/\W'.frozen? ⟨w.heap.size,2,none⟩=false/\W'.frozen? ⟨w.heap.size+1,0,none⟩=false/\W'.frozen? ⟨w.heap.size+1,1,none⟩=false/\W'.frozen? ⟨w.heap.size+1,2,none⟩=false/\W'.frozen? ⟨w.heap.size+1+1,0,none⟩=false/\W'.frozen? ⟨w.heap.size+1+1,1,none⟩=false/\W'.frozen? ⟨w.heap.size+1+1,2,none⟩=false) from fun W' hb =>
  by and_intros <;> refine (hb.frozen ?_).trans ?_ <;> first|assumption|(rw [<- an];simp [go_sem])|(rw [<- an];simp <;> omega))
 have cF:=Lib.hid (show ∀ W',Below W0.heap.size W0 W'->(w.heap.size<W'.heap.size/\w.heap.size+1<W'.heap.size/\w.heap.size+1+1<W'.heap.size) from fun W' hb =>
  by and_intros <;> refine Nat.lt_of_lt_of_le ?_ hb.size <;> first|assumption|(rw [<- an];simp <;> omega))
 have zb:Below w.heap.size w W0:=by rw [<- an];exact bS (bS (bN _ _) (bN _ _)) (bN _ _)
 rw [an]
 clear an
 have i0:=h.to zb
 have i1:=h'.to zb
 have gb:Below W0.heap.size W0 W0:=Below.refl _ _
 obtain ⟨ae,af,ag,aB,aD,aE,bu,bv,cg⟩:=ap.out _ gb
 obtain ⟨ah,ak,al,aG,aH,aI,bV,bW,cm⟩:=cE.out _ gb
 obtain ⟨z0,z1,z2⟩:=cF.out _ gb
 have hgb:=gb
 go_upto_region 1 with fail
 go_cut [5,6] from 8 (fun s5 s6 wx => zcg W0 (x) s5 wx/\zcg W0 (y) s6 wx)
 case first =>
  go_region_held3 (fun W' => W'.cell? ⟨w.heap.size,0,none⟩=some (.bool b)/\W'.cell? ⟨w.heap.size,1,none⟩=some (.slice a0 n0 c0)/\W'.cell? ⟨w.heap.size,2,none⟩=some (.slice a1 n1 c1)/\W'.cell? ⟨w.heap.size+1,0,none⟩=some (.bool c)/\W'.cell? ⟨w.heap.size+1,1,none⟩=some (.slice a2 n2 c2)/\W'.cell? ⟨w.heap.size+1,2,none⟩=some (.slice a3 n3 c3)/\W'.cell? ⟨w.heap.size+1+1,0,none⟩=some (.bool false)/\W'.cell? ⟨w.heap.size+1+1,1,none⟩=some (.slice none 0 0)/\W'.cell? ⟨w.heap.size+1+1,2,none⟩=some (.slice none 0 0)) (with_reducible first|(exact ap.out _ gb)|((refine ap.out _ ?_);first|((refine Below.drew ?_);first|(exact gb)|((refine bT ?_ ?_ _ _ _);rotate_left;(first|(exact aL)|(exact aP)|(exact aM)|(exact aQ));first|(exact gb)|((refine bT ?_ ?_ _ _ _);rotate_left;(first|(exact aL)|(exact aP)|(exact aM)|(exact aQ));exact gb)|((refine bS ?_ (bN _ _));exact gb))|((refine bS ?_ (bN _ _));first|(exact gb)|((refine bT ?_ ?_ _ _ _);rotate_left;(first|(exact aL)|(exact aP)|(exact aM)|(exact aQ));exact gb)|((refine bS ?_ (bN _ _));exact gb)))|(first|(exact gb)|((refine bT ?_ ?_ _ _ _);rotate_left;(first|(exact aL)|(exact aP)|(exact aM)|(exact aQ));first|(exact gb)|((refine bT ?_ ?_ _ _ _);rotate_left;(first|(exact aL)|(exact aP)|(exact aM)|(exact aQ));first|(exact gb)|((refine bT ?_ ?_ _ _ _);rotate_left;(first|(exact aL)|(exact aP)|(exact aM)|(exact aQ));first|(exact gb)|((refine bT ?_ ?_ _ _ _);rotate_left;(first|(exact aL)|(exact aP)|(exact aM)|(exact aQ));exact gb)|((refine bS ?_ (bN _ _));exact gb))|((refine bS ?_ (bN _ _));first|(exact gb)|((refine bT ?_ ?_ _ _ _);rotate_left;(first|(exact aL)|(exact aP)|(exact aM)|(exact aQ));exact gb)|((refine bS ?_ (bN _ _));exact gb)))|((refine bS ?_ (bN _ _));first|(exact gb)|((refine bT ?_ ?_ _ _ _);rotate_left;(first|(exact aL)|(exact aP)|(exact aM)|(exact aQ));first|(exact gb)|((refine bT ?_ ?_ _ _ _);rotate_left;(first|(exact aL)|(exact aP)|(exact aM)|(exact aQ));exact gb)|((refine bS ?_ (bN _ _));exact gb))|((refine bS ?_ (bN _ _));first|(exact gb)|((refine bT ?_ ?_ _ _ _);rotate_left;(first|(exact aL)|(exact aP)|(exact aM)|(exact aQ));exact gb)|((refine bS ?_ (bN _ _));exact gb))))|((refine bS ?_ (bN _ _));first|(exact gb)|((refine bT ?_ ?_ _ _ _);rotate_left;(first|(exact aL)|(exact aP)|(exact aM)|(exact aQ));first|(exact gb)|((refine bT ?_ ?_ _ _ _);rotate_left;(first|(exact aL)|(exact aP)|(exact aM)|(exact aQ));first|(exact gb)|((refine bT ?_ ?_ _ _ _);rotate_left;(first|(exact aL)|(exact aP)|(exact aM)|(exact aQ));exact gb)|((refine bS ?_ (bN _ _));exact gb))|((refine bS ?_ (bN _ _));first|(exact gb)|((refine bT ?_ ?_ _ _ _);rotate_left;(first|(exact aL)|(exact aP)|(exact aM)|(exact aQ));exact gb)|((refine bS ?_ (bN _ _));exact gb)))|((refine bS ?_ (bN _ _));first|(exact gb)|((refine bT ?_ ?_ _ _ _);rotate_left;(first|(exact aL)|(exact aP)|(exact aM)|(exact aQ));first|(exact gb)|((refine bT ?_ ?_ _ _ _);rotate_left;(first|(exact aL)|(exact aP)|(exact aM)|(exact aQ));exact gb)|((refine bS ?_ (bN _ _));exact gb))|((refine bS ?_ (bN _ _));first|(exact gb)|((refine bT ?_ ?_ _ _ _);rotate_left;(first|(exact aL)|(exact aP)|(exact aM)|(exact aQ));exact gb)|((refine bS ?_ (bN _ _));exact gb))))))) (first
   | (go_at_call 142;(refine zl w1 (by with_reducible first|exact Below.refl _ _|exact bN _ _|exact bS (bN _ _) (bN _ _)) ?_);intro V2 dY ch;have ep:=ch.size;have dH:=gb.size;have g1:=g1.to ch;have gb:=bS gb ch;(try have am:=am.to ch);(try have bl:=bl.to ch);(try have aN:Tri V2 (w1.heap.size) (.bool false) (.slice none 0 0) (.slice none 0 0):=(by rw [dY];with_reducible first|exact zi _ (.bool false) (.slice none 0 0) (.slice none 0 0) _|exact (zi _ (.bool false) (.slice none 0 0) (.slice none 0 0) _).alloc _));have aM:W0.heap.size<=w1.heap.size:=(dH);have bq:w1.heap.size<=w1.heap.size:=(Nat.le_refl _);(try have bY:Tri V2 (w1.heap.size+1) (.bool false) (.slice none 0 0) (.slice none 0 0):=(by rw [dY];first|with_reducible exact zcz _ _ (.bool false) (.slice none 0 0) (.slice none 0 0) _));have aQ:W0.heap.size<=w1.heap.size+1:=(Nat.le_succ_of_le dH);have bs:w1.heap.size<=w1.heap.size+1:=(Nat.le_succ _);(try have a9:=am.lt);(try have bL:=bl.lt);(try have bc:=aN.lt);(try have bM:=bY.lt);(with_reducible refine (zbJ c _ _ ln' ld' _ (i1.to gb) Hy).mono ?_);rintro e w2 ⟨ng2,a2_,n2_,c2_,p2_,m2_,k2_,rfl,g2,aZ⟩;have g1:=g1.to aZ;have gb:=bS gb aZ;have dZ:=aZ.size;(try have am:=am.to aZ);(try have bl:=bl.to aZ);(try have aN:=aN.to aZ);(try have bY:=bY.to aZ);(try have cn:=am.lt);(try have eP:=bl.lt);(try have cq:=aN.lt);(try have eQ:=bY.lt);(try (have bj:=am;obtain ⟨bx,bA,bB,bE,bH,bJ⟩:=bj));(try (have di:=bl;obtain ⟨dR,dS,dT,dU,dV,dW⟩:=di));(try (have cf:=aN;obtain ⟨cH,cI,cK,cL,cM,cN⟩:=cf));(try (have eq:=bY;obtain ⟨eY,eZ,fc,fd,fe,ff⟩:=eq)))
   | (go_at_call 142;(refine zl W0 (by with_reducible first|exact (Below.refl _ _).drew|exact (bN _ _).drew|exact (bS (bN _ _) (bN _ _)).drew) ?_);intro V1 dX cG;have eo:=cG.size;have dG:=gb.size;have gb:=bS gb cG;(try have am:Tri V1 (W0.heap.size) (.bool false) (.slice none 0 0) (.slice none 0 0):=(by rw [dX];with_reducible first|exact (zi _ (.bool false) (.slice none 0 0) (.slice none 0 0) _).drew|exact ((zi _ (.bool false) (.slice none 0 0) (.slice none 0 0) _).alloc _).drew));have aL:W0.heap.size<=W0.heap.size:=(dG);(try have bl:Tri V1 (W0.heap.size+1) (.bool false) (.slice none 0 0) (.slice none 0 0):=(by rw [dX];first|with_reducible exact (zcz _ _ (.bool false) (.slice none 0 0) (.slice none 0 0) _).drew));have aP:W0.heap.size<=W0.heap.size+1:=(Nat.le_succ_of_le dG);(try have bk:=am.lt);(try have bK:=bl.lt);(with_reducible refine (zbJ b _ _ ln ld _ (i0.to gb) Hx).mono ?_);rintro e w1 ⟨ng1,a1_,n1_,c1_,p1_,m1_,k1_,rfl,g1,be⟩;have gb:=bS gb be;have dD:=be.size;(try have am:=am.to be);(try have bl:=bl.to be);(try have bw:=am.lt);(try have cB:=bl.lt);(try (have bj:=am;obtain ⟨bx,bA,bB,bE,bH,bJ⟩:=bj));(try (have di:=bl;obtain ⟨dR,dS,dT,dU,dV,dW⟩:=di))))
  all_goals (go_wp2_with fail;go_meet)
  all_goals first
   | (with_reducible exact zn am bl (Nat.ne_of_lt (Nat.lt_succ_self _)) g1 g2 (.inl bk) (.inl bK) (.inl a9) (.inl bL) gb aL aP)
   | (with_reducible exact zn am aN (Nat.ne_of_lt bw) g1 g2 (.inl bk) (.inr bq) (.inl a9) (.inl bc) gb aL aM)
   | (with_reducible exact zn am bY (Nat.ne_of_lt (Nat.lt_succ_of_lt bw)) g1 g2 (.inl bk) (.inr bs) (.inl a9) (.inl bM) gb aL aQ)
   | (with_reducible exact zn bl am ((Nat.ne_of_lt (Nat.lt_succ_self _)).symm) g1 g2 (.inl bK) (.inl bk) (.inl bL) (.inl a9) gb aP aL)
   | (with_reducible exact zn bl aN (Nat.ne_of_lt cB) g1 g2 (.inl bK) (.inr bq) (.inl bL) (.inl bc) gb aP aM)
   | (with_reducible exact zn bl bY (Nat.ne_of_lt (Nat.lt_succ_of_lt cB)) g1 g2 (.inl bK) (.inr bs) (.inl bL) (.inl bM) gb aP aQ)
   | (with_reducible exact zn aN am ((Nat.ne_of_lt bw).symm) g1 g2 (.inr bq) (.inl bk) (.inl bc) (.inl a9) gb aM aL)
   | (with_reducible exact zn aN bl ((Nat.ne_of_lt cB).symm) g1 g2 (.inr bq) (.inl bK) (.inl bc) (.inl bL) gb aM aP)
   | (with_reducible exact zn aN bY (Nat.ne_of_lt (Nat.lt_succ_self _)) g1 g2 (.inr bq) (.inr bs) (.inl bc) (.inl bM) gb aM aQ)
   | (with_reducible exact zn bY am ((Nat.ne_of_lt (Nat.lt_succ_of_lt bw)).symm) g1 g2 (.inr bs) (.inl bk) (.inl bM) (.inl a9) gb aQ aL)
   | (with_reducible exact zn bY bl ((Nat.ne_of_lt (Nat.lt_succ_of_lt cB)).symm) g1 g2 (.inr bs) (.inl bK) (.inl bM) (.inl bL) gb aQ aP)
   | (with_reducible exact zn bY aN ((Nat.ne_of_lt (Nat.lt_succ_self _)).symm) g1 g2 (.inr bs) (.inr bq) (.inl bM) (.inl bc) gb aQ aM)
   | (with_reducible exact zw am g1 g2 (.inl bk) (.inl a9) gb aL)
   | (with_reducible exact (zw am g2 g1 (.inl a9) (.inl bk) gb aL).symm)
   | (with_reducible exact zw bl g1 g2 (.inl bK) (.inl bL) gb aP)
   | (with_reducible exact (zw bl g2 g1 (.inl bL) (.inl bK) gb aP).symm)
   | (with_reducible exact zw aN g1 g2 (.inr bq) (.inl bc) gb aM)
   | (with_reducible exact (zw aN g2 g1 (.inl bc) (.inr bq) gb aM).symm)
   | (with_reducible exact zw bY g1 g2 (.inr bs) (.inl bM) gb aQ)
   | (with_reducible exact (zw bY g2 g1 (.inl bM) (.inr bs) gb aQ).symm)
   | (with_reducible exact zcl g1 g2 gb)
   | (with_reducible exact (zcl g2 g1 gb).symm)
 case rest =>
 obtain ⟨⟨B5,ng1,a1_,n1_,c1_,p1_,m1_,k1_,lo5,hi5,rfl,hB5,T5,g1,hc5⟩,⟨B6,ng2,a2_,n2_,c2_,p2_,m2_,k2_,lo6,hi6,rfl,hB6,T6,g2,hc6⟩⟩:=hcut
 clear ae ah af ak ag al aB aG aD aH aE aI bu bV bv bW cg cm
 have gb:=hc5
 obtain ⟨ae,af,ag,aB,aD,aE,bu,bv,cg⟩:=ap.out _ gb
 obtain ⟨ah,ak,al,aG,aH,aI,bV,bW,cm⟩:=cE.out _ gb
 obtain ⟨z0,z1,z2⟩:=cF.out _ gb
 have z5:=T5.lt
 obtain ⟨bO,bP,bQ,bZ,b7,ce⟩:=T5
 have z6:=T6.lt
 obtain ⟨cO,cQ,cR,cV,cW,cX⟩:=T6
 clear hgb
 obtain ⟨W1,aO⟩:∃ W,wc=W:=⟨_,rfl⟩
 subst aO
 replace i0:=i0.to gb
 replace i1:=i1.to gb
 replace zb:=bS zb gb
 have HXwc:=Lib.hid (show ∀ W',Below wc.heap.size wc W'->(W'.cell? ⟨w.heap.size,0,none⟩=some (.bool b)/\W'.cell? ⟨w.heap.size,1,none⟩=some (.slice a0 n0 c0)/\W'.cell? ⟨w.heap.size,2,none⟩=some (.slice a1 n1 c1)/\W'.cell? ⟨w.heap.size+1,0,none⟩=some (.bool c)/\W'.cell? ⟨w.heap.size+1,1,none⟩=some (.slice a2 n2 c2)/\W'.cell? ⟨w.heap.size+1,2,none⟩=some (.slice a3 n3 c3)/\W'.cell? ⟨w.heap.size+1+1,0,none⟩=some (.bool false)/\W'.cell? ⟨w.heap.size+1+1,1,none⟩=some (.slice none 0 0)/\W'.cell? ⟨w.heap.size+1+1,2,none⟩=some (.slice none 0 0)/\W'.cell? ⟨B5,0,none⟩=some (.bool ng1)/\W'.cell? ⟨B5,1,none⟩=some (.slice a1_ n1_ c1_)/\W'.cell? ⟨B5,2,none⟩=some (.slice p1_ m1_ k1_)/\W'.cell? ⟨B6,0,none⟩=some (.bool ng2)/\W'.cell? ⟨B6,1,none⟩=some (.slice a2_ n2_ c2_)/\W'.cell? ⟨B6,2,none⟩=some (.slice p2_ m2_ k2_)) from fun W' hb =>
  by and_intros <;> exact kc hb (by first|assumption|assumption))
 have HYwc:=Lib.hid (show ∀ W',Below wc.heap.size wc W'->(W'.frozen? ⟨w.heap.size,0,none⟩=false/\W'.frozen? ⟨w.heap.size,1,none⟩=false/\W'.frozen? ⟨w.heap.size,2,none⟩=false/\W'.frozen? ⟨w.heap.size+1,0,none⟩=false/\W'.frozen? ⟨w.heap.size+1,1,none⟩=false/\W'.frozen? ⟨w.heap.size+1,2,none⟩=false/\W'.frozen? ⟨w.heap.size+1+1,0,none⟩=false/\W'.frozen? ⟨w.heap.size+1+1,1,none⟩=false/\W'.frozen? ⟨w.heap.size+1+1,2,none⟩=false/\W'.frozen? ⟨B5,0,none⟩=false/\W'.frozen? ⟨B5,1,none⟩=false/\W'.frozen? ⟨B5,2,none⟩=false/\W'.frozen? ⟨B6,0,none⟩=false/\W'.frozen? ⟨B6,1,none⟩=false/\W'.frozen? ⟨B6,2,none⟩=false) from fun W' hb =>
  by and_intros <;> refine (hb.frozen ?_).trans ?_ <;> first|assumption|assumption)
 have HZwc:=Lib.hid (show ∀ W',Below wc.heap.size wc W'->(w.heap.size<W'.heap.size/\w.heap.size+1<W'.heap.size/\w.heap.size+1+1<W'.heap.size/\B5<W'.heap.size/\B6<W'.heap.size) from fun W' hb =>
  by and_intros <;> refine Nat.lt_of_lt_of_le ?_ hb.size <;> first|assumption)
 replace gb:=Below.refl wc.heap.size wc
 go_wp2_with fail
 have hgb:=gb
 go_upto_region 2 with fail
 go_cut [7] from 12 (fun s7 wx => BoxC wc (x.num*(y.den:Int)+y.num*(x.den:Int)) s7 wx)
 case first =>
  go_region_held3 (fun W' => W'.cell? ⟨w.heap.size,0,none⟩=some (.bool b)/\W'.cell? ⟨w.heap.size,1,none⟩=some (.slice a0 n0 c0)/\W'.cell? ⟨w.heap.size,2,none⟩=some (.slice a1 n1 c1)/\W'.cell? ⟨w.heap.size+1,0,none⟩=some (.bool c)/\W'.cell? ⟨w.heap.size+1,1,none⟩=some (.slice a2 n2 c2)/\W'.cell? ⟨w.heap.size+1,2,none⟩=some (.slice a3 n3 c3)/\W'.cell? ⟨w.heap.size+1+1,0,none⟩=some (.bool false)/\W'.cell? ⟨w.heap.size+1+1,1,none⟩=some (.slice none 0 0)/\W'.cell? ⟨w.heap.size+1+1,2,none⟩=some (.slice none 0 0)/\W'.cell? ⟨B5,0,none⟩=some (.bool ng1)/\W'.cell? ⟨B5,1,none⟩=some (.slice a1_ n1_ c1_)/\W'.cell? ⟨B5,2,none⟩=some (.slice p1_ m1_ k1_)/\W'.cell? ⟨B6,0,none⟩=some (.bool ng2)/\W'.cell? ⟨B6,1,none⟩=some (.slice a2_ n2_ c2_)/\W'.cell? ⟨B6,2,none⟩=some (.slice p2_ m2_ k2_)) (with_reducible first|(exact HXwc.out _ gb)|((refine HXwc.out _ ?_);first|((refine Below.drew ?_);first|(exact gb)|((refine bD ?_ ?_ _ _);rotate_left;(first|(exact dI)|(exact dJ)|(exact dK)|(exact dL)|(exact dM)|(exact dN)|(exact dO));exact gb)|((refine bS ?_ (bN _ _));exact gb))|(first|(exact gb)|((refine bD ?_ ?_ _ _);rotate_left;(first|(exact dI)|(exact dJ)|(exact dK)|(exact dL)|(exact dM)|(exact dN)|(exact dO));first|(exact gb)|((refine bD ?_ ?_ _ _);rotate_left;(first|(exact dI)|(exact dJ)|(exact dK)|(exact dL)|(exact dM)|(exact dN)|(exact dO));exact gb)|((refine bS ?_ (bN _ _));exact gb))|((refine bS ?_ (bN _ _));first|(exact gb)|((refine bD ?_ ?_ _ _);rotate_left;(first|(exact dI)|(exact dJ)|(exact dK)|(exact dL)|(exact dM)|(exact dN)|(exact dO));exact gb)|((refine bS ?_ (bN _ _));exact gb))))) (first
   | (go_at_call 143;(refine zl w16 (by with_reducible first|exact Below.refl _ _|exact bN _ _) ?_);intro V17 il el;have hsV17:=el.size;have iD:=gb.size;have g13:=g13.to el;have g16:=g16.to el;have gb:=bS gb el;(try have bo:=bo.to el);(try have bt:=bt.to el);(try have bX:=bX.to el);(try have ci:=ci.to el);(try have cD:=cD.to el);(try have db:=db.to el);(try have d9:Duo V17 (w16.heap.size) (.bool false) (.slice none 0 0):=(by rw [il];with_reducible first|exact zay _ (.bool false) (.slice none 0 0) _|exact (zay _ (.bool false) (.slice none 0 0) _).alloc _));have dO:wc.heap.size<=w16.heap.size:=(iD);(try have fg:=bo.lt);(try have fh:=bt.lt);(try have fj:=bX.lt);(try have fk:=ci.lt);(try have fl:=cD.lt);(try have fm:=db.lt);(try have fo:=d9.lt);(with_reducible refine (add_c _ g13.isI g16.isI (x.num*(y.den:Int)+y.num*(x.den:Int)) rfl S4).mono ?_);rintro e w17 ⟨ng17,a17_,n17_,c17_,rfl,g17,dC⟩;have g13:=g13.to dC;have g16:=g16.to dC;have gb:=bS gb dC;have hs17:=dC.size;(try have bo:=bo.to dC);(try have bt:=bt.to dC);(try have bX:=bX.to dC);(try have ci:=ci.to dC);(try have cD:=cD.to dC);(try have db:=db.to dC);(try have d9:=d9.to dC);(try have lt11_I_0_17:=bo.lt);(try have lt12_I_0_17:=bt.lt);(try have lt13_I_0_17:=bX.lt);(try have lt14_I_0_17:=ci.lt);(try have lt15_I_0_17:=cD.lt);(try have lt16_I_0_17:=db.lt);(try have lt17_I_0_17:=d9.lt);(try (have cT:=bo;obtain ⟨dq,dr,dt,du⟩:=cT));(try (have cY:=bt;obtain ⟨dw,dx,dy,dA⟩:=cY));(try (have dh:=bX;obtain ⟨d5,d6,d7,d8⟩:=dh));(try (have dv:=ci;obtain ⟨eu,ew,eC,eD⟩:=dv));(try (have dQ:=cD;obtain ⟨eS,eT,eU,eV⟩:=dQ));(try (have eL:=db;obtain ⟨fu,fw,fx,fy⟩:=eL));(try (have fC:=d9;obtain ⟨rt17_I_00,rt17_I_01,st17_I_00,st17_I_01⟩:=fC)))
   | (go_at_call 144;(refine zl w15 (by with_reducible first|exact Below.refl _ _|exact bN _ _) ?_);intro V16 ik eF;have hsV16:=eF.size;have iC:=gb.size;have g13:=g13.to eF;have gb:=bS gb eF;(try have bo:=bo.to eF);(try have bt:=bt.to eF);(try have bX:=bX.to eF);(try have ci:=ci.to eF);(try have cD:=cD.to eF);(try have db:Duo V16 (w15.heap.size) (.bool false) (.slice none 0 0):=(by rw [ik];with_reducible first|exact zay _ (.bool false) (.slice none 0 0) _|exact (zay _ (.bool false) (.slice none 0 0) _).alloc _));have dN:wc.heap.size<=w15.heap.size:=(iC);(try have vt11_I_0_16:=bo.lt);(try have vt12_I_0_16:=bt.lt);(try have vt13_I_0_16:=bX.lt);(try have vt14_I_0_16:=ci.lt);(try have vt15_I_0_16:=cD.lt);(try have vt16_I_0_16:=db.lt);(with_reducible refine (zhH _ (g2.to gb).above (g1.to gb).below (y.num*(x.den:Int)) rfl S2).mono ?_);rintro e w16 ⟨ng16,a16_,n16_,c16_,rfl,g16,en⟩;have g13:=g13.to en;have gb:=bS gb en;have hs16:=en.size;(try have bo:=bo.to en);(try have bt:=bt.to en);(try have bX:=bX.to en);(try have ci:=ci.to en);(try have cD:=cD.to en);(try have db:=db.to en);(try have lt11_I_0_16:=bo.lt);(try have lt12_I_0_16:=bt.lt);(try have lt13_I_0_16:=bX.lt);(try have lt14_I_0_16:=ci.lt);(try have lt15_I_0_16:=cD.lt);(try have lt16_I_0_16:=db.lt);(try (have cT:=bo;obtain ⟨dq,dr,dt,du⟩:=cT));(try (have cY:=bt;obtain ⟨dw,dx,dy,dA⟩:=cY));(try (have dh:=bX;obtain ⟨d5,d6,d7,d8⟩:=dh));(try (have dv:=ci;obtain ⟨eu,ew,eC,eD⟩:=dv));(try (have dQ:=cD;obtain ⟨eS,eT,eU,eV⟩:=dQ));(try (have eL:=db;obtain ⟨fu,fw,fx,fy⟩:=eL)))
   | (go_at_call 146;(refine zl w14 (by with_reducible first|exact Below.refl _ _|exact bN _ _) ?_);intro V15 ij eK;have hsV15:=eK.size;have iB:=gb.size;have g13:=g13.to eK;have gb:=bS gb eK;(try have bo:=bo.to eK);(try have bt:=bt.to eK);(try have bX:=bX.to eK);(try have ci:=ci.to eK);(try have cD:Duo V15 (w14.heap.size) (.bool false) (.slice none 0 0):=(by rw [ij];with_reducible first|exact zay _ (.bool false) (.slice none 0 0) _|exact (zay _ (.bool false) (.slice none 0 0) _).alloc _));have dM:wc.heap.size<=w14.heap.size:=(iB);(try have vt11_I_0_15:=bo.lt);(try have vt12_I_0_15:=bt.lt);(try have vt13_I_0_15:=bX.lt);(try have vt14_I_0_15:=ci.lt);(try have vt15_I_0_15:=cD.lt);(with_reducible refine (zbE _ _ _ _ _ _ (g1.to gb).isQ).mono ?_);rintro e w15 ⟨rfl,dP⟩;have g13:=g13.to dP;have gb:=bS gb dP;have hs15:=dP.size;(try have bo:=bo.to dP);(try have bt:=bt.to dP);(try have bX:=bX.to dP);(try have ci:=ci.to dP);(try have cD:=cD.to dP);(try have lt11_I_0_15:=bo.lt);(try have lt12_I_0_15:=bt.lt);(try have lt13_I_0_15:=bX.lt);(try have lt14_I_0_15:=ci.lt);(try have lt15_I_0_15:=cD.lt);(try (have cT:=bo;obtain ⟨dq,dr,dt,du⟩:=cT));(try (have cY:=bt;obtain ⟨dw,dx,dy,dA⟩:=cY));(try (have dh:=bX;obtain ⟨d5,d6,d7,d8⟩:=dh));(try (have dv:=ci;obtain ⟨eu,ew,eC,eD⟩:=dv));(try (have dQ:=cD;obtain ⟨eS,eT,eU,eV⟩:=dQ)))
   | (go_at_call 145;(refine zl w13 (by with_reducible first|exact Below.refl _ _|exact bN _ _) ?_);intro V14 ii eO;have hsV14:=eO.size;have iA:=gb.size;have g13:=g13.to eO;have gb:=bS gb eO;(try have bo:=bo.to eO);(try have bt:=bt.to eO);(try have bX:=bX.to eO);(try have ci:Duo V14 (w13.heap.size) (.bool false) (.slice none 0 0):=(by rw [ii];with_reducible first|exact zay _ (.bool false) (.slice none 0 0) _|exact (zay _ (.bool false) (.slice none 0 0) _).alloc _));have dL:wc.heap.size<=w13.heap.size:=(iA);(try have vt11_I_0_14:=bo.lt);(try have vt12_I_0_14:=bt.lt);(try have vt13_I_0_14:=bX.lt);(try have vt14_I_0_14:=ci.lt);(with_reducible refine (zbD _ _ _ _ _ _ (g2.to gb).isQ).mono ?_);rintro e w14 ⟨rfl,er⟩;have g13:=g13.to er;have gb:=bS gb er;have hs14:=er.size;(try have bo:=bo.to er);(try have bt:=bt.to er);(try have bX:=bX.to er);(try have ci:=ci.to er);(try have lt11_I_0_14:=bo.lt);(try have lt12_I_0_14:=bt.lt);(try have lt13_I_0_14:=bX.lt);(try have lt14_I_0_14:=ci.lt);(try (have cT:=bo;obtain ⟨dq,dr,dt,du⟩:=cT));(try (have cY:=bt;obtain ⟨dw,dx,dy,dA⟩:=cY));(try (have dh:=bX;obtain ⟨d5,d6,d7,d8⟩:=dh));(try (have dv:=ci;obtain ⟨eu,ew,eC,eD⟩:=dv)))
   | (go_at_call 144;(refine zl w12 (by with_reducible first|exact Below.refl _ _|exact bN _ _) ?_);intro V13 ig ft;have hsV13:=ft.size;have iz:=gb.size;have gb:=bS gb ft;(try have bo:=bo.to ft);(try have bt:=bt.to ft);(try have bX:Duo V13 (w12.heap.size) (.bool false) (.slice none 0 0):=(by rw [ig];with_reducible first|exact zay _ (.bool false) (.slice none 0 0) _|exact (zay _ (.bool false) (.slice none 0 0) _).alloc _));have dK:wc.heap.size<=w12.heap.size:=(iz);(try have vt11_I_0_13:=bo.lt);(try have vt12_I_0_13:=bt.lt);(try have vt13_I_0_13:=bX.lt);(with_reducible refine (zhH _ (g1.to gb).above (g2.to gb).below (x.num*(y.den:Int)) rfl S1).mono ?_);rintro e w13 ⟨ng13,a13_,n13_,c13_,rfl,g13,eb⟩;have gb:=bS gb eb;have hs13:=eb.size;(try have bo:=bo.to eb);(try have bt:=bt.to eb);(try have bX:=bX.to eb);(try have lt11_I_0_13:=bo.lt);(try have lt12_I_0_13:=bt.lt);(try have lt13_I_0_13:=bX.lt);(try (have cT:=bo;obtain ⟨dq,dr,dt,du⟩:=cT));(try (have cY:=bt;obtain ⟨dw,dx,dy,dA⟩:=cY));(try (have dh:=bX;obtain ⟨d5,d6,d7,d8⟩:=dh)))
   | (go_at_call 146;(refine zl w11 (by with_reducible first|exact Below.refl _ _|exact bN _ _) ?_);intro V12 ie fB;have hsV12:=fB.size;have iy:=gb.size;have gb:=bS gb fB;(try have bo:=bo.to fB);(try have bt:Duo V12 (w11.heap.size) (.bool false) (.slice none 0 0):=(by rw [ie];with_reducible first|exact zay _ (.bool false) (.slice none 0 0) _|exact (zay _ (.bool false) (.slice none 0 0) _).alloc _));have dJ:wc.heap.size<=w11.heap.size:=(iy);(try have vt11_I_0_12:=bo.lt);(try have vt12_I_0_12:=bt.lt);(with_reducible refine (zbE _ _ _ _ _ _ (g2.to gb).isQ).mono ?_);rintro e w12 ⟨rfl,dl⟩;have gb:=bS gb dl;have it:=dl.size;(try have bo:=bo.to dl);(try have bt:=bt.to dl);(try have lt11_I_0_12:=bo.lt);(try have lt12_I_0_12:=bt.lt);(try (have cT:=bo;obtain ⟨dq,dr,dt,du⟩:=cT));(try (have cY:=bt;obtain ⟨dw,dx,dy,dA⟩:=cY)))
   | (go_at_call 145;(refine zl wc (by with_reducible first|exact (Below.refl _ _).drew|exact (bN _ _).drew) ?_);intro V11 ic fG;have hsV11:=fG.size;have ix:=gb.size;have gb:=bS gb fG;(try have bo:Duo V11 (wc.heap.size) (.bool false) (.slice none 0 0):=(by rw [ic];with_reducible first|exact (zay _ (.bool false) (.slice none 0 0) _).drew|exact ((zay _ (.bool false) (.slice none 0 0) _).alloc _).drew));have dI:wc.heap.size<=wc.heap.size:=(ix);(try have vt11_I_0_11:=bo.lt);(with_reducible refine (zbD _ _ _ _ _ _ (g1.to gb).isQ).mono ?_);rintro e w11 ⟨rfl,fp⟩;have gb:=bS gb fp;have hs11:=fp.size;(try have bo:=bo.to fp);(try have lt11_I_0_11:=bo.lt);(try (have cT:=bo;obtain ⟨dq,dr,dt,du⟩:=cT))))
  all_goals (go_wp2_with fail;go_meet)
  all_goals first
   | (with_reducible exact zcs bo g17 (.inl fg) gb dI)
   | (with_reducible exact zcs bt g17 (.inl fh) gb dJ)
   | (with_reducible exact zcs bX g17 (.inl fj) gb dK)
   | (with_reducible exact zcs ci g17 (.inl fk) gb dL)
   | (with_reducible exact zcs cD g17 (.inl fl) gb dM)
   | (with_reducible exact zcs db g17 (.inl fm) gb dN)
   | (with_reducible exact zcs d9 g17 (.inl fo) gb dO)
   | (with_reducible exact boxC_new g17 gb)
 case rest =>
 obtain ⟨B7,ng17,a17_,n17_,c17_,lo7,hi7,rfl,hB7,T7,g17,hc7⟩:=hcut
 clear ae ah af ak ag al aB aG aD aH aE aI bu bV bv bW cg cm bO bZ bP b7 bQ ce cO cV cQ cW cR cX
 have gb:=hc7
 obtain ⟨ae,af,ag,aB,aD,aE,bu,bv,cg,bO,bP,bQ,cO,cQ,cR⟩:=HXwc.out _ gb
 obtain ⟨ah,ak,al,aG,aH,aI,bV,bW,cm,bZ,b7,ce,cV,cW,cX⟩:=HYwc.out _ gb
 obtain ⟨z0,z1,z2,z5,z6⟩:=HZwc.out _ gb
 have z7:=T7.lt
 obtain ⟨fD,fE,ia,ib⟩:=T7
 clear hgb
 obtain ⟨W2,dp⟩:∃ W,wc=W:=⟨_,rfl⟩
 subst dp
 replace i0:=i0.to gb
 replace i1:=i1.to gb
 replace g1:=g1.to gb
 replace g2:=g2.to gb
 replace zb:=bS zb gb
 have HXwc:=Lib.hid (show ∀ W',Below wc.heap.size wc W'->(W'.cell? ⟨w.heap.size,0,none⟩=some (.bool b)/\W'.cell? ⟨w.heap.size,1,none⟩=some (.slice a0 n0 c0)/\W'.cell? ⟨w.heap.size,2,none⟩=some (.slice a1 n1 c1)/\W'.cell? ⟨w.heap.size+1,0,none⟩=some (.bool c)/\W'.cell? ⟨w.heap.size+1,1,none⟩=some (.slice a2 n2 c2)/\W'.cell? ⟨w.heap.size+1,2,none⟩=some (.slice a3 n3 c3)/\W'.cell? ⟨w.heap.size+1+1,0,none⟩=some (.bool false)/\W'.cell? ⟨w.heap.size+1+1,1,none⟩=some (.slice none 0 0)/\W'.cell? ⟨w.heap.size+1+1,2,none⟩=some (.slice none 0 0)/\W'.cell? ⟨B5,0,none⟩=some (.bool ng1)/\W'.cell? ⟨B5,1,none⟩=some (.slice a1_ n1_ c1_)/\W'.cell? ⟨B5,2,none⟩=some (.slice p1_ m1_ k1_)/\W'.cell? ⟨B6,0,none⟩=some (.bool ng2)/\W'.cell? ⟨B6,1,none⟩=some (.slice a2_ n2_ c2_)/\W'.cell? ⟨B6,2,none⟩=some (.slice p2_ m2_ k2_)/\W'.cell? ⟨B7,0,none⟩=some (.bool ng17)/\W'.cell? ⟨B7,1,none⟩=some (.slice a17_ n17_ c17_)) from fun W' hb =>
  by and_intros <;> exact kc hb (by first|assumption|assumption))
 have HYwc:=Lib.hid (show ∀ W',Below wc.heap.size wc W'->(W'.frozen? ⟨w.heap.size,0,none⟩=false/\W'.frozen? ⟨w.heap.size,1,none⟩=false/\W'.frozen? ⟨w.heap.size,2,none⟩=false/\W'.frozen? ⟨w.heap.size+1,0,none⟩=false/\W'.frozen? ⟨w.heap.size+1,1,none⟩=false/\W'.frozen? ⟨w.heap.size+1,2,none⟩=false/\W'.frozen? ⟨w.heap.size+1+1,0,none⟩=false/\W'.frozen? ⟨w.heap.size+1+1,1,none⟩=false/\W'.frozen? ⟨w.heap.size+1+1,2,none⟩=false/\W'.frozen? ⟨B5,0,none⟩=false/\W'.frozen? ⟨B5,1,none⟩=false/\W'.frozen? ⟨B5,2,none⟩=false/\W'.frozen? ⟨B6,0,none⟩=false/\W'.frozen? ⟨B6,1,none⟩=false/\W'.frozen? ⟨B6,2,none⟩=false/\W'.frozen? ⟨B7,0,none⟩=false/\W'.frozen? ⟨B7,1,none⟩=false) from fun W' hb =>
  by and_intros <;> refine (hb.frozen ?_).trans ?_ <;> first|assumption|assumption)
 have HZwc:=Lib.hid (show ∀ W',Below wc.heap.size wc W'->(w.heap.size<W'.heap.size/\w.heap.size+1<W'.heap.size/\w.heap.size+1+1<W'.heap.size/\B5<W'.heap.size/\B6<W'.heap.size/\B7<W'.heap.size) from fun W' hb =>
  by and_intros <;> refine Nat.lt_of_lt_of_le ?_ hb.size <;> first|assumption)
 replace gb:=Below.refl wc.heap.size wc
 go_wp2_with fail
 have H8:=Lib.hid (H9.out ng17 (by have k:=g17.2.1;exact k))
 have nz0:w.heap.size≠w.heap.size+1+1:=by omega
 have nz1:w.heap.size+1≠w.heap.size+1+1:=by omega
 have nz5:B5≠w.heap.size+1+1:=by omega
 have nz6:B6≠w.heap.size+1+1:=by omega
 have nz7:B7≠w.heap.size+1+1:=by omega
 go_region_held3 (fun W' => W'.cell? ⟨w.heap.size,0,none⟩=some (.bool b)/\W'.cell? ⟨w.heap.size,1,none⟩=some (.slice a0 n0 c0)/\W'.cell? ⟨w.heap.size,2,none⟩=some (.slice a1 n1 c1)/\W'.cell? ⟨w.heap.size+1,0,none⟩=some (.bool c)/\W'.cell? ⟨w.heap.size+1,1,none⟩=some (.slice a2 n2 c2)/\W'.cell? ⟨w.heap.size+1,2,none⟩=some (.slice a3 n3 c3)/\W'.cell? ⟨B5,0,none⟩=some (.bool ng1)/\W'.cell? ⟨B5,1,none⟩=some (.slice a1_ n1_ c1_)/\W'.cell? ⟨B5,2,none⟩=some (.slice p1_ m1_ k1_)/\W'.cell? ⟨B6,0,none⟩=some (.bool ng2)/\W'.cell? ⟨B6,1,none⟩=some (.slice a2_ n2_ c2_)/\W'.cell? ⟨B6,2,none⟩=some (.slice p2_ m2_ k2_)/\W'.cell? ⟨B7,0,none⟩=some (.bool ng17)/\W'.cell? ⟨B7,1,none⟩=some (.slice a17_ n17_ c17_)) (first|(with_reducible exact ⟨ae,af,ag,aB,aD,aE,bO,bP,bQ,cO,cQ,cR,fD,fE⟩)|(with_reducible exact ⟨cP (cP (cP (ae) (.inl nz0) _) (.inl nz0) _) (.inl nz0) _,cP (cP (cP (af) (.inl nz0) _) (.inl nz0) _) (.inl nz0) _,cP (cP (cP (ag) (.inl nz0) _) (.inl nz0) _) (.inl nz0) _,cP (cP (cP (aB) (.inl nz1) _) (.inl nz1) _) (.inl nz1) _,cP (cP (cP (aD) (.inl nz1) _) (.inl nz1) _) (.inl nz1) _,cP (cP (cP (aE) (.inl nz1) _) (.inl nz1) _) (.inl nz1) _,cP (cP (cP (bO) (.inl nz5) _) (.inl nz5) _) (.inl nz5) _,cP (cP (cP (bP) (.inl nz5) _) (.inl nz5) _) (.inl nz5) _,cP (cP (cP (bQ) (.inl nz5) _) (.inl nz5) _) (.inl nz5) _,cP (cP (cP (cO) (.inl nz6) _) (.inl nz6) _) (.inl nz6) _,cP (cP (cP (cQ) (.inl nz6) _) (.inl nz6) _) (.inl nz6) _,cP (cP (cP (cR) (.inl nz6) _) (.inl nz6) _) (.inl nz6) _,cP (cP (cP (fD) (.inl nz7) _) (.inl nz7) _) (.inl nz7) _,cP (cP (cP (fE) (.inl nz7) _) (.inl nz7) _) (.inl nz7) _⟩)|exact ⟨ae,af,ag,aB,aD,aE,bO,bP,bQ,cO,cQ,cR,fD,fE⟩) (first
  | (go_at_call 62;(with_reducible refine (zab ng17 _ _ _ _ _ (g17.to gb).isI.up g21.rd (Nat.le_trans S3.out (by omega)) K2.out q H8.out hs).mono ?_);rintro e w22 ⟨ng22,a22_,n22_,c22_,p22_,m22_,k22_,rfl,g22,gW⟩;have g21:=g21.to gW;have gb:=bS gb gW;obtain ⟨ae,af,ag,aB,aD,aE,bu,bv,cg,bO,bP,bQ,cO,cQ,cR,fD,fE⟩:=HXwc.out _ gb;obtain ⟨ah,ak,al,aG,aH,aI,bV,bW,cm,bZ,b7,ce,cV,cW,cX,ia,ib⟩:=HYwc.out _ gb;obtain ⟨z0,z1,z2,z5,z6,z7⟩:=HZwc.out _ gb)
  | (go_at_call 147;have gb:=gb.drew;(with_reducible refine (zcq _ _ (za x.den) (za y.den) _ (g1.to gb).isQ.dn (g2.to gb).isQ.dn (Nat.le_trans (g1.to gb).isQ.ldn (by omega)) (Nat.le_trans (g2.to gb).isQ.ldn (by omega))).mono ?_);rintro e w21 ⟨v21,rfl,g21,im⟩;obtain ⟨a21_,n21_,c21_,rfl,H21,hm21⟩:=g21.rd.open;have gb:=bS gb im;obtain ⟨ae,af,ag,aB,aD,aE,bu,bv,cg,bO,bP,bQ,cO,cQ,cR,fD,fE⟩:=HXwc.out _ gb;obtain ⟨ah,ak,al,aG,aH,aI,bV,bW,cm,bZ,b7,ce,cV,cW,cX,ia,ib⟩:=HYwc.out _ gb;obtain ⟨z0,z1,z2,z5,z6,z7⟩:=HZwc.out _ gb))
 go_wp2_with fail
 refine bodyPost_ret (zY Tryz.results117 _ _ _ _ _ _ rfl (Tri.set (x0:=.bool false) (y0:=.slice none 0 0) (z0:=.slice none 0 0) ⟨bu,bv,cg,bV,bW,cm⟩ _ _ _)) rfl (zef (bS zb gb) (by omega) ?_ g22)
 omega

end Go.Proofs.YtkjcdnlpjldhaaaGreat


namespace Go.Proofs.YtkjcdnlpjldhaaaGreat
open Go.RowKit Tw
attribute [local go_sem ↓] Go.wp_at_zero Go.wp_at_succ

theorem zdR {z:Int} (n0:-9223372036854775808<=z) (n1:z<9223372036854775808):szi z<=3:=by
 unfold szi
 have:=zas (show z.natAbs<=18446744073709551616 by omega)
 rwa [show sz 18446744073709551616=3 by decide +kernel] at this

theorem zlN {z:Int} (h:szi z<=3):szq (z:Rat)<=1000:=by
 unfold szq
 have h1:(z:Rat).num=z:=Rat.num_intCast z
 have h2:(z:Rat).den=1:=Rat.den_intCast z
 rw [h1,h2]
 unfold szi at h
 have:sz 1<=1:=by decide +kernel
 omega

theorem zlD (z:Int):rat (decide (z<0)) (val (za z.natAbs)) (val (za (1:Int).toNat))=(z:Rat):=by
 rw [vL,vL]
 have h:=zcV (z:Rat)
 have h1:(z:Rat).num=z:=Rat.num_intCast z
 have h2:(z:Rat).den=1:=Rat.den_intCast z
 rw [zdc,h1,h2] at h
 exact h

def zL (w:World) (q:Rat) (e:Ending) (w':World):Prop :=
 ∃ ng a n c a' n' c',e=.returned (.tuple #[aggR ng (.slice a n c) (.slice a' n' c'),.int .i64 0])/\zat w.heap.size w'.heap.size w' ng (.slice a n c) (.slice a' n' c') q/\Below w.heap.size w w'

theorem zcf {w w2:World} {lo hi rb:Nat} {ng:Bool} {a a':Option Addr} {n c n' c':Nat} {q:Rat} (hb:Below w.heap.size w w2) (hrb:w.heap.size<=rb) (hlo:rb<lo) (hv:zat lo hi w2 ng (.slice a n c) (.slice a' n' c') q) :
  zL w q (.returned (.tuple #[aggR ng (.slice a n c) (.slice a' n' c'),.int .i64 0])) (set3 w2 rb (.bool ng) (.slice a n c) (.slice a' n' c')):=by
 obtain ⟨_,_,_,_,_,_,_,e,h1,h2⟩:=zef hb hrb hlo hv
 injection e with e
 injection e with e
 simp only [Array.mk.injEq,List.cons.injEq,Value.bool.injEq,Value.slice.injEq,and_true] at e
 obtain ⟨rfl,⟨rfl,rfl,rfl⟩,rfl,rfl,rfl⟩:=e
 exact ⟨_,_,_,_,_,_,_,rfl,h1,h2⟩

theorem zmF {x y:Rat} (b:Bool) (v u:Value) (ln ld:List Nat) (c:Bool) (v' u':Value) (ln' ld':List Nat) (w:World) (h:IsQ w b v u ln ld x) (h':IsQ w c v' u' ln' ld' y) (q:Rat) (hq:x - y=q) (hs:Hid (szq q<=1000)) :
  Calls Tryz.prog 118 #[aggR b v u,aggR c v' u'] w (zap w q):=by
 have Hn:Hid (szq (-y)<=1000):=by show _<=_;rw [ziM];exact (zaY h').out
 have H9:=Lib.hid (show x+-y=q by rw [<- Rat.sub_eq_add_neg,hq])
 obtain ⟨a0,n0,c0,rfl,H0,hm0⟩:=h.1.open
 obtain ⟨a1,n1,c1,rfl,H1,hm1⟩:=h.2.1.open
 obtain ⟨a2,n2,c2,rfl,H2,hm2⟩:=h'.1.open
 obtain ⟨a3,n3,c3,rfl,H3,hm3⟩:=h'.2.1.open
 clear hq
 go_enter Tryz.func118,Tryz.ntmps118
 go_wp2_with fail
 obtain ⟨W0,an⟩:∃ W0,((w.alloc (.cells #[.bool b,.slice a0 n0 c0,.slice a1 n1 c1] 47)).alloc (.cells #[.bool c,.slice a2 n2 c2,.slice a3 n3 c3] 47)).alloc (.cells #[.bool false,.slice none 0 0,.slice none 0 0] 47)=W0:=⟨_,rfl⟩
 have ap:=Lib.hid (show ∀ W',Below W0.heap.size W0 W'->(Bx3 W' w.heap.size (.bool b) (.slice a0 n0 c0) (.slice a1 n1 c1)/\Bx3 W' (w.heap.size+1) (.bool c) (.slice a2 n2 c2) (.slice a3 n3 c3)/\Bx3 W' (w.heap.size+1+1) (.bool false) (.slice none 0 0) (.slice none 0 0)) from fun W' hb => by
   refine ⟨bx3 hb ?_ ?_ ?_ ?_ ?_ ?_,bx3 hb ?_ ?_ ?_ ?_ ?_ ?_,bx3 hb ?_ ?_ ?_ ?_ ?_ ?_⟩
   all_goals first|assumption|(rw [<- an];simp [go_sem]))
 have zb:Below w.heap.size w W0:=by rw [<- an];exact bS (bS (bN _ _) (bN _ _)) (bN _ _)
 rw [an]
 clear an
 have i0:=h.to zb
 have i1:=h'.to zb
 have gb:Below W0.heap.size W0 W0:=Below.refl _ _
 obtain ⟨⟨z0,ae,af,ag,ah,ak,al⟩,⟨z1,aB,aD,aE,aG,aH,aI⟩,⟨z2,bu,bv,cg,bV,bW,cm⟩⟩:=ap.out _ gb
 have nz0:w.heap.size≠w.heap.size+1+1:=by omega
 have nz1:w.heap.size+1≠w.heap.size+1+1:=by omega
 go_region_held3 (fun W' => W'.cell? ⟨w.heap.size,0,none⟩=some (.bool b)/\W'.cell? ⟨w.heap.size,1,none⟩=some (.slice a0 n0 c0)/\W'.cell? ⟨w.heap.size,2,none⟩=some (.slice a1 n1 c1)/\W'.cell? ⟨w.heap.size+1,0,none⟩=some (.bool c)/\W'.cell? ⟨w.heap.size+1,1,none⟩=some (.slice a2 n2 c2)/\W'.cell? ⟨w.heap.size+1,2,none⟩=some (.slice a3 n3 c3)) (first|(with_reducible exact ⟨ae,af,ag,aB,aD,aE⟩)|(with_reducible exact ⟨cP (cP (cP (ae) (.inl nz0) _) (.inl nz0) _) (.inl nz0) _,cP (cP (cP (af) (.inl nz0) _) (.inl nz0) _) (.inl nz0) _,cP (cP (cP (ag) (.inl nz0) _) (.inl nz0) _) (.inl nz0) _,cP (cP (cP (aB) (.inl nz1) _) (.inl nz1) _) (.inl nz1) _,cP (cP (cP (aD) (.inl nz1) _) (.inl nz1) _) (.inl nz1) _,cP (cP (cP (aE) (.inl nz1) _) (.inl nz1) _) (.inl nz1) _⟩)|exact ⟨ae,af,ag,aB,aD,aE⟩) (first
  | (go_at_call 117;(with_reducible refine (zhL b _ _ ln ld _ _ _ _ _ _ (i0.to gb) g1.isQ q H9.out hs).mono ?_);rintro e w2 ⟨ng2,a2_,n2_,c2_,p2_,m2_,k2_,rfl,g2,aZ⟩;have g1:=g1.to aZ;have gb:=bS gb aZ;obtain ⟨⟨z0,ae,af,ag,ah,ak,al⟩,⟨z1,aB,aD,aE,aG,aH,aI⟩,⟨z2,bu,bv,cg,bV,bW,cm⟩⟩:=ap.out _ gb)
  | (go_at_call 121;have gb:=gb.drew;(with_reducible refine (zhM c _ _ ln' ld' _ (i1.to gb) (-y) rfl Hn).mono ?_);rintro e w1 ⟨ng1,a1_,n1_,c1_,p1_,m1_,k1_,rfl,g1,be⟩;have gb:=bS gb be;obtain ⟨⟨z0,ae,af,ag,ah,ak,al⟩,⟨z1,aB,aD,aE,aG,aH,aI⟩,⟨z2,bu,bv,cg,bV,bW,cm⟩⟩:=ap.out _ gb))
 go_wp2_with fail
 refine bodyPost_ret (zY Tryz.results118 _ _ _ _ _ _ rfl (Tri.set (x0:=.bool false) (y0:=.slice none 0 0) (z0:=.slice none 0 0) ⟨bu,bv,cg,bV,bW,cm⟩ _ _ _)) rfl (zef (bS zb gb) (by omega) ?_ g2)
 omega

theorem zhn (b c:Bool) (v u:Value) (ln ld:List Nat) (w:World) (hv:Rd w v ln) (hu:Rd w u ld) (h2:ld.length<=3000) (h0:val ld=0) :
  Calls Tryz.prog 148 #[aggI b v,aggI c u] w (fun e w' => e=.returned (.tuple #[aggR false (.slice none 0 0) (.slice none 0 0),.int .i64 3])/\Below w.heap.size w w'):=by
 have Z0:=Lib.hid (show zK (val ld)=0 by rw [h0];rfl)
 clear h0
 obtain ⟨a0,n0,c0,rfl,H0,hm0⟩:=hv.open
 obtain ⟨a1,n1,c1,rfl,H1,hm1⟩:=hu.open
 go_enter Tryz.func148,Tryz.ntmps148
 go_wp2_with fail
 obtain ⟨W0,an⟩:∃ W0,((w.alloc (.cells #[.bool b,.slice a0 n0 c0] 95)).alloc (.cells #[.bool c,.slice a1 n1 c1] 95)).alloc (.cells #[.bool false,.slice none 0 0,.slice none 0 0] 47)=W0:=⟨_,rfl⟩
 have ap:=Lib.hid (show ∀ W',Below W0.heap.size W0 W'->(Bx2 W' w.heap.size (.bool b) (.slice a0 n0 c0)/\Bx2 W' (w.heap.size+1) (.bool c) (.slice a1 n1 c1)/\Bx3 W' (w.heap.size+1+1) (.bool false) (.slice none 0 0) (.slice none 0 0)) from fun W' hb => by
   refine ⟨bx2 hb ?_ ?_ ?_ ?_,bx2 hb ?_ ?_ ?_ ?_,bx3 hb ?_ ?_ ?_ ?_ ?_ ?_⟩
   all_goals first|assumption|(rw [<- an];simp [go_sem]))
 have zb:Below w.heap.size w W0:=by rw [<- an];exact bS (bS (bN _ _) (bN _ _)) (bN _ _)
 rw [an]
 clear an
 have i0:=hv.to zb
 have i1:=hu.to zb
 have gb:Below W0.heap.size W0 W0:=Below.refl _ _
 obtain ⟨⟨z0,ae,af,ah,ak⟩,⟨z1,aB,aD,aG,aH⟩,⟨z2,bu,bv,cg,bV,bW,cm⟩⟩:=ap.out _ gb
 refine (zbb _ ld _ (i1.to gb) (by omega)).mono ?_
 rintro e w1 ⟨rfl,rfl⟩
 rw [Z0.out]
 go_wp2_with fail
 refine bodyPost_ret (zt Tryz.results148 _ _ _ _ _ _ rfl (Tri.set (x0:=.bool false) (y0:=.slice none 0 0) (z0:=.slice none 0 0) ⟨bu,bv,cg,bV,bW,cm⟩ _ _ _)) rfl ⟨rfl,bT (bS zb gb) (by omega) _ _ _⟩

theorem zkK (b c:Bool) (v u:Value) (ln ld:List Nat) (w:World) (hv:Rd w v ln) (hu:Rd w u ld) (h1:ln.length<=3000) (h2:ld.length<=3000) (h0:val ld≠0) (q:Rat) (hq:rat (b != c) (val ln) (val ld)=q) (hs:Hid (szq q<=1000)) :
  Calls Tryz.prog 148 #[aggI b v,aggI c u] w (zL w q):=by
 have hnb:0<zK (val ld):=Nat.pos_of_ne_zero (fun e => h0 (zbs.1 e))
 have Z0:=Lib.hid h0
 have H9:=Lib.hid (show rat (!b == c) (val ln) (val ld)=q from hq)
 clear h0 hq
 obtain ⟨a0,n0,c0,rfl,H0,hm0⟩:=hv.open
 obtain ⟨a1,n1,c1,rfl,H1,hm1⟩:=hu.open
 go_enter Tryz.func148,Tryz.ntmps148
 go_wp2_with fail
 obtain ⟨W0,an⟩:∃ W0,((w.alloc (.cells #[.bool b,.slice a0 n0 c0] 95)).alloc (.cells #[.bool c,.slice a1 n1 c1] 95)).alloc (.cells #[.bool false,.slice none 0 0,.slice none 0 0] 47)=W0:=⟨_,rfl⟩
 have ap:=Lib.hid (show ∀ W',Below W0.heap.size W0 W'->(Bx2 W' w.heap.size (.bool b) (.slice a0 n0 c0)/\Bx2 W' (w.heap.size+1) (.bool c) (.slice a1 n1 c1)/\Bx3 W' (w.heap.size+1+1) (.bool false) (.slice none 0 0) (.slice none 0 0)) from fun W' hb => by
   refine ⟨bx2 hb ?_ ?_ ?_ ?_,bx2 hb ?_ ?_ ?_ ?_,bx3 hb ?_ ?_ ?_ ?_ ?_ ?_⟩
   all_goals first|assumption|(rw [<- an];simp [go_sem]))
 have zb:Below w.heap.size w W0:=by rw [<- an];exact bS (bS (bN _ _) (bN _ _)) (bN _ _)
 rw [an]
 clear an
 have i0:=hv.to zb
 have i1:=hu.to zb
 have gb:Below W0.heap.size W0 W0:=Below.refl _ _
 obtain ⟨⟨z0,ae,af,ah,ak⟩,⟨z1,aB,aD,aG,aH⟩,⟨z2,bu,bv,cg,bV,bW,cm⟩⟩:=ap.out _ gb
 refine (zbb _ ld _ (i1.to gb) (by omega)).mono ?_
 rintro e w1 ⟨rfl,rfl⟩
 go_wp2_with fail
 refine (zab (!b == c) _ _ _ _ _ (i0.to gb) (i1.to gb) h1 h2 q H9.out hs).mono ?_
 clear ae ah af ak aB aG aD aH bu bV bv bW cg cm
 rintro e w2 ⟨ng2,a2_,n2_,c2_,p2_,m2_,k2_,rfl,g2,aZ⟩
 replace gb:=bS gb aZ
 obtain ⟨⟨z0,ae,af,ah,ak⟩,⟨z1,aB,aD,aG,aH⟩,⟨z2,bu,bv,cg,bV,bW,cm⟩⟩:=ap.out _ gb
 go_wp2_with fail
 refine bodyPost_ret (zt Tryz.results148 _ _ _ _ _ _ rfl (Tri.set (x0:=.bool false) (y0:=.slice none 0 0) (z0:=.slice none 0 0) ⟨bu,bv,cg,bV,bW,cm⟩ _ _ _)) rfl (zcf (bS zb gb) (by omega) ?_ g2)
 omega

theorem ziB (n z:Int) (w:World) (hz:z=n) (m0:-9223372036854775808<=n) (m1:n<9223372036854775808) :
  Calls Tryz.prog 38 #[.int .i64 n] w (zap w (z:Rat)):=by
 have Hz:=Lib.hid hz
 have S1:=Lib.hid (zdR (z:=z) (by omega) (by omega))
 have S2:=Lib.hid (show szq (z:Rat)<=1000 from zlN S1.out)
 have K2:=Lib.hid (show (za (1:Int).toNat).length<=3000 by decide +kernel)
 have H9:=Lib.hid (show ∀ ng,decide (z<0)=ng->rat ng (val (za z.natAbs)) (val (za (1:Int).toNat))=(z:Rat) from fun ng e => by rw [<- e];exact zlD z)
 clear hz
 go_enter Tryz.func38,Tryz.ntmps38
 go_wp2_with fail
 obtain ⟨W0,an⟩:∃ W0,w.alloc (.cells #[.bool false,.slice none 0 0,.slice none 0 0] 47)=W0:=⟨_,rfl⟩
 have ap:=Lib.hid (show ∀ W',Below W0.heap.size W0 W'->(Bx3 W' w.heap.size (.bool false) (.slice none 0 0) (.slice none 0 0)) from fun W' hb => by
   apply bx3 hb
   all_goals first|assumption|(rw [<- an];simp [go_sem]))
 have zb:Below w.heap.size w W0:=by rw [<- an];exact bN _ _
 rw [an]
 clear an
 have gb:Below W0.heap.size W0 W0:=Below.refl _ _
 obtain ⟨z0,ae,af,ag,ah,ak,al⟩:=ap.out _ gb
 refine (of_c n z _ Hz.out m0 m1).mono ?_
 clear ae ah af ak ag al
 rintro e w1 ⟨ng1,a1_,n1_,c1_,rfl,g1,be⟩
 replace gb:=bS gb be
 obtain ⟨z0,ae,af,ag,ah,ak,al⟩:=ap.out _ gb
 go_wp2_with fail
 obtain ⟨W1,aO⟩:∃ W1,w1.alloc (.cells #[.bool ng1,.slice a1_ n1_ c1_] 95)=W1:=⟨_,rfl⟩
 have hb_W1:Below w1.heap.size w1 W1:=by rw [<- aO];exact bN _ _
 clear ae ah af ak ag al
 replace g1:=g1.to hb_W1
 replace gb:=bS gb hb_W1
 obtain ⟨z0,ae,af,ag,ah,ak,al⟩:=ap.out _ gb
 have cZ:W1.cell? ⟨w1.heap.size,0,none⟩=some (.bool ng1):=by rw [<- aO];simp [go_sem]
 have de:W1.frozen? ⟨w1.heap.size,0,none⟩=false:=by rw [<- aO];simp [go_sem]
 have da:W1.cell? ⟨w1.heap.size,1,none⟩=some (.slice a1_ n1_ c1_):=by rw [<- aO];simp [go_sem]
 have dg:W1.frozen? ⟨w1.heap.size,1,none⟩=false:=by rw [<- aO];simp [go_sem]
 have z3:w1.heap.size<W1.heap.size:=by rw [<- aO];simp
 rw [aO]
 clear aO
 replace zb:=bS zb gb
 have ck:=Lib.hid (show ∀ W',Below W1.heap.size W1 W'->(Bx3 W' w.heap.size (.bool false) (.slice none 0 0) (.slice none 0 0)/\Bx2 W' w1.heap.size (.bool ng1) (.slice a1_ n1_ c1_)) from fun W' hb => by
   refine ⟨bx3 hb ?_ ?_ ?_ ?_ ?_ ?_,bx2 hb ?_ ?_ ?_ ?_⟩
   all_goals first|assumption|assumption)
 replace gb:=Below.refl W1.heap.size W1
 go_wp2_with fail
 have H8:=Lib.hid (H9.out ng1 (by have k:=g1.2.1;exact k))
 have nz3:w1.heap.size≠w.heap.size:=by omega
 go_region_held3 (fun W' => W'.cell? ⟨w1.heap.size,0,none⟩=some (.bool ng1)/\W'.cell? ⟨w1.heap.size,1,none⟩=some (.slice a1_ n1_ c1_)) (first|(with_reducible exact ⟨cZ,da⟩)|(with_reducible exact ⟨cP (cP (cP (cZ) (.inl nz3) _) (.inl nz3) _) (.inl nz3) _,cP (cP (cP (da) (.inl nz3) _) (.inl nz3) _) (.inl nz3) _⟩)|exact ⟨cZ,da⟩) (first
  | (go_at_call 62;(with_reducible refine (zab ng1 _ _ _ _ _ (g1.to gb).isI.up g2.rd (Nat.le_trans S1.out (by omega)) K2.out (z:Rat) H8.out S2).mono ?_);rintro e w3 ⟨ng3,a3_,n3_,c3_,p3_,m3_,k3_,rfl,g3,cl⟩;have g2:=g2.to cl;have gb:=bS gb cl;obtain ⟨⟨z0,ae,af,ag,ah,ak,al⟩,⟨z3,cZ,da,de,dg⟩⟩:=ck.out _ gb)
  | (go_at_call 63;have gb:=gb.drew;(with_reducible refine (zda 1 _ (by omega) (by omega)).mono ?_);rintro e w2 ⟨v2,rfl,g2,aZ⟩;obtain ⟨a2_,n2_,c2_,rfl,H2,hm2⟩:=g2.rd.open;have gb:=bS gb aZ;obtain ⟨⟨z0,ae,af,ag,ah,ak,al⟩,⟨z3,cZ,da,de,dg⟩⟩:=ck.out _ gb))
 go_wp2_with fail
 refine bodyPost_ret (zY Tryz.results38 _ _ _ _ _ _ rfl (Tri.set (x0:=.bool false) (y0:=.slice none 0 0) (z0:=.slice none 0 0) ⟨ae,af,ag,ah,ak,al⟩ _ _ _)) rfl (zef (bS zb gb) (by omega) ?_ g3)
 omega

end Go.Proofs.YtkjcdnlpjldhaaaGreat


namespace Go.Proofs.YtkjcdnlpjldhaaaGreat
open Go.RowKit Tw
attribute [local go_sem ↓] Go.wp_at_zero Go.wp_at_succ

theorem finZ1 {w w1:World} {rb:Nat} (hb:Below w.heap.size w w1) (hrb:w.heap.size<=rb) (hlt:rb<w1.heap.size) :
  zap w 0 (.returned (aggR false (.slice none 0 0) (.slice (some ⟨w1.heap.size,0,none⟩) 1 1))) ((set3 w1 rb (.bool false) (.slice none 0 0) (.slice (some ⟨w1.heap.size,0,none⟩) 1 1)).alloc (.cells #[zbe 1] 97)):=by
 have cl:=bT hb hrb (.bool false) (.slice none 0 0) (.slice (some ⟨w1.heap.size,0,none⟩) 1 1)
 refine ⟨false,none,0,0,_,_,_,rfl,zge (by rw [show za (0:Rat).num.natAbs=[] by decide +kernel];exact Own.nil _ _) ?_ (by decide +kernel) (by decide +kernel),bS cl (bN _ _)⟩
 rw [show za (0:Rat).den=[1] by decide +kernel]
 exact (zaR (set3 w1 rb (.bool false) (.slice none 0 0) (.slice (some ⟨w1.heap.size,0,none⟩) 1 1)) w1.heap.size [1] (by simp) (zce (by omega)) (by simp [maxLen])).mono cl.size

theorem ziY (va vb:Value) (la lb:List Nat) (o:Bool) (w:World) (ha:Rd w va la) (hb:Rd w vb lb) (ho:Hid (decide (la=lb)=o)) :
  Calls Tryz.prog 46 #[va,vb] w fun e w' => e=.returned (.bool o)/\Below w.heap.size w w':=by
 by_cases h:la=lb
 ·subst h
  rw [<- ho.out,decide_eq_true rfl]
  exact zlj va vb la w ha hb
 ·rw [<- ho.out,decide_eq_false h]
  exact zli va vb la lb w ha hb h

def IsF (w:World) (v u:Value) (ln ld:List Nat):Prop:=Rd w v ln/\Rd w u ld

theorem IsF.to {w w':World} {v u:Value} {ln ld:List Nat} (h:IsF w v u ln ld) (hb:Below w.heap.size w w'):IsF w' v u ln ld:=⟨h.1.to hb,h.2.to hb⟩

theorem IsF.drew {w:World} {v u:Value} {ln ld:List Nat} (h:IsF w v u ln ld):IsF w.drew v u ln ld:=⟨h.1.drew,h.2.drew⟩

theorem IsQ.isF {w:World} {b:Bool} {v u:Value} {ln ld:List Nat} {q:Rat} (h:IsQ w b v u ln ld q):IsF w v u ln ld:=⟨h.1,h.2.1⟩

theorem zat.isF {lo hi:Nat} {w:World} {b:Bool} {v u:Value} {q:Rat} (h:zat lo hi w b v u q):IsF w v u (za q.num.natAbs) (za q.den):=⟨h.1.rd,h.2.1.rd⟩

theorem zat.ng {lo hi:Nat} {w:World} {b:Bool} {v u:Value} {q:Rat} (h:zat lo hi w b v u q):decide (q<0)=b:=h.2.2.1

def zcy (b:Bool) (ln ld:List Nat) (x:Rat):Bool:=decide (x<0) == b && decide (za x.num.natAbs=ln) && decide (za x.den=ld)

theorem zhb (b:Bool) (v u:Value) (ln ld:List Nat) (w:World) (hv:Rd w v ln) (hu:Rd w u ld) (h1:ln.length<=3000) (h2:ld.length<=3000) (h0:val ld=0) :
  Calls Tryz.prog 47 #[aggI b v,u] w (zap w (rat b (val ln) (val ld))):=by
 rw [h0,zcj]
 have Z0:=Lib.hid h0
 clear h0
 obtain ⟨a0,n0,c0,rfl,H0,hm0⟩:=hv.open
 obtain ⟨a1,n1,c1,rfl,H1,hm1⟩:=hu.open
 go_enter Tryz.func47,Tryz.ntmps47
 go_wp2_with fail
 obtain ⟨W0,an⟩:∃ W0,(w.alloc (.cells #[.bool b,.slice a0 n0 c0] 95)).alloc (.cells #[.bool false,.slice none 0 0,.slice none 0 0] 47)=W0:=⟨_,rfl⟩
 have ap:=Lib.hid (show ∀ W',Below W0.heap.size W0 W'->(Bx2 W' w.heap.size (.bool b) (.slice a0 n0 c0)/\Bx3 W' (w.heap.size+1) (.bool false) (.slice none 0 0) (.slice none 0 0)) from fun W' hb => by
   refine ⟨bx2 hb ?_ ?_ ?_ ?_,bx3 hb ?_ ?_ ?_ ?_ ?_ ?_⟩
   all_goals first|assumption|(rw [<- an];simp [go_sem]))
 have zb:Below w.heap.size w W0:=by rw [<- an];exact bS (bN _ _) (bN _ _)
 rw [an]
 clear an
 have i0:=hv.to zb
 have i1:=hu.to zb
 have gb:Below W0.heap.size W0 W0:=Below.refl _ _
 obtain ⟨⟨z0,ae,af,ah,ak⟩,⟨z1,aB,aD,aE,aG,aH,aI⟩⟩:=ap.out _ gb
 refine (zha _ _ ln ld _ (i0.to gb) (i1.to gb) (by omega) Z0.out).mono ?_
 clear ae ah af ak aB aG aD aH aE aI
 rintro e w1 ⟨rfl,be⟩
 replace gb:=bS gb be
 obtain ⟨⟨z0,ae,af,ah,ak⟩,⟨z1,aB,aD,aE,aG,aH,aI⟩⟩:=ap.out _ gb
 go_wp2_with fail
 refine bodyPost_ret (zY Tryz.results47 _ _ _ _ _ _ rfl (Tri.alloc (Tri.set (x0:=.bool false) (y0:=.slice none 0 0) (z0:=.slice none 0 0) ⟨aB,aD,aE,aG,aH,aI⟩ _ _ _) _)) rfl (finZ1 (bS zb gb) (by omega) (by omega))

theorem zfs (b:Bool) (v u:Value) (ln ld:List Nat) (w:World) (hv:Rd w v ln) (hu:Rd w u ld) (h1:ln.length<=3000) (h2:ld.length<=3000) (h0:0<val ld) (h3:val ln=0) :
  Calls Tryz.prog 47 #[aggI b v,u] w (zap w (rat b (val ln) (val ld))):=by
 rw [h3,zck]
 have Z0:=Lib.hid h0
 have Z3:=Lib.hid (show za (val ln / Nat.gcd (val ln) (val ld))=[] by rw [h3,Nat.zero_div];rfl)
 clear h0 h3
 obtain ⟨a0,n0,c0,rfl,H0,hm0⟩:=hv.open
 obtain ⟨a1,n1,c1,rfl,H1,hm1⟩:=hu.open
 go_enter Tryz.func47,Tryz.ntmps47
 go_wp2_with fail
 obtain ⟨W0,an⟩:∃ W0,(w.alloc (.cells #[.bool b,.slice a0 n0 c0] 95)).alloc (.cells #[.bool false,.slice none 0 0,.slice none 0 0] 47)=W0:=⟨_,rfl⟩
 have ap:=Lib.hid (show ∀ W',Below W0.heap.size W0 W'->(Bx2 W' w.heap.size (.bool b) (.slice a0 n0 c0)/\Bx3 W' (w.heap.size+1) (.bool false) (.slice none 0 0) (.slice none 0 0)) from fun W' hb => by
   refine ⟨bx2 hb ?_ ?_ ?_ ?_,bx3 hb ?_ ?_ ?_ ?_ ?_ ?_⟩
   all_goals first|assumption|(rw [<- an];simp [go_sem]))
 have zb:Below w.heap.size w W0:=by rw [<- an];exact bS (bN _ _) (bN _ _)
 rw [an]
 clear an
 have i0:=hv.to zb
 have i1:=hu.to zb
 have gb:Below W0.heap.size W0 W0:=Below.refl _ _
 obtain ⟨⟨z0,ae,af,ah,ak⟩,⟨z1,aB,aD,aE,aG,aH,aI⟩⟩:=ap.out _ gb
 refine (zfJ _ _ ln ld _ (i0.to gb) (i1.to gb) (by omega) (by omega) Z0.out).mono ?_
 clear ae ah af ak aB aG aD aH aE aI
 rintro e w1 ⟨v1,u1,rfl,g1,d1,be⟩
 obtain ⟨a1_,n1_,c1_,rfl,H1,hm1⟩:=g1.rd.open
 obtain ⟨p1_,m1_,k1_,rfl,J1,jm1⟩:=d1.rd.open
 replace gb:=bS gb be
 obtain ⟨⟨z0,ae,af,ah,ak⟩,⟨z1,aB,aD,aE,aG,aH,aI⟩⟩:=ap.out _ gb
 obtain rfl:n1_=0:=by rw [<- H1.out,Z3.out];rfl
 go_wp2_with fail
 refine bodyPost_ret (zY Tryz.results47 _ _ _ _ _ _ rfl (Tri.alloc (Tri.set (x0:=.bool false) (y0:=.slice none 0 0) (z0:=.slice none 0 0) ⟨aB,aD,aE,aG,aH,aI⟩ _ _ _) _)) rfl (finZ1 (bS zb gb) (by omega) (by omega))

theorem zfr (b:Bool) (v u:Value) (ln ld:List Nat) (w:World) (hv:Rd w v ln) (hu:Rd w u ld) (h1:ln.length<=3000) (h2:ld.length<=3000) (h0:0<val ld) (h3:0<val ln) (hs:szq (rat b (val ln) (val ld))<=1000) :
  Calls Tryz.prog 47 #[aggI b v,u] w (zap w (rat b (val ln) (val ld))):=by
 have Z0:=Lib.hid h0
 have Z3:=Lib.hid h3
 have Hs:=Lib.hid hs
 have H4:=Lib.hid (Nat.ne_of_gt (zgG h3 h0))
 clear h0 h3 hs
 obtain ⟨a0,n0,c0,rfl,H0,hm0⟩:=hv.open
 obtain ⟨a1,n1,c1,rfl,H1,hm1⟩:=hu.open
 go_enter Tryz.func47,Tryz.ntmps47
 go_wp2_with fail
 obtain ⟨W0,an⟩:∃ W0,(w.alloc (.cells #[.bool b,.slice a0 n0 c0] 95)).alloc (.cells #[.bool false,.slice none 0 0,.slice none 0 0] 47)=W0:=⟨_,rfl⟩
 have ap:=Lib.hid (show ∀ W',Below W0.heap.size W0 W'->(Bx2 W' w.heap.size (.bool b) (.slice a0 n0 c0)/\Bx3 W' (w.heap.size+1) (.bool false) (.slice none 0 0) (.slice none 0 0)) from fun W' hb => by
   refine ⟨bx2 hb ?_ ?_ ?_ ?_,bx3 hb ?_ ?_ ?_ ?_ ?_ ?_⟩
   all_goals first|assumption|(rw [<- an];simp [go_sem]))
 have zb:Below w.heap.size w W0:=by rw [<- an];exact bS (bN _ _) (bN _ _)
 rw [an]
 clear an
 have i0:=hv.to zb
 have i1:=hu.to zb
 have gb:Below W0.heap.size W0 W0:=Below.refl _ _
 obtain ⟨⟨z0,ae,af,ah,ak⟩,⟨z1,aB,aD,aE,aG,aH,aI⟩⟩:=ap.out _ gb
 refine (zfJ _ _ ln ld _ (i0.to gb) (i1.to gb) (by omega) (by omega) Z0.out).mono ?_
 clear ae ah af ak aB aG aD aH aE aI
 rintro e w1 ⟨v1,u1,rfl,g1,d1,be⟩
 obtain ⟨a1_,n1_,c1_,rfl,H1,hm1⟩:=g1.rd.open
 obtain ⟨p1_,m1_,k1_,rfl,J1,jm1⟩:=d1.rd.open
 replace gb:=bS gb be
 obtain ⟨⟨z0,ae,af,ah,ak⟩,⟨z1,aB,aD,aE,aG,aH,aI⟩⟩:=ap.out _ gb
 have hn1:0<n1_:=by rw [<- H1.out];have:=H4.out;rw [ze];exact Nat.pos_of_ne_zero fun e => this (zA.1 e)
 go_wp2_with fail
 have gg:=canR g1 d1 Z0.out Z3.out Hs.out
 refine bodyPost_ret (zY Tryz.results47 _ _ _ _ _ _ rfl (Tri.set (x0:=.bool false) (y0:=.slice none 0 0) (z0:=.slice none 0 0) (⟨aB,aD,aE,aG,aH,aI⟩) _ _ _)) rfl (zef (bS zb gb) (by omega) ?_ gg)
 omega

theorem zdy (b:Bool) (v u:Value) (ln ld:List Nat) (w:World) (hv:Rd w v ln) (hu:Rd w u ld) (h1:ln.length<=3000) (h2:ld.length<=3000) (q:Rat) (hq:rat b (val ln) (val ld)=q) (hs:Hid (szq q<=1000)) :
  Calls Tryz.prog 47 #[aggI b v,u] w (zap w q):=by
 subst hq
 rcases Nat.eq_zero_or_pos (val ld) with h0|h0
 ·exact zhb b v u ln ld w hv hu h1 h2 h0
 rcases Nat.eq_zero_or_pos (val ln) with h3|h3
 ·exact zfs b v u ln ld w hv hu h1 h2 h0 h3
 ·exact zfr b v u ln ld w hv hu h1 h2 h0 h3 hs.out

theorem ref8_fix {x:Rat} (b:Bool) (v u:Value) (ln ld:List Nat) (w:World) (h:IsQ w b v u ln ld x) (q:Rat) (hq:x=q) (hs:Hid (szq q<=1000)) :
  Calls Tryz.prog 67 #[aggR b v u] w (zap w q):=by
 have H9:=Lib.hid (show rat b (val ln) (val ld)=q by rw [h.2.2.1,hq])
 obtain ⟨a0,n0,c0,rfl,H0,hm0⟩:=h.1.open
 obtain ⟨a1,n1,c1,rfl,H1,hm1⟩:=h.2.1.open
 clear hq
 go_enter Tryz.func67,Tryz.ntmps67
 go_wp2_with fail
 obtain ⟨W0,an⟩:∃ W0,(w.alloc (.cells #[.bool b,.slice a0 n0 c0,.slice a1 n1 c1] 47)).alloc (.cells #[.bool false,.slice none 0 0,.slice none 0 0] 47)=W0:=⟨_,rfl⟩
 have ap:=Lib.hid (show ∀ W',Below W0.heap.size W0 W'->(Bx3 W' w.heap.size (.bool b) (.slice a0 n0 c0) (.slice a1 n1 c1)/\Bx3 W' (w.heap.size+1) (.bool false) (.slice none 0 0) (.slice none 0 0)) from fun W' hb => by
   refine ⟨bx3 hb ?_ ?_ ?_ ?_ ?_ ?_,bx3 hb ?_ ?_ ?_ ?_ ?_ ?_⟩
   all_goals first|assumption|(rw [<- an];simp [go_sem]))
 have zb:Below w.heap.size w W0:=by rw [<- an];exact bS (bN _ _) (bN _ _)
 rw [an]
 clear an
 have i0:=h.to zb
 have gb:Below W0.heap.size W0 W0:=Below.refl _ _
 obtain ⟨⟨z0,ae,af,ag,ah,ak,al⟩,⟨z1,aB,aD,aE,aG,aH,aI⟩⟩:=ap.out _ gb
 refine (zdy b _ _ ln ld _ (i0.to gb).1 (i0.to gb).2.1 (Nat.le_trans h.2.2.2.1 (by omega)) (Nat.le_trans h.2.2.2.2 (by omega)) q H9.out hs).mono ?_
 clear ae ah af ak ag al aB aG aD aH aE aI
 rintro e w1 ⟨ng1,a1_,n1_,c1_,p1_,m1_,k1_,rfl,g1,be⟩
 replace gb:=bS gb be
 obtain ⟨⟨z0,ae,af,ag,ah,ak,al⟩,⟨z1,aB,aD,aE,aG,aH,aI⟩⟩:=ap.out _ gb
 go_wp2_with fail
 refine bodyPost_ret (zY Tryz.results67 _ _ _ _ _ _ rfl (Tri.set (x0:=.bool false) (y0:=.slice none 0 0) (z0:=.slice none 0 0) ⟨aB,aD,aE,aG,aH,aI⟩ _ _ _)) rfl (zef (bS zb gb) (by omega) ?_ g1)
 omega

theorem zby (b:Bool) (v u:Value) (ln ld:List Nat) (c:Bool) (v' u':Value) (ln' ld':List Nat) (w:World) (h:IsF w v u ln ld) (h':IsF w v' u' ln' ld') (o:Bool) (ho:(b == c && decide (ln=ln') && decide (ld=ld'))=o) :
  Calls Tryz.prog 24 #[aggR b v u,aggR c v' u'] w (fun e w' => e=.returned (.bool o)/\Below w.heap.size w w'):=by
 obtain ⟨o1,ho1⟩:∃ o,decide (ln=ln')=o:=⟨_,rfl⟩
 obtain ⟨o2,ho2⟩:∃ o,decide (ld=ld')=o:=⟨_,rfl⟩
 have O1:=Lib.hid ho1
 have O2:=Lib.hid ho2
 rw [ho1,ho2] at ho
 clear ho1 ho2
 obtain ⟨a0,n0,c0,rfl,H0,hm0⟩:=h.1.open
 obtain ⟨a1,n1,c1,rfl,H1,hm1⟩:=h.2.open
 obtain ⟨a2,n2,c2,rfl,H2,hm2⟩:=h'.1.open
 obtain ⟨a3,n3,c3,rfl,H3,hm3⟩:=h'.2.open
 have ho':=Lib.hid ho
 clear ho
 rcases Bool.eq_false_or_eq_true (b == c) with e1|e1
 rotate_left
 ·rw [e1] at ho'
  go_enter Tryz.func24,Tryz.ntmps24
  go_wp2_with fail
  obtain ⟨W0,an⟩:∃ W0,(w.alloc (.cells #[.bool b,.slice a0 n0 c0,.slice a1 n1 c1] 47)).alloc (.cells #[.bool c,.slice a2 n2 c2,.slice a3 n3 c3] 47)=W0:=⟨_,rfl⟩
  have ap:=Lib.hid (show ∀ W',Below W0.heap.size W0 W'->(Bx3 W' w.heap.size (.bool b) (.slice a0 n0 c0) (.slice a1 n1 c1)/\Bx3 W' (w.heap.size+1) (.bool c) (.slice a2 n2 c2) (.slice a3 n3 c3)) from fun W' hb => by
    refine ⟨bx3 hb ?_ ?_ ?_ ?_ ?_ ?_,bx3 hb ?_ ?_ ?_ ?_ ?_ ?_⟩
    all_goals first|assumption|(rw [<- an];simp [go_sem]))
  have zb:Below w.heap.size w W0:=by rw [<- an];exact bS (bN _ _) (bN _ _)
  rw [an]
  clear an
  have i0:=h.to zb
  have i1:=h'.to zb
  have gb:Below W0.heap.size W0 W0:=Below.refl _ _
  obtain ⟨⟨z0,ae,af,ag,ah,ak,al⟩,⟨z1,aB,aD,aE,aG,aH,aI⟩⟩:=ap.out _ gb
  go_ret
  exact ⟨zu (congrArg Value.bool (by have k:=ho'.out;simpa using k)),bS zb gb⟩
 rcases Bool.eq_false_or_eq_true o1 with e2|e2
 rotate_left
 ·rw [e1] at ho'
  go_enter Tryz.func24,Tryz.ntmps24
  go_wp2_with fail
  obtain ⟨W0,an⟩:∃ W0,(w.alloc (.cells #[.bool b,.slice a0 n0 c0,.slice a1 n1 c1] 47)).alloc (.cells #[.bool c,.slice a2 n2 c2,.slice a3 n3 c3] 47)=W0:=⟨_,rfl⟩
  have ap:=Lib.hid (show ∀ W',Below W0.heap.size W0 W'->(Bx3 W' w.heap.size (.bool b) (.slice a0 n0 c0) (.slice a1 n1 c1)/\Bx3 W' (w.heap.size+1) (.bool c) (.slice a2 n2 c2) (.slice a3 n3 c3)) from fun W' hb => by
    refine ⟨bx3 hb ?_ ?_ ?_ ?_ ?_ ?_,bx3 hb ?_ ?_ ?_ ?_ ?_ ?_⟩
    all_goals first|assumption|(rw [<- an];simp [go_sem]))
  have zb:Below w.heap.size w W0:=by rw [<- an];exact bS (bN _ _) (bN _ _)
  rw [an]
  clear an
  have i0:=h.to zb
  have i1:=h'.to zb
  have gb:Below W0.heap.size W0 W0:=Below.refl _ _
  obtain ⟨⟨z0,ae,af,ag,ah,ak,al⟩,⟨z1,aB,aD,aE,aG,aH,aI⟩⟩:=ap.out _ gb
  refine (ziY _ _ _ _ o1 _ (i0.to gb).1 (i1.to gb).1 O1).mono ?_
  clear ae ah af ak ag al aB aG aD aH aE aI
  rintro e w1 ⟨rfl,be⟩
  replace gb:=bS gb be
  obtain ⟨⟨z0,ae,af,ag,ah,ak,al⟩,⟨z1,aB,aD,aE,aG,aH,aI⟩⟩:=ap.out _ gb
  obtain rfl:=e2
  go_wp2_with fail
  go_ret
  exact ⟨zu (congrArg Value.bool (by have k:=ho'.out;simpa using k)),bS zb gb⟩
 ·rw [e1] at ho'
  go_enter Tryz.func24,Tryz.ntmps24
  go_wp2_with fail
  obtain ⟨W0,an⟩:∃ W0,(w.alloc (.cells #[.bool b,.slice a0 n0 c0,.slice a1 n1 c1] 47)).alloc (.cells #[.bool c,.slice a2 n2 c2,.slice a3 n3 c3] 47)=W0:=⟨_,rfl⟩
  have ap:=Lib.hid (show ∀ W',Below W0.heap.size W0 W'->(Bx3 W' w.heap.size (.bool b) (.slice a0 n0 c0) (.slice a1 n1 c1)/\Bx3 W' (w.heap.size+1) (.bool c) (.slice a2 n2 c2) (.slice a3 n3 c3)) from fun W' hb => by
    refine ⟨bx3 hb ?_ ?_ ?_ ?_ ?_ ?_,bx3 hb ?_ ?_ ?_ ?_ ?_ ?_⟩
    all_goals first|assumption|(rw [<- an];simp [go_sem]))
  have zb:Below w.heap.size w W0:=by rw [<- an];exact bS (bN _ _) (bN _ _)
  rw [an]
  clear an
  have i0:=h.to zb
  have i1:=h'.to zb
  have gb:Below W0.heap.size W0 W0:=Below.refl _ _
  obtain ⟨⟨z0,ae,af,ag,ah,ak,al⟩,⟨z1,aB,aD,aE,aG,aH,aI⟩⟩:=ap.out _ gb
  refine (ziY _ _ _ _ o1 _ (i0.to gb).1 (i1.to gb).1 O1).mono ?_
  clear ae ah af ak ag al aB aG aD aH aE aI
  rintro e w1 ⟨rfl,be⟩
  replace gb:=bS gb be
  obtain ⟨⟨z0,ae,af,ag,ah,ak,al⟩,⟨z1,aB,aD,aE,aG,aH,aI⟩⟩:=ap.out _ gb
  obtain rfl:=e2
  go_wp2_with fail
  refine (ziY _ _ _ _ o2 _ (i0.to gb).2 (i1.to gb).2 O2).mono ?_
  clear ae ah af ak ag al aB aG aD aH aE aI
  rintro e w2 ⟨rfl,aZ⟩
  replace gb:=bS gb aZ
  obtain ⟨⟨z0,ae,af,ag,ah,ak,al⟩,⟨z1,aB,aD,aE,aG,aH,aI⟩⟩:=ap.out _ gb
  go_wp2_with fail
  go_ret
  exact ⟨zu (congrArg Value.bool (by have k:=ho'.out;simpa using k)),bS zb gb⟩

theorem zen {x:Rat} (b:Bool) (v u:Value) (ln ld:List Nat) (w:World) (h:IsQ w b v u ln ld x) (o:Bool) (ho:zcy b ln ld x=o) :
  Calls Tryz.prog 59 #[aggR b v u] w (fun e w' => e=.returned (.bool o)/\Below w.heap.size w w'):=by
 have Hx:=zaY h
 have HO:=Lib.hid ho
 clear ho
 obtain ⟨a0,n0,c0,rfl,H0,hm0⟩:=h.1.open
 obtain ⟨a1,n1,c1,rfl,H1,hm1⟩:=h.2.1.open
 go_enter Tryz.func59,Tryz.ntmps59
 go_wp2_with fail
 obtain ⟨W0,an⟩:∃ W0,w.alloc (.cells #[.bool b,.slice a0 n0 c0,.slice a1 n1 c1] 47)=W0:=⟨_,rfl⟩
 have ap:=Lib.hid (show ∀ W',Below W0.heap.size W0 W'->(Bx3 W' w.heap.size (.bool b) (.slice a0 n0 c0) (.slice a1 n1 c1)) from fun W' hb => by
   apply bx3 hb
   all_goals first|assumption|(rw [<- an];simp [go_sem]))
 have zb:Below w.heap.size w W0:=by rw [<- an];exact bN _ _
 rw [an]
 clear an
 have i0:=h.to zb
 have gb:Below W0.heap.size W0 W0:=Below.refl _ _
 obtain ⟨z0,ae,af,ag,ah,ak,al⟩:=ap.out _ gb
 have HH:=Lib.hid (show ∀ ng,decide (x<0)=ng->(ng == b && decide (za x.num.natAbs=ln) && decide (za x.den=ld))=o from fun ng e => by rw [<- HO.out,<- e];rfl)
 go_region_held3 (fun W' => W'.cell? ⟨w.heap.size,0,none⟩=some (.bool b)/\W'.cell? ⟨w.heap.size,1,none⟩=some (.slice a0 n0 c0)/\W'.cell? ⟨w.heap.size,2,none⟩=some (.slice a1 n1 c1)) (first|(with_reducible exact ⟨ae,af,ag⟩)|exact ⟨ae,af,ag⟩) (first
  | (go_at_call 24;(with_reducible refine (zby ng1 _ _ _ _ b _ _ _ _ _ g1.isF (i0.to gb).isF o (HH.out ng1 g1.ng)).mono ?_);rintro e w2 ⟨rfl,aZ⟩;have g1:=g1.to aZ;have gb:=bS gb aZ;obtain ⟨z0,ae,af,ag,ah,ak,al⟩:=ap.out _ gb)
  | (go_at_call 67;have gb:=gb.drew;(with_reducible refine (ref8_fix b _ _ ln ld _ (i0.to gb) x rfl Hx).mono ?_);rintro e w1 ⟨ng1,a1_,n1_,c1_,p1_,m1_,k1_,rfl,g1,be⟩;have gb:=bS gb be;obtain ⟨z0,ae,af,ag,ah,ak,al⟩:=ap.out _ gb))
 go_wp2_with fail
 go_ret
 exact ⟨rfl,bS zb gb⟩

end Go.Proofs.YtkjcdnlpjldhaaaGreat


namespace Go.Proofs.YtkjcdnlpjldhaaaGreat
open Go.RowKit Tw
attribute [local go_sem ↓] Go.wp_at_zero Go.wp_at_succ

theorem rof_c (n z:Int) (w:World) (hz:z=n) (n0:-9223372036854775808<=n) (n1:n<9223372036854775808) :
  Calls Tryz.prog 48 #[.int .i64 n] w (zgt w z) :=
 (ref7_of n z w hz n0 n1).mono fun e w' h => zij rfl (Nat.le_trans (zdR (by omega) (by omega)) (by omega)) h

theorem zcE (n:Nat):((n:Int) == 0)=decide (n=0):=by
 rw [Bool.eq_iff_iff];simp

theorem zap.more {w w':World} {q:Rat} {e:Ending} (h:zap w q e w') (o:Obj):zap w q e (w'.alloc o):=by
 obtain ⟨ng,a,n,c,a',n',c',rfl,g,hb⟩:=h
 exact ⟨_,_,_,_,_,_,_,rfl,(g.alloc o).mono (Nat.le_refl _) (by simp),bS hb (bN _ _)⟩

theorem num_ne {x:Rat} (h:x≠0):x.num≠0:=fun e => h (Rat.num_eq_zero.1 e)

theorem zat.zeroQ {lo hi:Nat} {w:World} {ng o:Bool} {a:Option Addr} {n c:Nat} {u:Value} {x:Rat} (g:zat lo hi w ng (.slice a n c) u x) (h:decide (x=0)=o):decide (n=0)=o:=by
 obtain ⟨_,_,e⟩:=g.1.rd.shape
 injection e with _ e _
 rw [<- h,e,ze,decide_eq_decide,zA,Int.natAbs_eq_zero]
 exact Rat.num_eq_zero

theorem zkR {b:Bool} {ln ld:List Nat} (hn:Small ln) (hd:Small ld) :
  zcy b ln ld (rat b (val ln) (val ld))=(decide (sz (val ln)=ln.length) && decide (sz (val ld)=ld.length) && (Nat.gcd (val ln) (val ld) == 1) && decide (0<ld.length) && !(b && decide (ln.length=0))):=by
 rw [Bool.eq_iff_iff]
 unfold zcy
 simp only [Bool.and_eq_true,beq_iff_eq,decide_eq_true_eq,Bool.not_eq_true',<- zdZ hn,<- zdZ hd]
 by_cases h0:val ld=0
 ·rw [h0,zcj]
  constructor
  ·rintro ⟨_,h⟩
   rw [<- h,vL] at h0
   exact absurd h0 (by decide)
  ·rintro ⟨⟨⟨⟨_,h1⟩,_⟩,h2⟩,_⟩
   rw [<- h1] at h2
   exact absurd h2 (by simp [zz])
 ·rw [ziz h0,ziy h0]
  have hp:0<ld.length:=by
   refine Nat.pos_of_ne_zero fun e => h0 ?_
   rw [List.length_eq_zero_iff.1 e];rfl
  constructor
  ·rintro ⟨⟨h1,h2⟩,h3⟩
   have e2:=congrArg val h2
   have e3:=congrArg val h3
   rw [vL] at e2 e3
   have hg:Nat.gcd (val ln) (val ld)=1:=by
    have h5:Nat.gcd (val ln) (val ld) ∣ val ld:=Nat.gcd_dvd_right _ _
    have h6:=Nat.div_mul_cancel h5
    rw [e3] at h6
    exact Nat.eq_of_mul_eq_mul_left (Nat.pos_of_ne_zero h0) (by rw [h6,Nat.mul_one])
   rw [hg,Nat.div_one] at h2 h3
   refine ⟨⟨⟨⟨h2,h3⟩,hg⟩,hp⟩,?_⟩
   cases b with
   | false => rfl
   | true =>
    simp only [Bool.true_and,decide_eq_false_iff_not]
    intro hl
    rw [List.length_eq_zero_iff.1 hl,show val []=0 from rfl,zck] at h1
    exact absurd h1 (by decide +kernel)
  ·rintro ⟨⟨⟨⟨h2,h3⟩,hg⟩,_⟩,h5⟩
   rw [hg,Nat.div_one,Nat.div_one]
   refine ⟨⟨?_,h2⟩,h3⟩
   by_cases hz:val ln=0
   ·rw [hz,zck]
    rw [hz,zz] at h2
    rw [<- h2] at h5
    cases b with
    | false => decide +kernel
    | true => simp at h5
   ·exact zlE b h0 hz

theorem zmL {w:World} {b:Bool} {v u:Value} {ln ld:List Nat} {x:Rat} (h:IsQ w b v u ln ld x) :
  zcy b ln ld x=(decide (sz (val ln)=ln.length) && decide (sz (val ld)=ld.length) && (Nat.gcd (val ln) (val ld) == 1) && decide (0<ld.length) && !(b && decide (ln.length=0))):=by
 rw [<- h.2.2.1]
 exact zkR h.1.1 h.2.1.1

theorem ref8_of (n z:Int) (w:World) (hz:z=n) (m0:-9223372036854775808<=n) (m1:n<9223372036854775808) :
  Calls Tryz.prog 25 #[.int .i64 n] w (zap w (z:Rat)):=by
 have Hz:=Lib.hid hz
 have S1:=Lib.hid (zdR (z:=z) (by omega) (by omega))
 have S2:=Lib.hid (show szq (z:Rat)<=1000 from zlN S1.out)
 have H9:=Lib.hid (show ∀ ng,decide (z<0)=ng->rat ng (val (za z.natAbs)) (val [1])=(z:Rat) from fun ng e => by rw [<- e,show val [1]=val (za (1:Int).toNat) by decide +kernel];exact zlD z)
 clear hz
 go_enter Tryz.func25,Tryz.ntmps25
 go_wp2_with fail
 obtain ⟨W0,an⟩:∃ W0,w.alloc (.cells #[.bool false,.slice none 0 0,.slice none 0 0] 47)=W0:=⟨_,rfl⟩
 have ap:=Lib.hid (show ∀ W',Below W0.heap.size W0 W'->(Bx3 W' w.heap.size (.bool false) (.slice none 0 0) (.slice none 0 0)) from fun W' hb => by
   apply bx3 hb
   all_goals first|assumption|(rw [<- an];simp [go_sem]))
 have zb:Below w.heap.size w W0:=by rw [<- an];exact bN _ _
 rw [an]
 clear an
 have gb:Below W0.heap.size W0 W0:=Below.refl _ _
 obtain ⟨z0,ae,af,ag,ah,ak,al⟩:=ap.out _ gb
 refine (rof_c n z _ Hz.out m0 m1).mono ?_
 clear ae ah af ak ag al
 rintro e w1 ⟨ng1,a1_,n1_,c1_,rfl,g1,be⟩
 replace gb:=bS gb be
 obtain ⟨z0,ae,af,ag,ah,ak,al⟩:=ap.out _ gb
 go_wp2_with fail
 have H8:=Lib.hid (H9.out ng1 (by have k:=g1.2.1;exact k))
 obtain ⟨W1,aO⟩:∃ W1,w1.alloc (.cells #[.int .u32 1] 97)=W1:=⟨_,rfl⟩
 have hb_W1:Below w1.heap.size w1 W1:=by rw [<- aO];exact bN _ _
 have d_W1:Rd W1 (.slice (some ⟨w1.heap.size,0,none⟩) 1 1) [1]:=by rw [<- aO];exact lit1 (a:=1) w1 (by omega)
 clear ae ah af ak ag al
 replace g1:=g1.to hb_W1
 replace gb:=bS gb hb_W1
 obtain ⟨z0,ae,af,ag,ah,ak,al⟩:=ap.out _ gb
 rw [aO]
 clear aO
 refine (zdy ng1 _ _ _ _ _ g1.isI.up d_W1 (Nat.le_trans S1.out (by omega)) (by simp) (z:Rat) H8.out S2).mono ?_
 clear ae ah af ak ag al
 rintro e w2 ⟨ng2,a2_,n2_,c2_,p2_,m2_,k2_,rfl,g2,aZ⟩
 replace g1:=g1.to aZ
 replace d_W1:=d_W1.to aZ
 replace gb:=bS gb aZ
 obtain ⟨z0,ae,af,ag,ah,ak,al⟩:=ap.out _ gb
 go_wp2_with fail
 refine bodyPost_ret (zY Tryz.results25 _ _ _ _ _ _ rfl (Tri.set (x0:=.bool false) (y0:=.slice none 0 0) (z0:=.slice none 0 0) ⟨ae,af,ag,ah,ak,al⟩ _ _ _)) rfl (zef (bS zb gb) (by omega) ?_ g2)
 omega

theorem zdw {x:Rat} (b:Bool) (v u:Value) (ln ld:List Nat) (w:World) (h:IsQ w b v u ln ld x) (o:Bool) (ho:zcy b ln ld x=o) :
  Calls Tryz.prog 83 #[aggR b v u] w (fun e w' => e=.returned (.bool o)/\Below w.heap.size w w'):=by
 obtain ⟨r1,h1⟩:∃ r,decide (sz (val ln)=ln.length)=r:=⟨_,rfl⟩
 obtain ⟨r2,h2⟩:∃ r,decide (sz (val ld)=ld.length)=r:=⟨_,rfl⟩
 obtain ⟨r3,h3⟩:∃ r,(Nat.gcd (val ln) (val ld) == 1)=r:=⟨_,rfl⟩
 have R1:=Lib.hid h1
 have R2:=Lib.hid h2
 have R3:=Lib.hid h3
 have HO:=Lib.hid (show (r1 && r2 && r3 && decide (0<ld.length) && !(b && decide (ln.length=0)))=o by rw [<- ho,zmL h,h1,h2,h3])
 clear ho h1 h2 h3
 have L1:=h.lup
 have L2:=h.ldn
 obtain ⟨a0,n0,c0,rfl,H0,hm0⟩:=h.1.open
 obtain ⟨a1,n1,c1,rfl,H1,hm1⟩:=h.2.1.open
 rw [H0.out,H1.out] at HO
 have l1:=H0.out
 have l2:=H1.out
 rw [l1] at L1
 rw [l2] at L2
 clear l1 l2
 rcases Bool.eq_false_or_eq_true r1 with rfl|rfl
 rotate_left
 
 ·skip
  go_enter Tryz.func83,Tryz.ntmps83
  go_wp2_with fail
  obtain ⟨W0,an⟩:∃ W0,w.alloc (.cells #[.bool b,.slice a0 n0 c0,.slice a1 n1 c1] 47)=W0:=⟨_,rfl⟩
  have ap:=Lib.hid (show ∀ W',Below W0.heap.size W0 W'->(Bx3 W' w.heap.size (.bool b) (.slice a0 n0 c0) (.slice a1 n1 c1)) from fun W' hb => by
    apply bx3 hb
    all_goals first|assumption|(rw [<- an];simp [go_sem]))
  have zb:Below w.heap.size w W0:=by rw [<- an];exact bN _ _
  rw [an]
  clear an
  have i0:=h.to zb
  have gb:Below W0.heap.size W0 W0:=Below.refl _ _
  obtain ⟨z0,ae,af,ag,ah,ak,al⟩:=ap.out _ gb
  refine (zbM _ _ _ (i0.to gb).up).mono ?_
  rintro e w1 ⟨rfl,rfl⟩
  rw [R1.out]
  go_wp2_with fail
  go_ret
  exact ⟨zu (congrArg Value.bool (by have k:=HO.out;first|(simpa using k)|(simpa [*] using k)|(rw [<- k];simp [*,zcE]))),bS zb gb⟩
 rcases Bool.eq_false_or_eq_true r2 with rfl|rfl
 rotate_left
 
 ·skip
  go_enter Tryz.func83,Tryz.ntmps83
  go_wp2_with fail
  obtain ⟨W0,an⟩:∃ W0,w.alloc (.cells #[.bool b,.slice a0 n0 c0,.slice a1 n1 c1] 47)=W0:=⟨_,rfl⟩
  have ap:=Lib.hid (show ∀ W',Below W0.heap.size W0 W'->(Bx3 W' w.heap.size (.bool b) (.slice a0 n0 c0) (.slice a1 n1 c1)) from fun W' hb => by
    apply bx3 hb
    all_goals first|assumption|(rw [<- an];simp [go_sem]))
  have zb:Below w.heap.size w W0:=by rw [<- an];exact bN _ _
  rw [an]
  clear an
  have i0:=h.to zb
  have gb:Below W0.heap.size W0 W0:=Below.refl _ _
  obtain ⟨z0,ae,af,ag,ah,ak,al⟩:=ap.out _ gb
  refine (zbM _ _ _ (i0.to gb).up).mono ?_
  rintro e w1 ⟨rfl,rfl⟩
  rw [R1.out]
  go_wp2_with fail
  refine (zbM _ _ _ (i0.to gb).dn).mono ?_
  rintro e w1 ⟨rfl,rfl⟩
  rw [R2.out]
  go_wp2_with fail
  go_ret
  exact ⟨zu (congrArg Value.bool (by have k:=HO.out;first|(simpa using k)|(simpa [*] using k)|(rw [<- k];simp [*,zcE]))),bS zb gb⟩
 rcases Bool.eq_false_or_eq_true r3 with rfl|rfl
 rotate_left
 
 ·skip
  go_enter Tryz.func83,Tryz.ntmps83
  go_wp2_with fail
  obtain ⟨W0,an⟩:∃ W0,w.alloc (.cells #[.bool b,.slice a0 n0 c0,.slice a1 n1 c1] 47)=W0:=⟨_,rfl⟩
  have ap:=Lib.hid (show ∀ W',Below W0.heap.size W0 W'->(Bx3 W' w.heap.size (.bool b) (.slice a0 n0 c0) (.slice a1 n1 c1)) from fun W' hb => by
    apply bx3 hb
    all_goals first|assumption|(rw [<- an];simp [go_sem]))
  have zb:Below w.heap.size w W0:=by rw [<- an];exact bN _ _
  rw [an]
  clear an
  have i0:=h.to zb
  have gb:Below W0.heap.size W0 W0:=Below.refl _ _
  obtain ⟨z0,ae,af,ag,ah,ak,al⟩:=ap.out _ gb
  refine (zbM _ _ _ (i0.to gb).up).mono ?_
  rintro e w1 ⟨rfl,rfl⟩
  rw [R1.out]
  go_wp2_with fail
  refine (zbM _ _ _ (i0.to gb).dn).mono ?_
  rintro e w1 ⟨rfl,rfl⟩
  rw [R2.out]
  go_wp2_with fail
  refine (zex _ _ _ _ false _ (i0.to gb).up (i0.to gb).dn (by have:=h.lup;omega) (by have:=h.ldn;omega) R3).mono ?_
  clear ae ah af ak ag al
  rintro e w2 ⟨rfl,aZ⟩
  replace gb:=bS gb aZ
  obtain ⟨z0,ae,af,ag,ah,ak,al⟩:=ap.out _ gb
  go_wp2_with fail
  go_ret
  exact ⟨zu (congrArg Value.bool (by have k:=HO.out;first|(simpa using k)|(simpa [*] using k)|(rw [<- k];simp [*,zcE]))),bS zb gb⟩
 go_enter Tryz.func83,Tryz.ntmps83
 go_wp2_with fail
 obtain ⟨W0,an⟩:∃ W0,w.alloc (.cells #[.bool b,.slice a0 n0 c0,.slice a1 n1 c1] 47)=W0:=⟨_,rfl⟩
 have ap:=Lib.hid (show ∀ W',Below W0.heap.size W0 W'->(Bx3 W' w.heap.size (.bool b) (.slice a0 n0 c0) (.slice a1 n1 c1)) from fun W' hb => by
   apply bx3 hb
   all_goals first|assumption|(rw [<- an];simp [go_sem]))
 have zb:Below w.heap.size w W0:=by rw [<- an];exact bN _ _
 rw [an]
 clear an
 have i0:=h.to zb
 have gb:Below W0.heap.size W0 W0:=Below.refl _ _
 obtain ⟨z0,ae,af,ag,ah,ak,al⟩:=ap.out _ gb
 refine (zbM _ _ _ (i0.to gb).up).mono ?_
 rintro e w1 ⟨rfl,rfl⟩
 rw [R1.out]
 go_wp2_with fail
 refine (zbM _ _ _ (i0.to gb).dn).mono ?_
 rintro e w1 ⟨rfl,rfl⟩
 rw [R2.out]
 go_wp2_with fail
 refine (zex _ _ _ _ true _ (i0.to gb).up (i0.to gb).dn (by have:=h.lup;omega) (by have:=h.ldn;omega) R3).mono ?_
 clear ae ah af ak ag al
 rintro e w2 ⟨rfl,aZ⟩
 replace gb:=bS gb aZ
 obtain ⟨z0,ae,af,ag,ah,ak,al⟩:=ap.out _ gb
 rcases Nat.eq_zero_or_pos n1 with rfl|e1
 ·skip
  go_wp2_with fail
  go_ret
  exact ⟨zu (congrArg Value.bool (by have k:=HO.out;first|(simpa using k)|(simpa [*] using k)|(rw [<- k];simp [*,zcE]))),bS zb gb⟩
 rcases Bool.eq_false_or_eq_true b with rfl|rfl
 rotate_left
 ·skip
  go_wp2_with fail
  go_ret
  exact ⟨zu (congrArg Value.bool (by have k:=HO.out;first|(simpa using k)|(simpa [*] using k)|(rw [<- k];simp [*,zcE]))),bS zb gb⟩
 ·skip
  go_wp2_with fail
  go_ret
  exact ⟨zu (congrArg Value.bool (by have k:=HO.out;first|(simpa using k)|(simpa [*] using k)|(rw [<- k];simp [*,zcE]))),bS zb gb⟩

end Go.Proofs.YtkjcdnlpjldhaaaGreat


namespace Go.Proofs.YtkjcdnlpjldhaaaGreat
open Go.RowKit Tw
attribute [local go_sem ↓] Go.wp_at_zero Go.wp_at_succ

theorem zcP.ng {lo hi:Nat} {w:World} {b:Bool} {v:Value} {z:Int} (h:zcP lo hi w b v z):decide (z<0)=b:=h.2.1

theorem zeG {x y:Rat} (hx:szq x<=1000) (hy:szq y<=1000):(za (x.num*(y.den:Int)).natAbs).length<=3000:=by
 rw [ze]
 have h1:=zdh x.num (y.den:Int)
 have h2:=zaF x
 have h3:=zam y
 unfold szi at h1
 rw [Int.natAbs_natCast] at h1
 omega

theorem div_rat (x:Rat) {y:Rat} (h0:y≠0) :
  rat (decide (x.num*(y.den:Int)<0) != decide ((x.den:Int)*y.num<0)) (x.num*(y.den:Int)).natAbs ((x.den:Int)*y.num).natAbs=x / y:=by
 have h1:y.num≠0:=fun e => h0 (Rat.num_eq_zero.1 e)
 have hx:=x.den_pos
 have hy:=y.den_pos
 have e1:decide (x.num*(y.den:Int)<0)=decide (x.num<0):=by
  rw [decide_eq_decide]
  exact ⟨fun k => Int.not_le.1 fun k' => absurd (Int.mul_nonneg k' (Int.natCast_nonneg y.den)) (by omega),fun k => Int.mul_neg_of_neg_of_pos k (by omega)⟩
 have e2:decide ((x.den:Int)*y.num<0)=decide (y.num<0):=by
  rw [decide_eq_decide]
  exact ⟨fun k => Int.not_le.1 fun k' => absurd (Int.mul_nonneg (Int.natCast_nonneg x.den) k') (by omega),fun k => by rw [Int.mul_comm];exact Int.mul_neg_of_neg_of_pos k (by omega)⟩
 rw [e1,e2,Int.natAbs_mul,Int.natAbs_mul,Int.natAbs_natCast,Int.natAbs_natCast,<- zgp,Rat.div_def,<- zdc,<- zdc,zcV]
 congr 1
 have hi:=zcV y⁻¹
 rw [<- hi]
 have h3:=(zdc y⁻¹)
 rw [Rat.num_inv,Rat.den_inv,if_neg h1,Int.natAbs_mul,Int.natAbs_sign_of_ne_zero h1,Nat.one_mul,Int.natAbs_natCast]
 congr 1
 rw [zdc,zdc,Rat.num_inv,decide_eq_decide]
 rcases Int.lt_trichotomy y.num 0 with k|k|k
 ·rw [Int.sign_eq_neg_one_of_neg k];omega
 ·exact absurd k h1
 ·rw [Int.sign_eq_one_of_pos k];omega

theorem ziA {x y:Rat} (b:Bool) (v u:Value) (ln ld:List Nat) (c:Bool) (v' u':Value) (ln' ld':List Nat) (w:World) (h:IsQ w b v u ln ld x) (h':IsQ w c v' u' ln' ld' y) (h0:y=0) :
  Calls Tryz.prog 120 #[aggR b v u,aggR c v' u'] w (fun e w' => e=.returned (.tuple #[aggR false (.slice none 0 0) (.slice none 0 0),.int .i64 3])/\Below w.heap.size w w'):=by
 have Hx:Hid (szq x<=1000):=zaY h
 have Hy:Hid (szq y<=1000):=zaY h'
 have S1:=Lib.hid (show szi (x.num*(y.den:Int))<=90000 from zdK Hx.out Hy.out)
 have S2:=Lib.hid (show szi ((x.den:Int)*y.num)<=90000 by rw [Int.mul_comm];exact zdK Hy.out Hx.out)
 have S5:=Lib.hid (show (za (x.num*(y.den:Int)).natAbs).length<=3000 from zeG Hx.out Hy.out)
 have S6:=Lib.hid (show (za ((x.den:Int)*y.num).natAbs).length<=3000 by rw [Int.mul_comm];exact zeG Hy.out Hx.out)
 have HZ:=Lib.hid (show val (za ((x.den:Int)*y.num).natAbs)=0 by rw [vL,h0];simp)
 obtain ⟨a0,n0,c0,rfl,H0,hm0⟩:=h.1.open
 obtain ⟨a1,n1,c1,rfl,H1,hm1⟩:=h.2.1.open
 obtain ⟨a2,n2,c2,rfl,H2,hm2⟩:=h'.1.open
 obtain ⟨a3,n3,c3,rfl,H3,hm3⟩:=h'.2.1.open
 clear h0
 go_enter Tryz.func120,Tryz.ntmps120
 go_wp2_with fail
 obtain ⟨W0,an⟩:∃ W0,((w.alloc (.cells #[.bool b,.slice a0 n0 c0,.slice a1 n1 c1] 47)).alloc (.cells #[.bool c,.slice a2 n2 c2,.slice a3 n3 c3] 47)).alloc (.cells #[.bool false,.slice none 0 0,.slice none 0 0] 47)=W0:=⟨_,rfl⟩
 have ap:=Lib.hid (show ∀ W',Below W0.heap.size W0 W'->(W'.cell? ⟨w.heap.size,0,none⟩=some (.bool b)/\W'.cell? ⟨w.heap.size,1,none⟩=some (.slice a0 n0 c0)/\W'.cell? ⟨w.heap.size,2,none⟩=some (.slice a1 n1 c1)/\W'.cell? ⟨w.heap.size+1,0,none⟩=some (.bool c)/\W'.cell? ⟨w.heap.size+1,1,none⟩=some (.slice a2 n2 c2)/\W'.cell? ⟨w.heap.size+1,2,none⟩=some (.slice a3 n3 c3)/\W'.cell? ⟨w.heap.size+1+1,0,none⟩=some (.bool false)/\W'.cell? ⟨w.heap.size+1+1,1,none⟩=some (.slice none 0 0)/\W'.cell? ⟨w.heap.size+1+1,2,none⟩=some (.slice none 0 0)) from fun W' hb =>
  by and_intros <;> exact kc hb (by first|assumption|(rw [<- an];simp [go_sem])))
 have cE:=Lib.hid (show ∀ W',Below W0.heap.size W0 W'->(W'.frozen? ⟨w.heap.size,0,none⟩=false/\W'.frozen? ⟨w.heap.size,1,none⟩=false/\W'.frozen? ⟨w.heap.size,2,none⟩=false/\W'.frozen? ⟨w.heap.size+1,0,none⟩=false/\W'.frozen? ⟨w.heap.size+1,1,none⟩=false/\W'.frozen? ⟨w.heap.size+1,2,none⟩=false/\W'.frozen? ⟨w.heap.size+1+1,0,none⟩=false/\W'.frozen? ⟨w.heap.size+1+1,1,none⟩=false/\W'.frozen? ⟨w.heap.size+1+1,2,none⟩=false) from fun W' hb =>
  by and_intros <;> refine (hb.frozen ?_).trans ?_ <;> first|assumption|(rw [<- an];simp [go_sem])|(rw [<- an];simp <;> omega))
 have cF:=Lib.hid (show ∀ W',Below W0.heap.size W0 W'->(w.heap.size<W'.heap.size/\w.heap.size+1<W'.heap.size/\w.heap.size+1+1<W'.heap.size) from fun W' hb =>
  by and_intros <;> refine Nat.lt_of_lt_of_le ?_ hb.size <;> first|assumption|(rw [<- an];simp <;> omega))
 have zb:Below w.heap.size w W0:=by rw [<- an];exact bS (bS (bN _ _) (bN _ _)) (bN _ _)
 rw [an]
 clear an
 have i0:=h.to zb
 have i1:=h'.to zb
 have gb:Below W0.heap.size W0 W0:=Below.refl _ _
 obtain ⟨ae,af,ag,aB,aD,aE,bu,bv,cg⟩:=ap.out _ gb
 obtain ⟨ah,ak,al,aG,aH,aI,bV,bW,cm⟩:=cE.out _ gb
 obtain ⟨z0,z1,z2⟩:=cF.out _ gb
 have hgb:=gb
 go_upto_region 1 with fail
 go_cut [6,7] from 8 (fun s6 s7 wx => zcg W0 (x) s6 wx/\zcg W0 (y) s7 wx)
 case first =>
  go_region_held3 (fun W' => W'.cell? ⟨w.heap.size,0,none⟩=some (.bool b)/\W'.cell? ⟨w.heap.size,1,none⟩=some (.slice a0 n0 c0)/\W'.cell? ⟨w.heap.size,2,none⟩=some (.slice a1 n1 c1)/\W'.cell? ⟨w.heap.size+1,0,none⟩=some (.bool c)/\W'.cell? ⟨w.heap.size+1,1,none⟩=some (.slice a2 n2 c2)/\W'.cell? ⟨w.heap.size+1,2,none⟩=some (.slice a3 n3 c3)/\W'.cell? ⟨w.heap.size+1+1,0,none⟩=some (.bool false)/\W'.cell? ⟨w.heap.size+1+1,1,none⟩=some (.slice none 0 0)/\W'.cell? ⟨w.heap.size+1+1,2,none⟩=some (.slice none 0 0)) (with_reducible first|(exact ap.out _ gb)|((refine ap.out _ ?_);first|((refine Below.drew ?_);first|(exact gb)|((refine bT ?_ ?_ _ _ _);rotate_left;(first|(exact aL)|(exact aP)|(exact aM)|(exact aQ));first|(exact gb)|((refine bT ?_ ?_ _ _ _);rotate_left;(first|(exact aL)|(exact aP)|(exact aM)|(exact aQ));exact gb)|((refine bS ?_ (bN _ _));exact gb))|((refine bS ?_ (bN _ _));first|(exact gb)|((refine bT ?_ ?_ _ _ _);rotate_left;(first|(exact aL)|(exact aP)|(exact aM)|(exact aQ));exact gb)|((refine bS ?_ (bN _ _));exact gb)))|(first|(exact gb)|((refine bT ?_ ?_ _ _ _);rotate_left;(first|(exact aL)|(exact aP)|(exact aM)|(exact aQ));first|(exact gb)|((refine bT ?_ ?_ _ _ _);rotate_left;(first|(exact aL)|(exact aP)|(exact aM)|(exact aQ));first|(exact gb)|((refine bT ?_ ?_ _ _ _);rotate_left;(first|(exact aL)|(exact aP)|(exact aM)|(exact aQ));first|(exact gb)|((refine bT ?_ ?_ _ _ _);rotate_left;(first|(exact aL)|(exact aP)|(exact aM)|(exact aQ));exact gb)|((refine bS ?_ (bN _ _));exact gb))|((refine bS ?_ (bN _ _));first|(exact gb)|((refine bT ?_ ?_ _ _ _);rotate_left;(first|(exact aL)|(exact aP)|(exact aM)|(exact aQ));exact gb)|((refine bS ?_ (bN _ _));exact gb)))|((refine bS ?_ (bN _ _));first|(exact gb)|((refine bT ?_ ?_ _ _ _);rotate_left;(first|(exact aL)|(exact aP)|(exact aM)|(exact aQ));first|(exact gb)|((refine bT ?_ ?_ _ _ _);rotate_left;(first|(exact aL)|(exact aP)|(exact aM)|(exact aQ));exact gb)|((refine bS ?_ (bN _ _));exact gb))|((refine bS ?_ (bN _ _));first|(exact gb)|((refine bT ?_ ?_ _ _ _);rotate_left;(first|(exact aL)|(exact aP)|(exact aM)|(exact aQ));exact gb)|((refine bS ?_ (bN _ _));exact gb))))|((refine bS ?_ (bN _ _));first|(exact gb)|((refine bT ?_ ?_ _ _ _);rotate_left;(first|(exact aL)|(exact aP)|(exact aM)|(exact aQ));first|(exact gb)|((refine bT ?_ ?_ _ _ _);rotate_left;(first|(exact aL)|(exact aP)|(exact aM)|(exact aQ));first|(exact gb)|((refine bT ?_ ?_ _ _ _);rotate_left;(first|(exact aL)|(exact aP)|(exact aM)|(exact aQ));exact gb)|((refine bS ?_ (bN _ _));exact gb))|((refine bS ?_ (bN _ _));first|(exact gb)|((refine bT ?_ ?_ _ _ _);rotate_left;(first|(exact aL)|(exact aP)|(exact aM)|(exact aQ));exact gb)|((refine bS ?_ (bN _ _));exact gb)))|((refine bS ?_ (bN _ _));first|(exact gb)|((refine bT ?_ ?_ _ _ _);rotate_left;(first|(exact aL)|(exact aP)|(exact aM)|(exact aQ));first|(exact gb)|((refine bT ?_ ?_ _ _ _);rotate_left;(first|(exact aL)|(exact aP)|(exact aM)|(exact aQ));exact gb)|((refine bS ?_ (bN _ _));exact gb))|((refine bS ?_ (bN _ _));first|(exact gb)|((refine bT ?_ ?_ _ _ _);rotate_left;(first|(exact aL)|(exact aP)|(exact aM)|(exact aQ));exact gb)|((refine bS ?_ (bN _ _));exact gb))))))) (first
   | (go_at_call 142;(refine zl w1 (by with_reducible first|exact Below.refl _ _|exact bN _ _|exact bS (bN _ _) (bN _ _)) ?_);intro V2 dY ch;have ep:=ch.size;have dH:=gb.size;have g1:=g1.to ch;have gb:=bS gb ch;(try have am:=am.to ch);(try have bl:=bl.to ch);(try have aN:Tri V2 (w1.heap.size) (.bool false) (.slice none 0 0) (.slice none 0 0):=(by rw [dY];with_reducible first|exact zi _ (.bool false) (.slice none 0 0) (.slice none 0 0) _|exact (zi _ (.bool false) (.slice none 0 0) (.slice none 0 0) _).alloc _));have aM:W0.heap.size<=w1.heap.size:=(dH);have bq:w1.heap.size<=w1.heap.size:=(Nat.le_refl _);(try have bY:Tri V2 (w1.heap.size+1) (.bool false) (.slice none 0 0) (.slice none 0 0):=(by rw [dY];first|with_reducible exact zcz _ _ (.bool false) (.slice none 0 0) (.slice none 0 0) _));have aQ:W0.heap.size<=w1.heap.size+1:=(Nat.le_succ_of_le dH);have bs:w1.heap.size<=w1.heap.size+1:=(Nat.le_succ _);(try have a9:=am.lt);(try have bL:=bl.lt);(try have bc:=aN.lt);(try have bM:=bY.lt);(with_reducible refine (zbJ c _ _ ln' ld' _ (i1.to gb) Hy).mono ?_);rintro e w2 ⟨ng2,a2_,n2_,c2_,p2_,m2_,k2_,rfl,g2,aZ⟩;have g1:=g1.to aZ;have gb:=bS gb aZ;have dZ:=aZ.size;(try have am:=am.to aZ);(try have bl:=bl.to aZ);(try have aN:=aN.to aZ);(try have bY:=bY.to aZ);(try have cn:=am.lt);(try have eP:=bl.lt);(try have cq:=aN.lt);(try have eQ:=bY.lt);(try (have bj:=am;obtain ⟨bx,bA,bB,bE,bH,bJ⟩:=bj));(try (have di:=bl;obtain ⟨dR,dS,dT,dU,dV,dW⟩:=di));(try (have cf:=aN;obtain ⟨cH,cI,cK,cL,cM,cN⟩:=cf));(try (have eq:=bY;obtain ⟨eY,eZ,fc,fd,fe,ff⟩:=eq)))
   | (go_at_call 142;(refine zl W0 (by with_reducible first|exact (Below.refl _ _).drew|exact (bN _ _).drew|exact (bS (bN _ _) (bN _ _)).drew) ?_);intro V1 dX cG;have eo:=cG.size;have dG:=gb.size;have gb:=bS gb cG;(try have am:Tri V1 (W0.heap.size) (.bool false) (.slice none 0 0) (.slice none 0 0):=(by rw [dX];with_reducible first|exact (zi _ (.bool false) (.slice none 0 0) (.slice none 0 0) _).drew|exact ((zi _ (.bool false) (.slice none 0 0) (.slice none 0 0) _).alloc _).drew));have aL:W0.heap.size<=W0.heap.size:=(dG);(try have bl:Tri V1 (W0.heap.size+1) (.bool false) (.slice none 0 0) (.slice none 0 0):=(by rw [dX];first|with_reducible exact (zcz _ _ (.bool false) (.slice none 0 0) (.slice none 0 0) _).drew));have aP:W0.heap.size<=W0.heap.size+1:=(Nat.le_succ_of_le dG);(try have bk:=am.lt);(try have bK:=bl.lt);(with_reducible refine (zbJ b _ _ ln ld _ (i0.to gb) Hx).mono ?_);rintro e w1 ⟨ng1,a1_,n1_,c1_,p1_,m1_,k1_,rfl,g1,be⟩;have gb:=bS gb be;have dD:=be.size;(try have am:=am.to be);(try have bl:=bl.to be);(try have bw:=am.lt);(try have cB:=bl.lt);(try (have bj:=am;obtain ⟨bx,bA,bB,bE,bH,bJ⟩:=bj));(try (have di:=bl;obtain ⟨dR,dS,dT,dU,dV,dW⟩:=di))))
  all_goals (go_wp2_with fail;go_meet)
  all_goals first
   | (with_reducible exact zn am bl (Nat.ne_of_lt (Nat.lt_succ_self _)) g1 g2 (.inl bk) (.inl bK) (.inl a9) (.inl bL) gb aL aP)
   | (with_reducible exact zn am aN (Nat.ne_of_lt bw) g1 g2 (.inl bk) (.inr bq) (.inl a9) (.inl bc) gb aL aM)
   | (with_reducible exact zn am bY (Nat.ne_of_lt (Nat.lt_succ_of_lt bw)) g1 g2 (.inl bk) (.inr bs) (.inl a9) (.inl bM) gb aL aQ)
   | (with_reducible exact zn bl am ((Nat.ne_of_lt (Nat.lt_succ_self _)).symm) g1 g2 (.inl bK) (.inl bk) (.inl bL) (.inl a9) gb aP aL)
   | (with_reducible exact zn bl aN (Nat.ne_of_lt cB) g1 g2 (.inl bK) (.inr bq) (.inl bL) (.inl bc) gb aP aM)
   | (with_reducible exact zn bl bY (Nat.ne_of_lt (Nat.lt_succ_of_lt cB)) g1 g2 (.inl bK) (.inr bs) (.inl bL) (.inl bM) gb aP aQ)
   | (with_reducible exact zn aN am ((Nat.ne_of_lt bw).symm) g1 g2 (.inr bq) (.inl bk) (.inl bc) (.inl a9) gb aM aL)
   | (with_reducible exact zn aN bl ((Nat.ne_of_lt cB).symm) g1 g2 (.inr bq) (.inl bK) (.inl bc) (.inl bL) gb aM aP)
   | (with_reducible exact zn aN bY (Nat.ne_of_lt (Nat.lt_succ_self _)) g1 g2 (.inr bq) (.inr bs) (.inl bc) (.inl bM) gb aM aQ)
   | (with_reducible exact zn bY am ((Nat.ne_of_lt (Nat.lt_succ_of_lt bw)).symm) g1 g2 (.inr bs) (.inl bk) (.inl bM) (.inl a9) gb aQ aL)
   | (with_reducible exact zn bY bl ((Nat.ne_of_lt (Nat.lt_succ_of_lt cB)).symm) g1 g2 (.inr bs) (.inl bK) (.inl bM) (.inl bL) gb aQ aP)
   | (with_reducible exact zn bY aN ((Nat.ne_of_lt (Nat.lt_succ_self _)).symm) g1 g2 (.inr bs) (.inr bq) (.inl bM) (.inl bc) gb aQ aM)
   | (with_reducible exact zw am g1 g2 (.inl bk) (.inl a9) gb aL)
   | (with_reducible exact (zw am g2 g1 (.inl a9) (.inl bk) gb aL).symm)
   | (with_reducible exact zw bl g1 g2 (.inl bK) (.inl bL) gb aP)
   | (with_reducible exact (zw bl g2 g1 (.inl bL) (.inl bK) gb aP).symm)
   | (with_reducible exact zw aN g1 g2 (.inr bq) (.inl bc) gb aM)
   | (with_reducible exact (zw aN g2 g1 (.inl bc) (.inr bq) gb aM).symm)
   | (with_reducible exact zw bY g1 g2 (.inr bs) (.inl bM) gb aQ)
   | (with_reducible exact (zw bY g2 g1 (.inl bM) (.inr bs) gb aQ).symm)
   | (with_reducible exact zcl g1 g2 gb)
   | (with_reducible exact (zcl g2 g1 gb).symm)
 case rest =>
 obtain ⟨⟨B5,ng1,a1_,n1_,c1_,p1_,m1_,k1_,lo5,hi5,rfl,hB5,T5,g1,hc5⟩,⟨B6,ng2,a2_,n2_,c2_,p2_,m2_,k2_,lo6,hi6,rfl,hB6,T6,g2,hc6⟩⟩:=hcut
 clear ae ah af ak ag al aB aG aD aH aE aI bu bV bv bW cg cm
 have gb:=hc5
 obtain ⟨ae,af,ag,aB,aD,aE,bu,bv,cg⟩:=ap.out _ gb
 obtain ⟨ah,ak,al,aG,aH,aI,bV,bW,cm⟩:=cE.out _ gb
 obtain ⟨z0,z1,z2⟩:=cF.out _ gb
 have z5:=T5.lt
 obtain ⟨bO,bP,bQ,bZ,b7,ce⟩:=T5
 have z6:=T6.lt
 obtain ⟨cO,cQ,cR,cV,cW,cX⟩:=T6
 clear hgb
 obtain ⟨W1,aO⟩:∃ W,wc=W:=⟨_,rfl⟩
 subst aO
 replace i0:=i0.to gb
 replace i1:=i1.to gb
 replace zb:=bS zb gb
 have HXwc:=Lib.hid (show ∀ W',Below wc.heap.size wc W'->(Bx3 W' w.heap.size (.bool b) (.slice a0 n0 c0) (.slice a1 n1 c1)/\Bx3 W' (w.heap.size+1) (.bool c) (.slice a2 n2 c2) (.slice a3 n3 c3)/\Bx3 W' (w.heap.size+1+1) (.bool false) (.slice none 0 0) (.slice none 0 0)/\Bx3 W' B5 (.bool ng1) (.slice a1_ n1_ c1_) (.slice p1_ m1_ k1_)/\Bx3 W' B6 (.bool ng2) (.slice a2_ n2_ c2_) (.slice p2_ m2_ k2_)) from fun W' hb => by
   refine ⟨bx3 hb ?_ ?_ ?_ ?_ ?_ ?_,bx3 hb ?_ ?_ ?_ ?_ ?_ ?_,bx3 hb ?_ ?_ ?_ ?_ ?_ ?_,bx3 hb ?_ ?_ ?_ ?_ ?_ ?_,bx3 hb ?_ ?_ ?_ ?_ ?_ ?_⟩
   all_goals first|assumption|assumption)
 replace gb:=Below.refl wc.heap.size wc
 go_wp2_with fail
 have nz0:w.heap.size≠w.heap.size+1+1:=by omega
 have nz1:w.heap.size+1≠w.heap.size+1+1:=by omega
 have nz5:B5≠w.heap.size+1+1:=by omega
 have nz6:B6≠w.heap.size+1+1:=by omega
 go_region_held3 (fun W' => W'.cell? ⟨w.heap.size,0,none⟩=some (.bool b)/\W'.cell? ⟨w.heap.size,1,none⟩=some (.slice a0 n0 c0)/\W'.cell? ⟨w.heap.size,2,none⟩=some (.slice a1 n1 c1)/\W'.cell? ⟨w.heap.size+1,0,none⟩=some (.bool c)/\W'.cell? ⟨w.heap.size+1,1,none⟩=some (.slice a2 n2 c2)/\W'.cell? ⟨w.heap.size+1,2,none⟩=some (.slice a3 n3 c3)/\W'.cell? ⟨B5,0,none⟩=some (.bool ng1)/\W'.cell? ⟨B5,1,none⟩=some (.slice a1_ n1_ c1_)/\W'.cell? ⟨B5,2,none⟩=some (.slice p1_ m1_ k1_)/\W'.cell? ⟨B6,0,none⟩=some (.bool ng2)/\W'.cell? ⟨B6,1,none⟩=some (.slice a2_ n2_ c2_)/\W'.cell? ⟨B6,2,none⟩=some (.slice p2_ m2_ k2_)) (first|(with_reducible exact ⟨ae,af,ag,aB,aD,aE,bO,bP,bQ,cO,cQ,cR⟩)|(with_reducible exact ⟨cP (cP (cP (ae) (.inl nz0) _) (.inl nz0) _) (.inl nz0) _,cP (cP (cP (af) (.inl nz0) _) (.inl nz0) _) (.inl nz0) _,cP (cP (cP (ag) (.inl nz0) _) (.inl nz0) _) (.inl nz0) _,cP (cP (cP (aB) (.inl nz1) _) (.inl nz1) _) (.inl nz1) _,cP (cP (cP (aD) (.inl nz1) _) (.inl nz1) _) (.inl nz1) _,cP (cP (cP (aE) (.inl nz1) _) (.inl nz1) _) (.inl nz1) _,cP (cP (cP (bO) (.inl nz5) _) (.inl nz5) _) (.inl nz5) _,cP (cP (cP (bP) (.inl nz5) _) (.inl nz5) _) (.inl nz5) _,cP (cP (cP (bQ) (.inl nz5) _) (.inl nz5) _) (.inl nz5) _,cP (cP (cP (cO) (.inl nz6) _) (.inl nz6) _) (.inl nz6) _,cP (cP (cP (cQ) (.inl nz6) _) (.inl nz6) _) (.inl nz6) _,cP (cP (cP (cR) (.inl nz6) _) (.inl nz6) _) (.inl nz6) _⟩)|exact ⟨ae,af,ag,aB,aD,aE,bO,bP,bQ,cO,cQ,cR⟩) (first
  | (go_at_call 148;(with_reducible refine (zhn ng13 ng16 _ _ _ _ _ g13.isI.up g16.isI.up S6.out HZ.out).mono ?_);rintro e w17 ⟨rfl,dC⟩;have g13:=g13.to dC;have g16:=g16.to dC;have gb:=bS gb dC;obtain ⟨⟨z0,ae,af,ag,ah,ak,al⟩,⟨z1,aB,aD,aE,aG,aH,aI⟩,⟨z2,bu,bv,cg,bV,bW,cm⟩,⟨z5,bO,bP,bQ,bZ,b7,ce⟩,⟨z6,cO,cQ,cR,cV,cW,cX⟩⟩:=HXwc.out _ gb)
  | (go_at_call 144;(with_reducible refine (zhH _ (g1.to gb).below (g2.to gb).above ((x.den:Int)*y.num) rfl S2).mono ?_);rintro e w16 ⟨ng16,a16_,n16_,c16_,rfl,g16,en⟩;have g13:=g13.to en;have gb:=bS gb en;obtain ⟨⟨z0,ae,af,ag,ah,ak,al⟩,⟨z1,aB,aD,aE,aG,aH,aI⟩,⟨z2,bu,bv,cg,bV,bW,cm⟩,⟨z5,bO,bP,bQ,bZ,b7,ce⟩,⟨z6,cO,cQ,cR,cV,cW,cX⟩⟩:=HXwc.out _ gb)
  | (go_at_call 145;(with_reducible refine (zbD _ _ _ _ _ _ (g2.to gb).isQ).mono ?_);rintro e w15 ⟨rfl,dP⟩;have g13:=g13.to dP;have gb:=bS gb dP;obtain ⟨⟨z0,ae,af,ag,ah,ak,al⟩,⟨z1,aB,aD,aE,aG,aH,aI⟩,⟨z2,bu,bv,cg,bV,bW,cm⟩,⟨z5,bO,bP,bQ,bZ,b7,ce⟩,⟨z6,cO,cQ,cR,cV,cW,cX⟩⟩:=HXwc.out _ gb)
  | (go_at_call 146;(with_reducible refine (zbE _ _ _ _ _ _ (g1.to gb).isQ).mono ?_);rintro e w14 ⟨rfl,er⟩;have g13:=g13.to er;have gb:=bS gb er;obtain ⟨⟨z0,ae,af,ag,ah,ak,al⟩,⟨z1,aB,aD,aE,aG,aH,aI⟩,⟨z2,bu,bv,cg,bV,bW,cm⟩,⟨z5,bO,bP,bQ,bZ,b7,ce⟩,⟨z6,cO,cQ,cR,cV,cW,cX⟩⟩:=HXwc.out _ gb)
  | (go_at_call 144;(with_reducible refine (zhH _ (g1.to gb).above (g2.to gb).below (x.num*(y.den:Int)) rfl S1).mono ?_);rintro e w13 ⟨ng13,a13_,n13_,c13_,rfl,g13,eb⟩;have gb:=bS gb eb;obtain ⟨⟨z0,ae,af,ag,ah,ak,al⟩,⟨z1,aB,aD,aE,aG,aH,aI⟩,⟨z2,bu,bv,cg,bV,bW,cm⟩,⟨z5,bO,bP,bQ,bZ,b7,ce⟩,⟨z6,cO,cQ,cR,cV,cW,cX⟩⟩:=HXwc.out _ gb)
  | (go_at_call 146;(with_reducible refine (zbE _ _ _ _ _ _ (g2.to gb).isQ).mono ?_);rintro e w12 ⟨rfl,dl⟩;have gb:=bS gb dl;obtain ⟨⟨z0,ae,af,ag,ah,ak,al⟩,⟨z1,aB,aD,aE,aG,aH,aI⟩,⟨z2,bu,bv,cg,bV,bW,cm⟩,⟨z5,bO,bP,bQ,bZ,b7,ce⟩,⟨z6,cO,cQ,cR,cV,cW,cX⟩⟩:=HXwc.out _ gb)
  | (go_at_call 145;have gb:=gb.drew;(with_reducible refine (zbD _ _ _ _ _ _ (g1.to gb).isQ).mono ?_);rintro e w11 ⟨rfl,fp⟩;have gb:=bS gb fp;obtain ⟨⟨z0,ae,af,ag,ah,ak,al⟩,⟨z1,aB,aD,aE,aG,aH,aI⟩,⟨z2,bu,bv,cg,bV,bW,cm⟩,⟨z5,bO,bP,bQ,bZ,b7,ce⟩,⟨z6,cO,cQ,cR,cV,cW,cX⟩⟩:=HXwc.out _ gb))
 go_wp2_with fail
 refine bodyPost_ret (zt Tryz.results120 _ _ _ _ _ _ rfl (Tri.set (x0:=.bool false) (y0:=.slice none 0 0) (z0:=.slice none 0 0) ⟨bu,bv,cg,bV,bW,cm⟩ _ _ _)) rfl ⟨rfl,bT (bS zb gb) (by omega) _ _ _⟩

theorem zmD {x y:Rat} (b:Bool) (v u:Value) (ln ld:List Nat) (c:Bool) (v' u':Value) (ln' ld':List Nat) (w:World) (h:IsQ w b v u ln ld x) (h':IsQ w c v' u' ln' ld' y) (h0:y≠0) (q:Rat) (hq:x / y=q) (hs:Hid (szq q<=1000)) :
  Calls Tryz.prog 120 #[aggR b v u,aggR c v' u'] w (zL w q):=by
 have Hx:Hid (szq x<=1000):=zaY h
 have Hy:Hid (szq y<=1000):=zaY h'
 have S1:=Lib.hid (show szi (x.num*(y.den:Int))<=90000 from zdK Hx.out Hy.out)
 have S2:=Lib.hid (show szi ((x.den:Int)*y.num)<=90000 by rw [Int.mul_comm];exact zdK Hy.out Hx.out)
 have S5:=Lib.hid (show (za (x.num*(y.den:Int)).natAbs).length<=3000 from zeG Hx.out Hy.out)
 have S6:=Lib.hid (show (za ((x.den:Int)*y.num).natAbs).length<=3000 by rw [Int.mul_comm];exact zeG Hy.out Hx.out)
 have HZ:=Lib.hid (show val (za ((x.den:Int)*y.num).natAbs)≠0 by
  rw [vL,Int.natAbs_mul]
  exact Nat.mul_ne_zero (by have:=x.den_nz;omega) (fun e => h0 (Rat.num_eq_zero.1 (Int.natAbs_eq_zero.1 e))))
 have H9:=Lib.hid (show ∀ ng ng',decide (x.num*(y.den:Int)<0)=ng->decide ((x.den:Int)*y.num<0)=ng'->rat (ng != ng') (val (za (x.num*(y.den:Int)).natAbs)) (val (za ((x.den:Int)*y.num).natAbs))=q from fun ng ng' e e' => by
  rw [<- e,<- e',vL,vL,div_rat x h0,hq])
 obtain ⟨a0,n0,c0,rfl,H0,hm0⟩:=h.1.open
 obtain ⟨a1,n1,c1,rfl,H1,hm1⟩:=h.2.1.open
 obtain ⟨a2,n2,c2,rfl,H2,hm2⟩:=h'.1.open
 obtain ⟨a3,n3,c3,rfl,H3,hm3⟩:=h'.2.1.open
 clear hq h0
 go_enter Tryz.func120,Tryz.ntmps120
 go_wp2_with fail
 obtain ⟨W0,an⟩:∃ W0,((w.alloc (.cells #[.bool b,.slice a0 n0 c0,.slice a1 n1 c1] 47)).alloc (.cells #[.bool c,.slice a2 n2 c2,.slice a3 n3 c3] 47)).alloc (.cells #[.bool false,.slice none 0 0,.slice none 0 0] 47)=W0:=⟨_,rfl⟩
 have ap:=Lib.hid (show ∀ W',Below W0.heap.size W0 W'->(W'.cell? ⟨w.heap.size,0,none⟩=some (.bool b)/\W'.cell? ⟨w.heap.size,1,none⟩=some (.slice a0 n0 c0)/\W'.cell? ⟨w.heap.size,2,none⟩=some (.slice a1 n1 c1)/\W'.cell? ⟨w.heap.size+1,0,none⟩=some (.bool c)/\W'.cell? ⟨w.heap.size+1,1,none⟩=some (.slice a2 n2 c2)/\W'.cell? ⟨w.heap.size+1,2,none⟩=some (.slice a3 n3 c3)/\W'.cell? ⟨w.heap.size+1+1,0,none⟩=some (.bool false)/\W'.cell? ⟨w.heap.size+1+1,1,none⟩=some (.slice none 0 0)/\W'.cell? ⟨w.heap.size+1+1,2,none⟩=some (.slice none 0 0)) from fun W' hb =>
  by and_intros <;> exact kc hb (by first|assumption|(rw [<- an];simp [go_sem])))
 have cE:=Lib.hid (show ∀ W',Below W0.heap.size W0 W'->(W'.frozen? ⟨w.heap.size,0,none⟩=false/\W'.frozen? ⟨w.heap.size,1,none⟩=false/\W'.frozen? ⟨w.heap.size,2,none⟩=false/\W'.frozen? ⟨w.heap.size+1,0,none⟩=false/\W'.frozen? ⟨w.heap.size+1,1,none⟩=false/\W'.frozen? ⟨w.heap.size+1,2,none⟩=false/\W'.frozen? ⟨w.heap.size+1+1,0,none⟩=false/\W'.frozen? ⟨w.heap.size+1+1,1,none⟩=false/\W'.frozen? ⟨w.heap.size+1+1,2,none⟩=false) from fun W' hb =>
  by and_intros <;> refine (hb.frozen ?_).trans ?_ <;> first|assumption|(rw [<- an];simp [go_sem])|(rw [<- an];simp <;> omega))
 have cF:=Lib.hid (show ∀ W',Below W0.heap.size W0 W'->(w.heap.size<W'.heap.size/\w.heap.size+1<W'.heap.size/\w.heap.size+1+1<W'.heap.size) from fun W' hb =>
  by and_intros <;> refine Nat.lt_of_lt_of_le ?_ hb.size <;> first|assumption|(rw [<- an];simp <;> omega))
 have zb:Below w.heap.size w W0:=by rw [<- an];exact bS (bS (bN _ _) (bN _ _)) (bN _ _)
 rw [an]
 clear an
 have i0:=h.to zb
 have i1:=h'.to zb
 have gb:Below W0.heap.size W0 W0:=Below.refl _ _
 obtain ⟨ae,af,ag,aB,aD,aE,bu,bv,cg⟩:=ap.out _ gb
 obtain ⟨ah,ak,al,aG,aH,aI,bV,bW,cm⟩:=cE.out _ gb
 obtain ⟨z0,z1,z2⟩:=cF.out _ gb
 have hgb:=gb
 go_upto_region 1 with fail
 go_cut [6,7] from 8 (fun s6 s7 wx => zcg W0 (x) s6 wx/\zcg W0 (y) s7 wx)
 case first =>
  go_region_held3 (fun W' => W'.cell? ⟨w.heap.size,0,none⟩=some (.bool b)/\W'.cell? ⟨w.heap.size,1,none⟩=some (.slice a0 n0 c0)/\W'.cell? ⟨w.heap.size,2,none⟩=some (.slice a1 n1 c1)/\W'.cell? ⟨w.heap.size+1,0,none⟩=some (.bool c)/\W'.cell? ⟨w.heap.size+1,1,none⟩=some (.slice a2 n2 c2)/\W'.cell? ⟨w.heap.size+1,2,none⟩=some (.slice a3 n3 c3)/\W'.cell? ⟨w.heap.size+1+1,0,none⟩=some (.bool false)/\W'.cell? ⟨w.heap.size+1+1,1,none⟩=some (.slice none 0 0)/\W'.cell? ⟨w.heap.size+1+1,2,none⟩=some (.slice none 0 0)) (with_reducible first|(exact ap.out _ gb)|((refine ap.out _ ?_);first|((refine Below.drew ?_);first|(exact gb)|((refine bT ?_ ?_ _ _ _);rotate_left;(first|(exact aL)|(exact aP)|(exact aM)|(exact aQ));first|(exact gb)|((refine bT ?_ ?_ _ _ _);rotate_left;(first|(exact aL)|(exact aP)|(exact aM)|(exact aQ));exact gb)|((refine bS ?_ (bN _ _));exact gb))|((refine bS ?_ (bN _ _));first|(exact gb)|((refine bT ?_ ?_ _ _ _);rotate_left;(first|(exact aL)|(exact aP)|(exact aM)|(exact aQ));exact gb)|((refine bS ?_ (bN _ _));exact gb)))|(first|(exact gb)|((refine bT ?_ ?_ _ _ _);rotate_left;(first|(exact aL)|(exact aP)|(exact aM)|(exact aQ));first|(exact gb)|((refine bT ?_ ?_ _ _ _);rotate_left;(first|(exact aL)|(exact aP)|(exact aM)|(exact aQ));first|(exact gb)|((refine bT ?_ ?_ _ _ _);rotate_left;(first|(exact aL)|(exact aP)|(exact aM)|(exact aQ));first|(exact gb)|((refine bT ?_ ?_ _ _ _);rotate_left;(first|(exact aL)|(exact aP)|(exact aM)|(exact aQ));exact gb)|((refine bS ?_ (bN _ _));exact gb))|((refine bS ?_ (bN _ _));first|(exact gb)|((refine bT ?_ ?_ _ _ _);rotate_left;(first|(exact aL)|(exact aP)|(exact aM)|(exact aQ));exact gb)|((refine bS ?_ (bN _ _));exact gb)))|((refine bS ?_ (bN _ _));first|(exact gb)|((refine bT ?_ ?_ _ _ _);rotate_left;(first|(exact aL)|(exact aP)|(exact aM)|(exact aQ));first|(exact gb)|((refine bT ?_ ?_ _ _ _);rotate_left;(first|(exact aL)|(exact aP)|(exact aM)|(exact aQ));exact gb)|((refine bS ?_ (bN _ _));exact gb))|((refine bS ?_ (bN _ _));first|(exact gb)|((refine bT ?_ ?_ _ _ _);rotate_left;(first|(exact aL)|(exact aP)|(exact aM)|(exact aQ));exact gb)|((refine bS ?_ (bN _ _));exact gb))))|((refine bS ?_ (bN _ _));first|(exact gb)|((refine bT ?_ ?_ _ _ _);rotate_left;(first|(exact aL)|(exact aP)|(exact aM)|(exact aQ));first|(exact gb)|((refine bT ?_ ?_ _ _ _);rotate_left;(first|(exact aL)|(exact aP)|(exact aM)|(exact aQ));first|(exact gb)|((refine bT ?_ ?_ _ _ _);rotate_left;(first|(exact aL)|(exact aP)|(exact aM)|(exact aQ));exact gb)|((refine bS ?_ (bN _ _));exact gb))|((refine bS ?_ (bN _ _));first|(exact gb)|((refine bT ?_ ?_ _ _ _);rotate_left;(first|(exact aL)|(exact aP)|(exact aM)|(exact aQ));exact gb)|((refine bS ?_ (bN _ _));exact gb)))|((refine bS ?_ (bN _ _));first|(exact gb)|((refine bT ?_ ?_ _ _ _);rotate_left;(first|(exact aL)|(exact aP)|(exact aM)|(exact aQ));first|(exact gb)|((refine bT ?_ ?_ _ _ _);rotate_left;(first|(exact aL)|(exact aP)|(exact aM)|(exact aQ));exact gb)|((refine bS ?_ (bN _ _));exact gb))|((refine bS ?_ (bN _ _));first|(exact gb)|((refine bT ?_ ?_ _ _ _);rotate_left;(first|(exact aL)|(exact aP)|(exact aM)|(exact aQ));exact gb)|((refine bS ?_ (bN _ _));exact gb))))))) (first
   | (go_at_call 142;(refine zl w1 (by with_reducible first|exact Below.refl _ _|exact bN _ _|exact bS (bN _ _) (bN _ _)) ?_);intro V2 dY ch;have ep:=ch.size;have dH:=gb.size;have g1:=g1.to ch;have gb:=bS gb ch;(try have am:=am.to ch);(try have bl:=bl.to ch);(try have aN:Tri V2 (w1.heap.size) (.bool false) (.slice none 0 0) (.slice none 0 0):=(by rw [dY];with_reducible first|exact zi _ (.bool false) (.slice none 0 0) (.slice none 0 0) _|exact (zi _ (.bool false) (.slice none 0 0) (.slice none 0 0) _).alloc _));have aM:W0.heap.size<=w1.heap.size:=(dH);have bq:w1.heap.size<=w1.heap.size:=(Nat.le_refl _);(try have bY:Tri V2 (w1.heap.size+1) (.bool false) (.slice none 0 0) (.slice none 0 0):=(by rw [dY];first|with_reducible exact zcz _ _ (.bool false) (.slice none 0 0) (.slice none 0 0) _));have aQ:W0.heap.size<=w1.heap.size+1:=(Nat.le_succ_of_le dH);have bs:w1.heap.size<=w1.heap.size+1:=(Nat.le_succ _);(try have a9:=am.lt);(try have bL:=bl.lt);(try have bc:=aN.lt);(try have bM:=bY.lt);(with_reducible refine (zbJ c _ _ ln' ld' _ (i1.to gb) Hy).mono ?_);rintro e w2 ⟨ng2,a2_,n2_,c2_,p2_,m2_,k2_,rfl,g2,aZ⟩;have g1:=g1.to aZ;have gb:=bS gb aZ;have dZ:=aZ.size;(try have am:=am.to aZ);(try have bl:=bl.to aZ);(try have aN:=aN.to aZ);(try have bY:=bY.to aZ);(try have cn:=am.lt);(try have eP:=bl.lt);(try have cq:=aN.lt);(try have eQ:=bY.lt);(try (have bj:=am;obtain ⟨bx,bA,bB,bE,bH,bJ⟩:=bj));(try (have di:=bl;obtain ⟨dR,dS,dT,dU,dV,dW⟩:=di));(try (have cf:=aN;obtain ⟨cH,cI,cK,cL,cM,cN⟩:=cf));(try (have eq:=bY;obtain ⟨eY,eZ,fc,fd,fe,ff⟩:=eq)))
   | (go_at_call 142;(refine zl W0 (by with_reducible first|exact (Below.refl _ _).drew|exact (bN _ _).drew|exact (bS (bN _ _) (bN _ _)).drew) ?_);intro V1 dX cG;have eo:=cG.size;have dG:=gb.size;have gb:=bS gb cG;(try have am:Tri V1 (W0.heap.size) (.bool false) (.slice none 0 0) (.slice none 0 0):=(by rw [dX];with_reducible first|exact (zi _ (.bool false) (.slice none 0 0) (.slice none 0 0) _).drew|exact ((zi _ (.bool false) (.slice none 0 0) (.slice none 0 0) _).alloc _).drew));have aL:W0.heap.size<=W0.heap.size:=(dG);(try have bl:Tri V1 (W0.heap.size+1) (.bool false) (.slice none 0 0) (.slice none 0 0):=(by rw [dX];first|with_reducible exact (zcz _ _ (.bool false) (.slice none 0 0) (.slice none 0 0) _).drew));have aP:W0.heap.size<=W0.heap.size+1:=(Nat.le_succ_of_le dG);(try have bk:=am.lt);(try have bK:=bl.lt);(with_reducible refine (zbJ b _ _ ln ld _ (i0.to gb) Hx).mono ?_);rintro e w1 ⟨ng1,a1_,n1_,c1_,p1_,m1_,k1_,rfl,g1,be⟩;have gb:=bS gb be;have dD:=be.size;(try have am:=am.to be);(try have bl:=bl.to be);(try have bw:=am.lt);(try have cB:=bl.lt);(try (have bj:=am;obtain ⟨bx,bA,bB,bE,bH,bJ⟩:=bj));(try (have di:=bl;obtain ⟨dR,dS,dT,dU,dV,dW⟩:=di))))
  all_goals (go_wp2_with fail;go_meet)
  all_goals first
   | (with_reducible exact zn am bl (Nat.ne_of_lt (Nat.lt_succ_self _)) g1 g2 (.inl bk) (.inl bK) (.inl a9) (.inl bL) gb aL aP)
   | (with_reducible exact zn am aN (Nat.ne_of_lt bw) g1 g2 (.inl bk) (.inr bq) (.inl a9) (.inl bc) gb aL aM)
   | (with_reducible exact zn am bY (Nat.ne_of_lt (Nat.lt_succ_of_lt bw)) g1 g2 (.inl bk) (.inr bs) (.inl a9) (.inl bM) gb aL aQ)
   | (with_reducible exact zn bl am ((Nat.ne_of_lt (Nat.lt_succ_self _)).symm) g1 g2 (.inl bK) (.inl bk) (.inl bL) (.inl a9) gb aP aL)
   | (with_reducible exact zn bl aN (Nat.ne_of_lt cB) g1 g2 (.inl bK) (.inr bq) (.inl bL) (.inl bc) gb aP aM)
   | (with_reducible exact zn bl bY (Nat.ne_of_lt (Nat.lt_succ_of_lt cB)) g1 g2 (.inl bK) (.inr bs) (.inl bL) (.inl bM) gb aP aQ)
   | (with_reducible exact zn aN am ((Nat.ne_of_lt bw).symm) g1 g2 (.inr bq) (.inl bk) (.inl bc) (.inl a9) gb aM aL)
   | (with_reducible exact zn aN bl ((Nat.ne_of_lt cB).symm) g1 g2 (.inr bq) (.inl bK) (.inl bc) (.inl bL) gb aM aP)
   | (with_reducible exact zn aN bY (Nat.ne_of_lt (Nat.lt_succ_self _)) g1 g2 (.inr bq) (.inr bs) (.inl bc) (.inl bM) gb aM aQ)
   | (with_reducible exact zn bY am ((Nat.ne_of_lt (Nat.lt_succ_of_lt bw)).symm) g1 g2 (.inr bs) (.inl bk) (.inl bM) (.inl a9) gb aQ aL)
   | (with_reducible exact zn bY bl ((Nat.ne_of_lt (Nat.lt_succ_of_lt cB)).symm) g1 g2 (.inr bs) (.inl bK) (.inl bM) (.inl bL) gb aQ aP)
   | (with_reducible exact zn bY aN ((Nat.ne_of_lt (Nat.lt_succ_self _)).symm) g1 g2 (.inr bs) (.inr bq) (.inl bM) (.inl bc) gb aQ aM)
   | (with_reducible exact zw am g1 g2 (.inl bk) (.inl a9) gb aL)
   | (with_reducible exact (zw am g2 g1 (.inl a9) (.inl bk) gb aL).symm)
   | (with_reducible exact zw bl g1 g2 (.inl bK) (.inl bL) gb aP)
   | (with_reducible exact (zw bl g2 g1 (.inl bL) (.inl bK) gb aP).symm)
   | (with_reducible exact zw aN g1 g2 (.inr bq) (.inl bc) gb aM)
   | (with_reducible exact (zw aN g2 g1 (.inl bc) (.inr bq) gb aM).symm)
   | (with_reducible exact zw bY g1 g2 (.inr bs) (.inl bM) gb aQ)
   | (with_reducible exact (zw bY g2 g1 (.inl bM) (.inr bs) gb aQ).symm)
   | (with_reducible exact zcl g1 g2 gb)
   | (with_reducible exact (zcl g2 g1 gb).symm)
 case rest =>
 obtain ⟨⟨B5,ng1,a1_,n1_,c1_,p1_,m1_,k1_,lo5,hi5,rfl,hB5,T5,g1,hc5⟩,⟨B6,ng2,a2_,n2_,c2_,p2_,m2_,k2_,lo6,hi6,rfl,hB6,T6,g2,hc6⟩⟩:=hcut
 clear ae ah af ak ag al aB aG aD aH aE aI bu bV bv bW cg cm
 have gb:=hc5
 obtain ⟨ae,af,ag,aB,aD,aE,bu,bv,cg⟩:=ap.out _ gb
 obtain ⟨ah,ak,al,aG,aH,aI,bV,bW,cm⟩:=cE.out _ gb
 obtain ⟨z0,z1,z2⟩:=cF.out _ gb
 have z5:=T5.lt
 obtain ⟨bO,bP,bQ,bZ,b7,ce⟩:=T5
 have z6:=T6.lt
 obtain ⟨cO,cQ,cR,cV,cW,cX⟩:=T6
 clear hgb
 obtain ⟨W1,aO⟩:∃ W,wc=W:=⟨_,rfl⟩
 subst aO
 replace i0:=i0.to gb
 replace i1:=i1.to gb
 replace zb:=bS zb gb
 have HXwc:=Lib.hid (show ∀ W',Below wc.heap.size wc W'->(Bx3 W' w.heap.size (.bool b) (.slice a0 n0 c0) (.slice a1 n1 c1)/\Bx3 W' (w.heap.size+1) (.bool c) (.slice a2 n2 c2) (.slice a3 n3 c3)/\Bx3 W' (w.heap.size+1+1) (.bool false) (.slice none 0 0) (.slice none 0 0)/\Bx3 W' B5 (.bool ng1) (.slice a1_ n1_ c1_) (.slice p1_ m1_ k1_)/\Bx3 W' B6 (.bool ng2) (.slice a2_ n2_ c2_) (.slice p2_ m2_ k2_)) from fun W' hb => by
   refine ⟨bx3 hb ?_ ?_ ?_ ?_ ?_ ?_,bx3 hb ?_ ?_ ?_ ?_ ?_ ?_,bx3 hb ?_ ?_ ?_ ?_ ?_ ?_,bx3 hb ?_ ?_ ?_ ?_ ?_ ?_,bx3 hb ?_ ?_ ?_ ?_ ?_ ?_⟩
   all_goals first|assumption|assumption)
 replace gb:=Below.refl wc.heap.size wc
 go_wp2_with fail
 have nz0:w.heap.size≠w.heap.size+1+1:=by omega
 have nz1:w.heap.size+1≠w.heap.size+1+1:=by omega
 have nz5:B5≠w.heap.size+1+1:=by omega
 have nz6:B6≠w.heap.size+1+1:=by omega
 go_region_held3 (fun W' => W'.cell? ⟨w.heap.size,0,none⟩=some (.bool b)/\W'.cell? ⟨w.heap.size,1,none⟩=some (.slice a0 n0 c0)/\W'.cell? ⟨w.heap.size,2,none⟩=some (.slice a1 n1 c1)/\W'.cell? ⟨w.heap.size+1,0,none⟩=some (.bool c)/\W'.cell? ⟨w.heap.size+1,1,none⟩=some (.slice a2 n2 c2)/\W'.cell? ⟨w.heap.size+1,2,none⟩=some (.slice a3 n3 c3)/\W'.cell? ⟨B5,0,none⟩=some (.bool ng1)/\W'.cell? ⟨B5,1,none⟩=some (.slice a1_ n1_ c1_)/\W'.cell? ⟨B5,2,none⟩=some (.slice p1_ m1_ k1_)/\W'.cell? ⟨B6,0,none⟩=some (.bool ng2)/\W'.cell? ⟨B6,1,none⟩=some (.slice a2_ n2_ c2_)/\W'.cell? ⟨B6,2,none⟩=some (.slice p2_ m2_ k2_)) (first|(with_reducible exact ⟨ae,af,ag,aB,aD,aE,bO,bP,bQ,cO,cQ,cR⟩)|(with_reducible exact ⟨cP (cP (cP (ae) (.inl nz0) _) (.inl nz0) _) (.inl nz0) _,cP (cP (cP (af) (.inl nz0) _) (.inl nz0) _) (.inl nz0) _,cP (cP (cP (ag) (.inl nz0) _) (.inl nz0) _) (.inl nz0) _,cP (cP (cP (aB) (.inl nz1) _) (.inl nz1) _) (.inl nz1) _,cP (cP (cP (aD) (.inl nz1) _) (.inl nz1) _) (.inl nz1) _,cP (cP (cP (aE) (.inl nz1) _) (.inl nz1) _) (.inl nz1) _,cP (cP (cP (bO) (.inl nz5) _) (.inl nz5) _) (.inl nz5) _,cP (cP (cP (bP) (.inl nz5) _) (.inl nz5) _) (.inl nz5) _,cP (cP (cP (bQ) (.inl nz5) _) (.inl nz5) _) (.inl nz5) _,cP (cP (cP (cO) (.inl nz6) _) (.inl nz6) _) (.inl nz6) _,cP (cP (cP (cQ) (.inl nz6) _) (.inl nz6) _) (.inl nz6) _,cP (cP (cP (cR) (.inl nz6) _) (.inl nz6) _) (.inl nz6) _⟩)|exact ⟨ae,af,ag,aB,aD,aE,bO,bP,bQ,cO,cQ,cR⟩) (first
  | (go_at_call 148;(with_reducible refine (zkK ng13 ng16 _ _ _ _ _ g13.isI.up g16.isI.up S5.out S6.out HZ.out q (H9.out ng13 ng16 g13.ng g16.ng) hs).mono ?_);rintro e w17 ⟨ng17,a17_,n17_,c17_,p17_,m17_,k17_,rfl,g17,dC⟩;have g13:=g13.to dC;have g16:=g16.to dC;have gb:=bS gb dC;obtain ⟨⟨z0,ae,af,ag,ah,ak,al⟩,⟨z1,aB,aD,aE,aG,aH,aI⟩,⟨z2,bu,bv,cg,bV,bW,cm⟩,⟨z5,bO,bP,bQ,bZ,b7,ce⟩,⟨z6,cO,cQ,cR,cV,cW,cX⟩⟩:=HXwc.out _ gb)
  | (go_at_call 144;(with_reducible refine (zhH _ (g1.to gb).below (g2.to gb).above ((x.den:Int)*y.num) rfl S2).mono ?_);rintro e w16 ⟨ng16,a16_,n16_,c16_,rfl,g16,en⟩;have g13:=g13.to en;have gb:=bS gb en;obtain ⟨⟨z0,ae,af,ag,ah,ak,al⟩,⟨z1,aB,aD,aE,aG,aH,aI⟩,⟨z2,bu,bv,cg,bV,bW,cm⟩,⟨z5,bO,bP,bQ,bZ,b7,ce⟩,⟨z6,cO,cQ,cR,cV,cW,cX⟩⟩:=HXwc.out _ gb)
  | (go_at_call 145;(with_reducible refine (zbD _ _ _ _ _ _ (g2.to gb).isQ).mono ?_);rintro e w15 ⟨rfl,dP⟩;have g13:=g13.to dP;have gb:=bS gb dP;obtain ⟨⟨z0,ae,af,ag,ah,ak,al⟩,⟨z1,aB,aD,aE,aG,aH,aI⟩,⟨z2,bu,bv,cg,bV,bW,cm⟩,⟨z5,bO,bP,bQ,bZ,b7,ce⟩,⟨z6,cO,cQ,cR,cV,cW,cX⟩⟩:=HXwc.out _ gb)
  | (go_at_call 146;(with_reducible refine (zbE _ _ _ _ _ _ (g1.to gb).isQ).mono ?_);rintro e w14 ⟨rfl,er⟩;have g13:=g13.to er;have gb:=bS gb er;obtain ⟨⟨z0,ae,af,ag,ah,ak,al⟩,⟨z1,aB,aD,aE,aG,aH,aI⟩,⟨z2,bu,bv,cg,bV,bW,cm⟩,⟨z5,bO,bP,bQ,bZ,b7,ce⟩,⟨z6,cO,cQ,cR,cV,cW,cX⟩⟩:=HXwc.out _ gb)
  | (go_at_call 144;(with_reducible refine (zhH _ (g1.to gb).above (g2.to gb).below (x.num*(y.den:Int)) rfl S1).mono ?_);rintro e w13 ⟨ng13,a13_,n13_,c13_,rfl,g13,eb⟩;have gb:=bS gb eb;obtain ⟨⟨z0,ae,af,ag,ah,ak,al⟩,⟨z1,aB,aD,aE,aG,aH,aI⟩,⟨z2,bu,bv,cg,bV,bW,cm⟩,⟨z5,bO,bP,bQ,bZ,b7,ce⟩,⟨z6,cO,cQ,cR,cV,cW,cX⟩⟩:=HXwc.out _ gb)
  | (go_at_call 146;(with_reducible refine (zbE _ _ _ _ _ _ (g2.to gb).isQ).mono ?_);rintro e w12 ⟨rfl,dl⟩;have gb:=bS gb dl;obtain ⟨⟨z0,ae,af,ag,ah,ak,al⟩,⟨z1,aB,aD,aE,aG,aH,aI⟩,⟨z2,bu,bv,cg,bV,bW,cm⟩,⟨z5,bO,bP,bQ,bZ,b7,ce⟩,⟨z6,cO,cQ,cR,cV,cW,cX⟩⟩:=HXwc.out _ gb)
  | (go_at_call 145;have gb:=gb.drew;(with_reducible refine (zbD _ _ _ _ _ _ (g1.to gb).isQ).mono ?_);rintro e w11 ⟨rfl,fp⟩;have gb:=bS gb fp;obtain ⟨⟨z0,ae,af,ag,ah,ak,al⟩,⟨z1,aB,aD,aE,aG,aH,aI⟩,⟨z2,bu,bv,cg,bV,bW,cm⟩,⟨z5,bO,bP,bQ,bZ,b7,ce⟩,⟨z6,cO,cQ,cR,cV,cW,cX⟩⟩:=HXwc.out _ gb))
 go_wp2_with fail
 refine bodyPost_ret (zt Tryz.results120 _ _ _ _ _ _ rfl (Tri.set (x0:=.bool false) (y0:=.slice none 0 0) (z0:=.slice none 0 0) ⟨bu,bv,cg,bV,bW,cm⟩ _ _ _)) rfl (zcf (bS zb gb) (by omega) ?_ g17)
 omega

end Go.Proofs.YtkjcdnlpjldhaaaGreat

