/-
  The texts Rat2, Rat3, Rat4, Ref8, Ref8b, Rat6, merged.
-/
import Derived.Test.YtkjcdnlpjldhaaaGreatK13
import Derived.Test.YtkjcdnlpjldhaaaGreatK15
import Derived.Deep.RegionHeld3
import Derived.Deep.Cut
import Derived.Deep.DrawnRows
import Derived.Laws.EntriesVeiled
import Derived.Test.YtkjcdnlpjldhaaaGreatK10
import Derived.Test.YtkjcdnlpjldhaaaGreatK08
set_option linter.unusedVariables false
set_option linter.unusedSimpArgs false
set_option maxRecDepth 100000
set_option maxHeartbeats 400000000
namespace Go.Proofs.YtkjcdnlpjldhaaaGreat
open Go.RowKit Tw
attribute [local go_sem ↓] Go.wp_at_zero Go.wp_at_succ

theorem zaG {w:World} {b:Bool} {v u:Value} {ln ld:List Nat} {x:Rat} (h:IsQ w b v u ln ld x):Hid (szq x<=1000):=by
 show _<=_
 rw [<- h.2.2.1]
 refine Nat.le_trans (zgH _ _ _) ?_
 have h1:=zu h.1.1
 have h2:=zu h.2.1.1
 have h3:=h.2.2.2.1
 have h4:=h.2.2.2.2
 omega

theorem zcP {x y:Rat} (hx:szq x<=1000) (hy:szq y<=1000):szi (x.num*(y.den:Int))<=90000:=by
 have h1:=zcw x.num (y.den:Int)
 have h2:=zaE x
 have h3:=zam y
 unfold szi at *
 rw [Int.natAbs_natCast] at h1
 omega

theorem sum_sz {x y:Rat} (hx:szq x<=1000) (hy:szq y<=1000):szi (x.num*(y.den:Int)+y.num*(x.den:Int))<=2001:=by
 have h0:=zjn (x.num*(y.den:Int)) (y.num*(x.den:Int))
 have h1:=zcw x.num (y.den:Int)
 have h1':=zcw y.num (x.den:Int)
 have h2:=zaE x
 have h3:=zam y
 have h2':=zaE y
 have h3':=zam x
 unfold szi at *
 rw [Int.natAbs_natCast] at h1 h1'
 omega

theorem den_sz {x y:Rat} (hx:szq x<=1000) (hy:szq y<=1000):(za (val (za x.den)*val (za y.den))).length<=3000:=by
 rw [zc,vL,vL]
 have h1:=zaC x.den y.den
 have h2:=zam x
 have h3:=zam y
 omega

theorem zbk {x:Rat} (b:Bool) (v u:Value) (ln ld:List Nat) (w:World) (h:IsQ w b v u ln ld x) (hs:Hid (szq x<=1000)) :
  Calls Tryz.prog 142 #[aggR b v u] w (zan w x):=by
 obtain ⟨a0,n0,c0,rfl,H0,hm0⟩:=h.1.open
 obtain ⟨a1,n1,c1,rfl,H1,hm1⟩:=h.2.1.open
 go_enter Tryz.func142,Tryz.ntmps142
 go_wp2_with fail
 obtain ⟨W0,ap⟩:∃ W0,(w.alloc (.cells #[.bool b,.slice a0 n0 c0,.slice a1 n1 c1] 47)).alloc (.cells #[.bool false,.slice none 0 0,.slice none 0 0] 166)=W0:=⟨_,rfl⟩
 have aq:=Lib.hid (show ∀ W',Below W0.heap.size W0 W'->(Bx3 W' w.heap.size (.bool b) (.slice a0 n0 c0) (.slice a1 n1 c1)/\Bx3 W' (w.heap.size+1) (.bool false) (.slice none 0 0) (.slice none 0 0)) from fun W' hb => by
   refine ⟨bx3 hb ?_ ?_ ?_ ?_ ?_ ?_,bx3 hb ?_ ?_ ?_ ?_ ?_ ?_⟩
   all_goals first|assumption|(rw [<- ap];simp [go_sem]))
 have zb:Below w.heap.size w W0:=by rw [<- ap];exact bS (bN _ _) (bN _ _)
 rw [ap]
 clear ap
 have i0:=h.to zb
 have gb:Below W0.heap.size W0 W0:=Below.refl _ _
 obtain ⟨⟨z0,ae,af,ah,ai,ak,al⟩,⟨z1,am,an,aw,aB,aC,aD⟩⟩:=aq.out _ gb
 refine (zcS b _ _ ln ld _ (i0.to gb) x rfl hs).mono ?_
 clear ae ai af ak ah al am aB an aC aw aD
 rintro e w1 ⟨ng1,a1_,n1_,c1_,p1_,m1_,k1_,rfl,g1,aS⟩
 replace gb:=bS gb aS
 obtain ⟨⟨z0,ae,af,ah,ai,ak,al⟩,⟨z1,am,an,aw,aB,aC,aD⟩⟩:=aq.out _ gb
 go_wp2_with fail
 refine bodyPost_ret (zkg Tryz.results142 _ _ _ _ _ _ rfl (Tri.set (x0:=.bool false) (y0:=.slice none 0 0) (z0:=.slice none 0 0) ⟨am,an,aw,aB,aC,aD⟩ _ _ _)) rfl (zdH (bS zb gb) (by omega) ?_ g1)
 omega

theorem zjX {x y:Rat} (b:Bool) (v u:Value) (ln ld:List Nat) (c:Bool) (v' u':Value) (ln' ld':List Nat) (w:World) (h:IsQ w b v u ln ld x) (h':IsQ w c v' u' ln' ld' y) (q:Rat) (hq:x*y=q) (hs:Hid (szq q<=1000)) :
  Calls Tryz.prog 119 #[aggR b v u,aggR c v' u'] w (zan w q):=by
 have K1:=Lib.hid (show (za (val ln*val ln')).length<=3000 by
  rw [zc];have:=zaC (val ln) (val ln');have:=zu h.1.1;have:=zu h'.1.1;have:=h.2.2.2.1;have:=h'.2.2.2.1;omega)
 have K2:=Lib.hid (show (za (val ld*val ld')).length<=3000 by
  rw [zc];have:=zaC (val ld) (val ld');have:=zu h.2.1.1;have:=zu h'.2.1.1;have:=h.2.2.2.2;have:=h'.2.2.2.2;omega)
 have H9:=Lib.hid (show rat (!b == c) (val (za (val ln*val ln'))) (val (za (val ld*val ld')))=q by show rat (b != c) _ _=q;rw [vL,vL,<- zeC,h.2.2.1,h'.2.2.1,hq])
 obtain ⟨a0,n0,c0,rfl,H0,hm0⟩:=h.1.open
 obtain ⟨a1,n1,c1,rfl,H1,hm1⟩:=h.2.1.open
 obtain ⟨a2,n2,c2,rfl,H2,hm2⟩:=h'.1.open
 obtain ⟨a3,n3,c3,rfl,H3,hm3⟩:=h'.2.1.open
 clear hq
 go_enter Tryz.func119,Tryz.ntmps119
 go_wp2_with fail
 obtain ⟨W0,ap⟩:∃ W0,((w.alloc (.cells #[.bool b,.slice a0 n0 c0,.slice a1 n1 c1] 47)).alloc (.cells #[.bool c,.slice a2 n2 c2,.slice a3 n3 c3] 47)).alloc (.cells #[.bool false,.slice none 0 0,.slice none 0 0] 47)=W0:=⟨_,rfl⟩
 have aq:=Lib.hid (show ∀ W',Below W0.heap.size W0 W'->(Bx3 W' w.heap.size (.bool b) (.slice a0 n0 c0) (.slice a1 n1 c1)/\Bx3 W' (w.heap.size+1) (.bool c) (.slice a2 n2 c2) (.slice a3 n3 c3)/\Bx3 W' (w.heap.size+1+1) (.bool false) (.slice none 0 0) (.slice none 0 0)) from fun W' hb => by
   refine ⟨bx3 hb ?_ ?_ ?_ ?_ ?_ ?_,bx3 hb ?_ ?_ ?_ ?_ ?_ ?_,bx3 hb ?_ ?_ ?_ ?_ ?_ ?_⟩
   all_goals first|assumption|(rw [<- ap];simp [go_sem]))
 have zb:Below w.heap.size w W0:=by rw [<- ap];exact bS (bS (bN _ _) (bN _ _)) (bN _ _)
 rw [ap]
 clear ap
 have i0:=h.to zb
 have i1:=h'.to zb
 have gb:Below W0.heap.size W0 W0:=Below.refl _ _
 obtain ⟨⟨z0,ae,af,ah,ai,ak,al⟩,⟨z1,am,an,aw,aB,aC,aD⟩,⟨z2,bl,bm,bU,bH,bJ,bZ⟩⟩:=aq.out _ gb
 have nz0:w.heap.size≠w.heap.size+1+1:=by omega
 have nz1:w.heap.size+1≠w.heap.size+1+1:=by omega
 go_region_held3 (fun W' => W'.cell? ⟨w.heap.size,0,none⟩=some (.bool b)/\W'.cell? ⟨w.heap.size,1,none⟩=some (.slice a0 n0 c0)/\W'.cell? ⟨w.heap.size,2,none⟩=some (.slice a1 n1 c1)/\W'.cell? ⟨w.heap.size+1,0,none⟩=some (.bool c)/\W'.cell? ⟨w.heap.size+1,1,none⟩=some (.slice a2 n2 c2)/\W'.cell? ⟨w.heap.size+1,2,none⟩=some (.slice a3 n3 c3)) (first|(with_reducible exact ⟨ae,af,ah,am,an,aw⟩)|(with_reducible exact ⟨cP (cP (cP (ae) (.inl nz0) _) (.inl nz0) _) (.inl nz0) _,cP (cP (cP (af) (.inl nz0) _) (.inl nz0) _) (.inl nz0) _,cP (cP (cP (ah) (.inl nz0) _) (.inl nz0) _) (.inl nz0) _,cP (cP (cP (am) (.inl nz1) _) (.inl nz1) _) (.inl nz1) _,cP (cP (cP (an) (.inl nz1) _) (.inl nz1) _) (.inl nz1) _,cP (cP (cP (aw) (.inl nz1) _) (.inl nz1) _) (.inl nz1) _⟩)|exact ⟨ae,af,ah,am,an,aw⟩) (first
  | (go_at_call 62;(with_reducible refine (zM (!b == c) _ _ _ _ _ g1.rd g2.rd K1.out K2.out q H9.out hs).mono ?_);rintro e w3 ⟨ng3,a3_,n3_,c3_,p3_,m3_,k3_,rfl,g3,bY⟩;have g1:=g1.to bY;have g2:=g2.to bY;have gb:=bS gb bY;obtain ⟨⟨z0,ae,af,ah,ai,ak,al⟩,⟨z1,am,an,aw,aB,aC,aD⟩,⟨z2,bl,bm,bU,bH,bJ,bZ⟩⟩:=aq.out _ gb)
  | (go_at_call 147;(with_reducible refine (zbL _ _ ld ld' _ (i0.to gb).dn (i1.to gb).dn (Nat.le_trans h.ldn (by omega)) (Nat.le_trans h'.ldn (by omega))).mono ?_);rintro e w2 ⟨v2,rfl,g2,aM⟩;obtain ⟨a2_,n2_,c2_,rfl,H2,hm2⟩:=g2.rd.open;have g1:=g1.to aM;have gb:=bS gb aM;obtain ⟨⟨z0,ae,af,ah,ai,ak,al⟩,⟨z1,am,an,aw,aB,aC,aD⟩,⟨z2,bl,bm,bU,bH,bJ,bZ⟩⟩:=aq.out _ gb)
  | (go_at_call 147;have gb:=gb.drew;(with_reducible refine (zbL _ _ ln ln' _ (i0.to gb).up (i1.to gb).up (Nat.le_trans h.lup (by omega)) (Nat.le_trans h'.lup (by omega))).mono ?_);rintro e w1 ⟨v1,rfl,g1,aS⟩;obtain ⟨a1_,n1_,c1_,rfl,H1,hm1⟩:=g1.rd.open;have gb:=bS gb aS;obtain ⟨⟨z0,ae,af,ah,ai,ak,al⟩,⟨z1,am,an,aw,aB,aC,aD⟩,⟨z2,bl,bm,bU,bH,bJ,bZ⟩⟩:=aq.out _ gb))
 go_wp2_with fail
 refine bodyPost_ret (zZ Tryz.results119 _ _ _ _ _ _ rfl (Tri.set (x0:=.bool false) (y0:=.slice none 0 0) (z0:=.slice none 0 0) ⟨bl,bm,bU,bH,bJ,bZ⟩ _ _ _)) rfl (zdH (bS zb gb) (by omega) ?_ g3)
 omega

end Go.Proofs.YtkjcdnlpjldhaaaGreat


namespace Go.Proofs.YtkjcdnlpjldhaaaGreat
open Go.RowKit Tw
attribute [local go_sem ↓] Go.wp_at_zero Go.wp_at_succ

theorem zfL {x y:Rat} (b:Bool) (v u:Value) (ln ld:List Nat) (c:Bool) (v' u':Value) (ln' ld':List Nat) (w:World) (h:IsQ w b v u ln ld x) (h':IsQ w c v' u' ln' ld' y) (q:Rat) (hq:x+y=q) (hs:Hid (szq q<=1000)) :
  Calls Tryz.prog 117 #[aggR b v u,aggR c v' u'] w (zan w q):=by
 have Hx:Hid (szq x<=1000):=zaG h
 have Hy:Hid (szq y<=1000):=zaG h'
 have S1:=Lib.hid (show szi (x.num*(y.den:Int))<=90000 from zcP Hx.out Hy.out)
 have S2:=Lib.hid (show szi (y.num*(x.den:Int))<=90000 from zcP Hy.out Hx.out)
 have S3:=Lib.hid (show szi (x.num*(y.den:Int)+y.num*(x.den:Int))<=2001 from sum_sz Hx.out Hy.out)
 have S4:=Lib.hid (show szi (x.num*(y.den:Int)+y.num*(x.den:Int))<=90000 from Nat.le_trans S3.out (by omega))
 have K2:=Lib.hid (show (za (val (za x.den)*val (za y.den))).length<=3000 from den_sz Hx.out Hy.out)
 have H9:=Lib.hid (show ∀ ng,decide (x.num*(y.den:Int)+y.num*(x.den:Int)<0)=ng->rat ng (val (za (x.num*(y.den:Int)+y.num*(x.den:Int)).natAbs)) (val (za (val (za x.den)*val (za y.den))))=q from fun ng e => by
  rw [<- e,vL,vL,vL,vL,<- zdK,<- Rat.add_def',hq])
 obtain ⟨a0,n0,c0,rfl,H0,hm0⟩:=h.1.open
 obtain ⟨a1,n1,c1,rfl,H1,hm1⟩:=h.2.1.open
 obtain ⟨a2,n2,c2,rfl,H2,hm2⟩:=h'.1.open
 obtain ⟨a3,n3,c3,rfl,H3,hm3⟩:=h'.2.1.open
 clear hq
 go_enter Tryz.func117,Tryz.ntmps117
 go_wp2_with fail
 obtain ⟨W0,ap⟩:∃ W0,((w.alloc (.cells #[.bool b,.slice a0 n0 c0,.slice a1 n1 c1] 47)).alloc (.cells #[.bool c,.slice a2 n2 c2,.slice a3 n3 c3] 47)).alloc (.cells #[.bool false,.slice none 0 0,.slice none 0 0] 47)=W0:=⟨_,rfl⟩
 have aq:=Lib.hid (show ∀ W',Below W0.heap.size W0 W'->(W'.cell? ⟨w.heap.size,0,none⟩=some (.bool b)/\W'.cell? ⟨w.heap.size,1,none⟩=some (.slice a0 n0 c0)/\W'.cell? ⟨w.heap.size,2,none⟩=some (.slice a1 n1 c1)/\W'.cell? ⟨w.heap.size+1,0,none⟩=some (.bool c)/\W'.cell? ⟨w.heap.size+1,1,none⟩=some (.slice a2 n2 c2)/\W'.cell? ⟨w.heap.size+1,2,none⟩=some (.slice a3 n3 c3)/\W'.cell? ⟨w.heap.size+1+1,0,none⟩=some (.bool false)/\W'.cell? ⟨w.heap.size+1+1,1,none⟩=some (.slice none 0 0)/\W'.cell? ⟨w.heap.size+1+1,2,none⟩=some (.slice none 0 0)) from fun W' hb =>
  by and_intros <;> exact kc hb (by first|assumption|(rw [<- ap];simp [go_sem])))
 have cf:=Lib.hid (show ∀ W',Below W0.heap.size W0 W'->(W'.frozen? ⟨w.heap.size,0,none⟩=false/\W'.frozen? ⟨w.heap.size,1,none⟩=false/\W'.frozen? ⟨w.heap.size,2,none⟩=false/\W'.frozen? ⟨w.heap.size+1,0,none⟩=false/\W'.frozen? ⟨w.heap.size+1,1,none⟩=false/\W'.frozen? ⟨w.heap.size+1,2,none⟩=false/\W'.frozen? ⟨w.heap.size+1+1,0,none⟩=false/\W'.frozen? ⟨w.heap.size+1+1,1,none⟩=false/\W'.frozen? ⟨w.heap.size+1+1,2,none⟩=false) from fun W' hb =>
  by and_intros <;> refine (hb.frozen ?_).trans ?_ <;> first|assumption|(rw [<- ap];simp [go_sem])|(rw [<- ap];simp <;> omega))
 have cg:=Lib.hid (show ∀ W',Below W0.heap.size W0 W'->(w.heap.size<W'.heap.size/\w.heap.size+1<W'.heap.size/\w.heap.size+1+1<W'.heap.size) from fun W' hb =>
  by and_intros <;> refine Nat.lt_of_lt_of_le ?_ hb.size <;> first|assumption|(rw [<- ap];simp <;> omega))
 have zb:Below w.heap.size w W0:=by rw [<- ap];exact bS (bS (bN _ _) (bN _ _)) (bN _ _)
 rw [ap]
 clear ap
 have i0:=h.to zb
 have i1:=h'.to zb
 have gb:Below W0.heap.size W0 W0:=Below.refl _ _
 obtain ⟨ae,af,ah,am,an,aw,bl,bm,bU⟩:=aq.out _ gb
 obtain ⟨ai,ak,al,aB,aC,aD,bH,bJ,bZ⟩:=cf.out _ gb
 obtain ⟨z0,z1,z2⟩:=cg.out _ gb
 have hgb:=gb
 go_upto_region 1 with fail
 go_cut [5,6] from 8 (fun s5 s6 wx => zbC W0 (x) s5 wx/\zbC W0 (y) s6 wx)
 case first =>
  go_region_held3 (fun W' => W'.cell? ⟨w.heap.size,0,none⟩=some (.bool b)/\W'.cell? ⟨w.heap.size,1,none⟩=some (.slice a0 n0 c0)/\W'.cell? ⟨w.heap.size,2,none⟩=some (.slice a1 n1 c1)/\W'.cell? ⟨w.heap.size+1,0,none⟩=some (.bool c)/\W'.cell? ⟨w.heap.size+1,1,none⟩=some (.slice a2 n2 c2)/\W'.cell? ⟨w.heap.size+1,2,none⟩=some (.slice a3 n3 c3)/\W'.cell? ⟨w.heap.size+1+1,0,none⟩=some (.bool false)/\W'.cell? ⟨w.heap.size+1+1,1,none⟩=some (.slice none 0 0)/\W'.cell? ⟨w.heap.size+1+1,2,none⟩=some (.slice none 0 0)) (with_reducible first|(exact aq.out _ gb)|((refine aq.out _ ?_);first|((refine Below.drew ?_);first|(exact gb)|((refine bT ?_ ?_ _ _ _);rotate_left;(first|(exact aG)|(exact aK)|(exact aH)|(exact aL));first|(exact gb)|((refine bT ?_ ?_ _ _ _);rotate_left;(first|(exact aG)|(exact aK)|(exact aH)|(exact aL));exact gb)|((refine bS ?_ (bN _ _));exact gb))|((refine bS ?_ (bN _ _));first|(exact gb)|((refine bT ?_ ?_ _ _ _);rotate_left;(first|(exact aG)|(exact aK)|(exact aH)|(exact aL));exact gb)|((refine bS ?_ (bN _ _));exact gb)))|(first|(exact gb)|((refine bT ?_ ?_ _ _ _);rotate_left;(first|(exact aG)|(exact aK)|(exact aH)|(exact aL));first|(exact gb)|((refine bT ?_ ?_ _ _ _);rotate_left;(first|(exact aG)|(exact aK)|(exact aH)|(exact aL));first|(exact gb)|((refine bT ?_ ?_ _ _ _);rotate_left;(first|(exact aG)|(exact aK)|(exact aH)|(exact aL));first|(exact gb)|((refine bT ?_ ?_ _ _ _);rotate_left;(first|(exact aG)|(exact aK)|(exact aH)|(exact aL));exact gb)|((refine bS ?_ (bN _ _));exact gb))|((refine bS ?_ (bN _ _));first|(exact gb)|((refine bT ?_ ?_ _ _ _);rotate_left;(first|(exact aG)|(exact aK)|(exact aH)|(exact aL));exact gb)|((refine bS ?_ (bN _ _));exact gb)))|((refine bS ?_ (bN _ _));first|(exact gb)|((refine bT ?_ ?_ _ _ _);rotate_left;(first|(exact aG)|(exact aK)|(exact aH)|(exact aL));first|(exact gb)|((refine bT ?_ ?_ _ _ _);rotate_left;(first|(exact aG)|(exact aK)|(exact aH)|(exact aL));exact gb)|((refine bS ?_ (bN _ _));exact gb))|((refine bS ?_ (bN _ _));first|(exact gb)|((refine bT ?_ ?_ _ _ _);rotate_left;(first|(exact aG)|(exact aK)|(exact aH)|(exact aL));exact gb)|((refine bS ?_ (bN _ _));exact gb))))|((refine bS ?_ (bN _ _));first|(exact gb)|((refine bT ?_ ?_ _ _ _);rotate_left;(first|(exact aG)|(exact aK)|(exact aH)|(exact aL));first|(exact gb)|((refine bT ?_ ?_ _ _ _);rotate_left;(first|(exact aG)|(exact aK)|(exact aH)|(exact aL));first|(exact gb)|((refine bT ?_ ?_ _ _ _);rotate_left;(first|(exact aG)|(exact aK)|(exact aH)|(exact aL));exact gb)|((refine bS ?_ (bN _ _));exact gb))|((refine bS ?_ (bN _ _));first|(exact gb)|((refine bT ?_ ?_ _ _ _);rotate_left;(first|(exact aG)|(exact aK)|(exact aH)|(exact aL));exact gb)|((refine bS ?_ (bN _ _));exact gb)))|((refine bS ?_ (bN _ _));first|(exact gb)|((refine bT ?_ ?_ _ _ _);rotate_left;(first|(exact aG)|(exact aK)|(exact aH)|(exact aL));first|(exact gb)|((refine bT ?_ ?_ _ _ _);rotate_left;(first|(exact aG)|(exact aK)|(exact aH)|(exact aL));exact gb)|((refine bS ?_ (bN _ _));exact gb))|((refine bS ?_ (bN _ _));first|(exact gb)|((refine bT ?_ ?_ _ _ _);rotate_left;(first|(exact aG)|(exact aK)|(exact aH)|(exact aL));exact gb)|((refine bS ?_ (bN _ _));exact gb))))))) (first
   | (go_at_call 142;(refine zg w1 (by with_reducible first|exact Below.refl _ _|exact bN _ _|exact bS (bN _ _) (bN _ _)) ?_);intro V2 dE bV;have dY:=bV.size;have dH:=gb.size;have g1:=g1.to bV;have gb:=bS gb bV;(try have ag:=ag.to bV);(try have bd:=bd.to bV);(try have aI:Tri V2 (w1.heap.size) (.bool false) (.slice none 0 0) (.slice none 0 0):=(by rw [dE];with_reducible first|exact zd _ (.bool false) (.slice none 0 0) (.slice none 0 0) _|exact (zd _ (.bool false) (.slice none 0 0) (.slice none 0 0) _).alloc _));have aH:W0.heap.size<=w1.heap.size:=(dH);have bi:w1.heap.size<=w1.heap.size:=(Nat.le_refl _);(try have bL:Tri V2 (w1.heap.size+1) (.bool false) (.slice none 0 0) (.slice none 0 0):=(by rw [dE];first|with_reducible exact zbW _ _ (.bool false) (.slice none 0 0) (.slice none 0 0) _));have aL:W0.heap.size<=w1.heap.size+1:=(Nat.le_succ_of_le dH);have bj:w1.heap.size<=w1.heap.size+1:=(Nat.le_succ _);(try have aN:=ag.lt);(try have bx:=bd.lt);(try have aO:=aI.lt);(try have bz:=bL.lt);(with_reducible refine (zbk c _ _ ln' ld' _ (i1.to gb) Hy).mono ?_);rintro e w2 ⟨ng2,a2_,n2_,c2_,p2_,m2_,k2_,rfl,g2,aM⟩;have g1:=g1.to aM;have gb:=bS gb aM;have dF:=aM.size;(try have ag:=ag.to aM);(try have bd:=bd.to aM);(try have aI:=aI.to aM);(try have bL:=bL.to aM);(try have b5:=ag.lt);(try have en:=bd.lt);(try have b6:=aI.lt);(try have eo:=bL.lt);(try (have aR:=ag;obtain ⟨bo,bq,bs,bt,bu,bv⟩:=aR));(try (have cR:=bd;obtain ⟨dw,dx,dy,dA,dB,dC⟩:=cR));(try (have bQ:=aI;obtain ⟨ci,ck,cl,cm,cn,cq⟩:=bQ));(try (have d5:=bL;obtain ⟨eu,ew,ey,eA,eB,eC⟩:=d5)))
   | (go_at_call 142;(refine zg W0 (by with_reducible first|exact (Below.refl _ _).drew|exact (bN _ _).drew|exact (bS (bN _ _) (bN _ _)).drew) ?_);intro V1 dD ch;have dX:=ch.size;have dG:=gb.size;have gb:=bS gb ch;(try have ag:Tri V1 (W0.heap.size) (.bool false) (.slice none 0 0) (.slice none 0 0):=(by rw [dD];with_reducible first|exact (zd _ (.bool false) (.slice none 0 0) (.slice none 0 0) _).drew|exact ((zd _ (.bool false) (.slice none 0 0) (.slice none 0 0) _).alloc _).drew));have aG:W0.heap.size<=W0.heap.size:=(dG);(try have bd:Tri V1 (W0.heap.size+1) (.bool false) (.slice none 0 0) (.slice none 0 0):=(by rw [dD];first|with_reducible exact (zbW _ _ (.bool false) (.slice none 0 0) (.slice none 0 0) _).drew));have aK:W0.heap.size<=W0.heap.size+1:=(Nat.le_succ_of_le dG);(try have bc:=ag.lt);(try have bw:=bd.lt);(with_reducible refine (zbk b _ _ ln ld _ (i0.to gb) Hx).mono ?_);rintro e w1 ⟨ng1,a1_,n1_,c1_,p1_,m1_,k1_,rfl,g1,aS⟩;have gb:=bS gb aS;have dj:=aS.size;(try have ag:=ag.to aS);(try have bd:=bd.to aS);(try have bn:=ag.lt);(try have b7:=bd.lt);(try (have aR:=ag;obtain ⟨bo,bq,bs,bt,bu,bv⟩:=aR));(try (have cR:=bd;obtain ⟨dw,dx,dy,dA,dB,dC⟩:=cR))))
  all_goals (go_wp2_with fail;go_meet)
  all_goals first
   | (with_reducible exact zh ag bd (Nat.ne_of_lt (Nat.lt_succ_self _)) g1 g2 (.inl bc) (.inl bw) (.inl aN) (.inl bx) gb aG aK)
   | (with_reducible exact zh ag aI (Nat.ne_of_lt bn) g1 g2 (.inl bc) (.inr bi) (.inl aN) (.inl aO) gb aG aH)
   | (with_reducible exact zh ag bL (Nat.ne_of_lt (Nat.lt_succ_of_lt bn)) g1 g2 (.inl bc) (.inr bj) (.inl aN) (.inl bz) gb aG aL)
   | (with_reducible exact zh bd ag ((Nat.ne_of_lt (Nat.lt_succ_self _)).symm) g1 g2 (.inl bw) (.inl bc) (.inl bx) (.inl aN) gb aK aG)
   | (with_reducible exact zh bd aI (Nat.ne_of_lt b7) g1 g2 (.inl bw) (.inr bi) (.inl bx) (.inl aO) gb aK aH)
   | (with_reducible exact zh bd bL (Nat.ne_of_lt (Nat.lt_succ_of_lt b7)) g1 g2 (.inl bw) (.inr bj) (.inl bx) (.inl bz) gb aK aL)
   | (with_reducible exact zh aI ag ((Nat.ne_of_lt bn).symm) g1 g2 (.inr bi) (.inl bc) (.inl aO) (.inl aN) gb aH aG)
   | (with_reducible exact zh aI bd ((Nat.ne_of_lt b7).symm) g1 g2 (.inr bi) (.inl bw) (.inl aO) (.inl bx) gb aH aK)
   | (with_reducible exact zh aI bL (Nat.ne_of_lt (Nat.lt_succ_self _)) g1 g2 (.inr bi) (.inr bj) (.inl aO) (.inl bz) gb aH aL)
   | (with_reducible exact zh bL ag ((Nat.ne_of_lt (Nat.lt_succ_of_lt bn)).symm) g1 g2 (.inr bj) (.inl bc) (.inl bz) (.inl aN) gb aL aG)
   | (with_reducible exact zh bL bd ((Nat.ne_of_lt (Nat.lt_succ_of_lt b7)).symm) g1 g2 (.inr bj) (.inl bw) (.inl bz) (.inl bx) gb aL aK)
   | (with_reducible exact zh bL aI ((Nat.ne_of_lt (Nat.lt_succ_self _)).symm) g1 g2 (.inr bj) (.inr bi) (.inl bz) (.inl aO) gb aL aH)
   | (with_reducible exact zq ag g1 g2 (.inl bc) (.inl aN) gb aG)
   | (with_reducible exact (zq ag g2 g1 (.inl aN) (.inl bc) gb aG).symm)
   | (with_reducible exact zq bd g1 g2 (.inl bw) (.inl bx) gb aK)
   | (with_reducible exact (zq bd g2 g1 (.inl bx) (.inl bw) gb aK).symm)
   | (with_reducible exact zq aI g1 g2 (.inr bi) (.inl aO) gb aH)
   | (with_reducible exact (zq aI g2 g1 (.inl aO) (.inr bi) gb aH).symm)
   | (with_reducible exact zq bL g1 g2 (.inr bj) (.inl bz) gb aL)
   | (with_reducible exact (zq bL g2 g1 (.inl bz) (.inr bj) gb aL).symm)
   | (with_reducible exact zbG g1 g2 gb)
   | (with_reducible exact (zbG g2 g1 gb).symm)
 case rest =>
 obtain ⟨⟨B5,ng1,a1_,n1_,c1_,p1_,m1_,k1_,lo5,hi5,rfl,hB5,T5,g1,hc5⟩,⟨B6,ng2,a2_,n2_,c2_,p2_,m2_,k2_,lo6,hi6,rfl,hB6,T6,g2,hc6⟩⟩:=hcut
 clear ae ai af ak ah al am aB an aC aw aD bl bH bm bJ bU bZ
 have gb:=hc5
 obtain ⟨ae,af,ah,am,an,aw,bl,bm,bU⟩:=aq.out _ gb
 obtain ⟨ai,ak,al,aB,aC,aD,bH,bJ,bZ⟩:=cf.out _ gb
 obtain ⟨z0,z1,z2⟩:=cg.out _ gb
 have z5:=T5.lt
 obtain ⟨bB,bE,bF,bM,bO,bP⟩:=T5
 have z6:=T6.lt
 obtain ⟨cw,cB,cC,cF,cG,cH⟩:=T6
 clear hgb
 obtain ⟨W1,aJ⟩:∃ W,wc=W:=⟨_,rfl⟩
 subst aJ
 replace i0:=i0.to gb
 replace i1:=i1.to gb
 replace zb:=bS zb gb
 have HXwc:=Lib.hid (show ∀ W',Below wc.heap.size wc W'->(W'.cell? ⟨w.heap.size,0,none⟩=some (.bool b)/\W'.cell? ⟨w.heap.size,1,none⟩=some (.slice a0 n0 c0)/\W'.cell? ⟨w.heap.size,2,none⟩=some (.slice a1 n1 c1)/\W'.cell? ⟨w.heap.size+1,0,none⟩=some (.bool c)/\W'.cell? ⟨w.heap.size+1,1,none⟩=some (.slice a2 n2 c2)/\W'.cell? ⟨w.heap.size+1,2,none⟩=some (.slice a3 n3 c3)/\W'.cell? ⟨w.heap.size+1+1,0,none⟩=some (.bool false)/\W'.cell? ⟨w.heap.size+1+1,1,none⟩=some (.slice none 0 0)/\W'.cell? ⟨w.heap.size+1+1,2,none⟩=some (.slice none 0 0)/\W'.cell? ⟨B5,0,none⟩=some (.bool ng1)/\W'.cell? ⟨B5,1,none⟩=some (.slice a1_ n1_ c1_)/\W'.cell? ⟨B5,2,none⟩=some (.slice p1_ m1_ k1_)/\W'.cell? ⟨B6,0,none⟩=some (.bool ng2)/\W'.cell? ⟨B6,1,none⟩=some (.slice a2_ n2_ c2_)/\W'.cell? ⟨B6,2,none⟩=some (.slice p2_ m2_ k2_)) from fun W' hb =>
  by and_intros <;> exact kc hb (by first|assumption|assumption))
 have HYwc:=Lib.hid (show ∀ W',Below wc.heap.size wc W'->(W'.frozen? ⟨w.heap.size,0,none⟩=false/\W'.frozen? ⟨w.heap.size,1,none⟩=false/\W'.frozen? ⟨w.heap.size,2,none⟩=false/\W'.frozen? ⟨w.heap.size+1,0,none⟩=false/\W'.frozen? ⟨w.heap.size+1,1,none⟩=false/\W'.frozen? ⟨w.heap.size+1,2,none⟩=false/\W'.frozen? ⟨w.heap.size+1+1,0,none⟩=false/\W'.frozen? ⟨w.heap.size+1+1,1,none⟩=false/\W'.frozen? ⟨w.heap.size+1+1,2,none⟩=false/\W'.frozen? ⟨B5,0,none⟩=false/\W'.frozen? ⟨B5,1,none⟩=false/\W'.frozen? ⟨B5,2,none⟩=false/\W'.frozen? ⟨B6,0,none⟩=false/\W'.frozen? ⟨B6,1,none⟩=false/\W'.frozen? ⟨B6,2,none⟩=false) from fun W' hb =>
  by and_intros <;> refine (hb.frozen ?_).trans ?_ <;> first|assumption|assumption)
 have HZwc:=Lib.hid (show ∀ W',Below wc.heap.size wc W'->(w.heap.size<W'.heap.size/\w.heap.size+1<W'.heap.size/\w.heap.size+1+1<W'.heap.size/\B5<W'.heap.size/\B6<W'.heap.size) from fun W' hb =>
  by and_intros <;> refine Nat.lt_of_lt_of_le ?_ hb.size <;> first|assumption)
 replace gb:=Below.refl wc.heap.size wc
 go_wp2_with fail
 have hgb:=gb
 go_upto_region 2 with fail
 go_cut [7] from 12 (fun s7 wx => BoxC wc (x.num*(y.den:Int)+y.num*(x.den:Int)) s7 wx)
 case first =>
  go_region_held3 (fun W' => W'.cell? ⟨w.heap.size,0,none⟩=some (.bool b)/\W'.cell? ⟨w.heap.size,1,none⟩=some (.slice a0 n0 c0)/\W'.cell? ⟨w.heap.size,2,none⟩=some (.slice a1 n1 c1)/\W'.cell? ⟨w.heap.size+1,0,none⟩=some (.bool c)/\W'.cell? ⟨w.heap.size+1,1,none⟩=some (.slice a2 n2 c2)/\W'.cell? ⟨w.heap.size+1,2,none⟩=some (.slice a3 n3 c3)/\W'.cell? ⟨w.heap.size+1+1,0,none⟩=some (.bool false)/\W'.cell? ⟨w.heap.size+1+1,1,none⟩=some (.slice none 0 0)/\W'.cell? ⟨w.heap.size+1+1,2,none⟩=some (.slice none 0 0)/\W'.cell? ⟨B5,0,none⟩=some (.bool ng1)/\W'.cell? ⟨B5,1,none⟩=some (.slice a1_ n1_ c1_)/\W'.cell? ⟨B5,2,none⟩=some (.slice p1_ m1_ k1_)/\W'.cell? ⟨B6,0,none⟩=some (.bool ng2)/\W'.cell? ⟨B6,1,none⟩=some (.slice a2_ n2_ c2_)/\W'.cell? ⟨B6,2,none⟩=some (.slice p2_ m2_ k2_)) (with_reducible first|(exact HXwc.out _ gb)|((refine HXwc.out _ ?_);first|((refine Below.drew ?_);first|(exact gb)|((refine bD ?_ ?_ _ _);rotate_left;(first|(exact dk)|(exact dl)|(exact dm)|(exact dp)|(exact dq)|(exact dr)|(exact dt));exact gb)|((refine bS ?_ (bN _ _));exact gb))|(first|(exact gb)|((refine bD ?_ ?_ _ _);rotate_left;(first|(exact dk)|(exact dl)|(exact dm)|(exact dp)|(exact dq)|(exact dr)|(exact dt));first|(exact gb)|((refine bD ?_ ?_ _ _);rotate_left;(first|(exact dk)|(exact dl)|(exact dm)|(exact dp)|(exact dq)|(exact dr)|(exact dt));exact gb)|((refine bS ?_ (bN _ _));exact gb))|((refine bS ?_ (bN _ _));first|(exact gb)|((refine bD ?_ ?_ _ _);rotate_left;(first|(exact dk)|(exact dl)|(exact dm)|(exact dp)|(exact dq)|(exact dr)|(exact dt));exact gb)|((refine bS ?_ (bN _ _));exact gb))))) (first
   | (go_at_call 143;(refine zg w16 (by with_reducible first|exact Below.refl _ _|exact bN _ _) ?_);intro V17 gK dV;have hsV17:=dV.size;have gZ:=gb.size;have g13:=g13.to dV;have g16:=g16.to dV;have gb:=bS gb dV;(try have bh:=bh.to dV);(try have bk:=bk.to dV);(try have bK:=bK.to dV);(try have bW:=bW.to dV);(try have ce:=ce.to dV);(try have cM:=cM.to dV);(try have dM:Duo V17 (w16.heap.size) (.bool false) (.slice none 0 0):=(by rw [gK];with_reducible first|exact zak _ (.bool false) (.slice none 0 0) _|exact (zak _ (.bool false) (.slice none 0 0) _).alloc _));have dt:wc.heap.size<=w16.heap.size:=(gZ);(try have eD:=bh.lt);(try have eF:=bk.lt);(try have eG:=bK.lt);(try have eH:=bW.lt);(try have eI:=ce.lt);(try have eJ:=cM.lt);(try have eK:=dM.lt);(with_reducible refine (add_c _ g13.isI g16.isI (x.num*(y.den:Int)+y.num*(x.den:Int)) rfl S4).mono ?_);rintro e w17 ⟨ng17,a17_,n17_,c17_,rfl,g17,dh⟩;have g13:=g13.to dh;have g16:=g16.to dh;have gb:=bS gb dh;have hs17:=dh.size;(try have bh:=bh.to dh);(try have bk:=bk.to dh);(try have bK:=bK.to dh);(try have bW:=bW.to dh);(try have ce:=ce.to dh);(try have cM:=cM.to dh);(try have dM:=dM.to dh);(try have lt11_I_0_17:=bh.lt);(try have lt12_I_0_17:=bk.lt);(try have lt13_I_0_17:=bK.lt);(try have lt14_I_0_17:=bW.lt);(try have lt15_I_0_17:=ce.lt);(try have lt16_I_0_17:=cM.lt);(try have lt17_I_0_17:=dM.lt);(try (have cE:=bh;obtain ⟨cW,cX,cY,cZ⟩:=cE));(try (have cI:=bk;obtain ⟨dc,dd,de,dg⟩:=cI));(try (have cQ:=bK;obtain ⟨dI,dJ,dK,dL⟩:=cQ));(try (have db:=bW;obtain ⟨d9,ea,eb,ec⟩:=db));(try (have dv:=ce;obtain ⟨ep,eq,er,et⟩:=dv));(try (have ei:=cM;obtain ⟨eP,eQ,eR,eS⟩:=ei));(try (have eY:=dM;obtain ⟨rt17_I_00,rt17_I_01,st17_I_00,st17_I_01⟩:=eY)))
   | (go_at_call 144;(refine zg w15 (by with_reducible first|exact Below.refl _ _|exact bN _ _) ?_);intro V16 gJ ed;have hsV16:=ed.size;have gY:=gb.size;have g13:=g13.to ed;have gb:=bS gb ed;(try have bh:=bh.to ed);(try have bk:=bk.to ed);(try have bK:=bK.to ed);(try have bW:=bW.to ed);(try have ce:=ce.to ed);(try have cM:Duo V16 (w15.heap.size) (.bool false) (.slice none 0 0):=(by rw [gJ];with_reducible first|exact zak _ (.bool false) (.slice none 0 0) _|exact (zak _ (.bool false) (.slice none 0 0) _).alloc _));have dr:wc.heap.size<=w15.heap.size:=(gY);(try have vt11_I_0_16:=bh.lt);(try have vt12_I_0_16:=bk.lt);(try have vt13_I_0_16:=bK.lt);(try have vt14_I_0_16:=bW.lt);(try have vt15_I_0_16:=ce.lt);(try have vt16_I_0_16:=cM.lt);(with_reducible refine (zfJ _ (g2.to gb).above (g1.to gb).below (y.num*(x.den:Int)) rfl S2).mono ?_);rintro e w16 ⟨ng16,a16_,n16_,c16_,rfl,g16,dW⟩;have g13:=g13.to dW;have gb:=bS gb dW;have hs16:=dW.size;(try have bh:=bh.to dW);(try have bk:=bk.to dW);(try have bK:=bK.to dW);(try have bW:=bW.to dW);(try have ce:=ce.to dW);(try have cM:=cM.to dW);(try have lt11_I_0_16:=bh.lt);(try have lt12_I_0_16:=bk.lt);(try have lt13_I_0_16:=bK.lt);(try have lt14_I_0_16:=bW.lt);(try have lt15_I_0_16:=ce.lt);(try have lt16_I_0_16:=cM.lt);(try (have cE:=bh;obtain ⟨cW,cX,cY,cZ⟩:=cE));(try (have cI:=bk;obtain ⟨dc,dd,de,dg⟩:=cI));(try (have cQ:=bK;obtain ⟨dI,dJ,dK,dL⟩:=cQ));(try (have db:=bW;obtain ⟨d9,ea,eb,ec⟩:=db));(try (have dv:=ce;obtain ⟨ep,eq,er,et⟩:=dv));(try (have ei:=cM;obtain ⟨eP,eQ,eR,eS⟩:=ei)))
   | (go_at_call 146;(refine zg w14 (by with_reducible first|exact Below.refl _ _|exact bN _ _) ?_);intro V15 gI eh;have hsV15:=eh.size;have gX:=gb.size;have g13:=g13.to eh;have gb:=bS gb eh;(try have bh:=bh.to eh);(try have bk:=bk.to eh);(try have bK:=bK.to eh);(try have bW:=bW.to eh);(try have ce:Duo V15 (w14.heap.size) (.bool false) (.slice none 0 0):=(by rw [gI];with_reducible first|exact zak _ (.bool false) (.slice none 0 0) _|exact (zak _ (.bool false) (.slice none 0 0) _).alloc _));have dq:wc.heap.size<=w14.heap.size:=(gX);(try have vt11_I_0_15:=bh.lt);(try have vt12_I_0_15:=bk.lt);(try have vt13_I_0_15:=bK.lt);(try have vt14_I_0_15:=bW.lt);(try have vt15_I_0_15:=ce.lt);(with_reducible refine (zbf _ _ _ _ _ _ (g1.to gb).isQ).mono ?_);rintro e w15 ⟨rfl,du⟩;have g13:=g13.to du;have gb:=bS gb du;have hs15:=du.size;(try have bh:=bh.to du);(try have bk:=bk.to du);(try have bK:=bK.to du);(try have bW:=bW.to du);(try have ce:=ce.to du);(try have lt11_I_0_15:=bh.lt);(try have lt12_I_0_15:=bk.lt);(try have lt13_I_0_15:=bK.lt);(try have lt14_I_0_15:=bW.lt);(try have lt15_I_0_15:=ce.lt);(try (have cE:=bh;obtain ⟨cW,cX,cY,cZ⟩:=cE));(try (have cI:=bk;obtain ⟨dc,dd,de,dg⟩:=cI));(try (have cQ:=bK;obtain ⟨dI,dJ,dK,dL⟩:=cQ));(try (have db:=bW;obtain ⟨d9,ea,eb,ec⟩:=db));(try (have dv:=ce;obtain ⟨ep,eq,er,et⟩:=dv)))
   | (go_at_call 145;(refine zg w13 (by with_reducible first|exact Below.refl _ _|exact bN _ _) ?_);intro V14 gH el;have hsV14:=el.size;have gW:=gb.size;have g13:=g13.to el;have gb:=bS gb el;(try have bh:=bh.to el);(try have bk:=bk.to el);(try have bK:=bK.to el);(try have bW:Duo V14 (w13.heap.size) (.bool false) (.slice none 0 0):=(by rw [gH];with_reducible first|exact zak _ (.bool false) (.slice none 0 0) _|exact (zak _ (.bool false) (.slice none 0 0) _).alloc _));have dp:wc.heap.size<=w13.heap.size:=(gW);(try have vt11_I_0_14:=bh.lt);(try have vt12_I_0_14:=bk.lt);(try have vt13_I_0_14:=bK.lt);(try have vt14_I_0_14:=bW.lt);(with_reducible refine (zbe _ _ _ _ _ _ (g2.to gb).isQ).mono ?_);rintro e w14 ⟨rfl,d7⟩;have g13:=g13.to d7;have gb:=bS gb d7;have hs14:=d7.size;(try have bh:=bh.to d7);(try have bk:=bk.to d7);(try have bK:=bK.to d7);(try have bW:=bW.to d7);(try have lt11_I_0_14:=bh.lt);(try have lt12_I_0_14:=bk.lt);(try have lt13_I_0_14:=bK.lt);(try have lt14_I_0_14:=bW.lt);(try (have cE:=bh;obtain ⟨cW,cX,cY,cZ⟩:=cE));(try (have cI:=bk;obtain ⟨dc,dd,de,dg⟩:=cI));(try (have cQ:=bK;obtain ⟨dI,dJ,dK,dL⟩:=cQ));(try (have db:=bW;obtain ⟨d9,ea,eb,ec⟩:=db)))
   | (go_at_call 144;(refine zg w12 (by with_reducible first|exact Below.refl _ _|exact bN _ _) ?_);intro V13 gG eO;have hsV13:=eO.size;have gV:=gb.size;have gb:=bS gb eO;(try have bh:=bh.to eO);(try have bk:=bk.to eO);(try have bK:Duo V13 (w12.heap.size) (.bool false) (.slice none 0 0):=(by rw [gG];with_reducible first|exact zak _ (.bool false) (.slice none 0 0) _|exact (zak _ (.bool false) (.slice none 0 0) _).alloc _));have dm:wc.heap.size<=w12.heap.size:=(gV);(try have vt11_I_0_13:=bh.lt);(try have vt12_I_0_13:=bk.lt);(try have vt13_I_0_13:=bK.lt);(with_reducible refine (zfJ _ (g1.to gb).above (g2.to gb).below (x.num*(y.den:Int)) rfl S1).mono ?_);rintro e w13 ⟨ng13,a13_,n13_,c13_,rfl,g13,dZ⟩;have gb:=bS gb dZ;have hs13:=dZ.size;(try have bh:=bh.to dZ);(try have bk:=bk.to dZ);(try have bK:=bK.to dZ);(try have lt11_I_0_13:=bh.lt);(try have lt12_I_0_13:=bk.lt);(try have lt13_I_0_13:=bK.lt);(try (have cE:=bh;obtain ⟨cW,cX,cY,cZ⟩:=cE));(try (have cI:=bk;obtain ⟨dc,dd,de,dg⟩:=cI));(try (have cQ:=bK;obtain ⟨dI,dJ,dK,dL⟩:=cQ)))
   | (go_at_call 146;(refine zg w11 (by with_reducible first|exact Below.refl _ _|exact bN _ _) ?_);intro V12 gF eX;have hsV12:=eX.size;have gU:=gb.size;have gb:=bS gb eX;(try have bh:=bh.to eX);(try have bk:Duo V12 (w11.heap.size) (.bool false) (.slice none 0 0):=(by rw [gF];with_reducible first|exact zak _ (.bool false) (.slice none 0 0) _|exact (zak _ (.bool false) (.slice none 0 0) _).alloc _));have dl:wc.heap.size<=w11.heap.size:=(gU);(try have vt11_I_0_12:=bh.lt);(try have vt12_I_0_12:=bk.lt);(with_reducible refine (zbf _ _ _ _ _ _ (g2.to gb).isQ).mono ?_);rintro e w12 ⟨rfl,da⟩;have gb:=bS gb da;have hs12:=da.size;(try have bh:=bh.to da);(try have bk:=bk.to da);(try have lt11_I_0_12:=bh.lt);(try have lt12_I_0_12:=bk.lt);(try (have cE:=bh;obtain ⟨cW,cX,cY,cZ⟩:=cE));(try (have cI:=bk;obtain ⟨dc,dd,de,dg⟩:=cI)))
   | (go_at_call 145;(refine zg wc (by with_reducible first|exact (Below.refl _ _).drew|exact (bN _ _).drew) ?_);intro V11 gE fe;have hsV11:=fe.size;have gT:=gb.size;have gb:=bS gb fe;(try have bh:Duo V11 (wc.heap.size) (.bool false) (.slice none 0 0):=(by rw [gE];with_reducible first|exact (zak _ (.bool false) (.slice none 0 0) _).drew|exact ((zak _ (.bool false) (.slice none 0 0) _).alloc _).drew));have dk:wc.heap.size<=wc.heap.size:=(gT);(try have vt11_I_0_11:=bh.lt);(with_reducible refine (zbe _ _ _ _ _ _ (g1.to gb).isQ).mono ?_);rintro e w11 ⟨rfl,eM⟩;have gb:=bS gb eM;have hs11:=eM.size;(try have bh:=bh.to eM);(try have lt11_I_0_11:=bh.lt);(try (have cE:=bh;obtain ⟨cW,cX,cY,cZ⟩:=cE))))
  all_goals (go_wp2_with fail;go_meet)
  all_goals first
   | (with_reducible exact zbO bh g17 (.inl eD) gb dk)
   | (with_reducible exact zbO bk g17 (.inl eF) gb dl)
   | (with_reducible exact zbO bK g17 (.inl eG) gb dm)
   | (with_reducible exact zbO bW g17 (.inl eH) gb dp)
   | (with_reducible exact zbO ce g17 (.inl eI) gb dq)
   | (with_reducible exact zbO cM g17 (.inl eJ) gb dr)
   | (with_reducible exact zbO dM g17 (.inl eK) gb dt)
   | (with_reducible exact boxC_new g17 gb)
 case rest =>
 obtain ⟨B7,ng17,a17_,n17_,c17_,lo7,hi7,rfl,hB7,T7,g17,hc7⟩:=hcut
 clear ae ai af ak ah al am aB an aC aw aD bl bH bm bJ bU bZ bB bM bE bO bF bP cw cF cB cG cC cH
 have gb:=hc7
 obtain ⟨ae,af,ah,am,an,aw,bl,bm,bU,bB,bE,bF,cw,cB,cC⟩:=HXwc.out _ gb
 obtain ⟨ai,ak,al,aB,aC,aD,bH,bJ,bZ,bM,bO,bP,cF,cG,cH⟩:=HYwc.out _ gb
 obtain ⟨z0,z1,z2,z5,z6⟩:=HZwc.out _ gb
 have z7:=T7.lt
 obtain ⟨eZ,e8,gz,gA⟩:=T7
 clear hgb
 obtain ⟨W2,d6⟩:∃ W,wc=W:=⟨_,rfl⟩
 subst d6
 replace i0:=i0.to gb
 replace i1:=i1.to gb
 replace g1:=g1.to gb
 replace g2:=g2.to gb
 replace zb:=bS zb gb
 have HXwc:=Lib.hid (show ∀ W',Below wc.heap.size wc W'->(W'.cell? ⟨w.heap.size,0,none⟩=some (.bool b)/\W'.cell? ⟨w.heap.size,1,none⟩=some (.slice a0 n0 c0)/\W'.cell? ⟨w.heap.size,2,none⟩=some (.slice a1 n1 c1)/\W'.cell? ⟨w.heap.size+1,0,none⟩=some (.bool c)/\W'.cell? ⟨w.heap.size+1,1,none⟩=some (.slice a2 n2 c2)/\W'.cell? ⟨w.heap.size+1,2,none⟩=some (.slice a3 n3 c3)/\W'.cell? ⟨w.heap.size+1+1,0,none⟩=some (.bool false)/\W'.cell? ⟨w.heap.size+1+1,1,none⟩=some (.slice none 0 0)/\W'.cell? ⟨w.heap.size+1+1,2,none⟩=some (.slice none 0 0)/\W'.cell? ⟨B5,0,none⟩=some (.bool ng1)/\W'.cell? ⟨B5,1,none⟩=some (.slice a1_ n1_ c1_)/\W'.cell? ⟨B5,2,none⟩=some (.slice p1_ m1_ k1_)/\W'.cell? ⟨B6,0,none⟩=some (.bool ng2)/\W'.cell? ⟨B6,1,none⟩=some (.slice a2_ n2_ c2_)/\W'.cell? ⟨B6,2,none⟩=some (.slice p2_ m2_ k2_)/\W'.cell? ⟨B7,0,none⟩=some (.bool ng17)/\W'.cell? ⟨B7,1,none⟩=some (.slice a17_ n17_ c17_)) from fun W' hb =>
  by and_intros <;> exact kc hb (by first|assumption|assumption))
 have HYwc:=Lib.hid (show ∀ W',Below wc.heap.size wc W'->(W'.frozen? ⟨w.heap.size,0,none⟩=false/\W'.frozen? ⟨w.heap.size,1,none⟩=false/\W'.frozen? ⟨w.heap.size,2,none⟩=false/\W'.frozen? ⟨w.heap.size+1,0,none⟩=false/\W'.frozen? ⟨w.heap.size+1,1,none⟩=false/\W'.frozen? ⟨w.heap.size+1,2,none⟩=false/\W'.frozen? ⟨w.heap.size+1+1,0,none⟩=false/\W'.frozen? ⟨w.heap.size+1+1,1,none⟩=false/\W'.frozen? ⟨w.heap.size+1+1,2,none⟩=false/\W'.frozen? ⟨B5,0,none⟩=false/\W'.frozen? ⟨B5,1,none⟩=false/\W'.frozen? ⟨B5,2,none⟩=false/\W'.frozen? ⟨B6,0,none⟩=false/\W'.frozen? ⟨B6,1,none⟩=false/\W'.frozen? ⟨B6,2,none⟩=false/\W'.frozen? ⟨B7,0,none⟩=false/\W'.frozen? ⟨B7,1,none⟩=false) from fun W' hb =>
  by and_intros <;> refine (hb.frozen ?_).trans ?_ <;> first|assumption|assumption)
 have HZwc:=Lib.hid (show ∀ W',Below wc.heap.size wc W'->(w.heap.size<W'.heap.size/\w.heap.size+1<W'.heap.size/\w.heap.size+1+1<W'.heap.size/\B5<W'.heap.size/\B6<W'.heap.size/\B7<W'.heap.size) from fun W' hb =>
  by and_intros <;> refine Nat.lt_of_lt_of_le ?_ hb.size <;> first|assumption)
 replace gb:=Below.refl wc.heap.size wc
 go_wp2_with fail
 have H8:=Lib.hid (H9.out ng17 (by have k:=g17.2.1;exact k))
 have nz0:w.heap.size≠w.heap.size+1+1:=by omega
 have nz1:w.heap.size+1≠w.heap.size+1+1:=by omega
 have nz5:B5≠w.heap.size+1+1:=by omega
 have nz6:B6≠w.heap.size+1+1:=by omega
 have nz7:B7≠w.heap.size+1+1:=by omega
 go_region_held3 (fun W' => W'.cell? ⟨w.heap.size,0,none⟩=some (.bool b)/\W'.cell? ⟨w.heap.size,1,none⟩=some (.slice a0 n0 c0)/\W'.cell? ⟨w.heap.size,2,none⟩=some (.slice a1 n1 c1)/\W'.cell? ⟨w.heap.size+1,0,none⟩=some (.bool c)/\W'.cell? ⟨w.heap.size+1,1,none⟩=some (.slice a2 n2 c2)/\W'.cell? ⟨w.heap.size+1,2,none⟩=some (.slice a3 n3 c3)/\W'.cell? ⟨B5,0,none⟩=some (.bool ng1)/\W'.cell? ⟨B5,1,none⟩=some (.slice a1_ n1_ c1_)/\W'.cell? ⟨B5,2,none⟩=some (.slice p1_ m1_ k1_)/\W'.cell? ⟨B6,0,none⟩=some (.bool ng2)/\W'.cell? ⟨B6,1,none⟩=some (.slice a2_ n2_ c2_)/\W'.cell? ⟨B6,2,none⟩=some (.slice p2_ m2_ k2_)/\W'.cell? ⟨B7,0,none⟩=some (.bool ng17)/\W'.cell? ⟨B7,1,none⟩=some (.slice a17_ n17_ c17_)) (first|(with_reducible exact ⟨ae,af,ah,am,an,aw,bB,bE,bF,cw,cB,cC,eZ,e8⟩)|(with_reducible exact ⟨cP (cP (cP (ae) (.inl nz0) _) (.inl nz0) _) (.inl nz0) _,cP (cP (cP (af) (.inl nz0) _) (.inl nz0) _) (.inl nz0) _,cP (cP (cP (ah) (.inl nz0) _) (.inl nz0) _) (.inl nz0) _,cP (cP (cP (am) (.inl nz1) _) (.inl nz1) _) (.inl nz1) _,cP (cP (cP (an) (.inl nz1) _) (.inl nz1) _) (.inl nz1) _,cP (cP (cP (aw) (.inl nz1) _) (.inl nz1) _) (.inl nz1) _,cP (cP (cP (bB) (.inl nz5) _) (.inl nz5) _) (.inl nz5) _,cP (cP (cP (bE) (.inl nz5) _) (.inl nz5) _) (.inl nz5) _,cP (cP (cP (bF) (.inl nz5) _) (.inl nz5) _) (.inl nz5) _,cP (cP (cP (cw) (.inl nz6) _) (.inl nz6) _) (.inl nz6) _,cP (cP (cP (cB) (.inl nz6) _) (.inl nz6) _) (.inl nz6) _,cP (cP (cP (cC) (.inl nz6) _) (.inl nz6) _) (.inl nz6) _,cP (cP (cP (eZ) (.inl nz7) _) (.inl nz7) _) (.inl nz7) _,cP (cP (cP (e8) (.inl nz7) _) (.inl nz7) _) (.inl nz7) _⟩)|exact ⟨ae,af,ah,am,an,aw,bB,bE,bF,cw,cB,cC,eZ,e8⟩) (first
  | (go_at_call 62;(with_reducible refine (zM ng17 _ _ _ _ _ (g17.to gb).isI.up g21.rd (Nat.le_trans S3.out (by omega)) K2.out q H8.out hs).mono ?_);rintro e w22 ⟨ng22,a22_,n22_,c22_,p22_,m22_,k22_,rfl,g22,gt⟩;have g21:=g21.to gt;have gb:=bS gb gt;obtain ⟨ae,af,ah,am,an,aw,bl,bm,bU,bB,bE,bF,cw,cB,cC,eZ,e8⟩:=HXwc.out _ gb;obtain ⟨ai,ak,al,aB,aC,aD,bH,bJ,bZ,bM,bO,bP,cF,cG,cH,gz,gA⟩:=HYwc.out _ gb;obtain ⟨z0,z1,z2,z5,z6,z7⟩:=HZwc.out _ gb)
  | (go_at_call 147;have gb:=gb.drew;(with_reducible refine (zbL _ _ (za x.den) (za y.den) _ (g1.to gb).isQ.dn (g2.to gb).isQ.dn (Nat.le_trans (g1.to gb).isQ.ldn (by omega)) (Nat.le_trans (g2.to gb).isQ.ldn (by omega))).mono ?_);rintro e w21 ⟨v21,rfl,g21,gL⟩;obtain ⟨a21_,n21_,c21_,rfl,H21,hm21⟩:=g21.rd.open;have gb:=bS gb gL;obtain ⟨ae,af,ah,am,an,aw,bl,bm,bU,bB,bE,bF,cw,cB,cC,eZ,e8⟩:=HXwc.out _ gb;obtain ⟨ai,ak,al,aB,aC,aD,bH,bJ,bZ,bM,bO,bP,cF,cG,cH,gz,gA⟩:=HYwc.out _ gb;obtain ⟨z0,z1,z2,z5,z6,z7⟩:=HZwc.out _ gb))
 go_wp2_with fail
 refine bodyPost_ret (zZ Tryz.results117 _ _ _ _ _ _ rfl (Tri.set (x0:=.bool false) (y0:=.slice none 0 0) (z0:=.slice none 0 0) ⟨bl,bm,bU,bH,bJ,bZ⟩ _ _ _)) rfl (zdH (bS zb gb) (by omega) ?_ g22)
 omega

end Go.Proofs.YtkjcdnlpjldhaaaGreat


namespace Go.Proofs.YtkjcdnlpjldhaaaGreat
open Go.RowKit Tw
attribute [local go_sem ↓] Go.wp_at_zero Go.wp_at_succ

theorem zdX {z:Int} (n0:-9223372036854775808<=z) (n1:z<9223372036854775808):szi z<=3:=by
 unfold szi
 have:=zac (show z.natAbs<=18446744073709551616 by omega)
 rwa [show sz 18446744073709551616=3 by decide +kernel] at this

theorem zjp {z:Int} (h:szi z<=3):szq (z:Rat)<=1000:=by
 unfold szq
 have h1:(z:Rat).num=z:=Rat.num_intCast z
 have h2:(z:Rat).den=1:=Rat.den_intCast z
 rw [h1,h2]
 unfold szi at h
 have:sz 1<=1:=by decide +kernel
 omega

theorem zjf (z:Int):rat (decide (z<0)) (val (za z.natAbs)) (val (za (1:Int).toNat))=(z:Rat):=by
 rw [vL,vL]
 have h:=zco (z:Rat)
 have h1:(z:Rat).num=z:=Rat.num_intCast z
 have h2:(z:Rat).den=1:=Rat.den_intCast z
 rw [zcu,h1,h2] at h
 exact h

def zD (w:World) (q:Rat) (e:Ending) (w':World):Prop :=
 ∃ ng a n c a' n' c',e=.returned (.tuple #[aggR ng (.slice a n c) (.slice a' n' c'),.int .i64 0])/\zad w.heap.size w'.heap.size w' ng (.slice a n c) (.slice a' n' c') q/\Below w.heap.size w w'

theorem zbB {w w2:World} {lo hi rb:Nat} {ng:Bool} {a a':Option Addr} {n c n' c':Nat} {q:Rat} (hb:Below w.heap.size w w2) (hrb:w.heap.size<=rb) (hlo:rb<lo) (hv:zad lo hi w2 ng (.slice a n c) (.slice a' n' c') q) :
  zD w q (.returned (.tuple #[aggR ng (.slice a n c) (.slice a' n' c'),.int .i64 0])) (zci w2 rb (.bool ng) (.slice a n c) (.slice a' n' c')):=by
 obtain ⟨_,_,_,_,_,_,_,e,h1,h2⟩:=zdH hb hrb hlo hv
 injection e with e
 injection e with e
 simp only [Array.mk.injEq,List.cons.injEq,Value.bool.injEq,Value.slice.injEq,and_true] at e
 obtain ⟨rfl,⟨rfl,rfl,rfl⟩,rfl,rfl,rfl⟩:=e
 exact ⟨_,_,_,_,_,_,_,rfl,h1,h2⟩

theorem zjY {x y:Rat} (b:Bool) (v u:Value) (ln ld:List Nat) (c:Bool) (v' u':Value) (ln' ld':List Nat) (w:World) (h:IsQ w b v u ln ld x) (h':IsQ w c v' u' ln' ld' y) (q:Rat) (hq:x - y=q) (hs:Hid (szq q<=1000)) :
  Calls Tryz.prog 118 #[aggR b v u,aggR c v' u'] w (zan w q):=by
 have Hn:Hid (szq (-y)<=1000):=by show _<=_;rw [zgG];exact (zaG h').out
 have H9:=Lib.hid (show x+-y=q by rw [<- Rat.sub_eq_add_neg,hq])
 obtain ⟨a0,n0,c0,rfl,H0,hm0⟩:=h.1.open
 obtain ⟨a1,n1,c1,rfl,H1,hm1⟩:=h.2.1.open
 obtain ⟨a2,n2,c2,rfl,H2,hm2⟩:=h'.1.open
 obtain ⟨a3,n3,c3,rfl,H3,hm3⟩:=h'.2.1.open
 clear hq
 go_enter Tryz.func118,Tryz.ntmps118
 go_wp2_with fail
 obtain ⟨W0,ap⟩:∃ W0,((w.alloc (.cells #[.bool b,.slice a0 n0 c0,.slice a1 n1 c1] 47)).alloc (.cells #[.bool c,.slice a2 n2 c2,.slice a3 n3 c3] 47)).alloc (.cells #[.bool false,.slice none 0 0,.slice none 0 0] 47)=W0:=⟨_,rfl⟩
 have aq:=Lib.hid (show ∀ W',Below W0.heap.size W0 W'->(Bx3 W' w.heap.size (.bool b) (.slice a0 n0 c0) (.slice a1 n1 c1)/\Bx3 W' (w.heap.size+1) (.bool c) (.slice a2 n2 c2) (.slice a3 n3 c3)/\Bx3 W' (w.heap.size+1+1) (.bool false) (.slice none 0 0) (.slice none 0 0)) from fun W' hb => by
   refine ⟨bx3 hb ?_ ?_ ?_ ?_ ?_ ?_,bx3 hb ?_ ?_ ?_ ?_ ?_ ?_,bx3 hb ?_ ?_ ?_ ?_ ?_ ?_⟩
   all_goals first|assumption|(rw [<- ap];simp [go_sem]))
 have zb:Below w.heap.size w W0:=by rw [<- ap];exact bS (bS (bN _ _) (bN _ _)) (bN _ _)
 rw [ap]
 clear ap
 have i0:=h.to zb
 have i1:=h'.to zb
 have gb:Below W0.heap.size W0 W0:=Below.refl _ _
 obtain ⟨⟨z0,ae,af,ah,ai,ak,al⟩,⟨z1,am,an,aw,aB,aC,aD⟩,⟨z2,bl,bm,bU,bH,bJ,bZ⟩⟩:=aq.out _ gb
 have nz0:w.heap.size≠w.heap.size+1+1:=by omega
 have nz1:w.heap.size+1≠w.heap.size+1+1:=by omega
 go_region_held3 (fun W' => W'.cell? ⟨w.heap.size,0,none⟩=some (.bool b)/\W'.cell? ⟨w.heap.size,1,none⟩=some (.slice a0 n0 c0)/\W'.cell? ⟨w.heap.size,2,none⟩=some (.slice a1 n1 c1)/\W'.cell? ⟨w.heap.size+1,0,none⟩=some (.bool c)/\W'.cell? ⟨w.heap.size+1,1,none⟩=some (.slice a2 n2 c2)/\W'.cell? ⟨w.heap.size+1,2,none⟩=some (.slice a3 n3 c3)) (first|(with_reducible exact ⟨ae,af,ah,am,an,aw⟩)|(with_reducible exact ⟨cP (cP (cP (ae) (.inl nz0) _) (.inl nz0) _) (.inl nz0) _,cP (cP (cP (af) (.inl nz0) _) (.inl nz0) _) (.inl nz0) _,cP (cP (cP (ah) (.inl nz0) _) (.inl nz0) _) (.inl nz0) _,cP (cP (cP (am) (.inl nz1) _) (.inl nz1) _) (.inl nz1) _,cP (cP (cP (an) (.inl nz1) _) (.inl nz1) _) (.inl nz1) _,cP (cP (cP (aw) (.inl nz1) _) (.inl nz1) _) (.inl nz1) _⟩)|exact ⟨ae,af,ah,am,an,aw⟩) (first
  | (go_at_call 117;(with_reducible refine (zfL b _ _ ln ld _ _ _ _ _ _ (i0.to gb) g1.isQ q H9.out hs).mono ?_);rintro e w2 ⟨ng2,a2_,n2_,c2_,p2_,m2_,k2_,rfl,g2,aM⟩;have g1:=g1.to aM;have gb:=bS gb aM;obtain ⟨⟨z0,ae,af,ah,ai,ak,al⟩,⟨z1,am,an,aw,aB,aC,aD⟩,⟨z2,bl,bm,bU,bH,bJ,bZ⟩⟩:=aq.out _ gb)
  | (go_at_call 121;have gb:=gb.drew;(with_reducible refine (zfM c _ _ ln' ld' _ (i1.to gb) (-y) rfl Hn).mono ?_);rintro e w1 ⟨ng1,a1_,n1_,c1_,p1_,m1_,k1_,rfl,g1,aS⟩;have gb:=bS gb aS;obtain ⟨⟨z0,ae,af,ah,ai,ak,al⟩,⟨z1,am,an,aw,aB,aC,aD⟩,⟨z2,bl,bm,bU,bH,bJ,bZ⟩⟩:=aq.out _ gb))
 go_wp2_with fail
 refine bodyPost_ret (zZ Tryz.results118 _ _ _ _ _ _ rfl (Tri.set (x0:=.bool false) (y0:=.slice none 0 0) (z0:=.slice none 0 0) ⟨bl,bm,bU,bH,bJ,bZ⟩ _ _ _)) rfl (zdH (bS zb gb) (by omega) ?_ g2)
 omega

theorem zft (b c:Bool) (v u:Value) (ln ld:List Nat) (w:World) (hv:Rd w v ln) (hu:Rd w u ld) (h2:ld.length<=3000) (h0:val ld=0) :
  Calls Tryz.prog 148 #[aggI b v,aggI c u] w (fun e w' => e=.returned (.tuple #[aggR false (.slice none 0 0) (.slice none 0 0),.int .i64 3])/\Below w.heap.size w w'):=by
 have Z0:=Lib.hid (show zC (val ld)=0 by rw [h0];rfl)
 clear h0
 obtain ⟨a0,n0,c0,rfl,H0,hm0⟩:=hv.open
 obtain ⟨a1,n1,c1,rfl,H1,hm1⟩:=hu.open
 go_enter Tryz.func148,Tryz.ntmps148
 go_wp2_with fail
 obtain ⟨W0,ap⟩:∃ W0,((w.alloc (.cells #[.bool b,.slice a0 n0 c0] 95)).alloc (.cells #[.bool c,.slice a1 n1 c1] 95)).alloc (.cells #[.bool false,.slice none 0 0,.slice none 0 0] 47)=W0:=⟨_,rfl⟩
 have aq:=Lib.hid (show ∀ W',Below W0.heap.size W0 W'->(Bx2 W' w.heap.size (.bool b) (.slice a0 n0 c0)/\Bx2 W' (w.heap.size+1) (.bool c) (.slice a1 n1 c1)/\Bx3 W' (w.heap.size+1+1) (.bool false) (.slice none 0 0) (.slice none 0 0)) from fun W' hb => by
   refine ⟨bx2 hb ?_ ?_ ?_ ?_,bx2 hb ?_ ?_ ?_ ?_,bx3 hb ?_ ?_ ?_ ?_ ?_ ?_⟩
   all_goals first|assumption|(rw [<- ap];simp [go_sem]))
 have zb:Below w.heap.size w W0:=by rw [<- ap];exact bS (bS (bN _ _) (bN _ _)) (bN _ _)
 rw [ap]
 clear ap
 have i0:=hv.to zb
 have i1:=hu.to zb
 have gb:Below W0.heap.size W0 W0:=Below.refl _ _
 obtain ⟨⟨z0,ae,af,ai,ak⟩,⟨z1,am,an,aB,aC⟩,⟨z2,bl,bm,bU,bH,bJ,bZ⟩⟩:=aq.out _ gb
 refine (zaH _ ld _ (i1.to gb) (by omega)).mono ?_
 rintro e w1 ⟨rfl,rfl⟩
 rw [Z0.out]
 go_wp2_with fail
 refine bodyPost_ret (zm Tryz.results148 _ _ _ _ _ _ rfl (Tri.set (x0:=.bool false) (y0:=.slice none 0 0) (z0:=.slice none 0 0) ⟨bl,bm,bU,bH,bJ,bZ⟩ _ _ _)) rfl ⟨rfl,bT (bS zb gb) (by omega) _ _ _⟩

theorem ziu (b c:Bool) (v u:Value) (ln ld:List Nat) (w:World) (hv:Rd w v ln) (hu:Rd w u ld) (h1:ln.length<=3000) (h2:ld.length<=3000) (h0:val ld≠0) (q:Rat) (hq:rat (b != c) (val ln) (val ld)=q) (hs:Hid (szq q<=1000)) :
  Calls Tryz.prog 148 #[aggI b v,aggI c u] w (zD w q):=by
 have hnb:0<zC (val ld):=Nat.pos_of_ne_zero (fun e => h0 (zaV.1 e))
 have Z0:=Lib.hid h0
 have H9:=Lib.hid (show rat (!b == c) (val ln) (val ld)=q from hq)
 clear h0 hq
 obtain ⟨a0,n0,c0,rfl,H0,hm0⟩:=hv.open
 obtain ⟨a1,n1,c1,rfl,H1,hm1⟩:=hu.open
 go_enter Tryz.func148,Tryz.ntmps148
 go_wp2_with fail
 obtain ⟨W0,ap⟩:∃ W0,((w.alloc (.cells #[.bool b,.slice a0 n0 c0] 95)).alloc (.cells #[.bool c,.slice a1 n1 c1] 95)).alloc (.cells #[.bool false,.slice none 0 0,.slice none 0 0] 47)=W0:=⟨_,rfl⟩
 have aq:=Lib.hid (show ∀ W',Below W0.heap.size W0 W'->(Bx2 W' w.heap.size (.bool b) (.slice a0 n0 c0)/\Bx2 W' (w.heap.size+1) (.bool c) (.slice a1 n1 c1)/\Bx3 W' (w.heap.size+1+1) (.bool false) (.slice none 0 0) (.slice none 0 0)) from fun W' hb => by
   refine ⟨bx2 hb ?_ ?_ ?_ ?_,bx2 hb ?_ ?_ ?_ ?_,bx3 hb ?_ ?_ ?_ ?_ ?_ ?_⟩
   all_goals first|assumption|(rw [<- ap];simp [go_sem]))
 have zb:Below w.heap.size w W0:=by rw [<- ap];exact bS (bS (bN _ _) (bN _ _)) (bN _ _)
 rw [ap]
 clear ap
 have i0:=hv.to zb
 have i1:=hu.to zb
 have gb:Below W0.heap.size W0 W0:=Below.refl _ _
 obtain ⟨⟨z0,ae,af,ai,ak⟩,⟨z1,am,an,aB,aC⟩,⟨z2,bl,bm,bU,bH,bJ,bZ⟩⟩:=aq.out _ gb
 refine (zaH _ ld _ (i1.to gb) (by omega)).mono ?_
 rintro e w1 ⟨rfl,rfl⟩
 go_wp2_with fail
 refine (zM (!b == c) _ _ _ _ _ (i0.to gb) (i1.to gb) h1 h2 q H9.out hs).mono ?_
 clear ae ai af ak am aB an aC bl bH bm bJ bU bZ
 rintro e w2 ⟨ng2,a2_,n2_,c2_,p2_,m2_,k2_,rfl,g2,aM⟩
 replace gb:=bS gb aM
 obtain ⟨⟨z0,ae,af,ai,ak⟩,⟨z1,am,an,aB,aC⟩,⟨z2,bl,bm,bU,bH,bJ,bZ⟩⟩:=aq.out _ gb
 go_wp2_with fail
 refine bodyPost_ret (zm Tryz.results148 _ _ _ _ _ _ rfl (Tri.set (x0:=.bool false) (y0:=.slice none 0 0) (z0:=.slice none 0 0) ⟨bl,bm,bU,bH,bJ,bZ⟩ _ _ _)) rfl (zbB (bS zb gb) (by omega) ?_ g2)
 omega

theorem zgv (n z:Int) (w:World) (hz:z=n) (m0:-9223372036854775808<=n) (m1:n<9223372036854775808) :
  Calls Tryz.prog 38 #[.int .i64 n] w (zan w (z:Rat)):=by
 have Hz:=Lib.hid hz
 have S1:=Lib.hid (zdX (z:=z) (by omega) (by omega))
 have S2:=Lib.hid (show szq (z:Rat)<=1000 from zjp S1.out)
 have K2:=Lib.hid (show (za (1:Int).toNat).length<=3000 by decide +kernel)
 have H9:=Lib.hid (show ∀ ng,decide (z<0)=ng->rat ng (val (za z.natAbs)) (val (za (1:Int).toNat))=(z:Rat) from fun ng e => by rw [<- e];exact zjf z)
 clear hz
 go_enter Tryz.func38,Tryz.ntmps38
 go_wp2_with fail
 obtain ⟨W0,ap⟩:∃ W0,w.alloc (.cells #[.bool false,.slice none 0 0,.slice none 0 0] 47)=W0:=⟨_,rfl⟩
 have aq:=Lib.hid (show ∀ W',Below W0.heap.size W0 W'->(Bx3 W' w.heap.size (.bool false) (.slice none 0 0) (.slice none 0 0)) from fun W' hb => by
   apply bx3 hb
   all_goals first|assumption|(rw [<- ap];simp [go_sem]))
 have zb:Below w.heap.size w W0:=by rw [<- ap];exact bN _ _
 rw [ap]
 clear ap
 have gb:Below W0.heap.size W0 W0:=Below.refl _ _
 obtain ⟨z0,ae,af,ah,ai,ak,al⟩:=aq.out _ gb
 refine (of_c n z _ Hz.out m0 m1).mono ?_
 clear ae ai af ak ah al
 rintro e w1 ⟨ng1,a1_,n1_,c1_,rfl,g1,aS⟩
 replace gb:=bS gb aS
 obtain ⟨z0,ae,af,ah,ai,ak,al⟩:=aq.out _ gb
 go_wp2_with fail
 obtain ⟨W1,aJ⟩:∃ W1,w1.alloc (.cells #[.bool ng1,.slice a1_ n1_ c1_] 95)=W1:=⟨_,rfl⟩
 have hb_W1:Below w1.heap.size w1 W1:=by rw [<- aJ];exact bN _ _
 clear ae ai af ak ah al
 replace g1:=g1.to hb_W1
 replace gb:=bS gb hb_W1
 obtain ⟨z0,ae,af,ah,ai,ak,al⟩:=aq.out _ gb
 have cK:W1.cell? ⟨w1.heap.size,0,none⟩=some (.bool ng1):=by rw [<- aJ];simp [go_sem]
 have cN:W1.frozen? ⟨w1.heap.size,0,none⟩=false:=by rw [<- aJ];simp [go_sem]
 have cL:W1.cell? ⟨w1.heap.size,1,none⟩=some (.slice a1_ n1_ c1_):=by rw [<- aJ];simp [go_sem]
 have cO:W1.frozen? ⟨w1.heap.size,1,none⟩=false:=by rw [<- aJ];simp [go_sem]
 have z3:w1.heap.size<W1.heap.size:=by rw [<- aJ];simp
 rw [aJ]
 clear aJ
 replace zb:=bS zb gb
 have bX:=Lib.hid (show ∀ W',Below W1.heap.size W1 W'->(Bx3 W' w.heap.size (.bool false) (.slice none 0 0) (.slice none 0 0)/\Bx2 W' w1.heap.size (.bool ng1) (.slice a1_ n1_ c1_)) from fun W' hb => by
   refine ⟨bx3 hb ?_ ?_ ?_ ?_ ?_ ?_,bx2 hb ?_ ?_ ?_ ?_⟩
   all_goals first|assumption|assumption)
 replace gb:=Below.refl W1.heap.size W1
 go_wp2_with fail
 have H8:=Lib.hid (H9.out ng1 (by have k:=g1.2.1;exact k))
 have nz3:w1.heap.size≠w.heap.size:=by omega
 go_region_held3 (fun W' => W'.cell? ⟨w1.heap.size,0,none⟩=some (.bool ng1)/\W'.cell? ⟨w1.heap.size,1,none⟩=some (.slice a1_ n1_ c1_)) (first|(with_reducible exact ⟨cK,cL⟩)|(with_reducible exact ⟨cP (cP (cP (cK) (.inl nz3) _) (.inl nz3) _) (.inl nz3) _,cP (cP (cP (cL) (.inl nz3) _) (.inl nz3) _) (.inl nz3) _⟩)|exact ⟨cK,cL⟩) (first
  | (go_at_call 62;(with_reducible refine (zM ng1 _ _ _ _ _ (g1.to gb).isI.up g2.rd (Nat.le_trans S1.out (by omega)) K2.out (z:Rat) H8.out S2).mono ?_);rintro e w3 ⟨ng3,a3_,n3_,c3_,p3_,m3_,k3_,rfl,g3,bY⟩;have g2:=g2.to bY;have gb:=bS gb bY;obtain ⟨⟨z0,ae,af,ah,ai,ak,al⟩,⟨z3,cK,cL,cN,cO⟩⟩:=bX.out _ gb)
  | (go_at_call 63;have gb:=gb.drew;(with_reducible refine (zct 1 _ (by omega) (by omega)).mono ?_);rintro e w2 ⟨v2,rfl,g2,aM⟩;obtain ⟨a2_,n2_,c2_,rfl,H2,hm2⟩:=g2.rd.open;have gb:=bS gb aM;obtain ⟨⟨z0,ae,af,ah,ai,ak,al⟩,⟨z3,cK,cL,cN,cO⟩⟩:=bX.out _ gb))
 go_wp2_with fail
 refine bodyPost_ret (zZ Tryz.results38 _ _ _ _ _ _ rfl (Tri.set (x0:=.bool false) (y0:=.slice none 0 0) (z0:=.slice none 0 0) ⟨ae,af,ah,ai,ak,al⟩ _ _ _)) rfl (zdH (bS zb gb) (by omega) ?_ g3)
 omega

end Go.Proofs.YtkjcdnlpjldhaaaGreat


namespace Go.Proofs.YtkjcdnlpjldhaaaGreat
open Go.RowKit Tw
attribute [local go_sem ↓] Go.wp_at_zero Go.wp_at_succ

theorem finZ1 {w w1:World} {rb:Nat} (hb:Below w.heap.size w w1) (hrb:w.heap.size<=rb) (hlt:rb<w1.heap.size) :
  zan w 0 (.returned (aggR false (.slice none 0 0) (.slice (some ⟨w1.heap.size,0,none⟩) 1 1))) ((zci w1 rb (.bool false) (.slice none 0 0) (.slice (some ⟨w1.heap.size,0,none⟩) 1 1)).alloc (.cells #[zaN 1] 97)):=by
 have bY:=bT hb hrb (.bool false) (.slice none 0 0) (.slice (some ⟨w1.heap.size,0,none⟩) 1 1)
 refine ⟨false,none,0,0,_,_,_,rfl,zet (by rw [show za (0:Rat).num.natAbs=[] by decide +kernel];exact Own.nil _ _) ?_ (by decide +kernel) (by decide +kernel),bS bY (bN _ _)⟩
 rw [show za (0:Rat).den=[1] by decide +kernel]
 exact (zaI (zci w1 rb (.bool false) (.slice none 0 0) (.slice (some ⟨w1.heap.size,0,none⟩) 1 1)) w1.heap.size [1] (by simp) (zbV (by omega)) (by simp [maxLen])).mono bY.size

theorem zgS (va vb:Value) (la lb:List Nat) (o:Bool) (w:World) (ha:Rd w va la) (hb:Rd w vb lb) (ho:Hid (decide (la=lb)=o)) :
  Calls Tryz.prog 46 #[va,vb] w fun e w' => e=.returned (.bool o)/\Below w.heap.size w w':=by
 by_cases h:la=lb
 ·subst h
  rw [<- ho.out,decide_eq_true rfl]
  exact ziS va vb la w ha hb
 ·rw [<- ho.out,decide_eq_false h]
  exact ziR va vb la lb w ha hb h

def IsF (w:World) (v u:Value) (ln ld:List Nat):Prop:=Rd w v ln/\Rd w u ld

theorem IsF.to {w w':World} {v u:Value} {ln ld:List Nat} (h:IsF w v u ln ld) (hb:Below w.heap.size w w'):IsF w' v u ln ld:=⟨h.1.to hb,h.2.to hb⟩

theorem IsF.drew {w:World} {v u:Value} {ln ld:List Nat} (h:IsF w v u ln ld):IsF w.drew v u ln ld:=⟨h.1.drew,h.2.drew⟩

theorem IsQ.isF {w:World} {b:Bool} {v u:Value} {ln ld:List Nat} {q:Rat} (h:IsQ w b v u ln ld q):IsF w v u ln ld:=⟨h.1,h.2.1⟩

theorem zad.isF {lo hi:Nat} {w:World} {b:Bool} {v u:Value} {q:Rat} (h:zad lo hi w b v u q):IsF w v u (za q.num.natAbs) (za q.den):=⟨h.1.rd,h.2.1.rd⟩

theorem zad.ng {lo hi:Nat} {w:World} {b:Bool} {v u:Value} {q:Rat} (h:zad lo hi w b v u q):decide (q<0)=b:=h.2.2.1

def zdQ (b:Bool) (ln ld:List Nat) (x:Rat):Bool:=decide (x<0) == b && decide (za x.num.natAbs=ln) && decide (za x.den=ld)

theorem zfi (b:Bool) (v u:Value) (ln ld:List Nat) (w:World) (hv:Rd w v ln) (hu:Rd w u ld) (h1:ln.length<=3000) (h2:ld.length<=3000) (h0:val ld=0) :
  Calls Tryz.prog 47 #[aggI b v,u] w (zan w (rat b (val ln) (val ld))):=by
 rw [h0,zbE]
 have Z0:=Lib.hid h0
 clear h0
 obtain ⟨a0,n0,c0,rfl,H0,hm0⟩:=hv.open
 obtain ⟨a1,n1,c1,rfl,H1,hm1⟩:=hu.open
 go_enter Tryz.func47,Tryz.ntmps47
 go_wp2_with fail
 obtain ⟨W0,ap⟩:∃ W0,(w.alloc (.cells #[.bool b,.slice a0 n0 c0] 95)).alloc (.cells #[.bool false,.slice none 0 0,.slice none 0 0] 47)=W0:=⟨_,rfl⟩
 have aq:=Lib.hid (show ∀ W',Below W0.heap.size W0 W'->(Bx2 W' w.heap.size (.bool b) (.slice a0 n0 c0)/\Bx3 W' (w.heap.size+1) (.bool false) (.slice none 0 0) (.slice none 0 0)) from fun W' hb => by
   refine ⟨bx2 hb ?_ ?_ ?_ ?_,bx3 hb ?_ ?_ ?_ ?_ ?_ ?_⟩
   all_goals first|assumption|(rw [<- ap];simp [go_sem]))
 have zb:Below w.heap.size w W0:=by rw [<- ap];exact bS (bN _ _) (bN _ _)
 rw [ap]
 clear ap
 have i0:=hv.to zb
 have i1:=hu.to zb
 have gb:Below W0.heap.size W0 W0:=Below.refl _ _
 obtain ⟨⟨z0,ae,af,ai,ak⟩,⟨z1,am,an,aw,aB,aC,aD⟩⟩:=aq.out _ gb
 refine (zfh _ _ ln ld _ (i0.to gb) (i1.to gb) (by omega) Z0.out).mono ?_
 clear ae ai af ak am aB an aC aw aD
 rintro e w1 ⟨rfl,aS⟩
 replace gb:=bS gb aS
 obtain ⟨⟨z0,ae,af,ai,ak⟩,⟨z1,am,an,aw,aB,aC,aD⟩⟩:=aq.out _ gb
 go_wp2_with fail
 refine bodyPost_ret (zZ Tryz.results47 _ _ _ _ _ _ rfl (Tri.alloc (Tri.set (x0:=.bool false) (y0:=.slice none 0 0) (z0:=.slice none 0 0) ⟨am,an,aw,aB,aC,aD⟩ _ _ _) _)) rfl (finZ1 (bS zb gb) (by omega) (by omega))

theorem zdP (b:Bool) (v u:Value) (ln ld:List Nat) (w:World) (hv:Rd w v ln) (hu:Rd w u ld) (h1:ln.length<=3000) (h2:ld.length<=3000) (h0:0<val ld) (h3:val ln=0) :
  Calls Tryz.prog 47 #[aggI b v,u] w (zan w (rat b (val ln) (val ld))):=by
 rw [h3,zbF]
 have Z0:=Lib.hid h0
 have Z3:=Lib.hid (show za (val ln / Nat.gcd (val ln) (val ld))=[] by rw [h3,Nat.zero_div];rfl)
 clear h0 h3
 obtain ⟨a0,n0,c0,rfl,H0,hm0⟩:=hv.open
 obtain ⟨a1,n1,c1,rfl,H1,hm1⟩:=hu.open
 go_enter Tryz.func47,Tryz.ntmps47
 go_wp2_with fail
 obtain ⟨W0,ap⟩:∃ W0,(w.alloc (.cells #[.bool b,.slice a0 n0 c0] 95)).alloc (.cells #[.bool false,.slice none 0 0,.slice none 0 0] 47)=W0:=⟨_,rfl⟩
 have aq:=Lib.hid (show ∀ W',Below W0.heap.size W0 W'->(Bx2 W' w.heap.size (.bool b) (.slice a0 n0 c0)/\Bx3 W' (w.heap.size+1) (.bool false) (.slice none 0 0) (.slice none 0 0)) from fun W' hb => by
   refine ⟨bx2 hb ?_ ?_ ?_ ?_,bx3 hb ?_ ?_ ?_ ?_ ?_ ?_⟩
   all_goals first|assumption|(rw [<- ap];simp [go_sem]))
 have zb:Below w.heap.size w W0:=by rw [<- ap];exact bS (bN _ _) (bN _ _)
 rw [ap]
 clear ap
 have i0:=hv.to zb
 have i1:=hu.to zb
 have gb:Below W0.heap.size W0 W0:=Below.refl _ _
 obtain ⟨⟨z0,ae,af,ai,ak⟩,⟨z1,am,an,aw,aB,aC,aD⟩⟩:=aq.out _ gb
 refine (zeg _ _ ln ld _ (i0.to gb) (i1.to gb) (by omega) (by omega) Z0.out).mono ?_
 clear ae ai af ak am aB an aC aw aD
 rintro e w1 ⟨v1,u1,rfl,g1,d1,aS⟩
 obtain ⟨a1_,n1_,c1_,rfl,H1,hm1⟩:=g1.rd.open
 obtain ⟨p1_,m1_,k1_,rfl,J1,jm1⟩:=d1.rd.open
 replace gb:=bS gb aS
 obtain ⟨⟨z0,ae,af,ai,ak⟩,⟨z1,am,an,aw,aB,aC,aD⟩⟩:=aq.out _ gb
 obtain rfl:n1_=0:=by rw [<- H1.out,Z3.out];rfl
 go_wp2_with fail
 refine bodyPost_ret (zZ Tryz.results47 _ _ _ _ _ _ rfl (Tri.alloc (Tri.set (x0:=.bool false) (y0:=.slice none 0 0) (z0:=.slice none 0 0) ⟨am,an,aw,aB,aC,aD⟩ _ _ _) _)) rfl (finZ1 (bS zb gb) (by omega) (by omega))

theorem zdO (b:Bool) (v u:Value) (ln ld:List Nat) (w:World) (hv:Rd w v ln) (hu:Rd w u ld) (h1:ln.length<=3000) (h2:ld.length<=3000) (h0:0<val ld) (h3:0<val ln) (hs:szq (rat b (val ln) (val ld))<=1000) :
  Calls Tryz.prog 47 #[aggI b v,u] w (zan w (rat b (val ln) (val ld))):=by
 have Z0:=Lib.hid h0
 have Z3:=Lib.hid h3
 have Hs:=Lib.hid hs
 have H4:=Lib.hid (Nat.ne_of_gt (zeR h3 h0))
 clear h0 h3 hs
 obtain ⟨a0,n0,c0,rfl,H0,hm0⟩:=hv.open
 obtain ⟨a1,n1,c1,rfl,H1,hm1⟩:=hu.open
 go_enter Tryz.func47,Tryz.ntmps47
 go_wp2_with fail
 obtain ⟨W0,ap⟩:∃ W0,(w.alloc (.cells #[.bool b,.slice a0 n0 c0] 95)).alloc (.cells #[.bool false,.slice none 0 0,.slice none 0 0] 47)=W0:=⟨_,rfl⟩
 have aq:=Lib.hid (show ∀ W',Below W0.heap.size W0 W'->(Bx2 W' w.heap.size (.bool b) (.slice a0 n0 c0)/\Bx3 W' (w.heap.size+1) (.bool false) (.slice none 0 0) (.slice none 0 0)) from fun W' hb => by
   refine ⟨bx2 hb ?_ ?_ ?_ ?_,bx3 hb ?_ ?_ ?_ ?_ ?_ ?_⟩
   all_goals first|assumption|(rw [<- ap];simp [go_sem]))
 have zb:Below w.heap.size w W0:=by rw [<- ap];exact bS (bN _ _) (bN _ _)
 rw [ap]
 clear ap
 have i0:=hv.to zb
 have i1:=hu.to zb
 have gb:Below W0.heap.size W0 W0:=Below.refl _ _
 obtain ⟨⟨z0,ae,af,ai,ak⟩,⟨z1,am,an,aw,aB,aC,aD⟩⟩:=aq.out _ gb
 refine (zeg _ _ ln ld _ (i0.to gb) (i1.to gb) (by omega) (by omega) Z0.out).mono ?_
 clear ae ai af ak am aB an aC aw aD
 rintro e w1 ⟨v1,u1,rfl,g1,d1,aS⟩
 obtain ⟨a1_,n1_,c1_,rfl,H1,hm1⟩:=g1.rd.open
 obtain ⟨p1_,m1_,k1_,rfl,J1,jm1⟩:=d1.rd.open
 replace gb:=bS gb aS
 obtain ⟨⟨z0,ae,af,ai,ak⟩,⟨z1,am,an,aw,aB,aC,aD⟩⟩:=aq.out _ gb
 have hn1:0<n1_:=by rw [<- H1.out];have:=H4.out;rw [zc];exact Nat.pos_of_ne_zero fun e => this (zz.1 e)
 go_wp2_with fail
 have gg:=canR g1 d1 Z0.out Z3.out Hs.out
 refine bodyPost_ret (zZ Tryz.results47 _ _ _ _ _ _ rfl (Tri.set (x0:=.bool false) (y0:=.slice none 0 0) (z0:=.slice none 0 0) (⟨am,an,aw,aB,aC,aD⟩) _ _ _)) rfl (zdH (bS zb gb) (by omega) ?_ gg)
 omega

theorem zhy (b:Bool) (v u:Value) (ln ld:List Nat) (w:World) (hv:Rd w v ln) (hu:Rd w u ld) (h1:ln.length<=3000) (h2:ld.length<=3000) (q:Rat) (hq:rat b (val ln) (val ld)=q) (hs:Hid (szq q<=1000)) :
  Calls Tryz.prog 47 #[aggI b v,u] w (zan w q):=by
 subst hq
 rcases Nat.eq_zero_or_pos (val ld) with h0|h0
 ·exact zfi b v u ln ld w hv hu h1 h2 h0
 rcases Nat.eq_zero_or_pos (val ln) with h3|h3
 ·exact zdP b v u ln ld w hv hu h1 h2 h0 h3
 ·exact zdO b v u ln ld w hv hu h1 h2 h0 h3 hs.out

theorem ziy (b:Bool) (v u:Value) (ln ld:List Nat) (c:Bool) (v' u':Value) (ln' ld':List Nat) (w:World) (h:IsF w v u ln ld) (h':IsF w v' u' ln' ld') (o:Bool) (ho:(b == c && decide (ln=ln') && decide (ld=ld'))=o) :
  Calls Tryz.prog 24 #[aggR b v u,aggR c v' u'] w (fun e w' => e=.returned (.bool o)/\Below w.heap.size w w'):=by
 obtain ⟨o1,ho1⟩:∃ o,decide (ln=ln')=o:=⟨_,rfl⟩
 obtain ⟨o2,ho2⟩:∃ o,decide (ld=ld')=o:=⟨_,rfl⟩
 have O1:=Lib.hid ho1
 have O2:=Lib.hid ho2
 rw [ho1,ho2] at ho
 clear ho1 ho2
 obtain ⟨a0,n0,c0,rfl,H0,hm0⟩:=h.1.open
 obtain ⟨a1,n1,c1,rfl,H1,hm1⟩:=h.2.open
 obtain ⟨a2,n2,c2,rfl,H2,hm2⟩:=h'.1.open
 obtain ⟨a3,n3,c3,rfl,H3,hm3⟩:=h'.2.open
 have ho':=Lib.hid ho
 clear ho
 rcases Bool.eq_false_or_eq_true (b == c) with e1|e1
 rotate_left
 ·rw [e1] at ho'
  go_enter Tryz.func24,Tryz.ntmps24
  go_wp2_with fail
  obtain ⟨W0,ap⟩:∃ W0,(w.alloc (.cells #[.bool b,.slice a0 n0 c0,.slice a1 n1 c1] 47)).alloc (.cells #[.bool c,.slice a2 n2 c2,.slice a3 n3 c3] 47)=W0:=⟨_,rfl⟩
  have aq:=Lib.hid (show ∀ W',Below W0.heap.size W0 W'->(Bx3 W' w.heap.size (.bool b) (.slice a0 n0 c0) (.slice a1 n1 c1)/\Bx3 W' (w.heap.size+1) (.bool c) (.slice a2 n2 c2) (.slice a3 n3 c3)) from fun W' hb => by
    refine ⟨bx3 hb ?_ ?_ ?_ ?_ ?_ ?_,bx3 hb ?_ ?_ ?_ ?_ ?_ ?_⟩
    all_goals first|assumption|(rw [<- ap];simp [go_sem]))
  have zb:Below w.heap.size w W0:=by rw [<- ap];exact bS (bN _ _) (bN _ _)
  rw [ap]
  clear ap
  have i0:=h.to zb
  have i1:=h'.to zb
  have gb:Below W0.heap.size W0 W0:=Below.refl _ _
  obtain ⟨⟨z0,ae,af,ah,ai,ak,al⟩,⟨z1,am,an,aw,aB,aC,aD⟩⟩:=aq.out _ gb
  go_ret
  exact ⟨zo (congrArg Value.bool (by have k:=ho'.out;simpa using k)),bS zb gb⟩
 rcases Bool.eq_false_or_eq_true o1 with e2|e2
 rotate_left
 ·rw [e1] at ho'
  go_enter Tryz.func24,Tryz.ntmps24
  go_wp2_with fail
  obtain ⟨W0,ap⟩:∃ W0,(w.alloc (.cells #[.bool b,.slice a0 n0 c0,.slice a1 n1 c1] 47)).alloc (.cells #[.bool c,.slice a2 n2 c2,.slice a3 n3 c3] 47)=W0:=⟨_,rfl⟩
  have aq:=Lib.hid (show ∀ W',Below W0.heap.size W0 W'->(Bx3 W' w.heap.size (.bool b) (.slice a0 n0 c0) (.slice a1 n1 c1)/\Bx3 W' (w.heap.size+1) (.bool c) (.slice a2 n2 c2) (.slice a3 n3 c3)) from fun W' hb => by
    refine ⟨bx3 hb ?_ ?_ ?_ ?_ ?_ ?_,bx3 hb ?_ ?_ ?_ ?_ ?_ ?_⟩
    all_goals first|assumption|(rw [<- ap];simp [go_sem]))
  have zb:Below w.heap.size w W0:=by rw [<- ap];exact bS (bN _ _) (bN _ _)
  rw [ap]
  clear ap
  have i0:=h.to zb
  have i1:=h'.to zb
  have gb:Below W0.heap.size W0 W0:=Below.refl _ _
  obtain ⟨⟨z0,ae,af,ah,ai,ak,al⟩,⟨z1,am,an,aw,aB,aC,aD⟩⟩:=aq.out _ gb
  refine (zgS _ _ _ _ o1 _ (i0.to gb).1 (i1.to gb).1 O1).mono ?_
  clear ae ai af ak ah al am aB an aC aw aD
  rintro e w1 ⟨rfl,aS⟩
  replace gb:=bS gb aS
  obtain ⟨⟨z0,ae,af,ah,ai,ak,al⟩,⟨z1,am,an,aw,aB,aC,aD⟩⟩:=aq.out _ gb
  obtain rfl:=e2
  go_wp2_with fail
  go_ret
  exact ⟨zo (congrArg Value.bool (by have k:=ho'.out;simpa using k)),bS zb gb⟩
 ·rw [e1] at ho'
  go_enter Tryz.func24,Tryz.ntmps24
  go_wp2_with fail
  obtain ⟨W0,ap⟩:∃ W0,(w.alloc (.cells #[.bool b,.slice a0 n0 c0,.slice a1 n1 c1] 47)).alloc (.cells #[.bool c,.slice a2 n2 c2,.slice a3 n3 c3] 47)=W0:=⟨_,rfl⟩
  have aq:=Lib.hid (show ∀ W',Below W0.heap.size W0 W'->(Bx3 W' w.heap.size (.bool b) (.slice a0 n0 c0) (.slice a1 n1 c1)/\Bx3 W' (w.heap.size+1) (.bool c) (.slice a2 n2 c2) (.slice a3 n3 c3)) from fun W' hb => by
    refine ⟨bx3 hb ?_ ?_ ?_ ?_ ?_ ?_,bx3 hb ?_ ?_ ?_ ?_ ?_ ?_⟩
    all_goals first|assumption|(rw [<- ap];simp [go_sem]))
  have zb:Below w.heap.size w W0:=by rw [<- ap];exact bS (bN _ _) (bN _ _)
  rw [ap]
  clear ap
  have i0:=h.to zb
  have i1:=h'.to zb
  have gb:Below W0.heap.size W0 W0:=Below.refl _ _
  obtain ⟨⟨z0,ae,af,ah,ai,ak,al⟩,⟨z1,am,an,aw,aB,aC,aD⟩⟩:=aq.out _ gb
  refine (zgS _ _ _ _ o1 _ (i0.to gb).1 (i1.to gb).1 O1).mono ?_
  clear ae ai af ak ah al am aB an aC aw aD
  rintro e w1 ⟨rfl,aS⟩
  replace gb:=bS gb aS
  obtain ⟨⟨z0,ae,af,ah,ai,ak,al⟩,⟨z1,am,an,aw,aB,aC,aD⟩⟩:=aq.out _ gb
  obtain rfl:=e2
  go_wp2_with fail
  refine (zgS _ _ _ _ o2 _ (i0.to gb).2 (i1.to gb).2 O2).mono ?_
  clear ae ai af ak ah al am aB an aC aw aD
  rintro e w2 ⟨rfl,aM⟩
  replace gb:=bS gb aM
  obtain ⟨⟨z0,ae,af,ah,ai,ak,al⟩,⟨z1,am,an,aw,aB,aC,aD⟩⟩:=aq.out _ gb
  go_wp2_with fail
  go_ret
  exact ⟨zo (congrArg Value.bool (by have k:=ho'.out;simpa using k)),bS zb gb⟩

end Go.Proofs.YtkjcdnlpjldhaaaGreat


namespace Go.Proofs.YtkjcdnlpjldhaaaGreat
open Go.RowKit Tw
attribute [local go_sem ↓] Go.wp_at_zero Go.wp_at_succ

theorem rof_c (n z:Int) (w:World) (hz:z=n) (n0:-9223372036854775808<=n) (n1:n<9223372036854775808) :
  Calls Tryz.prog 48 #[.int .i64 n] w (zeF w z) :=
 (ref7_of n z w hz n0 n1).mono fun e w' h => zgh rfl (Nat.le_trans (zdX (by omega) (by omega)) (by omega)) h

theorem zcb (n:Nat):((n:Int) == 0)=decide (n=0):=by
 rw [Bool.eq_iff_iff];simp

theorem zan.more {w w':World} {q:Rat} {e:Ending} (h:zan w q e w') (o:Obj):zan w q e (w'.alloc o):=by
 obtain ⟨ng,a,n,c,a',n',c',rfl,g,hb⟩:=h
 exact ⟨_,_,_,_,_,_,_,rfl,(g.alloc o).mono (Nat.le_refl _) (by simp),bS hb (bN _ _)⟩

theorem num_ne {x:Rat} (h:x≠0):x.num≠0:=fun e => h (Rat.num_eq_zero.1 e)

theorem zad.zeroQ {lo hi:Nat} {w:World} {ng o:Bool} {a:Option Addr} {n c:Nat} {u:Value} {x:Rat} (g:zad lo hi w ng (.slice a n c) u x) (h:decide (x=0)=o):decide (n=0)=o:=by
 obtain ⟨_,_,e⟩:=g.1.rd.shape
 injection e with _ e _
 rw [<- h,e,zc,decide_eq_decide,zz,Int.natAbs_eq_zero]
 exact Rat.num_eq_zero

theorem ziA {b:Bool} {ln ld:List Nat} (hn:Small ln) (hd:Small ld) :
  zdQ b ln ld (rat b (val ln) (val ld))=(decide (sz (val ln)=ln.length) && decide (sz (val ld)=ld.length) && (Nat.gcd (val ln) (val ld) == 1) && decide (0<ld.length) && !(b && decide (ln.length=0))):=by
 rw [Bool.eq_iff_iff]
 unfold zdQ
 simp only [Bool.and_eq_true,beq_iff_eq,decide_eq_true_eq,Bool.not_eq_true',<- zdc hn,<- zdc hd]
 by_cases h0:val ld=0
 ·rw [h0,zbE]
  constructor
  ·rintro ⟨_,h⟩
   rw [<- h,vL] at h0
   exact absurd h0 (by decide)
  ·rintro ⟨⟨⟨⟨_,h1⟩,_⟩,h2⟩,_⟩
   rw [<- h1] at h2
   exact absurd h2 (by simp [zt])
 ·rw [zgt h0,zgs h0]
  have hp:0<ld.length:=by
   refine Nat.pos_of_ne_zero fun e => h0 ?_
   rw [List.length_eq_zero_iff.1 e];rfl
  constructor
  ·rintro ⟨⟨h1,h2⟩,h3⟩
   have e2:=congrArg val h2
   have e3:=congrArg val h3
   rw [vL] at e2 e3
   have hg:Nat.gcd (val ln) (val ld)=1:=by
    have h5:Nat.gcd (val ln) (val ld) ∣ val ld:=Nat.gcd_dvd_right _ _
    have h6:=Nat.div_mul_cancel h5
    rw [e3] at h6
    exact Nat.eq_of_mul_eq_mul_left (Nat.pos_of_ne_zero h0) (by rw [h6,Nat.mul_one])
   rw [hg,Nat.div_one] at h2 h3
   refine ⟨⟨⟨⟨h2,h3⟩,hg⟩,hp⟩,?_⟩
   cases b with
   | false => rfl
   | true =>
    simp only [Bool.true_and,decide_eq_false_iff_not]
    intro hl
    rw [List.length_eq_zero_iff.1 hl,show val []=0 from rfl,zbF] at h1
    exact absurd h1 (by decide +kernel)
  ·rintro ⟨⟨⟨⟨h2,h3⟩,hg⟩,_⟩,h5⟩
   rw [hg,Nat.div_one,Nat.div_one]
   refine ⟨⟨?_,h2⟩,h3⟩
   by_cases hz:val ln=0
   ·rw [hz,zbF]
    rw [hz,zt] at h2
    rw [<- h2] at h5
    cases b with
    | false => decide +kernel
    | true => simp at h5
   ·exact zjg b h0 hz

theorem zkh {w:World} {b:Bool} {v u:Value} {ln ld:List Nat} {x:Rat} (h:IsQ w b v u ln ld x) :
  zdQ b ln ld x=(decide (sz (val ln)=ln.length) && decide (sz (val ld)=ld.length) && (Nat.gcd (val ln) (val ld) == 1) && decide (0<ld.length) && !(b && decide (ln.length=0))):=by
 rw [<- h.2.2.1]
 exact ziA h.1.1 h.2.1.1

theorem zabp (n z:Int) (w:World) (hz:z=n) (m0:-9223372036854775808<=n) (m1:n<9223372036854775808) :
  Calls Tryz.prog 25 #[.int .i64 n] w (zan w (z:Rat)):=by
 have Hz:=Lib.hid hz
 have S1:=Lib.hid (zdX (z:=z) (by omega) (by omega))
 have S2:=Lib.hid (show szq (z:Rat)<=1000 from zjp S1.out)
 have H9:=Lib.hid (show ∀ ng,decide (z<0)=ng->rat ng (val (za z.natAbs)) (val [1])=(z:Rat) from fun ng e => by rw [<- e,show val [1]=val (za (1:Int).toNat) by decide +kernel];exact zjf z)
 clear hz
 go_enter Tryz.func25,Tryz.ntmps25
 go_wp2_with fail
 obtain ⟨W0,ap⟩:∃ W0,w.alloc (.cells #[.bool false,.slice none 0 0,.slice none 0 0] 47)=W0:=⟨_,rfl⟩
 have aq:=Lib.hid (show ∀ W',Below W0.heap.size W0 W'->(Bx3 W' w.heap.size (.bool false) (.slice none 0 0) (.slice none 0 0)) from fun W' hb => by
   apply bx3 hb
   all_goals first|assumption|(rw [<- ap];simp [go_sem]))
 have zb:Below w.heap.size w W0:=by rw [<- ap];exact bN _ _
 rw [ap]
 clear ap
 have gb:Below W0.heap.size W0 W0:=Below.refl _ _
 obtain ⟨z0,ae,af,ah,ai,ak,al⟩:=aq.out _ gb
 refine (rof_c n z _ Hz.out m0 m1).mono ?_
 clear ae ai af ak ah al
 rintro e w1 ⟨ng1,a1_,n1_,c1_,rfl,g1,aS⟩
 replace gb:=bS gb aS
 obtain ⟨z0,ae,af,ah,ai,ak,al⟩:=aq.out _ gb
 go_wp2_with fail
 have H8:=Lib.hid (H9.out ng1 (by have k:=g1.2.1;exact k))
 obtain ⟨W1,aJ⟩:∃ W1,w1.alloc (.cells #[.int .u32 1] 97)=W1:=⟨_,rfl⟩
 have hb_W1:Below w1.heap.size w1 W1:=by rw [<- aJ];exact bN _ _
 have d_W1:Rd W1 (.slice (some ⟨w1.heap.size,0,none⟩) 1 1) [1]:=by rw [<- aJ];exact lit1 (a:=1) w1 (by omega)
 clear ae ai af ak ah al
 replace g1:=g1.to hb_W1
 replace gb:=bS gb hb_W1
 obtain ⟨z0,ae,af,ah,ai,ak,al⟩:=aq.out _ gb
 rw [aJ]
 clear aJ
 refine (zhy ng1 _ _ _ _ _ g1.isI.up d_W1 (Nat.le_trans S1.out (by omega)) (by simp) (z:Rat) H8.out S2).mono ?_
 clear ae ai af ak ah al
 rintro e w2 ⟨ng2,a2_,n2_,c2_,p2_,m2_,k2_,rfl,g2,aM⟩
 replace g1:=g1.to aM
 replace d_W1:=d_W1.to aM
 replace gb:=bS gb aM
 obtain ⟨z0,ae,af,ah,ai,ak,al⟩:=aq.out _ gb
 go_wp2_with fail
 refine bodyPost_ret (zZ Tryz.results25 _ _ _ _ _ _ rfl (Tri.set (x0:=.bool false) (y0:=.slice none 0 0) (z0:=.slice none 0 0) ⟨ae,af,ah,ai,ak,al⟩ _ _ _)) rfl (zdH (bS zb gb) (by omega) ?_ g2)
 omega

theorem zcI {x:Rat} (b:Bool) (v u:Value) (ln ld:List Nat) (w:World) (h:IsQ w b v u ln ld x) (o:Bool) (ho:zdQ b ln ld x=o) :
  Calls Tryz.prog 83 #[aggR b v u] w (fun e w' => e=.returned (.bool o)/\Below w.heap.size w w'):=by
 obtain ⟨r1,h1⟩:∃ r,decide (sz (val ln)=ln.length)=r:=⟨_,rfl⟩
 obtain ⟨r2,h2⟩:∃ r,decide (sz (val ld)=ld.length)=r:=⟨_,rfl⟩
 obtain ⟨r3,h3⟩:∃ r,(Nat.gcd (val ln) (val ld) == 1)=r:=⟨_,rfl⟩
 have R1:=Lib.hid h1
 have R2:=Lib.hid h2
 have R3:=Lib.hid h3
 have HO:=Lib.hid (show (r1 && r2 && r3 && decide (0<ld.length) && !(b && decide (ln.length=0)))=o by rw [<- ho,zkh h,h1,h2,h3])
 clear ho h1 h2 h3
 have L1:=h.lup
 have L2:=h.ldn
 obtain ⟨a0,n0,c0,rfl,H0,hm0⟩:=h.1.open
 obtain ⟨a1,n1,c1,rfl,H1,hm1⟩:=h.2.1.open
 rw [H0.out,H1.out] at HO
 have l1:=H0.out
 have l2:=H1.out
 rw [l1] at L1
 rw [l2] at L2
 clear l1 l2
 rcases Bool.eq_false_or_eq_true r1 with rfl|rfl
 rotate_left
 
 ·skip
  go_enter Tryz.func83,Tryz.ntmps83
  go_wp2_with fail
  obtain ⟨W0,ap⟩:∃ W0,w.alloc (.cells #[.bool b,.slice a0 n0 c0,.slice a1 n1 c1] 47)=W0:=⟨_,rfl⟩
  have aq:=Lib.hid (show ∀ W',Below W0.heap.size W0 W'->(Bx3 W' w.heap.size (.bool b) (.slice a0 n0 c0) (.slice a1 n1 c1)) from fun W' hb => by
    apply bx3 hb
    all_goals first|assumption|(rw [<- ap];simp [go_sem]))
  have zb:Below w.heap.size w W0:=by rw [<- ap];exact bN _ _
  rw [ap]
  clear ap
  have i0:=h.to zb
  have gb:Below W0.heap.size W0 W0:=Below.refl _ _
  obtain ⟨z0,ae,af,ah,ai,ak,al⟩:=aq.out _ gb
  refine (zbo _ _ _ (i0.to gb).up).mono ?_
  rintro e w1 ⟨rfl,rfl⟩
  rw [R1.out]
  go_wp2_with fail
  go_ret
  exact ⟨zo (congrArg Value.bool (by have k:=HO.out;first|(simpa using k)|(simpa [*] using k)|(rw [<- k];simp [*,zcb]))),bS zb gb⟩
 rcases Bool.eq_false_or_eq_true r2 with rfl|rfl
 rotate_left
 
 ·skip
  go_enter Tryz.func83,Tryz.ntmps83
  go_wp2_with fail
  obtain ⟨W0,ap⟩:∃ W0,w.alloc (.cells #[.bool b,.slice a0 n0 c0,.slice a1 n1 c1] 47)=W0:=⟨_,rfl⟩
  have aq:=Lib.hid (show ∀ W',Below W0.heap.size W0 W'->(Bx3 W' w.heap.size (.bool b) (.slice a0 n0 c0) (.slice a1 n1 c1)) from fun W' hb => by
    apply bx3 hb
    all_goals first|assumption|(rw [<- ap];simp [go_sem]))
  have zb:Below w.heap.size w W0:=by rw [<- ap];exact bN _ _
  rw [ap]
  clear ap
  have i0:=h.to zb
  have gb:Below W0.heap.size W0 W0:=Below.refl _ _
  obtain ⟨z0,ae,af,ah,ai,ak,al⟩:=aq.out _ gb
  refine (zbo _ _ _ (i0.to gb).up).mono ?_
  rintro e w1 ⟨rfl,rfl⟩
  rw [R1.out]
  go_wp2_with fail
  refine (zbo _ _ _ (i0.to gb).dn).mono ?_
  rintro e w1 ⟨rfl,rfl⟩
  rw [R2.out]
  go_wp2_with fail
  go_ret
  exact ⟨zo (congrArg Value.bool (by have k:=HO.out;first|(simpa using k)|(simpa [*] using k)|(rw [<- k];simp [*,zcb]))),bS zb gb⟩
 rcases Bool.eq_false_or_eq_true r3 with rfl|rfl
 rotate_left
 
 ·skip
  go_enter Tryz.func83,Tryz.ntmps83
  go_wp2_with fail
  obtain ⟨W0,ap⟩:∃ W0,w.alloc (.cells #[.bool b,.slice a0 n0 c0,.slice a1 n1 c1] 47)=W0:=⟨_,rfl⟩
  have aq:=Lib.hid (show ∀ W',Below W0.heap.size W0 W'->(Bx3 W' w.heap.size (.bool b) (.slice a0 n0 c0) (.slice a1 n1 c1)) from fun W' hb => by
    apply bx3 hb
    all_goals first|assumption|(rw [<- ap];simp [go_sem]))
  have zb:Below w.heap.size w W0:=by rw [<- ap];exact bN _ _
  rw [ap]
  clear ap
  have i0:=h.to zb
  have gb:Below W0.heap.size W0 W0:=Below.refl _ _
  obtain ⟨z0,ae,af,ah,ai,ak,al⟩:=aq.out _ gb
  refine (zbo _ _ _ (i0.to gb).up).mono ?_
  rintro e w1 ⟨rfl,rfl⟩
  rw [R1.out]
  go_wp2_with fail
  refine (zbo _ _ _ (i0.to gb).dn).mono ?_
  rintro e w1 ⟨rfl,rfl⟩
  rw [R2.out]
  go_wp2_with fail
  refine (zdn _ _ _ _ false _ (i0.to gb).up (i0.to gb).dn (by have:=h.lup;omega) (by have:=h.ldn;omega) R3).mono ?_
  clear ae ai af ak ah al
  rintro e w2 ⟨rfl,aM⟩
  replace gb:=bS gb aM
  obtain ⟨z0,ae,af,ah,ai,ak,al⟩:=aq.out _ gb
  go_wp2_with fail
  go_ret
  exact ⟨zo (congrArg Value.bool (by have k:=HO.out;first|(simpa using k)|(simpa [*] using k)|(rw [<- k];simp [*,zcb]))),bS zb gb⟩
 go_enter Tryz.func83,Tryz.ntmps83
 go_wp2_with fail
 obtain ⟨W0,ap⟩:∃ W0,w.alloc (.cells #[.bool b,.slice a0 n0 c0,.slice a1 n1 c1] 47)=W0:=⟨_,rfl⟩
 have aq:=Lib.hid (show ∀ W',Below W0.heap.size W0 W'->(Bx3 W' w.heap.size (.bool b) (.slice a0 n0 c0) (.slice a1 n1 c1)) from fun W' hb => by
   apply bx3 hb
   all_goals first|assumption|(rw [<- ap];simp [go_sem]))
 have zb:Below w.heap.size w W0:=by rw [<- ap];exact bN _ _
 rw [ap]
 clear ap
 have i0:=h.to zb
 have gb:Below W0.heap.size W0 W0:=Below.refl _ _
 obtain ⟨z0,ae,af,ah,ai,ak,al⟩:=aq.out _ gb
 refine (zbo _ _ _ (i0.to gb).up).mono ?_
 rintro e w1 ⟨rfl,rfl⟩
 rw [R1.out]
 go_wp2_with fail
 refine (zbo _ _ _ (i0.to gb).dn).mono ?_
 rintro e w1 ⟨rfl,rfl⟩
 rw [R2.out]
 go_wp2_with fail
 refine (zdn _ _ _ _ true _ (i0.to gb).up (i0.to gb).dn (by have:=h.lup;omega) (by have:=h.ldn;omega) R3).mono ?_
 clear ae ai af ak ah al
 rintro e w2 ⟨rfl,aM⟩
 replace gb:=bS gb aM
 obtain ⟨z0,ae,af,ah,ai,ak,al⟩:=aq.out _ gb
 rcases Nat.eq_zero_or_pos n1 with rfl|e1
 ·skip
  go_wp2_with fail
  go_ret
  exact ⟨zo (congrArg Value.bool (by have k:=HO.out;first|(simpa using k)|(simpa [*] using k)|(rw [<- k];simp [*,zcb]))),bS zb gb⟩
 rcases Bool.eq_false_or_eq_true b with rfl|rfl
 rotate_left
 ·skip
  go_wp2_with fail
  go_ret
  exact ⟨zo (congrArg Value.bool (by have k:=HO.out;first|(simpa using k)|(simpa [*] using k)|(rw [<- k];simp [*,zcb]))),bS zb gb⟩
 ·skip
  go_wp2_with fail
  go_ret
  exact ⟨zo (congrArg Value.bool (by have k:=HO.out;first|(simpa using k)|(simpa [*] using k)|(rw [<- k];simp [*,zcb]))),bS zb gb⟩

end Go.Proofs.YtkjcdnlpjldhaaaGreat


namespace Go.Proofs.YtkjcdnlpjldhaaaGreat
open Go.RowKit Tw
attribute [local go_sem ↓] Go.wp_at_zero Go.wp_at_succ

theorem zcl.ng {lo hi:Nat} {w:World} {b:Bool} {v:Value} {z:Int} (h:zcl lo hi w b v z):decide (z<0)=b:=h.2.1

theorem zdt {x y:Rat} (hx:szq x<=1000) (hy:szq y<=1000):(za (x.num*(y.den:Int)).natAbs).length<=3000:=by
 rw [zc]
 have h1:=zcw x.num (y.den:Int)
 have h2:=zaE x
 have h3:=zam y
 unfold szi at h1
 rw [Int.natAbs_natCast] at h1
 omega

theorem div_rat (x:Rat) {y:Rat} (h0:y≠0) :
  rat (decide (x.num*(y.den:Int)<0) != decide ((x.den:Int)*y.num<0)) (x.num*(y.den:Int)).natAbs ((x.den:Int)*y.num).natAbs=x / y:=by
 have h1:y.num≠0:=fun e => h0 (Rat.num_eq_zero.1 e)
 have hx:=x.den_pos
 have hy:=y.den_pos
 have e1:decide (x.num*(y.den:Int)<0)=decide (x.num<0):=by
  rw [decide_eq_decide]
  exact ⟨fun k => Int.not_le.1 fun k' => absurd (Int.mul_nonneg k' (Int.natCast_nonneg y.den)) (by omega),fun k => Int.mul_neg_of_neg_of_pos k (by omega)⟩
 have e2:decide ((x.den:Int)*y.num<0)=decide (y.num<0):=by
  rw [decide_eq_decide]
  exact ⟨fun k => Int.not_le.1 fun k' => absurd (Int.mul_nonneg (Int.natCast_nonneg x.den) k') (by omega),fun k => by rw [Int.mul_comm];exact Int.mul_neg_of_neg_of_pos k (by omega)⟩
 rw [e1,e2,Int.natAbs_mul,Int.natAbs_mul,Int.natAbs_natCast,Int.natAbs_natCast,<- zeC,Rat.div_def,<- zcu,<- zcu,zco]
 congr 1
 have hi:=zco y⁻¹
 rw [<- hi]
 have h3:=(zcu y⁻¹)
 rw [Rat.num_inv,Rat.den_inv,if_neg h1,Int.natAbs_mul,Int.natAbs_sign_of_ne_zero h1,Nat.one_mul,Int.natAbs_natCast]
 congr 1
 rw [zcu,zcu,Rat.num_inv,decide_eq_decide]
 rcases Int.lt_trichotomy y.num 0 with k|k|k
 ·rw [Int.sign_eq_neg_one_of_neg k];omega
 ·exact absurd k h1
 ·rw [Int.sign_eq_one_of_pos k];omega

theorem zgu {x y:Rat} (b:Bool) (v u:Value) (ln ld:List Nat) (c:Bool) (v' u':Value) (ln' ld':List Nat) (w:World) (h:IsQ w b v u ln ld x) (h':IsQ w c v' u' ln' ld' y) (h0:y=0) :
  Calls Tryz.prog 120 #[aggR b v u,aggR c v' u'] w (fun e w' => e=.returned (.tuple #[aggR false (.slice none 0 0) (.slice none 0 0),.int .i64 3])/\Below w.heap.size w w'):=by
 have Hx:Hid (szq x<=1000):=zaG h
 have Hy:Hid (szq y<=1000):=zaG h'
 have S1:=Lib.hid (show szi (x.num*(y.den:Int))<=90000 from zcP Hx.out Hy.out)
 have S2:=Lib.hid (show szi ((x.den:Int)*y.num)<=90000 by rw [Int.mul_comm];exact zcP Hy.out Hx.out)
 have S5:=Lib.hid (show (za (x.num*(y.den:Int)).natAbs).length<=3000 from zdt Hx.out Hy.out)
 have S6:=Lib.hid (show (za ((x.den:Int)*y.num).natAbs).length<=3000 by rw [Int.mul_comm];exact zdt Hy.out Hx.out)
 have HZ:=Lib.hid (show val (za ((x.den:Int)*y.num).natAbs)=0 by rw [vL,h0];simp)
 obtain ⟨a0,n0,c0,rfl,H0,hm0⟩:=h.1.open
 obtain ⟨a1,n1,c1,rfl,H1,hm1⟩:=h.2.1.open
 obtain ⟨a2,n2,c2,rfl,H2,hm2⟩:=h'.1.open
 obtain ⟨a3,n3,c3,rfl,H3,hm3⟩:=h'.2.1.open
 clear h0
 go_enter Tryz.func120,Tryz.ntmps120
 go_wp2_with fail
 obtain ⟨W0,ap⟩:∃ W0,((w.alloc (.cells #[.bool b,.slice a0 n0 c0,.slice a1 n1 c1] 47)).alloc (.cells #[.bool c,.slice a2 n2 c2,.slice a3 n3 c3] 47)).alloc (.cells #[.bool false,.slice none 0 0,.slice none 0 0] 47)=W0:=⟨_,rfl⟩
 have aq:=Lib.hid (show ∀ W',Below W0.heap.size W0 W'->(W'.cell? ⟨w.heap.size,0,none⟩=some (.bool b)/\W'.cell? ⟨w.heap.size,1,none⟩=some (.slice a0 n0 c0)/\W'.cell? ⟨w.heap.size,2,none⟩=some (.slice a1 n1 c1)/\W'.cell? ⟨w.heap.size+1,0,none⟩=some (.bool c)/\W'.cell? ⟨w.heap.size+1,1,none⟩=some (.slice a2 n2 c2)/\W'.cell? ⟨w.heap.size+1,2,none⟩=some (.slice a3 n3 c3)/\W'.cell? ⟨w.heap.size+1+1,0,none⟩=some (.bool false)/\W'.cell? ⟨w.heap.size+1+1,1,none⟩=some (.slice none 0 0)/\W'.cell? ⟨w.heap.size+1+1,2,none⟩=some (.slice none 0 0)) from fun W' hb =>
  by and_intros <;> exact kc hb (by first|assumption|(rw [<- ap];simp [go_sem])))
 have cf:=Lib.hid (show ∀ W',Below W0.heap.size W0 W'->(W'.frozen? ⟨w.heap.size,0,none⟩=false/\W'.frozen? ⟨w.heap.size,1,none⟩=false/\W'.frozen? ⟨w.heap.size,2,none⟩=false/\W'.frozen? ⟨w.heap.size+1,0,none⟩=false/\W'.frozen? ⟨w.heap.size+1,1,none⟩=false/\W'.frozen? ⟨w.heap.size+1,2,none⟩=false/\W'.frozen? ⟨w.heap.size+1+1,0,none⟩=false/\W'.frozen? ⟨w.heap.size+1+1,1,none⟩=false/\W'.frozen? ⟨w.heap.size+1+1,2,none⟩=false) from fun W' hb =>
  by and_intros <;> refine (hb.frozen ?_).trans ?_ <;> first|assumption|(rw [<- ap];simp [go_sem])|(rw [<- ap];simp <;> omega))
 have cg:=Lib.hid (show ∀ W',Below W0.heap.size W0 W'->(w.heap.size<W'.heap.size/\w.heap.size+1<W'.heap.size/\w.heap.size+1+1<W'.heap.size) from fun W' hb =>
  by and_intros <;> refine Nat.lt_of_lt_of_le ?_ hb.size <;> first|assumption|(rw [<- ap];simp <;> omega))
 have zb:Below w.heap.size w W0:=by rw [<- ap];exact bS (bS (bN _ _) (bN _ _)) (bN _ _)
 rw [ap]
 clear ap
 have i0:=h.to zb
 have i1:=h'.to zb
 have gb:Below W0.heap.size W0 W0:=Below.refl _ _
 obtain ⟨ae,af,ah,am,an,aw,bl,bm,bU⟩:=aq.out _ gb
 obtain ⟨ai,ak,al,aB,aC,aD,bH,bJ,bZ⟩:=cf.out _ gb
 obtain ⟨z0,z1,z2⟩:=cg.out _ gb
 have hgb:=gb
 go_upto_region 1 with fail
 go_cut [6,7] from 8 (fun s6 s7 wx => zbC W0 (x) s6 wx/\zbC W0 (y) s7 wx)
 case first =>
  go_region_held3 (fun W' => W'.cell? ⟨w.heap.size,0,none⟩=some (.bool b)/\W'.cell? ⟨w.heap.size,1,none⟩=some (.slice a0 n0 c0)/\W'.cell? ⟨w.heap.size,2,none⟩=some (.slice a1 n1 c1)/\W'.cell? ⟨w.heap.size+1,0,none⟩=some (.bool c)/\W'.cell? ⟨w.heap.size+1,1,none⟩=some (.slice a2 n2 c2)/\W'.cell? ⟨w.heap.size+1,2,none⟩=some (.slice a3 n3 c3)/\W'.cell? ⟨w.heap.size+1+1,0,none⟩=some (.bool false)/\W'.cell? ⟨w.heap.size+1+1,1,none⟩=some (.slice none 0 0)/\W'.cell? ⟨w.heap.size+1+1,2,none⟩=some (.slice none 0 0)) (with_reducible first|(exact aq.out _ gb)|((refine aq.out _ ?_);first|((refine Below.drew ?_);first|(exact gb)|((refine bT ?_ ?_ _ _ _);rotate_left;(first|(exact aG)|(exact aK)|(exact aH)|(exact aL));first|(exact gb)|((refine bT ?_ ?_ _ _ _);rotate_left;(first|(exact aG)|(exact aK)|(exact aH)|(exact aL));exact gb)|((refine bS ?_ (bN _ _));exact gb))|((refine bS ?_ (bN _ _));first|(exact gb)|((refine bT ?_ ?_ _ _ _);rotate_left;(first|(exact aG)|(exact aK)|(exact aH)|(exact aL));exact gb)|((refine bS ?_ (bN _ _));exact gb)))|(first|(exact gb)|((refine bT ?_ ?_ _ _ _);rotate_left;(first|(exact aG)|(exact aK)|(exact aH)|(exact aL));first|(exact gb)|((refine bT ?_ ?_ _ _ _);rotate_left;(first|(exact aG)|(exact aK)|(exact aH)|(exact aL));first|(exact gb)|((refine bT ?_ ?_ _ _ _);rotate_left;(first|(exact aG)|(exact aK)|(exact aH)|(exact aL));first|(exact gb)|((refine bT ?_ ?_ _ _ _);rotate_left;(first|(exact aG)|(exact aK)|(exact aH)|(exact aL));exact gb)|((refine bS ?_ (bN _ _));exact gb))|((refine bS ?_ (bN _ _));first|(exact gb)|((refine bT ?_ ?_ _ _ _);rotate_left;(first|(exact aG)|(exact aK)|(exact aH)|(exact aL));exact gb)|((refine bS ?_ (bN _ _));exact gb)))|((refine bS ?_ (bN _ _));first|(exact gb)|((refine bT ?_ ?_ _ _ _);rotate_left;(first|(exact aG)|(exact aK)|(exact aH)|(exact aL));first|(exact gb)|((refine bT ?_ ?_ _ _ _);rotate_left;(first|(exact aG)|(exact aK)|(exact aH)|(exact aL));exact gb)|((refine bS ?_ (bN _ _));exact gb))|((refine bS ?_ (bN _ _));first|(exact gb)|((refine bT ?_ ?_ _ _ _);rotate_left;(first|(exact aG)|(exact aK)|(exact aH)|(exact aL));exact gb)|((refine bS ?_ (bN _ _));exact gb))))|((refine bS ?_ (bN _ _));first|(exact gb)|((refine bT ?_ ?_ _ _ _);rotate_left;(first|(exact aG)|(exact aK)|(exact aH)|(exact aL));first|(exact gb)|((refine bT ?_ ?_ _ _ _);rotate_left;(first|(exact aG)|(exact aK)|(exact aH)|(exact aL));first|(exact gb)|((refine bT ?_ ?_ _ _ _);rotate_left;(first|(exact aG)|(exact aK)|(exact aH)|(exact aL));exact gb)|((refine bS ?_ (bN _ _));exact gb))|((refine bS ?_ (bN _ _));first|(exact gb)|((refine bT ?_ ?_ _ _ _);rotate_left;(first|(exact aG)|(exact aK)|(exact aH)|(exact aL));exact gb)|((refine bS ?_ (bN _ _));exact gb)))|((refine bS ?_ (bN _ _));first|(exact gb)|((refine bT ?_ ?_ _ _ _);rotate_left;(first|(exact aG)|(exact aK)|(exact aH)|(exact aL));first|(exact gb)|((refine bT ?_ ?_ _ _ _);rotate_left;(first|(exact aG)|(exact aK)|(exact aH)|(exact aL));exact gb)|((refine bS ?_ (bN _ _));exact gb))|((refine bS ?_ (bN _ _));first|(exact gb)|((refine bT ?_ ?_ _ _ _);rotate_left;(first|(exact aG)|(exact aK)|(exact aH)|(exact aL));exact gb)|((refine bS ?_ (bN _ _));exact gb))))))) (first
   | (go_at_call 142;(refine zg w1 (by with_reducible first|exact Below.refl _ _|exact bN _ _|exact bS (bN _ _) (bN _ _)) ?_);intro V2 dE bV;have dY:=bV.size;have dH:=gb.size;have g1:=g1.to bV;have gb:=bS gb bV;(try have ag:=ag.to bV);(try have bd:=bd.to bV);(try have aI:Tri V2 (w1.heap.size) (.bool false) (.slice none 0 0) (.slice none 0 0):=(by rw [dE];with_reducible first|exact zd _ (.bool false) (.slice none 0 0) (.slice none 0 0) _|exact (zd _ (.bool false) (.slice none 0 0) (.slice none 0 0) _).alloc _));have aH:W0.heap.size<=w1.heap.size:=(dH);have bi:w1.heap.size<=w1.heap.size:=(Nat.le_refl _);(try have bL:Tri V2 (w1.heap.size+1) (.bool false) (.slice none 0 0) (.slice none 0 0):=(by rw [dE];first|with_reducible exact zbW _ _ (.bool false) (.slice none 0 0) (.slice none 0 0) _));have aL:W0.heap.size<=w1.heap.size+1:=(Nat.le_succ_of_le dH);have bj:w1.heap.size<=w1.heap.size+1:=(Nat.le_succ _);(try have aN:=ag.lt);(try have bx:=bd.lt);(try have aO:=aI.lt);(try have bz:=bL.lt);(with_reducible refine (zbk c _ _ ln' ld' _ (i1.to gb) Hy).mono ?_);rintro e w2 ⟨ng2,a2_,n2_,c2_,p2_,m2_,k2_,rfl,g2,aM⟩;have g1:=g1.to aM;have gb:=bS gb aM;have dF:=aM.size;(try have ag:=ag.to aM);(try have bd:=bd.to aM);(try have aI:=aI.to aM);(try have bL:=bL.to aM);(try have b5:=ag.lt);(try have en:=bd.lt);(try have b6:=aI.lt);(try have eo:=bL.lt);(try (have aR:=ag;obtain ⟨bo,bq,bs,bt,bu,bv⟩:=aR));(try (have cR:=bd;obtain ⟨dw,dx,dy,dA,dB,dC⟩:=cR));(try (have bQ:=aI;obtain ⟨ci,ck,cl,cm,cn,cq⟩:=bQ));(try (have d5:=bL;obtain ⟨eu,ew,ey,eA,eB,eC⟩:=d5)))
   | (go_at_call 142;(refine zg W0 (by with_reducible first|exact (Below.refl _ _).drew|exact (bN _ _).drew|exact (bS (bN _ _) (bN _ _)).drew) ?_);intro V1 dD ch;have dX:=ch.size;have dG:=gb.size;have gb:=bS gb ch;(try have ag:Tri V1 (W0.heap.size) (.bool false) (.slice none 0 0) (.slice none 0 0):=(by rw [dD];with_reducible first|exact (zd _ (.bool false) (.slice none 0 0) (.slice none 0 0) _).drew|exact ((zd _ (.bool false) (.slice none 0 0) (.slice none 0 0) _).alloc _).drew));have aG:W0.heap.size<=W0.heap.size:=(dG);(try have bd:Tri V1 (W0.heap.size+1) (.bool false) (.slice none 0 0) (.slice none 0 0):=(by rw [dD];first|with_reducible exact (zbW _ _ (.bool false) (.slice none 0 0) (.slice none 0 0) _).drew));have aK:W0.heap.size<=W0.heap.size+1:=(Nat.le_succ_of_le dG);(try have bc:=ag.lt);(try have bw:=bd.lt);(with_reducible refine (zbk b _ _ ln ld _ (i0.to gb) Hx).mono ?_);rintro e w1 ⟨ng1,a1_,n1_,c1_,p1_,m1_,k1_,rfl,g1,aS⟩;have gb:=bS gb aS;have dj:=aS.size;(try have ag:=ag.to aS);(try have bd:=bd.to aS);(try have bn:=ag.lt);(try have b7:=bd.lt);(try (have aR:=ag;obtain ⟨bo,bq,bs,bt,bu,bv⟩:=aR));(try (have cR:=bd;obtain ⟨dw,dx,dy,dA,dB,dC⟩:=cR))))
  all_goals (go_wp2_with fail;go_meet)
  all_goals first
   | (with_reducible exact zh ag bd (Nat.ne_of_lt (Nat.lt_succ_self _)) g1 g2 (.inl bc) (.inl bw) (.inl aN) (.inl bx) gb aG aK)
   | (with_reducible exact zh ag aI (Nat.ne_of_lt bn) g1 g2 (.inl bc) (.inr bi) (.inl aN) (.inl aO) gb aG aH)
   | (with_reducible exact zh ag bL (Nat.ne_of_lt (Nat.lt_succ_of_lt bn)) g1 g2 (.inl bc) (.inr bj) (.inl aN) (.inl bz) gb aG aL)
   | (with_reducible exact zh bd ag ((Nat.ne_of_lt (Nat.lt_succ_self _)).symm) g1 g2 (.inl bw) (.inl bc) (.inl bx) (.inl aN) gb aK aG)
   | (with_reducible exact zh bd aI (Nat.ne_of_lt b7) g1 g2 (.inl bw) (.inr bi) (.inl bx) (.inl aO) gb aK aH)
   | (with_reducible exact zh bd bL (Nat.ne_of_lt (Nat.lt_succ_of_lt b7)) g1 g2 (.inl bw) (.inr bj) (.inl bx) (.inl bz) gb aK aL)
   | (with_reducible exact zh aI ag ((Nat.ne_of_lt bn).symm) g1 g2 (.inr bi) (.inl bc) (.inl aO) (.inl aN) gb aH aG)
   | (with_reducible exact zh aI bd ((Nat.ne_of_lt b7).symm) g1 g2 (.inr bi) (.inl bw) (.inl aO) (.inl bx) gb aH aK)
   | (with_reducible exact zh aI bL (Nat.ne_of_lt (Nat.lt_succ_self _)) g1 g2 (.inr bi) (.inr bj) (.inl aO) (.inl bz) gb aH aL)
   | (with_reducible exact zh bL ag ((Nat.ne_of_lt (Nat.lt_succ_of_lt bn)).symm) g1 g2 (.inr bj) (.inl bc) (.inl bz) (.inl aN) gb aL aG)
   | (with_reducible exact zh bL bd ((Nat.ne_of_lt (Nat.lt_succ_of_lt b7)).symm) g1 g2 (.inr bj) (.inl bw) (.inl bz) (.inl bx) gb aL aK)
   | (with_reducible exact zh bL aI ((Nat.ne_of_lt (Nat.lt_succ_self _)).symm) g1 g2 (.inr bj) (.inr bi) (.inl bz) (.inl aO) gb aL aH)
   | (with_reducible exact zq ag g1 g2 (.inl bc) (.inl aN) gb aG)
   | (with_reducible exact (zq ag g2 g1 (.inl aN) (.inl bc) gb aG).symm)
   | (with_reducible exact zq bd g1 g2 (.inl bw) (.inl bx) gb aK)
   | (with_reducible exact (zq bd g2 g1 (.inl bx) (.inl bw) gb aK).symm)
   | (with_reducible exact zq aI g1 g2 (.inr bi) (.inl aO) gb aH)
   | (with_reducible exact (zq aI g2 g1 (.inl aO) (.inr bi) gb aH).symm)
   | (with_reducible exact zq bL g1 g2 (.inr bj) (.inl bz) gb aL)
   | (with_reducible exact (zq bL g2 g1 (.inl bz) (.inr bj) gb aL).symm)
   | (with_reducible exact zbG g1 g2 gb)
   | (with_reducible exact (zbG g2 g1 gb).symm)
 case rest =>
 obtain ⟨⟨B5,ng1,a1_,n1_,c1_,p1_,m1_,k1_,lo5,hi5,rfl,hB5,T5,g1,hc5⟩,⟨B6,ng2,a2_,n2_,c2_,p2_,m2_,k2_,lo6,hi6,rfl,hB6,T6,g2,hc6⟩⟩:=hcut
 clear ae ai af ak ah al am aB an aC aw aD bl bH bm bJ bU bZ
 have gb:=hc5
 obtain ⟨ae,af,ah,am,an,aw,bl,bm,bU⟩:=aq.out _ gb
 obtain ⟨ai,ak,al,aB,aC,aD,bH,bJ,bZ⟩:=cf.out _ gb
 obtain ⟨z0,z1,z2⟩:=cg.out _ gb
 have z5:=T5.lt
 obtain ⟨bB,bE,bF,bM,bO,bP⟩:=T5
 have z6:=T6.lt
 obtain ⟨cw,cB,cC,cF,cG,cH⟩:=T6
 clear hgb
 obtain ⟨W1,aJ⟩:∃ W,wc=W:=⟨_,rfl⟩
 subst aJ
 replace i0:=i0.to gb
 replace i1:=i1.to gb
 replace zb:=bS zb gb
 have HXwc:=Lib.hid (show ∀ W',Below wc.heap.size wc W'->(Bx3 W' w.heap.size (.bool b) (.slice a0 n0 c0) (.slice a1 n1 c1)/\Bx3 W' (w.heap.size+1) (.bool c) (.slice a2 n2 c2) (.slice a3 n3 c3)/\Bx3 W' (w.heap.size+1+1) (.bool false) (.slice none 0 0) (.slice none 0 0)/\Bx3 W' B5 (.bool ng1) (.slice a1_ n1_ c1_) (.slice p1_ m1_ k1_)/\Bx3 W' B6 (.bool ng2) (.slice a2_ n2_ c2_) (.slice p2_ m2_ k2_)) from fun W' hb => by
   refine ⟨bx3 hb ?_ ?_ ?_ ?_ ?_ ?_,bx3 hb ?_ ?_ ?_ ?_ ?_ ?_,bx3 hb ?_ ?_ ?_ ?_ ?_ ?_,bx3 hb ?_ ?_ ?_ ?_ ?_ ?_,bx3 hb ?_ ?_ ?_ ?_ ?_ ?_⟩
   all_goals first|assumption|assumption)
 replace gb:=Below.refl wc.heap.size wc
 go_wp2_with fail
 have nz0:w.heap.size≠w.heap.size+1+1:=by omega
 have nz1:w.heap.size+1≠w.heap.size+1+1:=by omega
 have nz5:B5≠w.heap.size+1+1:=by omega
 have nz6:B6≠w.heap.size+1+1:=by omega
 go_region_held3 (fun W' => W'.cell? ⟨w.heap.size,0,none⟩=some (.bool b)/\W'.cell? ⟨w.heap.size,1,none⟩=some (.slice a0 n0 c0)/\W'.cell? ⟨w.heap.size,2,none⟩=some (.slice a1 n1 c1)/\W'.cell? ⟨w.heap.size+1,0,none⟩=some (.bool c)/\W'.cell? ⟨w.heap.size+1,1,none⟩=some (.slice a2 n2 c2)/\W'.cell? ⟨w.heap.size+1,2,none⟩=some (.slice a3 n3 c3)/\W'.cell? ⟨B5,0,none⟩=some (.bool ng1)/\W'.cell? ⟨B5,1,none⟩=some (.slice a1_ n1_ c1_)/\W'.cell? ⟨B5,2,none⟩=some (.slice p1_ m1_ k1_)/\W'.cell? ⟨B6,0,none⟩=some (.bool ng2)/\W'.cell? ⟨B6,1,none⟩=some (.slice a2_ n2_ c2_)/\W'.cell? ⟨B6,2,none⟩=some (.slice p2_ m2_ k2_)) (first|(with_reducible exact ⟨ae,af,ah,am,an,aw,bB,bE,bF,cw,cB,cC⟩)|(with_reducible exact ⟨cP (cP (cP (ae) (.inl nz0) _) (.inl nz0) _) (.inl nz0) _,cP (cP (cP (af) (.inl nz0) _) (.inl nz0) _) (.inl nz0) _,cP (cP (cP (ah) (.inl nz0) _) (.inl nz0) _) (.inl nz0) _,cP (cP (cP (am) (.inl nz1) _) (.inl nz1) _) (.inl nz1) _,cP (cP (cP (an) (.inl nz1) _) (.inl nz1) _) (.inl nz1) _,cP (cP (cP (aw) (.inl nz1) _) (.inl nz1) _) (.inl nz1) _,cP (cP (cP (bB) (.inl nz5) _) (.inl nz5) _) (.inl nz5) _,cP (cP (cP (bE) (.inl nz5) _) (.inl nz5) _) (.inl nz5) _,cP (cP (cP (bF) (.inl nz5) _) (.inl nz5) _) (.inl nz5) _,cP (cP (cP (cw) (.inl nz6) _) (.inl nz6) _) (.inl nz6) _,cP (cP (cP (cB) (.inl nz6) _) (.inl nz6) _) (.inl nz6) _,cP (cP (cP (cC) (.inl nz6) _) (.inl nz6) _) (.inl nz6) _⟩)|exact ⟨ae,af,ah,am,an,aw,bB,bE,bF,cw,cB,cC⟩) (first
  | (go_at_call 148;(with_reducible refine (zft ng13 ng16 _ _ _ _ _ g13.isI.up g16.isI.up S6.out HZ.out).mono ?_);rintro e w17 ⟨rfl,dh⟩;have g13:=g13.to dh;have g16:=g16.to dh;have gb:=bS gb dh;obtain ⟨⟨z0,ae,af,ah,ai,ak,al⟩,⟨z1,am,an,aw,aB,aC,aD⟩,⟨z2,bl,bm,bU,bH,bJ,bZ⟩,⟨z5,bB,bE,bF,bM,bO,bP⟩,⟨z6,cw,cB,cC,cF,cG,cH⟩⟩:=HXwc.out _ gb)
  | (go_at_call 144;(with_reducible refine (zfJ _ (g1.to gb).below (g2.to gb).above ((x.den:Int)*y.num) rfl S2).mono ?_);rintro e w16 ⟨ng16,a16_,n16_,c16_,rfl,g16,dW⟩;have g13:=g13.to dW;have gb:=bS gb dW;obtain ⟨⟨z0,ae,af,ah,ai,ak,al⟩,⟨z1,am,an,aw,aB,aC,aD⟩,⟨z2,bl,bm,bU,bH,bJ,bZ⟩,⟨z5,bB,bE,bF,bM,bO,bP⟩,⟨z6,cw,cB,cC,cF,cG,cH⟩⟩:=HXwc.out _ gb)
  | (go_at_call 145;(with_reducible refine (zbe _ _ _ _ _ _ (g2.to gb).isQ).mono ?_);rintro e w15 ⟨rfl,du⟩;have g13:=g13.to du;have gb:=bS gb du;obtain ⟨⟨z0,ae,af,ah,ai,ak,al⟩,⟨z1,am,an,aw,aB,aC,aD⟩,⟨z2,bl,bm,bU,bH,bJ,bZ⟩,⟨z5,bB,bE,bF,bM,bO,bP⟩,⟨z6,cw,cB,cC,cF,cG,cH⟩⟩:=HXwc.out _ gb)
  | (go_at_call 146;(with_reducible refine (zbf _ _ _ _ _ _ (g1.to gb).isQ).mono ?_);rintro e w14 ⟨rfl,d7⟩;have g13:=g13.to d7;have gb:=bS gb d7;obtain ⟨⟨z0,ae,af,ah,ai,ak,al⟩,⟨z1,am,an,aw,aB,aC,aD⟩,⟨z2,bl,bm,bU,bH,bJ,bZ⟩,⟨z5,bB,bE,bF,bM,bO,bP⟩,⟨z6,cw,cB,cC,cF,cG,cH⟩⟩:=HXwc.out _ gb)
  | (go_at_call 144;(with_reducible refine (zfJ _ (g1.to gb).above (g2.to gb).below (x.num*(y.den:Int)) rfl S1).mono ?_);rintro e w13 ⟨ng13,a13_,n13_,c13_,rfl,g13,dZ⟩;have gb:=bS gb dZ;obtain ⟨⟨z0,ae,af,ah,ai,ak,al⟩,⟨z1,am,an,aw,aB,aC,aD⟩,⟨z2,bl,bm,bU,bH,bJ,bZ⟩,⟨z5,bB,bE,bF,bM,bO,bP⟩,⟨z6,cw,cB,cC,cF,cG,cH⟩⟩:=HXwc.out _ gb)
  | (go_at_call 146;(with_reducible refine (zbf _ _ _ _ _ _ (g2.to gb).isQ).mono ?_);rintro e w12 ⟨rfl,da⟩;have gb:=bS gb da;obtain ⟨⟨z0,ae,af,ah,ai,ak,al⟩,⟨z1,am,an,aw,aB,aC,aD⟩,⟨z2,bl,bm,bU,bH,bJ,bZ⟩,⟨z5,bB,bE,bF,bM,bO,bP⟩,⟨z6,cw,cB,cC,cF,cG,cH⟩⟩:=HXwc.out _ gb)
  | (go_at_call 145;have gb:=gb.drew;(with_reducible refine (zbe _ _ _ _ _ _ (g1.to gb).isQ).mono ?_);rintro e w11 ⟨rfl,eM⟩;have gb:=bS gb eM;obtain ⟨⟨z0,ae,af,ah,ai,ak,al⟩,⟨z1,am,an,aw,aB,aC,aD⟩,⟨z2,bl,bm,bU,bH,bJ,bZ⟩,⟨z5,bB,bE,bF,bM,bO,bP⟩,⟨z6,cw,cB,cC,cF,cG,cH⟩⟩:=HXwc.out _ gb))
 go_wp2_with fail
 refine bodyPost_ret (zm Tryz.results120 _ _ _ _ _ _ rfl (Tri.set (x0:=.bool false) (y0:=.slice none 0 0) (z0:=.slice none 0 0) ⟨bl,bm,bU,bH,bJ,bZ⟩ _ _ _)) rfl ⟨rfl,bT (bS zb gb) (by omega) _ _ _⟩

theorem zjW {x y:Rat} (b:Bool) (v u:Value) (ln ld:List Nat) (c:Bool) (v' u':Value) (ln' ld':List Nat) (w:World) (h:IsQ w b v u ln ld x) (h':IsQ w c v' u' ln' ld' y) (h0:y≠0) (q:Rat) (hq:x / y=q) (hs:Hid (szq q<=1000)) :
  Calls Tryz.prog 120 #[aggR b v u,aggR c v' u'] w (zD w q):=by
 have Hx:Hid (szq x<=1000):=zaG h
 have Hy:Hid (szq y<=1000):=zaG h'
 have S1:=Lib.hid (show szi (x.num*(y.den:Int))<=90000 from zcP Hx.out Hy.out)
 have S2:=Lib.hid (show szi ((x.den:Int)*y.num)<=90000 by rw [Int.mul_comm];exact zcP Hy.out Hx.out)
 have S5:=Lib.hid (show (za (x.num*(y.den:Int)).natAbs).length<=3000 from zdt Hx.out Hy.out)
 have S6:=Lib.hid (show (za ((x.den:Int)*y.num).natAbs).length<=3000 by rw [Int.mul_comm];exact zdt Hy.out Hx.out)
 have HZ:=Lib.hid (show val (za ((x.den:Int)*y.num).natAbs)≠0 by
  rw [vL,Int.natAbs_mul]
  exact Nat.mul_ne_zero (by have:=x.den_nz;omega) (fun e => h0 (Rat.num_eq_zero.1 (Int.natAbs_eq_zero.1 e))))
 have H9:=Lib.hid (show ∀ ng ng',decide (x.num*(y.den:Int)<0)=ng->decide ((x.den:Int)*y.num<0)=ng'->rat (ng != ng') (val (za (x.num*(y.den:Int)).natAbs)) (val (za ((x.den:Int)*y.num).natAbs))=q from fun ng ng' e e' => by
  rw [<- e,<- e',vL,vL,div_rat x h0,hq])
 obtain ⟨a0,n0,c0,rfl,H0,hm0⟩:=h.1.open
 obtain ⟨a1,n1,c1,rfl,H1,hm1⟩:=h.2.1.open
 obtain ⟨a2,n2,c2,rfl,H2,hm2⟩:=h'.1.open
 obtain ⟨a3,n3,c3,rfl,H3,hm3⟩:=h'.2.1.open
 clear hq h0
 go_enter Tryz.func120,Tryz.ntmps120
 go_wp2_with fail
 obtain ⟨W0,ap⟩:∃ W0,((w.alloc (.cells #[.bool b,.slice a0 n0 c0,.slice a1 n1 c1] 47)).alloc (.cells #[.bool c,.slice a2 n2 c2,.slice a3 n3 c3] 47)).alloc (.cells #[.bool false,.slice none 0 0,.slice none 0 0] 47)=W0:=⟨_,rfl⟩
 have aq:=Lib.hid (show ∀ W',Below W0.heap.size W0 W'->(W'.cell? ⟨w.heap.size,0,none⟩=some (.bool b)/\W'.cell? ⟨w.heap.size,1,none⟩=some (.slice a0 n0 c0)/\W'.cell? ⟨w.heap.size,2,none⟩=some (.slice a1 n1 c1)/\W'.cell? ⟨w.heap.size+1,0,none⟩=some (.bool c)/\W'.cell? ⟨w.heap.size+1,1,none⟩=some (.slice a2 n2 c2)/\W'.cell? ⟨w.heap.size+1,2,none⟩=some (.slice a3 n3 c3)/\W'.cell? ⟨w.heap.size+1+1,0,none⟩=some (.bool false)/\W'.cell? ⟨w.heap.size+1+1,1,none⟩=some (.slice none 0 0)/\W'.cell? ⟨w.heap.size+1+1,2,none⟩=some (.slice none 0 0)) from fun W' hb =>
  by and_intros <;> exact kc hb (by first|assumption|(rw [<- ap];simp [go_sem])))
 have cf:=Lib.hid (show ∀ W',Below W0.heap.size W0 W'->(W'.frozen? ⟨w.heap.size,0,none⟩=false/\W'.frozen? ⟨w.heap.size,1,none⟩=false/\W'.frozen? ⟨w.heap.size,2,none⟩=false/\W'.frozen? ⟨w.heap.size+1,0,none⟩=false/\W'.frozen? ⟨w.heap.size+1,1,none⟩=false/\W'.frozen? ⟨w.heap.size+1,2,none⟩=false/\W'.frozen? ⟨w.heap.size+1+1,0,none⟩=false/\W'.frozen? ⟨w.heap.size+1+1,1,none⟩=false/\W'.frozen? ⟨w.heap.size+1+1,2,none⟩=false) from fun W' hb =>
  by and_intros <;> refine (hb.frozen ?_).trans ?_ <;> first|assumption|(rw [<- ap];simp [go_sem])|(rw [<- ap];simp <;> omega))
 have cg:=Lib.hid (show ∀ W',Below W0.heap.size W0 W'->(w.heap.size<W'.heap.size/\w.heap.size+1<W'.heap.size/\w.heap.size+1+1<W'.heap.size) from fun W' hb =>
  by and_intros <;> refine Nat.lt_of_lt_of_le ?_ hb.size <;> first|assumption|(rw [<- ap];simp <;> omega))
 have zb:Below w.heap.size w W0:=by rw [<- ap];exact bS (bS (bN _ _) (bN _ _)) (bN _ _)
 rw [ap]
 clear ap
 have i0:=h.to zb
 have i1:=h'.to zb
 have gb:Below W0.heap.size W0 W0:=Below.refl _ _
 obtain ⟨ae,af,ah,am,an,aw,bl,bm,bU⟩:=aq.out _ gb
 obtain ⟨ai,ak,al,aB,aC,aD,bH,bJ,bZ⟩:=cf.out _ gb
 obtain ⟨z0,z1,z2⟩:=cg.out _ gb
 have hgb:=gb
 go_upto_region 1 with fail
 go_cut [6,7] from 8 (fun s6 s7 wx => zbC W0 (x) s6 wx/\zbC W0 (y) s7 wx)
 case first =>
  go_region_held3 (fun W' => W'.cell? ⟨w.heap.size,0,none⟩=some (.bool b)/\W'.cell? ⟨w.heap.size,1,none⟩=some (.slice a0 n0 c0)/\W'.cell? ⟨w.heap.size,2,none⟩=some (.slice a1 n1 c1)/\W'.cell? ⟨w.heap.size+1,0,none⟩=some (.bool c)/\W'.cell? ⟨w.heap.size+1,1,none⟩=some (.slice a2 n2 c2)/\W'.cell? ⟨w.heap.size+1,2,none⟩=some (.slice a3 n3 c3)/\W'.cell? ⟨w.heap.size+1+1,0,none⟩=some (.bool false)/\W'.cell? ⟨w.heap.size+1+1,1,none⟩=some (.slice none 0 0)/\W'.cell? ⟨w.heap.size+1+1,2,none⟩=some (.slice none 0 0)) (with_reducible first|(exact aq.out _ gb)|((refine aq.out _ ?_);first|((refine Below.drew ?_);first|(exact gb)|((refine bT ?_ ?_ _ _ _);rotate_left;(first|(exact aG)|(exact aK)|(exact aH)|(exact aL));first|(exact gb)|((refine bT ?_ ?_ _ _ _);rotate_left;(first|(exact aG)|(exact aK)|(exact aH)|(exact aL));exact gb)|((refine bS ?_ (bN _ _));exact gb))|((refine bS ?_ (bN _ _));first|(exact gb)|((refine bT ?_ ?_ _ _ _);rotate_left;(first|(exact aG)|(exact aK)|(exact aH)|(exact aL));exact gb)|((refine bS ?_ (bN _ _));exact gb)))|(first|(exact gb)|((refine bT ?_ ?_ _ _ _);rotate_left;(first|(exact aG)|(exact aK)|(exact aH)|(exact aL));first|(exact gb)|((refine bT ?_ ?_ _ _ _);rotate_left;(first|(exact aG)|(exact aK)|(exact aH)|(exact aL));first|(exact gb)|((refine bT ?_ ?_ _ _ _);rotate_left;(first|(exact aG)|(exact aK)|(exact aH)|(exact aL));first|(exact gb)|((refine bT ?_ ?_ _ _ _);rotate_left;(first|(exact aG)|(exact aK)|(exact aH)|(exact aL));exact gb)|((refine bS ?_ (bN _ _));exact gb))|((refine bS ?_ (bN _ _));first|(exact gb)|((refine bT ?_ ?_ _ _ _);rotate_left;(first|(exact aG)|(exact aK)|(exact aH)|(exact aL));exact gb)|((refine bS ?_ (bN _ _));exact gb)))|((refine bS ?_ (bN _ _));first|(exact gb)|((refine bT ?_ ?_ _ _ _);rotate_left;(first|(exact aG)|(exact aK)|(exact aH)|(exact aL));first|(exact gb)|((refine bT ?_ ?_ _ _ _);rotate_left;(first|(exact aG)|(exact aK)|(exact aH)|(exact aL));exact gb)|((refine bS ?_ (bN _ _));exact gb))|((refine bS ?_ (bN _ _));first|(exact gb)|((refine bT ?_ ?_ _ _ _);rotate_left;(first|(exact aG)|(exact aK)|(exact aH)|(exact aL));exact gb)|((refine bS ?_ (bN _ _));exact gb))))|((refine bS ?_ (bN _ _));first|(exact gb)|((refine bT ?_ ?_ _ _ _);rotate_left;(first|(exact aG)|(exact aK)|(exact aH)|(exact aL));first|(exact gb)|((refine bT ?_ ?_ _ _ _);rotate_left;(first|(exact aG)|(exact aK)|(exact aH)|(exact aL));first|(exact gb)|((refine bT ?_ ?_ _ _ _);rotate_left;(first|(exact aG)|(exact aK)|(exact aH)|(exact aL));exact gb)|((refine bS ?_ (bN _ _));exact gb))|((refine bS ?_ (bN _ _));first|(exact gb)|((refine bT ?_ ?_ _ _ _);rotate_left;(first|(exact aG)|(exact aK)|(exact aH)|(exact aL));exact gb)|((refine bS ?_ (bN _ _));exact gb)))|((refine bS ?_ (bN _ _));first|(exact gb)|((refine bT ?_ ?_ _ _ _);rotate_left;(first|(exact aG)|(exact aK)|(exact aH)|(exact aL));first|(exact gb)|((refine bT ?_ ?_ _ _ _);rotate_left;(first|(exact aG)|(exact aK)|(exact aH)|(exact aL));exact gb)|((refine bS ?_ (bN _ _));exact gb))|((refine bS ?_ (bN _ _));first|(exact gb)|((refine bT ?_ ?_ _ _ _);rotate_left;(first|(exact aG)|(exact aK)|(exact aH)|(exact aL));exact gb)|((refine bS ?_ (bN _ _));exact gb))))))) (first
   | (go_at_call 142;(refine zg w1 (by with_reducible first|exact Below.refl _ _|exact bN _ _|exact bS (bN _ _) (bN _ _)) ?_);intro V2 dE bV;have dY:=bV.size;have dH:=gb.size;have g1:=g1.to bV;have gb:=bS gb bV;(try have ag:=ag.to bV);(try have bd:=bd.to bV);(try have aI:Tri V2 (w1.heap.size) (.bool false) (.slice none 0 0) (.slice none 0 0):=(by rw [dE];with_reducible first|exact zd _ (.bool false) (.slice none 0 0) (.slice none 0 0) _|exact (zd _ (.bool false) (.slice none 0 0) (.slice none 0 0) _).alloc _));have aH:W0.heap.size<=w1.heap.size:=(dH);have bi:w1.heap.size<=w1.heap.size:=(Nat.le_refl _);(try have bL:Tri V2 (w1.heap.size+1) (.bool false) (.slice none 0 0) (.slice none 0 0):=(by rw [dE];first|with_reducible exact zbW _ _ (.bool false) (.slice none 0 0) (.slice none 0 0) _));have aL:W0.heap.size<=w1.heap.size+1:=(Nat.le_succ_of_le dH);have bj:w1.heap.size<=w1.heap.size+1:=(Nat.le_succ _);(try have aN:=ag.lt);(try have bx:=bd.lt);(try have aO:=aI.lt);(try have bz:=bL.lt);(with_reducible refine (zbk c _ _ ln' ld' _ (i1.to gb) Hy).mono ?_);rintro e w2 ⟨ng2,a2_,n2_,c2_,p2_,m2_,k2_,rfl,g2,aM⟩;have g1:=g1.to aM;have gb:=bS gb aM;have dF:=aM.size;(try have ag:=ag.to aM);(try have bd:=bd.to aM);(try have aI:=aI.to aM);(try have bL:=bL.to aM);(try have b5:=ag.lt);(try have en:=bd.lt);(try have b6:=aI.lt);(try have eo:=bL.lt);(try (have aR:=ag;obtain ⟨bo,bq,bs,bt,bu,bv⟩:=aR));(try (have cR:=bd;obtain ⟨dw,dx,dy,dA,dB,dC⟩:=cR));(try (have bQ:=aI;obtain ⟨ci,ck,cl,cm,cn,cq⟩:=bQ));(try (have d5:=bL;obtain ⟨eu,ew,ey,eA,eB,eC⟩:=d5)))
   | (go_at_call 142;(refine zg W0 (by with_reducible first|exact (Below.refl _ _).drew|exact (bN _ _).drew|exact (bS (bN _ _) (bN _ _)).drew) ?_);intro V1 dD ch;have dX:=ch.size;have dG:=gb.size;have gb:=bS gb ch;(try have ag:Tri V1 (W0.heap.size) (.bool false) (.slice none 0 0) (.slice none 0 0):=(by rw [dD];with_reducible first|exact (zd _ (.bool false) (.slice none 0 0) (.slice none 0 0) _).drew|exact ((zd _ (.bool false) (.slice none 0 0) (.slice none 0 0) _).alloc _).drew));have aG:W0.heap.size<=W0.heap.size:=(dG);(try have bd:Tri V1 (W0.heap.size+1) (.bool false) (.slice none 0 0) (.slice none 0 0):=(by rw [dD];first|with_reducible exact (zbW _ _ (.bool false) (.slice none 0 0) (.slice none 0 0) _).drew));have aK:W0.heap.size<=W0.heap.size+1:=(Nat.le_succ_of_le dG);(try have bc:=ag.lt);(try have bw:=bd.lt);(with_reducible refine (zbk b _ _ ln ld _ (i0.to gb) Hx).mono ?_);rintro e w1 ⟨ng1,a1_,n1_,c1_,p1_,m1_,k1_,rfl,g1,aS⟩;have gb:=bS gb aS;have dj:=aS.size;(try have ag:=ag.to aS);(try have bd:=bd.to aS);(try have bn:=ag.lt);(try have b7:=bd.lt);(try (have aR:=ag;obtain ⟨bo,bq,bs,bt,bu,bv⟩:=aR));(try (have cR:=bd;obtain ⟨dw,dx,dy,dA,dB,dC⟩:=cR))))
  all_goals (go_wp2_with fail;go_meet)
  all_goals first
   | (with_reducible exact zh ag bd (Nat.ne_of_lt (Nat.lt_succ_self _)) g1 g2 (.inl bc) (.inl bw) (.inl aN) (.inl bx) gb aG aK)
   | (with_reducible exact zh ag aI (Nat.ne_of_lt bn) g1 g2 (.inl bc) (.inr bi) (.inl aN) (.inl aO) gb aG aH)
   | (with_reducible exact zh ag bL (Nat.ne_of_lt (Nat.lt_succ_of_lt bn)) g1 g2 (.inl bc) (.inr bj) (.inl aN) (.inl bz) gb aG aL)
   | (with_reducible exact zh bd ag ((Nat.ne_of_lt (Nat.lt_succ_self _)).symm) g1 g2 (.inl bw) (.inl bc) (.inl bx) (.inl aN) gb aK aG)
   | (with_reducible exact zh bd aI (Nat.ne_of_lt b7) g1 g2 (.inl bw) (.inr bi) (.inl bx) (.inl aO) gb aK aH)
   | (with_reducible exact zh bd bL (Nat.ne_of_lt (Nat.lt_succ_of_lt b7)) g1 g2 (.inl bw) (.inr bj) (.inl bx) (.inl bz) gb aK aL)
   | (with_reducible exact zh aI ag ((Nat.ne_of_lt bn).symm) g1 g2 (.inr bi) (.inl bc) (.inl aO) (.inl aN) gb aH aG)
   | (with_reducible exact zh aI bd ((Nat.ne_of_lt b7).symm) g1 g2 (.inr bi) (.inl bw) (.inl aO) (.inl bx) gb aH aK)
   | (with_reducible exact zh aI bL (Nat.ne_of_lt (Nat.lt_succ_self _)) g1 g2 (.inr bi) (.inr bj) (.inl aO) (.inl bz) gb aH aL)
   | (with_reducible exact zh bL ag ((Nat.ne_of_lt (Nat.lt_succ_of_lt bn)).symm) g1 g2 (.inr bj) (.inl bc) (.inl bz) (.inl aN) gb aL aG)
   | (with_reducible exact zh bL bd ((Nat.ne_of_lt (Nat.lt_succ_of_lt b7)).symm) g1 g2 (.inr bj) (.inl bw) (.inl bz) (.inl bx) gb aL aK)
   | (with_reducible exact zh bL aI ((Nat.ne_of_lt (Nat.lt_succ_self _)).symm) g1 g2 (.inr bj) (.inr bi) (.inl bz) (.inl aO) gb aL aH)
   | (with_reducible exact zq ag g1 g2 (.inl bc) (.inl aN) gb aG)
   | (with_reducible exact (zq ag g2 g1 (.inl aN) (.inl bc) gb aG).symm)
   | (with_reducible exact zq bd g1 g2 (.inl bw) (.inl bx) gb aK)
   | (with_reducible exact (zq bd g2 g1 (.inl bx) (.inl bw) gb aK).symm)
   | (with_reducible exact zq aI g1 g2 (.inr bi) (.inl aO) gb aH)
   | (with_reducible exact (zq aI g2 g1 (.inl aO) (.inr bi) gb aH).symm)
   | (with_reducible exact zq bL g1 g2 (.inr bj) (.inl bz) gb aL)
   | (with_reducible exact (zq bL g2 g1 (.inl bz) (.inr bj) gb aL).symm)
   | (with_reducible exact zbG g1 g2 gb)
   | (with_reducible exact (zbG g2 g1 gb).symm)
 case rest =>
 obtain ⟨⟨B5,ng1,a1_,n1_,c1_,p1_,m1_,k1_,lo5,hi5,rfl,hB5,T5,g1,hc5⟩,⟨B6,ng2,a2_,n2_,c2_,p2_,m2_,k2_,lo6,hi6,rfl,hB6,T6,g2,hc6⟩⟩:=hcut
 clear ae ai af ak ah al am aB an aC aw aD bl bH bm bJ bU bZ
 have gb:=hc5
 obtain ⟨ae,af,ah,am,an,aw,bl,bm,bU⟩:=aq.out _ gb
 obtain ⟨ai,ak,al,aB,aC,aD,bH,bJ,bZ⟩:=cf.out _ gb
 obtain ⟨z0,z1,z2⟩:=cg.out _ gb
 have z5:=T5.lt
 obtain ⟨bB,bE,bF,bM,bO,bP⟩:=T5
 have z6:=T6.lt
 obtain ⟨cw,cB,cC,cF,cG,cH⟩:=T6
 clear hgb
 obtain ⟨W1,aJ⟩:∃ W,wc=W:=⟨_,rfl⟩
 subst aJ
 replace i0:=i0.to gb
 replace i1:=i1.to gb
 replace zb:=bS zb gb
 have HXwc:=Lib.hid (show ∀ W',Below wc.heap.size wc W'->(Bx3 W' w.heap.size (.bool b) (.slice a0 n0 c0) (.slice a1 n1 c1)/\Bx3 W' (w.heap.size+1) (.bool c) (.slice a2 n2 c2) (.slice a3 n3 c3)/\Bx3 W' (w.heap.size+1+1) (.bool false) (.slice none 0 0) (.slice none 0 0)/\Bx3 W' B5 (.bool ng1) (.slice a1_ n1_ c1_) (.slice p1_ m1_ k1_)/\Bx3 W' B6 (.bool ng2) (.slice a2_ n2_ c2_) (.slice p2_ m2_ k2_)) from fun W' hb => by
   refine ⟨bx3 hb ?_ ?_ ?_ ?_ ?_ ?_,bx3 hb ?_ ?_ ?_ ?_ ?_ ?_,bx3 hb ?_ ?_ ?_ ?_ ?_ ?_,bx3 hb ?_ ?_ ?_ ?_ ?_ ?_,bx3 hb ?_ ?_ ?_ ?_ ?_ ?_⟩
   all_goals first|assumption|assumption)
 replace gb:=Below.refl wc.heap.size wc
 go_wp2_with fail
 have nz0:w.heap.size≠w.heap.size+1+1:=by omega
 have nz1:w.heap.size+1≠w.heap.size+1+1:=by omega
 have nz5:B5≠w.heap.size+1+1:=by omega
 have nz6:B6≠w.heap.size+1+1:=by omega
 go_region_held3 (fun W' => W'.cell? ⟨w.heap.size,0,none⟩=some (.bool b)/\W'.cell? ⟨w.heap.size,1,none⟩=some (.slice a0 n0 c0)/\W'.cell? ⟨w.heap.size,2,none⟩=some (.slice a1 n1 c1)/\W'.cell? ⟨w.heap.size+1,0,none⟩=some (.bool c)/\W'.cell? ⟨w.heap.size+1,1,none⟩=some (.slice a2 n2 c2)/\W'.cell? ⟨w.heap.size+1,2,none⟩=some (.slice a3 n3 c3)/\W'.cell? ⟨B5,0,none⟩=some (.bool ng1)/\W'.cell? ⟨B5,1,none⟩=some (.slice a1_ n1_ c1_)/\W'.cell? ⟨B5,2,none⟩=some (.slice p1_ m1_ k1_)/\W'.cell? ⟨B6,0,none⟩=some (.bool ng2)/\W'.cell? ⟨B6,1,none⟩=some (.slice a2_ n2_ c2_)/\W'.cell? ⟨B6,2,none⟩=some (.slice p2_ m2_ k2_)) (first|(with_reducible exact ⟨ae,af,ah,am,an,aw,bB,bE,bF,cw,cB,cC⟩)|(with_reducible exact ⟨cP (cP (cP (ae) (.inl nz0) _) (.inl nz0) _) (.inl nz0) _,cP (cP (cP (af) (.inl nz0) _) (.inl nz0) _) (.inl nz0) _,cP (cP (cP (ah) (.inl nz0) _) (.inl nz0) _) (.inl nz0) _,cP (cP (cP (am) (.inl nz1) _) (.inl nz1) _) (.inl nz1) _,cP (cP (cP (an) (.inl nz1) _) (.inl nz1) _) (.inl nz1) _,cP (cP (cP (aw) (.inl nz1) _) (.inl nz1) _) (.inl nz1) _,cP (cP (cP (bB) (.inl nz5) _) (.inl nz5) _) (.inl nz5) _,cP (cP (cP (bE) (.inl nz5) _) (.inl nz5) _) (.inl nz5) _,cP (cP (cP (bF) (.inl nz5) _) (.inl nz5) _) (.inl nz5) _,cP (cP (cP (cw) (.inl nz6) _) (.inl nz6) _) (.inl nz6) _,cP (cP (cP (cB) (.inl nz6) _) (.inl nz6) _) (.inl nz6) _,cP (cP (cP (cC) (.inl nz6) _) (.inl nz6) _) (.inl nz6) _⟩)|exact ⟨ae,af,ah,am,an,aw,bB,bE,bF,cw,cB,cC⟩) (first
  | (go_at_call 148;(with_reducible refine (ziu ng13 ng16 _ _ _ _ _ g13.isI.up g16.isI.up S5.out S6.out HZ.out q (H9.out ng13 ng16 g13.ng g16.ng) hs).mono ?_);rintro e w17 ⟨ng17,a17_,n17_,c17_,p17_,m17_,k17_,rfl,g17,dh⟩;have g13:=g13.to dh;have g16:=g16.to dh;have gb:=bS gb dh;obtain ⟨⟨z0,ae,af,ah,ai,ak,al⟩,⟨z1,am,an,aw,aB,aC,aD⟩,⟨z2,bl,bm,bU,bH,bJ,bZ⟩,⟨z5,bB,bE,bF,bM,bO,bP⟩,⟨z6,cw,cB,cC,cF,cG,cH⟩⟩:=HXwc.out _ gb)
  | (go_at_call 144;(with_reducible refine (zfJ _ (g1.to gb).below (g2.to gb).above ((x.den:Int)*y.num) rfl S2).mono ?_);rintro e w16 ⟨ng16,a16_,n16_,c16_,rfl,g16,dW⟩;have g13:=g13.to dW;have gb:=bS gb dW;obtain ⟨⟨z0,ae,af,ah,ai,ak,al⟩,⟨z1,am,an,aw,aB,aC,aD⟩,⟨z2,bl,bm,bU,bH,bJ,bZ⟩,⟨z5,bB,bE,bF,bM,bO,bP⟩,⟨z6,cw,cB,cC,cF,cG,cH⟩⟩:=HXwc.out _ gb)
  | (go_at_call 145;(with_reducible refine (zbe _ _ _ _ _ _ (g2.to gb).isQ).mono ?_);rintro e w15 ⟨rfl,du⟩;have g13:=g13.to du;have gb:=bS gb du;obtain ⟨⟨z0,ae,af,ah,ai,ak,al⟩,⟨z1,am,an,aw,aB,aC,aD⟩,⟨z2,bl,bm,bU,bH,bJ,bZ⟩,⟨z5,bB,bE,bF,bM,bO,bP⟩,⟨z6,cw,cB,cC,cF,cG,cH⟩⟩:=HXwc.out _ gb)
  | (go_at_call 146;(with_reducible refine (zbf _ _ _ _ _ _ (g1.to gb).isQ).mono ?_);rintro e w14 ⟨rfl,d7⟩;have g13:=g13.to d7;have gb:=bS gb d7;obtain ⟨⟨z0,ae,af,ah,ai,ak,al⟩,⟨z1,am,an,aw,aB,aC,aD⟩,⟨z2,bl,bm,bU,bH,bJ,bZ⟩,⟨z5,bB,bE,bF,bM,bO,bP⟩,⟨z6,cw,cB,cC,cF,cG,cH⟩⟩:=HXwc.out _ gb)
  | (go_at_call 144;(with_reducible refine (zfJ _ (g1.to gb).above (g2.to gb).below (x.num*(y.den:Int)) rfl S1).mono ?_);rintro e w13 ⟨ng13,a13_,n13_,c13_,rfl,g13,dZ⟩;have gb:=bS gb dZ;obtain ⟨⟨z0,ae,af,ah,ai,ak,al⟩,⟨z1,am,an,aw,aB,aC,aD⟩,⟨z2,bl,bm,bU,bH,bJ,bZ⟩,⟨z5,bB,bE,bF,bM,bO,bP⟩,⟨z6,cw,cB,cC,cF,cG,cH⟩⟩:=HXwc.out _ gb)
  | (go_at_call 146;(with_reducible refine (zbf _ _ _ _ _ _ (g2.to gb).isQ).mono ?_);rintro e w12 ⟨rfl,da⟩;have gb:=bS gb da;obtain ⟨⟨z0,ae,af,ah,ai,ak,al⟩,⟨z1,am,an,aw,aB,aC,aD⟩,⟨z2,bl,bm,bU,bH,bJ,bZ⟩,⟨z5,bB,bE,bF,bM,bO,bP⟩,⟨z6,cw,cB,cC,cF,cG,cH⟩⟩:=HXwc.out _ gb)
  | (go_at_call 145;have gb:=gb.drew;(with_reducible refine (zbe _ _ _ _ _ _ (g1.to gb).isQ).mono ?_);rintro e w11 ⟨rfl,eM⟩;have gb:=bS gb eM;obtain ⟨⟨z0,ae,af,ah,ai,ak,al⟩,⟨z1,am,an,aw,aB,aC,aD⟩,⟨z2,bl,bm,bU,bH,bJ,bZ⟩,⟨z5,bB,bE,bF,bM,bO,bP⟩,⟨z6,cw,cB,cC,cF,cG,cH⟩⟩:=HXwc.out _ gb))
 go_wp2_with fail
 refine bodyPost_ret (zm Tryz.results120 _ _ _ _ _ _ rfl (Tri.set (x0:=.bool false) (y0:=.slice none 0 0) (z0:=.slice none 0 0) ⟨bl,bm,bU,bH,bJ,bZ⟩ _ _ _)) rfl (zbB (bS zb gb) (by omega) ?_ g17)
 omega

end Go.Proofs.YtkjcdnlpjldhaaaGreat

