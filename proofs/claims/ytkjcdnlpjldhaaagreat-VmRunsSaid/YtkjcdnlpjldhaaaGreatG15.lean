/-
  The texts Rat2, Rat3, Rat4, Ref8, Ref8b, merged.
-/
import Derived.Test.YtkjcdnlpjldhaaaGreatG12
import Derived.Test.YtkjcdnlpjldhaaaGreatG14
import Derived.Deep.RegionHeld3
import Derived.Deep.Cut
import Derived.Deep.DrawnRows
import Derived.Laws.EntriesVeiled
import Derived.Test.YtkjcdnlpjldhaaaGreatG07
import Derived.Test.YtkjcdnlpjldhaaaGreatG05
set_option linter.unusedVariables false
set_option linter.unusedSimpArgs false
set_option maxRecDepth 100000
set_option maxHeartbeats 400000000
namespace Go.Proofs.YtkjcdnlpjldhaaaGreat
open Go.RowKit Tw
attribute [local go_sem ↓] Go.wp_at_zero Go.wp_at_succ

theorem zG {w:World} {b:Bool} {v u:Value} {ln ld:List Nat} {x:Rat} (h:IsQ w b v u ln ld x):Hid (szq x<=1000):=by
 show _<=_
 rw [<- h.2.2.1]
 refine Nat.le_trans (zfq _ _ _) ?_
 have h1:=zv h.1.1
 have h2:=zv h.2.1.1
 have h3:=h.2.2.2.1
 have h4:=h.2.2.2.2
 omega

theorem zco {x y:Rat} (hx:szq x<=1000) (hy:szq y<=1000):szi (x.num*(y.den:Int))<=90000:=by
 have h1:=zcK x.num (y.den:Int)
 have h2:=zaw x
 have h3:=zah y
 unfold szi at *
 rw [Int.natAbs_natCast] at h1
 omega

theorem sum_sz {x y:Rat} (hx:szq x<=1000) (hy:szq y<=1000):szi (x.num*(y.den:Int)+y.num*(x.den:Int))<=2001:=by
 have h0:=zkn (x.num*(y.den:Int)) (y.num*(x.den:Int))
 have h1:=zcK x.num (y.den:Int)
 have h1':=zcK y.num (x.den:Int)
 have h2:=zaw x
 have h3:=zah y
 have h2':=zaw y
 have h3':=zah x
 unfold szi at *
 rw [Int.natAbs_natCast] at h1 h1'
 omega

theorem den_sz {x y:Rat} (hx:szq x<=1000) (hy:szq y<=1000):(zc (val (zc x.den)*val (zc y.den))).length<=3000:=by
 rw [ze,vL,vL]
 have h1:=zaf x.den y.den
 have h2:=zah x
 have h3:=zah y
 omega

theorem zbt {x:Rat} (b:Bool) (v u:Value) (ln ld:List Nat) (w:World) (h:IsQ w b v u ln ld x) (hs:Hid (szq x<=1000)) :
  Calls Tryz.prog 142 #[aggR b v u] w (zL w x):=by
 obtain ⟨a0,n0,c0,rfl,H0,hm0⟩:=h.1.open
 obtain ⟨a1,n1,c1,rfl,H1,hm1⟩:=h.2.1.open
 go_enter Tryz.func142,Tryz.ntmps142
 go_wp2_with fail
 obtain ⟨W0,az⟩:∃ W0,(w.alloc (.cells #[.bool b,.slice a0 n0 c0,.slice a1 n1 c1] 47)).alloc (.cells #[.bool false,.slice none 0 0,.slice none 0 0] 166)=W0:=⟨_,rfl⟩
 have am:=Lib.hid (show ∀ W',Below W0.heap.size W0 W'->(Bx3 W' w.heap.size (.bool b) (.slice a0 n0 c0) (.slice a1 n1 c1)/\Bx3 W' (w.heap.size+1) (.bool false) (.slice none 0 0) (.slice none 0 0)) from fun W' hb => by
   refine ⟨bx3 hb ?_ ?_ ?_ ?_ ?_ ?_,bx3 hb ?_ ?_ ?_ ?_ ?_ ?_⟩
   all_goals first|assumption|(rw [<- az];simp [go_sem]))
 have zb:Below w.heap.size w W0:=by rw [<- az];exact bS (bN _ _) (bN _ _)
 rw [az]
 clear az
 have i0:=h.to zb
 have gb:Below W0.heap.size W0 W0:=Below.refl _ _
 obtain ⟨⟨z0,ac,ae,af,ag,ah,ai⟩,⟨z1,ak,al,au,ap,aq,aA⟩⟩:=am.out _ gb
 refine (zdq b _ _ ln ld _ (i0.to gb) x rfl hs).mono ?_
 clear ac ag ae ah af ai ak ap al aq au aA
 rintro e w1 ⟨ng1,a1_,n1_,c1_,p1_,m1_,k1_,rfl,g1,bd⟩
 replace gb:=bS gb bd
 obtain ⟨⟨z0,ac,ae,af,ag,ah,ai⟩,⟨z1,ak,al,au,ap,aq,aA⟩⟩:=am.out _ gb
 go_wp2_with fail
 refine bodyPost_ret (zle Tryz.results142 _ _ _ _ _ _ rfl (Tri.set (x0:=.bool false) (y0:=.slice none 0 0) (z0:=.slice none 0 0) ⟨ak,al,au,ap,aq,aA⟩ _ _ _)) rfl (zct (bS zb gb) (by omega) ?_ g1)
 omega

theorem zkQ {x y:Rat} (b:Bool) (v u:Value) (ln ld:List Nat) (c:Bool) (v' u':Value) (ln' ld':List Nat) (w:World) (h:IsQ w b v u ln ld x) (h':IsQ w c v' u' ln' ld' y) (q:Rat) (hq:x*y=q) (hs:Hid (szq q<=1000)) :
  Calls Tryz.prog 119 #[aggR b v u,aggR c v' u'] w (zL w q):=by
 have K1:=Lib.hid (show (zc (val ln*val ln')).length<=3000 by
  rw [ze];have:=zaf (val ln) (val ln');have:=zv h.1.1;have:=zv h'.1.1;have:=h.2.2.2.1;have:=h'.2.2.2.1;omega)
 have K2:=Lib.hid (show (zc (val ld*val ld')).length<=3000 by
  rw [ze];have:=zaf (val ld) (val ld');have:=zv h.2.1.1;have:=zv h'.2.1.1;have:=h.2.2.2.2;have:=h'.2.2.2.2;omega)
 have H9:=Lib.hid (show rat (!b == c) (val (zc (val ln*val ln'))) (val (zc (val ld*val ld')))=q by show rat (b != c) _ _=q;rw [vL,vL,<- zdZ,h.2.2.1,h'.2.2.1,hq])
 obtain ⟨a0,n0,c0,rfl,H0,hm0⟩:=h.1.open
 obtain ⟨a1,n1,c1,rfl,H1,hm1⟩:=h.2.1.open
 obtain ⟨a2,n2,c2,rfl,H2,hm2⟩:=h'.1.open
 obtain ⟨a3,n3,c3,rfl,H3,hm3⟩:=h'.2.1.open
 clear hq
 go_enter Tryz.func119,Tryz.ntmps119
 go_wp2_with fail
 obtain ⟨W0,az⟩:∃ W0,((w.alloc (.cells #[.bool b,.slice a0 n0 c0,.slice a1 n1 c1] 47)).alloc (.cells #[.bool c,.slice a2 n2 c2,.slice a3 n3 c3] 47)).alloc (.cells #[.bool false,.slice none 0 0,.slice none 0 0] 47)=W0:=⟨_,rfl⟩
 have am:=Lib.hid (show ∀ W',Below W0.heap.size W0 W'->(Bx3 W' w.heap.size (.bool b) (.slice a0 n0 c0) (.slice a1 n1 c1)/\Bx3 W' (w.heap.size+1) (.bool c) (.slice a2 n2 c2) (.slice a3 n3 c3)/\Bx3 W' (w.heap.size+1+1) (.bool false) (.slice none 0 0) (.slice none 0 0)) from fun W' hb => by
   refine ⟨bx3 hb ?_ ?_ ?_ ?_ ?_ ?_,bx3 hb ?_ ?_ ?_ ?_ ?_ ?_,bx3 hb ?_ ?_ ?_ ?_ ?_ ?_⟩
   all_goals first|assumption|(rw [<- az];simp [go_sem]))
 have zb:Below w.heap.size w W0:=by rw [<- az];exact bS (bS (bN _ _) (bN _ _)) (bN _ _)
 rw [az]
 clear az
 have i0:=h.to zb
 have i1:=h'.to zb
 have gb:Below W0.heap.size W0 W0:=Below.refl _ _
 obtain ⟨⟨z0,ac,ae,af,ag,ah,ai⟩,⟨z1,ak,al,au,ap,aq,aA⟩,⟨z2,aH,aI,be,aK,aL,bf⟩⟩:=am.out _ gb
 have nz0:w.heap.size≠w.heap.size+1+1:=by omega
 have nz1:w.heap.size+1≠w.heap.size+1+1:=by omega
 go_region_held3 (fun W' => W'.cell? ⟨w.heap.size,0,none⟩=some (.bool b)/\W'.cell? ⟨w.heap.size,1,none⟩=some (.slice a0 n0 c0)/\W'.cell? ⟨w.heap.size,2,none⟩=some (.slice a1 n1 c1)/\W'.cell? ⟨w.heap.size+1,0,none⟩=some (.bool c)/\W'.cell? ⟨w.heap.size+1,1,none⟩=some (.slice a2 n2 c2)/\W'.cell? ⟨w.heap.size+1,2,none⟩=some (.slice a3 n3 c3)) (first|(with_reducible exact ⟨ac,ae,af,ak,al,au⟩)|(with_reducible exact ⟨cP (cP (cP (ac) (.inl nz0) _) (.inl nz0) _) (.inl nz0) _,cP (cP (cP (ae) (.inl nz0) _) (.inl nz0) _) (.inl nz0) _,cP (cP (cP (af) (.inl nz0) _) (.inl nz0) _) (.inl nz0) _,cP (cP (cP (ak) (.inl nz1) _) (.inl nz1) _) (.inl nz1) _,cP (cP (cP (al) (.inl nz1) _) (.inl nz1) _) (.inl nz1) _,cP (cP (cP (au) (.inl nz1) _) (.inl nz1) _) (.inl nz1) _⟩)|exact ⟨ac,ae,af,ak,al,au⟩) (first
  | (go_at_call 62;(with_reducible refine (zac (!b == c) _ _ _ _ _ g1.rd g2.rd K1.out K2.out q H9.out hs).mono ?_);rintro e w3 ⟨ng3,a3_,n3_,c3_,p3_,m3_,k3_,rfl,g3,bs⟩;have g1:=g1.to bs;have g2:=g2.to bs;have gb:=bS gb bs;obtain ⟨⟨z0,ac,ae,af,ag,ah,ai⟩,⟨z1,ak,al,au,ap,aq,aA⟩,⟨z2,aH,aI,be,aK,aL,bf⟩⟩:=am.out _ gb)
  | (go_at_call 147;(with_reducible refine (zbY _ _ ld ld' _ (i0.to gb).dn (i1.to gb).dn (Nat.le_trans h.ldn (by omega)) (Nat.le_trans h'.ldn (by omega))).mono ?_);rintro e w2 ⟨v2,rfl,g2,aN⟩;obtain ⟨a2_,n2_,c2_,rfl,H2,hm2⟩:=g2.rd.open;have g1:=g1.to aN;have gb:=bS gb aN;obtain ⟨⟨z0,ac,ae,af,ag,ah,ai⟩,⟨z1,ak,al,au,ap,aq,aA⟩,⟨z2,aH,aI,be,aK,aL,bf⟩⟩:=am.out _ gb)
  | (go_at_call 147;have gb:=gb.drew;(with_reducible refine (zbY _ _ ln ln' _ (i0.to gb).up (i1.to gb).up (Nat.le_trans h.lup (by omega)) (Nat.le_trans h'.lup (by omega))).mono ?_);rintro e w1 ⟨v1,rfl,g1,bd⟩;obtain ⟨a1_,n1_,c1_,rfl,H1,hm1⟩:=g1.rd.open;have gb:=bS gb bd;obtain ⟨⟨z0,ac,ae,af,ag,ah,ai⟩,⟨z1,ak,al,au,ap,aq,aA⟩,⟨z2,aH,aI,be,aK,aL,bf⟩⟩:=am.out _ gb))
 go_wp2_with fail
 refine bodyPost_ret (zC Tryz.results119 _ _ _ _ _ _ rfl (Tri.set (x0:=.bool false) (y0:=.slice none 0 0) (z0:=.slice none 0 0) ⟨aH,aI,be,aK,aL,bf⟩ _ _ _)) rfl (zct (bS zb gb) (by omega) ?_ g3)
 omega

end Go.Proofs.YtkjcdnlpjldhaaaGreat


namespace Go.Proofs.YtkjcdnlpjldhaaaGreat
open Go.RowKit Tw
attribute [local go_sem ↓] Go.wp_at_zero Go.wp_at_succ

theorem zgT {x y:Rat} (b:Bool) (v u:Value) (ln ld:List Nat) (c:Bool) (v' u':Value) (ln' ld':List Nat) (w:World) (h:IsQ w b v u ln ld x) (h':IsQ w c v' u' ln' ld' y) (q:Rat) (hq:x+y=q) (hs:Hid (szq q<=1000)) :
  Calls Tryz.prog 117 #[aggR b v u,aggR c v' u'] w (zL w q):=by
 have Hx:Hid (szq x<=1000):=zG h
 have Hy:Hid (szq y<=1000):=zG h'
 have S1:=Lib.hid (show szi (x.num*(y.den:Int))<=90000 from zco Hx.out Hy.out)
 have S2:=Lib.hid (show szi (y.num*(x.den:Int))<=90000 from zco Hy.out Hx.out)
 have S3:=Lib.hid (show szi (x.num*(y.den:Int)+y.num*(x.den:Int))<=2001 from sum_sz Hx.out Hy.out)
 have S4:=Lib.hid (show szi (x.num*(y.den:Int)+y.num*(x.den:Int))<=90000 from Nat.le_trans S3.out (by omega))
 have K2:=Lib.hid (show (zc (val (zc x.den)*val (zc y.den))).length<=3000 from den_sz Hx.out Hy.out)
 have H9:=Lib.hid (show ∀ ng,decide (x.num*(y.den:Int)+y.num*(x.den:Int)<0)=ng->rat ng (val (zc (x.num*(y.den:Int)+y.num*(x.den:Int)).natAbs)) (val (zc (val (zc x.den)*val (zc y.den))))=q from fun ng e => by
  rw [<- e,vL,vL,vL,vL,<- zdo,<- Rat.add_def',hq])
 obtain ⟨a0,n0,c0,rfl,H0,hm0⟩:=h.1.open
 obtain ⟨a1,n1,c1,rfl,H1,hm1⟩:=h.2.1.open
 obtain ⟨a2,n2,c2,rfl,H2,hm2⟩:=h'.1.open
 obtain ⟨a3,n3,c3,rfl,H3,hm3⟩:=h'.2.1.open
 clear hq
 go_enter Tryz.func117,Tryz.ntmps117
 go_wp2_with fail
 obtain ⟨W0,az⟩:∃ W0,((w.alloc (.cells #[.bool b,.slice a0 n0 c0,.slice a1 n1 c1] 47)).alloc (.cells #[.bool c,.slice a2 n2 c2,.slice a3 n3 c3] 47)).alloc (.cells #[.bool false,.slice none 0 0,.slice none 0 0] 47)=W0:=⟨_,rfl⟩
 have am:=Lib.hid (show ∀ W',Below W0.heap.size W0 W'->(W'.cell? ⟨w.heap.size,0,none⟩=some (.bool b)/\W'.cell? ⟨w.heap.size,1,none⟩=some (.slice a0 n0 c0)/\W'.cell? ⟨w.heap.size,2,none⟩=some (.slice a1 n1 c1)/\W'.cell? ⟨w.heap.size+1,0,none⟩=some (.bool c)/\W'.cell? ⟨w.heap.size+1,1,none⟩=some (.slice a2 n2 c2)/\W'.cell? ⟨w.heap.size+1,2,none⟩=some (.slice a3 n3 c3)/\W'.cell? ⟨w.heap.size+1+1,0,none⟩=some (.bool false)/\W'.cell? ⟨w.heap.size+1+1,1,none⟩=some (.slice none 0 0)/\W'.cell? ⟨w.heap.size+1+1,2,none⟩=some (.slice none 0 0)) from fun W' hb =>
  by and_intros <;> exact kc hb (by first|assumption|(rw [<- az];simp [go_sem])))
 have cw:=Lib.hid (show ∀ W',Below W0.heap.size W0 W'->(W'.frozen? ⟨w.heap.size,0,none⟩=false/\W'.frozen? ⟨w.heap.size,1,none⟩=false/\W'.frozen? ⟨w.heap.size,2,none⟩=false/\W'.frozen? ⟨w.heap.size+1,0,none⟩=false/\W'.frozen? ⟨w.heap.size+1,1,none⟩=false/\W'.frozen? ⟨w.heap.size+1,2,none⟩=false/\W'.frozen? ⟨w.heap.size+1+1,0,none⟩=false/\W'.frozen? ⟨w.heap.size+1+1,1,none⟩=false/\W'.frozen? ⟨w.heap.size+1+1,2,none⟩=false) from fun W' hb =>
  by and_intros <;> refine (hb.frozen ?_).trans ?_ <;> first|assumption|(rw [<- az];simp [go_sem])|(rw [<- az];simp <;> omega))
 have cy:=Lib.hid (show ∀ W',Below W0.heap.size W0 W'->(w.heap.size<W'.heap.size/\w.heap.size+1<W'.heap.size/\w.heap.size+1+1<W'.heap.size) from fun W' hb =>
  by and_intros <;> refine Nat.lt_of_lt_of_le ?_ hb.size <;> first|assumption|(rw [<- az];simp <;> omega))
 have zb:Below w.heap.size w W0:=by rw [<- az];exact bS (bS (bN _ _) (bN _ _)) (bN _ _)
 rw [az]
 clear az
 have i0:=h.to zb
 have i1:=h'.to zb
 have gb:Below W0.heap.size W0 W0:=Below.refl _ _
 obtain ⟨ac,ae,af,ak,al,au,aH,aI,be⟩:=am.out _ gb
 obtain ⟨ag,ah,ai,ap,aq,aA,aK,aL,bf⟩:=cw.out _ gb
 obtain ⟨z0,z1,z2⟩:=cy.out _ gb
 have hgb:=gb
 go_upto_region 1 with fail
 go_cut [5,6] from 8 (fun s5 s6 wx => zbS W0 (x) s5 wx/\zbS W0 (y) s6 wx)
 case first =>
  go_region_held3 (fun W' => W'.cell? ⟨w.heap.size,0,none⟩=some (.bool b)/\W'.cell? ⟨w.heap.size,1,none⟩=some (.slice a0 n0 c0)/\W'.cell? ⟨w.heap.size,2,none⟩=some (.slice a1 n1 c1)/\W'.cell? ⟨w.heap.size+1,0,none⟩=some (.bool c)/\W'.cell? ⟨w.heap.size+1,1,none⟩=some (.slice a2 n2 c2)/\W'.cell? ⟨w.heap.size+1,2,none⟩=some (.slice a3 n3 c3)/\W'.cell? ⟨w.heap.size+1+1,0,none⟩=some (.bool false)/\W'.cell? ⟨w.heap.size+1+1,1,none⟩=some (.slice none 0 0)/\W'.cell? ⟨w.heap.size+1+1,2,none⟩=some (.slice none 0 0)) (with_reducible first|(exact am.out _ gb)|((refine am.out _ ?_);first|((refine Below.drew ?_);first|(exact gb)|((refine bT ?_ ?_ _ _ _);rotate_left;(first|(exact aF)|(exact aV)|(exact aG)|(exact aW));first|(exact gb)|((refine bT ?_ ?_ _ _ _);rotate_left;(first|(exact aF)|(exact aV)|(exact aG)|(exact aW));exact gb)|((refine bS ?_ (bN _ _));exact gb))|((refine bS ?_ (bN _ _));first|(exact gb)|((refine bT ?_ ?_ _ _ _);rotate_left;(first|(exact aF)|(exact aV)|(exact aG)|(exact aW));exact gb)|((refine bS ?_ (bN _ _));exact gb)))|(first|(exact gb)|((refine bT ?_ ?_ _ _ _);rotate_left;(first|(exact aF)|(exact aV)|(exact aG)|(exact aW));first|(exact gb)|((refine bT ?_ ?_ _ _ _);rotate_left;(first|(exact aF)|(exact aV)|(exact aG)|(exact aW));first|(exact gb)|((refine bT ?_ ?_ _ _ _);rotate_left;(first|(exact aF)|(exact aV)|(exact aG)|(exact aW));first|(exact gb)|((refine bT ?_ ?_ _ _ _);rotate_left;(first|(exact aF)|(exact aV)|(exact aG)|(exact aW));exact gb)|((refine bS ?_ (bN _ _));exact gb))|((refine bS ?_ (bN _ _));first|(exact gb)|((refine bT ?_ ?_ _ _ _);rotate_left;(first|(exact aF)|(exact aV)|(exact aG)|(exact aW));exact gb)|((refine bS ?_ (bN _ _));exact gb)))|((refine bS ?_ (bN _ _));first|(exact gb)|((refine bT ?_ ?_ _ _ _);rotate_left;(first|(exact aF)|(exact aV)|(exact aG)|(exact aW));first|(exact gb)|((refine bT ?_ ?_ _ _ _);rotate_left;(first|(exact aF)|(exact aV)|(exact aG)|(exact aW));exact gb)|((refine bS ?_ (bN _ _));exact gb))|((refine bS ?_ (bN _ _));first|(exact gb)|((refine bT ?_ ?_ _ _ _);rotate_left;(first|(exact aF)|(exact aV)|(exact aG)|(exact aW));exact gb)|((refine bS ?_ (bN _ _));exact gb))))|((refine bS ?_ (bN _ _));first|(exact gb)|((refine bT ?_ ?_ _ _ _);rotate_left;(first|(exact aF)|(exact aV)|(exact aG)|(exact aW));first|(exact gb)|((refine bT ?_ ?_ _ _ _);rotate_left;(first|(exact aF)|(exact aV)|(exact aG)|(exact aW));first|(exact gb)|((refine bT ?_ ?_ _ _ _);rotate_left;(first|(exact aF)|(exact aV)|(exact aG)|(exact aW));exact gb)|((refine bS ?_ (bN _ _));exact gb))|((refine bS ?_ (bN _ _));first|(exact gb)|((refine bT ?_ ?_ _ _ _);rotate_left;(first|(exact aF)|(exact aV)|(exact aG)|(exact aW));exact gb)|((refine bS ?_ (bN _ _));exact gb)))|((refine bS ?_ (bN _ _));first|(exact gb)|((refine bT ?_ ?_ _ _ _);rotate_left;(first|(exact aF)|(exact aV)|(exact aG)|(exact aW));first|(exact gb)|((refine bT ?_ ?_ _ _ _);rotate_left;(first|(exact aF)|(exact aV)|(exact aG)|(exact aW));exact gb)|((refine bS ?_ (bN _ _));exact gb))|((refine bS ?_ (bN _ _));first|(exact gb)|((refine bT ?_ ?_ _ _ _);rotate_left;(first|(exact aF)|(exact aV)|(exact aG)|(exact aW));exact gb)|((refine bS ?_ (bN _ _));exact gb))))))) (first
   | (go_at_call 142;(refine zk w1 (by with_reducible first|exact Below.refl _ _|exact bN _ _|exact bS (bN _ _) (bN _ _)) ?_);intro V2 c8 bZ;have ee:=bZ.size;have dx:=gb.size;have g1:=g1.to bZ;have gb:=bS gb bZ;(try have aE:=aE.to bZ);(try have bv:=bv.to bZ);(try have aM:Tri V2 (w1.heap.size) (.bool false) (.slice none 0 0) (.slice none 0 0):=(by rw [c8];with_reducible first|exact zd _ (.bool false) (.slice none 0 0) (.slice none 0 0) _|exact (zd _ (.bool false) (.slice none 0 0) (.slice none 0 0) _).alloc _));have aG:W0.heap.size<=w1.heap.size:=(dx);have bE:w1.heap.size<=w1.heap.size:=(Nat.le_refl _);(try have bX:Tri V2 (w1.heap.size+1) (.bool false) (.slice none 0 0) (.slice none 0 0):=(by rw [c8];first|with_reducible exact zan _ _ (.bool false) (.slice none 0 0) (.slice none 0 0) _));have aW:W0.heap.size<=w1.heap.size+1:=(Nat.le_succ_of_le dx);have bF:w1.heap.size<=w1.heap.size+1:=(Nat.le_succ _);(try have bh:=aE.lt);(try have bP:=bv.lt);(try have bi:=aM.lt);(try have bQ:=bX.lt);(with_reducible refine (zbt c _ _ ln' ld' _ (i1.to gb) Hy).mono ?_);rintro e w2 ⟨ng2,a2_,n2_,c2_,p2_,m2_,k2_,rfl,g2,aN⟩;have g1:=g1.to aN;have gb:=bS gb aN;have dw:=aN.size;(try have aE:=aE.to aN);(try have bv:=bv.to aN);(try have aM:=aM.to aN);(try have bX:=bX.to aN);(try have cg:=aE.lt);(try have eY:=bv.lt);(try have ch:=aM.lt);(try have eZ:=bX.lt);(try (have bj:=aE;obtain ⟨bI,bJ,bK,bL,bM,bO⟩:=bj));(try (have cQ:=bv;obtain ⟨dy,dz,dA,dB,dC,dD⟩:=cQ));(try (have b5:=aM;obtain ⟨cz,cA,cB,cC,cE,cF⟩:=b5));(try (have er:=bX;obtain ⟨fL,fM,fN,fO,fP,fQ⟩:=er)))
   | (go_at_call 142;(refine zk W0 (by with_reducible first|exact (Below.refl _ _).drew|exact (bN _ _).drew|exact (bS (bN _ _) (bN _ _)).drew) ?_);intro V1 df cq;have ef:=cq.size;have cR:=gb.size;have gb:=bS gb cq;(try have aE:Tri V1 (W0.heap.size) (.bool false) (.slice none 0 0) (.slice none 0 0):=(by rw [df];with_reducible first|exact (zd _ (.bool false) (.slice none 0 0) (.slice none 0 0) _).drew|exact ((zd _ (.bool false) (.slice none 0 0) (.slice none 0 0) _).alloc _).drew));have aF:W0.heap.size<=W0.heap.size:=(cR);(try have bv:Tri V1 (W0.heap.size+1) (.bool false) (.slice none 0 0) (.slice none 0 0):=(by rw [df];first|with_reducible exact (zan _ _ (.bool false) (.slice none 0 0) (.slice none 0 0) _).drew));have aV:W0.heap.size<=W0.heap.size+1:=(Nat.le_succ_of_le cR);(try have bn:=aE.lt);(try have bR:=bv.lt);(with_reducible refine (zbt b _ _ ln ld _ (i0.to gb) Hx).mono ?_);rintro e w1 ⟨ng1,a1_,n1_,c1_,p1_,m1_,k1_,rfl,g1,bd⟩;have gb:=bS gb bd;have dv:=bd.size;(try have aE:=aE.to bd);(try have bv:=bv.to bd);(try have bH:=aE.lt);(try have cl:=bv.lt);(try (have bj:=aE;obtain ⟨bI,bJ,bK,bL,bM,bO⟩:=bj));(try (have cQ:=bv;obtain ⟨dy,dz,dA,dB,dC,dD⟩:=cQ))))
  all_goals (go_wp2_with fail;go_meet)
  all_goals first
   | (with_reducible exact zo aE bv (Nat.ne_of_lt (Nat.lt_succ_self _)) g1 g2 (.inl bn) (.inl bR) (.inl bh) (.inl bP) gb aF aV)
   | (with_reducible exact zo aE aM (Nat.ne_of_lt bH) g1 g2 (.inl bn) (.inr bE) (.inl bh) (.inl bi) gb aF aG)
   | (with_reducible exact zo aE bX (Nat.ne_of_lt (Nat.lt_succ_of_lt bH)) g1 g2 (.inl bn) (.inr bF) (.inl bh) (.inl bQ) gb aF aW)
   | (with_reducible exact zo bv aE ((Nat.ne_of_lt (Nat.lt_succ_self _)).symm) g1 g2 (.inl bR) (.inl bn) (.inl bP) (.inl bh) gb aV aF)
   | (with_reducible exact zo bv aM (Nat.ne_of_lt cl) g1 g2 (.inl bR) (.inr bE) (.inl bP) (.inl bi) gb aV aG)
   | (with_reducible exact zo bv bX (Nat.ne_of_lt (Nat.lt_succ_of_lt cl)) g1 g2 (.inl bR) (.inr bF) (.inl bP) (.inl bQ) gb aV aW)
   | (with_reducible exact zo aM aE ((Nat.ne_of_lt bH).symm) g1 g2 (.inr bE) (.inl bn) (.inl bi) (.inl bh) gb aG aF)
   | (with_reducible exact zo aM bv ((Nat.ne_of_lt cl).symm) g1 g2 (.inr bE) (.inl bR) (.inl bi) (.inl bP) gb aG aV)
   | (with_reducible exact zo aM bX (Nat.ne_of_lt (Nat.lt_succ_self _)) g1 g2 (.inr bE) (.inr bF) (.inl bi) (.inl bQ) gb aG aW)
   | (with_reducible exact zo bX aE ((Nat.ne_of_lt (Nat.lt_succ_of_lt bH)).symm) g1 g2 (.inr bF) (.inl bn) (.inl bQ) (.inl bh) gb aW aF)
   | (with_reducible exact zo bX bv ((Nat.ne_of_lt (Nat.lt_succ_of_lt cl)).symm) g1 g2 (.inr bF) (.inl bR) (.inl bQ) (.inl bP) gb aW aV)
   | (with_reducible exact zo bX aM ((Nat.ne_of_lt (Nat.lt_succ_self _)).symm) g1 g2 (.inr bF) (.inr bE) (.inl bQ) (.inl bi) gb aW aG)
   | (with_reducible exact zy aE g1 g2 (.inl bn) (.inl bh) gb aF)
   | (with_reducible exact (zy aE g2 g1 (.inl bh) (.inl bn) gb aF).symm)
   | (with_reducible exact zy bv g1 g2 (.inl bR) (.inl bP) gb aV)
   | (with_reducible exact (zy bv g2 g1 (.inl bP) (.inl bR) gb aV).symm)
   | (with_reducible exact zy aM g1 g2 (.inr bE) (.inl bi) gb aG)
   | (with_reducible exact (zy aM g2 g1 (.inl bi) (.inr bE) gb aG).symm)
   | (with_reducible exact zy bX g1 g2 (.inr bF) (.inl bQ) gb aW)
   | (with_reducible exact (zy bX g2 g1 (.inl bQ) (.inr bF) gb aW).symm)
   | (with_reducible exact zcc g1 g2 gb)
   | (with_reducible exact (zcc g2 g1 gb).symm)
 case rest =>
 obtain ⟨⟨B5,ng1,a1_,n1_,c1_,p1_,m1_,k1_,lo5,hi5,rfl,hB5,T5,g1,hc5⟩,⟨B6,ng2,a2_,n2_,c2_,p2_,m2_,k2_,lo6,hi6,rfl,hB6,T6,g2,hc6⟩⟩:=hcut
 clear ac ag ae ah af ai ak ap al aq au aA aH aK aI aL be bf
 have gb:=hc5
 obtain ⟨ac,ae,af,ak,al,au,aH,aI,be⟩:=am.out _ gb
 obtain ⟨ag,ah,ai,ap,aq,aA,aK,aL,bf⟩:=cw.out _ gb
 obtain ⟨z0,z1,z2⟩:=cy.out _ gb
 have z5:=T5.lt
 obtain ⟨bk,bl,bm,bo,bq,bw⟩:=T5
 have z6:=T6.lt
 obtain ⟨b6,b7,b8,ce,cf,ci⟩:=T6
 clear hgb
 obtain ⟨W1,aO⟩:∃ W,wc=W:=⟨_,rfl⟩
 subst aO
 replace i0:=i0.to gb
 replace i1:=i1.to gb
 replace zb:=bS zb gb
 have HXwc:=Lib.hid (show ∀ W',Below wc.heap.size wc W'->(W'.cell? ⟨w.heap.size,0,none⟩=some (.bool b)/\W'.cell? ⟨w.heap.size,1,none⟩=some (.slice a0 n0 c0)/\W'.cell? ⟨w.heap.size,2,none⟩=some (.slice a1 n1 c1)/\W'.cell? ⟨w.heap.size+1,0,none⟩=some (.bool c)/\W'.cell? ⟨w.heap.size+1,1,none⟩=some (.slice a2 n2 c2)/\W'.cell? ⟨w.heap.size+1,2,none⟩=some (.slice a3 n3 c3)/\W'.cell? ⟨w.heap.size+1+1,0,none⟩=some (.bool false)/\W'.cell? ⟨w.heap.size+1+1,1,none⟩=some (.slice none 0 0)/\W'.cell? ⟨w.heap.size+1+1,2,none⟩=some (.slice none 0 0)/\W'.cell? ⟨B5,0,none⟩=some (.bool ng1)/\W'.cell? ⟨B5,1,none⟩=some (.slice a1_ n1_ c1_)/\W'.cell? ⟨B5,2,none⟩=some (.slice p1_ m1_ k1_)/\W'.cell? ⟨B6,0,none⟩=some (.bool ng2)/\W'.cell? ⟨B6,1,none⟩=some (.slice a2_ n2_ c2_)/\W'.cell? ⟨B6,2,none⟩=some (.slice p2_ m2_ k2_)) from fun W' hb =>
  by and_intros <;> exact kc hb (by first|assumption|assumption))
 have HYwc:=Lib.hid (show ∀ W',Below wc.heap.size wc W'->(W'.frozen? ⟨w.heap.size,0,none⟩=false/\W'.frozen? ⟨w.heap.size,1,none⟩=false/\W'.frozen? ⟨w.heap.size,2,none⟩=false/\W'.frozen? ⟨w.heap.size+1,0,none⟩=false/\W'.frozen? ⟨w.heap.size+1,1,none⟩=false/\W'.frozen? ⟨w.heap.size+1,2,none⟩=false/\W'.frozen? ⟨w.heap.size+1+1,0,none⟩=false/\W'.frozen? ⟨w.heap.size+1+1,1,none⟩=false/\W'.frozen? ⟨w.heap.size+1+1,2,none⟩=false/\W'.frozen? ⟨B5,0,none⟩=false/\W'.frozen? ⟨B5,1,none⟩=false/\W'.frozen? ⟨B5,2,none⟩=false/\W'.frozen? ⟨B6,0,none⟩=false/\W'.frozen? ⟨B6,1,none⟩=false/\W'.frozen? ⟨B6,2,none⟩=false) from fun W' hb =>
  by and_intros <;> refine (hb.frozen ?_).trans ?_ <;> first|assumption|assumption)
 have HZwc:=Lib.hid (show ∀ W',Below wc.heap.size wc W'->(w.heap.size<W'.heap.size/\w.heap.size+1<W'.heap.size/\w.heap.size+1+1<W'.heap.size/\B5<W'.heap.size/\B6<W'.heap.size) from fun W' hb =>
  by and_intros <;> refine Nat.lt_of_lt_of_le ?_ hb.size <;> first|assumption)
 replace gb:=Below.refl wc.heap.size wc
 go_wp2_with fail
 have hgb:=gb
 go_upto_region 2 with fail
 go_cut [7] from 12 (fun s7 wx => BoxC wc (x.num*(y.den:Int)+y.num*(x.den:Int)) s7 wx)
 case first =>
  go_region_held3 (fun W' => W'.cell? ⟨w.heap.size,0,none⟩=some (.bool b)/\W'.cell? ⟨w.heap.size,1,none⟩=some (.slice a0 n0 c0)/\W'.cell? ⟨w.heap.size,2,none⟩=some (.slice a1 n1 c1)/\W'.cell? ⟨w.heap.size+1,0,none⟩=some (.bool c)/\W'.cell? ⟨w.heap.size+1,1,none⟩=some (.slice a2 n2 c2)/\W'.cell? ⟨w.heap.size+1,2,none⟩=some (.slice a3 n3 c3)/\W'.cell? ⟨w.heap.size+1+1,0,none⟩=some (.bool false)/\W'.cell? ⟨w.heap.size+1+1,1,none⟩=some (.slice none 0 0)/\W'.cell? ⟨w.heap.size+1+1,2,none⟩=some (.slice none 0 0)/\W'.cell? ⟨B5,0,none⟩=some (.bool ng1)/\W'.cell? ⟨B5,1,none⟩=some (.slice a1_ n1_ c1_)/\W'.cell? ⟨B5,2,none⟩=some (.slice p1_ m1_ k1_)/\W'.cell? ⟨B6,0,none⟩=some (.bool ng2)/\W'.cell? ⟨B6,1,none⟩=some (.slice a2_ n2_ c2_)/\W'.cell? ⟨B6,2,none⟩=some (.slice p2_ m2_ k2_)) (with_reducible first|(exact HXwc.out _ gb)|((refine HXwc.out _ ?_);first|((refine Below.drew ?_);first|(exact gb)|((refine bD ?_ ?_ _ _);rotate_left;(first|(exact dE)|(exact dF)|(exact dG)|(exact dH)|(exact dI)|(exact dJ)|(exact dK));exact gb)|((refine bS ?_ (bN _ _));exact gb))|(first|(exact gb)|((refine bD ?_ ?_ _ _);rotate_left;(first|(exact dE)|(exact dF)|(exact dG)|(exact dH)|(exact dI)|(exact dJ)|(exact dK));first|(exact gb)|((refine bD ?_ ?_ _ _);rotate_left;(first|(exact dE)|(exact dF)|(exact dG)|(exact dH)|(exact dI)|(exact dJ)|(exact dK));exact gb)|((refine bS ?_ (bN _ _));exact gb))|((refine bS ?_ (bN _ _));first|(exact gb)|((refine bD ?_ ?_ _ _);rotate_left;(first|(exact dE)|(exact dF)|(exact dG)|(exact dH)|(exact dI)|(exact dJ)|(exact dK));exact gb)|((refine bS ?_ (bN _ _));exact gb))))) (first
   | (go_at_call 143;(refine zk w16 (by with_reducible first|exact Below.refl _ _|exact bN _ _) ?_);intro V17 k9 ei;have hsV17:=ei.size;have lc:=gb.size;have g13:=g13.to ei;have g16:=g16.to ei;have gb:=bS gb ei;(try have bC:=bC.to ei);(try have bG:=bG.to ei);(try have bW:=bW.to ei);(try have b9:=b9.to ei);(try have cm:=cm.to ei);(try have cL:=cL.to ei);(try have dS:Duo V17 (w16.heap.size) (.bool false) (.slice none 0 0):=(by rw [k9];with_reducible first|exact zJ _ (.bool false) (.slice none 0 0) _|exact (zJ _ (.bool false) (.slice none 0 0) _).alloc _));have dK:wc.heap.size<=w16.heap.size:=(lc);(try have fR:=bC.lt);(try have fS:=bG.lt);(try have fU:=bW.lt);(try have fV:=b9.lt);(try have fW:=cm.lt);(try have fX:=cL.lt);(try have fY:=dS.lt);(with_reducible refine (add_c _ g13.isI g16.isI (x.num*(y.den:Int)+y.num*(x.den:Int)) rfl S4).mono ?_);rintro e w17 ⟨ng17,a17_,n17_,c17_,rfl,g17,dm⟩;have g13:=g13.to dm;have g16:=g16.to dm;have gb:=bS gb dm;have hs17:=dm.size;(try have bC:=bC.to dm);(try have bG:=bG.to dm);(try have bW:=bW.to dm);(try have b9:=b9.to dm);(try have cm:=cm.to dm);(try have cL:=cL.to dm);(try have dS:=dS.to dm);(try have lt11_I_0_17:=bC.lt);(try have lt12_I_0_17:=bG.lt);(try have lt13_I_0_17:=bW.lt);(try have lt14_I_0_17:=b9.lt);(try have lt15_I_0_17:=cm.lt);(try have lt16_I_0_17:=cL.lt);(try have lt17_I_0_17:=dS.lt);(try (have cH:=bC;obtain ⟨da,db,dc,dd⟩:=cH));(try (have cI:=bG;obtain ⟨dg,dh,di,dj⟩:=cI));(try (have cS:=bW;obtain ⟨dT,dU,dV,dW⟩:=cS));(try (have de:=b9;obtain ⟨ez,eC,eD,eF⟩:=de));(try (have dL:=cm;obtain ⟨e8,fc,fd,fe⟩:=dL));(try (have eO:=cL;obtain ⟨ga,gc,gd,ge⟩:=eO));(try (have gw:=dS;obtain ⟨rt17_I_00,rt17_I_01,st17_I_00,st17_I_01⟩:=gw)))
   | (go_at_call 144;(refine zk w15 (by with_reducible first|exact Below.refl _ _|exact bN _ _) ?_);intro V16 le eG;have hsV16:=eG.size;have lf:=gb.size;have g13:=g13.to eG;have gb:=bS gb eG;(try have bC:=bC.to eG);(try have bG:=bG.to eG);(try have bW:=bW.to eG);(try have b9:=b9.to eG);(try have cm:=cm.to eG);(try have cL:Duo V16 (w15.heap.size) (.bool false) (.slice none 0 0):=(by rw [le];with_reducible first|exact zJ _ (.bool false) (.slice none 0 0) _|exact (zJ _ (.bool false) (.slice none 0 0) _).alloc _));have dJ:wc.heap.size<=w15.heap.size:=(lf);(try have vt11_I_0_16:=bC.lt);(try have vt12_I_0_16:=bG.lt);(try have vt13_I_0_16:=bW.lt);(try have vt14_I_0_16:=b9.lt);(try have vt15_I_0_16:=cm.lt);(try have vt16_I_0_16:=cL.lt);(with_reducible refine (zgP _ (g2.to gb).above (g1.to gb).below (y.num*(x.den:Int)) rfl S2).mono ?_);rintro e w16 ⟨ng16,a16_,n16_,c16_,rfl,g16,el⟩;have g13:=g13.to el;have gb:=bS gb el;have hs16:=el.size;(try have bC:=bC.to el);(try have bG:=bG.to el);(try have bW:=bW.to el);(try have b9:=b9.to el);(try have cm:=cm.to el);(try have cL:=cL.to el);(try have lt11_I_0_16:=bC.lt);(try have lt12_I_0_16:=bG.lt);(try have lt13_I_0_16:=bW.lt);(try have lt14_I_0_16:=b9.lt);(try have lt15_I_0_16:=cm.lt);(try have lt16_I_0_16:=cL.lt);(try (have cH:=bC;obtain ⟨da,db,dc,dd⟩:=cH));(try (have cI:=bG;obtain ⟨dg,dh,di,dj⟩:=cI));(try (have cS:=bW;obtain ⟨dT,dU,dV,dW⟩:=cS));(try (have de:=b9;obtain ⟨ez,eC,eD,eF⟩:=de));(try (have dL:=cm;obtain ⟨e8,fc,fd,fe⟩:=dL));(try (have eO:=cL;obtain ⟨ga,gc,gd,ge⟩:=eO)))
   | (go_at_call 146;(refine zk w14 (by with_reducible first|exact Below.refl _ _|exact bN _ _) ?_);intro V15 lg eP;have hsV15:=eP.size;have lh:=gb.size;have g13:=g13.to eP;have gb:=bS gb eP;(try have bC:=bC.to eP);(try have bG:=bG.to eP);(try have bW:=bW.to eP);(try have b9:=b9.to eP);(try have cm:Duo V15 (w14.heap.size) (.bool false) (.slice none 0 0):=(by rw [lg];with_reducible first|exact zJ _ (.bool false) (.slice none 0 0) _|exact (zJ _ (.bool false) (.slice none 0 0) _).alloc _));have dI:wc.heap.size<=w14.heap.size:=(lh);(try have vt11_I_0_15:=bC.lt);(try have vt12_I_0_15:=bG.lt);(try have vt13_I_0_15:=bW.lt);(try have vt14_I_0_15:=b9.lt);(try have vt15_I_0_15:=cm.lt);(with_reducible refine (zbj _ _ _ _ _ _ (g1.to gb).isQ).mono ?_);rintro e w15 ⟨rfl,dk⟩;have g13:=g13.to dk;have gb:=bS gb dk;have hs15:=dk.size;(try have bC:=bC.to dk);(try have bG:=bG.to dk);(try have bW:=bW.to dk);(try have b9:=b9.to dk);(try have cm:=cm.to dk);(try have lt11_I_0_15:=bC.lt);(try have lt12_I_0_15:=bG.lt);(try have lt13_I_0_15:=bW.lt);(try have lt14_I_0_15:=b9.lt);(try have lt15_I_0_15:=cm.lt);(try (have cH:=bC;obtain ⟨da,db,dc,dd⟩:=cH));(try (have cI:=bG;obtain ⟨dg,dh,di,dj⟩:=cI));(try (have cS:=bW;obtain ⟨dT,dU,dV,dW⟩:=cS));(try (have de:=b9;obtain ⟨ez,eC,eD,eF⟩:=de));(try (have dL:=cm;obtain ⟨e8,fc,fd,fe⟩:=dL)))
   | (go_at_call 145;(refine zk w13 (by with_reducible first|exact Below.refl _ _|exact bN _ _) ?_);intro V14 li ff;have hsV14:=ff.size;have lj:=gb.size;have g13:=g13.to ff;have gb:=bS gb ff;(try have bC:=bC.to ff);(try have bG:=bG.to ff);(try have bW:=bW.to ff);(try have b9:Duo V14 (w13.heap.size) (.bool false) (.slice none 0 0):=(by rw [li];with_reducible first|exact zJ _ (.bool false) (.slice none 0 0) _|exact (zJ _ (.bool false) (.slice none 0 0) _).alloc _));have dH:wc.heap.size<=w13.heap.size:=(lj);(try have vt11_I_0_14:=bC.lt);(try have vt12_I_0_14:=bG.lt);(try have vt13_I_0_14:=bW.lt);(try have vt14_I_0_14:=b9.lt);(with_reducible refine (zbi _ _ _ _ _ _ (g2.to gb).isQ).mono ?_);rintro e w14 ⟨rfl,du⟩;have g13:=g13.to du;have gb:=bS gb du;have hs14:=du.size;(try have bC:=bC.to du);(try have bG:=bG.to du);(try have bW:=bW.to du);(try have b9:=b9.to du);(try have lt11_I_0_14:=bC.lt);(try have lt12_I_0_14:=bG.lt);(try have lt13_I_0_14:=bW.lt);(try have lt14_I_0_14:=b9.lt);(try (have cH:=bC;obtain ⟨da,db,dc,dd⟩:=cH));(try (have cI:=bG;obtain ⟨dg,dh,di,dj⟩:=cI));(try (have cS:=bW;obtain ⟨dT,dU,dV,dW⟩:=cS));(try (have de:=b9;obtain ⟨ez,eC,eD,eF⟩:=de)))
   | (go_at_call 144;(refine zk w12 (by with_reducible first|exact Below.refl _ _|exact bN _ _) ?_);intro V13 lk f9;have hsV13:=f9.size;have ll:=gb.size;have gb:=bS gb f9;(try have bC:=bC.to f9);(try have bG:=bG.to f9);(try have bW:Duo V13 (w12.heap.size) (.bool false) (.slice none 0 0):=(by rw [lk];with_reducible first|exact zJ _ (.bool false) (.slice none 0 0) _|exact (zJ _ (.bool false) (.slice none 0 0) _).alloc _));have dG:wc.heap.size<=w12.heap.size:=(ll);(try have vt11_I_0_13:=bC.lt);(try have vt12_I_0_13:=bG.lt);(try have vt13_I_0_13:=bW.lt);(with_reducible refine (zgP _ (g1.to gb).above (g2.to gb).below (x.num*(y.den:Int)) rfl S1).mono ?_);rintro e w13 ⟨ng13,a13_,n13_,c13_,rfl,g13,ed⟩;have gb:=bS gb ed;have hs13:=ed.size;(try have bC:=bC.to ed);(try have bG:=bG.to ed);(try have bW:=bW.to ed);(try have lt11_I_0_13:=bC.lt);(try have lt12_I_0_13:=bG.lt);(try have lt13_I_0_13:=bW.lt);(try (have cH:=bC;obtain ⟨da,db,dc,dd⟩:=cH));(try (have cI:=bG;obtain ⟨dg,dh,di,dj⟩:=cI));(try (have cS:=bW;obtain ⟨dT,dU,dV,dW⟩:=cS)))
   | (go_at_call 146;(refine zk w11 (by with_reducible first|exact Below.refl _ _|exact bN _ _) ?_);intro V12 lp gx;have hsV12:=gx.size;have lq:=gb.size;have gb:=bS gb gx;(try have bC:=bC.to gx);(try have bG:Duo V12 (w11.heap.size) (.bool false) (.slice none 0 0):=(by rw [lp];with_reducible first|exact zJ _ (.bool false) (.slice none 0 0) _|exact (zJ _ (.bool false) (.slice none 0 0) _).alloc _));have dF:wc.heap.size<=w11.heap.size:=(lq);(try have vt11_I_0_12:=bC.lt);(try have vt12_I_0_12:=bG.lt);(with_reducible refine (zbj _ _ _ _ _ _ (g2.to gb).isQ).mono ?_);rintro e w12 ⟨rfl,dl⟩;have gb:=bS gb dl;have hs12:=dl.size;(try have bC:=bC.to dl);(try have bG:=bG.to dl);(try have lt11_I_0_12:=bC.lt);(try have lt12_I_0_12:=bG.lt);(try (have cH:=bC;obtain ⟨da,db,dc,dd⟩:=cH));(try (have cI:=bG;obtain ⟨dg,dh,di,dj⟩:=cI)))
   | (go_at_call 145;(refine zk wc (by with_reducible first|exact (Below.refl _ _).drew|exact (bN _ _).drew) ?_);intro V11 lr jl;have hsV11:=jl.size;have ls:=gb.size;have gb:=bS gb jl;(try have bC:Duo V11 (wc.heap.size) (.bool false) (.slice none 0 0):=(by rw [lr];with_reducible first|exact (zJ _ (.bool false) (.slice none 0 0) _).drew|exact ((zJ _ (.bool false) (.slice none 0 0) _).alloc _).drew));have dE:wc.heap.size<=wc.heap.size:=(ls);(try have vt11_I_0_11:=bC.lt);(with_reducible refine (zbi _ _ _ _ _ _ (g1.to gb).isQ).mono ?_);rintro e w11 ⟨rfl,fs⟩;have gb:=bS gb fs;have hs11:=fs.size;(try have bC:=bC.to fs);(try have lt11_I_0_11:=bC.lt);(try (have cH:=bC;obtain ⟨da,db,dc,dd⟩:=cH))))
  all_goals (go_wp2_with fail;go_meet)
  all_goals first
   | (with_reducible exact zce bC g17 (.inl fR) gb dE)
   | (with_reducible exact zce bG g17 (.inl fS) gb dF)
   | (with_reducible exact zce bW g17 (.inl fU) gb dG)
   | (with_reducible exact zce b9 g17 (.inl fV) gb dH)
   | (with_reducible exact zce cm g17 (.inl fW) gb dI)
   | (with_reducible exact zce cL g17 (.inl fX) gb dJ)
   | (with_reducible exact zce dS g17 (.inl fY) gb dK)
   | (with_reducible exact boxC_new g17 gb)
 case rest =>
 obtain ⟨B7,ng17,a17_,n17_,c17_,lo7,hi7,rfl,hB7,T7,g17,hc7⟩:=hcut
 clear ac ag ae ah af ai ak ap al aq au aA aH aK aI aL be bf bk bo bl bq bm bw b6 ce b7 cf b8 ci
 have gb:=hc7
 obtain ⟨ac,ae,af,ak,al,au,aH,aI,be,bk,bl,bm,b6,b7,b8⟩:=HXwc.out _ gb
 obtain ⟨ag,ah,ai,ap,aq,aA,aK,aL,bf,bo,bq,bw,ce,cf,ci⟩:=HYwc.out _ gb
 obtain ⟨z0,z1,z2,z5,z6⟩:=HZwc.out _ gb
 have z7:=T7.lt
 obtain ⟨gy,gz,j9,kd⟩:=T7
 clear hgb
 obtain ⟨W2,cO⟩:∃ W,wc=W:=⟨_,rfl⟩
 subst cO
 replace i0:=i0.to gb
 replace i1:=i1.to gb
 replace g1:=g1.to gb
 replace g2:=g2.to gb
 replace zb:=bS zb gb
 have HXwc:=Lib.hid (show ∀ W',Below wc.heap.size wc W'->(W'.cell? ⟨w.heap.size,0,none⟩=some (.bool b)/\W'.cell? ⟨w.heap.size,1,none⟩=some (.slice a0 n0 c0)/\W'.cell? ⟨w.heap.size,2,none⟩=some (.slice a1 n1 c1)/\W'.cell? ⟨w.heap.size+1,0,none⟩=some (.bool c)/\W'.cell? ⟨w.heap.size+1,1,none⟩=some (.slice a2 n2 c2)/\W'.cell? ⟨w.heap.size+1,2,none⟩=some (.slice a3 n3 c3)/\W'.cell? ⟨w.heap.size+1+1,0,none⟩=some (.bool false)/\W'.cell? ⟨w.heap.size+1+1,1,none⟩=some (.slice none 0 0)/\W'.cell? ⟨w.heap.size+1+1,2,none⟩=some (.slice none 0 0)/\W'.cell? ⟨B5,0,none⟩=some (.bool ng1)/\W'.cell? ⟨B5,1,none⟩=some (.slice a1_ n1_ c1_)/\W'.cell? ⟨B5,2,none⟩=some (.slice p1_ m1_ k1_)/\W'.cell? ⟨B6,0,none⟩=some (.bool ng2)/\W'.cell? ⟨B6,1,none⟩=some (.slice a2_ n2_ c2_)/\W'.cell? ⟨B6,2,none⟩=some (.slice p2_ m2_ k2_)/\W'.cell? ⟨B7,0,none⟩=some (.bool ng17)/\W'.cell? ⟨B7,1,none⟩=some (.slice a17_ n17_ c17_)) from fun W' hb =>
  by and_intros <;> exact kc hb (by first|assumption|assumption))
 have HYwc:=Lib.hid (show ∀ W',Below wc.heap.size wc W'->(W'.frozen? ⟨w.heap.size,0,none⟩=false/\W'.frozen? ⟨w.heap.size,1,none⟩=false/\W'.frozen? ⟨w.heap.size,2,none⟩=false/\W'.frozen? ⟨w.heap.size+1,0,none⟩=false/\W'.frozen? ⟨w.heap.size+1,1,none⟩=false/\W'.frozen? ⟨w.heap.size+1,2,none⟩=false/\W'.frozen? ⟨w.heap.size+1+1,0,none⟩=false/\W'.frozen? ⟨w.heap.size+1+1,1,none⟩=false/\W'.frozen? ⟨w.heap.size+1+1,2,none⟩=false/\W'.frozen? ⟨B5,0,none⟩=false/\W'.frozen? ⟨B5,1,none⟩=false/\W'.frozen? ⟨B5,2,none⟩=false/\W'.frozen? ⟨B6,0,none⟩=false/\W'.frozen? ⟨B6,1,none⟩=false/\W'.frozen? ⟨B6,2,none⟩=false/\W'.frozen? ⟨B7,0,none⟩=false/\W'.frozen? ⟨B7,1,none⟩=false) from fun W' hb =>
  by and_intros <;> refine (hb.frozen ?_).trans ?_ <;> first|assumption|assumption)
 have HZwc:=Lib.hid (show ∀ W',Below wc.heap.size wc W'->(w.heap.size<W'.heap.size/\w.heap.size+1<W'.heap.size/\w.heap.size+1+1<W'.heap.size/\B5<W'.heap.size/\B6<W'.heap.size/\B7<W'.heap.size) from fun W' hb =>
  by and_intros <;> refine Nat.lt_of_lt_of_le ?_ hb.size <;> first|assumption)
 replace gb:=Below.refl wc.heap.size wc
 go_wp2_with fail
 have H8:=Lib.hid (H9.out ng17 (by have k:=g17.2.1;exact k))
 have nz0:w.heap.size≠w.heap.size+1+1:=by omega
 have nz1:w.heap.size+1≠w.heap.size+1+1:=by omega
 have nz5:B5≠w.heap.size+1+1:=by omega
 have nz6:B6≠w.heap.size+1+1:=by omega
 have nz7:B7≠w.heap.size+1+1:=by omega
 go_region_held3 (fun W' => W'.cell? ⟨w.heap.size,0,none⟩=some (.bool b)/\W'.cell? ⟨w.heap.size,1,none⟩=some (.slice a0 n0 c0)/\W'.cell? ⟨w.heap.size,2,none⟩=some (.slice a1 n1 c1)/\W'.cell? ⟨w.heap.size+1,0,none⟩=some (.bool c)/\W'.cell? ⟨w.heap.size+1,1,none⟩=some (.slice a2 n2 c2)/\W'.cell? ⟨w.heap.size+1,2,none⟩=some (.slice a3 n3 c3)/\W'.cell? ⟨B5,0,none⟩=some (.bool ng1)/\W'.cell? ⟨B5,1,none⟩=some (.slice a1_ n1_ c1_)/\W'.cell? ⟨B5,2,none⟩=some (.slice p1_ m1_ k1_)/\W'.cell? ⟨B6,0,none⟩=some (.bool ng2)/\W'.cell? ⟨B6,1,none⟩=some (.slice a2_ n2_ c2_)/\W'.cell? ⟨B6,2,none⟩=some (.slice p2_ m2_ k2_)/\W'.cell? ⟨B7,0,none⟩=some (.bool ng17)/\W'.cell? ⟨B7,1,none⟩=some (.slice a17_ n17_ c17_)) (first|(with_reducible exact ⟨ac,ae,af,ak,al,au,bk,bl,bm,b6,b7,b8,gy,gz⟩)|(with_reducible exact ⟨cP (cP (cP (ac) (.inl nz0) _) (.inl nz0) _) (.inl nz0) _,cP (cP (cP (ae) (.inl nz0) _) (.inl nz0) _) (.inl nz0) _,cP (cP (cP (af) (.inl nz0) _) (.inl nz0) _) (.inl nz0) _,cP (cP (cP (ak) (.inl nz1) _) (.inl nz1) _) (.inl nz1) _,cP (cP (cP (al) (.inl nz1) _) (.inl nz1) _) (.inl nz1) _,cP (cP (cP (au) (.inl nz1) _) (.inl nz1) _) (.inl nz1) _,cP (cP (cP (bk) (.inl nz5) _) (.inl nz5) _) (.inl nz5) _,cP (cP (cP (bl) (.inl nz5) _) (.inl nz5) _) (.inl nz5) _,cP (cP (cP (bm) (.inl nz5) _) (.inl nz5) _) (.inl nz5) _,cP (cP (cP (b6) (.inl nz6) _) (.inl nz6) _) (.inl nz6) _,cP (cP (cP (b7) (.inl nz6) _) (.inl nz6) _) (.inl nz6) _,cP (cP (cP (b8) (.inl nz6) _) (.inl nz6) _) (.inl nz6) _,cP (cP (cP (gy) (.inl nz7) _) (.inl nz7) _) (.inl nz7) _,cP (cP (cP (gz) (.inl nz7) _) (.inl nz7) _) (.inl nz7) _⟩)|exact ⟨ac,ae,af,ak,al,au,bk,bl,bm,b6,b7,b8,gy,gz⟩) (first
  | (go_at_call 62;(with_reducible refine (zac ng17 _ _ _ _ _ (g17.to gb).isI.up g21.rd (Nat.le_trans S3.out (by omega)) K2.out q H8.out hs).mono ?_);rintro e w22 ⟨ng22,a22_,n22_,c22_,p22_,m22_,k22_,rfl,g22,ke⟩;have g21:=g21.to ke;have gb:=bS gb ke;obtain ⟨ac,ae,af,ak,al,au,aH,aI,be,bk,bl,bm,b6,b7,b8,gy,gz⟩:=HXwc.out _ gb;obtain ⟨ag,ah,ai,ap,aq,aA,aK,aL,bf,bo,bq,bw,ce,cf,ci,j9,kd⟩:=HYwc.out _ gb;obtain ⟨z0,z1,z2,z5,z6,z7⟩:=HZwc.out _ gb)
  | (go_at_call 147;have gb:=gb.drew;(with_reducible refine (zbY _ _ (zc x.den) (zc y.den) _ (g1.to gb).isQ.dn (g2.to gb).isQ.dn (Nat.le_trans (g1.to gb).isQ.ldn (by omega)) (Nat.le_trans (g2.to gb).isQ.ldn (by omega))).mono ?_);rintro e w21 ⟨v21,rfl,g21,lu⟩;obtain ⟨a21_,n21_,c21_,rfl,H21,hm21⟩:=g21.rd.open;have gb:=bS gb lu;obtain ⟨ac,ae,af,ak,al,au,aH,aI,be,bk,bl,bm,b6,b7,b8,gy,gz⟩:=HXwc.out _ gb;obtain ⟨ag,ah,ai,ap,aq,aA,aK,aL,bf,bo,bq,bw,ce,cf,ci,j9,kd⟩:=HYwc.out _ gb;obtain ⟨z0,z1,z2,z5,z6,z7⟩:=HZwc.out _ gb))
 go_wp2_with fail
 refine bodyPost_ret (zC Tryz.results117 _ _ _ _ _ _ rfl (Tri.set (x0:=.bool false) (y0:=.slice none 0 0) (z0:=.slice none 0 0) ⟨aH,aI,be,aK,aL,bf⟩ _ _ _)) rfl (zct (bS zb gb) (by omega) ?_ g22)
 omega

end Go.Proofs.YtkjcdnlpjldhaaaGreat


namespace Go.Proofs.YtkjcdnlpjldhaaaGreat
open Go.RowKit Tw
attribute [local go_sem ↓] Go.wp_at_zero Go.wp_at_succ

theorem zeL {z:Int} (n0:-9223372036854775808<=z) (n1:z<9223372036854775808):szi z<=3:=by
 unfold szi
 have:=zak (show z.natAbs<=18446744073709551616 by omega)
 rwa [show sz 18446744073709551616=3 by decide +kernel] at this

theorem zkq {z:Int} (h:szi z<=3):szq (z:Rat)<=1000:=by
 unfold szq
 have h1:(z:Rat).num=z:=Rat.num_intCast z
 have h2:(z:Rat).den=1:=Rat.den_intCast z
 rw [h1,h2]
 unfold szi at h
 have:sz 1<=1:=by decide +kernel
 omega

theorem zkj (z:Int):rat (decide (z<0)) (val (zc z.natAbs)) (val (zc (1:Int).toNat))=(z:Rat):=by
 rw [vL,vL]
 have h:=zbm (z:Rat)
 have h1:(z:Rat).num=z:=Rat.num_intCast z
 have h2:(z:Rat).den=1:=Rat.den_intCast z
 rw [zbo,h1,h2] at h
 exact h

def zq (w:World) (q:Rat) (e:Ending) (w':World):Prop :=
 ∃ ng a n c a' n' c',e=.returned (.tuple #[aggR ng (.slice a n c) (.slice a' n' c'),.int .i64 0])/\zP w.heap.size w'.heap.size w' ng (.slice a n c) (.slice a' n' c') q/\Below w.heap.size w w'

theorem zae {w w2:World} {lo hi rb:Nat} {ng:Bool} {a a':Option Addr} {n c n' c':Nat} {q:Rat} (hb:Below w.heap.size w w2) (hrb:w.heap.size<=rb) (hlo:rb<lo) (hv:zP lo hi w2 ng (.slice a n c) (.slice a' n' c') q) :
  zq w q (.returned (.tuple #[aggR ng (.slice a n c) (.slice a' n' c'),.int .i64 0])) (zbP w2 rb (.bool ng) (.slice a n c) (.slice a' n' c')):=by
 obtain ⟨_,_,_,_,_,_,_,e,h1,h2⟩:=zct hb hrb hlo hv
 injection e with e
 injection e with e
 simp only [Array.mk.injEq,List.cons.injEq,Value.bool.injEq,Value.slice.injEq,and_true] at e
 obtain ⟨rfl,⟨rfl,rfl,rfl⟩,rfl,rfl,rfl⟩:=e
 exact ⟨_,_,_,_,_,_,_,rfl,h1,h2⟩

theorem zkU {x y:Rat} (b:Bool) (v u:Value) (ln ld:List Nat) (c:Bool) (v' u':Value) (ln' ld':List Nat) (w:World) (h:IsQ w b v u ln ld x) (h':IsQ w c v' u' ln' ld' y) (q:Rat) (hq:x - y=q) (hs:Hid (szq q<=1000)) :
  Calls Tryz.prog 118 #[aggR b v u,aggR c v' u'] w (zL w q):=by
 have Hn:Hid (szq (-y)<=1000):=by show _<=_;rw [zfy];exact (zG h').out
 have H9:=Lib.hid (show x+-y=q by rw [<- Rat.sub_eq_add_neg,hq])
 obtain ⟨a0,n0,c0,rfl,H0,hm0⟩:=h.1.open
 obtain ⟨a1,n1,c1,rfl,H1,hm1⟩:=h.2.1.open
 obtain ⟨a2,n2,c2,rfl,H2,hm2⟩:=h'.1.open
 obtain ⟨a3,n3,c3,rfl,H3,hm3⟩:=h'.2.1.open
 clear hq
 go_enter Tryz.func118,Tryz.ntmps118
 go_wp2_with fail
 obtain ⟨W0,az⟩:∃ W0,((w.alloc (.cells #[.bool b,.slice a0 n0 c0,.slice a1 n1 c1] 47)).alloc (.cells #[.bool c,.slice a2 n2 c2,.slice a3 n3 c3] 47)).alloc (.cells #[.bool false,.slice none 0 0,.slice none 0 0] 47)=W0:=⟨_,rfl⟩
 have am:=Lib.hid (show ∀ W',Below W0.heap.size W0 W'->(Bx3 W' w.heap.size (.bool b) (.slice a0 n0 c0) (.slice a1 n1 c1)/\Bx3 W' (w.heap.size+1) (.bool c) (.slice a2 n2 c2) (.slice a3 n3 c3)/\Bx3 W' (w.heap.size+1+1) (.bool false) (.slice none 0 0) (.slice none 0 0)) from fun W' hb => by
   refine ⟨bx3 hb ?_ ?_ ?_ ?_ ?_ ?_,bx3 hb ?_ ?_ ?_ ?_ ?_ ?_,bx3 hb ?_ ?_ ?_ ?_ ?_ ?_⟩
   all_goals first|assumption|(rw [<- az];simp [go_sem]))
 have zb:Below w.heap.size w W0:=by rw [<- az];exact bS (bS (bN _ _) (bN _ _)) (bN _ _)
 rw [az]
 clear az
 have i0:=h.to zb
 have i1:=h'.to zb
 have gb:Below W0.heap.size W0 W0:=Below.refl _ _
 obtain ⟨⟨z0,ac,ae,af,ag,ah,ai⟩,⟨z1,ak,al,au,ap,aq,aA⟩,⟨z2,aH,aI,be,aK,aL,bf⟩⟩:=am.out _ gb
 have nz0:w.heap.size≠w.heap.size+1+1:=by omega
 have nz1:w.heap.size+1≠w.heap.size+1+1:=by omega
 go_region_held3 (fun W' => W'.cell? ⟨w.heap.size,0,none⟩=some (.bool b)/\W'.cell? ⟨w.heap.size,1,none⟩=some (.slice a0 n0 c0)/\W'.cell? ⟨w.heap.size,2,none⟩=some (.slice a1 n1 c1)/\W'.cell? ⟨w.heap.size+1,0,none⟩=some (.bool c)/\W'.cell? ⟨w.heap.size+1,1,none⟩=some (.slice a2 n2 c2)/\W'.cell? ⟨w.heap.size+1,2,none⟩=some (.slice a3 n3 c3)) (first|(with_reducible exact ⟨ac,ae,af,ak,al,au⟩)|(with_reducible exact ⟨cP (cP (cP (ac) (.inl nz0) _) (.inl nz0) _) (.inl nz0) _,cP (cP (cP (ae) (.inl nz0) _) (.inl nz0) _) (.inl nz0) _,cP (cP (cP (af) (.inl nz0) _) (.inl nz0) _) (.inl nz0) _,cP (cP (cP (ak) (.inl nz1) _) (.inl nz1) _) (.inl nz1) _,cP (cP (cP (al) (.inl nz1) _) (.inl nz1) _) (.inl nz1) _,cP (cP (cP (au) (.inl nz1) _) (.inl nz1) _) (.inl nz1) _⟩)|exact ⟨ac,ae,af,ak,al,au⟩) (first
  | (go_at_call 117;(with_reducible refine (zgT b _ _ ln ld _ _ _ _ _ _ (i0.to gb) g1.isQ q H9.out hs).mono ?_);rintro e w2 ⟨ng2,a2_,n2_,c2_,p2_,m2_,k2_,rfl,g2,aN⟩;have g1:=g1.to aN;have gb:=bS gb aN;obtain ⟨⟨z0,ac,ae,af,ag,ah,ai⟩,⟨z1,ak,al,au,ap,aq,aA⟩,⟨z2,aH,aI,be,aK,aL,bf⟩⟩:=am.out _ gb)
  | (go_at_call 121;have gb:=gb.drew;(with_reducible refine (zgX c _ _ ln' ld' _ (i1.to gb) (-y) rfl Hn).mono ?_);rintro e w1 ⟨ng1,a1_,n1_,c1_,p1_,m1_,k1_,rfl,g1,bd⟩;have gb:=bS gb bd;obtain ⟨⟨z0,ac,ae,af,ag,ah,ai⟩,⟨z1,ak,al,au,ap,aq,aA⟩,⟨z2,aH,aI,be,aK,aL,bf⟩⟩:=am.out _ gb))
 go_wp2_with fail
 refine bodyPost_ret (zC Tryz.results118 _ _ _ _ _ _ rfl (Tri.set (x0:=.bool false) (y0:=.slice none 0 0) (z0:=.slice none 0 0) ⟨aH,aI,be,aK,aL,bf⟩ _ _ _)) rfl (zct (bS zb gb) (by omega) ?_ g2)
 omega

theorem zgx (b c:Bool) (v u:Value) (ln ld:List Nat) (w:World) (hv:Rd w v ln) (hu:Rd w u ld) (h2:ld.length<=3000) (h0:val ld=0) :
  Calls Tryz.prog 148 #[aggI b v,aggI c u] w (fun e w' => e=.returned (.tuple #[aggR false (.slice none 0 0) (.slice none 0 0),.int .i64 3])/\Below w.heap.size w w'):=by
 have Z0:=Lib.hid (show zO (val ld)=0 by rw [h0];rfl)
 clear h0
 obtain ⟨a0,n0,c0,rfl,H0,hm0⟩:=hv.open
 obtain ⟨a1,n1,c1,rfl,H1,hm1⟩:=hu.open
 go_enter Tryz.func148,Tryz.ntmps148
 go_wp2_with fail
 obtain ⟨W0,az⟩:∃ W0,((w.alloc (.cells #[.bool b,.slice a0 n0 c0] 95)).alloc (.cells #[.bool c,.slice a1 n1 c1] 95)).alloc (.cells #[.bool false,.slice none 0 0,.slice none 0 0] 47)=W0:=⟨_,rfl⟩
 have am:=Lib.hid (show ∀ W',Below W0.heap.size W0 W'->(Bx2 W' w.heap.size (.bool b) (.slice a0 n0 c0)/\Bx2 W' (w.heap.size+1) (.bool c) (.slice a1 n1 c1)/\Bx3 W' (w.heap.size+1+1) (.bool false) (.slice none 0 0) (.slice none 0 0)) from fun W' hb => by
   refine ⟨bx2 hb ?_ ?_ ?_ ?_,bx2 hb ?_ ?_ ?_ ?_,bx3 hb ?_ ?_ ?_ ?_ ?_ ?_⟩
   all_goals first|assumption|(rw [<- az];simp [go_sem]))
 have zb:Below w.heap.size w W0:=by rw [<- az];exact bS (bS (bN _ _) (bN _ _)) (bN _ _)
 rw [az]
 clear az
 have i0:=hv.to zb
 have i1:=hu.to zb
 have gb:Below W0.heap.size W0 W0:=Below.refl _ _
 obtain ⟨⟨z0,ac,ae,ag,ah⟩,⟨z1,ak,al,ap,aq⟩,⟨z2,aH,aI,be,aK,aL,bf⟩⟩:=am.out _ gb
 refine (zaI _ ld _ (i1.to gb) (by omega)).mono ?_
 rintro e w1 ⟨rfl,rfl⟩
 rw [Z0.out]
 go_wp2_with fail
 refine bodyPost_ret (zi Tryz.results148 _ _ _ _ _ _ rfl (Tri.set (x0:=.bool false) (y0:=.slice none 0 0) (z0:=.slice none 0 0) ⟨aH,aI,be,aK,aL,bf⟩ _ _ _)) rfl ⟨rfl,bT (bS zb gb) (by omega) _ _ _⟩

theorem zjH (b c:Bool) (v u:Value) (ln ld:List Nat) (w:World) (hv:Rd w v ln) (hu:Rd w u ld) (h1:ln.length<=3000) (h2:ld.length<=3000) (h0:val ld≠0) (q:Rat) (hq:rat (b != c) (val ln) (val ld)=q) (hs:Hid (szq q<=1000)) :
  Calls Tryz.prog 148 #[aggI b v,aggI c u] w (zq w q):=by
 have hnb:0<zO (val ld):=Nat.pos_of_ne_zero (fun e => h0 (zaX.1 e))
 have Z0:=Lib.hid h0
 have H9:=Lib.hid (show rat (!b == c) (val ln) (val ld)=q from hq)
 clear h0 hq
 obtain ⟨a0,n0,c0,rfl,H0,hm0⟩:=hv.open
 obtain ⟨a1,n1,c1,rfl,H1,hm1⟩:=hu.open
 go_enter Tryz.func148,Tryz.ntmps148
 go_wp2_with fail
 obtain ⟨W0,az⟩:∃ W0,((w.alloc (.cells #[.bool b,.slice a0 n0 c0] 95)).alloc (.cells #[.bool c,.slice a1 n1 c1] 95)).alloc (.cells #[.bool false,.slice none 0 0,.slice none 0 0] 47)=W0:=⟨_,rfl⟩
 have am:=Lib.hid (show ∀ W',Below W0.heap.size W0 W'->(Bx2 W' w.heap.size (.bool b) (.slice a0 n0 c0)/\Bx2 W' (w.heap.size+1) (.bool c) (.slice a1 n1 c1)/\Bx3 W' (w.heap.size+1+1) (.bool false) (.slice none 0 0) (.slice none 0 0)) from fun W' hb => by
   refine ⟨bx2 hb ?_ ?_ ?_ ?_,bx2 hb ?_ ?_ ?_ ?_,bx3 hb ?_ ?_ ?_ ?_ ?_ ?_⟩
   all_goals first|assumption|(rw [<- az];simp [go_sem]))
 have zb:Below w.heap.size w W0:=by rw [<- az];exact bS (bS (bN _ _) (bN _ _)) (bN _ _)
 rw [az]
 clear az
 have i0:=hv.to zb
 have i1:=hu.to zb
 have gb:Below W0.heap.size W0 W0:=Below.refl _ _
 obtain ⟨⟨z0,ac,ae,ag,ah⟩,⟨z1,ak,al,ap,aq⟩,⟨z2,aH,aI,be,aK,aL,bf⟩⟩:=am.out _ gb
 refine (zaI _ ld _ (i1.to gb) (by omega)).mono ?_
 rintro e w1 ⟨rfl,rfl⟩
 go_wp2_with fail
 refine (zac (!b == c) _ _ _ _ _ (i0.to gb) (i1.to gb) h1 h2 q H9.out hs).mono ?_
 clear ac ag ae ah ak ap al aq aH aK aI aL be bf
 rintro e w2 ⟨ng2,a2_,n2_,c2_,p2_,m2_,k2_,rfl,g2,aN⟩
 replace gb:=bS gb aN
 obtain ⟨⟨z0,ac,ae,ag,ah⟩,⟨z1,ak,al,ap,aq⟩,⟨z2,aH,aI,be,aK,aL,bf⟩⟩:=am.out _ gb
 go_wp2_with fail
 refine bodyPost_ret (zi Tryz.results148 _ _ _ _ _ _ rfl (Tri.set (x0:=.bool false) (y0:=.slice none 0 0) (z0:=.slice none 0 0) ⟨aH,aI,be,aK,aL,bf⟩ _ _ _)) rfl (zae (bS zb gb) (by omega) ?_ g2)
 omega

theorem zhf (n z:Int) (w:World) (hz:z=n) (m0:-9223372036854775808<=n) (m1:n<9223372036854775808) :
  Calls Tryz.prog 38 #[.int .i64 n] w (zL w (z:Rat)):=by
 have Hz:=Lib.hid hz
 have S1:=Lib.hid (zeL (z:=z) (by omega) (by omega))
 have S2:=Lib.hid (show szq (z:Rat)<=1000 from zkq S1.out)
 have K2:=Lib.hid (show (zc (1:Int).toNat).length<=3000 by decide +kernel)
 have H9:=Lib.hid (show ∀ ng,decide (z<0)=ng->rat ng (val (zc z.natAbs)) (val (zc (1:Int).toNat))=(z:Rat) from fun ng e => by rw [<- e];exact zkj z)
 clear hz
 go_enter Tryz.func38,Tryz.ntmps38
 go_wp2_with fail
 obtain ⟨W0,az⟩:∃ W0,w.alloc (.cells #[.bool false,.slice none 0 0,.slice none 0 0] 47)=W0:=⟨_,rfl⟩
 have am:=Lib.hid (show ∀ W',Below W0.heap.size W0 W'->(Bx3 W' w.heap.size (.bool false) (.slice none 0 0) (.slice none 0 0)) from fun W' hb => by
   apply bx3 hb
   all_goals first|assumption|(rw [<- az];simp [go_sem]))
 have zb:Below w.heap.size w W0:=by rw [<- az];exact bN _ _
 rw [az]
 clear az
 have gb:Below W0.heap.size W0 W0:=Below.refl _ _
 obtain ⟨z0,ac,ae,af,ag,ah,ai⟩:=am.out _ gb
 refine (of_c n z _ Hz.out m0 m1).mono ?_
 clear ac ag ae ah af ai
 rintro e w1 ⟨ng1,a1_,n1_,c1_,rfl,g1,bd⟩
 replace gb:=bS gb bd
 obtain ⟨z0,ac,ae,af,ag,ah,ai⟩:=am.out _ gb
 go_wp2_with fail
 obtain ⟨W1,aO⟩:∃ W1,w1.alloc (.cells #[.bool ng1,.slice a1_ n1_ c1_] 95)=W1:=⟨_,rfl⟩
 have hb_W1:Below w1.heap.size w1 W1:=by rw [<- aO];exact bN _ _
 clear ac ag ae ah af ai
 replace g1:=g1.to hb_W1
 replace gb:=bS gb hb_W1
 obtain ⟨z0,ac,ae,af,ag,ah,ai⟩:=am.out _ gb
 have bt:W1.cell? ⟨w1.heap.size,0,none⟩=some (.bool ng1):=by rw [<- aO];simp [go_sem]
 have bx:W1.frozen? ⟨w1.heap.size,0,none⟩=false:=by rw [<- aO];simp [go_sem]
 have bu:W1.cell? ⟨w1.heap.size,1,none⟩=some (.slice a1_ n1_ c1_):=by rw [<- aO];simp [go_sem]
 have bz:W1.frozen? ⟨w1.heap.size,1,none⟩=false:=by rw [<- aO];simp [go_sem]
 have z3:w1.heap.size<W1.heap.size:=by rw [<- aO];simp
 rw [aO]
 clear aO
 replace zb:=bS zb gb
 have bU:=Lib.hid (show ∀ W',Below W1.heap.size W1 W'->(Bx3 W' w.heap.size (.bool false) (.slice none 0 0) (.slice none 0 0)/\Bx2 W' w1.heap.size (.bool ng1) (.slice a1_ n1_ c1_)) from fun W' hb => by
   refine ⟨bx3 hb ?_ ?_ ?_ ?_ ?_ ?_,bx2 hb ?_ ?_ ?_ ?_⟩
   all_goals first|assumption|assumption)
 replace gb:=Below.refl W1.heap.size W1
 go_wp2_with fail
 have H8:=Lib.hid (H9.out ng1 (by have k:=g1.2.1;exact k))
 have nz3:w1.heap.size≠w.heap.size:=by omega
 go_region_held3 (fun W' => W'.cell? ⟨w1.heap.size,0,none⟩=some (.bool ng1)/\W'.cell? ⟨w1.heap.size,1,none⟩=some (.slice a1_ n1_ c1_)) (first|(with_reducible exact ⟨bt,bu⟩)|(with_reducible exact ⟨cP (cP (cP (bt) (.inl nz3) _) (.inl nz3) _) (.inl nz3) _,cP (cP (cP (bu) (.inl nz3) _) (.inl nz3) _) (.inl nz3) _⟩)|exact ⟨bt,bu⟩) (first
  | (go_at_call 62;(with_reducible refine (zac ng1 _ _ _ _ _ (g1.to gb).isI.up g2.rd (Nat.le_trans S1.out (by omega)) K2.out (z:Rat) H8.out S2).mono ?_);rintro e w3 ⟨ng3,a3_,n3_,c3_,p3_,m3_,k3_,rfl,g3,bs⟩;have g2:=g2.to bs;have gb:=bS gb bs;obtain ⟨⟨z0,ac,ae,af,ag,ah,ai⟩,⟨z3,bt,bu,bx,bz⟩⟩:=bU.out _ gb)
  | (go_at_call 63;have gb:=gb.drew;(with_reducible refine (zcL 1 _ (by omega) (by omega)).mono ?_);rintro e w2 ⟨v2,rfl,g2,aN⟩;obtain ⟨a2_,n2_,c2_,rfl,H2,hm2⟩:=g2.rd.open;have gb:=bS gb aN;obtain ⟨⟨z0,ac,ae,af,ag,ah,ai⟩,⟨z3,bt,bu,bx,bz⟩⟩:=bU.out _ gb))
 go_wp2_with fail
 refine bodyPost_ret (zC Tryz.results38 _ _ _ _ _ _ rfl (Tri.set (x0:=.bool false) (y0:=.slice none 0 0) (z0:=.slice none 0 0) ⟨ac,ae,af,ag,ah,ai⟩ _ _ _)) rfl (zct (bS zb gb) (by omega) ?_ g3)
 omega

end Go.Proofs.YtkjcdnlpjldhaaaGreat


namespace Go.Proofs.YtkjcdnlpjldhaaaGreat
open Go.RowKit Tw
attribute [local go_sem ↓] Go.wp_at_zero Go.wp_at_succ

theorem finZ1 {w w1:World} {rb:Nat} (hb:Below w.heap.size w w1) (hrb:w.heap.size<=rb) (hlt:rb<w1.heap.size) :
  zL w 0 (.returned (aggR false (.slice none 0 0) (.slice (some ⟨w1.heap.size,0,none⟩) 1 1))) ((zbP w1 rb (.bool false) (.slice none 0 0) (.slice (some ⟨w1.heap.size,0,none⟩) 1 1)).alloc (.cells #[zaA 1] 97)):=by
 have bs:=bT hb hrb (.bool false) (.slice none 0 0) (.slice (some ⟨w1.heap.size,0,none⟩) 1 1)
 refine ⟨false,none,0,0,_,_,_,rfl,zfo (by rw [show zc (0:Rat).num.natAbs=[] by decide +kernel];exact Own.nil _ _) ?_ (by decide +kernel) (by decide +kernel),bS bs (bN _ _)⟩
 rw [show zc (0:Rat).den=[1] by decide +kernel]
 exact (zaH (zbP w1 rb (.bool false) (.slice none 0 0) (.slice (some ⟨w1.heap.size,0,none⟩) 1 1)) w1.heap.size [1] (by simp) (zcf (by omega)) (by simp [maxLen])).mono bs.size

theorem zhT (va vb:Value) (la lb:List Nat) (o:Bool) (w:World) (ha:Rd w va la) (hb:Rd w vb lb) (ho:Hid (decide (la=lb)=o)) :
  Calls Tryz.prog 46 #[va,vb] w fun e w' => e=.returned (.bool o)/\Below w.heap.size w w':=by
 by_cases h:la=lb
 ·subst h
  rw [<- ho.out,decide_eq_true rfl]
  exact zjG va vb la w ha hb
 ·rw [<- ho.out,decide_eq_false h]
  exact zjI va vb la lb w ha hb h

def IsF (w:World) (v u:Value) (ln ld:List Nat):Prop:=Rd w v ln/\Rd w u ld

theorem IsF.to {w w':World} {v u:Value} {ln ld:List Nat} (h:IsF w v u ln ld) (hb:Below w.heap.size w w'):IsF w' v u ln ld:=⟨h.1.to hb,h.2.to hb⟩

theorem IsF.drew {w:World} {v u:Value} {ln ld:List Nat} (h:IsF w v u ln ld):IsF w.drew v u ln ld:=⟨h.1.drew,h.2.drew⟩

theorem IsQ.isF {w:World} {b:Bool} {v u:Value} {ln ld:List Nat} {q:Rat} (h:IsQ w b v u ln ld q):IsF w v u ln ld:=⟨h.1,h.2.1⟩

theorem zP.isF {lo hi:Nat} {w:World} {b:Bool} {v u:Value} {q:Rat} (h:zP lo hi w b v u q):IsF w v u (zc q.num.natAbs) (zc q.den):=⟨h.1.rd,h.2.1.rd⟩

theorem zP.ng {lo hi:Nat} {w:World} {b:Bool} {v u:Value} {q:Rat} (h:zP lo hi w b v u q):decide (q<0)=b:=h.2.2.1

def zcJ (b:Bool) (ln ld:List Nat) (x:Rat):Bool:=decide (x<0) == b && decide (zc x.num.natAbs=ln) && decide (zc x.den=ld)

theorem zfV (b:Bool) (v u:Value) (ln ld:List Nat) (w:World) (hv:Rd w v ln) (hu:Rd w u ld) (h1:ln.length<=3000) (h2:ld.length<=3000) (h0:val ld=0) :
  Calls Tryz.prog 47 #[aggI b v,u] w (zL w (rat b (val ln) (val ld))):=by
 rw [h0,zbW]
 have Z0:=Lib.hid h0
 clear h0
 obtain ⟨a0,n0,c0,rfl,H0,hm0⟩:=hv.open
 obtain ⟨a1,n1,c1,rfl,H1,hm1⟩:=hu.open
 go_enter Tryz.func47,Tryz.ntmps47
 go_wp2_with fail
 obtain ⟨W0,az⟩:∃ W0,(w.alloc (.cells #[.bool b,.slice a0 n0 c0] 95)).alloc (.cells #[.bool false,.slice none 0 0,.slice none 0 0] 47)=W0:=⟨_,rfl⟩
 have am:=Lib.hid (show ∀ W',Below W0.heap.size W0 W'->(Bx2 W' w.heap.size (.bool b) (.slice a0 n0 c0)/\Bx3 W' (w.heap.size+1) (.bool false) (.slice none 0 0) (.slice none 0 0)) from fun W' hb => by
   refine ⟨bx2 hb ?_ ?_ ?_ ?_,bx3 hb ?_ ?_ ?_ ?_ ?_ ?_⟩
   all_goals first|assumption|(rw [<- az];simp [go_sem]))
 have zb:Below w.heap.size w W0:=by rw [<- az];exact bS (bN _ _) (bN _ _)
 rw [az]
 clear az
 have i0:=hv.to zb
 have i1:=hu.to zb
 have gb:Below W0.heap.size W0 W0:=Below.refl _ _
 obtain ⟨⟨z0,ac,ae,ag,ah⟩,⟨z1,ak,al,au,ap,aq,aA⟩⟩:=am.out _ gb
 refine (zfF _ _ ln ld _ (i0.to gb) (i1.to gb) (by omega) Z0.out).mono ?_
 clear ac ag ae ah ak ap al aq au aA
 rintro e w1 ⟨rfl,bd⟩
 replace gb:=bS gb bd
 obtain ⟨⟨z0,ac,ae,ag,ah⟩,⟨z1,ak,al,au,ap,aq,aA⟩⟩:=am.out _ gb
 go_wp2_with fail
 refine bodyPost_ret (zC Tryz.results47 _ _ _ _ _ _ rfl (Tri.alloc (Tri.set (x0:=.bool false) (y0:=.slice none 0 0) (z0:=.slice none 0 0) ⟨ak,al,au,ap,aq,aA⟩ _ _ _) _)) rfl (finZ1 (bS zb gb) (by omega) (by omega))

theorem zet (b:Bool) (v u:Value) (ln ld:List Nat) (w:World) (hv:Rd w v ln) (hu:Rd w u ld) (h1:ln.length<=3000) (h2:ld.length<=3000) (h0:0<val ld) (h3:val ln=0) :
  Calls Tryz.prog 47 #[aggI b v,u] w (zL w (rat b (val ln) (val ld))):=by
 rw [h3,zbT]
 have Z0:=Lib.hid h0
 have Z3:=Lib.hid (show zc (val ln / Nat.gcd (val ln) (val ld))=[] by rw [h3,Nat.zero_div];rfl)
 clear h0 h3
 obtain ⟨a0,n0,c0,rfl,H0,hm0⟩:=hv.open
 obtain ⟨a1,n1,c1,rfl,H1,hm1⟩:=hu.open
 go_enter Tryz.func47,Tryz.ntmps47
 go_wp2_with fail
 obtain ⟨W0,az⟩:∃ W0,(w.alloc (.cells #[.bool b,.slice a0 n0 c0] 95)).alloc (.cells #[.bool false,.slice none 0 0,.slice none 0 0] 47)=W0:=⟨_,rfl⟩
 have am:=Lib.hid (show ∀ W',Below W0.heap.size W0 W'->(Bx2 W' w.heap.size (.bool b) (.slice a0 n0 c0)/\Bx3 W' (w.heap.size+1) (.bool false) (.slice none 0 0) (.slice none 0 0)) from fun W' hb => by
   refine ⟨bx2 hb ?_ ?_ ?_ ?_,bx3 hb ?_ ?_ ?_ ?_ ?_ ?_⟩
   all_goals first|assumption|(rw [<- az];simp [go_sem]))
 have zb:Below w.heap.size w W0:=by rw [<- az];exact bS (bN _ _) (bN _ _)
 rw [az]
 clear az
 have i0:=hv.to zb
 have i1:=hu.to zb
 have gb:Below W0.heap.size W0 W0:=Below.refl _ _
 obtain ⟨⟨z0,ac,ae,ag,ah⟩,⟨z1,ak,al,au,ap,aq,aA⟩⟩:=am.out _ gb
 refine (zeO _ _ ln ld _ (i0.to gb) (i1.to gb) (by omega) (by omega) Z0.out).mono ?_
 clear ac ag ae ah ak ap al aq au aA
 rintro e w1 ⟨v1,u1,rfl,g1,d1,bd⟩
 obtain ⟨a1_,n1_,c1_,rfl,H1,hm1⟩:=g1.rd.open
 obtain ⟨p1_,m1_,k1_,rfl,J1,jm1⟩:=d1.rd.open
 replace gb:=bS gb bd
 obtain ⟨⟨z0,ac,ae,ag,ah⟩,⟨z1,ak,al,au,ap,aq,aA⟩⟩:=am.out _ gb
 obtain rfl:n1_=0:=by rw [<- H1.out,Z3.out];rfl
 go_wp2_with fail
 refine bodyPost_ret (zC Tryz.results47 _ _ _ _ _ _ rfl (Tri.alloc (Tri.set (x0:=.bool false) (y0:=.slice none 0 0) (z0:=.slice none 0 0) ⟨ak,al,au,ap,aq,aA⟩ _ _ _) _)) rfl (finZ1 (bS zb gb) (by omega) (by omega))

theorem zew (b:Bool) (v u:Value) (ln ld:List Nat) (w:World) (hv:Rd w v ln) (hu:Rd w u ld) (h1:ln.length<=3000) (h2:ld.length<=3000) (h0:0<val ld) (h3:0<val ln) (hs:szq (rat b (val ln) (val ld))<=1000) :
  Calls Tryz.prog 47 #[aggI b v,u] w (zL w (rat b (val ln) (val ld))):=by
 have Z0:=Lib.hid h0
 have Z3:=Lib.hid h3
 have Hs:=Lib.hid hs
 have H4:=Lib.hid (Nat.ne_of_gt (zgb h3 h0))
 clear h0 h3 hs
 obtain ⟨a0,n0,c0,rfl,H0,hm0⟩:=hv.open
 obtain ⟨a1,n1,c1,rfl,H1,hm1⟩:=hu.open
 go_enter Tryz.func47,Tryz.ntmps47
 go_wp2_with fail
 obtain ⟨W0,az⟩:∃ W0,(w.alloc (.cells #[.bool b,.slice a0 n0 c0] 95)).alloc (.cells #[.bool false,.slice none 0 0,.slice none 0 0] 47)=W0:=⟨_,rfl⟩
 have am:=Lib.hid (show ∀ W',Below W0.heap.size W0 W'->(Bx2 W' w.heap.size (.bool b) (.slice a0 n0 c0)/\Bx3 W' (w.heap.size+1) (.bool false) (.slice none 0 0) (.slice none 0 0)) from fun W' hb => by
   refine ⟨bx2 hb ?_ ?_ ?_ ?_,bx3 hb ?_ ?_ ?_ ?_ ?_ ?_⟩
   all_goals first|assumption|(rw [<- az];simp [go_sem]))
 have zb:Below w.heap.size w W0:=by rw [<- az];exact bS (bN _ _) (bN _ _)
 rw [az]
 clear az
 have i0:=hv.to zb
 have i1:=hu.to zb
 have gb:Below W0.heap.size W0 W0:=Below.refl _ _
 obtain ⟨⟨z0,ac,ae,ag,ah⟩,⟨z1,ak,al,au,ap,aq,aA⟩⟩:=am.out _ gb
 refine (zeO _ _ ln ld _ (i0.to gb) (i1.to gb) (by omega) (by omega) Z0.out).mono ?_
 clear ac ag ae ah ak ap al aq au aA
 rintro e w1 ⟨v1,u1,rfl,g1,d1,bd⟩
 obtain ⟨a1_,n1_,c1_,rfl,H1,hm1⟩:=g1.rd.open
 obtain ⟨p1_,m1_,k1_,rfl,J1,jm1⟩:=d1.rd.open
 replace gb:=bS gb bd
 obtain ⟨⟨z0,ac,ae,ag,ah⟩,⟨z1,ak,al,au,ap,aq,aA⟩⟩:=am.out _ gb
 have hn1:0<n1_:=by rw [<- H1.out];have:=H4.out;rw [ze];exact Nat.pos_of_ne_zero fun e => this (zz.1 e)
 go_wp2_with fail
 have gg:=canR g1 d1 Z0.out Z3.out Hs.out
 refine bodyPost_ret (zC Tryz.results47 _ _ _ _ _ _ rfl (Tri.set (x0:=.bool false) (y0:=.slice none 0 0) (z0:=.slice none 0 0) (⟨ak,al,au,ap,aq,aA⟩) _ _ _)) rfl (zct (bS zb gb) (by omega) ?_ gg)
 omega

theorem zcs (b:Bool) (v u:Value) (ln ld:List Nat) (w:World) (hv:Rd w v ln) (hu:Rd w u ld) (h1:ln.length<=3000) (h2:ld.length<=3000) (q:Rat) (hq:rat b (val ln) (val ld)=q) (hs:Hid (szq q<=1000)) :
  Calls Tryz.prog 47 #[aggI b v,u] w (zL w q):=by
 subst hq
 rcases Nat.eq_zero_or_pos (val ld) with h0|h0
 ·exact zfV b v u ln ld w hv hu h1 h2 h0
 rcases Nat.eq_zero_or_pos (val ln) with h3|h3
 ·exact zet b v u ln ld w hv hu h1 h2 h0 h3
 ·exact zew b v u ln ld w hv hu h1 h2 h0 h3 hs.out

theorem zas {x:Rat} (b:Bool) (v u:Value) (ln ld:List Nat) (w:World) (h:IsQ w b v u ln ld x) (q:Rat) (hq:x=q) (hs:Hid (szq q<=1000)) :
  Calls Tryz.prog 67 #[aggR b v u] w (zL w q):=by
 have H9:=Lib.hid (show rat b (val ln) (val ld)=q by rw [h.2.2.1,hq])
 obtain ⟨a0,n0,c0,rfl,H0,hm0⟩:=h.1.open
 obtain ⟨a1,n1,c1,rfl,H1,hm1⟩:=h.2.1.open
 clear hq
 go_enter Tryz.func67,Tryz.ntmps67
 go_wp2_with fail
 obtain ⟨W0,az⟩:∃ W0,(w.alloc (.cells #[.bool b,.slice a0 n0 c0,.slice a1 n1 c1] 47)).alloc (.cells #[.bool false,.slice none 0 0,.slice none 0 0] 47)=W0:=⟨_,rfl⟩
 have am:=Lib.hid (show ∀ W',Below W0.heap.size W0 W'->(Bx3 W' w.heap.size (.bool b) (.slice a0 n0 c0) (.slice a1 n1 c1)/\Bx3 W' (w.heap.size+1) (.bool false) (.slice none 0 0) (.slice none 0 0)) from fun W' hb => by
   refine ⟨bx3 hb ?_ ?_ ?_ ?_ ?_ ?_,bx3 hb ?_ ?_ ?_ ?_ ?_ ?_⟩
   all_goals first|assumption|(rw [<- az];simp [go_sem]))
 have zb:Below w.heap.size w W0:=by rw [<- az];exact bS (bN _ _) (bN _ _)
 rw [az]
 clear az
 have i0:=h.to zb
 have gb:Below W0.heap.size W0 W0:=Below.refl _ _
 obtain ⟨⟨z0,ac,ae,af,ag,ah,ai⟩,⟨z1,ak,al,au,ap,aq,aA⟩⟩:=am.out _ gb
 refine (zcs b _ _ ln ld _ (i0.to gb).1 (i0.to gb).2.1 (Nat.le_trans h.2.2.2.1 (by omega)) (Nat.le_trans h.2.2.2.2 (by omega)) q H9.out hs).mono ?_
 clear ac ag ae ah af ai ak ap al aq au aA
 rintro e w1 ⟨ng1,a1_,n1_,c1_,p1_,m1_,k1_,rfl,g1,bd⟩
 replace gb:=bS gb bd
 obtain ⟨⟨z0,ac,ae,af,ag,ah,ai⟩,⟨z1,ak,al,au,ap,aq,aA⟩⟩:=am.out _ gb
 go_wp2_with fail
 refine bodyPost_ret (zC Tryz.results67 _ _ _ _ _ _ rfl (Tri.set (x0:=.bool false) (y0:=.slice none 0 0) (z0:=.slice none 0 0) ⟨ak,al,au,ap,aq,aA⟩ _ _ _)) rfl (zct (bS zb gb) (by omega) ?_ g1)
 omega

theorem zbf (b:Bool) (v u:Value) (ln ld:List Nat) (c:Bool) (v' u':Value) (ln' ld':List Nat) (w:World) (h:IsF w v u ln ld) (h':IsF w v' u' ln' ld') (o:Bool) (ho:(b == c && decide (ln=ln') && decide (ld=ld'))=o) :
  Calls Tryz.prog 24 #[aggR b v u,aggR c v' u'] w (fun e w' => e=.returned (.bool o)/\Below w.heap.size w w'):=by
 obtain ⟨o1,ho1⟩:∃ o,decide (ln=ln')=o:=⟨_,rfl⟩
 obtain ⟨o2,ho2⟩:∃ o,decide (ld=ld')=o:=⟨_,rfl⟩
 have O1:=Lib.hid ho1
 have O2:=Lib.hid ho2
 rw [ho1,ho2] at ho
 clear ho1 ho2
 obtain ⟨a0,n0,c0,rfl,H0,hm0⟩:=h.1.open
 obtain ⟨a1,n1,c1,rfl,H1,hm1⟩:=h.2.open
 obtain ⟨a2,n2,c2,rfl,H2,hm2⟩:=h'.1.open
 obtain ⟨a3,n3,c3,rfl,H3,hm3⟩:=h'.2.open
 have ho':=Lib.hid ho
 clear ho
 rcases Bool.eq_false_or_eq_true (b == c) with e1|e1
 rotate_left
 ·rw [e1] at ho'
  go_enter Tryz.func24,Tryz.ntmps24
  go_wp2_with fail
  obtain ⟨W0,az⟩:∃ W0,(w.alloc (.cells #[.bool b,.slice a0 n0 c0,.slice a1 n1 c1] 47)).alloc (.cells #[.bool c,.slice a2 n2 c2,.slice a3 n3 c3] 47)=W0:=⟨_,rfl⟩
  have am:=Lib.hid (show ∀ W',Below W0.heap.size W0 W'->(Bx3 W' w.heap.size (.bool b) (.slice a0 n0 c0) (.slice a1 n1 c1)/\Bx3 W' (w.heap.size+1) (.bool c) (.slice a2 n2 c2) (.slice a3 n3 c3)) from fun W' hb => by
    refine ⟨bx3 hb ?_ ?_ ?_ ?_ ?_ ?_,bx3 hb ?_ ?_ ?_ ?_ ?_ ?_⟩
    all_goals first|assumption|(rw [<- az];simp [go_sem]))
  have zb:Below w.heap.size w W0:=by rw [<- az];exact bS (bN _ _) (bN _ _)
  rw [az]
  clear az
  have i0:=h.to zb
  have i1:=h'.to zb
  have gb:Below W0.heap.size W0 W0:=Below.refl _ _
  obtain ⟨⟨z0,ac,ae,af,ag,ah,ai⟩,⟨z1,ak,al,au,ap,aq,aA⟩⟩:=am.out _ gb
  go_ret
  exact ⟨zw (congrArg Value.bool (by have k:=ho'.out;simpa using k)),bS zb gb⟩
 rcases Bool.eq_false_or_eq_true o1 with e2|e2
 rotate_left
 ·rw [e1] at ho'
  go_enter Tryz.func24,Tryz.ntmps24
  go_wp2_with fail
  obtain ⟨W0,az⟩:∃ W0,(w.alloc (.cells #[.bool b,.slice a0 n0 c0,.slice a1 n1 c1] 47)).alloc (.cells #[.bool c,.slice a2 n2 c2,.slice a3 n3 c3] 47)=W0:=⟨_,rfl⟩
  have am:=Lib.hid (show ∀ W',Below W0.heap.size W0 W'->(Bx3 W' w.heap.size (.bool b) (.slice a0 n0 c0) (.slice a1 n1 c1)/\Bx3 W' (w.heap.size+1) (.bool c) (.slice a2 n2 c2) (.slice a3 n3 c3)) from fun W' hb => by
    refine ⟨bx3 hb ?_ ?_ ?_ ?_ ?_ ?_,bx3 hb ?_ ?_ ?_ ?_ ?_ ?_⟩
    all_goals first|assumption|(rw [<- az];simp [go_sem]))
  have zb:Below w.heap.size w W0:=by rw [<- az];exact bS (bN _ _) (bN _ _)
  rw [az]
  clear az
  have i0:=h.to zb
  have i1:=h'.to zb
  have gb:Below W0.heap.size W0 W0:=Below.refl _ _
  obtain ⟨⟨z0,ac,ae,af,ag,ah,ai⟩,⟨z1,ak,al,au,ap,aq,aA⟩⟩:=am.out _ gb
  refine (zhT _ _ _ _ o1 _ (i0.to gb).1 (i1.to gb).1 O1).mono ?_
  clear ac ag ae ah af ai ak ap al aq au aA
  rintro e w1 ⟨rfl,bd⟩
  replace gb:=bS gb bd
  obtain ⟨⟨z0,ac,ae,af,ag,ah,ai⟩,⟨z1,ak,al,au,ap,aq,aA⟩⟩:=am.out _ gb
  obtain rfl:=e2
  go_wp2_with fail
  go_ret
  exact ⟨zw (congrArg Value.bool (by have k:=ho'.out;simpa using k)),bS zb gb⟩
 ·rw [e1] at ho'
  go_enter Tryz.func24,Tryz.ntmps24
  go_wp2_with fail
  obtain ⟨W0,az⟩:∃ W0,(w.alloc (.cells #[.bool b,.slice a0 n0 c0,.slice a1 n1 c1] 47)).alloc (.cells #[.bool c,.slice a2 n2 c2,.slice a3 n3 c3] 47)=W0:=⟨_,rfl⟩
  have am:=Lib.hid (show ∀ W',Below W0.heap.size W0 W'->(Bx3 W' w.heap.size (.bool b) (.slice a0 n0 c0) (.slice a1 n1 c1)/\Bx3 W' (w.heap.size+1) (.bool c) (.slice a2 n2 c2) (.slice a3 n3 c3)) from fun W' hb => by
    refine ⟨bx3 hb ?_ ?_ ?_ ?_ ?_ ?_,bx3 hb ?_ ?_ ?_ ?_ ?_ ?_⟩
    all_goals first|assumption|(rw [<- az];simp [go_sem]))
  have zb:Below w.heap.size w W0:=by rw [<- az];exact bS (bN _ _) (bN _ _)
  rw [az]
  clear az
  have i0:=h.to zb
  have i1:=h'.to zb
  have gb:Below W0.heap.size W0 W0:=Below.refl _ _
  obtain ⟨⟨z0,ac,ae,af,ag,ah,ai⟩,⟨z1,ak,al,au,ap,aq,aA⟩⟩:=am.out _ gb
  refine (zhT _ _ _ _ o1 _ (i0.to gb).1 (i1.to gb).1 O1).mono ?_
  clear ac ag ae ah af ai ak ap al aq au aA
  rintro e w1 ⟨rfl,bd⟩
  replace gb:=bS gb bd
  obtain ⟨⟨z0,ac,ae,af,ag,ah,ai⟩,⟨z1,ak,al,au,ap,aq,aA⟩⟩:=am.out _ gb
  obtain rfl:=e2
  go_wp2_with fail
  refine (zhT _ _ _ _ o2 _ (i0.to gb).2 (i1.to gb).2 O2).mono ?_
  clear ac ag ae ah af ai ak ap al aq au aA
  rintro e w2 ⟨rfl,aN⟩
  replace gb:=bS gb aN
  obtain ⟨⟨z0,ac,ae,af,ag,ah,ai⟩,⟨z1,ak,al,au,ap,aq,aA⟩⟩:=am.out _ gb
  go_wp2_with fail
  go_ret
  exact ⟨zw (congrArg Value.bool (by have k:=ho'.out;simpa using k)),bS zb gb⟩

theorem zdC {x:Rat} (b:Bool) (v u:Value) (ln ld:List Nat) (w:World) (h:IsQ w b v u ln ld x) (o:Bool) (ho:zcJ b ln ld x=o) :
  Calls Tryz.prog 59 #[aggR b v u] w (fun e w' => e=.returned (.bool o)/\Below w.heap.size w w'):=by
 have Hx:=zG h
 have HO:=Lib.hid ho
 clear ho
 obtain ⟨a0,n0,c0,rfl,H0,hm0⟩:=h.1.open
 obtain ⟨a1,n1,c1,rfl,H1,hm1⟩:=h.2.1.open
 go_enter Tryz.func59,Tryz.ntmps59
 go_wp2_with fail
 obtain ⟨W0,az⟩:∃ W0,w.alloc (.cells #[.bool b,.slice a0 n0 c0,.slice a1 n1 c1] 47)=W0:=⟨_,rfl⟩
 have am:=Lib.hid (show ∀ W',Below W0.heap.size W0 W'->(Bx3 W' w.heap.size (.bool b) (.slice a0 n0 c0) (.slice a1 n1 c1)) from fun W' hb => by
   apply bx3 hb
   all_goals first|assumption|(rw [<- az];simp [go_sem]))
 have zb:Below w.heap.size w W0:=by rw [<- az];exact bN _ _
 rw [az]
 clear az
 have i0:=h.to zb
 have gb:Below W0.heap.size W0 W0:=Below.refl _ _
 obtain ⟨z0,ac,ae,af,ag,ah,ai⟩:=am.out _ gb
 have HH:=Lib.hid (show ∀ ng,decide (x<0)=ng->(ng == b && decide (zc x.num.natAbs=ln) && decide (zc x.den=ld))=o from fun ng e => by rw [<- HO.out,<- e];rfl)
 go_region_held3 (fun W' => W'.cell? ⟨w.heap.size,0,none⟩=some (.bool b)/\W'.cell? ⟨w.heap.size,1,none⟩=some (.slice a0 n0 c0)/\W'.cell? ⟨w.heap.size,2,none⟩=some (.slice a1 n1 c1)) (first|(with_reducible exact ⟨ac,ae,af⟩)|exact ⟨ac,ae,af⟩) (first
  | (go_at_call 24;(with_reducible refine (zbf ng1 _ _ _ _ b _ _ _ _ _ g1.isF (i0.to gb).isF o (HH.out ng1 g1.ng)).mono ?_);rintro e w2 ⟨rfl,aN⟩;have g1:=g1.to aN;have gb:=bS gb aN;obtain ⟨z0,ac,ae,af,ag,ah,ai⟩:=am.out _ gb)
  | (go_at_call 67;have gb:=gb.drew;(with_reducible refine (zas b _ _ ln ld _ (i0.to gb) x rfl Hx).mono ?_);rintro e w1 ⟨ng1,a1_,n1_,c1_,p1_,m1_,k1_,rfl,g1,bd⟩;have gb:=bS gb bd;obtain ⟨z0,ac,ae,af,ag,ah,ai⟩:=am.out _ gb))
 go_wp2_with fail
 go_ret
 exact ⟨rfl,bS zb gb⟩

end Go.Proofs.YtkjcdnlpjldhaaaGreat


namespace Go.Proofs.YtkjcdnlpjldhaaaGreat
open Go.RowKit Tw
attribute [local go_sem ↓] Go.wp_at_zero Go.wp_at_succ

theorem rof_c (n z:Int) (w:World) (hz:z=n) (n0:-9223372036854775808<=n) (n1:n<9223372036854775808) :
  Calls Tryz.prog 48 #[.int .i64 n] w (zcN w z) :=
 (ref7_of n z w hz n0 n1).mono fun e w' h => zeB rfl (Nat.le_trans (zeL (by omega) (by omega)) (by omega)) h

theorem zbR (n:Nat):((n:Int) == 0)=decide (n=0):=by
 rw [Bool.eq_iff_iff];simp

theorem zL.more {w w':World} {q:Rat} {e:Ending} (h:zL w q e w') (o:Obj):zL w q e (w'.alloc o):=by
 obtain ⟨ng,a,n,c,a',n',c',rfl,g,hb⟩:=h
 exact ⟨_,_,_,_,_,_,_,rfl,(g.alloc o).mono (Nat.le_refl _) (by simp),bS hb (bN _ _)⟩

theorem negQ_neg (x:Rat):decide (-x<0)=(!decide (x<0) && decide (0<(zc x.num.natAbs).length)):=by
 rw [zbo,zbo,Rat.neg_num,ze]
 have h:=@zz x.num.natAbs
 by_cases h1:x.num<0
 ·simp [h1];omega
 ·by_cases h2:x.num=0
  ·simp [h2,zhO]
  ·have:0<sz x.num.natAbs:=Nat.pos_of_ne_zero fun e => h2 (by have:=h.1 e;omega)
   simp [h1,this];omega

theorem neg_sign {lo hi:Nat} {w:World} {ng:Bool} {a:Option Addr} {n c:Nat} {u:Value} {x:Rat} (g:zP lo hi w ng (.slice a n c) u x):decide (-x<0)=(!ng && decide (0<n)):=by
 obtain ⟨_,_,e⟩:=g.1.rd.shape
 injection e with _ e _
 rw [negQ_neg,g.2.2.1,e]

theorem zP.negQ {lo hi:Nat} {w:World} {ng o:Bool} {v u:Value} {x:Rat} (g:zP lo hi w ng v u x) (h:decide (-x<0)=o):zP lo hi w o v u (-x) :=
 ⟨by rw [Rat.neg_num,Int.natAbs_neg];exact g.1,g.2.1,h,by rw [zfy];exact g.2.2.2.1,g.2.2.2.2⟩

theorem num_ne {x:Rat} (h:x≠0):x.num≠0:=fun e => h (Rat.num_eq_zero.1 e)

theorem zP.invQ {lo hi:Nat} {w:World} {ng:Bool} {v u:Value} {x:Rat} (g:zP lo hi w ng v u x) (h:x≠0):zP lo hi w ng u v x⁻¹:=by
 have h1:=num_ne h
 refine ⟨?_,?_,?_,Nat.le_trans (zdT x) g.2.2.2.1,g.2.2.2.2.2,g.2.2.2.2.1⟩
 ·rw [Rat.num_inv,Int.natAbs_mul,Int.natAbs_sign_of_ne_zero h1,Nat.one_mul,Int.natAbs_natCast];exact g.2.1
 ·rw [Rat.den_inv,if_neg h1];exact g.1
 ·rw [<- g.2.2.1,zbo,zbo,Rat.num_inv,decide_eq_decide]
  have h2:=x.den_pos
  rcases Int.lt_trichotomy x.num 0 with k|k|k
  ·rw [Int.sign_eq_neg_one_of_neg k];omega
  ·exact absurd k h1
  ·rw [Int.sign_eq_one_of_pos k];omega

theorem zP.zeroQ {lo hi:Nat} {w:World} {ng o:Bool} {a:Option Addr} {n c:Nat} {u:Value} {x:Rat} (g:zP lo hi w ng (.slice a n c) u x) (h:decide (x=0)=o):decide (n=0)=o:=by
 obtain ⟨_,_,e⟩:=g.1.rd.shape
 injection e with _ e _
 rw [<- h,e,ze,decide_eq_decide,zz,Int.natAbs_eq_zero]
 exact Rat.num_eq_zero

theorem zjV {b:Bool} {ln ld:List Nat} (hn:zx ln) (hd:zx ld) :
  zcJ b ln ld (rat b (val ln) (val ld))=(decide (sz (val ln)=ln.length) && decide (sz (val ld)=ld.length) && (Nat.gcd (val ln) (val ld) == 1) && decide (0<ld.length) && !(b && decide (ln.length=0))):=by
 rw [Bool.eq_iff_iff]
 unfold zcJ
 simp only [Bool.and_eq_true,beq_iff_eq,decide_eq_true_eq,Bool.not_eq_true',<- zdu hn,<- zdu hd]
 by_cases h0:val ld=0
 ·rw [h0,zbW]
  constructor
  ·rintro ⟨_,h⟩
   rw [<- h,vL] at h0
   exact absurd h0 (by decide)
  ·rintro ⟨⟨⟨⟨_,h1⟩,_⟩,h2⟩,_⟩
   rw [<- h1] at h2
   exact absurd h2 (by simp [zD])
 ·rw [zhh h0,zhD h0]
  have hp:0<ld.length:=by
   refine Nat.pos_of_ne_zero fun e => h0 ?_
   rw [List.length_eq_zero_iff.1 e];rfl
  constructor
  ·rintro ⟨⟨h1,h2⟩,h3⟩
   have e2:=congrArg val h2
   have e3:=congrArg val h3
   rw [vL] at e2 e3
   have hg:Nat.gcd (val ln) (val ld)=1:=by
    have h5:Nat.gcd (val ln) (val ld) ∣ val ld:=Nat.gcd_dvd_right _ _
    have h6:=Nat.div_mul_cancel h5
    rw [e3] at h6
    exact Nat.eq_of_mul_eq_mul_left (Nat.pos_of_ne_zero h0) (by rw [h6,Nat.mul_one])
   rw [hg,Nat.div_one] at h2 h3
   refine ⟨⟨⟨⟨h2,h3⟩,hg⟩,hp⟩,?_⟩
   cases b with
   | false => rfl
   | true =>
    simp only [Bool.true_and,decide_eq_false_iff_not]
    intro hl
    rw [List.length_eq_zero_iff.1 hl,show val []=0 from rfl,zbT] at h1
    exact absurd h1 (by decide +kernel)
  ·rintro ⟨⟨⟨⟨h2,h3⟩,hg⟩,_⟩,h5⟩
   rw [hg,Nat.div_one,Nat.div_one]
   refine ⟨⟨?_,h2⟩,h3⟩
   by_cases hz:val ln=0
   ·rw [hz,zbT]
    rw [hz,zD] at h2
    rw [<- h2] at h5
    cases b with
    | false => decide +kernel
    | true => simp at h5
   ·exact zky b h0 hz

theorem zlk {w:World} {b:Bool} {v u:Value} {ln ld:List Nat} {x:Rat} (h:IsQ w b v u ln ld x) :
  zcJ b ln ld x=(decide (sz (val ln)=ln.length) && decide (sz (val ld)=ld.length) && (Nat.gcd (val ln) (val ld) == 1) && decide (0<ld.length) && !(b && decide (ln.length=0))):=by
 rw [<- h.2.2.1]
 exact zjV h.1.1 h.2.1.1

theorem zcS (n z:Int) (w:World) (hz:z=n) (m0:-9223372036854775808<=n) (m1:n<9223372036854775808) :
  Calls Tryz.prog 25 #[.int .i64 n] w (zL w (z:Rat)):=by
 have Hz:=Lib.hid hz
 have S1:=Lib.hid (zeL (z:=z) (by omega) (by omega))
 have S2:=Lib.hid (show szq (z:Rat)<=1000 from zkq S1.out)
 have H9:=Lib.hid (show ∀ ng,decide (z<0)=ng->rat ng (val (zc z.natAbs)) (val [1])=(z:Rat) from fun ng e => by rw [<- e,show val [1]=val (zc (1:Int).toNat) by decide +kernel];exact zkj z)
 clear hz
 go_enter Tryz.func25,Tryz.ntmps25
 go_wp2_with fail
 obtain ⟨W0,az⟩:∃ W0,w.alloc (.cells #[.bool false,.slice none 0 0,.slice none 0 0] 47)=W0:=⟨_,rfl⟩
 have am:=Lib.hid (show ∀ W',Below W0.heap.size W0 W'->(Bx3 W' w.heap.size (.bool false) (.slice none 0 0) (.slice none 0 0)) from fun W' hb => by
   apply bx3 hb
   all_goals first|assumption|(rw [<- az];simp [go_sem]))
 have zb:Below w.heap.size w W0:=by rw [<- az];exact bN _ _
 rw [az]
 clear az
 have gb:Below W0.heap.size W0 W0:=Below.refl _ _
 obtain ⟨z0,ac,ae,af,ag,ah,ai⟩:=am.out _ gb
 refine (rof_c n z _ Hz.out m0 m1).mono ?_
 clear ac ag ae ah af ai
 rintro e w1 ⟨ng1,a1_,n1_,c1_,rfl,g1,bd⟩
 replace gb:=bS gb bd
 obtain ⟨z0,ac,ae,af,ag,ah,ai⟩:=am.out _ gb
 go_wp2_with fail
 have H8:=Lib.hid (H9.out ng1 (by have k:=g1.2.1;exact k))
 obtain ⟨W1,aO⟩:∃ W1,w1.alloc (.cells #[.int .u32 1] 97)=W1:=⟨_,rfl⟩
 have hb_W1:Below w1.heap.size w1 W1:=by rw [<- aO];exact bN _ _
 have d_W1:Rd W1 (.slice (some ⟨w1.heap.size,0,none⟩) 1 1) [1]:=by rw [<- aO];exact lit1 (a:=1) w1 (by omega)
 clear ac ag ae ah af ai
 replace g1:=g1.to hb_W1
 replace gb:=bS gb hb_W1
 obtain ⟨z0,ac,ae,af,ag,ah,ai⟩:=am.out _ gb
 rw [aO]
 clear aO
 refine (zcs ng1 _ _ _ _ _ g1.isI.up d_W1 (Nat.le_trans S1.out (by omega)) (by simp) (z:Rat) H8.out S2).mono ?_
 clear ac ag ae ah af ai
 rintro e w2 ⟨ng2,a2_,n2_,c2_,p2_,m2_,k2_,rfl,g2,aN⟩
 replace g1:=g1.to aN
 replace d_W1:=d_W1.to aN
 replace gb:=bS gb aN
 obtain ⟨z0,ac,ae,af,ag,ah,ai⟩:=am.out _ gb
 go_wp2_with fail
 refine bodyPost_ret (zC Tryz.results25 _ _ _ _ _ _ rfl (Tri.set (x0:=.bool false) (y0:=.slice none 0 0) (z0:=.slice none 0 0) ⟨ac,ae,af,ag,ah,ai⟩ _ _ _)) rfl (zct (bS zb gb) (by omega) ?_ g2)
 omega

theorem ziC {x:Rat} (b:Bool) (v u:Value) (ln ld:List Nat) (w:World) (h:IsQ w b v u ln ld x) :
  Calls Tryz.prog 72 #[aggR b v u] w (zL w (-x)):=by
 have Hx:=zG h
 obtain ⟨a0,n0,c0,rfl,H0,hm0⟩:=h.1.open
 obtain ⟨a1,n1,c1,rfl,H1,hm1⟩:=h.2.1.open
 go_enter Tryz.func72,Tryz.ntmps72
 go_wp2_with fail
 obtain ⟨W0,az⟩:∃ W0,(w.alloc (.cells #[.bool b,.slice a0 n0 c0,.slice a1 n1 c1] 47)).alloc (.cells #[.bool false,.slice none 0 0,.slice none 0 0] 47)=W0:=⟨_,rfl⟩
 have am:=Lib.hid (show ∀ W',Below W0.heap.size W0 W'->(Bx3 W' w.heap.size (.bool b) (.slice a0 n0 c0) (.slice a1 n1 c1)/\Bx3 W' (w.heap.size+1) (.bool false) (.slice none 0 0) (.slice none 0 0)) from fun W' hb => by
   refine ⟨bx3 hb ?_ ?_ ?_ ?_ ?_ ?_,bx3 hb ?_ ?_ ?_ ?_ ?_ ?_⟩
   all_goals first|assumption|(rw [<- az];simp [go_sem]))
 have zb:Below w.heap.size w W0:=by rw [<- az];exact bS (bN _ _) (bN _ _)
 rw [az]
 clear az
 have i0:=h.to zb
 have gb:Below W0.heap.size W0 W0:=Below.refl _ _
 obtain ⟨⟨z0,ac,ae,af,ag,ah,ai⟩,⟨z1,ak,al,au,ap,aq,aA⟩⟩:=am.out _ gb
 refine (zas b _ _ ln ld _ (i0.to gb) x rfl Hx).mono ?_
 clear ac ag ae ah af ai ak ap al aq au aA
 rintro e w1 ⟨ng1,a1_,n1_,c1_,p1_,m1_,k1_,rfl,g1,bd⟩
 replace gb:=bS gb bd
 obtain ⟨⟨z0,ac,ae,af,ag,ah,ai⟩,⟨z1,ak,al,au,ap,aq,aA⟩⟩:=am.out _ gb
 have HN:=Lib.hid (neg_sign g1)
 cases ng1
 ·have hN:=HN.out
  clear HN
  rw [Bool.not_false,Bool.true_and] at hN
  go_wp2_with fail
  refine bodyPost_ret (zC Tryz.results72 _ _ _ _ _ _ rfl (Tri.alloc (Tri.set (x0:=.bool false) (y0:=.slice none 0 0) (z0:=.slice none 0 0) ⟨ak,al,au,ap,aq,aA⟩ _ _ _) _)) rfl (zL.more (zct (bS zb gb) (by omega) ?_ (g1.negQ hN)) _)
  omega
 ·have hN:=HN.out
  clear HN
  rw [Bool.not_true,Bool.false_and] at hN
  go_wp2_with fail
  refine bodyPost_ret (zC Tryz.results72 _ _ _ _ _ _ rfl (Tri.alloc (Tri.set (x0:=.bool false) (y0:=.slice none 0 0) (z0:=.slice none 0 0) ⟨ak,al,au,ap,aq,aA⟩ _ _ _) _)) rfl (zL.more (zct (bS zb gb) (by omega) ?_ (g1.negQ hN)) _)
  omega

theorem zeZ {x:Rat} (b:Bool) (v u:Value) (ln ld:List Nat) (w:World) (h:IsQ w b v u ln ld x) (h0:x≠0) :
  Calls Tryz.prog 102 #[aggR b v u] w (zL w x⁻¹):=by
 have Hx:=zG h
 have HX0:=Lib.hid h0
 clear h0
 obtain ⟨a0,n0,c0,rfl,H0,hm0⟩:=h.1.open
 obtain ⟨a1,n1,c1,rfl,H1,hm1⟩:=h.2.1.open
 go_enter Tryz.func102,Tryz.ntmps102
 go_wp2_with fail
 obtain ⟨W0,az⟩:∃ W0,(w.alloc (.cells #[.bool b,.slice a0 n0 c0,.slice a1 n1 c1] 47)).alloc (.cells #[.bool false,.slice none 0 0,.slice none 0 0] 47)=W0:=⟨_,rfl⟩
 have am:=Lib.hid (show ∀ W',Below W0.heap.size W0 W'->(Bx3 W' w.heap.size (.bool b) (.slice a0 n0 c0) (.slice a1 n1 c1)/\Bx3 W' (w.heap.size+1) (.bool false) (.slice none 0 0) (.slice none 0 0)) from fun W' hb => by
   refine ⟨bx3 hb ?_ ?_ ?_ ?_ ?_ ?_,bx3 hb ?_ ?_ ?_ ?_ ?_ ?_⟩
   all_goals first|assumption|(rw [<- az];simp [go_sem]))
 have zb:Below w.heap.size w W0:=by rw [<- az];exact bS (bN _ _) (bN _ _)
 rw [az]
 clear az
 have i0:=h.to zb
 have gb:Below W0.heap.size W0 W0:=Below.refl _ _
 obtain ⟨⟨z0,ac,ae,af,ag,ah,ai⟩,⟨z1,ak,al,au,ap,aq,aA⟩⟩:=am.out _ gb
 refine (zas b _ _ ln ld _ (i0.to gb) x rfl Hx).mono ?_
 clear ac ag ae ah af ai ak ap al aq au aA
 rintro e w1 ⟨ng1,a1_,n1_,c1_,p1_,m1_,k1_,rfl,g1,bd⟩
 replace gb:=bS gb bd
 obtain ⟨⟨z0,ac,ae,af,ag,ah,ai⟩,⟨z1,ak,al,au,ap,aq,aA⟩⟩:=am.out _ gb
 go_wp2_with fail
 refine bodyPost_ret (zC Tryz.results102 _ _ _ _ _ _ rfl (Tri.alloc (Tri.set (x0:=.bool false) (y0:=.slice none 0 0) (z0:=.slice none 0 0) ⟨ak,al,au,ap,aq,aA⟩ _ _ _) _)) rfl (zL.more (zct (bS zb gb) (by omega) ?_ (g1.invQ HX0.out)) _)
 omega

theorem zal {x:Rat} (b:Bool) (v u:Value) (ln ld:List Nat) (w:World) (h:IsQ w b v u ln ld x) (o:Bool) (ho:decide (x=0)=o) :
  Calls Tryz.prog 73 #[aggR b v u] w (fun e w' => e=.returned (.bool o)/\Below w.heap.size w w'):=by
 have Hx:=zG h
 have HO:=Lib.hid ho
 clear ho
 obtain ⟨a0,n0,c0,rfl,H0,hm0⟩:=h.1.open
 obtain ⟨a1,n1,c1,rfl,H1,hm1⟩:=h.2.1.open
 go_enter Tryz.func73,Tryz.ntmps73
 go_wp2_with fail
 obtain ⟨W0,az⟩:∃ W0,w.alloc (.cells #[.bool b,.slice a0 n0 c0,.slice a1 n1 c1] 47)=W0:=⟨_,rfl⟩
 have am:=Lib.hid (show ∀ W',Below W0.heap.size W0 W'->(Bx3 W' w.heap.size (.bool b) (.slice a0 n0 c0) (.slice a1 n1 c1)) from fun W' hb => by
   apply bx3 hb
   all_goals first|assumption|(rw [<- az];simp [go_sem]))
 have zb:Below w.heap.size w W0:=by rw [<- az];exact bN _ _
 rw [az]
 clear az
 have i0:=h.to zb
 have gb:Below W0.heap.size W0 W0:=Below.refl _ _
 obtain ⟨z0,ac,ae,af,ag,ah,ai⟩:=am.out _ gb
 refine (zas b _ _ ln ld _ (i0.to gb) x rfl Hx).mono ?_
 clear ac ag ae ah af ai
 rintro e w1 ⟨ng1,a1_,n1_,c1_,p1_,m1_,k1_,rfl,g1,bd⟩
 replace gb:=bS gb bd
 obtain ⟨z0,ac,ae,af,ag,ah,ai⟩:=am.out _ gb
 go_wp2_with fail
 have HZ:=Lib.hid (g1.zeroQ HO.out)
 go_ret
 exact ⟨zw (congrArg Value.bool (by have k:=HZ.out;simpa [zbR] using k)),bS (bS zb gb) (bN _ _)⟩

theorem zcI {x y:Rat} (b:Bool) (v u:Value) (ln ld:List Nat) (c:Bool) (v' u':Value) (ln' ld':List Nat) (w:World) (h:IsQ w b v u ln ld x) (h':IsQ w c v' u' ln' ld' y) (q:Rat) (hq:x*y=q) (hs:Hid (szq q<=1000)) :
  Calls Tryz.prog 70 #[aggR b v u,aggR c v' u'] w (zL w q):=by
 have Hx:=zG h
 have Hy:=zG h'
 have K1:=Lib.hid (show (zc (val (zc x.num.natAbs)*val (zc y.num.natAbs))).length<=3000 by
  rw [ze,vL,vL];have:=zaf x.num.natAbs y.num.natAbs;have:=zaw x;have:=zaw y;have:=Hx.out;have:=Hy.out;omega)
 have K2:=Lib.hid (show (zc (val (zc x.den)*val (zc y.den))).length<=3000 by
  rw [ze,vL,vL];have:=zaf x.den y.den;have:=zah x;have:=zah y;have:=Hx.out;have:=Hy.out;omega)
 have H9:=Lib.hid (show ∀ ng ng',decide (x<0)=ng->decide (y<0)=ng'->rat (!ng == ng') (val (zc (val (zc x.num.natAbs)*val (zc y.num.natAbs)))) (val (zc (val (zc x.den)*val (zc y.den))))=q from fun ng ng' e e' => by
  show rat (ng != ng') _ _=q
  rw [vL,vL,vL,vL,vL,vL,<- zdZ,<- e,<- e',zbm,zbm,hq])
 obtain ⟨a0,n0,c0,rfl,H0,hm0⟩:=h.1.open
 obtain ⟨a1,n1,c1,rfl,H1,hm1⟩:=h.2.1.open
 obtain ⟨a2,n2,c2,rfl,H2,hm2⟩:=h'.1.open
 obtain ⟨a3,n3,c3,rfl,H3,hm3⟩:=h'.2.1.open
 clear hq
 go_enter Tryz.func70,Tryz.ntmps70
 go_wp2_with fail
 obtain ⟨W0,az⟩:∃ W0,((w.alloc (.cells #[.bool b,.slice a0 n0 c0,.slice a1 n1 c1] 47)).alloc (.cells #[.bool c,.slice a2 n2 c2,.slice a3 n3 c3] 47)).alloc (.cells #[.bool false,.slice none 0 0,.slice none 0 0] 47)=W0:=⟨_,rfl⟩
 have am:=Lib.hid (show ∀ W',Below W0.heap.size W0 W'->(Bx3 W' w.heap.size (.bool b) (.slice a0 n0 c0) (.slice a1 n1 c1)/\Bx3 W' (w.heap.size+1) (.bool c) (.slice a2 n2 c2) (.slice a3 n3 c3)/\Bx3 W' (w.heap.size+1+1) (.bool false) (.slice none 0 0) (.slice none 0 0)) from fun W' hb => by
   refine ⟨bx3 hb ?_ ?_ ?_ ?_ ?_ ?_,bx3 hb ?_ ?_ ?_ ?_ ?_ ?_,bx3 hb ?_ ?_ ?_ ?_ ?_ ?_⟩
   all_goals first|assumption|(rw [<- az];simp [go_sem]))
 have zb:Below w.heap.size w W0:=by rw [<- az];exact bS (bS (bN _ _) (bN _ _)) (bN _ _)
 rw [az]
 clear az
 have i0:=h.to zb
 have i1:=h'.to zb
 have gb:Below W0.heap.size W0 W0:=Below.refl _ _
 obtain ⟨⟨z0,ac,ae,af,ag,ah,ai⟩,⟨z1,ak,al,au,ap,aq,aA⟩,⟨z2,aH,aI,be,aK,aL,bf⟩⟩:=am.out _ gb
 refine (zas b _ _ ln ld _ (i0.to gb) x rfl Hx).mono ?_
 clear ac ag ae ah af ai ak ap al aq au aA aH aK aI aL be bf
 rintro e w1 ⟨ng1,a1_,n1_,c1_,p1_,m1_,k1_,rfl,g1,bd⟩
 replace gb:=bS gb bd
 obtain ⟨⟨z0,ac,ae,af,ag,ah,ai⟩,⟨z1,ak,al,au,ap,aq,aA⟩,⟨z2,aH,aI,be,aK,aL,bf⟩⟩:=am.out _ gb
 go_wp2_with fail
 obtain ⟨W1,aO⟩:∃ W1,w1.alloc (.cells #[.bool ng1,.slice a1_ n1_ c1_,.slice p1_ m1_ k1_] 47)=W1:=⟨_,rfl⟩
 have hb_W1:Below w1.heap.size w1 W1:=by rw [<- aO];exact bN _ _
 clear ac ag ae ah af ai ak ap al aq au aA aH aK aI aL be bf
 replace g1:=g1.to hb_W1
 replace gb:=bS gb hb_W1
 obtain ⟨⟨z0,ac,ae,af,ag,ah,ai⟩,⟨z1,ak,al,au,ap,aq,aA⟩,⟨z2,aH,aI,be,aK,aL,bf⟩⟩:=am.out _ gb
 have bk:W1.cell? ⟨w1.heap.size,0,none⟩=some (.bool ng1):=by rw [<- aO];simp [go_sem]
 have bo:W1.frozen? ⟨w1.heap.size,0,none⟩=false:=by rw [<- aO];simp [go_sem]
 have bl:W1.cell? ⟨w1.heap.size,1,none⟩=some (.slice a1_ n1_ c1_):=by rw [<- aO];simp [go_sem]
 have bq:W1.frozen? ⟨w1.heap.size,1,none⟩=false:=by rw [<- aO];simp [go_sem]
 have bm:W1.cell? ⟨w1.heap.size,2,none⟩=some (.slice p1_ m1_ k1_):=by rw [<- aO];simp [go_sem]
 have bw:W1.frozen? ⟨w1.heap.size,2,none⟩=false:=by rw [<- aO];simp [go_sem]
 have z5:w1.heap.size<W1.heap.size:=by rw [<- aO];simp
 rw [aO]
 clear aO
 replace i0:=i0.to gb
 replace i1:=i1.to gb
 replace zb:=bS zb gb
 have bU:=Lib.hid (show ∀ W',Below W1.heap.size W1 W'->(Bx3 W' w.heap.size (.bool b) (.slice a0 n0 c0) (.slice a1 n1 c1)/\Bx3 W' (w.heap.size+1) (.bool c) (.slice a2 n2 c2) (.slice a3 n3 c3)/\Bx3 W' (w.heap.size+1+1) (.bool false) (.slice none 0 0) (.slice none 0 0)/\Bx3 W' w1.heap.size (.bool ng1) (.slice a1_ n1_ c1_) (.slice p1_ m1_ k1_)) from fun W' hb => by
   refine ⟨bx3 hb ?_ ?_ ?_ ?_ ?_ ?_,bx3 hb ?_ ?_ ?_ ?_ ?_ ?_,bx3 hb ?_ ?_ ?_ ?_ ?_ ?_,bx3 hb ?_ ?_ ?_ ?_ ?_ ?_⟩
   all_goals first|assumption|assumption)
 replace gb:=Below.refl W1.heap.size W1
 go_wp2_with fail
 refine (zas c _ _ ln' ld' _ (i1.to gb) y rfl Hy).mono ?_
 clear ac ag ae ah af ai ak ap al aq au aA aH aK aI aL be bf bk bo bl bq bm bw
 rintro e w2 ⟨ng2,a2_,n2_,c2_,p2_,m2_,k2_,rfl,g2,aN⟩
 replace gb:=bS gb aN
 obtain ⟨⟨z0,ac,ae,af,ag,ah,ai⟩,⟨z1,ak,al,au,ap,aq,aA⟩,⟨z2,aH,aI,be,aK,aL,bf⟩,⟨z5,bk,bl,bm,bo,bq,bw⟩⟩:=bU.out _ gb
 go_wp2_with fail
 obtain ⟨W2,cO⟩:∃ W2,w2.alloc (.cells #[.bool ng2,.slice a2_ n2_ c2_,.slice p2_ m2_ k2_] 47)=W2:=⟨_,rfl⟩
 have hb_W2:Below w2.heap.size w2 W2:=by rw [<- cO];exact bN _ _
 clear ac ag ae ah af ai ak ap al aq au aA aH aK aI aL be bf bk bo bl bq bm bw
 replace g2:=g2.to hb_W2
 replace gb:=bS gb hb_W2
 obtain ⟨⟨z0,ac,ae,af,ag,ah,ai⟩,⟨z1,ak,al,au,ap,aq,aA⟩,⟨z2,aH,aI,be,aK,aL,bf⟩,⟨z5,bk,bl,bm,bo,bq,bw⟩⟩:=bU.out _ gb
 have b6:W2.cell? ⟨w2.heap.size,0,none⟩=some (.bool ng2):=by rw [<- cO];simp [go_sem]
 have ce:W2.frozen? ⟨w2.heap.size,0,none⟩=false:=by rw [<- cO];simp [go_sem]
 have b7:W2.cell? ⟨w2.heap.size,1,none⟩=some (.slice a2_ n2_ c2_):=by rw [<- cO];simp [go_sem]
 have cf:W2.frozen? ⟨w2.heap.size,1,none⟩=false:=by rw [<- cO];simp [go_sem]
 have b8:W2.cell? ⟨w2.heap.size,2,none⟩=some (.slice p2_ m2_ k2_):=by rw [<- cO];simp [go_sem]
 have ci:W2.frozen? ⟨w2.heap.size,2,none⟩=false:=by rw [<- cO];simp [go_sem]
 have z6:w2.heap.size<W2.heap.size:=by rw [<- cO];simp
 rw [cO]
 clear cO
 replace i0:=i0.to gb
 replace i1:=i1.to gb
 replace g1:=g1.to gb
 replace zb:=bS zb gb
 have ft:=Lib.hid (show ∀ W',Below W2.heap.size W2 W'->(Bx3 W' w.heap.size (.bool b) (.slice a0 n0 c0) (.slice a1 n1 c1)/\Bx3 W' (w.heap.size+1) (.bool c) (.slice a2 n2 c2) (.slice a3 n3 c3)/\Bx3 W' (w.heap.size+1+1) (.bool false) (.slice none 0 0) (.slice none 0 0)/\Bx3 W' w1.heap.size (.bool ng1) (.slice a1_ n1_ c1_) (.slice p1_ m1_ k1_)/\Bx3 W' w2.heap.size (.bool ng2) (.slice a2_ n2_ c2_) (.slice p2_ m2_ k2_)) from fun W' hb => by
   refine ⟨bx3 hb ?_ ?_ ?_ ?_ ?_ ?_,bx3 hb ?_ ?_ ?_ ?_ ?_ ?_,bx3 hb ?_ ?_ ?_ ?_ ?_ ?_,bx3 hb ?_ ?_ ?_ ?_ ?_ ?_,bx3 hb ?_ ?_ ?_ ?_ ?_ ?_⟩
   all_goals first|assumption|assumption)
 replace gb:=Below.refl W2.heap.size W2
 go_wp2_with fail
 have H8:=Lib.hid (H9.out ng1 ng2 g1.ng g2.ng)
 have nz0:w.heap.size≠w.heap.size+1+1:=by omega
 have nz1:w.heap.size+1≠w.heap.size+1+1:=by omega
 have nz5:w1.heap.size≠w.heap.size+1+1:=by omega
 have nz6:w2.heap.size≠w.heap.size+1+1:=by omega
 go_region_held3 (fun W' => W'.cell? ⟨w.heap.size,0,none⟩=some (.bool b)/\W'.cell? ⟨w.heap.size,1,none⟩=some (.slice a0 n0 c0)/\W'.cell? ⟨w.heap.size,2,none⟩=some (.slice a1 n1 c1)/\W'.cell? ⟨w.heap.size+1,0,none⟩=some (.bool c)/\W'.cell? ⟨w.heap.size+1,1,none⟩=some (.slice a2 n2 c2)/\W'.cell? ⟨w.heap.size+1,2,none⟩=some (.slice a3 n3 c3)/\W'.cell? ⟨w1.heap.size,0,none⟩=some (.bool ng1)/\W'.cell? ⟨w1.heap.size,1,none⟩=some (.slice a1_ n1_ c1_)/\W'.cell? ⟨w1.heap.size,2,none⟩=some (.slice p1_ m1_ k1_)/\W'.cell? ⟨w2.heap.size,0,none⟩=some (.bool ng2)/\W'.cell? ⟨w2.heap.size,1,none⟩=some (.slice a2_ n2_ c2_)/\W'.cell? ⟨w2.heap.size,2,none⟩=some (.slice p2_ m2_ k2_)) (first|(with_reducible exact ⟨ac,ae,af,ak,al,au,bk,bl,bm,b6,b7,b8⟩)|(with_reducible exact ⟨cP (cP (cP (ac) (.inl nz0) _) (.inl nz0) _) (.inl nz0) _,cP (cP (cP (ae) (.inl nz0) _) (.inl nz0) _) (.inl nz0) _,cP (cP (cP (af) (.inl nz0) _) (.inl nz0) _) (.inl nz0) _,cP (cP (cP (ak) (.inl nz1) _) (.inl nz1) _) (.inl nz1) _,cP (cP (cP (al) (.inl nz1) _) (.inl nz1) _) (.inl nz1) _,cP (cP (cP (au) (.inl nz1) _) (.inl nz1) _) (.inl nz1) _,cP (cP (cP (bk) (.inl nz5) _) (.inl nz5) _) (.inl nz5) _,cP (cP (cP (bl) (.inl nz5) _) (.inl nz5) _) (.inl nz5) _,cP (cP (cP (bm) (.inl nz5) _) (.inl nz5) _) (.inl nz5) _,cP (cP (cP (b6) (.inl nz6) _) (.inl nz6) _) (.inl nz6) _,cP (cP (cP (b7) (.inl nz6) _) (.inl nz6) _) (.inl nz6) _,cP (cP (cP (b8) (.inl nz6) _) (.inl nz6) _) (.inl nz6) _⟩)|exact ⟨ac,ae,af,ak,al,au,bk,bl,bm,b6,b7,b8⟩) (first
  | (go_at_call 47;(with_reducible refine (zcs (!ng1 == ng2) _ _ _ _ _ g3.rd g4.rd K1.out K2.out q H8.out hs).mono ?_);rintro e w5 ⟨ng5,a5_,n5_,c5_,p5_,m5_,k5_,rfl,g5,cK⟩;have g3:=g3.to cK;have g4:=g4.to cK;have gb:=bS gb cK;obtain ⟨⟨z0,ac,ae,af,ag,ah,ai⟩,⟨z1,ak,al,au,ap,aq,aA⟩,⟨z2,aH,aI,be,aK,aL,bf⟩,⟨z5,bk,bl,bm,bo,bq,bw⟩,⟨z6,b6,b7,b8,ce,cf,ci⟩⟩:=ft.out _ gb)
  | (go_at_call 101;(with_reducible refine (zdJ _ _ _ _ _ (g1.to gb).isQ.dn (g2.to gb).isQ.dn (Nat.le_trans (g1.to gb).isQ.ldn (by omega)) (Nat.le_trans (g2.to gb).isQ.ldn (by omega))).mono ?_);rintro e w4 ⟨v4,rfl,g4,cG⟩;obtain ⟨a4_,n4_,c4_,rfl,H4,hm4⟩:=g4.rd.open;have g3:=g3.to cG;have gb:=bS gb cG;obtain ⟨⟨z0,ac,ae,af,ag,ah,ai⟩,⟨z1,ak,al,au,ap,aq,aA⟩,⟨z2,aH,aI,be,aK,aL,bf⟩,⟨z5,bk,bl,bm,bo,bq,bw⟩,⟨z6,b6,b7,b8,ce,cf,ci⟩⟩:=ft.out _ gb)
  | (go_at_call 101;have gb:=gb.drew;(with_reducible refine (zdJ _ _ _ _ _ (g1.to gb).isQ.up (g2.to gb).isQ.up (Nat.le_trans (g1.to gb).isQ.lup (by omega)) (Nat.le_trans (g2.to gb).isQ.lup (by omega))).mono ?_);rintro e w3 ⟨v3,rfl,g3,bs⟩;obtain ⟨a3_,n3_,c3_,rfl,H3,hm3⟩:=g3.rd.open;have gb:=bS gb bs;obtain ⟨⟨z0,ac,ae,af,ag,ah,ai⟩,⟨z1,ak,al,au,ap,aq,aA⟩,⟨z2,aH,aI,be,aK,aL,bf⟩,⟨z5,bk,bl,bm,bo,bq,bw⟩,⟨z6,b6,b7,b8,ce,cf,ci⟩⟩:=ft.out _ gb))
 go_wp2_with fail
 refine bodyPost_ret (zC Tryz.results70 _ _ _ _ _ _ rfl (Tri.set (x0:=.bool false) (y0:=.slice none 0 0) (z0:=.slice none 0 0) ⟨aH,aI,be,aK,aL,bf⟩ _ _ _)) rfl (zct (bS zb gb) (by omega) ?_ g5)
 omega

theorem zcY {x:Rat} (b:Bool) (v u:Value) (ln ld:List Nat) (w:World) (h:IsQ w b v u ln ld x) (o:Bool) (ho:zcJ b ln ld x=o) :
  Calls Tryz.prog 83 #[aggR b v u] w (fun e w' => e=.returned (.bool o)/\Below w.heap.size w w'):=by
 obtain ⟨r1,h1⟩:∃ r,decide (sz (val ln)=ln.length)=r:=⟨_,rfl⟩
 obtain ⟨r2,h2⟩:∃ r,decide (sz (val ld)=ld.length)=r:=⟨_,rfl⟩
 obtain ⟨r3,h3⟩:∃ r,(Nat.gcd (val ln) (val ld) == 1)=r:=⟨_,rfl⟩
 have R1:=Lib.hid h1
 have R2:=Lib.hid h2
 have R3:=Lib.hid h3
 have HO:=Lib.hid (show (r1 && r2 && r3 && decide (0<ld.length) && !(b && decide (ln.length=0)))=o by rw [<- ho,zlk h,h1,h2,h3])
 clear ho h1 h2 h3
 have L1:=h.lup
 have L2:=h.ldn
 obtain ⟨a0,n0,c0,rfl,H0,hm0⟩:=h.1.open
 obtain ⟨a1,n1,c1,rfl,H1,hm1⟩:=h.2.1.open
 rw [H0.out,H1.out] at HO
 have l1:=H0.out
 have l2:=H1.out
 rw [l1] at L1
 rw [l2] at L2
 clear l1 l2
 rcases Bool.eq_false_or_eq_true r1 with rfl|rfl
 rotate_left
 
 ·skip
  go_enter Tryz.func83,Tryz.ntmps83
  go_wp2_with fail
  obtain ⟨W0,az⟩:∃ W0,w.alloc (.cells #[.bool b,.slice a0 n0 c0,.slice a1 n1 c1] 47)=W0:=⟨_,rfl⟩
  have am:=Lib.hid (show ∀ W',Below W0.heap.size W0 W'->(Bx3 W' w.heap.size (.bool b) (.slice a0 n0 c0) (.slice a1 n1 c1)) from fun W' hb => by
    apply bx3 hb
    all_goals first|assumption|(rw [<- az];simp [go_sem]))
  have zb:Below w.heap.size w W0:=by rw [<- az];exact bN _ _
  rw [az]
  clear az
  have i0:=h.to zb
  have gb:Below W0.heap.size W0 W0:=Below.refl _ _
  obtain ⟨z0,ac,ae,af,ag,ah,ai⟩:=am.out _ gb
  refine (zbz _ _ _ (i0.to gb).up).mono ?_
  rintro e w1 ⟨rfl,rfl⟩
  rw [R1.out]
  go_wp2_with fail
  go_ret
  exact ⟨zw (congrArg Value.bool (by have k:=HO.out;first|(simpa using k)|(simpa [*] using k)|(rw [<- k];simp [*,zbR]))),bS zb gb⟩
 rcases Bool.eq_false_or_eq_true r2 with rfl|rfl
 rotate_left
 
 ·skip
  go_enter Tryz.func83,Tryz.ntmps83
  go_wp2_with fail
  obtain ⟨W0,az⟩:∃ W0,w.alloc (.cells #[.bool b,.slice a0 n0 c0,.slice a1 n1 c1] 47)=W0:=⟨_,rfl⟩
  have am:=Lib.hid (show ∀ W',Below W0.heap.size W0 W'->(Bx3 W' w.heap.size (.bool b) (.slice a0 n0 c0) (.slice a1 n1 c1)) from fun W' hb => by
    apply bx3 hb
    all_goals first|assumption|(rw [<- az];simp [go_sem]))
  have zb:Below w.heap.size w W0:=by rw [<- az];exact bN _ _
  rw [az]
  clear az
  have i0:=h.to zb
  have gb:Below W0.heap.size W0 W0:=Below.refl _ _
  obtain ⟨z0,ac,ae,af,ag,ah,ai⟩:=am.out _ gb
  refine (zbz _ _ _ (i0.to gb).up).mono ?_
  rintro e w1 ⟨rfl,rfl⟩
  rw [R1.out]
  go_wp2_with fail
  refine (zbz _ _ _ (i0.to gb).dn).mono ?_
  rintro e w1 ⟨rfl,rfl⟩
  rw [R2.out]
  go_wp2_with fail
  go_ret
  exact ⟨zw (congrArg Value.bool (by have k:=HO.out;first|(simpa using k)|(simpa [*] using k)|(rw [<- k];simp [*,zbR]))),bS zb gb⟩
 rcases Bool.eq_false_or_eq_true r3 with rfl|rfl
 rotate_left
 
 ·skip
  go_enter Tryz.func83,Tryz.ntmps83
  go_wp2_with fail
  obtain ⟨W0,az⟩:∃ W0,w.alloc (.cells #[.bool b,.slice a0 n0 c0,.slice a1 n1 c1] 47)=W0:=⟨_,rfl⟩
  have am:=Lib.hid (show ∀ W',Below W0.heap.size W0 W'->(Bx3 W' w.heap.size (.bool b) (.slice a0 n0 c0) (.slice a1 n1 c1)) from fun W' hb => by
    apply bx3 hb
    all_goals first|assumption|(rw [<- az];simp [go_sem]))
  have zb:Below w.heap.size w W0:=by rw [<- az];exact bN _ _
  rw [az]
  clear az
  have i0:=h.to zb
  have gb:Below W0.heap.size W0 W0:=Below.refl _ _
  obtain ⟨z0,ac,ae,af,ag,ah,ai⟩:=am.out _ gb
  refine (zbz _ _ _ (i0.to gb).up).mono ?_
  rintro e w1 ⟨rfl,rfl⟩
  rw [R1.out]
  go_wp2_with fail
  refine (zbz _ _ _ (i0.to gb).dn).mono ?_
  rintro e w1 ⟨rfl,rfl⟩
  rw [R2.out]
  go_wp2_with fail
  refine (zdL _ _ _ _ false _ (i0.to gb).up (i0.to gb).dn (by have:=h.lup;omega) (by have:=h.ldn;omega) R3).mono ?_
  clear ac ag ae ah af ai
  rintro e w2 ⟨rfl,aN⟩
  replace gb:=bS gb aN
  obtain ⟨z0,ac,ae,af,ag,ah,ai⟩:=am.out _ gb
  go_wp2_with fail
  go_ret
  exact ⟨zw (congrArg Value.bool (by have k:=HO.out;first|(simpa using k)|(simpa [*] using k)|(rw [<- k];simp [*,zbR]))),bS zb gb⟩
 go_enter Tryz.func83,Tryz.ntmps83
 go_wp2_with fail
 obtain ⟨W0,az⟩:∃ W0,w.alloc (.cells #[.bool b,.slice a0 n0 c0,.slice a1 n1 c1] 47)=W0:=⟨_,rfl⟩
 have am:=Lib.hid (show ∀ W',Below W0.heap.size W0 W'->(Bx3 W' w.heap.size (.bool b) (.slice a0 n0 c0) (.slice a1 n1 c1)) from fun W' hb => by
   apply bx3 hb
   all_goals first|assumption|(rw [<- az];simp [go_sem]))
 have zb:Below w.heap.size w W0:=by rw [<- az];exact bN _ _
 rw [az]
 clear az
 have i0:=h.to zb
 have gb:Below W0.heap.size W0 W0:=Below.refl _ _
 obtain ⟨z0,ac,ae,af,ag,ah,ai⟩:=am.out _ gb
 refine (zbz _ _ _ (i0.to gb).up).mono ?_
 rintro e w1 ⟨rfl,rfl⟩
 rw [R1.out]
 go_wp2_with fail
 refine (zbz _ _ _ (i0.to gb).dn).mono ?_
 rintro e w1 ⟨rfl,rfl⟩
 rw [R2.out]
 go_wp2_with fail
 refine (zdL _ _ _ _ true _ (i0.to gb).up (i0.to gb).dn (by have:=h.lup;omega) (by have:=h.ldn;omega) R3).mono ?_
 clear ac ag ae ah af ai
 rintro e w2 ⟨rfl,aN⟩
 replace gb:=bS gb aN
 obtain ⟨z0,ac,ae,af,ag,ah,ai⟩:=am.out _ gb
 rcases Nat.eq_zero_or_pos n1 with rfl|e1
 ·skip
  go_wp2_with fail
  go_ret
  exact ⟨zw (congrArg Value.bool (by have k:=HO.out;first|(simpa using k)|(simpa [*] using k)|(rw [<- k];simp [*,zbR]))),bS zb gb⟩
 rcases Bool.eq_false_or_eq_true b with rfl|rfl
 rotate_left
 ·skip
  go_wp2_with fail
  go_ret
  exact ⟨zw (congrArg Value.bool (by have k:=HO.out;first|(simpa using k)|(simpa [*] using k)|(rw [<- k];simp [*,zbR]))),bS zb gb⟩
 ·skip
  go_wp2_with fail
  go_ret
  exact ⟨zw (congrArg Value.bool (by have k:=HO.out;first|(simpa using k)|(simpa [*] using k)|(rw [<- k];simp [*,zbR]))),bS zb gb⟩

end Go.Proofs.YtkjcdnlpjldhaaaGreat

