/-
  The texts Rat6, Ref8c, merged.
-/
import Derived.Test.YtkjcdnlpjldhaaaGreatG12
import Derived.Test.YtkjcdnlpjldhaaaGreatG15
import Derived.Deep.RegionHeld3
import Derived.Deep.Cut
import Derived.Deep.DrawnRows
import Derived.Laws.EntriesVeiled
import Derived.Test.YtkjcdnlpjldhaaaGreatG11
set_option linter.unusedVariables false
set_option linter.unusedSimpArgs false
set_option maxRecDepth 100000
set_option maxHeartbeats 400000000
namespace Go.Proofs.YtkjcdnlpjldhaaaGreat
open Go.RowKit Tw
attribute [local go_sem ↓] Go.wp_at_zero Go.wp_at_succ

theorem zcu.ng {lo hi:Nat} {w:World} {b:Bool} {v:Value} {z:Int} (h:zcu lo hi w b v z):decide (z<0)=b:=h.2.1

theorem zed {x y:Rat} (hx:szq x<=1000) (hy:szq y<=1000):(zc (x.num*(y.den:Int)).natAbs).length<=3000:=by
 rw [ze]
 have h1:=zcK x.num (y.den:Int)
 have h2:=zaw x
 have h3:=zah y
 unfold szi at h1
 rw [Int.natAbs_natCast] at h1
 omega

theorem div_rat (x:Rat) {y:Rat} (h0:y≠0) :
  rat (decide (x.num*(y.den:Int)<0) != decide ((x.den:Int)*y.num<0)) (x.num*(y.den:Int)).natAbs ((x.den:Int)*y.num).natAbs=x / y:=by
 have h1:y.num≠0:=fun e => h0 (Rat.num_eq_zero.1 e)
 have hx:=x.den_pos
 have hy:=y.den_pos
 have e1:decide (x.num*(y.den:Int)<0)=decide (x.num<0):=by
  rw [decide_eq_decide]
  exact ⟨fun k => Int.not_le.1 fun k' => absurd (Int.mul_nonneg k' (Int.natCast_nonneg y.den)) (by omega),fun k => Int.mul_neg_of_neg_of_pos k (by omega)⟩
 have e2:decide ((x.den:Int)*y.num<0)=decide (y.num<0):=by
  rw [decide_eq_decide]
  exact ⟨fun k => Int.not_le.1 fun k' => absurd (Int.mul_nonneg (Int.natCast_nonneg x.den) k') (by omega),fun k => by rw [Int.mul_comm];exact Int.mul_neg_of_neg_of_pos k (by omega)⟩
 rw [e1,e2,Int.natAbs_mul,Int.natAbs_mul,Int.natAbs_natCast,Int.natAbs_natCast,<- zdZ,Rat.div_def,<- zbo,<- zbo,zbm]
 congr 1
 have hi:=zbm y⁻¹
 rw [<- hi]
 have h3:=(zbo y⁻¹)
 rw [Rat.num_inv,Rat.den_inv,if_neg h1,Int.natAbs_mul,Int.natAbs_sign_of_ne_zero h1,Nat.one_mul,Int.natAbs_natCast]
 congr 1
 rw [zbo,zbo,Rat.num_inv,decide_eq_decide]
 rcases Int.lt_trichotomy y.num 0 with k|k|k
 ·rw [Int.sign_eq_neg_one_of_neg k];omega
 ·exact absurd k h1
 ·rw [Int.sign_eq_one_of_pos k];omega

theorem zhI {x y:Rat} (b:Bool) (v u:Value) (ln ld:List Nat) (c:Bool) (v' u':Value) (ln' ld':List Nat) (w:World) (h:IsQ w b v u ln ld x) (h':IsQ w c v' u' ln' ld' y) (h0:y=0) :
  Calls Tryz.prog 120 #[aggR b v u,aggR c v' u'] w (fun e w' => e=.returned (.tuple #[aggR false (.slice none 0 0) (.slice none 0 0),.int .i64 3])/\Below w.heap.size w w'):=by
 have Hx:Hid (szq x<=1000):=zG h
 have Hy:Hid (szq y<=1000):=zG h'
 have S1:=Lib.hid (show szi (x.num*(y.den:Int))<=90000 from zco Hx.out Hy.out)
 have S2:=Lib.hid (show szi ((x.den:Int)*y.num)<=90000 by rw [Int.mul_comm];exact zco Hy.out Hx.out)
 have S5:=Lib.hid (show (zc (x.num*(y.den:Int)).natAbs).length<=3000 from zed Hx.out Hy.out)
 have S6:=Lib.hid (show (zc ((x.den:Int)*y.num).natAbs).length<=3000 by rw [Int.mul_comm];exact zed Hy.out Hx.out)
 have HZ:=Lib.hid (show val (zc ((x.den:Int)*y.num).natAbs)=0 by rw [vL,h0];simp)
 obtain ⟨a0,n0,c0,rfl,H0,hm0⟩:=h.1.open
 obtain ⟨a1,n1,c1,rfl,H1,hm1⟩:=h.2.1.open
 obtain ⟨a2,n2,c2,rfl,H2,hm2⟩:=h'.1.open
 obtain ⟨a3,n3,c3,rfl,H3,hm3⟩:=h'.2.1.open
 clear h0
 go_enter Tryz.func120,Tryz.ntmps120
 go_wp2_with fail
 obtain ⟨W0,az⟩:∃ W0,((w.alloc (.cells #[.bool b,.slice a0 n0 c0,.slice a1 n1 c1] 47)).alloc (.cells #[.bool c,.slice a2 n2 c2,.slice a3 n3 c3] 47)).alloc (.cells #[.bool false,.slice none 0 0,.slice none 0 0] 47)=W0:=⟨_,rfl⟩
 have am:=Lib.hid (show ∀ W',Below W0.heap.size W0 W'->(W'.cell? ⟨w.heap.size,0,none⟩=some (.bool b)/\W'.cell? ⟨w.heap.size,1,none⟩=some (.slice a0 n0 c0)/\W'.cell? ⟨w.heap.size,2,none⟩=some (.slice a1 n1 c1)/\W'.cell? ⟨w.heap.size+1,0,none⟩=some (.bool c)/\W'.cell? ⟨w.heap.size+1,1,none⟩=some (.slice a2 n2 c2)/\W'.cell? ⟨w.heap.size+1,2,none⟩=some (.slice a3 n3 c3)/\W'.cell? ⟨w.heap.size+1+1,0,none⟩=some (.bool false)/\W'.cell? ⟨w.heap.size+1+1,1,none⟩=some (.slice none 0 0)/\W'.cell? ⟨w.heap.size+1+1,2,none⟩=some (.slice none 0 0)) from fun W' hb =>
  by and_intros <;> exact kc hb (by first|assumption|(rw [<- az];simp [go_sem])))
 have cw:=Lib.hid (show ∀ W',Below W0.heap.size W0 W'->(W'.frozen? ⟨w.heap.size,0,none⟩=false/\W'.frozen? ⟨w.heap.size,1,none⟩=false/\W'.frozen? ⟨w.heap.size,2,none⟩=false/\W'.frozen? ⟨w.heap.size+1,0,none⟩=false/\W'.frozen? ⟨w.heap.size+1,1,none⟩=false/\W'.frozen? ⟨w.heap.size+1,2,none⟩=false/\W'.frozen? ⟨w.heap.size+1+1,0,none⟩=false/\W'.frozen? ⟨w.heap.size+1+1,1,none⟩=false/\W'.frozen? ⟨w.heap.size+1+1,2,none⟩=false) from fun W' hb =>
  by and_intros <;> refine (hb.frozen ?_).trans ?_ <;> first|assumption|(rw [<- az];simp [go_sem])|(rw [<- az];simp <;> omega))
 have cy:=Lib.hid (show ∀ W',Below W0.heap.size W0 W'->(w.heap.size<W'.heap.size/\w.heap.size+1<W'.heap.size/\w.heap.size+1+1<W'.heap.size) from fun W' hb =>
  by and_intros <;> refine Nat.lt_of_lt_of_le ?_ hb.size <;> first|assumption|(rw [<- az];simp <;> omega))
 have zb:Below w.heap.size w W0:=by rw [<- az];exact bS (bS (bN _ _) (bN _ _)) (bN _ _)
 rw [az]
 clear az
 have i0:=h.to zb
 have i1:=h'.to zb
 have gb:Below W0.heap.size W0 W0:=Below.refl _ _
 obtain ⟨ac,ae,af,ak,al,au,aH,aI,be⟩:=am.out _ gb
 obtain ⟨ag,ah,ai,ap,aq,aA,aK,aL,bf⟩:=cw.out _ gb
 obtain ⟨z0,z1,z2⟩:=cy.out _ gb
 have hgb:=gb
 go_upto_region 1 with fail
 go_cut [6,7] from 8 (fun s6 s7 wx => zbS W0 (x) s6 wx/\zbS W0 (y) s7 wx)
 case first =>
  go_region_held3 (fun W' => W'.cell? ⟨w.heap.size,0,none⟩=some (.bool b)/\W'.cell? ⟨w.heap.size,1,none⟩=some (.slice a0 n0 c0)/\W'.cell? ⟨w.heap.size,2,none⟩=some (.slice a1 n1 c1)/\W'.cell? ⟨w.heap.size+1,0,none⟩=some (.bool c)/\W'.cell? ⟨w.heap.size+1,1,none⟩=some (.slice a2 n2 c2)/\W'.cell? ⟨w.heap.size+1,2,none⟩=some (.slice a3 n3 c3)/\W'.cell? ⟨w.heap.size+1+1,0,none⟩=some (.bool false)/\W'.cell? ⟨w.heap.size+1+1,1,none⟩=some (.slice none 0 0)/\W'.cell? ⟨w.heap.size+1+1,2,none⟩=some (.slice none 0 0)) (with_reducible first|(exact am.out _ gb)|((refine am.out _ ?_);first|((refine Below.drew ?_);first|(exact gb)|((refine bT ?_ ?_ _ _ _);rotate_left;(first|(exact aF)|(exact aV)|(exact aG)|(exact aW));first|(exact gb)|((refine bT ?_ ?_ _ _ _);rotate_left;(first|(exact aF)|(exact aV)|(exact aG)|(exact aW));exact gb)|((refine bS ?_ (bN _ _));exact gb))|((refine bS ?_ (bN _ _));first|(exact gb)|((refine bT ?_ ?_ _ _ _);rotate_left;(first|(exact aF)|(exact aV)|(exact aG)|(exact aW));exact gb)|((refine bS ?_ (bN _ _));exact gb)))|(first|(exact gb)|((refine bT ?_ ?_ _ _ _);rotate_left;(first|(exact aF)|(exact aV)|(exact aG)|(exact aW));first|(exact gb)|((refine bT ?_ ?_ _ _ _);rotate_left;(first|(exact aF)|(exact aV)|(exact aG)|(exact aW));first|(exact gb)|((refine bT ?_ ?_ _ _ _);rotate_left;(first|(exact aF)|(exact aV)|(exact aG)|(exact aW));first|(exact gb)|((refine bT ?_ ?_ _ _ _);rotate_left;(first|(exact aF)|(exact aV)|(exact aG)|(exact aW));exact gb)|((refine bS ?_ (bN _ _));exact gb))|((refine bS ?_ (bN _ _));first|(exact gb)|((refine bT ?_ ?_ _ _ _);rotate_left;(first|(exact aF)|(exact aV)|(exact aG)|(exact aW));exact gb)|((refine bS ?_ (bN _ _));exact gb)))|((refine bS ?_ (bN _ _));first|(exact gb)|((refine bT ?_ ?_ _ _ _);rotate_left;(first|(exact aF)|(exact aV)|(exact aG)|(exact aW));first|(exact gb)|((refine bT ?_ ?_ _ _ _);rotate_left;(first|(exact aF)|(exact aV)|(exact aG)|(exact aW));exact gb)|((refine bS ?_ (bN _ _));exact gb))|((refine bS ?_ (bN _ _));first|(exact gb)|((refine bT ?_ ?_ _ _ _);rotate_left;(first|(exact aF)|(exact aV)|(exact aG)|(exact aW));exact gb)|((refine bS ?_ (bN _ _));exact gb))))|((refine bS ?_ (bN _ _));first|(exact gb)|((refine bT ?_ ?_ _ _ _);rotate_left;(first|(exact aF)|(exact aV)|(exact aG)|(exact aW));first|(exact gb)|((refine bT ?_ ?_ _ _ _);rotate_left;(first|(exact aF)|(exact aV)|(exact aG)|(exact aW));first|(exact gb)|((refine bT ?_ ?_ _ _ _);rotate_left;(first|(exact aF)|(exact aV)|(exact aG)|(exact aW));exact gb)|((refine bS ?_ (bN _ _));exact gb))|((refine bS ?_ (bN _ _));first|(exact gb)|((refine bT ?_ ?_ _ _ _);rotate_left;(first|(exact aF)|(exact aV)|(exact aG)|(exact aW));exact gb)|((refine bS ?_ (bN _ _));exact gb)))|((refine bS ?_ (bN _ _));first|(exact gb)|((refine bT ?_ ?_ _ _ _);rotate_left;(first|(exact aF)|(exact aV)|(exact aG)|(exact aW));first|(exact gb)|((refine bT ?_ ?_ _ _ _);rotate_left;(first|(exact aF)|(exact aV)|(exact aG)|(exact aW));exact gb)|((refine bS ?_ (bN _ _));exact gb))|((refine bS ?_ (bN _ _));first|(exact gb)|((refine bT ?_ ?_ _ _ _);rotate_left;(first|(exact aF)|(exact aV)|(exact aG)|(exact aW));exact gb)|((refine bS ?_ (bN _ _));exact gb))))))) (first
   | (go_at_call 142;(refine zk w1 (by with_reducible first|exact Below.refl _ _|exact bN _ _|exact bS (bN _ _) (bN _ _)) ?_);intro V2 c8 bZ;have ee:=bZ.size;have dx:=gb.size;have g1:=g1.to bZ;have gb:=bS gb bZ;(try have aE:=aE.to bZ);(try have bv:=bv.to bZ);(try have aM:Tri V2 (w1.heap.size) (.bool false) (.slice none 0 0) (.slice none 0 0):=(by rw [c8];with_reducible first|exact zd _ (.bool false) (.slice none 0 0) (.slice none 0 0) _|exact (zd _ (.bool false) (.slice none 0 0) (.slice none 0 0) _).alloc _));have aG:W0.heap.size<=w1.heap.size:=(dx);have bE:w1.heap.size<=w1.heap.size:=(Nat.le_refl _);(try have bX:Tri V2 (w1.heap.size+1) (.bool false) (.slice none 0 0) (.slice none 0 0):=(by rw [c8];first|with_reducible exact zan _ _ (.bool false) (.slice none 0 0) (.slice none 0 0) _));have aW:W0.heap.size<=w1.heap.size+1:=(Nat.le_succ_of_le dx);have bF:w1.heap.size<=w1.heap.size+1:=(Nat.le_succ _);(try have bh:=aE.lt);(try have bP:=bv.lt);(try have bi:=aM.lt);(try have bQ:=bX.lt);(with_reducible refine (zbt c _ _ ln' ld' _ (i1.to gb) Hy).mono ?_);rintro e w2 ⟨ng2,a2_,n2_,c2_,p2_,m2_,k2_,rfl,g2,aN⟩;have g1:=g1.to aN;have gb:=bS gb aN;have dw:=aN.size;(try have aE:=aE.to aN);(try have bv:=bv.to aN);(try have aM:=aM.to aN);(try have bX:=bX.to aN);(try have cg:=aE.lt);(try have eY:=bv.lt);(try have ch:=aM.lt);(try have eZ:=bX.lt);(try (have bj:=aE;obtain ⟨bI,bJ,bK,bL,bM,bO⟩:=bj));(try (have cQ:=bv;obtain ⟨dy,dz,dA,dB,dC,dD⟩:=cQ));(try (have b5:=aM;obtain ⟨cz,cA,cB,cC,cE,cF⟩:=b5));(try (have er:=bX;obtain ⟨fL,fM,fN,fO,fP,fQ⟩:=er)))
   | (go_at_call 142;(refine zk W0 (by with_reducible first|exact (Below.refl _ _).drew|exact (bN _ _).drew|exact (bS (bN _ _) (bN _ _)).drew) ?_);intro V1 df cq;have ef:=cq.size;have cR:=gb.size;have gb:=bS gb cq;(try have aE:Tri V1 (W0.heap.size) (.bool false) (.slice none 0 0) (.slice none 0 0):=(by rw [df];with_reducible first|exact (zd _ (.bool false) (.slice none 0 0) (.slice none 0 0) _).drew|exact ((zd _ (.bool false) (.slice none 0 0) (.slice none 0 0) _).alloc _).drew));have aF:W0.heap.size<=W0.heap.size:=(cR);(try have bv:Tri V1 (W0.heap.size+1) (.bool false) (.slice none 0 0) (.slice none 0 0):=(by rw [df];first|with_reducible exact (zan _ _ (.bool false) (.slice none 0 0) (.slice none 0 0) _).drew));have aV:W0.heap.size<=W0.heap.size+1:=(Nat.le_succ_of_le cR);(try have bn:=aE.lt);(try have bR:=bv.lt);(with_reducible refine (zbt b _ _ ln ld _ (i0.to gb) Hx).mono ?_);rintro e w1 ⟨ng1,a1_,n1_,c1_,p1_,m1_,k1_,rfl,g1,bd⟩;have gb:=bS gb bd;have dv:=bd.size;(try have aE:=aE.to bd);(try have bv:=bv.to bd);(try have bH:=aE.lt);(try have cl:=bv.lt);(try (have bj:=aE;obtain ⟨bI,bJ,bK,bL,bM,bO⟩:=bj));(try (have cQ:=bv;obtain ⟨dy,dz,dA,dB,dC,dD⟩:=cQ))))
  all_goals (go_wp2_with fail;go_meet)
  all_goals first
   | (with_reducible exact zo aE bv (Nat.ne_of_lt (Nat.lt_succ_self _)) g1 g2 (.inl bn) (.inl bR) (.inl bh) (.inl bP) gb aF aV)
   | (with_reducible exact zo aE aM (Nat.ne_of_lt bH) g1 g2 (.inl bn) (.inr bE) (.inl bh) (.inl bi) gb aF aG)
   | (with_reducible exact zo aE bX (Nat.ne_of_lt (Nat.lt_succ_of_lt bH)) g1 g2 (.inl bn) (.inr bF) (.inl bh) (.inl bQ) gb aF aW)
   | (with_reducible exact zo bv aE ((Nat.ne_of_lt (Nat.lt_succ_self _)).symm) g1 g2 (.inl bR) (.inl bn) (.inl bP) (.inl bh) gb aV aF)
   | (with_reducible exact zo bv aM (Nat.ne_of_lt cl) g1 g2 (.inl bR) (.inr bE) (.inl bP) (.inl bi) gb aV aG)
   | (with_reducible exact zo bv bX (Nat.ne_of_lt (Nat.lt_succ_of_lt cl)) g1 g2 (.inl bR) (.inr bF) (.inl bP) (.inl bQ) gb aV aW)
   | (with_reducible exact zo aM aE ((Nat.ne_of_lt bH).symm) g1 g2 (.inr bE) (.inl bn) (.inl bi) (.inl bh) gb aG aF)
   | (with_reducible exact zo aM bv ((Nat.ne_of_lt cl).symm) g1 g2 (.inr bE) (.inl bR) (.inl bi) (.inl bP) gb aG aV)
   | (with_reducible exact zo aM bX (Nat.ne_of_lt (Nat.lt_succ_self _)) g1 g2 (.inr bE) (.inr bF) (.inl bi) (.inl bQ) gb aG aW)
   | (with_reducible exact zo bX aE ((Nat.ne_of_lt (Nat.lt_succ_of_lt bH)).symm) g1 g2 (.inr bF) (.inl bn) (.inl bQ) (.inl bh) gb aW aF)
   | (with_reducible exact zo bX bv ((Nat.ne_of_lt (Nat.lt_succ_of_lt cl)).symm) g1 g2 (.inr bF) (.inl bR) (.inl bQ) (.inl bP) gb aW aV)
   | (with_reducible exact zo bX aM ((Nat.ne_of_lt (Nat.lt_succ_self _)).symm) g1 g2 (.inr bF) (.inr bE) (.inl bQ) (.inl bi) gb aW aG)
   | (with_reducible exact zy aE g1 g2 (.inl bn) (.inl bh) gb aF)
   | (with_reducible exact (zy aE g2 g1 (.inl bh) (.inl bn) gb aF).symm)
   | (with_reducible exact zy bv g1 g2 (.inl bR) (.inl bP) gb aV)
   | (with_reducible exact (zy bv g2 g1 (.inl bP) (.inl bR) gb aV).symm)
   | (with_reducible exact zy aM g1 g2 (.inr bE) (.inl bi) gb aG)
   | (with_reducible exact (zy aM g2 g1 (.inl bi) (.inr bE) gb aG).symm)
   | (with_reducible exact zy bX g1 g2 (.inr bF) (.inl bQ) gb aW)
   | (with_reducible exact (zy bX g2 g1 (.inl bQ) (.inr bF) gb aW).symm)
   | (with_reducible exact zcc g1 g2 gb)
   | (with_reducible exact (zcc g2 g1 gb).symm)
 case rest =>
 obtain ⟨⟨B5,ng1,a1_,n1_,c1_,p1_,m1_,k1_,lo5,hi5,rfl,hB5,T5,g1,hc5⟩,⟨B6,ng2,a2_,n2_,c2_,p2_,m2_,k2_,lo6,hi6,rfl,hB6,T6,g2,hc6⟩⟩:=hcut
 clear ac ag ae ah af ai ak ap al aq au aA aH aK aI aL be bf
 have gb:=hc5
 obtain ⟨ac,ae,af,ak,al,au,aH,aI,be⟩:=am.out _ gb
 obtain ⟨ag,ah,ai,ap,aq,aA,aK,aL,bf⟩:=cw.out _ gb
 obtain ⟨z0,z1,z2⟩:=cy.out _ gb
 have z5:=T5.lt
 obtain ⟨bk,bl,bm,bo,bq,bw⟩:=T5
 have z6:=T6.lt
 obtain ⟨b6,b7,b8,ce,cf,ci⟩:=T6
 clear hgb
 obtain ⟨W1,aO⟩:∃ W,wc=W:=⟨_,rfl⟩
 subst aO
 replace i0:=i0.to gb
 replace i1:=i1.to gb
 replace zb:=bS zb gb
 have HXwc:=Lib.hid (show ∀ W',Below wc.heap.size wc W'->(Bx3 W' w.heap.size (.bool b) (.slice a0 n0 c0) (.slice a1 n1 c1)/\Bx3 W' (w.heap.size+1) (.bool c) (.slice a2 n2 c2) (.slice a3 n3 c3)/\Bx3 W' (w.heap.size+1+1) (.bool false) (.slice none 0 0) (.slice none 0 0)/\Bx3 W' B5 (.bool ng1) (.slice a1_ n1_ c1_) (.slice p1_ m1_ k1_)/\Bx3 W' B6 (.bool ng2) (.slice a2_ n2_ c2_) (.slice p2_ m2_ k2_)) from fun W' hb => by
   refine ⟨bx3 hb ?_ ?_ ?_ ?_ ?_ ?_,bx3 hb ?_ ?_ ?_ ?_ ?_ ?_,bx3 hb ?_ ?_ ?_ ?_ ?_ ?_,bx3 hb ?_ ?_ ?_ ?_ ?_ ?_,bx3 hb ?_ ?_ ?_ ?_ ?_ ?_⟩
   all_goals first|assumption|assumption)
 replace gb:=Below.refl wc.heap.size wc
 go_wp2_with fail
 have nz0:w.heap.size≠w.heap.size+1+1:=by omega
 have nz1:w.heap.size+1≠w.heap.size+1+1:=by omega
 have nz5:B5≠w.heap.size+1+1:=by omega
 have nz6:B6≠w.heap.size+1+1:=by omega
 go_region_held3 (fun W' => W'.cell? ⟨w.heap.size,0,none⟩=some (.bool b)/\W'.cell? ⟨w.heap.size,1,none⟩=some (.slice a0 n0 c0)/\W'.cell? ⟨w.heap.size,2,none⟩=some (.slice a1 n1 c1)/\W'.cell? ⟨w.heap.size+1,0,none⟩=some (.bool c)/\W'.cell? ⟨w.heap.size+1,1,none⟩=some (.slice a2 n2 c2)/\W'.cell? ⟨w.heap.size+1,2,none⟩=some (.slice a3 n3 c3)/\W'.cell? ⟨B5,0,none⟩=some (.bool ng1)/\W'.cell? ⟨B5,1,none⟩=some (.slice a1_ n1_ c1_)/\W'.cell? ⟨B5,2,none⟩=some (.slice p1_ m1_ k1_)/\W'.cell? ⟨B6,0,none⟩=some (.bool ng2)/\W'.cell? ⟨B6,1,none⟩=some (.slice a2_ n2_ c2_)/\W'.cell? ⟨B6,2,none⟩=some (.slice p2_ m2_ k2_)) (first|(with_reducible exact ⟨ac,ae,af,ak,al,au,bk,bl,bm,b6,b7,b8⟩)|(with_reducible exact ⟨cP (cP (cP (ac) (.inl nz0) _) (.inl nz0) _) (.inl nz0) _,cP (cP (cP (ae) (.inl nz0) _) (.inl nz0) _) (.inl nz0) _,cP (cP (cP (af) (.inl nz0) _) (.inl nz0) _) (.inl nz0) _,cP (cP (cP (ak) (.inl nz1) _) (.inl nz1) _) (.inl nz1) _,cP (cP (cP (al) (.inl nz1) _) (.inl nz1) _) (.inl nz1) _,cP (cP (cP (au) (.inl nz1) _) (.inl nz1) _) (.inl nz1) _,cP (cP (cP (bk) (.inl nz5) _) (.inl nz5) _) (.inl nz5) _,cP (cP (cP (bl) (.inl nz5) _) (.inl nz5) _) (.inl nz5) _,cP (cP (cP (bm) (.inl nz5) _) (.inl nz5) _) (.inl nz5) _,cP (cP (cP (b6) (.inl nz6) _) (.inl nz6) _) (.inl nz6) _,cP (cP (cP (b7) (.inl nz6) _) (.inl nz6) _) (.inl nz6) _,cP (cP (cP (b8) (.inl nz6) _) (.inl nz6) _) (.inl nz6) _⟩)|exact ⟨ac,ae,af,ak,al,au,bk,bl,bm,b6,b7,b8⟩) (first
  | (go_at_call 148;(with_reducible refine (zgx ng13 ng16 _ _ _ _ _ g13.isI.up g16.isI.up S6.out HZ.out).mono ?_);rintro e w17 ⟨rfl,dm⟩;have g13:=g13.to dm;have g16:=g16.to dm;have gb:=bS gb dm;obtain ⟨⟨z0,ac,ae,af,ag,ah,ai⟩,⟨z1,ak,al,au,ap,aq,aA⟩,⟨z2,aH,aI,be,aK,aL,bf⟩,⟨z5,bk,bl,bm,bo,bq,bw⟩,⟨z6,b6,b7,b8,ce,cf,ci⟩⟩:=HXwc.out _ gb)
  | (go_at_call 144;(with_reducible refine (zgP _ (g1.to gb).below (g2.to gb).above ((x.den:Int)*y.num) rfl S2).mono ?_);rintro e w16 ⟨ng16,a16_,n16_,c16_,rfl,g16,el⟩;have g13:=g13.to el;have gb:=bS gb el;obtain ⟨⟨z0,ac,ae,af,ag,ah,ai⟩,⟨z1,ak,al,au,ap,aq,aA⟩,⟨z2,aH,aI,be,aK,aL,bf⟩,⟨z5,bk,bl,bm,bo,bq,bw⟩,⟨z6,b6,b7,b8,ce,cf,ci⟩⟩:=HXwc.out _ gb)
  | (go_at_call 145;(with_reducible refine (zbi _ _ _ _ _ _ (g2.to gb).isQ).mono ?_);rintro e w15 ⟨rfl,dk⟩;have g13:=g13.to dk;have gb:=bS gb dk;obtain ⟨⟨z0,ac,ae,af,ag,ah,ai⟩,⟨z1,ak,al,au,ap,aq,aA⟩,⟨z2,aH,aI,be,aK,aL,bf⟩,⟨z5,bk,bl,bm,bo,bq,bw⟩,⟨z6,b6,b7,b8,ce,cf,ci⟩⟩:=HXwc.out _ gb)
  | (go_at_call 146;(with_reducible refine (zbj _ _ _ _ _ _ (g1.to gb).isQ).mono ?_);rintro e w14 ⟨rfl,du⟩;have g13:=g13.to du;have gb:=bS gb du;obtain ⟨⟨z0,ac,ae,af,ag,ah,ai⟩,⟨z1,ak,al,au,ap,aq,aA⟩,⟨z2,aH,aI,be,aK,aL,bf⟩,⟨z5,bk,bl,bm,bo,bq,bw⟩,⟨z6,b6,b7,b8,ce,cf,ci⟩⟩:=HXwc.out _ gb)
  | (go_at_call 144;(with_reducible refine (zgP _ (g1.to gb).above (g2.to gb).below (x.num*(y.den:Int)) rfl S1).mono ?_);rintro e w13 ⟨ng13,a13_,n13_,c13_,rfl,g13,ed⟩;have gb:=bS gb ed;obtain ⟨⟨z0,ac,ae,af,ag,ah,ai⟩,⟨z1,ak,al,au,ap,aq,aA⟩,⟨z2,aH,aI,be,aK,aL,bf⟩,⟨z5,bk,bl,bm,bo,bq,bw⟩,⟨z6,b6,b7,b8,ce,cf,ci⟩⟩:=HXwc.out _ gb)
  | (go_at_call 146;(with_reducible refine (zbj _ _ _ _ _ _ (g2.to gb).isQ).mono ?_);rintro e w12 ⟨rfl,dl⟩;have gb:=bS gb dl;obtain ⟨⟨z0,ac,ae,af,ag,ah,ai⟩,⟨z1,ak,al,au,ap,aq,aA⟩,⟨z2,aH,aI,be,aK,aL,bf⟩,⟨z5,bk,bl,bm,bo,bq,bw⟩,⟨z6,b6,b7,b8,ce,cf,ci⟩⟩:=HXwc.out _ gb)
  | (go_at_call 145;have gb:=gb.drew;(with_reducible refine (zbi _ _ _ _ _ _ (g1.to gb).isQ).mono ?_);rintro e w11 ⟨rfl,fs⟩;have gb:=bS gb fs;obtain ⟨⟨z0,ac,ae,af,ag,ah,ai⟩,⟨z1,ak,al,au,ap,aq,aA⟩,⟨z2,aH,aI,be,aK,aL,bf⟩,⟨z5,bk,bl,bm,bo,bq,bw⟩,⟨z6,b6,b7,b8,ce,cf,ci⟩⟩:=HXwc.out _ gb))
 go_wp2_with fail
 refine bodyPost_ret (zi Tryz.results120 _ _ _ _ _ _ rfl (Tri.set (x0:=.bool false) (y0:=.slice none 0 0) (z0:=.slice none 0 0) ⟨aH,aI,be,aK,aL,bf⟩ _ _ _)) rfl ⟨rfl,bT (bS zb gb) (by omega) _ _ _⟩

theorem zkH {x y:Rat} (b:Bool) (v u:Value) (ln ld:List Nat) (c:Bool) (v' u':Value) (ln' ld':List Nat) (w:World) (h:IsQ w b v u ln ld x) (h':IsQ w c v' u' ln' ld' y) (h0:y≠0) (q:Rat) (hq:x / y=q) (hs:Hid (szq q<=1000)) :
  Calls Tryz.prog 120 #[aggR b v u,aggR c v' u'] w (zq w q):=by
 have Hx:Hid (szq x<=1000):=zG h
 have Hy:Hid (szq y<=1000):=zG h'
 have S1:=Lib.hid (show szi (x.num*(y.den:Int))<=90000 from zco Hx.out Hy.out)
 have S2:=Lib.hid (show szi ((x.den:Int)*y.num)<=90000 by rw [Int.mul_comm];exact zco Hy.out Hx.out)
 have S5:=Lib.hid (show (zc (x.num*(y.den:Int)).natAbs).length<=3000 from zed Hx.out Hy.out)
 have S6:=Lib.hid (show (zc ((x.den:Int)*y.num).natAbs).length<=3000 by rw [Int.mul_comm];exact zed Hy.out Hx.out)
 have HZ:=Lib.hid (show val (zc ((x.den:Int)*y.num).natAbs)≠0 by
  rw [vL,Int.natAbs_mul]
  exact Nat.mul_ne_zero (by have:=x.den_nz;omega) (fun e => h0 (Rat.num_eq_zero.1 (Int.natAbs_eq_zero.1 e))))
 have H9:=Lib.hid (show ∀ ng ng',decide (x.num*(y.den:Int)<0)=ng->decide ((x.den:Int)*y.num<0)=ng'->rat (ng != ng') (val (zc (x.num*(y.den:Int)).natAbs)) (val (zc ((x.den:Int)*y.num).natAbs))=q from fun ng ng' e e' => by
  rw [<- e,<- e',vL,vL,div_rat x h0,hq])
 obtain ⟨a0,n0,c0,rfl,H0,hm0⟩:=h.1.open
 obtain ⟨a1,n1,c1,rfl,H1,hm1⟩:=h.2.1.open
 obtain ⟨a2,n2,c2,rfl,H2,hm2⟩:=h'.1.open
 obtain ⟨a3,n3,c3,rfl,H3,hm3⟩:=h'.2.1.open
 clear hq h0
 go_enter Tryz.func120,Tryz.ntmps120
 go_wp2_with fail
 obtain ⟨W0,az⟩:∃ W0,((w.alloc (.cells #[.bool b,.slice a0 n0 c0,.slice a1 n1 c1] 47)).alloc (.cells #[.bool c,.slice a2 n2 c2,.slice a3 n3 c3] 47)).alloc (.cells #[.bool false,.slice none 0 0,.slice none 0 0] 47)=W0:=⟨_,rfl⟩
 have am:=Lib.hid (show ∀ W',Below W0.heap.size W0 W'->(W'.cell? ⟨w.heap.size,0,none⟩=some (.bool b)/\W'.cell? ⟨w.heap.size,1,none⟩=some (.slice a0 n0 c0)/\W'.cell? ⟨w.heap.size,2,none⟩=some (.slice a1 n1 c1)/\W'.cell? ⟨w.heap.size+1,0,none⟩=some (.bool c)/\W'.cell? ⟨w.heap.size+1,1,none⟩=some (.slice a2 n2 c2)/\W'.cell? ⟨w.heap.size+1,2,none⟩=some (.slice a3 n3 c3)/\W'.cell? ⟨w.heap.size+1+1,0,none⟩=some (.bool false)/\W'.cell? ⟨w.heap.size+1+1,1,none⟩=some (.slice none 0 0)/\W'.cell? ⟨w.heap.size+1+1,2,none⟩=some (.slice none 0 0)) from fun W' hb =>
  by and_intros <;> exact kc hb (by first|assumption|(rw [<- az];simp [go_sem])))
 have cw:=Lib.hid (show ∀ W',Below W0.heap.size W0 W'->(W'.frozen? ⟨w.heap.size,0,none⟩=false/\W'.frozen? ⟨w.heap.size,1,none⟩=false/\W'.frozen? ⟨w.heap.size,2,none⟩=false/\W'.frozen? ⟨w.heap.size+1,0,none⟩=false/\W'.frozen? ⟨w.heap.size+1,1,none⟩=false/\W'.frozen? ⟨w.heap.size+1,2,none⟩=false/\W'.frozen? ⟨w.heap.size+1+1,0,none⟩=false/\W'.frozen? ⟨w.heap.size+1+1,1,none⟩=false/\W'.frozen? ⟨w.heap.size+1+1,2,none⟩=false) from fun W' hb =>
  by and_intros <;> refine (hb.frozen ?_).trans ?_ <;> first|assumption|(rw [<- az];simp [go_sem])|(rw [<- az];simp <;> omega))
 have cy:=Lib.hid (show ∀ W',Below W0.heap.size W0 W'->(w.heap.size<W'.heap.size/\w.heap.size+1<W'.heap.size/\w.heap.size+1+1<W'.heap.size) from fun W' hb =>
  by and_intros <;> refine Nat.lt_of_lt_of_le ?_ hb.size <;> first|assumption|(rw [<- az];simp <;> omega))
 have zb:Below w.heap.size w W0:=by rw [<- az];exact bS (bS (bN _ _) (bN _ _)) (bN _ _)
 rw [az]
 clear az
 have i0:=h.to zb
 have i1:=h'.to zb
 have gb:Below W0.heap.size W0 W0:=Below.refl _ _
 obtain ⟨ac,ae,af,ak,al,au,aH,aI,be⟩:=am.out _ gb
 obtain ⟨ag,ah,ai,ap,aq,aA,aK,aL,bf⟩:=cw.out _ gb
 obtain ⟨z0,z1,z2⟩:=cy.out _ gb
 have hgb:=gb
 go_upto_region 1 with fail
 go_cut [6,7] from 8 (fun s6 s7 wx => zbS W0 (x) s6 wx/\zbS W0 (y) s7 wx)
 case first =>
  go_region_held3 (fun W' => W'.cell? ⟨w.heap.size,0,none⟩=some (.bool b)/\W'.cell? ⟨w.heap.size,1,none⟩=some (.slice a0 n0 c0)/\W'.cell? ⟨w.heap.size,2,none⟩=some (.slice a1 n1 c1)/\W'.cell? ⟨w.heap.size+1,0,none⟩=some (.bool c)/\W'.cell? ⟨w.heap.size+1,1,none⟩=some (.slice a2 n2 c2)/\W'.cell? ⟨w.heap.size+1,2,none⟩=some (.slice a3 n3 c3)/\W'.cell? ⟨w.heap.size+1+1,0,none⟩=some (.bool false)/\W'.cell? ⟨w.heap.size+1+1,1,none⟩=some (.slice none 0 0)/\W'.cell? ⟨w.heap.size+1+1,2,none⟩=some (.slice none 0 0)) (with_reducible first|(exact am.out _ gb)|((refine am.out _ ?_);first|((refine Below.drew ?_);first|(exact gb)|((refine bT ?_ ?_ _ _ _);rotate_left;(first|(exact aF)|(exact aV)|(exact aG)|(exact aW));first|(exact gb)|((refine bT ?_ ?_ _ _ _);rotate_left;(first|(exact aF)|(exact aV)|(exact aG)|(exact aW));exact gb)|((refine bS ?_ (bN _ _));exact gb))|((refine bS ?_ (bN _ _));first|(exact gb)|((refine bT ?_ ?_ _ _ _);rotate_left;(first|(exact aF)|(exact aV)|(exact aG)|(exact aW));exact gb)|((refine bS ?_ (bN _ _));exact gb)))|(first|(exact gb)|((refine bT ?_ ?_ _ _ _);rotate_left;(first|(exact aF)|(exact aV)|(exact aG)|(exact aW));first|(exact gb)|((refine bT ?_ ?_ _ _ _);rotate_left;(first|(exact aF)|(exact aV)|(exact aG)|(exact aW));first|(exact gb)|((refine bT ?_ ?_ _ _ _);rotate_left;(first|(exact aF)|(exact aV)|(exact aG)|(exact aW));first|(exact gb)|((refine bT ?_ ?_ _ _ _);rotate_left;(first|(exact aF)|(exact aV)|(exact aG)|(exact aW));exact gb)|((refine bS ?_ (bN _ _));exact gb))|((refine bS ?_ (bN _ _));first|(exact gb)|((refine bT ?_ ?_ _ _ _);rotate_left;(first|(exact aF)|(exact aV)|(exact aG)|(exact aW));exact gb)|((refine bS ?_ (bN _ _));exact gb)))|((refine bS ?_ (bN _ _));first|(exact gb)|((refine bT ?_ ?_ _ _ _);rotate_left;(first|(exact aF)|(exact aV)|(exact aG)|(exact aW));first|(exact gb)|((refine bT ?_ ?_ _ _ _);rotate_left;(first|(exact aF)|(exact aV)|(exact aG)|(exact aW));exact gb)|((refine bS ?_ (bN _ _));exact gb))|((refine bS ?_ (bN _ _));first|(exact gb)|((refine bT ?_ ?_ _ _ _);rotate_left;(first|(exact aF)|(exact aV)|(exact aG)|(exact aW));exact gb)|((refine bS ?_ (bN _ _));exact gb))))|((refine bS ?_ (bN _ _));first|(exact gb)|((refine bT ?_ ?_ _ _ _);rotate_left;(first|(exact aF)|(exact aV)|(exact aG)|(exact aW));first|(exact gb)|((refine bT ?_ ?_ _ _ _);rotate_left;(first|(exact aF)|(exact aV)|(exact aG)|(exact aW));first|(exact gb)|((refine bT ?_ ?_ _ _ _);rotate_left;(first|(exact aF)|(exact aV)|(exact aG)|(exact aW));exact gb)|((refine bS ?_ (bN _ _));exact gb))|((refine bS ?_ (bN _ _));first|(exact gb)|((refine bT ?_ ?_ _ _ _);rotate_left;(first|(exact aF)|(exact aV)|(exact aG)|(exact aW));exact gb)|((refine bS ?_ (bN _ _));exact gb)))|((refine bS ?_ (bN _ _));first|(exact gb)|((refine bT ?_ ?_ _ _ _);rotate_left;(first|(exact aF)|(exact aV)|(exact aG)|(exact aW));first|(exact gb)|((refine bT ?_ ?_ _ _ _);rotate_left;(first|(exact aF)|(exact aV)|(exact aG)|(exact aW));exact gb)|((refine bS ?_ (bN _ _));exact gb))|((refine bS ?_ (bN _ _));first|(exact gb)|((refine bT ?_ ?_ _ _ _);rotate_left;(first|(exact aF)|(exact aV)|(exact aG)|(exact aW));exact gb)|((refine bS ?_ (bN _ _));exact gb))))))) (first
   | (go_at_call 142;(refine zk w1 (by with_reducible first|exact Below.refl _ _|exact bN _ _|exact bS (bN _ _) (bN _ _)) ?_);intro V2 c8 bZ;have ee:=bZ.size;have dx:=gb.size;have g1:=g1.to bZ;have gb:=bS gb bZ;(try have aE:=aE.to bZ);(try have bv:=bv.to bZ);(try have aM:Tri V2 (w1.heap.size) (.bool false) (.slice none 0 0) (.slice none 0 0):=(by rw [c8];with_reducible first|exact zd _ (.bool false) (.slice none 0 0) (.slice none 0 0) _|exact (zd _ (.bool false) (.slice none 0 0) (.slice none 0 0) _).alloc _));have aG:W0.heap.size<=w1.heap.size:=(dx);have bE:w1.heap.size<=w1.heap.size:=(Nat.le_refl _);(try have bX:Tri V2 (w1.heap.size+1) (.bool false) (.slice none 0 0) (.slice none 0 0):=(by rw [c8];first|with_reducible exact zan _ _ (.bool false) (.slice none 0 0) (.slice none 0 0) _));have aW:W0.heap.size<=w1.heap.size+1:=(Nat.le_succ_of_le dx);have bF:w1.heap.size<=w1.heap.size+1:=(Nat.le_succ _);(try have bh:=aE.lt);(try have bP:=bv.lt);(try have bi:=aM.lt);(try have bQ:=bX.lt);(with_reducible refine (zbt c _ _ ln' ld' _ (i1.to gb) Hy).mono ?_);rintro e w2 ⟨ng2,a2_,n2_,c2_,p2_,m2_,k2_,rfl,g2,aN⟩;have g1:=g1.to aN;have gb:=bS gb aN;have dw:=aN.size;(try have aE:=aE.to aN);(try have bv:=bv.to aN);(try have aM:=aM.to aN);(try have bX:=bX.to aN);(try have cg:=aE.lt);(try have eY:=bv.lt);(try have ch:=aM.lt);(try have eZ:=bX.lt);(try (have bj:=aE;obtain ⟨bI,bJ,bK,bL,bM,bO⟩:=bj));(try (have cQ:=bv;obtain ⟨dy,dz,dA,dB,dC,dD⟩:=cQ));(try (have b5:=aM;obtain ⟨cz,cA,cB,cC,cE,cF⟩:=b5));(try (have er:=bX;obtain ⟨fL,fM,fN,fO,fP,fQ⟩:=er)))
   | (go_at_call 142;(refine zk W0 (by with_reducible first|exact (Below.refl _ _).drew|exact (bN _ _).drew|exact (bS (bN _ _) (bN _ _)).drew) ?_);intro V1 df cq;have ef:=cq.size;have cR:=gb.size;have gb:=bS gb cq;(try have aE:Tri V1 (W0.heap.size) (.bool false) (.slice none 0 0) (.slice none 0 0):=(by rw [df];with_reducible first|exact (zd _ (.bool false) (.slice none 0 0) (.slice none 0 0) _).drew|exact ((zd _ (.bool false) (.slice none 0 0) (.slice none 0 0) _).alloc _).drew));have aF:W0.heap.size<=W0.heap.size:=(cR);(try have bv:Tri V1 (W0.heap.size+1) (.bool false) (.slice none 0 0) (.slice none 0 0):=(by rw [df];first|with_reducible exact (zan _ _ (.bool false) (.slice none 0 0) (.slice none 0 0) _).drew));have aV:W0.heap.size<=W0.heap.size+1:=(Nat.le_succ_of_le cR);(try have bn:=aE.lt);(try have bR:=bv.lt);(with_reducible refine (zbt b _ _ ln ld _ (i0.to gb) Hx).mono ?_);rintro e w1 ⟨ng1,a1_,n1_,c1_,p1_,m1_,k1_,rfl,g1,bd⟩;have gb:=bS gb bd;have dv:=bd.size;(try have aE:=aE.to bd);(try have bv:=bv.to bd);(try have bH:=aE.lt);(try have cl:=bv.lt);(try (have bj:=aE;obtain ⟨bI,bJ,bK,bL,bM,bO⟩:=bj));(try (have cQ:=bv;obtain ⟨dy,dz,dA,dB,dC,dD⟩:=cQ))))
  all_goals (go_wp2_with fail;go_meet)
  all_goals first
   | (with_reducible exact zo aE bv (Nat.ne_of_lt (Nat.lt_succ_self _)) g1 g2 (.inl bn) (.inl bR) (.inl bh) (.inl bP) gb aF aV)
   | (with_reducible exact zo aE aM (Nat.ne_of_lt bH) g1 g2 (.inl bn) (.inr bE) (.inl bh) (.inl bi) gb aF aG)
   | (with_reducible exact zo aE bX (Nat.ne_of_lt (Nat.lt_succ_of_lt bH)) g1 g2 (.inl bn) (.inr bF) (.inl bh) (.inl bQ) gb aF aW)
   | (with_reducible exact zo bv aE ((Nat.ne_of_lt (Nat.lt_succ_self _)).symm) g1 g2 (.inl bR) (.inl bn) (.inl bP) (.inl bh) gb aV aF)
   | (with_reducible exact zo bv aM (Nat.ne_of_lt cl) g1 g2 (.inl bR) (.inr bE) (.inl bP) (.inl bi) gb aV aG)
   | (with_reducible exact zo bv bX (Nat.ne_of_lt (Nat.lt_succ_of_lt cl)) g1 g2 (.inl bR) (.inr bF) (.inl bP) (.inl bQ) gb aV aW)
   | (with_reducible exact zo aM aE ((Nat.ne_of_lt bH).symm) g1 g2 (.inr bE) (.inl bn) (.inl bi) (.inl bh) gb aG aF)
   | (with_reducible exact zo aM bv ((Nat.ne_of_lt cl).symm) g1 g2 (.inr bE) (.inl bR) (.inl bi) (.inl bP) gb aG aV)
   | (with_reducible exact zo aM bX (Nat.ne_of_lt (Nat.lt_succ_self _)) g1 g2 (.inr bE) (.inr bF) (.inl bi) (.inl bQ) gb aG aW)
   | (with_reducible exact zo bX aE ((Nat.ne_of_lt (Nat.lt_succ_of_lt bH)).symm) g1 g2 (.inr bF) (.inl bn) (.inl bQ) (.inl bh) gb aW aF)
   | (with_reducible exact zo bX bv ((Nat.ne_of_lt (Nat.lt_succ_of_lt cl)).symm) g1 g2 (.inr bF) (.inl bR) (.inl bQ) (.inl bP) gb aW aV)
   | (with_reducible exact zo bX aM ((Nat.ne_of_lt (Nat.lt_succ_self _)).symm) g1 g2 (.inr bF) (.inr bE) (.inl bQ) (.inl bi) gb aW aG)
   | (with_reducible exact zy aE g1 g2 (.inl bn) (.inl bh) gb aF)
   | (with_reducible exact (zy aE g2 g1 (.inl bh) (.inl bn) gb aF).symm)
   | (with_reducible exact zy bv g1 g2 (.inl bR) (.inl bP) gb aV)
   | (with_reducible exact (zy bv g2 g1 (.inl bP) (.inl bR) gb aV).symm)
   | (with_reducible exact zy aM g1 g2 (.inr bE) (.inl bi) gb aG)
   | (with_reducible exact (zy aM g2 g1 (.inl bi) (.inr bE) gb aG).symm)
   | (with_reducible exact zy bX g1 g2 (.inr bF) (.inl bQ) gb aW)
   | (with_reducible exact (zy bX g2 g1 (.inl bQ) (.inr bF) gb aW).symm)
   | (with_reducible exact zcc g1 g2 gb)
   | (with_reducible exact (zcc g2 g1 gb).symm)
 case rest =>
 obtain ⟨⟨B5,ng1,a1_,n1_,c1_,p1_,m1_,k1_,lo5,hi5,rfl,hB5,T5,g1,hc5⟩,⟨B6,ng2,a2_,n2_,c2_,p2_,m2_,k2_,lo6,hi6,rfl,hB6,T6,g2,hc6⟩⟩:=hcut
 clear ac ag ae ah af ai ak ap al aq au aA aH aK aI aL be bf
 have gb:=hc5
 obtain ⟨ac,ae,af,ak,al,au,aH,aI,be⟩:=am.out _ gb
 obtain ⟨ag,ah,ai,ap,aq,aA,aK,aL,bf⟩:=cw.out _ gb
 obtain ⟨z0,z1,z2⟩:=cy.out _ gb
 have z5:=T5.lt
 obtain ⟨bk,bl,bm,bo,bq,bw⟩:=T5
 have z6:=T6.lt
 obtain ⟨b6,b7,b8,ce,cf,ci⟩:=T6
 clear hgb
 obtain ⟨W1,aO⟩:∃ W,wc=W:=⟨_,rfl⟩
 subst aO
 replace i0:=i0.to gb
 replace i1:=i1.to gb
 replace zb:=bS zb gb
 have HXwc:=Lib.hid (show ∀ W',Below wc.heap.size wc W'->(Bx3 W' w.heap.size (.bool b) (.slice a0 n0 c0) (.slice a1 n1 c1)/\Bx3 W' (w.heap.size+1) (.bool c) (.slice a2 n2 c2) (.slice a3 n3 c3)/\Bx3 W' (w.heap.size+1+1) (.bool false) (.slice none 0 0) (.slice none 0 0)/\Bx3 W' B5 (.bool ng1) (.slice a1_ n1_ c1_) (.slice p1_ m1_ k1_)/\Bx3 W' B6 (.bool ng2) (.slice a2_ n2_ c2_) (.slice p2_ m2_ k2_)) from fun W' hb => by
   refine ⟨bx3 hb ?_ ?_ ?_ ?_ ?_ ?_,bx3 hb ?_ ?_ ?_ ?_ ?_ ?_,bx3 hb ?_ ?_ ?_ ?_ ?_ ?_,bx3 hb ?_ ?_ ?_ ?_ ?_ ?_,bx3 hb ?_ ?_ ?_ ?_ ?_ ?_⟩
   all_goals first|assumption|assumption)
 replace gb:=Below.refl wc.heap.size wc
 go_wp2_with fail
 have nz0:w.heap.size≠w.heap.size+1+1:=by omega
 have nz1:w.heap.size+1≠w.heap.size+1+1:=by omega
 have nz5:B5≠w.heap.size+1+1:=by omega
 have nz6:B6≠w.heap.size+1+1:=by omega
 go_region_held3 (fun W' => W'.cell? ⟨w.heap.size,0,none⟩=some (.bool b)/\W'.cell? ⟨w.heap.size,1,none⟩=some (.slice a0 n0 c0)/\W'.cell? ⟨w.heap.size,2,none⟩=some (.slice a1 n1 c1)/\W'.cell? ⟨w.heap.size+1,0,none⟩=some (.bool c)/\W'.cell? ⟨w.heap.size+1,1,none⟩=some (.slice a2 n2 c2)/\W'.cell? ⟨w.heap.size+1,2,none⟩=some (.slice a3 n3 c3)/\W'.cell? ⟨B5,0,none⟩=some (.bool ng1)/\W'.cell? ⟨B5,1,none⟩=some (.slice a1_ n1_ c1_)/\W'.cell? ⟨B5,2,none⟩=some (.slice p1_ m1_ k1_)/\W'.cell? ⟨B6,0,none⟩=some (.bool ng2)/\W'.cell? ⟨B6,1,none⟩=some (.slice a2_ n2_ c2_)/\W'.cell? ⟨B6,2,none⟩=some (.slice p2_ m2_ k2_)) (first|(with_reducible exact ⟨ac,ae,af,ak,al,au,bk,bl,bm,b6,b7,b8⟩)|(with_reducible exact ⟨cP (cP (cP (ac) (.inl nz0) _) (.inl nz0) _) (.inl nz0) _,cP (cP (cP (ae) (.inl nz0) _) (.inl nz0) _) (.inl nz0) _,cP (cP (cP (af) (.inl nz0) _) (.inl nz0) _) (.inl nz0) _,cP (cP (cP (ak) (.inl nz1) _) (.inl nz1) _) (.inl nz1) _,cP (cP (cP (al) (.inl nz1) _) (.inl nz1) _) (.inl nz1) _,cP (cP (cP (au) (.inl nz1) _) (.inl nz1) _) (.inl nz1) _,cP (cP (cP (bk) (.inl nz5) _) (.inl nz5) _) (.inl nz5) _,cP (cP (cP (bl) (.inl nz5) _) (.inl nz5) _) (.inl nz5) _,cP (cP (cP (bm) (.inl nz5) _) (.inl nz5) _) (.inl nz5) _,cP (cP (cP (b6) (.inl nz6) _) (.inl nz6) _) (.inl nz6) _,cP (cP (cP (b7) (.inl nz6) _) (.inl nz6) _) (.inl nz6) _,cP (cP (cP (b8) (.inl nz6) _) (.inl nz6) _) (.inl nz6) _⟩)|exact ⟨ac,ae,af,ak,al,au,bk,bl,bm,b6,b7,b8⟩) (first
  | (go_at_call 148;(with_reducible refine (zjH ng13 ng16 _ _ _ _ _ g13.isI.up g16.isI.up S5.out S6.out HZ.out q (H9.out ng13 ng16 g13.ng g16.ng) hs).mono ?_);rintro e w17 ⟨ng17,a17_,n17_,c17_,p17_,m17_,k17_,rfl,g17,dm⟩;have g13:=g13.to dm;have g16:=g16.to dm;have gb:=bS gb dm;obtain ⟨⟨z0,ac,ae,af,ag,ah,ai⟩,⟨z1,ak,al,au,ap,aq,aA⟩,⟨z2,aH,aI,be,aK,aL,bf⟩,⟨z5,bk,bl,bm,bo,bq,bw⟩,⟨z6,b6,b7,b8,ce,cf,ci⟩⟩:=HXwc.out _ gb)
  | (go_at_call 144;(with_reducible refine (zgP _ (g1.to gb).below (g2.to gb).above ((x.den:Int)*y.num) rfl S2).mono ?_);rintro e w16 ⟨ng16,a16_,n16_,c16_,rfl,g16,el⟩;have g13:=g13.to el;have gb:=bS gb el;obtain ⟨⟨z0,ac,ae,af,ag,ah,ai⟩,⟨z1,ak,al,au,ap,aq,aA⟩,⟨z2,aH,aI,be,aK,aL,bf⟩,⟨z5,bk,bl,bm,bo,bq,bw⟩,⟨z6,b6,b7,b8,ce,cf,ci⟩⟩:=HXwc.out _ gb)
  | (go_at_call 145;(with_reducible refine (zbi _ _ _ _ _ _ (g2.to gb).isQ).mono ?_);rintro e w15 ⟨rfl,dk⟩;have g13:=g13.to dk;have gb:=bS gb dk;obtain ⟨⟨z0,ac,ae,af,ag,ah,ai⟩,⟨z1,ak,al,au,ap,aq,aA⟩,⟨z2,aH,aI,be,aK,aL,bf⟩,⟨z5,bk,bl,bm,bo,bq,bw⟩,⟨z6,b6,b7,b8,ce,cf,ci⟩⟩:=HXwc.out _ gb)
  | (go_at_call 146;(with_reducible refine (zbj _ _ _ _ _ _ (g1.to gb).isQ).mono ?_);rintro e w14 ⟨rfl,du⟩;have g13:=g13.to du;have gb:=bS gb du;obtain ⟨⟨z0,ac,ae,af,ag,ah,ai⟩,⟨z1,ak,al,au,ap,aq,aA⟩,⟨z2,aH,aI,be,aK,aL,bf⟩,⟨z5,bk,bl,bm,bo,bq,bw⟩,⟨z6,b6,b7,b8,ce,cf,ci⟩⟩:=HXwc.out _ gb)
  | (go_at_call 144;(with_reducible refine (zgP _ (g1.to gb).above (g2.to gb).below (x.num*(y.den:Int)) rfl S1).mono ?_);rintro e w13 ⟨ng13,a13_,n13_,c13_,rfl,g13,ed⟩;have gb:=bS gb ed;obtain ⟨⟨z0,ac,ae,af,ag,ah,ai⟩,⟨z1,ak,al,au,ap,aq,aA⟩,⟨z2,aH,aI,be,aK,aL,bf⟩,⟨z5,bk,bl,bm,bo,bq,bw⟩,⟨z6,b6,b7,b8,ce,cf,ci⟩⟩:=HXwc.out _ gb)
  | (go_at_call 146;(with_reducible refine (zbj _ _ _ _ _ _ (g2.to gb).isQ).mono ?_);rintro e w12 ⟨rfl,dl⟩;have gb:=bS gb dl;obtain ⟨⟨z0,ac,ae,af,ag,ah,ai⟩,⟨z1,ak,al,au,ap,aq,aA⟩,⟨z2,aH,aI,be,aK,aL,bf⟩,⟨z5,bk,bl,bm,bo,bq,bw⟩,⟨z6,b6,b7,b8,ce,cf,ci⟩⟩:=HXwc.out _ gb)
  | (go_at_call 145;have gb:=gb.drew;(with_reducible refine (zbi _ _ _ _ _ _ (g1.to gb).isQ).mono ?_);rintro e w11 ⟨rfl,fs⟩;have gb:=bS gb fs;obtain ⟨⟨z0,ac,ae,af,ag,ah,ai⟩,⟨z1,ak,al,au,ap,aq,aA⟩,⟨z2,aH,aI,be,aK,aL,bf⟩,⟨z5,bk,bl,bm,bo,bq,bw⟩,⟨z6,b6,b7,b8,ce,cf,ci⟩⟩:=HXwc.out _ gb))
 go_wp2_with fail
 refine bodyPost_ret (zi Tryz.results120 _ _ _ _ _ _ rfl (Tri.set (x0:=.bool false) (y0:=.slice none 0 0) (z0:=.slice none 0 0) ⟨aH,aI,be,aK,aL,bf⟩ _ _ _)) rfl (zae (bS zb gb) (by omega) ?_ g17)
 omega

end Go.Proofs.YtkjcdnlpjldhaaaGreat


namespace Go.Proofs.YtkjcdnlpjldhaaaGreat
open Go.RowKit Tw
attribute [local go_sem ↓] Go.wp_at_zero Go.wp_at_succ

theorem finC {w w2:World} {lo hi rb:Nat} {ng:Bool} {a:Option Addr} {n c:Nat} {z:Int} (hb:Below w.heap.size w w2) (hrb:w.heap.size<=rb) (hlo:rb<lo) (hv:zcu lo hi w2 ng (.slice a n c) z) :
  zcN w z (.returned (aggI ng (.slice a n c))) (zeK w2 rb (.bool ng) (.slice a n c)):=by
 have h:=hv.set (.inl hlo) (.bool ng) (.slice a n c)
 have h1:=h.1.mono (show w.heap.size<=lo by omega)
 exact ⟨ng,a,n,c,rfl,⟨h1,h.2.1,h.2.2.1,fun k e => (h1.lt k e).2⟩,bD hb hrb _ _⟩

section

variable {b c:Bool} {va vb:Value} {la lb:List Nat} {x y:Int}

theorem radd_c (w:World) (g0:IsI w b va la x) (g1:IsI w c vb lb y) (z:Int) (hz:x+y=z) (hs:Hid (szi z<=90000)) :
  Calls Tryz.prog 99 #[aggI b va,aggI c vb] w (zcN w z) :=
 (ref7_add b c va vb la lb w g0.1 g1.1 (Nat.le_trans g0.2.2 (by omega)) (Nat.le_trans g1.2.2 (by omega))).mono fun e w' h => zeB (by rw [g0.2.1,g1.2.1,hz]) hs h

theorem rmul_c (w:World) (g0:IsI w b va la x) (g1:IsI w c vb lb y) (z:Int) (hz:x*y=z) (hs:Hid (szi z<=90000)) :
  Calls Tryz.prog 127 #[aggI b va,aggI c vb] w (zcN w z) :=
 (ref7_mul b c va vb la lb w g0.1 g1.1 (Nat.le_trans g0.2.2 (by omega)) (Nat.le_trans g1.2.2 (by omega))).mono fun e w' h => zeB (by rw [g0.2.1,g1.2.1,hz]) hs h

end

theorem zgG {x y:Rat} {lo hi lo' hi':Nat} (b:Bool) (v u:Value) (c:Bool) (v' u':Value) (w:World) (h:zP lo hi w b v u x) (h':zP lo' hi' w c v' u' y) (z:Int) (hz:x.num*(y.den:Int)=z) (hs:Hid (szi z<=90000)) :
  Calls Tryz.prog 100 #[aggR b v u,aggR c v' u'] w (zcN w z):=by
 have HZ:=Lib.hid hz
 clear hz
 obtain ⟨a0,n0,c0,rfl,H0,hm0⟩:=h.1.rd.open
 obtain ⟨a1,n1,c1,rfl,H1,hm1⟩:=h.2.1.rd.open
 obtain ⟨a2,n2,c2,rfl,H2,hm2⟩:=h'.1.rd.open
 obtain ⟨a3,n3,c3,rfl,H3,hm3⟩:=h'.2.1.rd.open
 go_enter Tryz.func100,Tryz.ntmps100
 go_wp2_with fail
 obtain ⟨W0,az⟩:∃ W0,((w.alloc (.cells #[.bool b,.slice a0 n0 c0,.slice a1 n1 c1] 47)).alloc (.cells #[.bool c,.slice a2 n2 c2,.slice a3 n3 c3] 47)).alloc (.cells #[.bool false,.slice none 0 0] 95)=W0:=⟨_,rfl⟩
 have am:=Lib.hid (show ∀ W',Below W0.heap.size W0 W'->(Bx3 W' w.heap.size (.bool b) (.slice a0 n0 c0) (.slice a1 n1 c1)/\Bx3 W' (w.heap.size+1) (.bool c) (.slice a2 n2 c2) (.slice a3 n3 c3)/\Bx2 W' (w.heap.size+1+1) (.bool false) (.slice none 0 0)) from fun W' hb => by
   refine ⟨bx3 hb ?_ ?_ ?_ ?_ ?_ ?_,bx3 hb ?_ ?_ ?_ ?_ ?_ ?_,bx2 hb ?_ ?_ ?_ ?_⟩
   all_goals first|assumption|(rw [<- az];simp [go_sem]))
 have zb:Below w.heap.size w W0:=by rw [<- az];exact bS (bS (bN _ _) (bN _ _)) (bN _ _)
 rw [az]
 clear az
 have i0:=h.to zb
 have i1:=h'.to zb
 have gb:Below W0.heap.size W0 W0:=Below.refl _ _
 obtain ⟨⟨z0,ac,ae,af,ag,ah,ai⟩,⟨z1,ak,al,au,ap,aq,aA⟩,⟨z2,aH,aI,aK,aL⟩⟩:=am.out _ gb
 refine (rmul_c _ (i0.to gb).above (i1.to gb).below z HZ.out hs).mono ?_
 clear ac ag ae ah af ai ak ap al aq au aA aH aK aI aL
 rintro e w1 ⟨ng1,a1_,n1_,c1_,rfl,g1,bd⟩
 replace gb:=bS gb bd
 obtain ⟨⟨z0,ac,ae,af,ag,ah,ai⟩,⟨z1,ak,al,au,ap,aq,aA⟩,⟨z2,aH,aI,aK,aL⟩⟩:=am.out _ gb
 go_wp2_with fail
 refine bodyPost_ret (zE Tryz.results100 _ _ _ _ _ rfl (Duo.set (x0:=.bool false) (y0:=.slice none 0 0) ⟨aH,aI,aK,aL⟩ _ _).1 (Duo.set (x0:=.bool false) (y0:=.slice none 0 0) ⟨aH,aI,aK,aL⟩ _ _).2.1) rfl (finC (bS zb gb) (by omega) ?_ g1)
 omega

theorem zgc {x y:Rat} (b:Bool) (v u:Value) (ln ld:List Nat) (c:Bool) (v' u':Value) (ln' ld':List Nat) (w:World) (h:IsQ w b v u ln ld x) (h':IsQ w c v' u' ln' ld' y) (q:Rat) (hq:x+y=q) (hs:Hid (szq q<=1000)) :
  Calls Tryz.prog 68 #[aggR b v u,aggR c v' u'] w (zL w q):=by
 have Hx:Hid (szq x<=1000):=zG h
 have Hy:Hid (szq y<=1000):=zG h'
 have S1:=Lib.hid (show szi (x.num*(y.den:Int))<=90000 from zco Hx.out Hy.out)
 have S2:=Lib.hid (show szi (y.num*(x.den:Int))<=90000 from zco Hy.out Hx.out)
 have S3:=Lib.hid (show szi (x.num*(y.den:Int)+y.num*(x.den:Int))<=2001 from sum_sz Hx.out Hy.out)
 have S4:=Lib.hid (show szi (x.num*(y.den:Int)+y.num*(x.den:Int))<=90000 from Nat.le_trans S3.out (by omega))
 have K2:=Lib.hid (show (zc (val (zc x.den)*val (zc y.den))).length<=3000 from den_sz Hx.out Hy.out)
 have H9:=Lib.hid (show ∀ ng,decide (x.num*(y.den:Int)+y.num*(x.den:Int)<0)=ng->rat ng (val (zc (x.num*(y.den:Int)+y.num*(x.den:Int)).natAbs)) (val (zc (val (zc x.den)*val (zc y.den))))=q from fun ng e => by
  rw [<- e,vL,vL,vL,vL,<- zdo,<- Rat.add_def',hq])
 obtain ⟨a0,n0,c0,rfl,H0,hm0⟩:=h.1.open
 obtain ⟨a1,n1,c1,rfl,H1,hm1⟩:=h.2.1.open
 obtain ⟨a2,n2,c2,rfl,H2,hm2⟩:=h'.1.open
 obtain ⟨a3,n3,c3,rfl,H3,hm3⟩:=h'.2.1.open
 clear hq
 go_enter Tryz.func68,Tryz.ntmps68
 go_wp2_with fail
 obtain ⟨W0,az⟩:∃ W0,((w.alloc (.cells #[.bool b,.slice a0 n0 c0,.slice a1 n1 c1] 47)).alloc (.cells #[.bool c,.slice a2 n2 c2,.slice a3 n3 c3] 47)).alloc (.cells #[.bool false,.slice none 0 0,.slice none 0 0] 47)=W0:=⟨_,rfl⟩
 have am:=Lib.hid (show ∀ W',Below W0.heap.size W0 W'->(Bx3 W' w.heap.size (.bool b) (.slice a0 n0 c0) (.slice a1 n1 c1)/\Bx3 W' (w.heap.size+1) (.bool c) (.slice a2 n2 c2) (.slice a3 n3 c3)/\Bx3 W' (w.heap.size+1+1) (.bool false) (.slice none 0 0) (.slice none 0 0)) from fun W' hb => by
   refine ⟨bx3 hb ?_ ?_ ?_ ?_ ?_ ?_,bx3 hb ?_ ?_ ?_ ?_ ?_ ?_,bx3 hb ?_ ?_ ?_ ?_ ?_ ?_⟩
   all_goals first|assumption|(rw [<- az];simp [go_sem]))
 have zb:Below w.heap.size w W0:=by rw [<- az];exact bS (bS (bN _ _) (bN _ _)) (bN _ _)
 rw [az]
 clear az
 have i0:=h.to zb
 have i1:=h'.to zb
 have gb:Below W0.heap.size W0 W0:=Below.refl _ _
 obtain ⟨⟨z0,ac,ae,af,ag,ah,ai⟩,⟨z1,ak,al,au,ap,aq,aA⟩,⟨z2,aH,aI,be,aK,aL,bf⟩⟩:=am.out _ gb
 refine (zas b _ _ ln ld _ (i0.to gb) x rfl Hx).mono ?_
 clear ac ag ae ah af ai ak ap al aq au aA aH aK aI aL be bf
 rintro e w1 ⟨ng1,a1_,n1_,c1_,p1_,m1_,k1_,rfl,g1,bd⟩
 replace gb:=bS gb bd
 obtain ⟨⟨z0,ac,ae,af,ag,ah,ai⟩,⟨z1,ak,al,au,ap,aq,aA⟩,⟨z2,aH,aI,be,aK,aL,bf⟩⟩:=am.out _ gb
 go_wp2_with fail
 obtain ⟨W1,aO⟩:∃ W1,w1.alloc (.cells #[.bool ng1,.slice a1_ n1_ c1_,.slice p1_ m1_ k1_] 47)=W1:=⟨_,rfl⟩
 have hb_W1:Below w1.heap.size w1 W1:=by rw [<- aO];exact bN _ _
 have cu:Hid (W1.heap.size=w1.heap.size+1):=by show _=_;rw [<- aO];simp
 clear ac ag ae ah af ai ak ap al aq au aA aH aK aI aL be bf
 replace g1:=g1.to hb_W1
 replace gb:=bS gb hb_W1
 obtain ⟨⟨z0,ac,ae,af,ag,ah,ai⟩,⟨z1,ak,al,au,ap,aq,aA⟩,⟨z2,aH,aI,be,aK,aL,bf⟩⟩:=am.out _ gb
 have bk:W1.cell? ⟨w1.heap.size,0,none⟩=some (.bool ng1):=by rw [<- aO];simp [go_sem]
 have bo:W1.frozen? ⟨w1.heap.size,0,none⟩=false:=by rw [<- aO];simp [go_sem]
 have bl:W1.cell? ⟨w1.heap.size,1,none⟩=some (.slice a1_ n1_ c1_):=by rw [<- aO];simp [go_sem]
 have bq:W1.frozen? ⟨w1.heap.size,1,none⟩=false:=by rw [<- aO];simp [go_sem]
 have bm:W1.cell? ⟨w1.heap.size,2,none⟩=some (.slice p1_ m1_ k1_):=by rw [<- aO];simp [go_sem]
 have bw:W1.frozen? ⟨w1.heap.size,2,none⟩=false:=by rw [<- aO];simp [go_sem]
 have z5:w1.heap.size<W1.heap.size:=by rw [<- aO];simp
 rw [aO]
 clear aO
 replace i0:=i0.to gb
 replace i1:=i1.to gb
 replace zb:=bS zb gb
 have bU:=Lib.hid (show ∀ W',Below W1.heap.size W1 W'->(Bx3 W' w.heap.size (.bool b) (.slice a0 n0 c0) (.slice a1 n1 c1)/\Bx3 W' (w.heap.size+1) (.bool c) (.slice a2 n2 c2) (.slice a3 n3 c3)/\Bx3 W' (w.heap.size+1+1) (.bool false) (.slice none 0 0) (.slice none 0 0)/\Bx3 W' w1.heap.size (.bool ng1) (.slice a1_ n1_ c1_) (.slice p1_ m1_ k1_)) from fun W' hb => by
   refine ⟨bx3 hb ?_ ?_ ?_ ?_ ?_ ?_,bx3 hb ?_ ?_ ?_ ?_ ?_ ?_,bx3 hb ?_ ?_ ?_ ?_ ?_ ?_,bx3 hb ?_ ?_ ?_ ?_ ?_ ?_⟩
   all_goals first|assumption|assumption)
 replace gb:=Below.refl W1.heap.size W1
 go_wp2_with fail
 refine (zas c _ _ ln' ld' _ (i1.to gb) y rfl Hy).mono ?_
 clear ac ag ae ah af ai ak ap al aq au aA aH aK aI aL be bf bk bo bl bq bm bw
 rintro e w2 ⟨ng2,a2_,n2_,c2_,p2_,m2_,k2_,rfl,g2,aN⟩
 replace gb:=bS gb aN
 obtain ⟨⟨z0,ac,ae,af,ag,ah,ai⟩,⟨z1,ak,al,au,ap,aq,aA⟩,⟨z2,aH,aI,be,aK,aL,bf⟩,⟨z5,bk,bl,bm,bo,bq,bw⟩⟩:=bU.out _ gb
 go_wp2_with fail
 obtain ⟨W2,cO⟩:∃ W2,w2.alloc (.cells #[.bool ng2,.slice a2_ n2_ c2_,.slice p2_ m2_ k2_] 47)=W2:=⟨_,rfl⟩
 have hb_W2:Below w2.heap.size w2 W2:=by rw [<- cO];exact bN _ _
 have hs_W2:Hid (W2.heap.size=w2.heap.size+1):=by show _=_;rw [<- cO];simp
 clear ac ag ae ah af ai ak ap al aq au aA aH aK aI aL be bf bk bo bl bq bm bw
 replace g2:=g2.to hb_W2
 replace gb:=bS gb hb_W2
 obtain ⟨⟨z0,ac,ae,af,ag,ah,ai⟩,⟨z1,ak,al,au,ap,aq,aA⟩,⟨z2,aH,aI,be,aK,aL,bf⟩,⟨z5,bk,bl,bm,bo,bq,bw⟩⟩:=bU.out _ gb
 have b6:W2.cell? ⟨w2.heap.size,0,none⟩=some (.bool ng2):=by rw [<- cO];simp [go_sem]
 have ce:W2.frozen? ⟨w2.heap.size,0,none⟩=false:=by rw [<- cO];simp [go_sem]
 have b7:W2.cell? ⟨w2.heap.size,1,none⟩=some (.slice a2_ n2_ c2_):=by rw [<- cO];simp [go_sem]
 have cf:W2.frozen? ⟨w2.heap.size,1,none⟩=false:=by rw [<- cO];simp [go_sem]
 have b8:W2.cell? ⟨w2.heap.size,2,none⟩=some (.slice p2_ m2_ k2_):=by rw [<- cO];simp [go_sem]
 have ci:W2.frozen? ⟨w2.heap.size,2,none⟩=false:=by rw [<- cO];simp [go_sem]
 have z6:w2.heap.size<W2.heap.size:=by rw [<- cO];simp
 rw [cO]
 clear cO
 replace i0:=i0.to gb
 replace i1:=i1.to gb
 replace g1:=g1.to gb
 replace zb:=bS zb gb
 have ft:=Lib.hid (show ∀ W',Below W2.heap.size W2 W'->(Bx3 W' w.heap.size (.bool b) (.slice a0 n0 c0) (.slice a1 n1 c1)/\Bx3 W' (w.heap.size+1) (.bool c) (.slice a2 n2 c2) (.slice a3 n3 c3)/\Bx3 W' (w.heap.size+1+1) (.bool false) (.slice none 0 0) (.slice none 0 0)/\Bx3 W' w1.heap.size (.bool ng1) (.slice a1_ n1_ c1_) (.slice p1_ m1_ k1_)/\Bx3 W' w2.heap.size (.bool ng2) (.slice a2_ n2_ c2_) (.slice p2_ m2_ k2_)) from fun W' hb => by
   refine ⟨bx3 hb ?_ ?_ ?_ ?_ ?_ ?_,bx3 hb ?_ ?_ ?_ ?_ ?_ ?_,bx3 hb ?_ ?_ ?_ ?_ ?_ ?_,bx3 hb ?_ ?_ ?_ ?_ ?_ ?_,bx3 hb ?_ ?_ ?_ ?_ ?_ ?_⟩
   all_goals first|assumption|assumption)
 replace gb:=Below.refl W2.heap.size W2
 go_wp2_with fail
 have nz0:w.heap.size≠w.heap.size+1+1:=by omega
 have nz1:w.heap.size+1≠w.heap.size+1+1:=by omega
 have nz5:w1.heap.size≠w.heap.size+1+1:=by omega
 have nz6:w2.heap.size≠w.heap.size+1+1:=by omega
 go_region_held3 (fun W' => W'.cell? ⟨w.heap.size,0,none⟩=some (.bool b)/\W'.cell? ⟨w.heap.size,1,none⟩=some (.slice a0 n0 c0)/\W'.cell? ⟨w.heap.size,2,none⟩=some (.slice a1 n1 c1)/\W'.cell? ⟨w.heap.size+1,0,none⟩=some (.bool c)/\W'.cell? ⟨w.heap.size+1,1,none⟩=some (.slice a2 n2 c2)/\W'.cell? ⟨w.heap.size+1,2,none⟩=some (.slice a3 n3 c3)/\W'.cell? ⟨w1.heap.size,0,none⟩=some (.bool ng1)/\W'.cell? ⟨w1.heap.size,1,none⟩=some (.slice a1_ n1_ c1_)/\W'.cell? ⟨w1.heap.size,2,none⟩=some (.slice p1_ m1_ k1_)/\W'.cell? ⟨w2.heap.size,0,none⟩=some (.bool ng2)/\W'.cell? ⟨w2.heap.size,1,none⟩=some (.slice a2_ n2_ c2_)/\W'.cell? ⟨w2.heap.size,2,none⟩=some (.slice p2_ m2_ k2_)) (first|(with_reducible exact ⟨ac,ae,af,ak,al,au,bk,bl,bm,b6,b7,b8⟩)|(with_reducible exact ⟨cP (cP (cP (ac) (.inl nz0) _) (.inl nz0) _) (.inl nz0) _,cP (cP (cP (ae) (.inl nz0) _) (.inl nz0) _) (.inl nz0) _,cP (cP (cP (af) (.inl nz0) _) (.inl nz0) _) (.inl nz0) _,cP (cP (cP (ak) (.inl nz1) _) (.inl nz1) _) (.inl nz1) _,cP (cP (cP (al) (.inl nz1) _) (.inl nz1) _) (.inl nz1) _,cP (cP (cP (au) (.inl nz1) _) (.inl nz1) _) (.inl nz1) _,cP (cP (cP (bk) (.inl nz5) _) (.inl nz5) _) (.inl nz5) _,cP (cP (cP (bl) (.inl nz5) _) (.inl nz5) _) (.inl nz5) _,cP (cP (cP (bm) (.inl nz5) _) (.inl nz5) _) (.inl nz5) _,cP (cP (cP (b6) (.inl nz6) _) (.inl nz6) _) (.inl nz6) _,cP (cP (cP (b7) (.inl nz6) _) (.inl nz6) _) (.inl nz6) _,cP (cP (cP (b8) (.inl nz6) _) (.inl nz6) _) (.inl nz6) _⟩)|exact ⟨ac,ae,af,ak,al,au,bk,bl,bm,b6,b7,b8⟩) (first
  | (go_at_call 47;(with_reducible refine (zcs ng13 _ _ _ _ _ g13.isI.up g14.rd (Nat.le_trans S3.out (by omega)) K2.out q (H9.out ng13 g13.ng) hs).mono ?_);rintro e w15 ⟨ng15,a15_,n15_,c15_,p15_,m15_,k15_,rfl,g15,dk⟩;have g11:=g11.to dk;have g12:=g12.to dk;have g13:=g13.to dk;have g14:=g14.to dk;have gb:=bS gb dk;obtain ⟨⟨z0,ac,ae,af,ag,ah,ai⟩,⟨z1,ak,al,au,ap,aq,aA⟩,⟨z2,aH,aI,be,aK,aL,bf⟩,⟨z5,bk,bl,bm,bo,bq,bw⟩,⟨z6,b6,b7,b8,ce,cf,ci⟩⟩:=ft.out _ gb)
  | (go_at_call 101;(with_reducible refine (zdJ _ _ _ _ _ (g1.to gb).isQ.dn (g2.to gb).isQ.dn (Nat.le_trans (g1.to gb).isQ.ldn (by omega)) (Nat.le_trans (g2.to gb).isQ.ldn (by omega))).mono ?_);rintro e w14 ⟨v14,rfl,g14,du⟩;obtain ⟨a14_,n14_,c14_,rfl,H14,hm14⟩:=g14.rd.open;have g11:=g11.to du;have g12:=g12.to du;have g13:=g13.to du;have gb:=bS gb du;obtain ⟨⟨z0,ac,ae,af,ag,ah,ai⟩,⟨z1,ak,al,au,ap,aq,aA⟩,⟨z2,aH,aI,be,aK,aL,bf⟩,⟨z5,bk,bl,bm,bo,bq,bw⟩,⟨z6,b6,b7,b8,ce,cf,ci⟩⟩:=ft.out _ gb)
  | (go_at_call 99;(with_reducible refine (radd_c _ g11.isI g12.isI (x.num*(y.den:Int)+y.num*(x.den:Int)) rfl S4).mono ?_);rintro e w13 ⟨ng13,a13_,n13_,c13_,rfl,g13,ed⟩;have g11:=g11.to ed;have g12:=g12.to ed;have gb:=bS gb ed;obtain ⟨⟨z0,ac,ae,af,ag,ah,ai⟩,⟨z1,ak,al,au,ap,aq,aA⟩,⟨z2,aH,aI,be,aK,aL,bf⟩,⟨z5,bk,bl,bm,bo,bq,bw⟩,⟨z6,b6,b7,b8,ce,cf,ci⟩⟩:=ft.out _ gb)
  | (go_at_call 100;(with_reducible refine (zgG _ _ _ _ _ _ _ (g2.to gb) (g1.to gb) (y.num*(x.den:Int)) rfl S2).mono ?_);rintro e w12 ⟨ng12,a12_,n12_,c12_,rfl,g12,dl⟩;have g11:=g11.to dl;have gb:=bS gb dl;obtain ⟨⟨z0,ac,ae,af,ag,ah,ai⟩,⟨z1,ak,al,au,ap,aq,aA⟩,⟨z2,aH,aI,be,aK,aL,bf⟩,⟨z5,bk,bl,bm,bo,bq,bw⟩,⟨z6,b6,b7,b8,ce,cf,ci⟩⟩:=ft.out _ gb)
  | (go_at_call 100;have gb:=gb.drew;(with_reducible refine (zgG _ _ _ _ _ _ _ (g1.to gb) (g2.to gb) (x.num*(y.den:Int)) rfl S1).mono ?_);rintro e w11 ⟨ng11,a11_,n11_,c11_,rfl,g11,fs⟩;have gb:=bS gb fs;obtain ⟨⟨z0,ac,ae,af,ag,ah,ai⟩,⟨z1,ak,al,au,ap,aq,aA⟩,⟨z2,aH,aI,be,aK,aL,bf⟩,⟨z5,bk,bl,bm,bo,bq,bw⟩,⟨z6,b6,b7,b8,ce,cf,ci⟩⟩:=ft.out _ gb))
 go_wp2_with fail
 refine bodyPost_ret (zC Tryz.results68 _ _ _ _ _ _ rfl (Tri.set (x0:=.bool false) (y0:=.slice none 0 0) (z0:=.slice none 0 0) ⟨aH,aI,be,aK,aL,bf⟩ _ _ _)) rfl (zct (bS zb gb) (by omega) ?_ g15)
 omega

theorem ref8_sub {x y:Rat} (b:Bool) (v u:Value) (ln ld:List Nat) (c:Bool) (v' u':Value) (ln' ld':List Nat) (w:World) (h:IsQ w b v u ln ld x) (h':IsQ w c v' u' ln' ld' y) (q:Rat) (hq:x - y=q) (hs:Hid (szq q<=1000)) :
  Calls Tryz.prog 69 #[aggR b v u,aggR c v' u'] w (zL w q):=by
 have H9:=Lib.hid (show x+-y=q by rw [<- Rat.sub_eq_add_neg,hq])
 obtain ⟨a0,n0,c0,rfl,H0,hm0⟩:=h.1.open
 obtain ⟨a1,n1,c1,rfl,H1,hm1⟩:=h.2.1.open
 obtain ⟨a2,n2,c2,rfl,H2,hm2⟩:=h'.1.open
 obtain ⟨a3,n3,c3,rfl,H3,hm3⟩:=h'.2.1.open
 clear hq
 go_enter Tryz.func69,Tryz.ntmps69
 go_wp2_with fail
 obtain ⟨W0,az⟩:∃ W0,((w.alloc (.cells #[.bool b,.slice a0 n0 c0,.slice a1 n1 c1] 47)).alloc (.cells #[.bool c,.slice a2 n2 c2,.slice a3 n3 c3] 47)).alloc (.cells #[.bool false,.slice none 0 0,.slice none 0 0] 47)=W0:=⟨_,rfl⟩
 have am:=Lib.hid (show ∀ W',Below W0.heap.size W0 W'->(Bx3 W' w.heap.size (.bool b) (.slice a0 n0 c0) (.slice a1 n1 c1)/\Bx3 W' (w.heap.size+1) (.bool c) (.slice a2 n2 c2) (.slice a3 n3 c3)/\Bx3 W' (w.heap.size+1+1) (.bool false) (.slice none 0 0) (.slice none 0 0)) from fun W' hb => by
   refine ⟨bx3 hb ?_ ?_ ?_ ?_ ?_ ?_,bx3 hb ?_ ?_ ?_ ?_ ?_ ?_,bx3 hb ?_ ?_ ?_ ?_ ?_ ?_⟩
   all_goals first|assumption|(rw [<- az];simp [go_sem]))
 have zb:Below w.heap.size w W0:=by rw [<- az];exact bS (bS (bN _ _) (bN _ _)) (bN _ _)
 rw [az]
 clear az
 have i0:=h.to zb
 have i1:=h'.to zb
 have gb:Below W0.heap.size W0 W0:=Below.refl _ _
 obtain ⟨⟨z0,ac,ae,af,ag,ah,ai⟩,⟨z1,ak,al,au,ap,aq,aA⟩,⟨z2,aH,aI,be,aK,aL,bf⟩⟩:=am.out _ gb
 have nz0:w.heap.size≠w.heap.size+1+1:=by omega
 have nz1:w.heap.size+1≠w.heap.size+1+1:=by omega
 go_region_held3 (fun W' => W'.cell? ⟨w.heap.size,0,none⟩=some (.bool b)/\W'.cell? ⟨w.heap.size,1,none⟩=some (.slice a0 n0 c0)/\W'.cell? ⟨w.heap.size,2,none⟩=some (.slice a1 n1 c1)/\W'.cell? ⟨w.heap.size+1,0,none⟩=some (.bool c)/\W'.cell? ⟨w.heap.size+1,1,none⟩=some (.slice a2 n2 c2)/\W'.cell? ⟨w.heap.size+1,2,none⟩=some (.slice a3 n3 c3)) (first|(with_reducible exact ⟨ac,ae,af,ak,al,au⟩)|(with_reducible exact ⟨cP (cP (cP (ac) (.inl nz0) _) (.inl nz0) _) (.inl nz0) _,cP (cP (cP (ae) (.inl nz0) _) (.inl nz0) _) (.inl nz0) _,cP (cP (cP (af) (.inl nz0) _) (.inl nz0) _) (.inl nz0) _,cP (cP (cP (ak) (.inl nz1) _) (.inl nz1) _) (.inl nz1) _,cP (cP (cP (al) (.inl nz1) _) (.inl nz1) _) (.inl nz1) _,cP (cP (cP (au) (.inl nz1) _) (.inl nz1) _) (.inl nz1) _⟩)|exact ⟨ac,ae,af,ak,al,au⟩) (first
  | (go_at_call 68;(with_reducible refine (zgc b _ _ ln ld _ _ _ _ _ _ (i0.to gb) g1.isQ q H9.out hs).mono ?_);rintro e w2 ⟨ng2,a2_,n2_,c2_,p2_,m2_,k2_,rfl,g2,aN⟩;have g1:=g1.to aN;have gb:=bS gb aN;obtain ⟨⟨z0,ac,ae,af,ag,ah,ai⟩,⟨z1,ak,al,au,ap,aq,aA⟩,⟨z2,aH,aI,be,aK,aL,bf⟩⟩:=am.out _ gb)
  | (go_at_call 72;have gb:=gb.drew;(with_reducible refine (ziC c _ _ ln' ld' _ (i1.to gb)).mono ?_);rintro e w1 ⟨ng1,a1_,n1_,c1_,p1_,m1_,k1_,rfl,g1,bd⟩;have gb:=bS gb bd;obtain ⟨⟨z0,ac,ae,af,ag,ah,ai⟩,⟨z1,ak,al,au,ap,aq,aA⟩,⟨z2,aH,aI,be,aK,aL,bf⟩⟩:=am.out _ gb))
 go_wp2_with fail
 refine bodyPost_ret (zC Tryz.results69 _ _ _ _ _ _ rfl (Tri.set (x0:=.bool false) (y0:=.slice none 0 0) (z0:=.slice none 0 0) ⟨aH,aI,be,aK,aL,bf⟩ _ _ _)) rfl (zct (bS zb gb) (by omega) ?_ g2)
 omega

end Go.Proofs.YtkjcdnlpjldhaaaGreat

