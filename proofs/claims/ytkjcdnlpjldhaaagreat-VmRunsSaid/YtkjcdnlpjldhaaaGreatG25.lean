/-
  The texts Does2, Does3, Does, merged.
-/
import Derived.Test.YtkjcdnlpjldhaaaGreatG24
import Derived.Deep.RegionHeld3
set_option linter.unusedVariables false
set_option linter.unusedSimpArgs false
set_option maxRecDepth 100000
set_option maxHeartbeats 400000000
namespace Go.Proofs.YtkjcdnlpjldhaaaGreat
open Go.RowKit Tw
attribute [local go_sem ↓] Go.wp_at_zero Go.wp_at_succ

theorem zfd (to xa xb:Int) (ng:Bool) (vn vd:Value) (lw1 lw2:List Nat) (pv:Value) (na:Bool) (va ua:Value) (nb:Bool) (vb ub:Value) (lb kb:List Nat) {x y:Rat}  (w:World) (hw:IsF w vn vd lw1 lw2) (ha:IsQ w na va ua (zc x.num.natAbs) (zc x.den) x) (hb:IsQ w nb vb ub lb kb y) (hxb:-21<=xb/\xb<=21) (h0:x=0) (hsg:xb<0)  :
  Calls Tryz.prog 40 #[.agg #[.int .i64 7,.int .i64 to,.int .i64 xa,.int .i64 xb,.bool ng,vn,vd],pv,aggR na va ua,aggR nb vb ub] w (fun e w' => e=.returned (.tuple #[aggR false (.slice none 0 0) (.slice none 0 0),.int .i64 3])/\Below w.heap.size w w'):=by
 have Hx1:=zG ha
 have tb:decide (xb<0)=true:=decide_eq_true hsg
 have Z0:=Lib.hid (show decide (x=0)=true from decide_eq_true h0)
 clear h0
 obtain ⟨a0,n0,c0,rfl,H0,hm0⟩:=hw.1.open
 obtain ⟨a1,n1,c1,rfl,H1,hm1⟩:=hw.2.open
 obtain ⟨a2,n2,c2,rfl,H2,hm2⟩:=ha.1.open
 obtain ⟨a3,n3,c3,rfl,H3,hm3⟩:=ha.2.1.open
 obtain ⟨a4,n4,c4,rfl,H4,hm4⟩:=hb.1.open
 obtain ⟨a5,n5,c5,rfl,H5,hm5⟩:=hb.2.1.open
 go_enter Tryz.func40,Tryz.ntmps40
 go_upto_region 1 with fail
 obtain ⟨W0,az⟩:∃ W0,(((w.alloc (.cells #[.int .i64 7,.int .i64 to,.int .i64 xa,.int .i64 xb,.bool ng,.slice a0 n0 c0,.slice a1 n1 c1] 49)).alloc (.cells #[.bool na,.slice a2 n2 c2,.slice a3 n3 c3] 47)).alloc (.cells #[.bool nb,.slice a4 n4 c4,.slice a5 n5 c5] 47)).alloc (.cells #[.bool false,.slice none 0 0,.slice none 0 0] 47)=W0:=⟨_,rfl⟩
 have am:=Lib.hid (show ∀ W',Below W0.heap.size W0 W'->(Bx7 W' w.heap.size (.int .i64 7) (.int .i64 to) (.int .i64 xa) (.int .i64 xb) (.bool ng) (.slice a0 n0 c0) (.slice a1 n1 c1)/\Bx3 W' (w.heap.size+1) (.bool na) (.slice a2 n2 c2) (.slice a3 n3 c3)/\Bx3 W' (w.heap.size+1+1) (.bool nb) (.slice a4 n4 c4) (.slice a5 n5 c5)/\Bx3 W' (w.heap.size+1+1+1) (.bool false) (.slice none 0 0) (.slice none 0 0)) from fun W' hb => by
   refine ⟨bx7 hb ?_ ?_ ?_ ?_ ?_ ?_ ?_ ?_ ?_ ?_ ?_ ?_ ?_ ?_,bx3 hb ?_ ?_ ?_ ?_ ?_ ?_,bx3 hb ?_ ?_ ?_ ?_ ?_ ?_,bx3 hb ?_ ?_ ?_ ?_ ?_ ?_⟩
   all_goals first|assumption|(rw [<- az];simp [go_sem]))
 have zb:Below w.heap.size w W0:=by rw [<- az];exact bS (bS (bS (bN _ _) (bN _ _)) (bN _ _)) (bN _ _)
 rw [az]
 clear az
 have i0:=hw.to zb
 have i1:=ha.to zb
 have i2:=hb.to zb
 have gb:Below W0.heap.size W0 W0:=Below.refl _ _
 obtain ⟨⟨z0,ac,ae,af,aw,ay,aP,aQ,ag,ah,ai,aB,aC,a8,bc⟩,⟨z1,ak,al,au,ap,aq,aA⟩,⟨z2,aH,aI,be,aK,aL,bf⟩,⟨z3,bt,bu,bA,bx,bz,bB⟩⟩:=am.out _ gb
 have habs:-xb=(xb.natAbs:Int):=by omega
 have hneg:IntKind.i64.wrap (-xb)=-xb:=IntWalk.i64_in _ (by omega)
 go_wp2_with fail
 refine (zal na _ _ _ _ _ (i1.to gb) true Z0.out).mono ?_
 clear ac ag ae ah af ai aw aB ay aC aP a8 aQ bc ak ap al aq au aA aH aK aI aL be bf bt bx bu bz bA bB
 rintro e w1 ⟨rfl,bd⟩
 replace gb:=bS gb bd
 obtain ⟨⟨z0,ac,ae,af,aw,ay,aP,aQ,ag,ah,ai,aB,aC,a8,bc⟩,⟨z1,ak,al,au,ap,aq,aA⟩,⟨z2,aH,aI,be,aK,aL,bf⟩,⟨z3,bt,bu,bA,bx,bz,bB⟩⟩:=am.out _ gb
 go_wp2_with fail
 exact bodyPost_ret (zi Tryz.results40 _ _ _ _ _ _ rfl (Tri.set (x0:=.bool false) (y0:=.slice none 0 0) (z0:=.slice none 0 0) ⟨bt,bu,bA,bx,bz,bB⟩ _ _ _)) rfl ⟨rfl,bT (bS zb gb) (by omega) _ _ _⟩

theorem zdS (to xa xb:Int) (ng:Bool) (vn vd:Value) (lw1 lw2:List Nat) (pv:Value) (na:Bool) (va ua:Value) (nb:Bool) (vb ub:Value) (lb kb:List Nat) {x y:Rat}  (w:World) (hw:IsF w vn vd lw1 lw2) (ha:IsQ w na va ua (zc x.num.natAbs) (zc x.den) x) (hb:IsQ w nb vb ub lb kb y) (hxb:-21<=xb/\xb<=21) (h0:x≠0) (hl:4096<szq x*xb.natAbs) (hsg:xb<0)  :
  Calls Tryz.prog 40 #[.agg #[.int .i64 7,.int .i64 to,.int .i64 xa,.int .i64 xb,.bool ng,vn,vd],pv,aggR na va ua,aggR nb vb ub] w (fun e w' => e=.returned (.tuple #[aggR false (.slice none 0 0) (.slice none 0 0),.int .i64 4])/\Below w.heap.size w w'):=by
 have Hx1:=zG ha
 have tb:decide (xb<0)=true:=decide_eq_true hsg
 have Z0:=Lib.hid (show decide (x=0)=false from decide_eq_false h0)
 obtain ⟨m,hm9⟩:∃ m:Nat,max (zc x.num.natAbs).length (zc x.den).length=m:=⟨_,rfl⟩
 have HM:=Lib.hid (show ((max (zc x.num.natAbs).length (zc x.den).length:Nat):Int)=(m:Int) by rw [hm9])
 have Hm:=Lib.hid (show szq x=m by rw [zbb rfl rfl,hm9])
 have hm10:m<=1000:=by have:=Hx1.out;have:=Hm.out;omega
 obtain ⟨k,hk⟩:∃ k:Nat,xb.natAbs=k:=⟨_,rfl⟩
 have hk21:k<=21:=by omega
 have hneg:IntKind.i64.wrap (-xb)=-xb:=IntWalk.i64_in _ (by omega)
 have hmk:m*k<=1000*21:=Nat.mul_le_mul hm10 hk21
 obtain ⟨P,hP⟩:∃ P:Nat,m*k=P:=⟨_,rfl⟩
 have hmul:IntKind.i64.wrap ((m:Int)*(k:Int))=(P:Int):=by
  rw [<- Int.natCast_mul,hP]
  exact IntWalk.i64_in _ (by omega)
 rw [hk,Hm.out,hP] at hl
 have t5:decide ((4096:Int)<(P:Int))=true:=decide_eq_true (by omega)
 have t4:decide (4096<P)=true:=decide_eq_true (by omega)
 clear hl hm9 hP hmk
 obtain ⟨a0,n0,c0,rfl,H0,hm0⟩:=hw.1.open
 obtain ⟨a1,n1,c1,rfl,H1,hm1⟩:=hw.2.open
 obtain ⟨a2,n2,c2,rfl,H2,hm2⟩:=ha.1.open
 obtain ⟨a3,n3,c3,rfl,H3,hm3⟩:=ha.2.1.open
 obtain ⟨a4,n4,c4,rfl,H4,hm4⟩:=hb.1.open
 obtain ⟨a5,n5,c5,rfl,H5,hm5⟩:=hb.2.1.open
 go_enter Tryz.func40,Tryz.ntmps40
 go_upto_region 1 with fail
 obtain ⟨W0,az⟩:∃ W0,(((w.alloc (.cells #[.int .i64 7,.int .i64 to,.int .i64 xa,.int .i64 xb,.bool ng,.slice a0 n0 c0,.slice a1 n1 c1] 49)).alloc (.cells #[.bool na,.slice a2 n2 c2,.slice a3 n3 c3] 47)).alloc (.cells #[.bool nb,.slice a4 n4 c4,.slice a5 n5 c5] 47)).alloc (.cells #[.bool false,.slice none 0 0,.slice none 0 0] 47)=W0:=⟨_,rfl⟩
 have am:=Lib.hid (show ∀ W',Below W0.heap.size W0 W'->(Bx7 W' w.heap.size (.int .i64 7) (.int .i64 to) (.int .i64 xa) (.int .i64 xb) (.bool ng) (.slice a0 n0 c0) (.slice a1 n1 c1)/\Bx3 W' (w.heap.size+1) (.bool na) (.slice a2 n2 c2) (.slice a3 n3 c3)/\Bx3 W' (w.heap.size+1+1) (.bool nb) (.slice a4 n4 c4) (.slice a5 n5 c5)/\Bx3 W' (w.heap.size+1+1+1) (.bool false) (.slice none 0 0) (.slice none 0 0)) from fun W' hb => by
   refine ⟨bx7 hb ?_ ?_ ?_ ?_ ?_ ?_ ?_ ?_ ?_ ?_ ?_ ?_ ?_ ?_,bx3 hb ?_ ?_ ?_ ?_ ?_ ?_,bx3 hb ?_ ?_ ?_ ?_ ?_ ?_,bx3 hb ?_ ?_ ?_ ?_ ?_ ?_⟩
   all_goals first|assumption|(rw [<- az];simp [go_sem]))
 have zb:Below w.heap.size w W0:=by rw [<- az];exact bS (bS (bS (bN _ _) (bN _ _)) (bN _ _)) (bN _ _)
 rw [az]
 clear az
 have i0:=hw.to zb
 have i1:=ha.to zb
 have i2:=hb.to zb
 have gb:Below W0.heap.size W0 W0:=Below.refl _ _
 obtain ⟨⟨z0,ac,ae,af,aw,ay,aP,aQ,ag,ah,ai,aB,aC,a8,bc⟩,⟨z1,ak,al,au,ap,aq,aA⟩,⟨z2,aH,aI,be,aK,aL,bf⟩,⟨z3,bt,bu,bA,bx,bz,bB⟩⟩:=am.out _ gb
 have habs:-xb=(k:Int):=by omega
 rw [habs] at hneg
 clear hk
 go_wp2_with fail
 refine (zal na _ _ _ _ _ (i1.to gb) false Z0.out).mono ?_
 clear ac ag ae ah af ai aw aB ay aC aP a8 aQ bc ak ap al aq au aA aH aK aI aL be bf bt bx bu bz bA bB
 rintro e w1 ⟨rfl,bd⟩
 replace gb:=bS gb bd
 obtain ⟨⟨z0,ac,ae,af,aw,ay,aP,aQ,ag,ah,ai,aB,aC,a8,bc⟩,⟨z1,ak,al,au,ap,aq,aA⟩,⟨z2,aH,aI,be,aK,aL,bf⟩,⟨z3,bt,bu,bA,bx,bz,bB⟩⟩:=am.out _ gb
 go_wp2_with fail
 refine (zaK na _ _ _ _ _ (i1.to gb).isF (m:Int) HM.out).mono ?_
 clear ac ag ae ah af ai aw aB ay aC aP a8 aQ bc ak ap al aq au aA aH aK aI aL be bf bt bx bu bz bA bB
 rintro e w2 ⟨rfl,aN⟩
 replace gb:=bS gb aN
 obtain ⟨⟨z0,ac,ae,af,aw,ay,aP,aQ,ag,ah,ai,aB,aC,a8,bc⟩,⟨z1,ak,al,au,ap,aq,aA⟩,⟨z2,aH,aI,be,aK,aL,bf⟩,⟨z3,bt,bu,bA,bx,bz,bB⟩⟩:=am.out _ gb
 go_wp2_with fail
 exact bodyPost_ret (zi Tryz.results40 _ _ _ _ _ _ rfl (Tri.set (x0:=.bool false) (y0:=.slice none 0 0) (z0:=.slice none 0 0) ⟨bt,bu,bA,bx,bz,bB⟩ _ _ _)) rfl ⟨rfl,bT (bS zb gb) (by omega) _ _ _⟩

theorem zdR (to xa xb:Int) (ng:Bool) (vn vd:Value) (lw1 lw2:List Nat) (pv:Value) (na:Bool) (va ua:Value) (nb:Bool) (vb ub:Value) (lb kb:List Nat) {x y:Rat}  (w:World) (hw:IsF w vn vd lw1 lw2) (ha:IsQ w na va ua (zc x.num.natAbs) (zc x.den) x) (hb:IsQ w nb vb ub lb kb y) (hxb:-21<=xb/\xb<=21) (h0:x≠0) (hl:4096<szq x*xb.natAbs) (hsg:¬ xb<0)  :
  Calls Tryz.prog 40 #[.agg #[.int .i64 7,.int .i64 to,.int .i64 xa,.int .i64 xb,.bool ng,vn,vd],pv,aggR na va ua,aggR nb vb ub] w (fun e w' => e=.returned (.tuple #[aggR false (.slice none 0 0) (.slice none 0 0),.int .i64 4])/\Below w.heap.size w w'):=by
 have Hx1:=zG ha
 have tb:decide (xb<0)=false:=decide_eq_false hsg
 have Z0:=Lib.hid (show decide (x=0)=false from decide_eq_false h0)
 obtain ⟨m,hm9⟩:∃ m:Nat,max (zc x.num.natAbs).length (zc x.den).length=m:=⟨_,rfl⟩
 have HM:=Lib.hid (show ((max (zc x.num.natAbs).length (zc x.den).length:Nat):Int)=(m:Int) by rw [hm9])
 have Hm:=Lib.hid (show szq x=m by rw [zbb rfl rfl,hm9])
 have hm10:m<=1000:=by have:=Hx1.out;have:=Hm.out;omega
 obtain ⟨k,hk⟩:∃ k:Nat,xb.natAbs=k:=⟨_,rfl⟩
 have hk21:k<=21:=by omega
 have hneg:IntKind.i64.wrap (-xb)=-xb:=IntWalk.i64_in _ (by omega)
 have hmk:m*k<=1000*21:=Nat.mul_le_mul hm10 hk21
 obtain ⟨P,hP⟩:∃ P:Nat,m*k=P:=⟨_,rfl⟩
 have hmul:IntKind.i64.wrap ((m:Int)*(k:Int))=(P:Int):=by
  rw [<- Int.natCast_mul,hP]
  exact IntWalk.i64_in _ (by omega)
 rw [hk,Hm.out,hP] at hl
 have t5:decide ((4096:Int)<(P:Int))=true:=decide_eq_true (by omega)
 have t4:decide (4096<P)=true:=decide_eq_true (by omega)
 clear hl hm9 hP hmk
 obtain ⟨a0,n0,c0,rfl,H0,hm0⟩:=hw.1.open
 obtain ⟨a1,n1,c1,rfl,H1,hm1⟩:=hw.2.open
 obtain ⟨a2,n2,c2,rfl,H2,hm2⟩:=ha.1.open
 obtain ⟨a3,n3,c3,rfl,H3,hm3⟩:=ha.2.1.open
 obtain ⟨a4,n4,c4,rfl,H4,hm4⟩:=hb.1.open
 obtain ⟨a5,n5,c5,rfl,H5,hm5⟩:=hb.2.1.open
 go_enter Tryz.func40,Tryz.ntmps40
 go_upto_region 1 with fail
 obtain ⟨W0,az⟩:∃ W0,(((w.alloc (.cells #[.int .i64 7,.int .i64 to,.int .i64 xa,.int .i64 xb,.bool ng,.slice a0 n0 c0,.slice a1 n1 c1] 49)).alloc (.cells #[.bool na,.slice a2 n2 c2,.slice a3 n3 c3] 47)).alloc (.cells #[.bool nb,.slice a4 n4 c4,.slice a5 n5 c5] 47)).alloc (.cells #[.bool false,.slice none 0 0,.slice none 0 0] 47)=W0:=⟨_,rfl⟩
 have am:=Lib.hid (show ∀ W',Below W0.heap.size W0 W'->(Bx7 W' w.heap.size (.int .i64 7) (.int .i64 to) (.int .i64 xa) (.int .i64 xb) (.bool ng) (.slice a0 n0 c0) (.slice a1 n1 c1)/\Bx3 W' (w.heap.size+1) (.bool na) (.slice a2 n2 c2) (.slice a3 n3 c3)/\Bx3 W' (w.heap.size+1+1) (.bool nb) (.slice a4 n4 c4) (.slice a5 n5 c5)/\Bx3 W' (w.heap.size+1+1+1) (.bool false) (.slice none 0 0) (.slice none 0 0)) from fun W' hb => by
   refine ⟨bx7 hb ?_ ?_ ?_ ?_ ?_ ?_ ?_ ?_ ?_ ?_ ?_ ?_ ?_ ?_,bx3 hb ?_ ?_ ?_ ?_ ?_ ?_,bx3 hb ?_ ?_ ?_ ?_ ?_ ?_,bx3 hb ?_ ?_ ?_ ?_ ?_ ?_⟩
   all_goals first|assumption|(rw [<- az];simp [go_sem]))
 have zb:Below w.heap.size w W0:=by rw [<- az];exact bS (bS (bS (bN _ _) (bN _ _)) (bN _ _)) (bN _ _)
 rw [az]
 clear az
 have i0:=hw.to zb
 have i1:=ha.to zb
 have i2:=hb.to zb
 have gb:Below W0.heap.size W0 W0:=Below.refl _ _
 obtain ⟨⟨z0,ac,ae,af,aw,ay,aP,aQ,ag,ah,ai,aB,aC,a8,bc⟩,⟨z1,ak,al,au,ap,aq,aA⟩,⟨z2,aH,aI,be,aK,aL,bf⟩,⟨z3,bt,bu,bA,bx,bz,bB⟩⟩:=am.out _ gb
 clear hneg
 have habs:xb=(k:Int):=by omega
 clear hk
 go_wp2_with fail
 refine (zal na _ _ _ _ _ (i1.to gb) false Z0.out).mono ?_
 clear ac ag ae ah af ai aw aB ay aC aP a8 aQ bc ak ap al aq au aA aH aK aI aL be bf bt bx bu bz bA bB
 rintro e w1 ⟨rfl,bd⟩
 replace gb:=bS gb bd
 obtain ⟨⟨z0,ac,ae,af,aw,ay,aP,aQ,ag,ah,ai,aB,aC,a8,bc⟩,⟨z1,ak,al,au,ap,aq,aA⟩,⟨z2,aH,aI,be,aK,aL,bf⟩,⟨z3,bt,bu,bA,bx,bz,bB⟩⟩:=am.out _ gb
 go_wp2_with fail
 refine (zaK na _ _ _ _ _ (i1.to gb).isF (m:Int) HM.out).mono ?_
 clear ac ag ae ah af ai aw aB ay aC aP a8 aQ bc ak ap al aq au aA aH aK aI aL be bf bt bx bu bz bA bB
 rintro e w2 ⟨rfl,aN⟩
 replace gb:=bS gb aN
 obtain ⟨⟨z0,ac,ae,af,aw,ay,aP,aQ,ag,ah,ai,aB,aC,a8,bc⟩,⟨z1,ak,al,au,ap,aq,aA⟩,⟨z2,aH,aI,be,aK,aL,bf⟩,⟨z3,bt,bu,bA,bx,bz,bB⟩⟩:=am.out _ gb
 go_wp2_with fail
 exact bodyPost_ret (zi Tryz.results40 _ _ _ _ _ _ rfl (Tri.set (x0:=.bool false) (y0:=.slice none 0 0) (z0:=.slice none 0 0) ⟨bt,bu,bA,bx,bz,bB⟩ _ _ _)) rfl ⟨rfl,bT (bS zb gb) (by omega) _ _ _⟩

theorem zej (to xa xb:Int) (ng:Bool) (vn vd:Value) (lw1 lw2:List Nat) (pv:Value) (na:Bool) (va ua:Value) (nb:Bool) (vb ub:Value) (lb kb:List Nat) {x y:Rat}  (w:World) (hw:IsF w vn vd lw1 lw2) (ha:IsQ w na va ua (zc x.num.natAbs) (zc x.den) x) (hb:IsQ w nb vb ub lb kb y) (hxb:-21<=xb/\xb<=21) (h0:x=0) (hl:4096<szq x*xb.natAbs) (hsg:¬ xb<0)  :
  Calls Tryz.prog 40 #[.agg #[.int .i64 7,.int .i64 to,.int .i64 xa,.int .i64 xb,.bool ng,vn,vd],pv,aggR na va ua,aggR nb vb ub] w (fun e w' => e=.returned (.tuple #[aggR false (.slice none 0 0) (.slice none 0 0),.int .i64 4])/\Below w.heap.size w w'):=by
 have Hx1:=zG ha
 have tb:decide (xb<0)=false:=decide_eq_false hsg
 have Z0:=Lib.hid (show decide (x=0)=true from decide_eq_true h0)
 obtain ⟨m,hm9⟩:∃ m:Nat,max (zc x.num.natAbs).length (zc x.den).length=m:=⟨_,rfl⟩
 have HM:=Lib.hid (show ((max (zc x.num.natAbs).length (zc x.den).length:Nat):Int)=(m:Int) by rw [hm9])
 have Hm:=Lib.hid (show szq x=m by rw [zbb rfl rfl,hm9])
 have hm10:m<=1000:=by have:=Hx1.out;have:=Hm.out;omega
 obtain ⟨k,hk⟩:∃ k:Nat,xb.natAbs=k:=⟨_,rfl⟩
 have hk21:k<=21:=by omega
 have hneg:IntKind.i64.wrap (-xb)=-xb:=IntWalk.i64_in _ (by omega)
 have hmk:m*k<=1000*21:=Nat.mul_le_mul hm10 hk21
 obtain ⟨P,hP⟩:∃ P:Nat,m*k=P:=⟨_,rfl⟩
 have hmul:IntKind.i64.wrap ((m:Int)*(k:Int))=(P:Int):=by
  rw [<- Int.natCast_mul,hP]
  exact IntWalk.i64_in _ (by omega)
 rw [hk,Hm.out,hP] at hl
 have t5:decide ((4096:Int)<(P:Int))=true:=decide_eq_true (by omega)
 have t4:decide (4096<P)=true:=decide_eq_true (by omega)
 clear hl hm9 hP hmk
 obtain ⟨a0,n0,c0,rfl,H0,hm0⟩:=hw.1.open
 obtain ⟨a1,n1,c1,rfl,H1,hm1⟩:=hw.2.open
 obtain ⟨a2,n2,c2,rfl,H2,hm2⟩:=ha.1.open
 obtain ⟨a3,n3,c3,rfl,H3,hm3⟩:=ha.2.1.open
 obtain ⟨a4,n4,c4,rfl,H4,hm4⟩:=hb.1.open
 obtain ⟨a5,n5,c5,rfl,H5,hm5⟩:=hb.2.1.open
 go_enter Tryz.func40,Tryz.ntmps40
 go_upto_region 1 with fail
 obtain ⟨W0,az⟩:∃ W0,(((w.alloc (.cells #[.int .i64 7,.int .i64 to,.int .i64 xa,.int .i64 xb,.bool ng,.slice a0 n0 c0,.slice a1 n1 c1] 49)).alloc (.cells #[.bool na,.slice a2 n2 c2,.slice a3 n3 c3] 47)).alloc (.cells #[.bool nb,.slice a4 n4 c4,.slice a5 n5 c5] 47)).alloc (.cells #[.bool false,.slice none 0 0,.slice none 0 0] 47)=W0:=⟨_,rfl⟩
 have am:=Lib.hid (show ∀ W',Below W0.heap.size W0 W'->(Bx7 W' w.heap.size (.int .i64 7) (.int .i64 to) (.int .i64 xa) (.int .i64 xb) (.bool ng) (.slice a0 n0 c0) (.slice a1 n1 c1)/\Bx3 W' (w.heap.size+1) (.bool na) (.slice a2 n2 c2) (.slice a3 n3 c3)/\Bx3 W' (w.heap.size+1+1) (.bool nb) (.slice a4 n4 c4) (.slice a5 n5 c5)/\Bx3 W' (w.heap.size+1+1+1) (.bool false) (.slice none 0 0) (.slice none 0 0)) from fun W' hb => by
   refine ⟨bx7 hb ?_ ?_ ?_ ?_ ?_ ?_ ?_ ?_ ?_ ?_ ?_ ?_ ?_ ?_,bx3 hb ?_ ?_ ?_ ?_ ?_ ?_,bx3 hb ?_ ?_ ?_ ?_ ?_ ?_,bx3 hb ?_ ?_ ?_ ?_ ?_ ?_⟩
   all_goals first|assumption|(rw [<- az];simp [go_sem]))
 have zb:Below w.heap.size w W0:=by rw [<- az];exact bS (bS (bS (bN _ _) (bN _ _)) (bN _ _)) (bN _ _)
 rw [az]
 clear az
 have i0:=hw.to zb
 have i1:=ha.to zb
 have i2:=hb.to zb
 have gb:Below W0.heap.size W0 W0:=Below.refl _ _
 obtain ⟨⟨z0,ac,ae,af,aw,ay,aP,aQ,ag,ah,ai,aB,aC,a8,bc⟩,⟨z1,ak,al,au,ap,aq,aA⟩,⟨z2,aH,aI,be,aK,aL,bf⟩,⟨z3,bt,bu,bA,bx,bz,bB⟩⟩:=am.out _ gb
 clear hneg
 have habs:xb=(k:Int):=by omega
 clear hk
 go_wp2_with fail
 refine (zal na _ _ _ _ _ (i1.to gb) true Z0.out).mono ?_
 clear ac ag ae ah af ai aw aB ay aC aP a8 aQ bc ak ap al aq au aA aH aK aI aL be bf bt bx bu bz bA bB
 rintro e w1 ⟨rfl,bd⟩
 replace gb:=bS gb bd
 obtain ⟨⟨z0,ac,ae,af,aw,ay,aP,aQ,ag,ah,ai,aB,aC,a8,bc⟩,⟨z1,ak,al,au,ap,aq,aA⟩,⟨z2,aH,aI,be,aK,aL,bf⟩,⟨z3,bt,bu,bA,bx,bz,bB⟩⟩:=am.out _ gb
 go_wp2_with fail
 refine (zaK na _ _ _ _ _ (i1.to gb).isF (m:Int) HM.out).mono ?_
 clear ac ag ae ah af ai aw aB ay aC aP a8 aQ bc ak ap al aq au aA aH aK aI aL be bf bt bx bu bz bA bB
 rintro e w2 ⟨rfl,aN⟩
 replace gb:=bS gb aN
 obtain ⟨⟨z0,ac,ae,af,aw,ay,aP,aQ,ag,ah,ai,aB,aC,a8,bc⟩,⟨z1,ak,al,au,ap,aq,aA⟩,⟨z2,aH,aI,be,aK,aL,bf⟩,⟨z3,bt,bu,bA,bx,bz,bB⟩⟩:=am.out _ gb
 go_wp2_with fail
 exact bodyPost_ret (zi Tryz.results40 _ _ _ _ _ _ rfl (Tri.set (x0:=.bool false) (y0:=.slice none 0 0) (z0:=.slice none 0 0) ⟨bt,bu,bA,bx,bz,bB⟩ _ _ _)) rfl ⟨rfl,bT (bS zb gb) (by omega) _ _ _⟩

end Go.Proofs.YtkjcdnlpjldhaaaGreat


namespace Go.Proofs.YtkjcdnlpjldhaaaGreat
open Go.RowKit Tw
attribute [local go_sem ↓] Go.wp_at_zero Go.wp_at_succ

theorem zhn (to xa:Int) (k:Nat) (ng:Bool) (vn vd:Value) (lw1 lw2:List Nat) (pv:Value) (na:Bool) (va ua:Value) (nb:Bool) (vb ub:Value) (lb kb:List Nat) {x y:Rat}  (w:World) (hw:IsF w vn vd lw1 lw2) (ha:IsQ w na va ua (zc x.num.natAbs) (zc x.den) x) (hb:IsQ w nb vb ub lb kb y) (hk21:k<=21) (h0:x≠0) (hl:szq x*k<=999)  :
  Calls Tryz.prog 40 #[.agg #[.int .i64 7,.int .i64 to,.int .i64 xa,.int .i64 (k:Int),.bool ng,vn,vd],pv,aggR na va ua,aggR nb vb ub] w (zq w (x ^ k)):=by
 have Hx1:=zG ha
 have Hs9:=Lib.hid hl
 have H00:=Lib.hid h0
 have Z0:=Lib.hid (show decide (x=0)=false from decide_eq_false h0)
 obtain ⟨m,hm9⟩:∃ m:Nat,max (zc x.num.natAbs).length (zc x.den).length=m:=⟨_,rfl⟩
 have HM:=Lib.hid (show ((max (zc x.num.natAbs).length (zc x.den).length:Nat):Int)=(m:Int) by rw [hm9])
 have Hm:=Lib.hid (show szq x=m by rw [zbb rfl rfl,hm9])
 have hm10:m<=1000:=by have:=Hx1.out;have:=Hm.out;omega
 have hmk:m*k<=1000*21:=Nat.mul_le_mul hm10 hk21
 obtain ⟨P,hP⟩:∃ P:Nat,m*k=P:=⟨_,rfl⟩
 have hmul:IntKind.i64.wrap ((m:Int)*(k:Int))=(P:Int):=by
  rw [<- Int.natCast_mul,hP]
  exact IntWalk.i64_in _ (by omega)
 rw [Hm.out,hP] at hl
 have t5:decide ((4096:Int)<(P:Int))=false:=decide_eq_false (by omega)
 have t4:decide (4096<P)=false:=decide_eq_false (by omega)
 clear hl hm9 hP hmk
 have tb:decide ((k:Int)<0)=false:=decide_eq_false (by omega)
 obtain ⟨a0,n0,c0,rfl,H0,hm0⟩:=hw.1.open
 obtain ⟨a1,n1,c1,rfl,H1,hm1⟩:=hw.2.open
 obtain ⟨a2,n2,c2,rfl,H2,hm2⟩:=ha.1.open
 obtain ⟨a3,n3,c3,rfl,H3,hm3⟩:=ha.2.1.open
 obtain ⟨a4,n4,c4,rfl,H4,hm4⟩:=hb.1.open
 obtain ⟨a5,n5,c5,rfl,H5,hm5⟩:=hb.2.1.open
 go_enter Tryz.func40,Tryz.ntmps40
 go_upto_region 1 with fail
 obtain ⟨W0,az⟩:∃ W0,(((w.alloc (.cells #[.int .i64 7,.int .i64 to,.int .i64 xa,.int .i64 (k:Int),.bool ng,.slice a0 n0 c0,.slice a1 n1 c1] 49)).alloc (.cells #[.bool na,.slice a2 n2 c2,.slice a3 n3 c3] 47)).alloc (.cells #[.bool nb,.slice a4 n4 c4,.slice a5 n5 c5] 47)).alloc (.cells #[.bool false,.slice none 0 0,.slice none 0 0] 47)=W0:=⟨_,rfl⟩
 have am:=Lib.hid (show ∀ W',Below W0.heap.size W0 W'->(Bx7 W' w.heap.size (.int .i64 7) (.int .i64 to) (.int .i64 xa) (.int .i64 (k:Int)) (.bool ng) (.slice a0 n0 c0) (.slice a1 n1 c1)/\Bx3 W' (w.heap.size+1) (.bool na) (.slice a2 n2 c2) (.slice a3 n3 c3)/\Bx3 W' (w.heap.size+1+1) (.bool nb) (.slice a4 n4 c4) (.slice a5 n5 c5)/\Bx3 W' (w.heap.size+1+1+1) (.bool false) (.slice none 0 0) (.slice none 0 0)) from fun W' hb => by
   refine ⟨bx7 hb ?_ ?_ ?_ ?_ ?_ ?_ ?_ ?_ ?_ ?_ ?_ ?_ ?_ ?_,bx3 hb ?_ ?_ ?_ ?_ ?_ ?_,bx3 hb ?_ ?_ ?_ ?_ ?_ ?_,bx3 hb ?_ ?_ ?_ ?_ ?_ ?_⟩
   all_goals first|assumption|(rw [<- az];simp [go_sem]))
 have zb:Below w.heap.size w W0:=by rw [<- az];exact bS (bS (bS (bN _ _) (bN _ _)) (bN _ _)) (bN _ _)
 rw [az]
 clear az
 have i0:=hw.to zb
 have i1:=ha.to zb
 have i2:=hb.to zb
 have gb:Below W0.heap.size W0 W0:=Below.refl _ _
 obtain ⟨⟨z0,ac,ae,af,aw,ay,aP,aQ,ag,ah,ai,aB,aC,a8,bc⟩,⟨z1,ak,al,au,ap,aq,aA⟩,⟨z2,aH,aI,be,aK,aL,bf⟩,⟨z3,bt,bu,bA,bx,bz,bB⟩⟩:=am.out _ gb
 go_wp2_with fail
 refine (zal na _ _ _ _ _ (i1.to gb) false Z0.out).mono ?_
 clear ac ag ae ah af ai aw aB ay aC aP a8 aQ bc ak ap al aq au aA aH aK aI aL be bf bt bx bu bz bA bB
 rintro e w1 ⟨rfl,bd⟩
 replace gb:=bS gb bd
 obtain ⟨⟨z0,ac,ae,af,aw,ay,aP,aQ,ag,ah,ai,aB,aC,a8,bc⟩,⟨z1,ak,al,au,ap,aq,aA⟩,⟨z2,aH,aI,be,aK,aL,bf⟩,⟨z3,bt,bu,bA,bx,bz,bB⟩⟩:=am.out _ gb
 go_wp2_with fail
 refine (zaK na _ _ _ _ _ (i1.to gb).isF (m:Int) HM.out).mono ?_
 clear ac ag ae ah af ai aw aB ay aC aP a8 aQ bc ak ap al aq au aA aH aK aI aL be bf bt bx bu bz bA bB
 rintro e w2 ⟨rfl,aN⟩
 replace gb:=bS gb aN
 obtain ⟨⟨z0,ac,ae,af,aw,ay,aP,aQ,ag,ah,ai,aB,aC,a8,bc⟩,⟨z1,ak,al,au,ap,aq,aA⟩,⟨z2,aH,aI,be,aK,aL,bf⟩,⟨z3,bt,bu,bA,bx,bz,bB⟩⟩:=am.out _ gb
 go_wp2_with fail
 have HC9:=ziS na _ _ _ _ (k:Int) _ (i1.to gb) (by omega) (by omega) (by rw [Int.toNat_natCast];exact Hs9.out)
 rw [Int.toNat_natCast] at HC9
 refine (HC9).mono ?_
 clear ac ag ae ah af ai aw aB ay aC aP a8 aQ bc ak ap al aq au aA aH aK aI aL be bf bt bx bu bz bA bB
 rintro e w3 ⟨ng3,a3_,n3_,c3_,p3_,m3_,k3_,rfl,g3,bs⟩
 replace gb:=bS gb bs
 obtain ⟨⟨z0,ac,ae,af,aw,ay,aP,aQ,ag,ah,ai,aB,aC,a8,bc⟩,⟨z1,ak,al,au,ap,aq,aA⟩,⟨z2,aH,aI,be,aK,aL,bf⟩,⟨z3,bt,bu,bA,bx,bz,bB⟩⟩:=am.out _ gb
 go_wp2_with fail
 refine bodyPost_ret (zi Tryz.results40 _ _ _ _ _ _ rfl (Tri.set (x0:=.bool false) (y0:=.slice none 0 0) (z0:=.slice none 0 0) ⟨bt,bu,bA,bx,bz,bB⟩ _ _ _)) rfl (zae (bS zb gb) (by omega) ?_ g3)
 first|omega|(simp;omega)

theorem zhG (to xa:Int) (k:Nat) (ng:Bool) (vn vd:Value) (lw1 lw2:List Nat) (pv:Value) (na:Bool) (va ua:Value) (nb:Bool) (vb ub:Value) (lb kb:List Nat) {x y:Rat}  (w:World) (hw:IsF w vn vd lw1 lw2) (ha:IsQ w na va ua (zc x.num.natAbs) (zc x.den) x) (hb:IsQ w nb vb ub lb kb y) (hk21:k<=21) (h0:x=0) (hl:szq x*k<=999)  :
  Calls Tryz.prog 40 #[.agg #[.int .i64 7,.int .i64 to,.int .i64 xa,.int .i64 (k:Int),.bool ng,vn,vd],pv,aggR na va ua,aggR nb vb ub] w (zq w (x ^ k)):=by
 have Hx1:=zG ha
 have Hs9:=Lib.hid hl
 have H00:=Lib.hid h0
 have Z0:=Lib.hid (show decide (x=0)=true from decide_eq_true h0)
 obtain ⟨m,hm9⟩:∃ m:Nat,max (zc x.num.natAbs).length (zc x.den).length=m:=⟨_,rfl⟩
 have HM:=Lib.hid (show ((max (zc x.num.natAbs).length (zc x.den).length:Nat):Int)=(m:Int) by rw [hm9])
 have Hm:=Lib.hid (show szq x=m by rw [zbb rfl rfl,hm9])
 have hm10:m<=1000:=by have:=Hx1.out;have:=Hm.out;omega
 have hmk:m*k<=1000*21:=Nat.mul_le_mul hm10 hk21
 obtain ⟨P,hP⟩:∃ P:Nat,m*k=P:=⟨_,rfl⟩
 have hmul:IntKind.i64.wrap ((m:Int)*(k:Int))=(P:Int):=by
  rw [<- Int.natCast_mul,hP]
  exact IntWalk.i64_in _ (by omega)
 rw [Hm.out,hP] at hl
 have t5:decide ((4096:Int)<(P:Int))=false:=decide_eq_false (by omega)
 have t4:decide (4096<P)=false:=decide_eq_false (by omega)
 clear hl hm9 hP hmk
 have tb:decide ((k:Int)<0)=false:=decide_eq_false (by omega)
 obtain ⟨a0,n0,c0,rfl,H0,hm0⟩:=hw.1.open
 obtain ⟨a1,n1,c1,rfl,H1,hm1⟩:=hw.2.open
 obtain ⟨a2,n2,c2,rfl,H2,hm2⟩:=ha.1.open
 obtain ⟨a3,n3,c3,rfl,H3,hm3⟩:=ha.2.1.open
 obtain ⟨a4,n4,c4,rfl,H4,hm4⟩:=hb.1.open
 obtain ⟨a5,n5,c5,rfl,H5,hm5⟩:=hb.2.1.open
 go_enter Tryz.func40,Tryz.ntmps40
 go_upto_region 1 with fail
 obtain ⟨W0,az⟩:∃ W0,(((w.alloc (.cells #[.int .i64 7,.int .i64 to,.int .i64 xa,.int .i64 (k:Int),.bool ng,.slice a0 n0 c0,.slice a1 n1 c1] 49)).alloc (.cells #[.bool na,.slice a2 n2 c2,.slice a3 n3 c3] 47)).alloc (.cells #[.bool nb,.slice a4 n4 c4,.slice a5 n5 c5] 47)).alloc (.cells #[.bool false,.slice none 0 0,.slice none 0 0] 47)=W0:=⟨_,rfl⟩
 have am:=Lib.hid (show ∀ W',Below W0.heap.size W0 W'->(Bx7 W' w.heap.size (.int .i64 7) (.int .i64 to) (.int .i64 xa) (.int .i64 (k:Int)) (.bool ng) (.slice a0 n0 c0) (.slice a1 n1 c1)/\Bx3 W' (w.heap.size+1) (.bool na) (.slice a2 n2 c2) (.slice a3 n3 c3)/\Bx3 W' (w.heap.size+1+1) (.bool nb) (.slice a4 n4 c4) (.slice a5 n5 c5)/\Bx3 W' (w.heap.size+1+1+1) (.bool false) (.slice none 0 0) (.slice none 0 0)) from fun W' hb => by
   refine ⟨bx7 hb ?_ ?_ ?_ ?_ ?_ ?_ ?_ ?_ ?_ ?_ ?_ ?_ ?_ ?_,bx3 hb ?_ ?_ ?_ ?_ ?_ ?_,bx3 hb ?_ ?_ ?_ ?_ ?_ ?_,bx3 hb ?_ ?_ ?_ ?_ ?_ ?_⟩
   all_goals first|assumption|(rw [<- az];simp [go_sem]))
 have zb:Below w.heap.size w W0:=by rw [<- az];exact bS (bS (bS (bN _ _) (bN _ _)) (bN _ _)) (bN _ _)
 rw [az]
 clear az
 have i0:=hw.to zb
 have i1:=ha.to zb
 have i2:=hb.to zb
 have gb:Below W0.heap.size W0 W0:=Below.refl _ _
 obtain ⟨⟨z0,ac,ae,af,aw,ay,aP,aQ,ag,ah,ai,aB,aC,a8,bc⟩,⟨z1,ak,al,au,ap,aq,aA⟩,⟨z2,aH,aI,be,aK,aL,bf⟩,⟨z3,bt,bu,bA,bx,bz,bB⟩⟩:=am.out _ gb
 go_wp2_with fail
 refine (zal na _ _ _ _ _ (i1.to gb) true Z0.out).mono ?_
 clear ac ag ae ah af ai aw aB ay aC aP a8 aQ bc ak ap al aq au aA aH aK aI aL be bf bt bx bu bz bA bB
 rintro e w1 ⟨rfl,bd⟩
 replace gb:=bS gb bd
 obtain ⟨⟨z0,ac,ae,af,aw,ay,aP,aQ,ag,ah,ai,aB,aC,a8,bc⟩,⟨z1,ak,al,au,ap,aq,aA⟩,⟨z2,aH,aI,be,aK,aL,bf⟩,⟨z3,bt,bu,bA,bx,bz,bB⟩⟩:=am.out _ gb
 go_wp2_with fail
 refine (zaK na _ _ _ _ _ (i1.to gb).isF (m:Int) HM.out).mono ?_
 clear ac ag ae ah af ai aw aB ay aC aP a8 aQ bc ak ap al aq au aA aH aK aI aL be bf bt bx bu bz bA bB
 rintro e w2 ⟨rfl,aN⟩
 replace gb:=bS gb aN
 obtain ⟨⟨z0,ac,ae,af,aw,ay,aP,aQ,ag,ah,ai,aB,aC,a8,bc⟩,⟨z1,ak,al,au,ap,aq,aA⟩,⟨z2,aH,aI,be,aK,aL,bf⟩,⟨z3,bt,bu,bA,bx,bz,bB⟩⟩:=am.out _ gb
 go_wp2_with fail
 have HC9:=ziS na _ _ _ _ (k:Int) _ (i1.to gb) (by omega) (by omega) (by rw [Int.toNat_natCast];exact Hs9.out)
 rw [Int.toNat_natCast] at HC9
 refine (HC9).mono ?_
 clear ac ag ae ah af ai aw aB ay aC aP a8 aQ bc ak ap al aq au aA aH aK aI aL be bf bt bx bu bz bA bB
 rintro e w3 ⟨ng3,a3_,n3_,c3_,p3_,m3_,k3_,rfl,g3,bs⟩
 replace gb:=bS gb bs
 obtain ⟨⟨z0,ac,ae,af,aw,ay,aP,aQ,ag,ah,ai,aB,aC,a8,bc⟩,⟨z1,ak,al,au,ap,aq,aA⟩,⟨z2,aH,aI,be,aK,aL,bf⟩,⟨z3,bt,bu,bA,bx,bz,bB⟩⟩:=am.out _ gb
 go_wp2_with fail
 refine bodyPost_ret (zi Tryz.results40 _ _ _ _ _ _ rfl (Tri.set (x0:=.bool false) (y0:=.slice none 0 0) (z0:=.slice none 0 0) ⟨bt,bu,bA,bx,bz,bB⟩ _ _ _)) rfl (zae (bS zb gb) (by omega) ?_ g3)
 first|omega|(simp;omega)

theorem zhY (to xa:Int) (k:Nat) (ng:Bool) (vn vd:Value) (lw1 lw2:List Nat) (pv:Value) (na:Bool) (va ua:Value) (nb:Bool) (vb ub:Value) (lb kb:List Nat) {x y:Rat}  (w:World) (hw:IsF w vn vd lw1 lw2) (ha:IsQ w na va ua (zc x.num.natAbs) (zc x.den) x) (hb:IsQ w nb vb ub lb kb y) (hk21:k<=21) (h0:x≠0) (hk1:1<=k) (hl:szq x*k<=999)  :
  Calls Tryz.prog 40 #[.agg #[.int .i64 7,.int .i64 to,.int .i64 xa,.int .i64 (-(k:Int)),.bool ng,vn,vd],pv,aggR na va ua,aggR nb vb ub] w (zq w ((x ^ k)⁻¹)):=by
 have Hx1:=zG ha
 have Hs9:=Lib.hid hl
 have H00:=Lib.hid h0
 have Z0:=Lib.hid (show decide (x=0)=false from decide_eq_false h0)
 obtain ⟨m,hm9⟩:∃ m:Nat,max (zc x.num.natAbs).length (zc x.den).length=m:=⟨_,rfl⟩
 have HM:=Lib.hid (show ((max (zc x.num.natAbs).length (zc x.den).length:Nat):Int)=(m:Int) by rw [hm9])
 have Hm:=Lib.hid (show szq x=m by rw [zbb rfl rfl,hm9])
 have hm10:m<=1000:=by have:=Hx1.out;have:=Hm.out;omega
 have hmk:m*k<=1000*21:=Nat.mul_le_mul hm10 hk21
 obtain ⟨P,hP⟩:∃ P:Nat,m*k=P:=⟨_,rfl⟩
 have hmul:IntKind.i64.wrap ((m:Int)*(k:Int))=(P:Int):=by
  rw [<- Int.natCast_mul,hP]
  exact IntWalk.i64_in _ (by omega)
 rw [Hm.out,hP] at hl
 have t5:decide ((4096:Int)<(P:Int))=false:=decide_eq_false (by omega)
 have t4:decide (4096<P)=false:=decide_eq_false (by omega)
 clear hl hm9 hP hmk
 have tb:decide (-(k:Int)<0)=true:=decide_eq_true (by omega)
 have hneg:IntKind.i64.wrap (- -(k:Int))=(k:Int):=by rw [Int.neg_neg];exact IntWalk.i64_in _ (by omega)
 have hneg2:IntKind.i64.wrap (k:Int)=(k:Int):=IntWalk.i64_in _ (by omega)
 obtain ⟨a0,n0,c0,rfl,H0,hm0⟩:=hw.1.open
 obtain ⟨a1,n1,c1,rfl,H1,hm1⟩:=hw.2.open
 obtain ⟨a2,n2,c2,rfl,H2,hm2⟩:=ha.1.open
 obtain ⟨a3,n3,c3,rfl,H3,hm3⟩:=ha.2.1.open
 obtain ⟨a4,n4,c4,rfl,H4,hm4⟩:=hb.1.open
 obtain ⟨a5,n5,c5,rfl,H5,hm5⟩:=hb.2.1.open
 go_enter Tryz.func40,Tryz.ntmps40
 go_upto_region 1 with fail
 obtain ⟨W0,az⟩:∃ W0,(((w.alloc (.cells #[.int .i64 7,.int .i64 to,.int .i64 xa,.int .i64 (-(k:Int)),.bool ng,.slice a0 n0 c0,.slice a1 n1 c1] 49)).alloc (.cells #[.bool na,.slice a2 n2 c2,.slice a3 n3 c3] 47)).alloc (.cells #[.bool nb,.slice a4 n4 c4,.slice a5 n5 c5] 47)).alloc (.cells #[.bool false,.slice none 0 0,.slice none 0 0] 47)=W0:=⟨_,rfl⟩
 have am:=Lib.hid (show ∀ W',Below W0.heap.size W0 W'->(Bx7 W' w.heap.size (.int .i64 7) (.int .i64 to) (.int .i64 xa) (.int .i64 (-(k:Int))) (.bool ng) (.slice a0 n0 c0) (.slice a1 n1 c1)/\Bx3 W' (w.heap.size+1) (.bool na) (.slice a2 n2 c2) (.slice a3 n3 c3)/\Bx3 W' (w.heap.size+1+1) (.bool nb) (.slice a4 n4 c4) (.slice a5 n5 c5)/\Bx3 W' (w.heap.size+1+1+1) (.bool false) (.slice none 0 0) (.slice none 0 0)) from fun W' hb => by
   refine ⟨bx7 hb ?_ ?_ ?_ ?_ ?_ ?_ ?_ ?_ ?_ ?_ ?_ ?_ ?_ ?_,bx3 hb ?_ ?_ ?_ ?_ ?_ ?_,bx3 hb ?_ ?_ ?_ ?_ ?_ ?_,bx3 hb ?_ ?_ ?_ ?_ ?_ ?_⟩
   all_goals first|assumption|(rw [<- az];simp [go_sem]))
 have zb:Below w.heap.size w W0:=by rw [<- az];exact bS (bS (bS (bN _ _) (bN _ _)) (bN _ _)) (bN _ _)
 rw [az]
 clear az
 have i0:=hw.to zb
 have i1:=ha.to zb
 have i2:=hb.to zb
 have gb:Below W0.heap.size W0 W0:=Below.refl _ _
 obtain ⟨⟨z0,ac,ae,af,aw,ay,aP,aQ,ag,ah,ai,aB,aC,a8,bc⟩,⟨z1,ak,al,au,ap,aq,aA⟩,⟨z2,aH,aI,be,aK,aL,bf⟩,⟨z3,bt,bu,bA,bx,bz,bB⟩⟩:=am.out _ gb
 go_wp2_with fail
 refine (zal na _ _ _ _ _ (i1.to gb) false Z0.out).mono ?_
 clear ac ag ae ah af ai aw aB ay aC aP a8 aQ bc ak ap al aq au aA aH aK aI aL be bf bt bx bu bz bA bB
 rintro e w1 ⟨rfl,bd⟩
 replace gb:=bS gb bd
 obtain ⟨⟨z0,ac,ae,af,aw,ay,aP,aQ,ag,ah,ai,aB,aC,a8,bc⟩,⟨z1,ak,al,au,ap,aq,aA⟩,⟨z2,aH,aI,be,aK,aL,bf⟩,⟨z3,bt,bu,bA,bx,bz,bB⟩⟩:=am.out _ gb
 go_wp2_with fail
 refine (zaK na _ _ _ _ _ (i1.to gb).isF (m:Int) HM.out).mono ?_
 clear ac ag ae ah af ai aw aB ay aC aP a8 aQ bc ak ap al aq au aA aH aK aI aL be bf bt bx bu bz bA bB
 rintro e w2 ⟨rfl,aN⟩
 replace gb:=bS gb aN
 obtain ⟨⟨z0,ac,ae,af,aw,ay,aP,aQ,ag,ah,ai,aB,aC,a8,bc⟩,⟨z1,ak,al,au,ap,aq,aA⟩,⟨z2,aH,aI,be,aK,aL,bf⟩,⟨z3,bt,bu,bA,bx,bz,bB⟩⟩:=am.out _ gb
 go_wp2_with fail
 have HC9:=zhA na _ _ _ _ (-(k:Int)) _ (i1.to gb) (by omega) (by omega) H00.out (by rw [Int.neg_neg,Int.toNat_natCast];exact Hs9.out)
 rw [Int.neg_neg,Int.toNat_natCast] at HC9
 refine (HC9).mono ?_
 clear ac ag ae ah af ai aw aB ay aC aP a8 aQ bc ak ap al aq au aA aH aK aI aL be bf bt bx bu bz bA bB
 rintro e w3 ⟨ng3,a3_,n3_,c3_,p3_,m3_,k3_,rfl,g3,bs⟩
 replace gb:=bS gb bs
 obtain ⟨⟨z0,ac,ae,af,aw,ay,aP,aQ,ag,ah,ai,aB,aC,a8,bc⟩,⟨z1,ak,al,au,ap,aq,aA⟩,⟨z2,aH,aI,be,aK,aL,bf⟩,⟨z3,bt,bu,bA,bx,bz,bB⟩⟩:=am.out _ gb
 go_wp2_with fail
 refine bodyPost_ret (zi Tryz.results40 _ _ _ _ _ _ rfl (Tri.set (x0:=.bool false) (y0:=.slice none 0 0) (z0:=.slice none 0 0) ⟨bt,bu,bA,bx,bz,bB⟩ _ _ _)) rfl (zae (bS zb gb) (by omega) ?_ g3)
 first|omega|(simp;omega)

end Go.Proofs.YtkjcdnlpjldhaaaGreat


namespace Go.Proofs.YtkjcdnlpjldhaaaGreat
open Go.RowKit Tw
attribute [local go_sem ↓] Go.wp_at_zero Go.wp_at_succ

end Go.Proofs.YtkjcdnlpjldhaaaGreat

