/-
  The texts Vm8b, PackRow, PackWire, Point, Vm4, merged.
-/
import Derived.Test.YtkjcdnlpjldhaaaGreatK21
import Derived.Test.YtkjcdnlpjldhaaaGreatK11
import Derived.Deep.RegionHeld3
import Derived.Test.YtkjcdnlpjldhaaaGreatK04
import Derived.Test.YtkjcdnlpjldhaaaGreatK18
import Derived.Deep.AppendLies
set_option linter.unusedVariables false
set_option linter.unusedSimpArgs false
set_option maxRecDepth 100000
set_option maxHeartbeats 400000000
namespace Go.Proofs.YtkjcdnlpjldhaaaGreat
open Go.RowKit Tw
attribute [local go_sem ↓] Go.wp_at_zero Go.wp_at_succ

theorem zfr (mB g N:Nat) (u vJ:Value) (rows cols:Int) (op to xb:Int) (ng:Bool) (vn vd:Value) (lw1 lw2:List Nat) (R1:Nat) (nr1:Bool) (vr1 ur1:Value) {x:Rat}  (w:World) (hw:IsF w vn vd lw1 lw2) (hm:zE w mB g N u vJ rows cols) (hN:N<=100000) (hr1:R1<N) (tr1:zbu w g (R1*3) (.bool nr1) vr1 ur1) (qr1:IsK w nr1 vr1 ur1 x) (hb:-21<=xb/\xb<=21) (h0:x=0) (hn:xb<0)  :
  Calls Tryz.prog 98 #[.pointer (some ⟨mB,0,none⟩),.agg #[.int .i64 op,.int .i64 to,.int .i64 (R1:Int),.int .i64 xb,.bool ng,vn,vd]] w (fun e w' => e=.returned (.tuple #[aggR false (.slice none 0 0) (.slice none 0 0),.int .i64 3])/\Below w.heap.size w w'):=by
 obtain ⟨a0,n0,c0,rfl,H0,hm0⟩:=hw.1.open
 obtain ⟨a1,n1,c1,rfl,H1,hm1⟩:=hw.2.open
 have qq:=qr1.1
 have Hx1:=zaG qq
 obtain ⟨ra1,rn1,rc1,rfl,RH1,rm1⟩:=qr1.1.1.open
 obtain ⟨sa1,sn1,sc1,rfl,SH1,sm1⟩:=qr1.1.2.1.open
 have ri1:(R1:Int)<(N:Int):=by omega
 have lm:=hm.lt
 have lt1:=tr1.lt
 have Hz:=Lib.hid (zt RH1.out)
 have Hq:=Lib.hid (zcV RH1.out SH1.out)
 have t0:((rn1:Int) == 0)=true:=by simp;exact Hz.out.2 h0
 clear h0
 go_enter Tryz.func98,Tryz.ntmps98
 go_wp2_with fail
 obtain ⟨W0,ap⟩:∃ W0,(w.alloc (.cells #[.int .i64 op,.int .i64 to,.int .i64 (R1:Int),.int .i64 xb,.bool ng,.slice a0 n0 c0,.slice a1 n1 c1] 49)).alloc (.cells #[.bool false,.slice none 0 0,.slice none 0 0] 47)=W0:=⟨_,rfl⟩
 have aq:=Lib.hid (show ∀ W',Below W0.heap.size W0 W'->(Bx7 W' w.heap.size (.int .i64 op) (.int .i64 to) (.int .i64 (R1:Int)) (.int .i64 xb) (.bool ng) (.slice a0 n0 c0) (.slice a1 n1 c1)/\Bx3 W' (w.heap.size+1) (.bool false) (.slice none 0 0) (.slice none 0 0)) from fun W' hb => by
   refine ⟨bx7 hb ?_ ?_ ?_ ?_ ?_ ?_ ?_ ?_ ?_ ?_ ?_ ?_ ?_ ?_,bx3 hb ?_ ?_ ?_ ?_ ?_ ?_⟩
   all_goals first|assumption|(rw [<- ap];simp [go_sem]))
 have zb:Below w.heap.size w W0:=by rw [<- ap];exact bS (bN _ _) (bN _ _)
 rw [ap]
 clear ap
 have i0:=hw.to zb
 have i1:=hm.to zb
 have i2:=tr1.to zb
 have i3:=qq.to zb
 have gb:Below W0.heap.size W0 W0:=Below.refl _ _
 obtain ⟨⟨z0,ae,af,ah,az,aA,aP,aQ,ai,ak,al,aE,aF,be,bf⟩,⟨z1,am,an,aw,aB,aC,aD⟩⟩:=aq.out _ gb
 obtain ⟨e0,e1,e2,e3,e4⟩:=(i1.to gb)
 obtain ⟨t10,t11,t12⟩:=(i2.to gb)
 go_wp2_with fail
 have gba:Below W0.heap.size W0 (W0.alloc (.cells #[.bool false,.slice none 0 0,.slice none 0 0] 47)):=bS gb (bN _ _)
 obtain ⟨⟨az0,ax0_0,ax0_1,ax0_2,ax0_3,ax0_4,ax0_5,ax0_6,ay0_0,ay0_1,ay0_2,ay0_3,ay0_4,ay0_5,ay0_6⟩,⟨az1,ax1_0,ax1_1,ax1_2,ay1_0,ay1_1,ay1_2⟩⟩:=aq.out _ gba
 obtain ⟨ae0,ae1,ae2,ae3,ae4⟩:=(i1.to gba)
 obtain ⟨at10,at11,at12⟩:=(i2.to gba)
 go_region
 clear gba ax0_0 ay0_0 ax0_1 ay0_1 ax0_2 ay0_2 ax0_3 ay0_3 ax0_4 ay0_4 ax0_5 ay0_5 ax0_6 ay0_6 ax1_0 ay1_0 ax1_1 ay1_1 ax1_2 ay1_2 az0 az1 ae0 ae1 ae2 ae3 ae4 at10 at11 at12
 obtain ⟨W1,aJ⟩:∃ W1,(W0.alloc (.cells #[.bool nr1,.slice ra1 rn1 rc1,.slice sa1 sn1 sc1] 47)).drew=W1:=⟨_,rfl⟩
 have hb_W1:Below W0.heap.size W0 W1:=by rw [<- aJ];exact (bN _ _).drew
 have cD:Hid (W1.heap.size=W0.heap.size+1):=by show _=_;rw [<- aJ];simp
 clear ae ai af ak ah al az aE aA aF aP be aQ bf am aB an aC aw aD e0 e1 e2 e3 e4 t10 t11 t12
 replace gb:=bS gb hb_W1
 obtain ⟨⟨z0,ae,af,ah,az,aA,aP,aQ,ai,ak,al,aE,aF,be,bf⟩,⟨z1,am,an,aw,aB,aC,aD⟩⟩:=aq.out _ gb
 obtain ⟨e0,e1,e2,e3,e4⟩:=(i1.to gb)
 obtain ⟨t10,t11,t12⟩:=(i2.to gb)
 have bl:W1.cell? ⟨W0.heap.size,0,none⟩=some (.bool nr1):=by rw [<- aJ];simp [go_sem]
 have bH:W1.frozen? ⟨W0.heap.size,0,none⟩=false:=by rw [<- aJ];simp [go_sem]
 have bm:W1.cell? ⟨W0.heap.size,1,none⟩=some (.slice ra1 rn1 rc1):=by rw [<- aJ];simp [go_sem]
 have bJ:W1.frozen? ⟨W0.heap.size,1,none⟩=false:=by rw [<- aJ];simp [go_sem]
 have bU:W1.cell? ⟨W0.heap.size,2,none⟩=some (.slice sa1 sn1 sc1):=by rw [<- aJ];simp [go_sem]
 have bZ:W1.frozen? ⟨W0.heap.size,2,none⟩=false:=by rw [<- aJ];simp [go_sem]
 have z2:W0.heap.size<W1.heap.size:=by rw [<- aJ];simp
 rw [aJ]
 clear aJ
 replace i0:=i0.to gb
 replace i1:=i1.to gb
 replace i2:=i2.to gb
 replace i3:=i3.to gb
 replace zb:=bS zb gb
 have bX:=Lib.hid (show ∀ W',Below W1.heap.size W1 W'->(Bx7 W' w.heap.size (.int .i64 op) (.int .i64 to) (.int .i64 (R1:Int)) (.int .i64 xb) (.bool ng) (.slice a0 n0 c0) (.slice a1 n1 c1)/\Bx3 W' (w.heap.size+1) (.bool false) (.slice none 0 0) (.slice none 0 0)/\Bx3 W' W0.heap.size (.bool nr1) (.slice ra1 rn1 rc1) (.slice sa1 sn1 sc1)) from fun W' hb => by
   refine ⟨bx7 hb ?_ ?_ ?_ ?_ ?_ ?_ ?_ ?_ ?_ ?_ ?_ ?_ ?_ ?_,bx3 hb ?_ ?_ ?_ ?_ ?_ ?_,bx3 hb ?_ ?_ ?_ ?_ ?_ ?_⟩
   all_goals first|assumption|assumption)
 replace gb:=Below.refl W1.heap.size W1
 go_wp2_with fail
 exact bodyPost_ret (zm Tryz.results98 _ _ _ _ _ _ rfl (Tri.set (x0:=.bool false) (y0:=.slice none 0 0) (z0:=.slice none 0 0) ⟨am,an,aw,aB,aC,aD⟩ _ _ _)) rfl ⟨rfl,bT (bS zb gb) (by omega) _ _ _⟩

theorem zen (mB g N:Nat) (u vJ:Value) (rows cols:Int) (op to xb:Int) (ng:Bool) (vn vd:Value) (lw1 lw2:List Nat) (R1:Nat) (nr1:Bool) (vr1 ur1:Value) {x:Rat}  (w:World) (hw:IsF w vn vd lw1 lw2) (hm:zE w mB g N u vJ rows cols) (hN:N<=100000) (hr1:R1<N) (tr1:zbu w g (R1*3) (.bool nr1) vr1 ur1) (qr1:IsK w nr1 vr1 ur1 x) (hb:-21<=xb/\xb<=21) (hg:x≠0) (hl:4096<szq x*xb.natAbs)  :
  Calls Tryz.prog 98 #[.pointer (some ⟨mB,0,none⟩),.agg #[.int .i64 op,.int .i64 to,.int .i64 (R1:Int),.int .i64 xb,.bool ng,vn,vd]] w (fun e w' => e=.returned (.tuple #[aggR false (.slice none 0 0) (.slice none 0 0),.int .i64 4])/\Below w.heap.size w w'):=by
 obtain ⟨a0,n0,c0,rfl,H0,hm0⟩:=hw.1.open
 obtain ⟨a1,n1,c1,rfl,H1,hm1⟩:=hw.2.open
 have qq:=qr1.1
 have Hx1:=zaG qq
 obtain ⟨ra1,rn1,rc1,rfl,RH1,rm1⟩:=qr1.1.1.open
 obtain ⟨sa1,sn1,sc1,rfl,SH1,sm1⟩:=qr1.1.2.1.open
 have ri1:(R1:Int)<(N:Int):=by omega
 have lm:=hm.lt
 have lt1:=tr1.lt
 have Hz:=Lib.hid (zt RH1.out)
 have Hq:=Lib.hid (zcV RH1.out SH1.out)
 have t0:((rn1:Int) == 0)=false:=by simp;exact fun e => hg (Hz.out.1 e)
 clear hg
 obtain ⟨m,hm9⟩:∃ m:Nat,max rn1 sn1=m:=⟨_,rfl⟩
 have HM:=Lib.hid (show ((max (za x.num.natAbs).length (za x.den).length:Nat):Int)=(m:Int) by rw [RH1.out,SH1.out,hm9])
 have Hm:=Lib.hid (show szq x=m by rw [Hq.out,hm9])
 have hm10:m<=1000:=by have:=Hx1.out;have:=Hm.out;omega
 obtain ⟨k,hk⟩:∃ k:Nat,xb.natAbs=k:=⟨_,rfl⟩
 have hk21:k<=21:=by omega
 have hneg:IntKind.i64.wrap (-xb)=-xb:=IntWalk.i64_in _ (by omega)
 have hmax:max xb (-xb)=(k:Int):=by omega
 have hmk:m*k<=1000*21:=Nat.mul_le_mul hm10 hk21
 obtain ⟨P,hP⟩:∃ P:Nat,m*k=P:=⟨_,rfl⟩
 have hmul:IntKind.i64.wrap ((m:Int)*(k:Int))=(P:Int):=by
  rw [<- Int.natCast_mul,hP]
  exact IntWalk.i64_in _ (by omega)
 rw [hk,Hm.out,hP] at hl
 have t4:decide (4096<P)=true:=decide_eq_true hl
 have t5:decide ((4096:Int)<(P:Int))=true:=decide_eq_true (by omega)
 clear hl hm9 hP hk hmk
 go_enter Tryz.func98,Tryz.ntmps98
 go_wp2_with fail
 obtain ⟨W0,ap⟩:∃ W0,(w.alloc (.cells #[.int .i64 op,.int .i64 to,.int .i64 (R1:Int),.int .i64 xb,.bool ng,.slice a0 n0 c0,.slice a1 n1 c1] 49)).alloc (.cells #[.bool false,.slice none 0 0,.slice none 0 0] 47)=W0:=⟨_,rfl⟩
 have aq:=Lib.hid (show ∀ W',Below W0.heap.size W0 W'->(Bx7 W' w.heap.size (.int .i64 op) (.int .i64 to) (.int .i64 (R1:Int)) (.int .i64 xb) (.bool ng) (.slice a0 n0 c0) (.slice a1 n1 c1)/\Bx3 W' (w.heap.size+1) (.bool false) (.slice none 0 0) (.slice none 0 0)) from fun W' hb => by
   refine ⟨bx7 hb ?_ ?_ ?_ ?_ ?_ ?_ ?_ ?_ ?_ ?_ ?_ ?_ ?_ ?_,bx3 hb ?_ ?_ ?_ ?_ ?_ ?_⟩
   all_goals first|assumption|(rw [<- ap];simp [go_sem]))
 have zb:Below w.heap.size w W0:=by rw [<- ap];exact bS (bN _ _) (bN _ _)
 rw [ap]
 clear ap
 have i0:=hw.to zb
 have i1:=hm.to zb
 have i2:=tr1.to zb
 have i3:=qq.to zb
 have gb:Below W0.heap.size W0 W0:=Below.refl _ _
 obtain ⟨⟨z0,ae,af,ah,az,aA,aP,aQ,ai,ak,al,aE,aF,be,bf⟩,⟨z1,am,an,aw,aB,aC,aD⟩⟩:=aq.out _ gb
 obtain ⟨e0,e1,e2,e3,e4⟩:=(i1.to gb)
 obtain ⟨t10,t11,t12⟩:=(i2.to gb)
 go_wp2_with fail
 have gba:Below W0.heap.size W0 (W0.alloc (.cells #[.bool false,.slice none 0 0,.slice none 0 0] 47)):=bS gb (bN _ _)
 obtain ⟨⟨az0,ax0_0,ax0_1,ax0_2,ax0_3,ax0_4,ax0_5,ax0_6,ay0_0,ay0_1,ay0_2,ay0_3,ay0_4,ay0_5,ay0_6⟩,⟨az1,ax1_0,ax1_1,ax1_2,ay1_0,ay1_1,ay1_2⟩⟩:=aq.out _ gba
 obtain ⟨ae0,ae1,ae2,ae3,ae4⟩:=(i1.to gba)
 obtain ⟨at10,at11,at12⟩:=(i2.to gba)
 go_region
 clear gba ax0_0 ay0_0 ax0_1 ay0_1 ax0_2 ay0_2 ax0_3 ay0_3 ax0_4 ay0_4 ax0_5 ay0_5 ax0_6 ay0_6 ax1_0 ay1_0 ax1_1 ay1_1 ax1_2 ay1_2 az0 az1 ae0 ae1 ae2 ae3 ae4 at10 at11 at12
 obtain ⟨W1,aJ⟩:∃ W1,(W0.alloc (.cells #[.bool nr1,.slice ra1 rn1 rc1,.slice sa1 sn1 sc1] 47)).drew=W1:=⟨_,rfl⟩
 have hb_W1:Below W0.heap.size W0 W1:=by rw [<- aJ];exact (bN _ _).drew
 have cD:Hid (W1.heap.size=W0.heap.size+1):=by show _=_;rw [<- aJ];simp
 clear ae ai af ak ah al az aE aA aF aP be aQ bf am aB an aC aw aD e0 e1 e2 e3 e4 t10 t11 t12
 replace gb:=bS gb hb_W1
 obtain ⟨⟨z0,ae,af,ah,az,aA,aP,aQ,ai,ak,al,aE,aF,be,bf⟩,⟨z1,am,an,aw,aB,aC,aD⟩⟩:=aq.out _ gb
 obtain ⟨e0,e1,e2,e3,e4⟩:=(i1.to gb)
 obtain ⟨t10,t11,t12⟩:=(i2.to gb)
 have bl:W1.cell? ⟨W0.heap.size,0,none⟩=some (.bool nr1):=by rw [<- aJ];simp [go_sem]
 have bH:W1.frozen? ⟨W0.heap.size,0,none⟩=false:=by rw [<- aJ];simp [go_sem]
 have bm:W1.cell? ⟨W0.heap.size,1,none⟩=some (.slice ra1 rn1 rc1):=by rw [<- aJ];simp [go_sem]
 have bJ:W1.frozen? ⟨W0.heap.size,1,none⟩=false:=by rw [<- aJ];simp [go_sem]
 have bU:W1.cell? ⟨W0.heap.size,2,none⟩=some (.slice sa1 sn1 sc1):=by rw [<- aJ];simp [go_sem]
 have bZ:W1.frozen? ⟨W0.heap.size,2,none⟩=false:=by rw [<- aJ];simp [go_sem]
 have z2:W0.heap.size<W1.heap.size:=by rw [<- aJ];simp
 rw [aJ]
 clear aJ
 replace i0:=i0.to gb
 replace i1:=i1.to gb
 replace i2:=i2.to gb
 replace i3:=i3.to gb
 replace zb:=bS zb gb
 have bX:=Lib.hid (show ∀ W',Below W1.heap.size W1 W'->(Bx7 W' w.heap.size (.int .i64 op) (.int .i64 to) (.int .i64 (R1:Int)) (.int .i64 xb) (.bool ng) (.slice a0 n0 c0) (.slice a1 n1 c1)/\Bx3 W' (w.heap.size+1) (.bool false) (.slice none 0 0) (.slice none 0 0)/\Bx3 W' W0.heap.size (.bool nr1) (.slice ra1 rn1 rc1) (.slice sa1 sn1 sc1)) from fun W' hb => by
   refine ⟨bx7 hb ?_ ?_ ?_ ?_ ?_ ?_ ?_ ?_ ?_ ?_ ?_ ?_ ?_ ?_,bx3 hb ?_ ?_ ?_ ?_ ?_ ?_,bx3 hb ?_ ?_ ?_ ?_ ?_ ?_⟩
   all_goals first|assumption|assumption)
 replace gb:=Below.refl W1.heap.size W1
 go_wp2_with fail
 have nzx_e0:mB≠w.heap.size+1:=by omega
 have nzx_e1:mB≠w.heap.size+1:=by omega
 have nzx_t10:g≠w.heap.size+1:=by omega
 have nzx_t11:g≠w.heap.size+1:=by omega
 have nzx_t12:g≠w.heap.size+1:=by omega
 have nz0:w.heap.size≠w.heap.size+1:=by omega
 have nz2:W0.heap.size≠w.heap.size+1:=by omega
 go_region_held3 (fun W' => W'.cell? ⟨w.heap.size,0,none⟩=some (.int .i64 op)/\W'.cell? ⟨w.heap.size,1,none⟩=some (.int .i64 to)/\W'.cell? ⟨w.heap.size,2,none⟩=some (.int .i64 (R1:Int))/\W'.cell? ⟨w.heap.size,3,none⟩=some (.int .i64 xb)/\W'.cell? ⟨w.heap.size,4,none⟩=some (.bool ng)/\W'.cell? ⟨w.heap.size,5,none⟩=some (.slice a0 n0 c0)/\W'.cell? ⟨w.heap.size,6,none⟩=some (.slice a1 n1 c1)/\W'.cell? ⟨W0.heap.size,0,none⟩=some (.bool nr1)/\W'.cell? ⟨W0.heap.size,1,none⟩=some (.slice ra1 rn1 rc1)/\W'.cell? ⟨W0.heap.size,2,none⟩=some (.slice sa1 sn1 sc1)/\W'.cell? ⟨mB,0,none⟩=some (u)/\W'.cell? ⟨mB,1,none⟩=some (.slice (some ⟨g,0,none⟩) N N)/\W'.cell? ⟨g,R1*3,none⟩=some (.bool nr1)/\W'.cell? ⟨g,R1*3+1,none⟩=some (.slice ra1 rn1 rc1)/\W'.cell? ⟨g,R1*3+2,none⟩=some (.slice sa1 sn1 sc1)) (first|(with_reducible exact ⟨ae,af,ah,az,aA,aP,aQ,bl,bm,bU,e0,e1,t10,t11,t12⟩)|(with_reducible exact ⟨cP (cP (cP (ae) (.inl nz0) _) (.inl nz0) _) (.inl nz0) _,cP (cP (cP (af) (.inl nz0) _) (.inl nz0) _) (.inl nz0) _,cP (cP (cP (ah) (.inl nz0) _) (.inl nz0) _) (.inl nz0) _,cP (cP (cP (az) (.inl nz0) _) (.inl nz0) _) (.inl nz0) _,cP (cP (cP (aA) (.inl nz0) _) (.inl nz0) _) (.inl nz0) _,cP (cP (cP (aP) (.inl nz0) _) (.inl nz0) _) (.inl nz0) _,cP (cP (cP (aQ) (.inl nz0) _) (.inl nz0) _) (.inl nz0) _,cP (cP (cP (bl) (.inl nz2) _) (.inl nz2) _) (.inl nz2) _,cP (cP (cP (bm) (.inl nz2) _) (.inl nz2) _) (.inl nz2) _,cP (cP (cP (bU) (.inl nz2) _) (.inl nz2) _) (.inl nz2) _,cP (cP (cP (e0) (.inl nzx_e0) _) (.inl nzx_e0) _) (.inl nzx_e0) _,cP (cP (cP (e1) (.inl nzx_e1) _) (.inl nzx_e1) _) (.inl nzx_e1) _,cP (cP (cP (t10) (.inl nzx_t10) _) (.inl nzx_t10) _) (.inl nzx_t10) _,cP (cP (cP (t11) (.inl nzx_t11) _) (.inl nzx_t11) _) (.inl nzx_t11) _,cP (cP (cP (t12) (.inl nzx_t12) _) (.inl nzx_t12) _) (.inl nzx_t12) _⟩)|exact ⟨ae,af,ah,az,aA,aP,aQ,bl,bm,bU,e0,e1,t10,t11,t12⟩) (first
  | (go_at_call 66;have gb:=gb.drew;(with_reducible refine (zab nr1 _ _ _ _ _ (i3.to gb).isF (m:Int) HM.out).mono ?_);rintro e w1 ⟨rfl,aS⟩;have gb:=bS gb aS;obtain ⟨⟨z0,ae,af,ah,az,aA,aP,aQ,ai,ak,al,aE,aF,be,bf⟩,⟨z1,am,an,aw,aB,aC,aD⟩,⟨z2,bl,bm,bU,bH,bJ,bZ⟩⟩:=bX.out _ gb;obtain ⟨e0,e1,e2,e3,e4⟩:=(i1.to gb);obtain ⟨t10,t11,t12⟩:=(i2.to gb)))
 all_goals
  clear hmul hneg hmax
  go_wp2_with fail
  exact bodyPost_ret (zm Tryz.results98 _ _ _ _ _ _ rfl (Tri.set (x0:=.bool false) (y0:=.slice none 0 0) (z0:=.slice none 0 0) ⟨am,an,aw,aB,aC,aD⟩ _ _ _)) rfl ⟨rfl,bT (bS zb gb) (by omega) _ _ _⟩

theorem zgk (mB g N:Nat) (u vJ:Value) (rows cols:Int) (op to xb:Int) (ng:Bool) (vn vd:Value) (lw1 lw2:List Nat) (R1:Nat) (nr1:Bool) (vr1 ur1:Value) {x:Rat}  (w:World) (hw:IsF w vn vd lw1 lw2) (hm:zE w mB g N u vJ rows cols) (hN:N<=100000) (hr1:R1<N) (tr1:zbu w g (R1*3) (.bool nr1) vr1 ur1) (qr1:IsK w nr1 vr1 ur1 x) (hb:-21<=xb/\xb<=21) (hg:x≠0) (hsn:0<=xb) (hl:szq x*xb.toNat<=999)  :
  Calls Tryz.prog 98 #[.pointer (some ⟨mB,0,none⟩),.agg #[.int .i64 op,.int .i64 to,.int .i64 (R1:Int),.int .i64 xb,.bool ng,vn,vd]] w (zD w (x ^ xb.toNat)):=by
 obtain ⟨a0,n0,c0,rfl,H0,hm0⟩:=hw.1.open
 obtain ⟨a1,n1,c1,rfl,H1,hm1⟩:=hw.2.open
 have qq:=qr1.1
 have Hx1:=zaG qq
 obtain ⟨ra1,rn1,rc1,rfl,RH1,rm1⟩:=qr1.1.1.open
 obtain ⟨sa1,sn1,sc1,rfl,SH1,sm1⟩:=qr1.1.2.1.open
 have ri1:(R1:Int)<(N:Int):=by omega
 have lm:=hm.lt
 have lt1:=tr1.lt
 have Hz:=Lib.hid (zt RH1.out)
 have Hq:=Lib.hid (zcV RH1.out SH1.out)
 have t0:((rn1:Int) == 0)=false:=by simp;exact fun e => hg (Hz.out.1 e)
 clear hg
 have Hs9:=Lib.hid hl
 obtain ⟨m,hm9⟩:∃ m:Nat,max rn1 sn1=m:=⟨_,rfl⟩
 have HM:=Lib.hid (show ((max (za x.num.natAbs).length (za x.den).length:Nat):Int)=(m:Int) by rw [RH1.out,SH1.out,hm9])
 have Hm:=Lib.hid (show szq x=m by rw [Hq.out,hm9])
 have hm10:m<=1000:=by have:=Hx1.out;have:=Hm.out;omega
 obtain ⟨k,hk⟩:∃ k:Nat,xb.natAbs=k:=⟨_,rfl⟩
 have hk21:k<=21:=by omega
 have hneg:IntKind.i64.wrap (-xb)=-xb:=IntWalk.i64_in _ (by omega)
 have hmax:max xb (-xb)=(k:Int):=by omega
 have hmk:m*k<=1000*21:=Nat.mul_le_mul hm10 hk21
 obtain ⟨P,hP⟩:∃ P:Nat,m*k=P:=⟨_,rfl⟩
 have hmul:IntKind.i64.wrap ((m:Int)*(k:Int))=(P:Int):=by
  rw [<- Int.natCast_mul,hP]
  exact IntWalk.i64_in _ (by omega)
 rw [show xb.toNat=k by omega,Hm.out,hP] at hl
 have t4:decide (4096<P)=false:=decide_eq_false (by omega)
 have t5:decide ((4096:Int)<(P:Int))=false:=decide_eq_false (by omega)
 clear hl hm9 hP hk hmk
 go_enter Tryz.func98,Tryz.ntmps98
 go_wp2_with fail
 obtain ⟨W0,ap⟩:∃ W0,(w.alloc (.cells #[.int .i64 op,.int .i64 to,.int .i64 (R1:Int),.int .i64 xb,.bool ng,.slice a0 n0 c0,.slice a1 n1 c1] 49)).alloc (.cells #[.bool false,.slice none 0 0,.slice none 0 0] 47)=W0:=⟨_,rfl⟩
 have aq:=Lib.hid (show ∀ W',Below W0.heap.size W0 W'->(Bx7 W' w.heap.size (.int .i64 op) (.int .i64 to) (.int .i64 (R1:Int)) (.int .i64 xb) (.bool ng) (.slice a0 n0 c0) (.slice a1 n1 c1)/\Bx3 W' (w.heap.size+1) (.bool false) (.slice none 0 0) (.slice none 0 0)) from fun W' hb => by
   refine ⟨bx7 hb ?_ ?_ ?_ ?_ ?_ ?_ ?_ ?_ ?_ ?_ ?_ ?_ ?_ ?_,bx3 hb ?_ ?_ ?_ ?_ ?_ ?_⟩
   all_goals first|assumption|(rw [<- ap];simp [go_sem]))
 have zb:Below w.heap.size w W0:=by rw [<- ap];exact bS (bN _ _) (bN _ _)
 rw [ap]
 clear ap
 have i0:=hw.to zb
 have i1:=hm.to zb
 have i2:=tr1.to zb
 have i3:=qq.to zb
 have gb:Below W0.heap.size W0 W0:=Below.refl _ _
 obtain ⟨⟨z0,ae,af,ah,az,aA,aP,aQ,ai,ak,al,aE,aF,be,bf⟩,⟨z1,am,an,aw,aB,aC,aD⟩⟩:=aq.out _ gb
 obtain ⟨e0,e1,e2,e3,e4⟩:=(i1.to gb)
 obtain ⟨t10,t11,t12⟩:=(i2.to gb)
 go_wp2_with fail
 have gba:Below W0.heap.size W0 (W0.alloc (.cells #[.bool false,.slice none 0 0,.slice none 0 0] 47)):=bS gb (bN _ _)
 obtain ⟨⟨az0,ax0_0,ax0_1,ax0_2,ax0_3,ax0_4,ax0_5,ax0_6,ay0_0,ay0_1,ay0_2,ay0_3,ay0_4,ay0_5,ay0_6⟩,⟨az1,ax1_0,ax1_1,ax1_2,ay1_0,ay1_1,ay1_2⟩⟩:=aq.out _ gba
 obtain ⟨ae0,ae1,ae2,ae3,ae4⟩:=(i1.to gba)
 obtain ⟨at10,at11,at12⟩:=(i2.to gba)
 go_region
 clear gba ax0_0 ay0_0 ax0_1 ay0_1 ax0_2 ay0_2 ax0_3 ay0_3 ax0_4 ay0_4 ax0_5 ay0_5 ax0_6 ay0_6 ax1_0 ay1_0 ax1_1 ay1_1 ax1_2 ay1_2 az0 az1 ae0 ae1 ae2 ae3 ae4 at10 at11 at12
 obtain ⟨W1,aJ⟩:∃ W1,(W0.alloc (.cells #[.bool nr1,.slice ra1 rn1 rc1,.slice sa1 sn1 sc1] 47)).drew=W1:=⟨_,rfl⟩
 have hb_W1:Below W0.heap.size W0 W1:=by rw [<- aJ];exact (bN _ _).drew
 have cD:Hid (W1.heap.size=W0.heap.size+1):=by show _=_;rw [<- aJ];simp
 clear ae ai af ak ah al az aE aA aF aP be aQ bf am aB an aC aw aD e0 e1 e2 e3 e4 t10 t11 t12
 replace gb:=bS gb hb_W1
 obtain ⟨⟨z0,ae,af,ah,az,aA,aP,aQ,ai,ak,al,aE,aF,be,bf⟩,⟨z1,am,an,aw,aB,aC,aD⟩⟩:=aq.out _ gb
 obtain ⟨e0,e1,e2,e3,e4⟩:=(i1.to gb)
 obtain ⟨t10,t11,t12⟩:=(i2.to gb)
 have bl:W1.cell? ⟨W0.heap.size,0,none⟩=some (.bool nr1):=by rw [<- aJ];simp [go_sem]
 have bH:W1.frozen? ⟨W0.heap.size,0,none⟩=false:=by rw [<- aJ];simp [go_sem]
 have bm:W1.cell? ⟨W0.heap.size,1,none⟩=some (.slice ra1 rn1 rc1):=by rw [<- aJ];simp [go_sem]
 have bJ:W1.frozen? ⟨W0.heap.size,1,none⟩=false:=by rw [<- aJ];simp [go_sem]
 have bU:W1.cell? ⟨W0.heap.size,2,none⟩=some (.slice sa1 sn1 sc1):=by rw [<- aJ];simp [go_sem]
 have bZ:W1.frozen? ⟨W0.heap.size,2,none⟩=false:=by rw [<- aJ];simp [go_sem]
 have z2:W0.heap.size<W1.heap.size:=by rw [<- aJ];simp
 rw [aJ]
 clear aJ
 replace i0:=i0.to gb
 replace i1:=i1.to gb
 replace i2:=i2.to gb
 replace i3:=i3.to gb
 replace zb:=bS zb gb
 have bX:=Lib.hid (show ∀ W',Below W1.heap.size W1 W'->(Bx7 W' w.heap.size (.int .i64 op) (.int .i64 to) (.int .i64 (R1:Int)) (.int .i64 xb) (.bool ng) (.slice a0 n0 c0) (.slice a1 n1 c1)/\Bx3 W' (w.heap.size+1) (.bool false) (.slice none 0 0) (.slice none 0 0)/\Bx3 W' W0.heap.size (.bool nr1) (.slice ra1 rn1 rc1) (.slice sa1 sn1 sc1)) from fun W' hb => by
   refine ⟨bx7 hb ?_ ?_ ?_ ?_ ?_ ?_ ?_ ?_ ?_ ?_ ?_ ?_ ?_ ?_,bx3 hb ?_ ?_ ?_ ?_ ?_ ?_,bx3 hb ?_ ?_ ?_ ?_ ?_ ?_⟩
   all_goals first|assumption|assumption)
 replace gb:=Below.refl W1.heap.size W1
 go_wp2_with fail
 have nzx_e0:mB≠w.heap.size+1:=by omega
 have nzx_e1:mB≠w.heap.size+1:=by omega
 have nzx_t10:g≠w.heap.size+1:=by omega
 have nzx_t11:g≠w.heap.size+1:=by omega
 have nzx_t12:g≠w.heap.size+1:=by omega
 have nz0:w.heap.size≠w.heap.size+1:=by omega
 have nz2:W0.heap.size≠w.heap.size+1:=by omega
 go_region_held3 (fun W' => W'.cell? ⟨w.heap.size,0,none⟩=some (.int .i64 op)/\W'.cell? ⟨w.heap.size,1,none⟩=some (.int .i64 to)/\W'.cell? ⟨w.heap.size,2,none⟩=some (.int .i64 (R1:Int))/\W'.cell? ⟨w.heap.size,3,none⟩=some (.int .i64 xb)/\W'.cell? ⟨w.heap.size,4,none⟩=some (.bool ng)/\W'.cell? ⟨w.heap.size,5,none⟩=some (.slice a0 n0 c0)/\W'.cell? ⟨w.heap.size,6,none⟩=some (.slice a1 n1 c1)/\W'.cell? ⟨W0.heap.size,0,none⟩=some (.bool nr1)/\W'.cell? ⟨W0.heap.size,1,none⟩=some (.slice ra1 rn1 rc1)/\W'.cell? ⟨W0.heap.size,2,none⟩=some (.slice sa1 sn1 sc1)/\W'.cell? ⟨mB,0,none⟩=some (u)/\W'.cell? ⟨mB,1,none⟩=some (.slice (some ⟨g,0,none⟩) N N)/\W'.cell? ⟨g,R1*3,none⟩=some (.bool nr1)/\W'.cell? ⟨g,R1*3+1,none⟩=some (.slice ra1 rn1 rc1)/\W'.cell? ⟨g,R1*3+2,none⟩=some (.slice sa1 sn1 sc1)) (first|(with_reducible exact ⟨ae,af,ah,az,aA,aP,aQ,bl,bm,bU,e0,e1,t10,t11,t12⟩)|(with_reducible exact ⟨cP (cP (cP (ae) (.inl nz0) _) (.inl nz0) _) (.inl nz0) _,cP (cP (cP (af) (.inl nz0) _) (.inl nz0) _) (.inl nz0) _,cP (cP (cP (ah) (.inl nz0) _) (.inl nz0) _) (.inl nz0) _,cP (cP (cP (az) (.inl nz0) _) (.inl nz0) _) (.inl nz0) _,cP (cP (cP (aA) (.inl nz0) _) (.inl nz0) _) (.inl nz0) _,cP (cP (cP (aP) (.inl nz0) _) (.inl nz0) _) (.inl nz0) _,cP (cP (cP (aQ) (.inl nz0) _) (.inl nz0) _) (.inl nz0) _,cP (cP (cP (bl) (.inl nz2) _) (.inl nz2) _) (.inl nz2) _,cP (cP (cP (bm) (.inl nz2) _) (.inl nz2) _) (.inl nz2) _,cP (cP (cP (bU) (.inl nz2) _) (.inl nz2) _) (.inl nz2) _,cP (cP (cP (e0) (.inl nzx_e0) _) (.inl nzx_e0) _) (.inl nzx_e0) _,cP (cP (cP (e1) (.inl nzx_e1) _) (.inl nzx_e1) _) (.inl nzx_e1) _,cP (cP (cP (t10) (.inl nzx_t10) _) (.inl nzx_t10) _) (.inl nzx_t10) _,cP (cP (cP (t11) (.inl nzx_t11) _) (.inl nzx_t11) _) (.inl nzx_t11) _,cP (cP (cP (t12) (.inl nzx_t12) _) (.inl nzx_t12) _) (.inl nzx_t12) _⟩)|exact ⟨ae,af,ah,az,aA,aP,aQ,bl,bm,bU,e0,e1,t10,t11,t12⟩) (first
  | (go_at_call 66;have gb:=gb.drew;(with_reducible refine (zab nr1 _ _ _ _ _ (i3.to gb).isF (m:Int) HM.out).mono ?_);rintro e w1 ⟨rfl,aS⟩;have gb:=bS gb aS;obtain ⟨⟨z0,ae,af,ah,az,aA,aP,aQ,ai,ak,al,aE,aF,be,bf⟩,⟨z1,am,an,aw,aB,aC,aD⟩,⟨z2,bl,bm,bU,bH,bJ,bZ⟩⟩:=bX.out _ gb;obtain ⟨e0,e1,e2,e3,e4⟩:=(i1.to gb);obtain ⟨t10,t11,t12⟩:=(i2.to gb)))
 all_goals
  clear hmul hneg hmax
  go_wp2_with fail
  refine (pow_pos nr1 _ _ _ _ xb _ (i3.to gb) hsn (by omega) Hs9.out).mono ?_
  clear ae ai af ak ah al az aE aA aF aP be aQ bf am aB an aC aw aD bl bH bm bJ bU bZ e0 e1 e2 e3 e4 t10 t11 t12
  rintro e w2 ⟨ng2,a2_,n2_,c2_,p2_,m2_,k2_,rfl,g2,aM⟩
  replace gb:=bS gb aM
  obtain ⟨⟨z0,ae,af,ah,az,aA,aP,aQ,ai,ak,al,aE,aF,be,bf⟩,⟨z1,am,an,aw,aB,aC,aD⟩,⟨z2,bl,bm,bU,bH,bJ,bZ⟩⟩:=bX.out _ gb
  obtain ⟨e0,e1,e2,e3,e4⟩:=(i1.to gb)
  obtain ⟨t10,t11,t12⟩:=(i2.to gb)
  go_wp2_with fail
  refine bodyPost_ret (zm Tryz.results98 _ _ _ _ _ _ rfl (Tri.set (x0:=.bool false) (y0:=.slice none 0 0) (z0:=.slice none 0 0) ⟨am,an,aw,aB,aC,aD⟩ _ _ _)) rfl (zbB (bS zb gb) (by omega) ?_ g2)
  first|omega|(simp;omega)

theorem zgj (mB g N:Nat) (u vJ:Value) (rows cols:Int) (op to xb:Int) (ng:Bool) (vn vd:Value) (lw1 lw2:List Nat) (R1:Nat) (nr1:Bool) (vr1 ur1:Value) {x:Rat}  (w:World) (hw:IsF w vn vd lw1 lw2) (hm:zE w mB g N u vJ rows cols) (hN:N<=100000) (hr1:R1<N) (tr1:zbu w g (R1*3) (.bool nr1) vr1 ur1) (qr1:IsK w nr1 vr1 ur1 x) (hb:-21<=xb/\xb<=21) (hg:x≠0) (hsn:xb<0) (hx0:x≠0) (hl:szq x*(-xb).toNat<=999)  :
  Calls Tryz.prog 98 #[.pointer (some ⟨mB,0,none⟩),.agg #[.int .i64 op,.int .i64 to,.int .i64 (R1:Int),.int .i64 xb,.bool ng,vn,vd]] w (zD w ((x ^ (-xb).toNat)⁻¹)):=by
 obtain ⟨a0,n0,c0,rfl,H0,hm0⟩:=hw.1.open
 obtain ⟨a1,n1,c1,rfl,H1,hm1⟩:=hw.2.open
 have qq:=qr1.1
 have Hx1:=zaG qq
 obtain ⟨ra1,rn1,rc1,rfl,RH1,rm1⟩:=qr1.1.1.open
 obtain ⟨sa1,sn1,sc1,rfl,SH1,sm1⟩:=qr1.1.2.1.open
 have ri1:(R1:Int)<(N:Int):=by omega
 have lm:=hm.lt
 have lt1:=tr1.lt
 have Hz:=Lib.hid (zt RH1.out)
 have Hq:=Lib.hid (zcV RH1.out SH1.out)
 have t0:((rn1:Int) == 0)=false:=by simp;exact fun e => hg (Hz.out.1 e)
 clear hg
 have Hx0:=Lib.hid hx0
 clear hx0
 have Hs9:=Lib.hid hl
 obtain ⟨m,hm9⟩:∃ m:Nat,max rn1 sn1=m:=⟨_,rfl⟩
 have HM:=Lib.hid (show ((max (za x.num.natAbs).length (za x.den).length:Nat):Int)=(m:Int) by rw [RH1.out,SH1.out,hm9])
 have Hm:=Lib.hid (show szq x=m by rw [Hq.out,hm9])
 have hm10:m<=1000:=by have:=Hx1.out;have:=Hm.out;omega
 obtain ⟨k,hk⟩:∃ k:Nat,xb.natAbs=k:=⟨_,rfl⟩
 have hk21:k<=21:=by omega
 have hneg:IntKind.i64.wrap (-xb)=-xb:=IntWalk.i64_in _ (by omega)
 have hmax:max xb (-xb)=(k:Int):=by omega
 have hmk:m*k<=1000*21:=Nat.mul_le_mul hm10 hk21
 obtain ⟨P,hP⟩:∃ P:Nat,m*k=P:=⟨_,rfl⟩
 have hmul:IntKind.i64.wrap ((m:Int)*(k:Int))=(P:Int):=by
  rw [<- Int.natCast_mul,hP]
  exact IntWalk.i64_in _ (by omega)
 rw [show (-xb).toNat=k by omega,Hm.out,hP] at hl
 have t4:decide (4096<P)=false:=decide_eq_false (by omega)
 have t5:decide ((4096:Int)<(P:Int))=false:=decide_eq_false (by omega)
 clear hl hm9 hP hk hmk
 go_enter Tryz.func98,Tryz.ntmps98
 go_wp2_with fail
 obtain ⟨W0,ap⟩:∃ W0,(w.alloc (.cells #[.int .i64 op,.int .i64 to,.int .i64 (R1:Int),.int .i64 xb,.bool ng,.slice a0 n0 c0,.slice a1 n1 c1] 49)).alloc (.cells #[.bool false,.slice none 0 0,.slice none 0 0] 47)=W0:=⟨_,rfl⟩
 have aq:=Lib.hid (show ∀ W',Below W0.heap.size W0 W'->(Bx7 W' w.heap.size (.int .i64 op) (.int .i64 to) (.int .i64 (R1:Int)) (.int .i64 xb) (.bool ng) (.slice a0 n0 c0) (.slice a1 n1 c1)/\Bx3 W' (w.heap.size+1) (.bool false) (.slice none 0 0) (.slice none 0 0)) from fun W' hb => by
   refine ⟨bx7 hb ?_ ?_ ?_ ?_ ?_ ?_ ?_ ?_ ?_ ?_ ?_ ?_ ?_ ?_,bx3 hb ?_ ?_ ?_ ?_ ?_ ?_⟩
   all_goals first|assumption|(rw [<- ap];simp [go_sem]))
 have zb:Below w.heap.size w W0:=by rw [<- ap];exact bS (bN _ _) (bN _ _)
 rw [ap]
 clear ap
 have i0:=hw.to zb
 have i1:=hm.to zb
 have i2:=tr1.to zb
 have i3:=qq.to zb
 have gb:Below W0.heap.size W0 W0:=Below.refl _ _
 obtain ⟨⟨z0,ae,af,ah,az,aA,aP,aQ,ai,ak,al,aE,aF,be,bf⟩,⟨z1,am,an,aw,aB,aC,aD⟩⟩:=aq.out _ gb
 obtain ⟨e0,e1,e2,e3,e4⟩:=(i1.to gb)
 obtain ⟨t10,t11,t12⟩:=(i2.to gb)
 go_wp2_with fail
 have gba:Below W0.heap.size W0 (W0.alloc (.cells #[.bool false,.slice none 0 0,.slice none 0 0] 47)):=bS gb (bN _ _)
 obtain ⟨⟨az0,ax0_0,ax0_1,ax0_2,ax0_3,ax0_4,ax0_5,ax0_6,ay0_0,ay0_1,ay0_2,ay0_3,ay0_4,ay0_5,ay0_6⟩,⟨az1,ax1_0,ax1_1,ax1_2,ay1_0,ay1_1,ay1_2⟩⟩:=aq.out _ gba
 obtain ⟨ae0,ae1,ae2,ae3,ae4⟩:=(i1.to gba)
 obtain ⟨at10,at11,at12⟩:=(i2.to gba)
 go_region
 clear gba ax0_0 ay0_0 ax0_1 ay0_1 ax0_2 ay0_2 ax0_3 ay0_3 ax0_4 ay0_4 ax0_5 ay0_5 ax0_6 ay0_6 ax1_0 ay1_0 ax1_1 ay1_1 ax1_2 ay1_2 az0 az1 ae0 ae1 ae2 ae3 ae4 at10 at11 at12
 obtain ⟨W1,aJ⟩:∃ W1,(W0.alloc (.cells #[.bool nr1,.slice ra1 rn1 rc1,.slice sa1 sn1 sc1] 47)).drew=W1:=⟨_,rfl⟩
 have hb_W1:Below W0.heap.size W0 W1:=by rw [<- aJ];exact (bN _ _).drew
 have cD:Hid (W1.heap.size=W0.heap.size+1):=by show _=_;rw [<- aJ];simp
 clear ae ai af ak ah al az aE aA aF aP be aQ bf am aB an aC aw aD e0 e1 e2 e3 e4 t10 t11 t12
 replace gb:=bS gb hb_W1
 obtain ⟨⟨z0,ae,af,ah,az,aA,aP,aQ,ai,ak,al,aE,aF,be,bf⟩,⟨z1,am,an,aw,aB,aC,aD⟩⟩:=aq.out _ gb
 obtain ⟨e0,e1,e2,e3,e4⟩:=(i1.to gb)
 obtain ⟨t10,t11,t12⟩:=(i2.to gb)
 have bl:W1.cell? ⟨W0.heap.size,0,none⟩=some (.bool nr1):=by rw [<- aJ];simp [go_sem]
 have bH:W1.frozen? ⟨W0.heap.size,0,none⟩=false:=by rw [<- aJ];simp [go_sem]
 have bm:W1.cell? ⟨W0.heap.size,1,none⟩=some (.slice ra1 rn1 rc1):=by rw [<- aJ];simp [go_sem]
 have bJ:W1.frozen? ⟨W0.heap.size,1,none⟩=false:=by rw [<- aJ];simp [go_sem]
 have bU:W1.cell? ⟨W0.heap.size,2,none⟩=some (.slice sa1 sn1 sc1):=by rw [<- aJ];simp [go_sem]
 have bZ:W1.frozen? ⟨W0.heap.size,2,none⟩=false:=by rw [<- aJ];simp [go_sem]
 have z2:W0.heap.size<W1.heap.size:=by rw [<- aJ];simp
 rw [aJ]
 clear aJ
 replace i0:=i0.to gb
 replace i1:=i1.to gb
 replace i2:=i2.to gb
 replace i3:=i3.to gb
 replace zb:=bS zb gb
 have bX:=Lib.hid (show ∀ W',Below W1.heap.size W1 W'->(Bx7 W' w.heap.size (.int .i64 op) (.int .i64 to) (.int .i64 (R1:Int)) (.int .i64 xb) (.bool ng) (.slice a0 n0 c0) (.slice a1 n1 c1)/\Bx3 W' (w.heap.size+1) (.bool false) (.slice none 0 0) (.slice none 0 0)/\Bx3 W' W0.heap.size (.bool nr1) (.slice ra1 rn1 rc1) (.slice sa1 sn1 sc1)) from fun W' hb => by
   refine ⟨bx7 hb ?_ ?_ ?_ ?_ ?_ ?_ ?_ ?_ ?_ ?_ ?_ ?_ ?_ ?_,bx3 hb ?_ ?_ ?_ ?_ ?_ ?_,bx3 hb ?_ ?_ ?_ ?_ ?_ ?_⟩
   all_goals first|assumption|assumption)
 replace gb:=Below.refl W1.heap.size W1
 go_wp2_with fail
 have nzx_e0:mB≠w.heap.size+1:=by omega
 have nzx_e1:mB≠w.heap.size+1:=by omega
 have nzx_t10:g≠w.heap.size+1:=by omega
 have nzx_t11:g≠w.heap.size+1:=by omega
 have nzx_t12:g≠w.heap.size+1:=by omega
 have nz0:w.heap.size≠w.heap.size+1:=by omega
 have nz2:W0.heap.size≠w.heap.size+1:=by omega
 go_region_held3 (fun W' => W'.cell? ⟨w.heap.size,0,none⟩=some (.int .i64 op)/\W'.cell? ⟨w.heap.size,1,none⟩=some (.int .i64 to)/\W'.cell? ⟨w.heap.size,2,none⟩=some (.int .i64 (R1:Int))/\W'.cell? ⟨w.heap.size,3,none⟩=some (.int .i64 xb)/\W'.cell? ⟨w.heap.size,4,none⟩=some (.bool ng)/\W'.cell? ⟨w.heap.size,5,none⟩=some (.slice a0 n0 c0)/\W'.cell? ⟨w.heap.size,6,none⟩=some (.slice a1 n1 c1)/\W'.cell? ⟨W0.heap.size,0,none⟩=some (.bool nr1)/\W'.cell? ⟨W0.heap.size,1,none⟩=some (.slice ra1 rn1 rc1)/\W'.cell? ⟨W0.heap.size,2,none⟩=some (.slice sa1 sn1 sc1)/\W'.cell? ⟨mB,0,none⟩=some (u)/\W'.cell? ⟨mB,1,none⟩=some (.slice (some ⟨g,0,none⟩) N N)/\W'.cell? ⟨g,R1*3,none⟩=some (.bool nr1)/\W'.cell? ⟨g,R1*3+1,none⟩=some (.slice ra1 rn1 rc1)/\W'.cell? ⟨g,R1*3+2,none⟩=some (.slice sa1 sn1 sc1)) (first|(with_reducible exact ⟨ae,af,ah,az,aA,aP,aQ,bl,bm,bU,e0,e1,t10,t11,t12⟩)|(with_reducible exact ⟨cP (cP (cP (ae) (.inl nz0) _) (.inl nz0) _) (.inl nz0) _,cP (cP (cP (af) (.inl nz0) _) (.inl nz0) _) (.inl nz0) _,cP (cP (cP (ah) (.inl nz0) _) (.inl nz0) _) (.inl nz0) _,cP (cP (cP (az) (.inl nz0) _) (.inl nz0) _) (.inl nz0) _,cP (cP (cP (aA) (.inl nz0) _) (.inl nz0) _) (.inl nz0) _,cP (cP (cP (aP) (.inl nz0) _) (.inl nz0) _) (.inl nz0) _,cP (cP (cP (aQ) (.inl nz0) _) (.inl nz0) _) (.inl nz0) _,cP (cP (cP (bl) (.inl nz2) _) (.inl nz2) _) (.inl nz2) _,cP (cP (cP (bm) (.inl nz2) _) (.inl nz2) _) (.inl nz2) _,cP (cP (cP (bU) (.inl nz2) _) (.inl nz2) _) (.inl nz2) _,cP (cP (cP (e0) (.inl nzx_e0) _) (.inl nzx_e0) _) (.inl nzx_e0) _,cP (cP (cP (e1) (.inl nzx_e1) _) (.inl nzx_e1) _) (.inl nzx_e1) _,cP (cP (cP (t10) (.inl nzx_t10) _) (.inl nzx_t10) _) (.inl nzx_t10) _,cP (cP (cP (t11) (.inl nzx_t11) _) (.inl nzx_t11) _) (.inl nzx_t11) _,cP (cP (cP (t12) (.inl nzx_t12) _) (.inl nzx_t12) _) (.inl nzx_t12) _⟩)|exact ⟨ae,af,ah,az,aA,aP,aQ,bl,bm,bU,e0,e1,t10,t11,t12⟩) (first
  | (go_at_call 66;have gb:=gb.drew;(with_reducible refine (zab nr1 _ _ _ _ _ (i3.to gb).isF (m:Int) HM.out).mono ?_);rintro e w1 ⟨rfl,aS⟩;have gb:=bS gb aS;obtain ⟨⟨z0,ae,af,ah,az,aA,aP,aQ,ai,ak,al,aE,aF,be,bf⟩,⟨z1,am,an,aw,aB,aC,aD⟩,⟨z2,bl,bm,bU,bH,bJ,bZ⟩⟩:=bX.out _ gb;obtain ⟨e0,e1,e2,e3,e4⟩:=(i1.to gb);obtain ⟨t10,t11,t12⟩:=(i2.to gb)))
 all_goals
  clear hmul hneg hmax
  go_wp2_with fail
  refine (pow_neg nr1 _ _ _ _ xb _ (i3.to gb) (by omega) hsn Hx0.out Hs9.out).mono ?_
  clear ae ai af ak ah al az aE aA aF aP be aQ bf am aB an aC aw aD bl bH bm bJ bU bZ e0 e1 e2 e3 e4 t10 t11 t12
  rintro e w2 ⟨ng2,a2_,n2_,c2_,p2_,m2_,k2_,rfl,g2,aM⟩
  replace gb:=bS gb aM
  obtain ⟨⟨z0,ae,af,ah,az,aA,aP,aQ,ai,ak,al,aE,aF,be,bf⟩,⟨z1,am,an,aw,aB,aC,aD⟩,⟨z2,bl,bm,bU,bH,bJ,bZ⟩⟩:=bX.out _ gb
  obtain ⟨e0,e1,e2,e3,e4⟩:=(i1.to gb)
  obtain ⟨t10,t11,t12⟩:=(i2.to gb)
  go_wp2_with fail
  refine bodyPost_ret (zm Tryz.results98 _ _ _ _ _ _ rfl (Tri.set (x0:=.bool false) (y0:=.slice none 0 0) (z0:=.slice none 0 0) ⟨am,an,aw,aB,aC,aD⟩ _ _ _)) rfl (zbB (bS zb gb) (by omega) ?_ g2)
  first|omega|(simp;omega)

theorem zeo (mB g N:Nat) (u vJ:Value) (rows cols:Int) (op to xb:Int) (ng:Bool) (vn vd:Value) (lw1 lw2:List Nat) (R1:Nat) (nr1:Bool) (vr1 ur1:Value) {x:Rat}  (w:World) (hw:IsF w vn vd lw1 lw2) (hm:zE w mB g N u vJ rows cols) (hN:N<=100000) (hr1:R1<N) (tr1:zbu w g (R1*3) (.bool nr1) vr1 ur1) (qr1:IsK w nr1 vr1 ur1 x) (hb:-21<=xb/\xb<=21) (hg:¬ xb<0) (hg0:x=0) (hl:4096<szq x*xb.natAbs)  :
  Calls Tryz.prog 98 #[.pointer (some ⟨mB,0,none⟩),.agg #[.int .i64 op,.int .i64 to,.int .i64 (R1:Int),.int .i64 xb,.bool ng,vn,vd]] w (fun e w' => e=.returned (.tuple #[aggR false (.slice none 0 0) (.slice none 0 0),.int .i64 4])/\Below w.heap.size w w'):=by
 obtain ⟨a0,n0,c0,rfl,H0,hm0⟩:=hw.1.open
 obtain ⟨a1,n1,c1,rfl,H1,hm1⟩:=hw.2.open
 have qq:=qr1.1
 have Hx1:=zaG qq
 obtain ⟨ra1,rn1,rc1,rfl,RH1,rm1⟩:=qr1.1.1.open
 obtain ⟨sa1,sn1,sc1,rfl,SH1,sm1⟩:=qr1.1.2.1.open
 have ri1:(R1:Int)<(N:Int):=by omega
 have lm:=hm.lt
 have lt1:=tr1.lt
 have Hz:=Lib.hid (zt RH1.out)
 have Hq:=Lib.hid (zcV RH1.out SH1.out)
 have t0:((rn1:Int) == 0)=true:=by simp;exact Hz.out.2 hg0
 have tb:decide (xb<0)=false:=decide_eq_false hg
 clear hg hg0
 obtain ⟨m,hm9⟩:∃ m:Nat,max rn1 sn1=m:=⟨_,rfl⟩
 have HM:=Lib.hid (show ((max (za x.num.natAbs).length (za x.den).length:Nat):Int)=(m:Int) by rw [RH1.out,SH1.out,hm9])
 have Hm:=Lib.hid (show szq x=m by rw [Hq.out,hm9])
 have hm10:m<=1000:=by have:=Hx1.out;have:=Hm.out;omega
 obtain ⟨k,hk⟩:∃ k:Nat,xb.natAbs=k:=⟨_,rfl⟩
 have hk21:k<=21:=by omega
 have hneg:IntKind.i64.wrap (-xb)=-xb:=IntWalk.i64_in _ (by omega)
 have hmax:max xb (-xb)=(k:Int):=by omega
 have hmk:m*k<=1000*21:=Nat.mul_le_mul hm10 hk21
 obtain ⟨P,hP⟩:∃ P:Nat,m*k=P:=⟨_,rfl⟩
 have hmul:IntKind.i64.wrap ((m:Int)*(k:Int))=(P:Int):=by
  rw [<- Int.natCast_mul,hP]
  exact IntWalk.i64_in _ (by omega)
 rw [hk,Hm.out,hP] at hl
 have t4:decide (4096<P)=true:=decide_eq_true hl
 have t5:decide ((4096:Int)<(P:Int))=true:=decide_eq_true (by omega)
 clear hl hm9 hP hk hmk
 go_enter Tryz.func98,Tryz.ntmps98
 go_wp2_with fail
 obtain ⟨W0,ap⟩:∃ W0,(w.alloc (.cells #[.int .i64 op,.int .i64 to,.int .i64 (R1:Int),.int .i64 xb,.bool ng,.slice a0 n0 c0,.slice a1 n1 c1] 49)).alloc (.cells #[.bool false,.slice none 0 0,.slice none 0 0] 47)=W0:=⟨_,rfl⟩
 have aq:=Lib.hid (show ∀ W',Below W0.heap.size W0 W'->(Bx7 W' w.heap.size (.int .i64 op) (.int .i64 to) (.int .i64 (R1:Int)) (.int .i64 xb) (.bool ng) (.slice a0 n0 c0) (.slice a1 n1 c1)/\Bx3 W' (w.heap.size+1) (.bool false) (.slice none 0 0) (.slice none 0 0)) from fun W' hb => by
   refine ⟨bx7 hb ?_ ?_ ?_ ?_ ?_ ?_ ?_ ?_ ?_ ?_ ?_ ?_ ?_ ?_,bx3 hb ?_ ?_ ?_ ?_ ?_ ?_⟩
   all_goals first|assumption|(rw [<- ap];simp [go_sem]))
 have zb:Below w.heap.size w W0:=by rw [<- ap];exact bS (bN _ _) (bN _ _)
 rw [ap]
 clear ap
 have i0:=hw.to zb
 have i1:=hm.to zb
 have i2:=tr1.to zb
 have i3:=qq.to zb
 have gb:Below W0.heap.size W0 W0:=Below.refl _ _
 obtain ⟨⟨z0,ae,af,ah,az,aA,aP,aQ,ai,ak,al,aE,aF,be,bf⟩,⟨z1,am,an,aw,aB,aC,aD⟩⟩:=aq.out _ gb
 obtain ⟨e0,e1,e2,e3,e4⟩:=(i1.to gb)
 obtain ⟨t10,t11,t12⟩:=(i2.to gb)
 go_wp2_with fail
 have gba:Below W0.heap.size W0 (W0.alloc (.cells #[.bool false,.slice none 0 0,.slice none 0 0] 47)):=bS gb (bN _ _)
 obtain ⟨⟨az0,ax0_0,ax0_1,ax0_2,ax0_3,ax0_4,ax0_5,ax0_6,ay0_0,ay0_1,ay0_2,ay0_3,ay0_4,ay0_5,ay0_6⟩,⟨az1,ax1_0,ax1_1,ax1_2,ay1_0,ay1_1,ay1_2⟩⟩:=aq.out _ gba
 obtain ⟨ae0,ae1,ae2,ae3,ae4⟩:=(i1.to gba)
 obtain ⟨at10,at11,at12⟩:=(i2.to gba)
 go_region
 clear gba ax0_0 ay0_0 ax0_1 ay0_1 ax0_2 ay0_2 ax0_3 ay0_3 ax0_4 ay0_4 ax0_5 ay0_5 ax0_6 ay0_6 ax1_0 ay1_0 ax1_1 ay1_1 ax1_2 ay1_2 az0 az1 ae0 ae1 ae2 ae3 ae4 at10 at11 at12
 obtain ⟨W1,aJ⟩:∃ W1,(W0.alloc (.cells #[.bool nr1,.slice ra1 rn1 rc1,.slice sa1 sn1 sc1] 47)).drew=W1:=⟨_,rfl⟩
 have hb_W1:Below W0.heap.size W0 W1:=by rw [<- aJ];exact (bN _ _).drew
 have cD:Hid (W1.heap.size=W0.heap.size+1):=by show _=_;rw [<- aJ];simp
 clear ae ai af ak ah al az aE aA aF aP be aQ bf am aB an aC aw aD e0 e1 e2 e3 e4 t10 t11 t12
 replace gb:=bS gb hb_W1
 obtain ⟨⟨z0,ae,af,ah,az,aA,aP,aQ,ai,ak,al,aE,aF,be,bf⟩,⟨z1,am,an,aw,aB,aC,aD⟩⟩:=aq.out _ gb
 obtain ⟨e0,e1,e2,e3,e4⟩:=(i1.to gb)
 obtain ⟨t10,t11,t12⟩:=(i2.to gb)
 have bl:W1.cell? ⟨W0.heap.size,0,none⟩=some (.bool nr1):=by rw [<- aJ];simp [go_sem]
 have bH:W1.frozen? ⟨W0.heap.size,0,none⟩=false:=by rw [<- aJ];simp [go_sem]
 have bm:W1.cell? ⟨W0.heap.size,1,none⟩=some (.slice ra1 rn1 rc1):=by rw [<- aJ];simp [go_sem]
 have bJ:W1.frozen? ⟨W0.heap.size,1,none⟩=false:=by rw [<- aJ];simp [go_sem]
 have bU:W1.cell? ⟨W0.heap.size,2,none⟩=some (.slice sa1 sn1 sc1):=by rw [<- aJ];simp [go_sem]
 have bZ:W1.frozen? ⟨W0.heap.size,2,none⟩=false:=by rw [<- aJ];simp [go_sem]
 have z2:W0.heap.size<W1.heap.size:=by rw [<- aJ];simp
 rw [aJ]
 clear aJ
 replace i0:=i0.to gb
 replace i1:=i1.to gb
 replace i2:=i2.to gb
 replace i3:=i3.to gb
 replace zb:=bS zb gb
 have bX:=Lib.hid (show ∀ W',Below W1.heap.size W1 W'->(Bx7 W' w.heap.size (.int .i64 op) (.int .i64 to) (.int .i64 (R1:Int)) (.int .i64 xb) (.bool ng) (.slice a0 n0 c0) (.slice a1 n1 c1)/\Bx3 W' (w.heap.size+1) (.bool false) (.slice none 0 0) (.slice none 0 0)/\Bx3 W' W0.heap.size (.bool nr1) (.slice ra1 rn1 rc1) (.slice sa1 sn1 sc1)) from fun W' hb => by
   refine ⟨bx7 hb ?_ ?_ ?_ ?_ ?_ ?_ ?_ ?_ ?_ ?_ ?_ ?_ ?_ ?_,bx3 hb ?_ ?_ ?_ ?_ ?_ ?_,bx3 hb ?_ ?_ ?_ ?_ ?_ ?_⟩
   all_goals first|assumption|assumption)
 replace gb:=Below.refl W1.heap.size W1
 go_wp2_with fail
 have nzx_e0:mB≠w.heap.size+1:=by omega
 have nzx_e1:mB≠w.heap.size+1:=by omega
 have nzx_t10:g≠w.heap.size+1:=by omega
 have nzx_t11:g≠w.heap.size+1:=by omega
 have nzx_t12:g≠w.heap.size+1:=by omega
 have nz0:w.heap.size≠w.heap.size+1:=by omega
 have nz2:W0.heap.size≠w.heap.size+1:=by omega
 go_region_held3 (fun W' => W'.cell? ⟨w.heap.size,0,none⟩=some (.int .i64 op)/\W'.cell? ⟨w.heap.size,1,none⟩=some (.int .i64 to)/\W'.cell? ⟨w.heap.size,2,none⟩=some (.int .i64 (R1:Int))/\W'.cell? ⟨w.heap.size,3,none⟩=some (.int .i64 xb)/\W'.cell? ⟨w.heap.size,4,none⟩=some (.bool ng)/\W'.cell? ⟨w.heap.size,5,none⟩=some (.slice a0 n0 c0)/\W'.cell? ⟨w.heap.size,6,none⟩=some (.slice a1 n1 c1)/\W'.cell? ⟨W0.heap.size,0,none⟩=some (.bool nr1)/\W'.cell? ⟨W0.heap.size,1,none⟩=some (.slice ra1 rn1 rc1)/\W'.cell? ⟨W0.heap.size,2,none⟩=some (.slice sa1 sn1 sc1)/\W'.cell? ⟨mB,0,none⟩=some (u)/\W'.cell? ⟨mB,1,none⟩=some (.slice (some ⟨g,0,none⟩) N N)/\W'.cell? ⟨g,R1*3,none⟩=some (.bool nr1)/\W'.cell? ⟨g,R1*3+1,none⟩=some (.slice ra1 rn1 rc1)/\W'.cell? ⟨g,R1*3+2,none⟩=some (.slice sa1 sn1 sc1)) (first|(with_reducible exact ⟨ae,af,ah,az,aA,aP,aQ,bl,bm,bU,e0,e1,t10,t11,t12⟩)|(with_reducible exact ⟨cP (cP (cP (ae) (.inl nz0) _) (.inl nz0) _) (.inl nz0) _,cP (cP (cP (af) (.inl nz0) _) (.inl nz0) _) (.inl nz0) _,cP (cP (cP (ah) (.inl nz0) _) (.inl nz0) _) (.inl nz0) _,cP (cP (cP (az) (.inl nz0) _) (.inl nz0) _) (.inl nz0) _,cP (cP (cP (aA) (.inl nz0) _) (.inl nz0) _) (.inl nz0) _,cP (cP (cP (aP) (.inl nz0) _) (.inl nz0) _) (.inl nz0) _,cP (cP (cP (aQ) (.inl nz0) _) (.inl nz0) _) (.inl nz0) _,cP (cP (cP (bl) (.inl nz2) _) (.inl nz2) _) (.inl nz2) _,cP (cP (cP (bm) (.inl nz2) _) (.inl nz2) _) (.inl nz2) _,cP (cP (cP (bU) (.inl nz2) _) (.inl nz2) _) (.inl nz2) _,cP (cP (cP (e0) (.inl nzx_e0) _) (.inl nzx_e0) _) (.inl nzx_e0) _,cP (cP (cP (e1) (.inl nzx_e1) _) (.inl nzx_e1) _) (.inl nzx_e1) _,cP (cP (cP (t10) (.inl nzx_t10) _) (.inl nzx_t10) _) (.inl nzx_t10) _,cP (cP (cP (t11) (.inl nzx_t11) _) (.inl nzx_t11) _) (.inl nzx_t11) _,cP (cP (cP (t12) (.inl nzx_t12) _) (.inl nzx_t12) _) (.inl nzx_t12) _⟩)|exact ⟨ae,af,ah,az,aA,aP,aQ,bl,bm,bU,e0,e1,t10,t11,t12⟩) (first
  | (go_at_call 66;have gb:=gb.drew;(with_reducible refine (zab nr1 _ _ _ _ _ (i3.to gb).isF (m:Int) HM.out).mono ?_);rintro e w1 ⟨rfl,aS⟩;have gb:=bS gb aS;obtain ⟨⟨z0,ae,af,ah,az,aA,aP,aQ,ai,ak,al,aE,aF,be,bf⟩,⟨z1,am,an,aw,aB,aC,aD⟩,⟨z2,bl,bm,bU,bH,bJ,bZ⟩⟩:=bX.out _ gb;obtain ⟨e0,e1,e2,e3,e4⟩:=(i1.to gb);obtain ⟨t10,t11,t12⟩:=(i2.to gb)))
 all_goals
  clear hmul hneg hmax
  go_wp2_with fail
  exact bodyPost_ret (zm Tryz.results98 _ _ _ _ _ _ rfl (Tri.set (x0:=.bool false) (y0:=.slice none 0 0) (z0:=.slice none 0 0) ⟨am,an,aw,aB,aC,aD⟩ _ _ _)) rfl ⟨rfl,bT (bS zb gb) (by omega) _ _ _⟩

theorem zgl (mB g N:Nat) (u vJ:Value) (rows cols:Int) (op to xb:Int) (ng:Bool) (vn vd:Value) (lw1 lw2:List Nat) (R1:Nat) (nr1:Bool) (vr1 ur1:Value) {x:Rat}  (w:World) (hw:IsF w vn vd lw1 lw2) (hm:zE w mB g N u vJ rows cols) (hN:N<=100000) (hr1:R1<N) (tr1:zbu w g (R1*3) (.bool nr1) vr1 ur1) (qr1:IsK w nr1 vr1 ur1 x) (hb:-21<=xb/\xb<=21) (hg:¬ xb<0) (hg0:x=0) (hsn:0<=xb) (hl:szq x*xb.toNat<=999)  :
  Calls Tryz.prog 98 #[.pointer (some ⟨mB,0,none⟩),.agg #[.int .i64 op,.int .i64 to,.int .i64 (R1:Int),.int .i64 xb,.bool ng,vn,vd]] w (zD w (x ^ xb.toNat)):=by
 obtain ⟨a0,n0,c0,rfl,H0,hm0⟩:=hw.1.open
 obtain ⟨a1,n1,c1,rfl,H1,hm1⟩:=hw.2.open
 have qq:=qr1.1
 have Hx1:=zaG qq
 obtain ⟨ra1,rn1,rc1,rfl,RH1,rm1⟩:=qr1.1.1.open
 obtain ⟨sa1,sn1,sc1,rfl,SH1,sm1⟩:=qr1.1.2.1.open
 have ri1:(R1:Int)<(N:Int):=by omega
 have lm:=hm.lt
 have lt1:=tr1.lt
 have Hz:=Lib.hid (zt RH1.out)
 have Hq:=Lib.hid (zcV RH1.out SH1.out)
 have t0:((rn1:Int) == 0)=true:=by simp;exact Hz.out.2 hg0
 have tb:decide (xb<0)=false:=decide_eq_false hg
 clear hg hg0
 have Hs9:=Lib.hid hl
 obtain ⟨m,hm9⟩:∃ m:Nat,max rn1 sn1=m:=⟨_,rfl⟩
 have HM:=Lib.hid (show ((max (za x.num.natAbs).length (za x.den).length:Nat):Int)=(m:Int) by rw [RH1.out,SH1.out,hm9])
 have Hm:=Lib.hid (show szq x=m by rw [Hq.out,hm9])
 have hm10:m<=1000:=by have:=Hx1.out;have:=Hm.out;omega
 obtain ⟨k,hk⟩:∃ k:Nat,xb.natAbs=k:=⟨_,rfl⟩
 have hk21:k<=21:=by omega
 have hneg:IntKind.i64.wrap (-xb)=-xb:=IntWalk.i64_in _ (by omega)
 have hmax:max xb (-xb)=(k:Int):=by omega
 have hmk:m*k<=1000*21:=Nat.mul_le_mul hm10 hk21
 obtain ⟨P,hP⟩:∃ P:Nat,m*k=P:=⟨_,rfl⟩
 have hmul:IntKind.i64.wrap ((m:Int)*(k:Int))=(P:Int):=by
  rw [<- Int.natCast_mul,hP]
  exact IntWalk.i64_in _ (by omega)
 rw [show xb.toNat=k by omega,Hm.out,hP] at hl
 have t4:decide (4096<P)=false:=decide_eq_false (by omega)
 have t5:decide ((4096:Int)<(P:Int))=false:=decide_eq_false (by omega)
 clear hl hm9 hP hk hmk
 go_enter Tryz.func98,Tryz.ntmps98
 go_wp2_with fail
 obtain ⟨W0,ap⟩:∃ W0,(w.alloc (.cells #[.int .i64 op,.int .i64 to,.int .i64 (R1:Int),.int .i64 xb,.bool ng,.slice a0 n0 c0,.slice a1 n1 c1] 49)).alloc (.cells #[.bool false,.slice none 0 0,.slice none 0 0] 47)=W0:=⟨_,rfl⟩
 have aq:=Lib.hid (show ∀ W',Below W0.heap.size W0 W'->(Bx7 W' w.heap.size (.int .i64 op) (.int .i64 to) (.int .i64 (R1:Int)) (.int .i64 xb) (.bool ng) (.slice a0 n0 c0) (.slice a1 n1 c1)/\Bx3 W' (w.heap.size+1) (.bool false) (.slice none 0 0) (.slice none 0 0)) from fun W' hb => by
   refine ⟨bx7 hb ?_ ?_ ?_ ?_ ?_ ?_ ?_ ?_ ?_ ?_ ?_ ?_ ?_ ?_,bx3 hb ?_ ?_ ?_ ?_ ?_ ?_⟩
   all_goals first|assumption|(rw [<- ap];simp [go_sem]))
 have zb:Below w.heap.size w W0:=by rw [<- ap];exact bS (bN _ _) (bN _ _)
 rw [ap]
 clear ap
 have i0:=hw.to zb
 have i1:=hm.to zb
 have i2:=tr1.to zb
 have i3:=qq.to zb
 have gb:Below W0.heap.size W0 W0:=Below.refl _ _
 obtain ⟨⟨z0,ae,af,ah,az,aA,aP,aQ,ai,ak,al,aE,aF,be,bf⟩,⟨z1,am,an,aw,aB,aC,aD⟩⟩:=aq.out _ gb
 obtain ⟨e0,e1,e2,e3,e4⟩:=(i1.to gb)
 obtain ⟨t10,t11,t12⟩:=(i2.to gb)
 go_wp2_with fail
 have gba:Below W0.heap.size W0 (W0.alloc (.cells #[.bool false,.slice none 0 0,.slice none 0 0] 47)):=bS gb (bN _ _)
 obtain ⟨⟨az0,ax0_0,ax0_1,ax0_2,ax0_3,ax0_4,ax0_5,ax0_6,ay0_0,ay0_1,ay0_2,ay0_3,ay0_4,ay0_5,ay0_6⟩,⟨az1,ax1_0,ax1_1,ax1_2,ay1_0,ay1_1,ay1_2⟩⟩:=aq.out _ gba
 obtain ⟨ae0,ae1,ae2,ae3,ae4⟩:=(i1.to gba)
 obtain ⟨at10,at11,at12⟩:=(i2.to gba)
 go_region
 clear gba ax0_0 ay0_0 ax0_1 ay0_1 ax0_2 ay0_2 ax0_3 ay0_3 ax0_4 ay0_4 ax0_5 ay0_5 ax0_6 ay0_6 ax1_0 ay1_0 ax1_1 ay1_1 ax1_2 ay1_2 az0 az1 ae0 ae1 ae2 ae3 ae4 at10 at11 at12
 obtain ⟨W1,aJ⟩:∃ W1,(W0.alloc (.cells #[.bool nr1,.slice ra1 rn1 rc1,.slice sa1 sn1 sc1] 47)).drew=W1:=⟨_,rfl⟩
 have hb_W1:Below W0.heap.size W0 W1:=by rw [<- aJ];exact (bN _ _).drew
 have cD:Hid (W1.heap.size=W0.heap.size+1):=by show _=_;rw [<- aJ];simp
 clear ae ai af ak ah al az aE aA aF aP be aQ bf am aB an aC aw aD e0 e1 e2 e3 e4 t10 t11 t12
 replace gb:=bS gb hb_W1
 obtain ⟨⟨z0,ae,af,ah,az,aA,aP,aQ,ai,ak,al,aE,aF,be,bf⟩,⟨z1,am,an,aw,aB,aC,aD⟩⟩:=aq.out _ gb
 obtain ⟨e0,e1,e2,e3,e4⟩:=(i1.to gb)
 obtain ⟨t10,t11,t12⟩:=(i2.to gb)
 have bl:W1.cell? ⟨W0.heap.size,0,none⟩=some (.bool nr1):=by rw [<- aJ];simp [go_sem]
 have bH:W1.frozen? ⟨W0.heap.size,0,none⟩=false:=by rw [<- aJ];simp [go_sem]
 have bm:W1.cell? ⟨W0.heap.size,1,none⟩=some (.slice ra1 rn1 rc1):=by rw [<- aJ];simp [go_sem]
 have bJ:W1.frozen? ⟨W0.heap.size,1,none⟩=false:=by rw [<- aJ];simp [go_sem]
 have bU:W1.cell? ⟨W0.heap.size,2,none⟩=some (.slice sa1 sn1 sc1):=by rw [<- aJ];simp [go_sem]
 have bZ:W1.frozen? ⟨W0.heap.size,2,none⟩=false:=by rw [<- aJ];simp [go_sem]
 have z2:W0.heap.size<W1.heap.size:=by rw [<- aJ];simp
 rw [aJ]
 clear aJ
 replace i0:=i0.to gb
 replace i1:=i1.to gb
 replace i2:=i2.to gb
 replace i3:=i3.to gb
 replace zb:=bS zb gb
 have bX:=Lib.hid (show ∀ W',Below W1.heap.size W1 W'->(Bx7 W' w.heap.size (.int .i64 op) (.int .i64 to) (.int .i64 (R1:Int)) (.int .i64 xb) (.bool ng) (.slice a0 n0 c0) (.slice a1 n1 c1)/\Bx3 W' (w.heap.size+1) (.bool false) (.slice none 0 0) (.slice none 0 0)/\Bx3 W' W0.heap.size (.bool nr1) (.slice ra1 rn1 rc1) (.slice sa1 sn1 sc1)) from fun W' hb => by
   refine ⟨bx7 hb ?_ ?_ ?_ ?_ ?_ ?_ ?_ ?_ ?_ ?_ ?_ ?_ ?_ ?_,bx3 hb ?_ ?_ ?_ ?_ ?_ ?_,bx3 hb ?_ ?_ ?_ ?_ ?_ ?_⟩
   all_goals first|assumption|assumption)
 replace gb:=Below.refl W1.heap.size W1
 go_wp2_with fail
 have nzx_e0:mB≠w.heap.size+1:=by omega
 have nzx_e1:mB≠w.heap.size+1:=by omega
 have nzx_t10:g≠w.heap.size+1:=by omega
 have nzx_t11:g≠w.heap.size+1:=by omega
 have nzx_t12:g≠w.heap.size+1:=by omega
 have nz0:w.heap.size≠w.heap.size+1:=by omega
 have nz2:W0.heap.size≠w.heap.size+1:=by omega
 go_region_held3 (fun W' => W'.cell? ⟨w.heap.size,0,none⟩=some (.int .i64 op)/\W'.cell? ⟨w.heap.size,1,none⟩=some (.int .i64 to)/\W'.cell? ⟨w.heap.size,2,none⟩=some (.int .i64 (R1:Int))/\W'.cell? ⟨w.heap.size,3,none⟩=some (.int .i64 xb)/\W'.cell? ⟨w.heap.size,4,none⟩=some (.bool ng)/\W'.cell? ⟨w.heap.size,5,none⟩=some (.slice a0 n0 c0)/\W'.cell? ⟨w.heap.size,6,none⟩=some (.slice a1 n1 c1)/\W'.cell? ⟨W0.heap.size,0,none⟩=some (.bool nr1)/\W'.cell? ⟨W0.heap.size,1,none⟩=some (.slice ra1 rn1 rc1)/\W'.cell? ⟨W0.heap.size,2,none⟩=some (.slice sa1 sn1 sc1)/\W'.cell? ⟨mB,0,none⟩=some (u)/\W'.cell? ⟨mB,1,none⟩=some (.slice (some ⟨g,0,none⟩) N N)/\W'.cell? ⟨g,R1*3,none⟩=some (.bool nr1)/\W'.cell? ⟨g,R1*3+1,none⟩=some (.slice ra1 rn1 rc1)/\W'.cell? ⟨g,R1*3+2,none⟩=some (.slice sa1 sn1 sc1)) (first|(with_reducible exact ⟨ae,af,ah,az,aA,aP,aQ,bl,bm,bU,e0,e1,t10,t11,t12⟩)|(with_reducible exact ⟨cP (cP (cP (ae) (.inl nz0) _) (.inl nz0) _) (.inl nz0) _,cP (cP (cP (af) (.inl nz0) _) (.inl nz0) _) (.inl nz0) _,cP (cP (cP (ah) (.inl nz0) _) (.inl nz0) _) (.inl nz0) _,cP (cP (cP (az) (.inl nz0) _) (.inl nz0) _) (.inl nz0) _,cP (cP (cP (aA) (.inl nz0) _) (.inl nz0) _) (.inl nz0) _,cP (cP (cP (aP) (.inl nz0) _) (.inl nz0) _) (.inl nz0) _,cP (cP (cP (aQ) (.inl nz0) _) (.inl nz0) _) (.inl nz0) _,cP (cP (cP (bl) (.inl nz2) _) (.inl nz2) _) (.inl nz2) _,cP (cP (cP (bm) (.inl nz2) _) (.inl nz2) _) (.inl nz2) _,cP (cP (cP (bU) (.inl nz2) _) (.inl nz2) _) (.inl nz2) _,cP (cP (cP (e0) (.inl nzx_e0) _) (.inl nzx_e0) _) (.inl nzx_e0) _,cP (cP (cP (e1) (.inl nzx_e1) _) (.inl nzx_e1) _) (.inl nzx_e1) _,cP (cP (cP (t10) (.inl nzx_t10) _) (.inl nzx_t10) _) (.inl nzx_t10) _,cP (cP (cP (t11) (.inl nzx_t11) _) (.inl nzx_t11) _) (.inl nzx_t11) _,cP (cP (cP (t12) (.inl nzx_t12) _) (.inl nzx_t12) _) (.inl nzx_t12) _⟩)|exact ⟨ae,af,ah,az,aA,aP,aQ,bl,bm,bU,e0,e1,t10,t11,t12⟩) (first
  | (go_at_call 66;have gb:=gb.drew;(with_reducible refine (zab nr1 _ _ _ _ _ (i3.to gb).isF (m:Int) HM.out).mono ?_);rintro e w1 ⟨rfl,aS⟩;have gb:=bS gb aS;obtain ⟨⟨z0,ae,af,ah,az,aA,aP,aQ,ai,ak,al,aE,aF,be,bf⟩,⟨z1,am,an,aw,aB,aC,aD⟩,⟨z2,bl,bm,bU,bH,bJ,bZ⟩⟩:=bX.out _ gb;obtain ⟨e0,e1,e2,e3,e4⟩:=(i1.to gb);obtain ⟨t10,t11,t12⟩:=(i2.to gb)))
 all_goals
  clear hmul hneg hmax
  go_wp2_with fail
  refine (pow_pos nr1 _ _ _ _ xb _ (i3.to gb) hsn (by omega) Hs9.out).mono ?_
  clear ae ai af ak ah al az aE aA aF aP be aQ bf am aB an aC aw aD bl bH bm bJ bU bZ e0 e1 e2 e3 e4 t10 t11 t12
  rintro e w2 ⟨ng2,a2_,n2_,c2_,p2_,m2_,k2_,rfl,g2,aM⟩
  replace gb:=bS gb aM
  obtain ⟨⟨z0,ae,af,ah,az,aA,aP,aQ,ai,ak,al,aE,aF,be,bf⟩,⟨z1,am,an,aw,aB,aC,aD⟩,⟨z2,bl,bm,bU,bH,bJ,bZ⟩⟩:=bX.out _ gb
  obtain ⟨e0,e1,e2,e3,e4⟩:=(i1.to gb)
  obtain ⟨t10,t11,t12⟩:=(i2.to gb)
  go_wp2_with fail
  refine bodyPost_ret (zm Tryz.results98 _ _ _ _ _ _ rfl (Tri.set (x0:=.bool false) (y0:=.slice none 0 0) (z0:=.slice none 0 0) ⟨am,an,aw,aB,aC,aD⟩ _ _ _)) rfl (zbB (bS zb gb) (by omega) ?_ g2)
  first|omega|(simp;omega)

end Go.Proofs.YtkjcdnlpjldhaaaGreat


namespace Go.Proofs.YtkjcdnlpjldhaaaGreat
open Go.RowKit Tw

theorem zdm:∀ n:Nat,0<(cnt n).length/\(cnt n).length<=n+1
 | n => by
  by_cases h:n<128
  ·rw [zdd h];simp
  ·rw [zeK h,List.length_cons]
   have:=zdm (n / 128)
   omega

theorem zjt {w:Nat} (h:w<4294967296):∀ x ∈ zat w,x<256:=by
 intro x hx
 unfold zat at hx
 simp only [List.mem_cons,List.not_mem_nil,or_false] at hx
 omega

section

variable {w w' w2:World} {v:Value} {l l2:List Nat} {base:Nat} {row row':Option Nat}

theorem zav (h:w.grownBy w' row) (h2:w'.grownBy w2 row') (hr:row'=row\/∀ k,row'=some k->w.heap.size<=k):w.grownBy w2 row :=
 ⟨h2.os.trans h.os,h2.tape.trans h.tape,h2.output.trans h.output,Nat.le_trans h.size h2.size,fun k hk hne => by
  rw [h2.block k (Nat.lt_of_lt_of_le hk h.size) ?_,h.block k hk hne]
  rcases hr with e|e
  ·rw [e];exact hne
  ·intro e2;have:=e k e2.symm;omega⟩

theorem Below.grows (h:Below w.heap.size w w') (row:Option Nat):w.grownBy w' row:=⟨h.os,h.tape,h.output,h.size,fun k hk _ => h.block k hk⟩

theorem zhd (h:w.grownBy w' row) (hr:∀ k,row=some k->base<=k) (hb:base<=w.heap.size):Below base w w' :=
 ⟨h.os,h.tape,h.output,h.size,fun k hk => h.block k (by omega) (fun e => by have:=hr k e.symm;omega)⟩

theorem zca (h:w.grownBy w' row) (o:Obj):w.grownBy (w'.alloc o) row:=zav h (Below.grows (bN w' o) none) (.inr (fun k e => by cases e))

theorem zeN (w:World) (row:Option Nat):w.grownBy w row:=⟨rfl,rfl,rfl,Nat.le_refl _,fun _ _ _ => rfl⟩

theorem zeM (h:w.grownBy w' row):w.grownBy w'.drew row:=⟨h.os,h.tape,h.output,h.size,h.block⟩

theorem zR.grown (h:zR base w v l) (hg:w.grownBy w' row) (hne:row≠v.ownBlock\/v.ownBlock=none):zR base w' v l:=by
 refine ⟨h.1,h.2.1,?_⟩
 rcases h.2.2 with h2|⟨g,cap,cur,hv,hg',hh,r⟩
 ·exact .inl h2
 ·subst hv
  refine .inr ⟨g,cap,cur,rfl,hg',?_,r⟩
  rw [hg.block g (Array.getElem?_eq_some_iff.1 hh).1 ?_]
  ·exact hh
  ·rcases hne with e|e
   ·exact fun k => e k.symm
   ·cases e

theorem zR.lt (h:zR base w v l):∀ k,v.ownBlock=some k->base<=k/\k<w.heap.size:=World.ownsRow.lt h.2

theorem Far.of_rd (h:Rd w v l) {row:Option Nat} (hr:∀ k,row=some k->w.heap.size<=k):Far v row:=by
 intro b o n c e hn k
 have:=hr b k
 rcases h.2 with ⟨_,a,cap,hv,_⟩|⟨b',off,cap,hv,hl,hc,hm,hcell⟩
 ·rw [hv] at e
  injection e with e1 e2 e3
  omega
 ·rw [hv] at e
  injection e with e1 e2 e3
  injection e1 with e1
  injection e1 with e1 e4
  have h1:=zj (hcell 0 hl)
  omega

theorem zcN (w:World) {ops:Array Oper} {rest:List Oper} {o:Oper} {a:Act} {Q:Exit->Act->World->Prop} (hg:o.guard=none)
  (s x:Operand) (ho:o.op=Op.call { callee:=Callee.builtin Builtin.append,args:=#[s,x],argTypes:=#[54,54] })
  (v:Value) (l l2:List Nat) (b2 n2 c2:Nat) (hs:a.eval s=v) (hx:a.eval x=.slice (some ⟨b2,0,none⟩) n2 c2) (hown:zR 0 w v l)
  (hl2:l2.length=n2) (h0:0<n2) (h256:∀ x ∈ l2,x<256) (hcell:∀ j,j<l2.length->w.cell? ⟨b2,j,none⟩=some (u8v (nth l2 j))) (hn:l.length+n2<=1099511627776) (H:Nat) (hH:w.heap.size=H)
  (hK:∀ g c w',zR 0 w' (.slice (some ⟨g,0,none⟩) (l.length+n2) c) (l++l2)->w.grownBy w' v.ownBlock->(v.ownBlock=some g\/g=H)->g<w'.heap.size->wpList Tryz.prog ops Q rest (a.put o.dst (.slice (some ⟨g,0,none⟩) (l.length+n2) c)) w') :
  wpList Tryz.prog ops Q (o :: rest) a w:=by
 obtain ⟨i0,hi,hz0,hz1,hz2⟩:=info_parts info8
 refine wpList_append_lies w hg s x 54 ho 0 5 i0 (.int .u8 0) 1 1 Tryz.underlying54 hi hz0 hz1 hz2 rfl (by decide) v l.length (l.map u8v) hs hown.2 ⟨b2,0,none⟩ n2 c2 (l2.map u8v)
  hx (by simp [hl2]) (fun j u hj => ?_) (fun u hu => ?_) h0 (by simp [maxLen];omega) (by omega) (Nat.zero_le _) H hH ?_
 ·by_cases hjl:j<l2.length
  ·rw [List.getElem?_map,List.getElem?_eq_getElem hjl] at hj
   have hj:=Option.some.inj hj
   subst hj
   rw [zaS,Nat.zero_add,hcell j hjl,zaf hjl]
  ·rw [List.getElem?_eq_none (by simp;omega)] at hj;cases hj
 ·obtain ⟨y,_,rfl⟩:=List.mem_map.1 hu;rfl
 ·intro g c w' hown' hgrow hat hlt
  refine hK g c w' ⟨fun y hy => ?_,?_⟩ hgrow hat hlt
  ·rcases List.mem_append.1 hy with hy|hy
   ·exact hown.1 y hy
   ·exact h256 y hy
  ·rw [List.length_append,List.map_append,hl2];exact hown'

def zfX (w:World) (v:Value) (l:List Nat) (e:Ending) (w':World):Prop :=
 ∃ g n c,e=.returned (.slice (some ⟨g,0,none⟩) n c)/\zR 0 w' (.slice (some ⟨g,0,none⟩) n c) l/\(v.ownBlock=some g\/w.heap.size<=g)/\g<w'.heap.size/\w.grownBy w' v.ownBlock

theorem zeW {v v':Value} {g H N:Nat} (hv:v'.ownBlock=v.ownBlock\/∀ k,v'.ownBlock=some k->N<=k) (hat:v'.ownBlock=some g\/g=H) (hH:N<=H):some g=v.ownBlock\/∀ k,some g=some k->N<=k:=by
 rcases hat with e|e
 ·rcases hv with k|k
  ·exact .inl (by rw [<- k,e])
  ·exact .inr (fun j ej => by injection ej with ej;subst ej;exact k _ e)
 ·exact .inr (fun j ej => by injection ej with ej;omega)

theorem zeQ {w:World} {t:TypeId} {x:Nat}:∀ j,j<[x].length->(w.alloc (.cells #[.int .u8 (x:Int)] t)).cell? ⟨w.heap.size,j,none⟩=some (u8v (nth [x] j)):=by
 intro j hj
 have:j=0:=by simp at hj;exact hj
 subst this
 simp [go_sem,nth]

theorem zjL {w:World} {t:TypeId} {x:Nat} (hx:x<4294967296):∀ j,j<(zat x).length ->
  (w.alloc (.cells #[.int .u8 ((x:Int) % 256),.int .u8 ((x:Int) / 256 % 256),.int .u8 ((x:Int) / 65536 % 256),.int .u8 ((x:Int) / 16777216 % 256)] t)).cell? ⟨w.heap.size,j,none⟩=some (u8v (nth (zat x) j)):=by
 intro j hj
 have hj4:j<4:=hj
 have e0:(x:Int) % 256=((x % 256:Nat):Int):=by omega
 have e1:(x:Int) / 256 % 256=((x / 256 % 256:Nat):Int):=by omega
 have e2:(x:Int) / 65536 % 256=((x / 65536 % 256:Nat):Int):=by omega
 have e3:(x:Int) / 16777216 % 256=((x / 16777216:Nat):Int):=by omega
 rw [e0,e1,e2,e3]
 have h4:j=0\/j=1\/j=2\/j=3:=by omega
 rcases h4 with rfl|rfl|rfl|rfl <;> simp [go_sem,nth,zat]

theorem zjr {n:Nat} (h:n<256):IntKind.u8.wrap (n:Int)=(n:Int):=by
 unfold IntKind.wrap
 simp [IntKind.signed,IntKind.bits]
 omega

end

theorem zbr (v:Value) (l:List Nat) (n:Nat) (w:World) (h:zR 0 w v l) (hn:n<268435456) (hl:l.length<=1000000000) :
  Calls Tryz.prog 49 #[v,.int .i64 n] w (zfX w v (l++cnt n)):=by
 have Hl:=Lib.hid hl
 have H:=Lib.hid h
 clear hl h
 go_enter Tryz.func49,Tryz.ntmps49
 go_wp2_with fail
 go_loopw [0,1] (fun v' i ww => ∃ (k:Nat) (l':List Nat),k<=n/\i=.int .i64 k/\zR 0 ww v' l'/\Hid (l'++cnt k=l++cnt n)/\w.grownBy ww v.ownBlock/\Hid (v'.ownBlock=v.ownBlock\/∀ g,v'.ownBlock=some g->w.heap.size<=g)) (fun _ i _ => (intOf i).toNat)
 case atStart => exact ⟨n,l,Nat.le_refl _,rfl,H.out,rfl,zeN _ _,.inl rfl⟩
 case round =>
  obtain ⟨k,l',hk,rfl,hO,HE,hg,HV⟩:=hrel
  have hlen:l'.length+(cnt k).length=l.length+(cnt n).length:=by
   have:=congrArg List.length HE.out
   rwa [List.length_append,List.length_append] at this
  have c1:=zdm k
  have c2:=zdm n
  have Hln:=Lib.hid (show l'.length+1<=1099511627776 by have:=Hl.out;omega)
  clear hlen c1 c2
  by_cases hkb:128<=k
  ·have hki:(128:Int)<=(k:Int):=by omega
   have hx:(k % 128+128)<256:=by omega
   have HX:=Lib.hid hx
   have e1:IntKind.u8.wrap ((k:Int) % 128+128)=((k % 128+128:Nat):Int):=by rw [<- zjr hx];congr 1
   clear hx
   go_wp2_with (at_builtin;refine zcN _ rfl (.tmp 7) (.tmp 12) rfl _ l' [k % 128+128] wr.heap.size 1 1 rfl rfl (hO.alloc _) rfl (by decide) (by intro x hx;rw [List.mem_singleton.1 hx];exact HX.out) zeQ Hln.out _ rfl ?_;intro g4 c4 w4 hO4 hg4 hat4 hlt4)
   go_roundw
   case rel =>
    refine ⟨k / 128,l'++[k % 128+128],by omega,by go_num,hO4,?_,?_,?_⟩
    ·show (l'++[k % 128+128])++cnt (k / 128)=_
     rw [<- HE.out,zeK (show ¬ k<128 by omega),List.append_assoc]
     rfl
    ·exact zav (zca hg _) hg4 (HV.out.imp id id)
    ·exact zeW HV.out hat4 (by have:=hg.size;simp;omega)
   case measure => simp [intOf] <;> omega
  ·have hki:¬ ((128:Int)<=(k:Int)):=by omega
   have hk':k<128:=by omega
   have e1:IntKind.u8.wrap (k:Int)=(k:Int):=zjr (by omega)
   have HK:=Lib.hid (show k<256 by omega)
   go_wp2_with (at_builtin;refine zcN _ rfl (.tmp 16) (.tmp 19) rfl _ l' [k] wr.heap.size 1 1 rfl rfl (hO.alloc _) rfl (by decide) (by intro x hx;rw [List.mem_singleton.1 hx];exact HK.out) zeQ Hln.out _ rfl ?_;intro g4 c4 w4 hO4 hg4 hat4 hlt4)
   go_ret
   exact ⟨g4,_,c4,rfl,by rw [<- HE.out,zdd hk'];exact hO4,(zeW HV.out hat4 (by have:=hg.size;simp;omega)).imp Eq.symm (fun k => k _ rfl),hlt4,zav (zca hg _) hg4 (HV.out.imp id id)⟩

theorem zhs (v sv:Value) (l ws:List Nat) (w:World) (h:zR 0 w v l) (hs:Rd w sv ws) (hw:zcB ws) (hf:Far sv v.ownBlock) (hl:l.length<=100000000) (hwl:ws.length<=1000000) :
  Calls Tryz.prog 50 #[v,sv] w (zfX w v (l++zaQ ws)):=by
 obtain ⟨a,n,cap,rfl,Hn,hm⟩:=hs.open
 have hn:n<=1000000:=by have:=Hn.out;omega
 have Hl:=Lib.hid hl
 have H:=Lib.hid h
 have Hs:=Lib.hid hs
 have Hw:=Lib.hid hw
 have Hf:=Lib.hid hf
 clear hl h hs hw hf hm hwl
 go_enter Tryz.func50,Tryz.ntmps50
 go_wp2_with fail
 refine (zbr v l n _ H.out (by omega) (by have:=Hl.out;omega)).mono ?_
 rintro e w1 ⟨g1,n1,c1,rfl,hO1,hat1,hlt1,hg1⟩
 have Hlen:=Lib.hid (zdm n)
 go_wp2_with fail
 go_loopw [0,13] (fun v' i ww => ∃ (k:Nat) (l':List Nat),k<=n/\i=.int .i64 k/\zR 0 ww v' l'/\Hid (l'++(ws.drop k).flatMap zat=l++zaQ ws)/\w.grownBy ww v.ownBlock/\Hid (v'.ownBlock=v.ownBlock\/∀ g,v'.ownBlock=some g->w.heap.size<=g)/\Hid (l'.length<=200000000+4*k)/\Hid (∃ g n' c',v'=.slice (some ⟨g,0,none⟩) n' c'/\g<ww.heap.size)) (fun _ i _ => n - (intOf i).toNat)
 case atStart => exact ⟨0,l++cnt n,Nat.zero_le _,rfl,hO1,by rw [List.drop_zero];show _=l++(cnt ws.length++_);rw [Hn.out,List.append_assoc],hg1,hat1.imp Eq.symm (fun k g e => by have e:g1=g:=Option.some.inj e;omega),by show (l++cnt n).length<=_;rw [List.length_append];have:=Hl.out;have:=Hlen.out;omega,⟨g1,_,_,rfl,hlt1⟩⟩
 case round =>
  obtain ⟨k,l',hk,rfl,hO,HE,hg,HV,HL,HX⟩:=hrel
  by_cases hkn:k<n
  ·have hki:(k:Int)<(n:Int):=by omega
   have hkl:k<ws.length:=by rw [Hn.out];exact hkn
   have hR:=Hs.out.grown hg Hf.out
   obtain ⟨b,off,rfl,hcell⟩:=hR.cells (by omega)
   have hc:=hcell k hkl
   have hxB:=hR.1 (nth ws k) (by rw [zaf hkl];exact List.getElem_mem hkl)
   obtain ⟨x,hx⟩:∃ x,nth ws k=x:=⟨_,rfl⟩
   rw [hx] at hc hxB
   clear hcell
   have HB:=Lib.hid (zjt hxB)
   have Hx:=Lib.hid hx
   have HxB:=Lib.hid hxB
   have Hln:=Lib.hid (show l'.length+4<=1099511627776 by have:=HL.out;omega)
   clear hx hxB
   go_wp2_with (at_builtin;refine zcN _ rfl (.tmp 17) (.tmp 29) rfl _ l' (zat x) wr.heap.size 4 4 rfl rfl (hO.alloc _) rfl (by decide) HB.out (zjL HxB.out) Hln.out _ rfl ?_;intro g4 c4 w4 hO4 hg4 hat4 hlt4)
   go_roundw
   case rel =>
    refine ⟨k+1,l'++zat x,by omega,by go_num,hO4,?_,zav (zca hg _) hg4 (HV.out.imp id id),zeW HV.out hat4 (by have:=hg.size;simp;omega),?_,⟨g4,_,c4,rfl,hlt4⟩⟩
    ·show (l'++zat x)++_=_
     rw [<- HE.out,List.drop_eq_getElem_cons hkl,List.flatMap_cons,<- zaf hkl,Hx.out,List.append_assoc]
    ·show (l'++zat x).length<=_
     rw [List.length_append]
     have:=HL.out
     have h4:(zat x).length=4:=rfl
     omega
   case measure => simp [intOf] <;> omega
  ·obtain rfl:k=n:=by omega
   have hki:¬ ((k:Int)<(k:Int)):=by omega
   obtain ⟨g,n',c',rfl,hglt⟩:=HX.out
   go_wp2_with fail
   go_ret
   exact ⟨g,n',c',rfl,by
    have:=HE.out
    rw [<- Hn.out,List.drop_length] at this
    rw [<- this]
    simpa using hO,HV.out.imp Eq.symm (fun j => j g rfl),hglt,hg⟩

end Go.Proofs.YtkjcdnlpjldhaaaGreat


namespace Go.Proofs.YtkjcdnlpjldhaaaGreat
open Go.RowKit Tw

theorem zha:∀ (k n:Nat),n<128 ^ (k+1)->(cnt n).length<=k+1
 | 0,n,h => by rw [zdd (by simpa using h)];exact Nat.le_refl _
 | k+1,n,h => by
  by_cases h1:n<128
  ·rw [zdd h1];simp
  ·rw [zeK h1,List.length_cons]
   have:=zha k (n / 128) (by rw [Nat.pow_succ] at h;exact Nat.div_lt_of_lt_mul (by rw [Nat.mul_comm];exact h))
   omega

theorem zT {n:Nat} (h:n<268435456):(cnt n).length<=4:=zha 3 n h

theorem zjD (l:List Nat):(l.flatMap zat).length=4*l.length:=by
 induction l with
 | nil => rfl
 | cons x t ih => rw [List.flatMap_cons,List.length_append,ih,List.length_cons];show 4+_=_;omega

theorem zbP {l:List Nat} (h:zcB l):(zaQ l).length<=4+4*l.length:=by
 unfold zaQ
 rw [List.length_append,zjD]
 have:=zT h.1
 omega

theorem zhU {x:Ins} {S:Nat} (h:Wire x) (hn:x.q.n.length<=S) (hd:x.q.d.length<=S):(zao x).length<=28+8*S:=by
 obtain ⟨⟨h0,h0'⟩,⟨h1,h1'⟩,⟨h2,h2'⟩,⟨h3,h3'⟩,h4,h5,_⟩:=h
 have k0:=zT (n:=x.op.toNat) (by omega)
 have k1:=zT (n:=x.to.toNat) (by omega)
 have k2:=zT (n:=x.a.toNat) (by omega)
 have k3:=zT (n:=(bOf x).toNat) (by omega)
 have k4:=zbP h4
 have k5:=zbP h5
 have k6:(cnt (if x.q.ng=true then 1 else 0)).length<=4:=zT (by split <;> decide)
 unfold zao
 simp only [List.length_append]
 split
 ·simp only [List.length_append];omega
 ·simp only [List.length_nil];omega

theorem zij {c:Cd} {L:List Int} {x:Ins} (hr:0<=c.regs/\c.regs<=100000) (hi:c.ins<=40) (hc:c.rows*c.cols<=1600) (hL:∀ r ∈ L,0<=r/\r<100000) (h:zA c L x=true) (hn:zcB x.q.n) (hd:zcB x.q.d):Wire x/\(x.op≠10->0<=x.to/\x.to<100000):=by
 unfold zA at h
 simp only [Bool.and_eq_true,decide_eq_true_eq] at h
 obtain ⟨⟨⟨⟨h1,h2⟩,h3⟩,h4⟩,h5,h6⟩:=h
 have hop:0<=x.op/\x.op<=10:=by
  unfold zi at h1
  split at h1
  ·omega
  ·split at h1
   ·omega
   ·split at h1
    ·omega
    ·omega
 have hto:x.to<100000:=by
  unfold zK at h6
  split at h6 <;> omega
 have ha:0<=x.a/\x.a<100000:=by
  unfold aOk at h3
  split at h3
  ·simp only [decide_eq_true_eq] at h3;omega
  ·split at h3
   ·simp only [decide_eq_true_eq] at h3;omega
   ·exact hL _ (of_decide_eq_true h3)
 have hb:0<=bOf x/\bOf x<100000:=by
  unfold bOf
  unfold bOk at h4
  split at h4
  ·rename_i e
   rw [if_pos e]
   simp only [decide_eq_true_eq] at h4;omega
  ·rename_i e
   rw [if_neg e]
   split at h4
   ·exact hL _ (of_decide_eq_true h4)
   ·simp only [decide_eq_true_eq] at h4;omega
 refine ⟨⟨by omega,by omega,by omega,by omega,hn,hd,fun e => ?_⟩,fun _ => by omega⟩
 unfold zcd at h2
 rw [if_neg e] at h2
 simp only [Bool.and_eq_true,decide_eq_true_eq,Bool.not_eq_true'] at h2
 obtain ⟨⟨k1,k2⟩,k3⟩:=h2
 obtain ⟨op,to,a,b,ng,n,d⟩:=x
 simp only at k1 k2 k3 ⊢
 rw [k1,List.eq_nil_of_length_eq_zero k2,List.eq_nil_of_length_eq_zero k3]

theorem zeH {c:Cd} (hr:0<=c.regs/\c.regs<=100000) (hi:c.ins<=40) (hc:c.rows*c.cols<=1600):∀ (l:List Ins) (L:List Int),(∀ r ∈ L,0<=r/\r<100000)->zbN c L l=true->(∀ x ∈ l,zcB x.q.n/\zcB x.q.d)->∀ x ∈ l,Wire x
 | [],_,_,_,_,_,h => by cases h
 | y :: t,L,hL,ha,hw,x,h => by
  unfold zbN at ha
  rw [Bool.and_eq_true] at ha
  have hy:=hw y (List.mem_cons_self ..)
  have k:=zij hr hi hc hL ha.1 hy.1 hy.2
  rcases List.mem_cons.1 h with h|h
  ·rw [h];exact k.1
  ·refine zeH hr hi hc t (more L y) (fun r hr => ?_) ha.2 (fun z hz => hw z (List.mem_cons_of_mem _ hz)) x h
   unfold more at hr
   split at hr
   ·exact hL r hr
   ·rename_i e
    rcases List.mem_append.1 hr with hr|hr
    ·exact hL r hr
    ·rw [List.mem_singleton.1 hr];exact k.2 e

theorem zfn {c:Cd} (h:zU c=true) (hw:∀ x ∈ c.all,zcB x.q.n/\zcB x.q.d):zfC c:=by
 unfold zU at h
 rw [Bool.and_eq_true] at h
 have h0:=h.1
 unfold zda at h0
 simp only [decide_eq_true_eq] at h0
 obtain ⟨h1,h2,h3,h4,h5,h6,h7,h8⟩:=h0
 have hrc:c.rows*c.cols<=1600:=by
  have h9:c.cols<=40:=by omega
  have h10:0<=c.cols:=by omega
  calc c.rows*c.cols<=40*c.cols:=Int.mul_le_mul_of_nonneg_right h4 h10
   _<=1600:=by omega
 refine ⟨by omega,by omega,by omega,by omega,by omega,zeH ⟨h6,h7⟩ h2 hrc c.all [] (fun r hr => by cases hr) h.2 hw⟩

end Go.Proofs.YtkjcdnlpjldhaaaGreat


namespace Go.Proofs.YtkjcdnlpjldhaaaGreat
open Go.RowKit Tw
attribute [local go_sem ↓] Go.wp_at_zero Go.wp_at_succ

theorem zaaq (l:List Sn) (k:Nat):(List.range (k+1)).map (zaaa l)=(List.range k).map (zaaa l)++[zaaa l k]:=by rw [List.range_succ,List.map_append];rfl

theorem zaah (n:Nat) (v:Value) (l:List Sn) (w:World) (h:RdSn w v l) (hn:n<=1000) :
  Calls Tryz.prog 23 #[.int .i64 (n:Int),v] w (fun e w' => ∃ a c,e=.returned (.slice a n c)/\RdR w' (.slice a n c) ((zaag n l).map zaq)/\Below w.heap.size w w'):=by
 obtain ⟨a,N,cap,rfl,HN,hm⟩:=h.open
 have H:=Lib.hid h
 clear h
 go_enter Tryz.func23,Tryz.ntmps23
 go_wp2_with fail
 go_loopw [5,6] (fun v i ww => ∃ k:Nat,k<=n/\i=.int .i64 k/\Below w.heap.size w ww/\zaX w.heap.size ww v ((List.range k).map (zaaa l))) (fun _ i _ => n - (intOf i).toNat)
 case atStart => exact ⟨0,Nat.zero_le _,rfl,Below.refl _ _,zaX.nil _ _⟩
 case round =>
  obtain ⟨k,hk,rfl,gb,hO⟩:=hrel
  obtain ⟨aD,cD,hvD,-⟩:=hO.form
  have hlen:((List.range k).map (zaaa l)).length=k:=by rw [List.length_map,List.length_range]
  rw [hlen] at hvD
  subst hvD
  by_cases hkn:k<n
  ·have hki:(k:Int)<(n:Int):=by omega
   have hmB:(k+1)*56<=140737488355328:=by omega
   have hmL:k+1<=maxLen:=by show k+1<=9223372036854775807;omega
   have hgs:=gb.size
   obtain ⟨i0',hi0,hq0,hq1,hq2⟩:=info_parts (show (Tryz.prog.info? 47).map (fun i => (i.zero,i.size,i.bytes))=some (some (.agg #[.bool false,.slice none 0 0,.slice none 0 0]),3,56) by kernel_rfl)
   by_cases hkN:k<N
   ·have hkj:(k:Int)<(N:Int):=by omega
    have hkl:k<l.length:=by rw [HN.out];exact hkN
    obtain ⟨b,off,rfl,s0,s1,aS,aM⟩:=(H.out.to gb).nth hkl
    obtain ⟨x,hx⟩:∃ x,l[k]=x:=⟨_,rfl⟩
    have hP:zaaa l k=zaac x.n (x.d % 4):=by unfold zaaa;rw [List.getElem?_eq_getElem hkl,hx]
    rw [hx] at s0 s1 aS aM
    have HP:=Lib.hid hP
    have HB1:=Lib.hid aS
    have hd4:x.d % 4<4:=Nat.mod_lt _ (by decide)
    have HT:=Lib.hid (show (x.d:Int).tmod 4=((x.d % 4:Nat):Int) by rw [Int.tmod_eq_emod_of_nonneg (by omega)];omega)
    obtain ⟨xs9,hxs⟩:=hO.drew.len
    rw [hlen] at hxs
    have hOd:=hO.drew
    have HS:Hid (∀ W',Below wr.heap.size wr W'->W'.cell? ⟨b,off+k*2,none⟩=some (.int .i8 x.n)/\W'.cell? ⟨b,off+k*2+1,none⟩=some (.int .u8 (x.d:Int))):=fun W' hb => ⟨(hb.cell (p:=⟨b,off+k*2,none⟩) (zj s0)).trans s0,(hb.cell (p:=⟨b,off+k*2+1,none⟩) (zj s0)).trans s1⟩
    clear hx hP aS aM
    go_wp2_with fail
    go_region_law (first|(go_simp;go_at_call 44;rw [HT.out];(with_reducible refine (zabk x.n (x.d % 4) _ HB1.out hd4).mono ?_);rintro e w2 ⟨ng2,a2_,n2_,c2_,p2_,m2_,k2_,rfl,g2,aM⟩;obtain ⟨s0,s1⟩:=HS.out _ (Below.drew (Below.refl _ _) |>.trans (aM.mono (Nat.le_refl _)));have hz2:wr.heap.size<=w2.heap.size:=aM.size)|(refine step_append_lies _ rfl (.tmp 16) (.tmp 29) 29 rfl w.heap.size 47 i0' (.agg #[.bool false,.slice none 0 0,.slice none 0 0]) 3 56 Tryz.underlying29 hi0 hq0 hq1 hq2 (by rfl) (by decide) (.slice aD k cD) k xs9 rfl (zbq (zbq hxs aM) (bN _ _)) ⟨w2.heap.size,0,none⟩ 1 1 _ rfl rfl zjU zaar (by decide) hmL hmB (by simp;omega) _ rfl ?_;intro g4 cj4 w4 hown4 hgrow4 hat4 hlt4))
    all_goals
     have hp:=zjT hlen hOd hxs aM g2 (show w.heap.size<=wr.heap.size from hgs) hown4 hgrow4 hat4
     have gb4:Below w.heap.size w w4:=gb.drew.trans hp.2
     have hO4:zaX w.heap.size w4 (.slice (some ⟨g4,0,none⟩) (k+1) cj4) ((List.range (k+1)).map (zaaa l)):=by rw [zaaq,HP.out];exact hp.1
     clear s0 s1
     go_wp2_with fail
     go_roundw
     case rel => exact ⟨k+1,by omega,by go_num,gb4,hO4⟩
     case measure => simp [intOf] <;> omega
   ·have hkj:¬ ((k:Int)<(N:Int)):=by omega
    have hP:zaaa l k=((0:Int):Rat):=by unfold zaaa;rw [List.getElem?_eq_none (by have:=HN.out;omega)];rfl
    have HP:=Lib.hid hP
    clear hP
    obtain ⟨xs9,hxs⟩:=hO.len
    rw [hlen] at hxs
    go_wp2_with fail
    refine (zabp 0 0 _ rfl (by decide) (by decide)).mono ?_
    rintro e w2 ⟨ng2,a2_,n2_,c2_,p2_,m2_,k2_,rfl,g2,aM⟩
    have hz2:wr.heap.size<=w2.heap.size:=aM.size
    go_wp2_with (at_builtin;refine wpList_append_lies _ rfl (.tmp 31) (.tmp 33) 29 rfl w.heap.size 47 i0' (.agg #[.bool false,.slice none 0 0,.slice none 0 0]) 3 56 Tryz.underlying29 hi0 hq0 hq1 hq2 (by rfl) (by decide) (.slice aD k cD) k xs9 rfl (zbq (zbq hxs aM) (bN _ _)) ⟨w2.heap.size,0,none⟩ 1 1 _ rfl rfl zjU zaar (by decide) hmL hmB (by simp;omega) _ rfl ?_;intro g4 cj4 w4 hown4 hgrow4 hat4 hlt4)
    have hp:=zjT hlen hO hxs aM g2 (show w.heap.size<=wr.heap.size from hgs) hown4 hgrow4 hat4
    go_roundw
    case rel => exact ⟨k+1,by omega,by go_num,gb.trans hp.2,by rw [zaaq,HP.out];exact hp.1⟩
    case measure => simp [intOf] <;> omega
  ·obtain rfl:k=n:=by omega
   have hki:¬ ((k:Int)<(k:Int)):=by omega
   go_wp2_with fail
   go_ret
   exact ⟨aD,cD,rfl,hO.rdR,gb⟩

end Go.Proofs.YtkjcdnlpjldhaaaGreat


namespace Go.Proofs.YtkjcdnlpjldhaaaGreat
open Go.RowKit Tw
attribute [local go_sem ↓] Go.wp_at_zero Go.wp_at_succ

theorem zabf (c:Cd) (v:Value) (w:World) (hc:IsC w c v) (hs:zbA 1000 c.all) (h0:zU c=false) :
  Calls Tryz.prog 16 #[aggC c v] w (fun e w' => e=.returned (.int .i64 0)/\Below w.heap.size w w'):=by
 have Hs:=Lib.hid hs
 have Hr0:=Lib.hid h0
 clear hs h0
 obtain ⟨a0,n0,c0,rfl,H0,hm0⟩:=hc.1.open
 go_enter Tryz.func16,Tryz.ntmps16
 go_wp2_with fail
 obtain ⟨W0,ap⟩:∃ W0,w.alloc (.cells #[.int .i64 c.ins,.int .i64 c.rows,.int .i64 c.cols,.int .i64 c.regs,.slice a0 n0 c0] 24)=W0:=⟨_,rfl⟩
 have aq:=Lib.hid (show ∀ W',Below W0.heap.size W0 W'->(Bx5 W' w.heap.size (.int .i64 c.ins) (.int .i64 c.rows) (.int .i64 c.cols) (.int .i64 c.regs) (.slice a0 n0 c0)) from fun W' hb => by
   apply bx5 hb
   all_goals first|assumption|(rw [<- ap];simp [go_sem]))
 have zb:Below w.heap.size w W0:=by rw [<- ap];exact bN _ _
 rw [ap]
 clear ap
 have i0:=hc.to zb
 have gb:Below W0.heap.size W0 W0:=Below.refl _ _
 obtain ⟨z0,ae,af,ah,az,aA,ai,ak,al,aE,aF⟩:=aq.out _ gb
 go_wp2_with fail
 refine (zcs c _ _ (i0.to gb) Hs.out false Hr0.out).mono ?_
 clear ae ai af ak ah al az aE aA aF
 rintro e w1 ⟨rfl,aS⟩
 replace gb:=bS gb aS
 obtain ⟨z0,ae,af,ah,az,aA,ai,ak,al,aE,aF⟩:=aq.out _ gb
 go_wp2_with fail
 go_ret
 exact ⟨rfl,bS zb gb⟩

theorem zaba (c:Cd) (v:Value) (w:World) (hc:IsC w c v) (hs:zbA 1000 c.all) (h1:zU c=true) (o:Int) (ho:zdf (fun _ => 0) 0 c.all=o) :
  Calls Tryz.prog 16 #[aggC c v] w (fun e w' => e=.returned (.int .i64 o)/\Below w.heap.size w w'):=by
 have h0:zda c=true:=by unfold zU at h1;simp only [Bool.and_eq_true] at h1;exact h1.1
 have hh:=h0
 unfold zda at hh
 simp only [decide_eq_true_eq] at hh
 obtain ⟨N,hN⟩:=Int.eq_ofNat_of_zero_le hh.2.2.2.2.2.1
 have hN1:N<=100000:=by omega
 have Hr:=Lib.hid (show 1<=c.rows/\c.rows<=40 by omega)
 have Hcl:=Lib.hid (show 1<=c.cols/\c.cols<=40 by omega)
 have HN:=Lib.hid hN
 clear hh
 have ha:zbN c [] c.all=true:=by unfold zU at h1;simp only [Bool.and_eq_true] at h1;exact h1.2
 have hlen:c.all.length<=100000:=by unfold zda at h0;simp only [decide_eq_true_eq] at h0;exact h0.2.2.2.2.2.2.2
 clear hN h0
 have Hs:=Lib.hid hs
 have Ho:=Lib.hid ho
 have Ha:=Lib.hid ha
 have Hrt:=Lib.hid h1
 have Hlen:=Lib.hid hlen
 clear hs ho ha h1 hlen
 obtain ⟨a0,n0,c0,rfl,H0,hm0⟩:=hc.1.open
 have hn0:n0<=100000:=by have:=H0.out;have:=Hlen.out;omega
 go_enter Tryz.func16,Tryz.ntmps16
 go_wp2_with fail
 obtain ⟨W0,ap⟩:∃ W0,w.alloc (.cells #[.int .i64 c.ins,.int .i64 c.rows,.int .i64 c.cols,.int .i64 c.regs,.slice a0 n0 c0] 24)=W0:=⟨_,rfl⟩
 have aq:=Lib.hid (show ∀ W',Below W0.heap.size W0 W'->(Bx5 W' w.heap.size (.int .i64 c.ins) (.int .i64 c.rows) (.int .i64 c.cols) (.int .i64 c.regs) (.slice a0 n0 c0)) from fun W' hb => by
   apply bx5 hb
   all_goals first|assumption|(rw [<- ap];simp [go_sem]))
 have zb:Below w.heap.size w W0:=by rw [<- ap];exact bN _ _
 rw [ap]
 clear ap
 have i0:=hc.to zb
 have gb:Below W0.heap.size W0 W0:=Below.refl _ _
 obtain ⟨z0,ae,af,ah,az,aA,ai,ak,al,aE,aF⟩:=aq.out _ gb
 go_wp2_with fail
 refine (zcs c _ _ (i0.to gb) Hs.out true Hrt.out).mono ?_
 clear ae ai af ak ah al az aE aA aF
 rintro e w0 ⟨rfl,dN⟩
 replace gb:=bS gb dN
 obtain ⟨z0,ae,af,ah,az,aA,ai,ak,al,aE,aF⟩:=aq.out _ gb
 have hgs:=gb.size
 go_wp2_with (
  at_make
  refine zabh _ rfl _ _ 67 3 rfl Tryz.underlying67 (.int .i64 0) 1 8 (by kernel_rfl) rfl (by decide) _ _ _ _ N rfl rfl HN.out HN.out (by omega) ?_
  intro w1 hr1 aS
  clear ae ai af ak ah al az aE aA aF
  replace gb:=bS gb aS
  obtain ⟨z0,ae,af,ah,az,aA,ai,ak,al,aE,aF⟩:=aq.out _ gb
  rw [Nat.mul_one] at hr1
  replace hr1:zaY w1 w0.heap.size N (fun i => .int .i64 ((fun _ => 0:Int->Int) i)):=hr1.cast (fun i _ => by simp [Nat.mod_one,Value.cells]))
 obtain ⟨g,hg⟩:∃ g,w0.heap.size=g:=⟨_,rfl⟩
 have hgW:W0.heap.size<=g:=by rw [<- hg];exact hgs
 rw [hg] at hr1
 rw [hg]
 clear hg
 go_loopw [4,19] (fun s i ww => ∃ (k:Nat) (L:List Int) (wt:Int->Int) (m:Int),k<=n0/\i=.int .i64 k/\s=.int .i64 m/\Below W0.heap.size W0 ww/\zaY ww g N (fun i => .int .i64 (wt i))/\Hid (zbN c L (c.all.drop k)=true)/\Hid (zdf wt m (c.all.drop k)=o)/\Hid (∀ x ∈ L,0<=x/\x<(N:Int))/\Hid (Lite wt)/\Hid (0<=m/\m<=1000000)) (fun _ i _ => n0 - (intOf i).toNat)
 case atStart => exact ⟨0,[],fun _ => 0,0,Nat.zero_le _,rfl,rfl,gb,hr1,by rw [List.drop_zero];exact Ha.out,by rw [List.drop_zero];exact Ho.out,fun x hx => (by cases hx),fun r => ⟨Int.le_refl _,by show (0:Int)<=1000000;decide⟩,⟨by decide,by decide⟩⟩
 case round =>
  clear gb hr1 ae ai af ak ah al az aE aA aF
  obtain ⟨k,L,wt,m,hk,rfl,rfl,gb,hrow,HA,HV,HL,HW,Hm⟩:=hrel
  obtain ⟨z0,ae,af,ah,az,aA,ai,ak,al,aE,aF⟩:=aq.out _ gb
  by_cases hkn:k<n0
  ·have hki:(k:Int)<(n0:Int):=by omega
   have hkl:k<c.all.length:=by rw [H0.out];exact hkn
   obtain ⟨b,off,rfl,h7⟩:=(i0.to gb).1.nth hkl
   have HA1:=HA.out
   rw [zeG hkl] at HA1
   have HV1:=HV.out
   rw [zabb hkl] at HV1
   have hsx:=Hs.out _ (List.getElem_mem hkl)
   obtain ⟨x,hx⟩:∃ x,c.all[k]=x:=⟨_,rfl⟩
   rw [hx] at HA1 HV1 h7 hsx
   obtain ⟨hok,hA1⟩:=(Bool.and_eq_true _ _).mp HA1
   obtain ⟨vn,vd,s0,s1,s2,s3,s4,s5,s6,hX⟩:=h7.isX hsx.1 hsx.2
   obtain ⟨a1,n1,c1,rfl,H1,hm1⟩:=hX.1.1.open
   obtain ⟨a2,n2,c2,rfl,H2,hm2⟩:=hX.1.2.1.open
   have Hok:=Lib.hid hok
   have HA2:=Lib.hid hA1
   have HV2:=Lib.hid HV1
   clear HA HA1 HV HV1 hok hA1 h7 hsx hx hX hki
   have hki:(k:Int)<(n0:Int):=by omega
   go_wp2_with fail
   clear s0 s1 s2 s3 s4 s5 s6
   obtain ⟨W2,d6⟩:∃ W2,wr.alloc (.cells #[.int .i64 x.op,.int .i64 x.to,.int .i64 x.a,.int .i64 x.b,.bool x.q.ng,.slice a1 n1 c1,.slice a2 n2 c2] 49)=W2:=⟨_,rfl⟩
   have aM:Below wr.heap.size wr W2:=by rw [<- d6];exact bN _ _
   have HT:Hid (∀ W',Below W2.heap.size W2 W'->W'.cell? ⟨wr.heap.size,0,none⟩=some (.int .i64 x.op)/\W'.cell? ⟨wr.heap.size,1,none⟩=some (.int .i64 x.to)/\W'.cell? ⟨wr.heap.size,2,none⟩=some (.int .i64 x.a)/\W'.cell? ⟨wr.heap.size,3,none⟩=some (.int .i64 x.b)/\W'.cell? ⟨wr.heap.size,4,none⟩=some (.bool x.q.ng)/\W'.cell? ⟨wr.heap.size,5,none⟩=some (.slice a1 n1 c1)/\W'.cell? ⟨wr.heap.size,6,none⟩=some (.slice a2 n2 c2)):=fun W' hb => by
    have hl:wr.heap.size<W2.heap.size:=by rw [<- d6];simp
    refine ⟨(hb.cell (p:=⟨wr.heap.size,0,none⟩) hl).trans (by rw [<- d6];simp [go_sem]),(hb.cell (p:=⟨wr.heap.size,1,none⟩) hl).trans (by rw [<- d6];simp [go_sem]),(hb.cell (p:=⟨wr.heap.size,2,none⟩) hl).trans (by rw [<- d6];simp [go_sem]),(hb.cell (p:=⟨wr.heap.size,3,none⟩) hl).trans (by rw [<- d6];simp [go_sem]),(hb.cell (p:=⟨wr.heap.size,4,none⟩) hl).trans (by rw [<- d6];simp [go_sem]),(hb.cell (p:=⟨wr.heap.size,5,none⟩) hl).trans (by rw [<- d6];simp [go_sem]),(hb.cell (p:=⟨wr.heap.size,6,none⟩) hl).trans (by rw [<- d6];simp [go_sem])⟩
   have hgx0:=hrow.lt
   have hgx1:g≠wr.heap.size:=by omega
   have hgx2:wr.heap.size≠g:=by omega
   have hW2s:wr.heap.size<W2.heap.size:=by rw [<- d6];simp
   rw [d6]
   clear d6
   have hrow2:=hrow.to aM
   clear hrow
   clear ae ai af ak ah al az aE aA aF
   have gb2:=bS gb aM
   obtain ⟨z0,ae,af,ah,az,aA,ai,ak,al,aE,aF⟩:=aq.out _ gb2
   obtain ⟨s0,s1,s2,s3,s4,s5,s6⟩:=HT.out _ (Below.refl _ _)
   go_wp2_with fail
   rcases zabc (zhf Hok.out) with hso|hso|hso|hso|hso
   ·
    have K1:Hid (decide (1<=zi x.op)=false):=by show _=_;rcases hso with e|e <;> rw [e] <;> decide
    have K2:Hid (decide (zi x.op=2)=false):=by show _=_;rcases hso with e|e <;> rw [e] <;> decide
    have K3:Hid (decide (x.op=7)=false):=by show _=_;rcases hso with e|e <;> rw [e] <;> decide
    have h10:x.op≠10:=by rcases hso with e|e <;> rw [e] <;> decide
    have t10:(x.op != 10)=true:=by simp;exact h10
    have hto:=zaad Hok.out h10
    obtain ⟨T,hT⟩:=Int.eq_ofNat_of_zero_le hto.1
    have hTN:T<N:=by have:=HN.out;omega
    rw [hT] at s1
    have em:more L x=L++[(T:Int)]:=by unfold more;rw [if_neg h10,hT]
    have HA4:Hid (zbN c (L++[(T:Int)]) (c.all.drop (k+1))=true):=by show _=_;rw [<- em];exact HA2.out
    have HL4:Hid (∀ x ∈ L++[(T:Int)],0<=x/\x<(N:Int)):=fun y hy => by
     rcases List.mem_append.1 hy with hy|hy
     ·exact HL.out y hy
     ·rw [List.mem_singleton.1 hy];omega
    have hV:=HV2.out
    rw [if_neg h10] at hV
    have HW4:Hid (Lite (upd wt x.to (wOf wt x))):=HW.out.upd x
    have hwl:=zaae HW.out x
    have Hm4:Hid (0<=max m (wOf wt x)/\max m (wOf wt x)<=1000000):=by show _/\_;have:=Hm.out;omega
    have hwo:wOf wt x=1:=by rw [zabg hso]
    obtain ⟨z,hz⟩:∃ z,wOf wt x=z:=⟨_,rfl⟩
    rw [hz] at hwo hwl Hm4 HW4 hV
    rw [hT] at HW4 hV
    have HZ:=Lib.hid hwo
    have HV4:=Lib.hid hV
    clear hV hwo hz em hto h10
    clear hso
    refine (zp x.op false false false true _ K1.out K2.out K3.out (decide_eq_true (zhf Hok.out))).mono ?_
    rintro e w3 ⟨rfl,bY⟩
    have q1:=s1
    clear s0 s1 s2 s3 s4 s5 s6
    clear ae ai af ak ah al az aE aA aF
    have gb3:=bS gb2 bY
    have hrow3:=hrow2.to bY
    have gl:=hrow3.lt
    have hxl:wr.heap.size<w3.heap.size:=Nat.lt_of_lt_of_le hW2s bY.size
    obtain ⟨s0,s1,s2,s3,s4,s5,s6⟩:=HT.out _ bY
    obtain ⟨z0,ae,af,ah,az,aA,ai,ak,al,aE,aF⟩:=aq.out _ gb3
    rw [hT] at s1
    obtain ⟨rT,fT⟩:=hrow3.2 T hTN
    have hTi:(T:Int)<(N:Int):=by omega
    have HTT:=Lib.hid hT
    clear hrow2 hT
    obtain ⟨j0,j1,j2,j3,j4,j5,j6⟩:=HT.out _ (bS bY (bN w3 (.cells #[.bool false,.bool false,.bool false] 70)))
    have hrow4:=hrow3.alloc (.cells #[.bool false,.bool false,.bool false] 70)
    rw [HTT.out] at j1
    obtain ⟨rT4,fT4⟩:=hrow4.2 T hTN
    go_wp2_with fail
    go_roundw
    case rel =>
     obtain rfl:=HZ.out
     exact ⟨k+1,L++[(T:Int)],upd wt (T:Int) _,max m _,by omega,by go_num,rfl,(gb3.setCell hgW _).alloc (by simp;omega) _,((hrow3.set T _).cast (fun i _ => zaal (N:=N) i)).alloc _,HA4,HV4,HL4,HW4,Hm4⟩
    case measure => simp [intOf] <;> omega
   ·
    have K1:Hid (decide (1<=zi x.op)=true):=by show _=_;rw [hso];decide
    have K2:Hid (decide (zi x.op=2)=true):=by show _=_;rw [hso];decide
    have K3:Hid (decide (x.op=7)=false):=by show _=_;refine decide_eq_false (fun e => ?_);rw [e] at hso;exact absurd hso (by decide)
    have h10:x.op≠10:=fun e => by rw [e] at hso;exact absurd hso (by decide)
    have t10:(x.op != 10)=true:=by simp;exact h10
    have hto:=zaad Hok.out h10
    obtain ⟨T,hT⟩:=Int.eq_ofNat_of_zero_le hto.1
    have hTN:T<N:=by have:=HN.out;omega
    rw [hT] at s1
    have em:more L x=L++[(T:Int)]:=by unfold more;rw [if_neg h10,hT]
    have HA4:Hid (zbN c (L++[(T:Int)]) (c.all.drop (k+1))=true):=by show _=_;rw [<- em];exact HA2.out
    have HL4:Hid (∀ x ∈ L++[(T:Int)],0<=x/\x<(N:Int)):=fun y hy => by
     rcases List.mem_append.1 hy with hy|hy
     ·exact HL.out y hy
     ·rw [List.mem_singleton.1 hy];omega
    have hV:=HV2.out
    rw [if_neg h10] at hV
    have HW4:Hid (Lite (upd wt x.to (wOf wt x))):=HW.out.upd x
    have hwl:=zaae HW.out x
    have Hm4:Hid (0<=max m (wOf wt x)/\max m (wOf wt x)<=1000000):=by show _/\_;have:=Hm.out;omega
    have ha:=HL.out _ (zaw Hok.out (by omega))
    obtain ⟨A,hA⟩:=Int.eq_ofNat_of_zero_le ha.1
    have hAN:A<N:=by omega
    rw [hA] at s2
    have hAi:(A:Int)<(N:Int):=by omega
    obtain ⟨za,hza⟩:∃ z,wt (A:Int)=z:=⟨_,rfl⟩
    have la:=HW.out (A:Int)
    rw [hza] at la
    have hb:=HL.out _ (zbi Hok.out hso)
    obtain ⟨Bb,hB⟩:=Int.eq_ofNat_of_zero_le hb.1
    have hBN:Bb<N:=by omega
    rw [hB] at s3
    have hBi:(Bb:Int)<(N:Int):=by omega
    obtain ⟨zb',hzb⟩:∃ z,wt (Bb:Int)=z:=⟨_,rfl⟩
    have lb:=HW.out (Bb:Int)
    rw [hzb] at lb
    have hsum:IntKind.i64.wrap (za+zb')=za+zb':=IntWalk.i64_in _ (by omega)
    have hwo:wOf wt x=min (za+zb') 1000000:=by rw [zabu hso,hA,hB,hza,hzb]
    obtain ⟨z,hz⟩:∃ z,wOf wt x=z:=⟨_,rfl⟩
    rw [hz] at hwo hwl Hm4 HW4 hV
    rw [hT] at HW4 hV
    have HZ:=Lib.hid hwo
    have HV4:=Lib.hid hV
    clear hV hwo hz em hto h10
    clear hso
    refine (zp x.op true true false true _ K1.out K2.out K3.out (decide_eq_true (zhf Hok.out))).mono ?_
    rintro e w3 ⟨rfl,bY⟩
    have q1:=s1
    clear s0 s1 s2 s3 s4 s5 s6
    clear ae ai af ak ah al az aE aA aF
    have gb3:=bS gb2 bY
    have hrow3:=hrow2.to bY
    have gl:=hrow3.lt
    have hxl:wr.heap.size<w3.heap.size:=Nat.lt_of_lt_of_le hW2s bY.size
    obtain ⟨s0,s1,s2,s3,s4,s5,s6⟩:=HT.out _ bY
    obtain ⟨z0,ae,af,ah,az,aA,ai,ak,al,aE,aF⟩:=aq.out _ gb3
    rw [hT] at s1
    obtain ⟨rT,fT⟩:=hrow3.2 T hTN
    have hTi:(T:Int)<(N:Int):=by omega
    rw [hA] at s2
    have qa:w3.cell? ⟨g,A,none⟩=some (.int .i64 za):=by rw [<- hza];exact (hrow3.2 A hAN).1
    rw [hB] at s3
    have qb:w3.cell? ⟨g,Bb,none⟩=some (.int .i64 zb'):=by rw [<- hzb];exact (hrow3.2 Bb hBN).1
    have HTT:=Lib.hid hT
    have HAA:=Lib.hid hA
    have HZA:=Lib.hid hza
    have HBB:=Lib.hid hB
    have HZB:=Lib.hid hzb
    clear hrow2 hA hza ha hB hzb hb hT
    obtain ⟨j0,j1,j2,j3,j4,j5,j6⟩:=HT.out _ (bS bY (bN w3 (.cells #[.bool true,.bool true,.bool false] 70)))
    have hrow4:=hrow3.alloc (.cells #[.bool true,.bool true,.bool false] 70)
    rw [HTT.out] at j1
    obtain ⟨rT4,fT4⟩:=hrow4.2 T hTN
    rw [HAA.out] at j2
    have qa4:(w3.alloc (.cells #[.bool true,.bool true,.bool false] 70)).cell? ⟨g,A,none⟩=some (.int .i64 za):=by rw [<- HZA.out];exact (hrow4.2 A hAN).1
    rw [HBB.out] at j3
    have qb4:(w3.alloc (.cells #[.bool true,.bool true,.bool false] 70)).cell? ⟨g,Bb,none⟩=some (.int .i64 zb'):=by rw [<- HZB.out];exact (hrow4.2 Bb hBN).1
    go_wp2_with fail
    go_roundw
    case rel =>
     obtain rfl:=HZ.out
     exact ⟨k+1,L++[(T:Int)],upd wt (T:Int) _,max m _,by omega,by go_num,rfl,(gb3.setCell hgW _).alloc (by simp;omega) _,((hrow3.set T _).cast (fun i _ => zaal (N:=N) i)).alloc _,HA4,HV4,HL4,HW4,Hm4⟩
    case measure => simp [intOf] <;> omega
   ·
    have K1:Hid (decide (1<=zi x.op)=true):=by show _=_;rw [hso];decide
    have K2:Hid (decide (zi x.op=2)=false):=by show _=_;rw [hso];decide
    have K3:Hid (decide (x.op=7)=false):=by show _=_;rw [hso];decide
    have h10:x.op≠10:=by rw [hso];decide
    have t10:(x.op != 10)=true:=by simp;exact h10
    have hto:=zaad Hok.out h10
    obtain ⟨T,hT⟩:=Int.eq_ofNat_of_zero_le hto.1
    have hTN:T<N:=by have:=HN.out;omega
    rw [hT] at s1
    have em:more L x=L++[(T:Int)]:=by unfold more;rw [if_neg h10,hT]
    have HA4:Hid (zbN c (L++[(T:Int)]) (c.all.drop (k+1))=true):=by show _=_;rw [<- em];exact HA2.out
    have HL4:Hid (∀ x ∈ L++[(T:Int)],0<=x/\x<(N:Int)):=fun y hy => by
     rcases List.mem_append.1 hy with hy|hy
     ·exact HL.out y hy
     ·rw [List.mem_singleton.1 hy];omega
    have hV:=HV2.out
    rw [if_neg h10] at hV
    have HW4:Hid (Lite (upd wt x.to (wOf wt x))):=HW.out.upd x
    have hwl:=zaae HW.out x
    have Hm4:Hid (0<=max m (wOf wt x)/\max m (wOf wt x)<=1000000):=by show _/\_;have:=Hm.out;omega
    have ha:=HL.out _ (zaw Hok.out (by rw [hso];decide))
    obtain ⟨A,hA⟩:=Int.eq_ofNat_of_zero_le ha.1
    have hAN:A<N:=by omega
    rw [hA] at s2
    have hAi:(A:Int)<(N:Int):=by omega
    obtain ⟨za,hza⟩:∃ z,wt (A:Int)=z:=⟨_,rfl⟩
    have la:=HW.out (A:Int)
    rw [hza] at la
    have hwo:wOf wt x=min za 1000000:=by rw [zabs hso,hA,hza]
    obtain ⟨z,hz⟩:∃ z,wOf wt x=z:=⟨_,rfl⟩
    rw [hz] at hwo hwl Hm4 HW4 hV
    rw [hT] at HW4 hV
    have HZ:=Lib.hid hwo
    have HV4:=Lib.hid hV
    clear hV hwo hz em hto h10
    clear hso
    refine (zp x.op true false false true _ K1.out K2.out K3.out (decide_eq_true (zhf Hok.out))).mono ?_
    rintro e w3 ⟨rfl,bY⟩
    have q1:=s1
    clear s0 s1 s2 s3 s4 s5 s6
    clear ae ai af ak ah al az aE aA aF
    have gb3:=bS gb2 bY
    have hrow3:=hrow2.to bY
    have gl:=hrow3.lt
    have hxl:wr.heap.size<w3.heap.size:=Nat.lt_of_lt_of_le hW2s bY.size
    obtain ⟨s0,s1,s2,s3,s4,s5,s6⟩:=HT.out _ bY
    obtain ⟨z0,ae,af,ah,az,aA,ai,ak,al,aE,aF⟩:=aq.out _ gb3
    rw [hT] at s1
    obtain ⟨rT,fT⟩:=hrow3.2 T hTN
    have hTi:(T:Int)<(N:Int):=by omega
    rw [hA] at s2
    have qa:w3.cell? ⟨g,A,none⟩=some (.int .i64 za):=by rw [<- hza];exact (hrow3.2 A hAN).1
    have HTT:=Lib.hid hT
    have HAA:=Lib.hid hA
    have HZA:=Lib.hid hza
    clear hrow2 hA hza ha hT
    obtain ⟨j0,j1,j2,j3,j4,j5,j6⟩:=HT.out _ (bS bY (bN w3 (.cells #[.bool true,.bool false,.bool false] 70)))
    have hrow4:=hrow3.alloc (.cells #[.bool true,.bool false,.bool false] 70)
    rw [HTT.out] at j1
    obtain ⟨rT4,fT4⟩:=hrow4.2 T hTN
    rw [HAA.out] at j2
    have qa4:(w3.alloc (.cells #[.bool true,.bool false,.bool false] 70)).cell? ⟨g,A,none⟩=some (.int .i64 za):=by rw [<- HZA.out];exact (hrow4.2 A hAN).1
    go_wp2_with fail
    go_roundw
    case rel =>
     obtain rfl:=HZ.out
     exact ⟨k+1,L++[(T:Int)],upd wt (T:Int) _,max m _,by omega,by go_num,rfl,(gb3.setCell hgW _).alloc (by simp;omega) _,((hrow3.set T _).cast (fun i _ => zaal (N:=N) i)).alloc _,HA4,HV4,HL4,HW4,Hm4⟩
    case measure => simp [intOf] <;> omega
   ·
    have K1:Hid (decide (1<=zi x.op)=true):=by show _=_;rw [hso];decide
    have K2:Hid (decide (zi x.op=2)=false):=by show _=_;rw [hso];decide
    have K3:Hid (decide (x.op=7)=true):=by show _=_;rw [hso];decide
    have h10:x.op≠10:=by rw [hso];decide
    have t10:(x.op != 10)=true:=by simp;exact h10
    have hto:=zaad Hok.out h10
    obtain ⟨T,hT⟩:=Int.eq_ofNat_of_zero_le hto.1
    have hTN:T<N:=by have:=HN.out;omega
    rw [hT] at s1
    have em:more L x=L++[(T:Int)]:=by unfold more;rw [if_neg h10,hT]
    have HA4:Hid (zbN c (L++[(T:Int)]) (c.all.drop (k+1))=true):=by show _=_;rw [<- em];exact HA2.out
    have HL4:Hid (∀ x ∈ L++[(T:Int)],0<=x/\x<(N:Int)):=fun y hy => by
     rcases List.mem_append.1 hy with hy|hy
     ·exact HL.out y hy
     ·rw [List.mem_singleton.1 hy];omega
    have hV:=HV2.out
    rw [if_neg h10] at hV
    have HW4:Hid (Lite (upd wt x.to (wOf wt x))):=HW.out.upd x
    have hwl:=zaae HW.out x
    have Hm4:Hid (0<=max m (wOf wt x)/\max m (wOf wt x)<=1000000):=by show _/\_;have:=Hm.out;omega
    have ha:=HL.out _ (zaw Hok.out (by rw [hso];decide))
    obtain ⟨A,hA⟩:=Int.eq_ofNat_of_zero_le ha.1
    have hAN:A<N:=by omega
    rw [hA] at s2
    have hAi:(A:Int)<(N:Int):=by omega
    obtain ⟨za,hza⟩:∃ z,wt (A:Int)=z:=⟨_,rfl⟩
    have la:=HW.out (A:Int)
    rw [hza] at la
    have hb:=zfG Hok.out hso
    obtain ⟨xb,hxb⟩:∃ z,x.b=z:=⟨_,rfl⟩
    rw [hxb] at hb s3
    have hneg:IntKind.i64.wrap (-xb)=-xb:=IntWalk.i64_in _ (by omega)
    obtain ⟨mx,hmx⟩:∃ z,max 1 (max xb (-xb))=z:=⟨_,rfl⟩
    have hmb:1<=mx/\mx<=21:=by omega
    have hpr:=zabo la hmb
    obtain ⟨pr,hpr'⟩:∃ z,za*mx=z:=⟨_,rfl⟩
    rw [hpr'] at hpr
    have hmul:IntKind.i64.wrap pr=pr:=IntWalk.i64_in _ (by omega)
    have hwo:wOf wt x=min pr 1000000:=by rw [zabt hso,hA,hza,hxb,hmx,hpr']
    obtain ⟨z,hz⟩:∃ z,wOf wt x=z:=⟨_,rfl⟩
    rw [hz] at hwo hwl Hm4 HW4 hV
    rw [hT] at HW4 hV
    have HZ:=Lib.hid hwo
    have HV4:=Lib.hid hV
    clear hV hwo hz em hto h10
    clear hso
    refine (zp x.op true false true true _ K1.out K2.out K3.out (decide_eq_true (zhf Hok.out))).mono ?_
    rintro e w3 ⟨rfl,bY⟩
    have q1:=s1
    clear s0 s1 s2 s3 s4 s5 s6
    clear ae ai af ak ah al az aE aA aF
    have gb3:=bS gb2 bY
    have hrow3:=hrow2.to bY
    have gl:=hrow3.lt
    have hxl:wr.heap.size<w3.heap.size:=Nat.lt_of_lt_of_le hW2s bY.size
    obtain ⟨s0,s1,s2,s3,s4,s5,s6⟩:=HT.out _ bY
    obtain ⟨z0,ae,af,ah,az,aA,ai,ak,al,aE,aF⟩:=aq.out _ gb3
    rw [hT] at s1
    obtain ⟨rT,fT⟩:=hrow3.2 T hTN
    have hTi:(T:Int)<(N:Int):=by omega
    rw [hA] at s2
    have qa:w3.cell? ⟨g,A,none⟩=some (.int .i64 za):=by rw [<- hza];exact (hrow3.2 A hAN).1
    rw [hxb] at s3
    have HTT:=Lib.hid hT
    have HAA:=Lib.hid hA
    have HZA:=Lib.hid hza
    have HXB:=Lib.hid hxb
    clear hrow2 hA hza ha hxb hb hT
    have hmx':(if (if 1<xb then xb else 1) < -xb then -xb else if 1<xb then xb else 1)=mx:=by rw [<- hmx];split <;> split <;> omega
    clear hmx
    obtain ⟨j0,j1,j2,j3,j4,j5,j6⟩:=HT.out _ (bS bY (bN w3 (.cells #[.bool true,.bool false,.bool true] 70)))
    have hrow4:=hrow3.alloc (.cells #[.bool true,.bool false,.bool true] 70)
    rw [HTT.out] at j1
    obtain ⟨rT4,fT4⟩:=hrow4.2 T hTN
    rw [HAA.out] at j2
    have qa4:(w3.alloc (.cells #[.bool true,.bool false,.bool true] 70)).cell? ⟨g,A,none⟩=some (.int .i64 za):=by rw [<- HZA.out];exact (hrow4.2 A hAN).1
    rw [HXB.out] at j3
    go_wp2_with fail
    go_roundw
    case rel =>
     obtain rfl:=HZ.out
     exact ⟨k+1,L++[(T:Int)],upd wt (T:Int) _,max m _,by omega,by go_num,rfl,(gb3.setCell hgW _).alloc (by simp;omega) _,((hrow3.set T _).cast (fun i _ => zaal (N:=N) i)).alloc _,HA4,HV4,HL4,HW4,Hm4⟩
    case measure => simp [intOf] <;> omega
   ·
    have K1:Hid (decide (1<=zi x.op)=true):=by show _=_;rw [hso];decide
    have K2:Hid (decide (zi x.op=2)=false):=by show _=_;rw [hso];decide
    have K3:Hid (decide (x.op=7)=false):=by show _=_;rw [hso];decide
    have t10:(x.op != 10)=false:=by simp;exact hso
    have em:more L x=L:=by unfold more;rw [if_pos hso]
    have HA4:Hid (zbN c L (c.all.drop (k+1))=true):=by show _=_;rw [<- em];exact HA2.out
    have hV:=HV2.out
    rw [if_pos hso] at hV
    have HV4:=Lib.hid hV
    clear hV
    have ha:=HL.out _ (zaw Hok.out (by rw [hso];decide))
    obtain ⟨A,hA⟩:=Int.eq_ofNat_of_zero_le ha.1
    have hAN:A<N:=by omega
    rw [hA] at s2
    have hAi:(A:Int)<(N:Int):=by omega
    obtain ⟨za,hza⟩:∃ z,wt (A:Int)=z:=⟨_,rfl⟩
    have la:=HW.out (A:Int)
    rw [hza] at la
    clear hso
    refine (zp x.op true false false true _ K1.out K2.out K3.out (decide_eq_true (zhf Hok.out))).mono ?_
    rintro e w3 ⟨rfl,bY⟩
    have q1:=s1
    clear s0 s1 s2 s3 s4 s5 s6
    clear ae ai af ak ah al az aE aA aF
    have gb3:=bS gb2 bY
    have hrow3:=hrow2.to bY
    have gl:=hrow3.lt
    have hxl:wr.heap.size<w3.heap.size:=Nat.lt_of_lt_of_le hW2s bY.size
    obtain ⟨s0,s1,s2,s3,s4,s5,s6⟩:=HT.out _ bY
    obtain ⟨z0,ae,af,ah,az,aA,ai,ak,al,aE,aF⟩:=aq.out _ gb3
    rw [hA] at s2
    have qa:w3.cell? ⟨g,A,none⟩=some (.int .i64 za):=by rw [<- hza];exact (hrow3.2 A hAN).1
    have HAA:=Lib.hid hA
    have HZA:=Lib.hid hza
    clear hrow2 hA hza ha em
    obtain ⟨j0,j1,j2,j3,j4,j5,j6⟩:=HT.out _ (bS bY (bN w3 (.cells #[.bool true,.bool false,.bool false] 70)))
    have hrow4:=hrow3.alloc (.cells #[.bool true,.bool false,.bool false] 70)
    rw [HAA.out] at j2
    have qa4:(w3.alloc (.cells #[.bool true,.bool false,.bool false] 70)).cell? ⟨g,A,none⟩=some (.int .i64 za):=by rw [<- HZA.out];exact (hrow4.2 A hAN).1
    go_wp2_with fail
    go_roundw
    case rel => exact ⟨k+1,L,wt,m,by omega,by go_num,rfl,gb3.alloc (Nat.le_trans hgW (Nat.le_of_lt gl)) _,hrow3.alloc _,HA4,HV4,HL,HW,Hm⟩
    case measure => simp [intOf] <;> omega
  ·obtain rfl:k=n0:=by omega
   have ho:m=o:=by
    have:=HV.out
    rw [<- H0.out,List.drop_length] at this
    exact this
   subst ho
   go_wp2_with fail
   go_ret
   exact ⟨rfl,bS zb gb⟩

theorem vm_heavy (c:Cd) (v:Value) (w:World) (hc:IsC w c v) (hs:zbA 1000 c.all) (o:Int) (ho:zig c=o) :
  Calls Tryz.prog 16 #[aggC c v] w (fun e w' => e=.returned (.int .i64 o)/\Below w.heap.size w w'):=by
 unfold zig at ho
 cases h1:zU c with
 | false => rw [h1] at ho;obtain rfl:0=o:=ho;exact zabf c v w hc hs h1
 | true => rw [h1,if_pos rfl] at ho;exact zaba c v w hc hs h1 o ho

end Go.Proofs.YtkjcdnlpjldhaaaGreat

