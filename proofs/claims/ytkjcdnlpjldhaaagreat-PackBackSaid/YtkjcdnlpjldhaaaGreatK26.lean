/-
  The texts Vm8b, PackRow, PackWire, merged.
-/
import Derived.Test.YtkjcdnlpjldhaaaGreatK20
import Derived.Test.YtkjcdnlpjldhaaaGreatK11
import Derived.Deep.RegionHeld3
import Derived.Test.YtkjcdnlpjldhaaaGreatK04
import Derived.Test.YtkjcdnlpjldhaaaGreatK18
import Derived.Deep.AppendLies
set_option linter.unusedVariables false
set_option linter.unusedSimpArgs false
set_option maxRecDepth 100000
set_option maxHeartbeats 400000000
namespace Go.Proofs.YtkjcdnlpjldhaaaGreat
open Go.RowKit Tw
attribute [local go_sem ↓] Go.wp_at_zero Go.wp_at_succ

theorem zhk (mB g N:Nat) (u vJ:Value) (rows cols:Int) (op to xb:Int) (ng:Bool) (vn vd:Value) (lw1 lw2:List Nat) (R1:Nat) (nr1:Bool) (vr1 ur1:Value) {x:Rat}  (w:World) (hw:IsF w vn vd lw1 lw2) (hm:zM w mB g N u vJ rows cols) (hN:N<=100000) (hr1:R1<N) (tr1:zbW w g (R1*3) (.bool nr1) vr1 ur1) (qr1:IsK w nr1 vr1 ur1 x) (hb:-21<=xb/\xb<=21) (h0:x=0) (hn:xb<0)  :
  Calls Tryz.prog 98 #[.pointer (some ⟨mB,0,none⟩),.agg #[.int .i64 op,.int .i64 to,.int .i64 (R1:Int),.int .i64 xb,.bool ng,vn,vd]] w (fun e w' => e=.returned (.tuple #[aggR false (.slice none 0 0) (.slice none 0 0),.int .i64 3])/\Below w.heap.size w w'):=by
 obtain ⟨a0,n0,c0,rfl,H0,hm0⟩:=hw.1.open
 obtain ⟨a1,n1,c1,rfl,H1,hm1⟩:=hw.2.open
 have qq:=qr1.1
 have Hx1:=zaY qq
 obtain ⟨ra1,rn1,rc1,rfl,RH1,rm1⟩:=qr1.1.1.open
 obtain ⟨sa1,sn1,sc1,rfl,SH1,sm1⟩:=qr1.1.2.1.open
 have ri1:(R1:Int)<(N:Int):=by omega
 have lm:=hm.lt
 have lt1:=tr1.lt
 have Hz:=Lib.hid (zz RH1.out)
 have Hq:=Lib.hid (zdS RH1.out SH1.out)
 have t0:((rn1:Int) == 0)=true:=by simp;exact Hz.out.2 h0
 clear h0
 go_enter Tryz.func98,Tryz.ntmps98
 go_wp2_with fail
 obtain ⟨W0,an⟩:∃ W0,(w.alloc (.cells #[.int .i64 op,.int .i64 to,.int .i64 (R1:Int),.int .i64 xb,.bool ng,.slice a0 n0 c0,.slice a1 n1 c1] 49)).alloc (.cells #[.bool false,.slice none 0 0,.slice none 0 0] 47)=W0:=⟨_,rfl⟩
 have ap:=Lib.hid (show ∀ W',Below W0.heap.size W0 W'->(Bx7 W' w.heap.size (.int .i64 op) (.int .i64 to) (.int .i64 (R1:Int)) (.int .i64 xb) (.bool ng) (.slice a0 n0 c0) (.slice a1 n1 c1)/\Bx3 W' (w.heap.size+1) (.bool false) (.slice none 0 0) (.slice none 0 0)) from fun W' hb => by
   refine ⟨bx7 hb ?_ ?_ ?_ ?_ ?_ ?_ ?_ ?_ ?_ ?_ ?_ ?_ ?_ ?_,bx3 hb ?_ ?_ ?_ ?_ ?_ ?_⟩
   all_goals first|assumption|(rw [<- an];simp [go_sem]))
 have zb:Below w.heap.size w W0:=by rw [<- an];exact bS (bN _ _) (bN _ _)
 rw [an]
 clear an
 have i0:=hw.to zb
 have i1:=hm.to zb
 have i2:=tr1.to zb
 have i3:=qq.to zb
 have gb:Below W0.heap.size W0 W0:=Below.refl _ _
 obtain ⟨⟨z0,ae,af,ag,az,aA,bf,bh,ah,ak,al,aJ,aK,bm,bn⟩,⟨z1,aB,aD,aE,aG,aH,aI⟩⟩:=ap.out _ gb
 obtain ⟨e0,e1,e2,e3,e4⟩:=(i1.to gb)
 obtain ⟨t10,t11,t12⟩:=(i2.to gb)
 go_wp2_with fail
 have gba:Below W0.heap.size W0 (W0.alloc (.cells #[.bool false,.slice none 0 0,.slice none 0 0] 47)):=bS gb (bN _ _)
 obtain ⟨⟨az0,ax0_0,ax0_1,ax0_2,ax0_3,ax0_4,ax0_5,ax0_6,ay0_0,ay0_1,ay0_2,ay0_3,ay0_4,ay0_5,ay0_6⟩,⟨az1,ax1_0,ax1_1,ax1_2,ay1_0,ay1_1,ay1_2⟩⟩:=ap.out _ gba
 obtain ⟨ae0,ae1,ae2,ae3,ae4⟩:=(i1.to gba)
 obtain ⟨at10,at11,at12⟩:=(i2.to gba)
 go_region
 clear gba ax0_0 ay0_0 ax0_1 ay0_1 ax0_2 ay0_2 ax0_3 ay0_3 ax0_4 ay0_4 ax0_5 ay0_5 ax0_6 ay0_6 ax1_0 ay1_0 ax1_1 ay1_1 ax1_2 ay1_2 az0 az1 ae0 ae1 ae2 ae3 ae4 at10 at11 at12
 obtain ⟨W1,aO⟩:∃ W1,(W0.alloc (.cells #[.bool nr1,.slice ra1 rn1 rc1,.slice sa1 sn1 sc1] 47)).drew=W1:=⟨_,rfl⟩
 have hb_W1:Below W0.heap.size W0 W1:=by rw [<- aO];exact (bN _ _).drew
 have cS:Hid (W1.heap.size=W0.heap.size+1):=by show _=_;rw [<- aO];simp
 clear ae ah af ak ag al az aJ aA aK bf bm bh bn aB aG aD aH aE aI e0 e1 e2 e3 e4 t10 t11 t12
 replace gb:=bS gb hb_W1
 obtain ⟨⟨z0,ae,af,ag,az,aA,bf,bh,ah,ak,al,aJ,aK,bm,bn⟩,⟨z1,aB,aD,aE,aG,aH,aI⟩⟩:=ap.out _ gb
 obtain ⟨e0,e1,e2,e3,e4⟩:=(i1.to gb)
 obtain ⟨t10,t11,t12⟩:=(i2.to gb)
 have bu:W1.cell? ⟨W0.heap.size,0,none⟩=some (.bool nr1):=by rw [<- aO];simp [go_sem]
 have bV:W1.frozen? ⟨W0.heap.size,0,none⟩=false:=by rw [<- aO];simp [go_sem]
 have bv:W1.cell? ⟨W0.heap.size,1,none⟩=some (.slice ra1 rn1 rc1):=by rw [<- aO];simp [go_sem]
 have bW:W1.frozen? ⟨W0.heap.size,1,none⟩=false:=by rw [<- aO];simp [go_sem]
 have cg:W1.cell? ⟨W0.heap.size,2,none⟩=some (.slice sa1 sn1 sc1):=by rw [<- aO];simp [go_sem]
 have cm:W1.frozen? ⟨W0.heap.size,2,none⟩=false:=by rw [<- aO];simp [go_sem]
 have z2:W0.heap.size<W1.heap.size:=by rw [<- aO];simp
 rw [aO]
 clear aO
 replace i0:=i0.to gb
 replace i1:=i1.to gb
 replace i2:=i2.to gb
 replace i3:=i3.to gb
 replace zb:=bS zb gb
 have ck:=Lib.hid (show ∀ W',Below W1.heap.size W1 W'->(Bx7 W' w.heap.size (.int .i64 op) (.int .i64 to) (.int .i64 (R1:Int)) (.int .i64 xb) (.bool ng) (.slice a0 n0 c0) (.slice a1 n1 c1)/\Bx3 W' (w.heap.size+1) (.bool false) (.slice none 0 0) (.slice none 0 0)/\Bx3 W' W0.heap.size (.bool nr1) (.slice ra1 rn1 rc1) (.slice sa1 sn1 sc1)) from fun W' hb => by
   refine ⟨bx7 hb ?_ ?_ ?_ ?_ ?_ ?_ ?_ ?_ ?_ ?_ ?_ ?_ ?_ ?_,bx3 hb ?_ ?_ ?_ ?_ ?_ ?_,bx3 hb ?_ ?_ ?_ ?_ ?_ ?_⟩
   all_goals first|assumption|assumption)
 replace gb:=Below.refl W1.heap.size W1
 go_wp2_with fail
 exact bodyPost_ret (zt Tryz.results98 _ _ _ _ _ _ rfl (Tri.set (x0:=.bool false) (y0:=.slice none 0 0) (z0:=.slice none 0 0) ⟨aB,aD,aE,aG,aH,aI⟩ _ _ _)) rfl ⟨rfl,bT (bS zb gb) (by omega) _ _ _⟩

theorem zfR (mB g N:Nat) (u vJ:Value) (rows cols:Int) (op to xb:Int) (ng:Bool) (vn vd:Value) (lw1 lw2:List Nat) (R1:Nat) (nr1:Bool) (vr1 ur1:Value) {x:Rat}  (w:World) (hw:IsF w vn vd lw1 lw2) (hm:zM w mB g N u vJ rows cols) (hN:N<=100000) (hr1:R1<N) (tr1:zbW w g (R1*3) (.bool nr1) vr1 ur1) (qr1:IsK w nr1 vr1 ur1 x) (hb:-21<=xb/\xb<=21) (hg:x≠0) (hl:4096<szq x*xb.natAbs)  :
  Calls Tryz.prog 98 #[.pointer (some ⟨mB,0,none⟩),.agg #[.int .i64 op,.int .i64 to,.int .i64 (R1:Int),.int .i64 xb,.bool ng,vn,vd]] w (fun e w' => e=.returned (.tuple #[aggR false (.slice none 0 0) (.slice none 0 0),.int .i64 4])/\Below w.heap.size w w'):=by
 obtain ⟨a0,n0,c0,rfl,H0,hm0⟩:=hw.1.open
 obtain ⟨a1,n1,c1,rfl,H1,hm1⟩:=hw.2.open
 have qq:=qr1.1
 have Hx1:=zaY qq
 obtain ⟨ra1,rn1,rc1,rfl,RH1,rm1⟩:=qr1.1.1.open
 obtain ⟨sa1,sn1,sc1,rfl,SH1,sm1⟩:=qr1.1.2.1.open
 have ri1:(R1:Int)<(N:Int):=by omega
 have lm:=hm.lt
 have lt1:=tr1.lt
 have Hz:=Lib.hid (zz RH1.out)
 have Hq:=Lib.hid (zdS RH1.out SH1.out)
 have t0:((rn1:Int) == 0)=false:=by simp;exact fun e => hg (Hz.out.1 e)
 clear hg
 obtain ⟨m,hm9⟩:∃ m:Nat,max rn1 sn1=m:=⟨_,rfl⟩
 have HM:=Lib.hid (show ((max (za x.num.natAbs).length (za x.den).length:Nat):Int)=(m:Int) by rw [RH1.out,SH1.out,hm9])
 have Hm:=Lib.hid (show szq x=m by rw [Hq.out,hm9])
 have hm10:m<=1000:=by have:=Hx1.out;have:=Hm.out;omega
 obtain ⟨k,hk⟩:∃ k:Nat,xb.natAbs=k:=⟨_,rfl⟩
 have hk21:k<=21:=by omega
 have hneg:IntKind.i64.wrap (-xb)=-xb:=IntWalk.i64_in _ (by omega)
 have hmax:max xb (-xb)=(k:Int):=by omega
 have hmk:m*k<=1000*21:=Nat.mul_le_mul hm10 hk21
 obtain ⟨P,hP⟩:∃ P:Nat,m*k=P:=⟨_,rfl⟩
 have hmul:IntKind.i64.wrap ((m:Int)*(k:Int))=(P:Int):=by
  rw [<- Int.natCast_mul,hP]
  exact IntWalk.i64_in _ (by omega)
 rw [hk,Hm.out,hP] at hl
 have t4:decide (4096<P)=true:=decide_eq_true hl
 have t5:decide ((4096:Int)<(P:Int))=true:=decide_eq_true (by omega)
 clear hl hm9 hP hk hmk
 go_enter Tryz.func98,Tryz.ntmps98
 go_wp2_with fail
 obtain ⟨W0,an⟩:∃ W0,(w.alloc (.cells #[.int .i64 op,.int .i64 to,.int .i64 (R1:Int),.int .i64 xb,.bool ng,.slice a0 n0 c0,.slice a1 n1 c1] 49)).alloc (.cells #[.bool false,.slice none 0 0,.slice none 0 0] 47)=W0:=⟨_,rfl⟩
 have ap:=Lib.hid (show ∀ W',Below W0.heap.size W0 W'->(Bx7 W' w.heap.size (.int .i64 op) (.int .i64 to) (.int .i64 (R1:Int)) (.int .i64 xb) (.bool ng) (.slice a0 n0 c0) (.slice a1 n1 c1)/\Bx3 W' (w.heap.size+1) (.bool false) (.slice none 0 0) (.slice none 0 0)) from fun W' hb => by
   refine ⟨bx7 hb ?_ ?_ ?_ ?_ ?_ ?_ ?_ ?_ ?_ ?_ ?_ ?_ ?_ ?_,bx3 hb ?_ ?_ ?_ ?_ ?_ ?_⟩
   all_goals first|assumption|(rw [<- an];simp [go_sem]))
 have zb:Below w.heap.size w W0:=by rw [<- an];exact bS (bN _ _) (bN _ _)
 rw [an]
 clear an
 have i0:=hw.to zb
 have i1:=hm.to zb
 have i2:=tr1.to zb
 have i3:=qq.to zb
 have gb:Below W0.heap.size W0 W0:=Below.refl _ _
 obtain ⟨⟨z0,ae,af,ag,az,aA,bf,bh,ah,ak,al,aJ,aK,bm,bn⟩,⟨z1,aB,aD,aE,aG,aH,aI⟩⟩:=ap.out _ gb
 obtain ⟨e0,e1,e2,e3,e4⟩:=(i1.to gb)
 obtain ⟨t10,t11,t12⟩:=(i2.to gb)
 go_wp2_with fail
 have gba:Below W0.heap.size W0 (W0.alloc (.cells #[.bool false,.slice none 0 0,.slice none 0 0] 47)):=bS gb (bN _ _)
 obtain ⟨⟨az0,ax0_0,ax0_1,ax0_2,ax0_3,ax0_4,ax0_5,ax0_6,ay0_0,ay0_1,ay0_2,ay0_3,ay0_4,ay0_5,ay0_6⟩,⟨az1,ax1_0,ax1_1,ax1_2,ay1_0,ay1_1,ay1_2⟩⟩:=ap.out _ gba
 obtain ⟨ae0,ae1,ae2,ae3,ae4⟩:=(i1.to gba)
 obtain ⟨at10,at11,at12⟩:=(i2.to gba)
 go_region
 clear gba ax0_0 ay0_0 ax0_1 ay0_1 ax0_2 ay0_2 ax0_3 ay0_3 ax0_4 ay0_4 ax0_5 ay0_5 ax0_6 ay0_6 ax1_0 ay1_0 ax1_1 ay1_1 ax1_2 ay1_2 az0 az1 ae0 ae1 ae2 ae3 ae4 at10 at11 at12
 obtain ⟨W1,aO⟩:∃ W1,(W0.alloc (.cells #[.bool nr1,.slice ra1 rn1 rc1,.slice sa1 sn1 sc1] 47)).drew=W1:=⟨_,rfl⟩
 have hb_W1:Below W0.heap.size W0 W1:=by rw [<- aO];exact (bN _ _).drew
 have cS:Hid (W1.heap.size=W0.heap.size+1):=by show _=_;rw [<- aO];simp
 clear ae ah af ak ag al az aJ aA aK bf bm bh bn aB aG aD aH aE aI e0 e1 e2 e3 e4 t10 t11 t12
 replace gb:=bS gb hb_W1
 obtain ⟨⟨z0,ae,af,ag,az,aA,bf,bh,ah,ak,al,aJ,aK,bm,bn⟩,⟨z1,aB,aD,aE,aG,aH,aI⟩⟩:=ap.out _ gb
 obtain ⟨e0,e1,e2,e3,e4⟩:=(i1.to gb)
 obtain ⟨t10,t11,t12⟩:=(i2.to gb)
 have bu:W1.cell? ⟨W0.heap.size,0,none⟩=some (.bool nr1):=by rw [<- aO];simp [go_sem]
 have bV:W1.frozen? ⟨W0.heap.size,0,none⟩=false:=by rw [<- aO];simp [go_sem]
 have bv:W1.cell? ⟨W0.heap.size,1,none⟩=some (.slice ra1 rn1 rc1):=by rw [<- aO];simp [go_sem]
 have bW:W1.frozen? ⟨W0.heap.size,1,none⟩=false:=by rw [<- aO];simp [go_sem]
 have cg:W1.cell? ⟨W0.heap.size,2,none⟩=some (.slice sa1 sn1 sc1):=by rw [<- aO];simp [go_sem]
 have cm:W1.frozen? ⟨W0.heap.size,2,none⟩=false:=by rw [<- aO];simp [go_sem]
 have z2:W0.heap.size<W1.heap.size:=by rw [<- aO];simp
 rw [aO]
 clear aO
 replace i0:=i0.to gb
 replace i1:=i1.to gb
 replace i2:=i2.to gb
 replace i3:=i3.to gb
 replace zb:=bS zb gb
 have ck:=Lib.hid (show ∀ W',Below W1.heap.size W1 W'->(Bx7 W' w.heap.size (.int .i64 op) (.int .i64 to) (.int .i64 (R1:Int)) (.int .i64 xb) (.bool ng) (.slice a0 n0 c0) (.slice a1 n1 c1)/\Bx3 W' (w.heap.size+1) (.bool false) (.slice none 0 0) (.slice none 0 0)/\Bx3 W' W0.heap.size (.bool nr1) (.slice ra1 rn1 rc1) (.slice sa1 sn1 sc1)) from fun W' hb => by
   refine ⟨bx7 hb ?_ ?_ ?_ ?_ ?_ ?_ ?_ ?_ ?_ ?_ ?_ ?_ ?_ ?_,bx3 hb ?_ ?_ ?_ ?_ ?_ ?_,bx3 hb ?_ ?_ ?_ ?_ ?_ ?_⟩
   all_goals first|assumption|assumption)
 replace gb:=Below.refl W1.heap.size W1
 go_wp2_with fail
 have nzx_e0:mB≠w.heap.size+1:=by omega
 have nzx_e1:mB≠w.heap.size+1:=by omega
 have nzx_t10:g≠w.heap.size+1:=by omega
 have nzx_t11:g≠w.heap.size+1:=by omega
 have nzx_t12:g≠w.heap.size+1:=by omega
 have nz0:w.heap.size≠w.heap.size+1:=by omega
 have nz2:W0.heap.size≠w.heap.size+1:=by omega
 go_region_held3 (fun W' => W'.cell? ⟨w.heap.size,0,none⟩=some (.int .i64 op)/\W'.cell? ⟨w.heap.size,1,none⟩=some (.int .i64 to)/\W'.cell? ⟨w.heap.size,2,none⟩=some (.int .i64 (R1:Int))/\W'.cell? ⟨w.heap.size,3,none⟩=some (.int .i64 xb)/\W'.cell? ⟨w.heap.size,4,none⟩=some (.bool ng)/\W'.cell? ⟨w.heap.size,5,none⟩=some (.slice a0 n0 c0)/\W'.cell? ⟨w.heap.size,6,none⟩=some (.slice a1 n1 c1)/\W'.cell? ⟨W0.heap.size,0,none⟩=some (.bool nr1)/\W'.cell? ⟨W0.heap.size,1,none⟩=some (.slice ra1 rn1 rc1)/\W'.cell? ⟨W0.heap.size,2,none⟩=some (.slice sa1 sn1 sc1)/\W'.cell? ⟨mB,0,none⟩=some (u)/\W'.cell? ⟨mB,1,none⟩=some (.slice (some ⟨g,0,none⟩) N N)/\W'.cell? ⟨g,R1*3,none⟩=some (.bool nr1)/\W'.cell? ⟨g,R1*3+1,none⟩=some (.slice ra1 rn1 rc1)/\W'.cell? ⟨g,R1*3+2,none⟩=some (.slice sa1 sn1 sc1)) (first|(with_reducible exact ⟨ae,af,ag,az,aA,bf,bh,bu,bv,cg,e0,e1,t10,t11,t12⟩)|(with_reducible exact ⟨cP (cP (cP (ae) (.inl nz0) _) (.inl nz0) _) (.inl nz0) _,cP (cP (cP (af) (.inl nz0) _) (.inl nz0) _) (.inl nz0) _,cP (cP (cP (ag) (.inl nz0) _) (.inl nz0) _) (.inl nz0) _,cP (cP (cP (az) (.inl nz0) _) (.inl nz0) _) (.inl nz0) _,cP (cP (cP (aA) (.inl nz0) _) (.inl nz0) _) (.inl nz0) _,cP (cP (cP (bf) (.inl nz0) _) (.inl nz0) _) (.inl nz0) _,cP (cP (cP (bh) (.inl nz0) _) (.inl nz0) _) (.inl nz0) _,cP (cP (cP (bu) (.inl nz2) _) (.inl nz2) _) (.inl nz2) _,cP (cP (cP (bv) (.inl nz2) _) (.inl nz2) _) (.inl nz2) _,cP (cP (cP (cg) (.inl nz2) _) (.inl nz2) _) (.inl nz2) _,cP (cP (cP (e0) (.inl nzx_e0) _) (.inl nzx_e0) _) (.inl nzx_e0) _,cP (cP (cP (e1) (.inl nzx_e1) _) (.inl nzx_e1) _) (.inl nzx_e1) _,cP (cP (cP (t10) (.inl nzx_t10) _) (.inl nzx_t10) _) (.inl nzx_t10) _,cP (cP (cP (t11) (.inl nzx_t11) _) (.inl nzx_t11) _) (.inl nzx_t11) _,cP (cP (cP (t12) (.inl nzx_t12) _) (.inl nzx_t12) _) (.inl nzx_t12) _⟩)|exact ⟨ae,af,ag,az,aA,bf,bh,bu,bv,cg,e0,e1,t10,t11,t12⟩) (first
  | (go_at_call 66;have gb:=gb.drew;(with_reducible refine (zar nr1 _ _ _ _ _ (i3.to gb).isF (m:Int) HM.out).mono ?_);rintro e w1 ⟨rfl,be⟩;have gb:=bS gb be;obtain ⟨⟨z0,ae,af,ag,az,aA,bf,bh,ah,ak,al,aJ,aK,bm,bn⟩,⟨z1,aB,aD,aE,aG,aH,aI⟩,⟨z2,bu,bv,cg,bV,bW,cm⟩⟩:=ck.out _ gb;obtain ⟨e0,e1,e2,e3,e4⟩:=(i1.to gb);obtain ⟨t10,t11,t12⟩:=(i2.to gb)))
 all_goals
  clear hmul hneg hmax
  go_wp2_with fail
  exact bodyPost_ret (zt Tryz.results98 _ _ _ _ _ _ rfl (Tri.set (x0:=.bool false) (y0:=.slice none 0 0) (z0:=.slice none 0 0) ⟨aB,aD,aE,aG,aH,aI⟩ _ _ _)) rfl ⟨rfl,bT (bS zb gb) (by omega) _ _ _⟩

theorem zin (mB g N:Nat) (u vJ:Value) (rows cols:Int) (op to xb:Int) (ng:Bool) (vn vd:Value) (lw1 lw2:List Nat) (R1:Nat) (nr1:Bool) (vr1 ur1:Value) {x:Rat}  (w:World) (hw:IsF w vn vd lw1 lw2) (hm:zM w mB g N u vJ rows cols) (hN:N<=100000) (hr1:R1<N) (tr1:zbW w g (R1*3) (.bool nr1) vr1 ur1) (qr1:IsK w nr1 vr1 ur1 x) (hb:-21<=xb/\xb<=21) (hg:x≠0) (hsn:0<=xb) (hl:szq x*xb.toNat<=999)  :
  Calls Tryz.prog 98 #[.pointer (some ⟨mB,0,none⟩),.agg #[.int .i64 op,.int .i64 to,.int .i64 (R1:Int),.int .i64 xb,.bool ng,vn,vd]] w (zL w (x ^ xb.toNat)):=by
 obtain ⟨a0,n0,c0,rfl,H0,hm0⟩:=hw.1.open
 obtain ⟨a1,n1,c1,rfl,H1,hm1⟩:=hw.2.open
 have qq:=qr1.1
 have Hx1:=zaY qq
 obtain ⟨ra1,rn1,rc1,rfl,RH1,rm1⟩:=qr1.1.1.open
 obtain ⟨sa1,sn1,sc1,rfl,SH1,sm1⟩:=qr1.1.2.1.open
 have ri1:(R1:Int)<(N:Int):=by omega
 have lm:=hm.lt
 have lt1:=tr1.lt
 have Hz:=Lib.hid (zz RH1.out)
 have Hq:=Lib.hid (zdS RH1.out SH1.out)
 have t0:((rn1:Int) == 0)=false:=by simp;exact fun e => hg (Hz.out.1 e)
 clear hg
 have Hs9:=Lib.hid hl
 obtain ⟨m,hm9⟩:∃ m:Nat,max rn1 sn1=m:=⟨_,rfl⟩
 have HM:=Lib.hid (show ((max (za x.num.natAbs).length (za x.den).length:Nat):Int)=(m:Int) by rw [RH1.out,SH1.out,hm9])
 have Hm:=Lib.hid (show szq x=m by rw [Hq.out,hm9])
 have hm10:m<=1000:=by have:=Hx1.out;have:=Hm.out;omega
 obtain ⟨k,hk⟩:∃ k:Nat,xb.natAbs=k:=⟨_,rfl⟩
 have hk21:k<=21:=by omega
 have hneg:IntKind.i64.wrap (-xb)=-xb:=IntWalk.i64_in _ (by omega)
 have hmax:max xb (-xb)=(k:Int):=by omega
 have hmk:m*k<=1000*21:=Nat.mul_le_mul hm10 hk21
 obtain ⟨P,hP⟩:∃ P:Nat,m*k=P:=⟨_,rfl⟩
 have hmul:IntKind.i64.wrap ((m:Int)*(k:Int))=(P:Int):=by
  rw [<- Int.natCast_mul,hP]
  exact IntWalk.i64_in _ (by omega)
 rw [show xb.toNat=k by omega,Hm.out,hP] at hl
 have t4:decide (4096<P)=false:=decide_eq_false (by omega)
 have t5:decide ((4096:Int)<(P:Int))=false:=decide_eq_false (by omega)
 clear hl hm9 hP hk hmk
 go_enter Tryz.func98,Tryz.ntmps98
 go_wp2_with fail
 obtain ⟨W0,an⟩:∃ W0,(w.alloc (.cells #[.int .i64 op,.int .i64 to,.int .i64 (R1:Int),.int .i64 xb,.bool ng,.slice a0 n0 c0,.slice a1 n1 c1] 49)).alloc (.cells #[.bool false,.slice none 0 0,.slice none 0 0] 47)=W0:=⟨_,rfl⟩
 have ap:=Lib.hid (show ∀ W',Below W0.heap.size W0 W'->(Bx7 W' w.heap.size (.int .i64 op) (.int .i64 to) (.int .i64 (R1:Int)) (.int .i64 xb) (.bool ng) (.slice a0 n0 c0) (.slice a1 n1 c1)/\Bx3 W' (w.heap.size+1) (.bool false) (.slice none 0 0) (.slice none 0 0)) from fun W' hb => by
   refine ⟨bx7 hb ?_ ?_ ?_ ?_ ?_ ?_ ?_ ?_ ?_ ?_ ?_ ?_ ?_ ?_,bx3 hb ?_ ?_ ?_ ?_ ?_ ?_⟩
   all_goals first|assumption|(rw [<- an];simp [go_sem]))
 have zb:Below w.heap.size w W0:=by rw [<- an];exact bS (bN _ _) (bN _ _)
 rw [an]
 clear an
 have i0:=hw.to zb
 have i1:=hm.to zb
 have i2:=tr1.to zb
 have i3:=qq.to zb
 have gb:Below W0.heap.size W0 W0:=Below.refl _ _
 obtain ⟨⟨z0,ae,af,ag,az,aA,bf,bh,ah,ak,al,aJ,aK,bm,bn⟩,⟨z1,aB,aD,aE,aG,aH,aI⟩⟩:=ap.out _ gb
 obtain ⟨e0,e1,e2,e3,e4⟩:=(i1.to gb)
 obtain ⟨t10,t11,t12⟩:=(i2.to gb)
 go_wp2_with fail
 have gba:Below W0.heap.size W0 (W0.alloc (.cells #[.bool false,.slice none 0 0,.slice none 0 0] 47)):=bS gb (bN _ _)
 obtain ⟨⟨az0,ax0_0,ax0_1,ax0_2,ax0_3,ax0_4,ax0_5,ax0_6,ay0_0,ay0_1,ay0_2,ay0_3,ay0_4,ay0_5,ay0_6⟩,⟨az1,ax1_0,ax1_1,ax1_2,ay1_0,ay1_1,ay1_2⟩⟩:=ap.out _ gba
 obtain ⟨ae0,ae1,ae2,ae3,ae4⟩:=(i1.to gba)
 obtain ⟨at10,at11,at12⟩:=(i2.to gba)
 go_region
 clear gba ax0_0 ay0_0 ax0_1 ay0_1 ax0_2 ay0_2 ax0_3 ay0_3 ax0_4 ay0_4 ax0_5 ay0_5 ax0_6 ay0_6 ax1_0 ay1_0 ax1_1 ay1_1 ax1_2 ay1_2 az0 az1 ae0 ae1 ae2 ae3 ae4 at10 at11 at12
 obtain ⟨W1,aO⟩:∃ W1,(W0.alloc (.cells #[.bool nr1,.slice ra1 rn1 rc1,.slice sa1 sn1 sc1] 47)).drew=W1:=⟨_,rfl⟩
 have hb_W1:Below W0.heap.size W0 W1:=by rw [<- aO];exact (bN _ _).drew
 have cS:Hid (W1.heap.size=W0.heap.size+1):=by show _=_;rw [<- aO];simp
 clear ae ah af ak ag al az aJ aA aK bf bm bh bn aB aG aD aH aE aI e0 e1 e2 e3 e4 t10 t11 t12
 replace gb:=bS gb hb_W1
 obtain ⟨⟨z0,ae,af,ag,az,aA,bf,bh,ah,ak,al,aJ,aK,bm,bn⟩,⟨z1,aB,aD,aE,aG,aH,aI⟩⟩:=ap.out _ gb
 obtain ⟨e0,e1,e2,e3,e4⟩:=(i1.to gb)
 obtain ⟨t10,t11,t12⟩:=(i2.to gb)
 have bu:W1.cell? ⟨W0.heap.size,0,none⟩=some (.bool nr1):=by rw [<- aO];simp [go_sem]
 have bV:W1.frozen? ⟨W0.heap.size,0,none⟩=false:=by rw [<- aO];simp [go_sem]
 have bv:W1.cell? ⟨W0.heap.size,1,none⟩=some (.slice ra1 rn1 rc1):=by rw [<- aO];simp [go_sem]
 have bW:W1.frozen? ⟨W0.heap.size,1,none⟩=false:=by rw [<- aO];simp [go_sem]
 have cg:W1.cell? ⟨W0.heap.size,2,none⟩=some (.slice sa1 sn1 sc1):=by rw [<- aO];simp [go_sem]
 have cm:W1.frozen? ⟨W0.heap.size,2,none⟩=false:=by rw [<- aO];simp [go_sem]
 have z2:W0.heap.size<W1.heap.size:=by rw [<- aO];simp
 rw [aO]
 clear aO
 replace i0:=i0.to gb
 replace i1:=i1.to gb
 replace i2:=i2.to gb
 replace i3:=i3.to gb
 replace zb:=bS zb gb
 have ck:=Lib.hid (show ∀ W',Below W1.heap.size W1 W'->(Bx7 W' w.heap.size (.int .i64 op) (.int .i64 to) (.int .i64 (R1:Int)) (.int .i64 xb) (.bool ng) (.slice a0 n0 c0) (.slice a1 n1 c1)/\Bx3 W' (w.heap.size+1) (.bool false) (.slice none 0 0) (.slice none 0 0)/\Bx3 W' W0.heap.size (.bool nr1) (.slice ra1 rn1 rc1) (.slice sa1 sn1 sc1)) from fun W' hb => by
   refine ⟨bx7 hb ?_ ?_ ?_ ?_ ?_ ?_ ?_ ?_ ?_ ?_ ?_ ?_ ?_ ?_,bx3 hb ?_ ?_ ?_ ?_ ?_ ?_,bx3 hb ?_ ?_ ?_ ?_ ?_ ?_⟩
   all_goals first|assumption|assumption)
 replace gb:=Below.refl W1.heap.size W1
 go_wp2_with fail
 have nzx_e0:mB≠w.heap.size+1:=by omega
 have nzx_e1:mB≠w.heap.size+1:=by omega
 have nzx_t10:g≠w.heap.size+1:=by omega
 have nzx_t11:g≠w.heap.size+1:=by omega
 have nzx_t12:g≠w.heap.size+1:=by omega
 have nz0:w.heap.size≠w.heap.size+1:=by omega
 have nz2:W0.heap.size≠w.heap.size+1:=by omega
 go_region_held3 (fun W' => W'.cell? ⟨w.heap.size,0,none⟩=some (.int .i64 op)/\W'.cell? ⟨w.heap.size,1,none⟩=some (.int .i64 to)/\W'.cell? ⟨w.heap.size,2,none⟩=some (.int .i64 (R1:Int))/\W'.cell? ⟨w.heap.size,3,none⟩=some (.int .i64 xb)/\W'.cell? ⟨w.heap.size,4,none⟩=some (.bool ng)/\W'.cell? ⟨w.heap.size,5,none⟩=some (.slice a0 n0 c0)/\W'.cell? ⟨w.heap.size,6,none⟩=some (.slice a1 n1 c1)/\W'.cell? ⟨W0.heap.size,0,none⟩=some (.bool nr1)/\W'.cell? ⟨W0.heap.size,1,none⟩=some (.slice ra1 rn1 rc1)/\W'.cell? ⟨W0.heap.size,2,none⟩=some (.slice sa1 sn1 sc1)/\W'.cell? ⟨mB,0,none⟩=some (u)/\W'.cell? ⟨mB,1,none⟩=some (.slice (some ⟨g,0,none⟩) N N)/\W'.cell? ⟨g,R1*3,none⟩=some (.bool nr1)/\W'.cell? ⟨g,R1*3+1,none⟩=some (.slice ra1 rn1 rc1)/\W'.cell? ⟨g,R1*3+2,none⟩=some (.slice sa1 sn1 sc1)) (first|(with_reducible exact ⟨ae,af,ag,az,aA,bf,bh,bu,bv,cg,e0,e1,t10,t11,t12⟩)|(with_reducible exact ⟨cP (cP (cP (ae) (.inl nz0) _) (.inl nz0) _) (.inl nz0) _,cP (cP (cP (af) (.inl nz0) _) (.inl nz0) _) (.inl nz0) _,cP (cP (cP (ag) (.inl nz0) _) (.inl nz0) _) (.inl nz0) _,cP (cP (cP (az) (.inl nz0) _) (.inl nz0) _) (.inl nz0) _,cP (cP (cP (aA) (.inl nz0) _) (.inl nz0) _) (.inl nz0) _,cP (cP (cP (bf) (.inl nz0) _) (.inl nz0) _) (.inl nz0) _,cP (cP (cP (bh) (.inl nz0) _) (.inl nz0) _) (.inl nz0) _,cP (cP (cP (bu) (.inl nz2) _) (.inl nz2) _) (.inl nz2) _,cP (cP (cP (bv) (.inl nz2) _) (.inl nz2) _) (.inl nz2) _,cP (cP (cP (cg) (.inl nz2) _) (.inl nz2) _) (.inl nz2) _,cP (cP (cP (e0) (.inl nzx_e0) _) (.inl nzx_e0) _) (.inl nzx_e0) _,cP (cP (cP (e1) (.inl nzx_e1) _) (.inl nzx_e1) _) (.inl nzx_e1) _,cP (cP (cP (t10) (.inl nzx_t10) _) (.inl nzx_t10) _) (.inl nzx_t10) _,cP (cP (cP (t11) (.inl nzx_t11) _) (.inl nzx_t11) _) (.inl nzx_t11) _,cP (cP (cP (t12) (.inl nzx_t12) _) (.inl nzx_t12) _) (.inl nzx_t12) _⟩)|exact ⟨ae,af,ag,az,aA,bf,bh,bu,bv,cg,e0,e1,t10,t11,t12⟩) (first
  | (go_at_call 66;have gb:=gb.drew;(with_reducible refine (zar nr1 _ _ _ _ _ (i3.to gb).isF (m:Int) HM.out).mono ?_);rintro e w1 ⟨rfl,be⟩;have gb:=bS gb be;obtain ⟨⟨z0,ae,af,ag,az,aA,bf,bh,ah,ak,al,aJ,aK,bm,bn⟩,⟨z1,aB,aD,aE,aG,aH,aI⟩,⟨z2,bu,bv,cg,bV,bW,cm⟩⟩:=ck.out _ gb;obtain ⟨e0,e1,e2,e3,e4⟩:=(i1.to gb);obtain ⟨t10,t11,t12⟩:=(i2.to gb)))
 all_goals
  clear hmul hneg hmax
  go_wp2_with fail
  refine (pow_pos nr1 _ _ _ _ xb _ (i3.to gb) hsn (by omega) Hs9.out).mono ?_
  clear ae ah af ak ag al az aJ aA aK bf bm bh bn aB aG aD aH aE aI bu bV bv bW cg cm e0 e1 e2 e3 e4 t10 t11 t12
  rintro e w2 ⟨ng2,a2_,n2_,c2_,p2_,m2_,k2_,rfl,g2,aZ⟩
  replace gb:=bS gb aZ
  obtain ⟨⟨z0,ae,af,ag,az,aA,bf,bh,ah,ak,al,aJ,aK,bm,bn⟩,⟨z1,aB,aD,aE,aG,aH,aI⟩,⟨z2,bu,bv,cg,bV,bW,cm⟩⟩:=ck.out _ gb
  obtain ⟨e0,e1,e2,e3,e4⟩:=(i1.to gb)
  obtain ⟨t10,t11,t12⟩:=(i2.to gb)
  go_wp2_with fail
  refine bodyPost_ret (zt Tryz.results98 _ _ _ _ _ _ rfl (Tri.set (x0:=.bool false) (y0:=.slice none 0 0) (z0:=.slice none 0 0) ⟨aB,aD,aE,aG,aH,aI⟩ _ _ _)) rfl (zcf (bS zb gb) (by omega) ?_ g2)
  first|omega|(simp;omega)

theorem zim (mB g N:Nat) (u vJ:Value) (rows cols:Int) (op to xb:Int) (ng:Bool) (vn vd:Value) (lw1 lw2:List Nat) (R1:Nat) (nr1:Bool) (vr1 ur1:Value) {x:Rat}  (w:World) (hw:IsF w vn vd lw1 lw2) (hm:zM w mB g N u vJ rows cols) (hN:N<=100000) (hr1:R1<N) (tr1:zbW w g (R1*3) (.bool nr1) vr1 ur1) (qr1:IsK w nr1 vr1 ur1 x) (hb:-21<=xb/\xb<=21) (hg:x≠0) (hsn:xb<0) (hx0:x≠0) (hl:szq x*(-xb).toNat<=999)  :
  Calls Tryz.prog 98 #[.pointer (some ⟨mB,0,none⟩),.agg #[.int .i64 op,.int .i64 to,.int .i64 (R1:Int),.int .i64 xb,.bool ng,vn,vd]] w (zL w ((x ^ (-xb).toNat)⁻¹)):=by
 obtain ⟨a0,n0,c0,rfl,H0,hm0⟩:=hw.1.open
 obtain ⟨a1,n1,c1,rfl,H1,hm1⟩:=hw.2.open
 have qq:=qr1.1
 have Hx1:=zaY qq
 obtain ⟨ra1,rn1,rc1,rfl,RH1,rm1⟩:=qr1.1.1.open
 obtain ⟨sa1,sn1,sc1,rfl,SH1,sm1⟩:=qr1.1.2.1.open
 have ri1:(R1:Int)<(N:Int):=by omega
 have lm:=hm.lt
 have lt1:=tr1.lt
 have Hz:=Lib.hid (zz RH1.out)
 have Hq:=Lib.hid (zdS RH1.out SH1.out)
 have t0:((rn1:Int) == 0)=false:=by simp;exact fun e => hg (Hz.out.1 e)
 clear hg
 have Hx0:=Lib.hid hx0
 clear hx0
 have Hs9:=Lib.hid hl
 obtain ⟨m,hm9⟩:∃ m:Nat,max rn1 sn1=m:=⟨_,rfl⟩
 have HM:=Lib.hid (show ((max (za x.num.natAbs).length (za x.den).length:Nat):Int)=(m:Int) by rw [RH1.out,SH1.out,hm9])
 have Hm:=Lib.hid (show szq x=m by rw [Hq.out,hm9])
 have hm10:m<=1000:=by have:=Hx1.out;have:=Hm.out;omega
 obtain ⟨k,hk⟩:∃ k:Nat,xb.natAbs=k:=⟨_,rfl⟩
 have hk21:k<=21:=by omega
 have hneg:IntKind.i64.wrap (-xb)=-xb:=IntWalk.i64_in _ (by omega)
 have hmax:max xb (-xb)=(k:Int):=by omega
 have hmk:m*k<=1000*21:=Nat.mul_le_mul hm10 hk21
 obtain ⟨P,hP⟩:∃ P:Nat,m*k=P:=⟨_,rfl⟩
 have hmul:IntKind.i64.wrap ((m:Int)*(k:Int))=(P:Int):=by
  rw [<- Int.natCast_mul,hP]
  exact IntWalk.i64_in _ (by omega)
 rw [show (-xb).toNat=k by omega,Hm.out,hP] at hl
 have t4:decide (4096<P)=false:=decide_eq_false (by omega)
 have t5:decide ((4096:Int)<(P:Int))=false:=decide_eq_false (by omega)
 clear hl hm9 hP hk hmk
 go_enter Tryz.func98,Tryz.ntmps98
 go_wp2_with fail
 obtain ⟨W0,an⟩:∃ W0,(w.alloc (.cells #[.int .i64 op,.int .i64 to,.int .i64 (R1:Int),.int .i64 xb,.bool ng,.slice a0 n0 c0,.slice a1 n1 c1] 49)).alloc (.cells #[.bool false,.slice none 0 0,.slice none 0 0] 47)=W0:=⟨_,rfl⟩
 have ap:=Lib.hid (show ∀ W',Below W0.heap.size W0 W'->(Bx7 W' w.heap.size (.int .i64 op) (.int .i64 to) (.int .i64 (R1:Int)) (.int .i64 xb) (.bool ng) (.slice a0 n0 c0) (.slice a1 n1 c1)/\Bx3 W' (w.heap.size+1) (.bool false) (.slice none 0 0) (.slice none 0 0)) from fun W' hb => by
   refine ⟨bx7 hb ?_ ?_ ?_ ?_ ?_ ?_ ?_ ?_ ?_ ?_ ?_ ?_ ?_ ?_,bx3 hb ?_ ?_ ?_ ?_ ?_ ?_⟩
   all_goals first|assumption|(rw [<- an];simp [go_sem]))
 have zb:Below w.heap.size w W0:=by rw [<- an];exact bS (bN _ _) (bN _ _)
 rw [an]
 clear an
 have i0:=hw.to zb
 have i1:=hm.to zb
 have i2:=tr1.to zb
 have i3:=qq.to zb
 have gb:Below W0.heap.size W0 W0:=Below.refl _ _
 obtain ⟨⟨z0,ae,af,ag,az,aA,bf,bh,ah,ak,al,aJ,aK,bm,bn⟩,⟨z1,aB,aD,aE,aG,aH,aI⟩⟩:=ap.out _ gb
 obtain ⟨e0,e1,e2,e3,e4⟩:=(i1.to gb)
 obtain ⟨t10,t11,t12⟩:=(i2.to gb)
 go_wp2_with fail
 have gba:Below W0.heap.size W0 (W0.alloc (.cells #[.bool false,.slice none 0 0,.slice none 0 0] 47)):=bS gb (bN _ _)
 obtain ⟨⟨az0,ax0_0,ax0_1,ax0_2,ax0_3,ax0_4,ax0_5,ax0_6,ay0_0,ay0_1,ay0_2,ay0_3,ay0_4,ay0_5,ay0_6⟩,⟨az1,ax1_0,ax1_1,ax1_2,ay1_0,ay1_1,ay1_2⟩⟩:=ap.out _ gba
 obtain ⟨ae0,ae1,ae2,ae3,ae4⟩:=(i1.to gba)
 obtain ⟨at10,at11,at12⟩:=(i2.to gba)
 go_region
 clear gba ax0_0 ay0_0 ax0_1 ay0_1 ax0_2 ay0_2 ax0_3 ay0_3 ax0_4 ay0_4 ax0_5 ay0_5 ax0_6 ay0_6 ax1_0 ay1_0 ax1_1 ay1_1 ax1_2 ay1_2 az0 az1 ae0 ae1 ae2 ae3 ae4 at10 at11 at12
 obtain ⟨W1,aO⟩:∃ W1,(W0.alloc (.cells #[.bool nr1,.slice ra1 rn1 rc1,.slice sa1 sn1 sc1] 47)).drew=W1:=⟨_,rfl⟩
 have hb_W1:Below W0.heap.size W0 W1:=by rw [<- aO];exact (bN _ _).drew
 have cS:Hid (W1.heap.size=W0.heap.size+1):=by show _=_;rw [<- aO];simp
 clear ae ah af ak ag al az aJ aA aK bf bm bh bn aB aG aD aH aE aI e0 e1 e2 e3 e4 t10 t11 t12
 replace gb:=bS gb hb_W1
 obtain ⟨⟨z0,ae,af,ag,az,aA,bf,bh,ah,ak,al,aJ,aK,bm,bn⟩,⟨z1,aB,aD,aE,aG,aH,aI⟩⟩:=ap.out _ gb
 obtain ⟨e0,e1,e2,e3,e4⟩:=(i1.to gb)
 obtain ⟨t10,t11,t12⟩:=(i2.to gb)
 have bu:W1.cell? ⟨W0.heap.size,0,none⟩=some (.bool nr1):=by rw [<- aO];simp [go_sem]
 have bV:W1.frozen? ⟨W0.heap.size,0,none⟩=false:=by rw [<- aO];simp [go_sem]
 have bv:W1.cell? ⟨W0.heap.size,1,none⟩=some (.slice ra1 rn1 rc1):=by rw [<- aO];simp [go_sem]
 have bW:W1.frozen? ⟨W0.heap.size,1,none⟩=false:=by rw [<- aO];simp [go_sem]
 have cg:W1.cell? ⟨W0.heap.size,2,none⟩=some (.slice sa1 sn1 sc1):=by rw [<- aO];simp [go_sem]
 have cm:W1.frozen? ⟨W0.heap.size,2,none⟩=false:=by rw [<- aO];simp [go_sem]
 have z2:W0.heap.size<W1.heap.size:=by rw [<- aO];simp
 rw [aO]
 clear aO
 replace i0:=i0.to gb
 replace i1:=i1.to gb
 replace i2:=i2.to gb
 replace i3:=i3.to gb
 replace zb:=bS zb gb
 have ck:=Lib.hid (show ∀ W',Below W1.heap.size W1 W'->(Bx7 W' w.heap.size (.int .i64 op) (.int .i64 to) (.int .i64 (R1:Int)) (.int .i64 xb) (.bool ng) (.slice a0 n0 c0) (.slice a1 n1 c1)/\Bx3 W' (w.heap.size+1) (.bool false) (.slice none 0 0) (.slice none 0 0)/\Bx3 W' W0.heap.size (.bool nr1) (.slice ra1 rn1 rc1) (.slice sa1 sn1 sc1)) from fun W' hb => by
   refine ⟨bx7 hb ?_ ?_ ?_ ?_ ?_ ?_ ?_ ?_ ?_ ?_ ?_ ?_ ?_ ?_,bx3 hb ?_ ?_ ?_ ?_ ?_ ?_,bx3 hb ?_ ?_ ?_ ?_ ?_ ?_⟩
   all_goals first|assumption|assumption)
 replace gb:=Below.refl W1.heap.size W1
 go_wp2_with fail
 have nzx_e0:mB≠w.heap.size+1:=by omega
 have nzx_e1:mB≠w.heap.size+1:=by omega
 have nzx_t10:g≠w.heap.size+1:=by omega
 have nzx_t11:g≠w.heap.size+1:=by omega
 have nzx_t12:g≠w.heap.size+1:=by omega
 have nz0:w.heap.size≠w.heap.size+1:=by omega
 have nz2:W0.heap.size≠w.heap.size+1:=by omega
 go_region_held3 (fun W' => W'.cell? ⟨w.heap.size,0,none⟩=some (.int .i64 op)/\W'.cell? ⟨w.heap.size,1,none⟩=some (.int .i64 to)/\W'.cell? ⟨w.heap.size,2,none⟩=some (.int .i64 (R1:Int))/\W'.cell? ⟨w.heap.size,3,none⟩=some (.int .i64 xb)/\W'.cell? ⟨w.heap.size,4,none⟩=some (.bool ng)/\W'.cell? ⟨w.heap.size,5,none⟩=some (.slice a0 n0 c0)/\W'.cell? ⟨w.heap.size,6,none⟩=some (.slice a1 n1 c1)/\W'.cell? ⟨W0.heap.size,0,none⟩=some (.bool nr1)/\W'.cell? ⟨W0.heap.size,1,none⟩=some (.slice ra1 rn1 rc1)/\W'.cell? ⟨W0.heap.size,2,none⟩=some (.slice sa1 sn1 sc1)/\W'.cell? ⟨mB,0,none⟩=some (u)/\W'.cell? ⟨mB,1,none⟩=some (.slice (some ⟨g,0,none⟩) N N)/\W'.cell? ⟨g,R1*3,none⟩=some (.bool nr1)/\W'.cell? ⟨g,R1*3+1,none⟩=some (.slice ra1 rn1 rc1)/\W'.cell? ⟨g,R1*3+2,none⟩=some (.slice sa1 sn1 sc1)) (first|(with_reducible exact ⟨ae,af,ag,az,aA,bf,bh,bu,bv,cg,e0,e1,t10,t11,t12⟩)|(with_reducible exact ⟨cP (cP (cP (ae) (.inl nz0) _) (.inl nz0) _) (.inl nz0) _,cP (cP (cP (af) (.inl nz0) _) (.inl nz0) _) (.inl nz0) _,cP (cP (cP (ag) (.inl nz0) _) (.inl nz0) _) (.inl nz0) _,cP (cP (cP (az) (.inl nz0) _) (.inl nz0) _) (.inl nz0) _,cP (cP (cP (aA) (.inl nz0) _) (.inl nz0) _) (.inl nz0) _,cP (cP (cP (bf) (.inl nz0) _) (.inl nz0) _) (.inl nz0) _,cP (cP (cP (bh) (.inl nz0) _) (.inl nz0) _) (.inl nz0) _,cP (cP (cP (bu) (.inl nz2) _) (.inl nz2) _) (.inl nz2) _,cP (cP (cP (bv) (.inl nz2) _) (.inl nz2) _) (.inl nz2) _,cP (cP (cP (cg) (.inl nz2) _) (.inl nz2) _) (.inl nz2) _,cP (cP (cP (e0) (.inl nzx_e0) _) (.inl nzx_e0) _) (.inl nzx_e0) _,cP (cP (cP (e1) (.inl nzx_e1) _) (.inl nzx_e1) _) (.inl nzx_e1) _,cP (cP (cP (t10) (.inl nzx_t10) _) (.inl nzx_t10) _) (.inl nzx_t10) _,cP (cP (cP (t11) (.inl nzx_t11) _) (.inl nzx_t11) _) (.inl nzx_t11) _,cP (cP (cP (t12) (.inl nzx_t12) _) (.inl nzx_t12) _) (.inl nzx_t12) _⟩)|exact ⟨ae,af,ag,az,aA,bf,bh,bu,bv,cg,e0,e1,t10,t11,t12⟩) (first
  | (go_at_call 66;have gb:=gb.drew;(with_reducible refine (zar nr1 _ _ _ _ _ (i3.to gb).isF (m:Int) HM.out).mono ?_);rintro e w1 ⟨rfl,be⟩;have gb:=bS gb be;obtain ⟨⟨z0,ae,af,ag,az,aA,bf,bh,ah,ak,al,aJ,aK,bm,bn⟩,⟨z1,aB,aD,aE,aG,aH,aI⟩,⟨z2,bu,bv,cg,bV,bW,cm⟩⟩:=ck.out _ gb;obtain ⟨e0,e1,e2,e3,e4⟩:=(i1.to gb);obtain ⟨t10,t11,t12⟩:=(i2.to gb)))
 all_goals
  clear hmul hneg hmax
  go_wp2_with fail
  refine (pow_neg nr1 _ _ _ _ xb _ (i3.to gb) (by omega) hsn Hx0.out Hs9.out).mono ?_
  clear ae ah af ak ag al az aJ aA aK bf bm bh bn aB aG aD aH aE aI bu bV bv bW cg cm e0 e1 e2 e3 e4 t10 t11 t12
  rintro e w2 ⟨ng2,a2_,n2_,c2_,p2_,m2_,k2_,rfl,g2,aZ⟩
  replace gb:=bS gb aZ
  obtain ⟨⟨z0,ae,af,ag,az,aA,bf,bh,ah,ak,al,aJ,aK,bm,bn⟩,⟨z1,aB,aD,aE,aG,aH,aI⟩,⟨z2,bu,bv,cg,bV,bW,cm⟩⟩:=ck.out _ gb
  obtain ⟨e0,e1,e2,e3,e4⟩:=(i1.to gb)
  obtain ⟨t10,t11,t12⟩:=(i2.to gb)
  go_wp2_with fail
  refine bodyPost_ret (zt Tryz.results98 _ _ _ _ _ _ rfl (Tri.set (x0:=.bool false) (y0:=.slice none 0 0) (z0:=.slice none 0 0) ⟨aB,aD,aE,aG,aH,aI⟩ _ _ _)) rfl (zcf (bS zb gb) (by omega) ?_ g2)
  first|omega|(simp;omega)

theorem zfS (mB g N:Nat) (u vJ:Value) (rows cols:Int) (op to xb:Int) (ng:Bool) (vn vd:Value) (lw1 lw2:List Nat) (R1:Nat) (nr1:Bool) (vr1 ur1:Value) {x:Rat}  (w:World) (hw:IsF w vn vd lw1 lw2) (hm:zM w mB g N u vJ rows cols) (hN:N<=100000) (hr1:R1<N) (tr1:zbW w g (R1*3) (.bool nr1) vr1 ur1) (qr1:IsK w nr1 vr1 ur1 x) (hb:-21<=xb/\xb<=21) (hg:¬ xb<0) (hg0:x=0) (hl:4096<szq x*xb.natAbs)  :
  Calls Tryz.prog 98 #[.pointer (some ⟨mB,0,none⟩),.agg #[.int .i64 op,.int .i64 to,.int .i64 (R1:Int),.int .i64 xb,.bool ng,vn,vd]] w (fun e w' => e=.returned (.tuple #[aggR false (.slice none 0 0) (.slice none 0 0),.int .i64 4])/\Below w.heap.size w w'):=by
 obtain ⟨a0,n0,c0,rfl,H0,hm0⟩:=hw.1.open
 obtain ⟨a1,n1,c1,rfl,H1,hm1⟩:=hw.2.open
 have qq:=qr1.1
 have Hx1:=zaY qq
 obtain ⟨ra1,rn1,rc1,rfl,RH1,rm1⟩:=qr1.1.1.open
 obtain ⟨sa1,sn1,sc1,rfl,SH1,sm1⟩:=qr1.1.2.1.open
 have ri1:(R1:Int)<(N:Int):=by omega
 have lm:=hm.lt
 have lt1:=tr1.lt
 have Hz:=Lib.hid (zz RH1.out)
 have Hq:=Lib.hid (zdS RH1.out SH1.out)
 have t0:((rn1:Int) == 0)=true:=by simp;exact Hz.out.2 hg0
 have tb:decide (xb<0)=false:=decide_eq_false hg
 clear hg hg0
 obtain ⟨m,hm9⟩:∃ m:Nat,max rn1 sn1=m:=⟨_,rfl⟩
 have HM:=Lib.hid (show ((max (za x.num.natAbs).length (za x.den).length:Nat):Int)=(m:Int) by rw [RH1.out,SH1.out,hm9])
 have Hm:=Lib.hid (show szq x=m by rw [Hq.out,hm9])
 have hm10:m<=1000:=by have:=Hx1.out;have:=Hm.out;omega
 obtain ⟨k,hk⟩:∃ k:Nat,xb.natAbs=k:=⟨_,rfl⟩
 have hk21:k<=21:=by omega
 have hneg:IntKind.i64.wrap (-xb)=-xb:=IntWalk.i64_in _ (by omega)
 have hmax:max xb (-xb)=(k:Int):=by omega
 have hmk:m*k<=1000*21:=Nat.mul_le_mul hm10 hk21
 obtain ⟨P,hP⟩:∃ P:Nat,m*k=P:=⟨_,rfl⟩
 have hmul:IntKind.i64.wrap ((m:Int)*(k:Int))=(P:Int):=by
  rw [<- Int.natCast_mul,hP]
  exact IntWalk.i64_in _ (by omega)
 rw [hk,Hm.out,hP] at hl
 have t4:decide (4096<P)=true:=decide_eq_true hl
 have t5:decide ((4096:Int)<(P:Int))=true:=decide_eq_true (by omega)
 clear hl hm9 hP hk hmk
 go_enter Tryz.func98,Tryz.ntmps98
 go_wp2_with fail
 obtain ⟨W0,an⟩:∃ W0,(w.alloc (.cells #[.int .i64 op,.int .i64 to,.int .i64 (R1:Int),.int .i64 xb,.bool ng,.slice a0 n0 c0,.slice a1 n1 c1] 49)).alloc (.cells #[.bool false,.slice none 0 0,.slice none 0 0] 47)=W0:=⟨_,rfl⟩
 have ap:=Lib.hid (show ∀ W',Below W0.heap.size W0 W'->(Bx7 W' w.heap.size (.int .i64 op) (.int .i64 to) (.int .i64 (R1:Int)) (.int .i64 xb) (.bool ng) (.slice a0 n0 c0) (.slice a1 n1 c1)/\Bx3 W' (w.heap.size+1) (.bool false) (.slice none 0 0) (.slice none 0 0)) from fun W' hb => by
   refine ⟨bx7 hb ?_ ?_ ?_ ?_ ?_ ?_ ?_ ?_ ?_ ?_ ?_ ?_ ?_ ?_,bx3 hb ?_ ?_ ?_ ?_ ?_ ?_⟩
   all_goals first|assumption|(rw [<- an];simp [go_sem]))
 have zb:Below w.heap.size w W0:=by rw [<- an];exact bS (bN _ _) (bN _ _)
 rw [an]
 clear an
 have i0:=hw.to zb
 have i1:=hm.to zb
 have i2:=tr1.to zb
 have i3:=qq.to zb
 have gb:Below W0.heap.size W0 W0:=Below.refl _ _
 obtain ⟨⟨z0,ae,af,ag,az,aA,bf,bh,ah,ak,al,aJ,aK,bm,bn⟩,⟨z1,aB,aD,aE,aG,aH,aI⟩⟩:=ap.out _ gb
 obtain ⟨e0,e1,e2,e3,e4⟩:=(i1.to gb)
 obtain ⟨t10,t11,t12⟩:=(i2.to gb)
 go_wp2_with fail
 have gba:Below W0.heap.size W0 (W0.alloc (.cells #[.bool false,.slice none 0 0,.slice none 0 0] 47)):=bS gb (bN _ _)
 obtain ⟨⟨az0,ax0_0,ax0_1,ax0_2,ax0_3,ax0_4,ax0_5,ax0_6,ay0_0,ay0_1,ay0_2,ay0_3,ay0_4,ay0_5,ay0_6⟩,⟨az1,ax1_0,ax1_1,ax1_2,ay1_0,ay1_1,ay1_2⟩⟩:=ap.out _ gba
 obtain ⟨ae0,ae1,ae2,ae3,ae4⟩:=(i1.to gba)
 obtain ⟨at10,at11,at12⟩:=(i2.to gba)
 go_region
 clear gba ax0_0 ay0_0 ax0_1 ay0_1 ax0_2 ay0_2 ax0_3 ay0_3 ax0_4 ay0_4 ax0_5 ay0_5 ax0_6 ay0_6 ax1_0 ay1_0 ax1_1 ay1_1 ax1_2 ay1_2 az0 az1 ae0 ae1 ae2 ae3 ae4 at10 at11 at12
 obtain ⟨W1,aO⟩:∃ W1,(W0.alloc (.cells #[.bool nr1,.slice ra1 rn1 rc1,.slice sa1 sn1 sc1] 47)).drew=W1:=⟨_,rfl⟩
 have hb_W1:Below W0.heap.size W0 W1:=by rw [<- aO];exact (bN _ _).drew
 have cS:Hid (W1.heap.size=W0.heap.size+1):=by show _=_;rw [<- aO];simp
 clear ae ah af ak ag al az aJ aA aK bf bm bh bn aB aG aD aH aE aI e0 e1 e2 e3 e4 t10 t11 t12
 replace gb:=bS gb hb_W1
 obtain ⟨⟨z0,ae,af,ag,az,aA,bf,bh,ah,ak,al,aJ,aK,bm,bn⟩,⟨z1,aB,aD,aE,aG,aH,aI⟩⟩:=ap.out _ gb
 obtain ⟨e0,e1,e2,e3,e4⟩:=(i1.to gb)
 obtain ⟨t10,t11,t12⟩:=(i2.to gb)
 have bu:W1.cell? ⟨W0.heap.size,0,none⟩=some (.bool nr1):=by rw [<- aO];simp [go_sem]
 have bV:W1.frozen? ⟨W0.heap.size,0,none⟩=false:=by rw [<- aO];simp [go_sem]
 have bv:W1.cell? ⟨W0.heap.size,1,none⟩=some (.slice ra1 rn1 rc1):=by rw [<- aO];simp [go_sem]
 have bW:W1.frozen? ⟨W0.heap.size,1,none⟩=false:=by rw [<- aO];simp [go_sem]
 have cg:W1.cell? ⟨W0.heap.size,2,none⟩=some (.slice sa1 sn1 sc1):=by rw [<- aO];simp [go_sem]
 have cm:W1.frozen? ⟨W0.heap.size,2,none⟩=false:=by rw [<- aO];simp [go_sem]
 have z2:W0.heap.size<W1.heap.size:=by rw [<- aO];simp
 rw [aO]
 clear aO
 replace i0:=i0.to gb
 replace i1:=i1.to gb
 replace i2:=i2.to gb
 replace i3:=i3.to gb
 replace zb:=bS zb gb
 have ck:=Lib.hid (show ∀ W',Below W1.heap.size W1 W'->(Bx7 W' w.heap.size (.int .i64 op) (.int .i64 to) (.int .i64 (R1:Int)) (.int .i64 xb) (.bool ng) (.slice a0 n0 c0) (.slice a1 n1 c1)/\Bx3 W' (w.heap.size+1) (.bool false) (.slice none 0 0) (.slice none 0 0)/\Bx3 W' W0.heap.size (.bool nr1) (.slice ra1 rn1 rc1) (.slice sa1 sn1 sc1)) from fun W' hb => by
   refine ⟨bx7 hb ?_ ?_ ?_ ?_ ?_ ?_ ?_ ?_ ?_ ?_ ?_ ?_ ?_ ?_,bx3 hb ?_ ?_ ?_ ?_ ?_ ?_,bx3 hb ?_ ?_ ?_ ?_ ?_ ?_⟩
   all_goals first|assumption|assumption)
 replace gb:=Below.refl W1.heap.size W1
 go_wp2_with fail
 have nzx_e0:mB≠w.heap.size+1:=by omega
 have nzx_e1:mB≠w.heap.size+1:=by omega
 have nzx_t10:g≠w.heap.size+1:=by omega
 have nzx_t11:g≠w.heap.size+1:=by omega
 have nzx_t12:g≠w.heap.size+1:=by omega
 have nz0:w.heap.size≠w.heap.size+1:=by omega
 have nz2:W0.heap.size≠w.heap.size+1:=by omega
 go_region_held3 (fun W' => W'.cell? ⟨w.heap.size,0,none⟩=some (.int .i64 op)/\W'.cell? ⟨w.heap.size,1,none⟩=some (.int .i64 to)/\W'.cell? ⟨w.heap.size,2,none⟩=some (.int .i64 (R1:Int))/\W'.cell? ⟨w.heap.size,3,none⟩=some (.int .i64 xb)/\W'.cell? ⟨w.heap.size,4,none⟩=some (.bool ng)/\W'.cell? ⟨w.heap.size,5,none⟩=some (.slice a0 n0 c0)/\W'.cell? ⟨w.heap.size,6,none⟩=some (.slice a1 n1 c1)/\W'.cell? ⟨W0.heap.size,0,none⟩=some (.bool nr1)/\W'.cell? ⟨W0.heap.size,1,none⟩=some (.slice ra1 rn1 rc1)/\W'.cell? ⟨W0.heap.size,2,none⟩=some (.slice sa1 sn1 sc1)/\W'.cell? ⟨mB,0,none⟩=some (u)/\W'.cell? ⟨mB,1,none⟩=some (.slice (some ⟨g,0,none⟩) N N)/\W'.cell? ⟨g,R1*3,none⟩=some (.bool nr1)/\W'.cell? ⟨g,R1*3+1,none⟩=some (.slice ra1 rn1 rc1)/\W'.cell? ⟨g,R1*3+2,none⟩=some (.slice sa1 sn1 sc1)) (first|(with_reducible exact ⟨ae,af,ag,az,aA,bf,bh,bu,bv,cg,e0,e1,t10,t11,t12⟩)|(with_reducible exact ⟨cP (cP (cP (ae) (.inl nz0) _) (.inl nz0) _) (.inl nz0) _,cP (cP (cP (af) (.inl nz0) _) (.inl nz0) _) (.inl nz0) _,cP (cP (cP (ag) (.inl nz0) _) (.inl nz0) _) (.inl nz0) _,cP (cP (cP (az) (.inl nz0) _) (.inl nz0) _) (.inl nz0) _,cP (cP (cP (aA) (.inl nz0) _) (.inl nz0) _) (.inl nz0) _,cP (cP (cP (bf) (.inl nz0) _) (.inl nz0) _) (.inl nz0) _,cP (cP (cP (bh) (.inl nz0) _) (.inl nz0) _) (.inl nz0) _,cP (cP (cP (bu) (.inl nz2) _) (.inl nz2) _) (.inl nz2) _,cP (cP (cP (bv) (.inl nz2) _) (.inl nz2) _) (.inl nz2) _,cP (cP (cP (cg) (.inl nz2) _) (.inl nz2) _) (.inl nz2) _,cP (cP (cP (e0) (.inl nzx_e0) _) (.inl nzx_e0) _) (.inl nzx_e0) _,cP (cP (cP (e1) (.inl nzx_e1) _) (.inl nzx_e1) _) (.inl nzx_e1) _,cP (cP (cP (t10) (.inl nzx_t10) _) (.inl nzx_t10) _) (.inl nzx_t10) _,cP (cP (cP (t11) (.inl nzx_t11) _) (.inl nzx_t11) _) (.inl nzx_t11) _,cP (cP (cP (t12) (.inl nzx_t12) _) (.inl nzx_t12) _) (.inl nzx_t12) _⟩)|exact ⟨ae,af,ag,az,aA,bf,bh,bu,bv,cg,e0,e1,t10,t11,t12⟩) (first
  | (go_at_call 66;have gb:=gb.drew;(with_reducible refine (zar nr1 _ _ _ _ _ (i3.to gb).isF (m:Int) HM.out).mono ?_);rintro e w1 ⟨rfl,be⟩;have gb:=bS gb be;obtain ⟨⟨z0,ae,af,ag,az,aA,bf,bh,ah,ak,al,aJ,aK,bm,bn⟩,⟨z1,aB,aD,aE,aG,aH,aI⟩,⟨z2,bu,bv,cg,bV,bW,cm⟩⟩:=ck.out _ gb;obtain ⟨e0,e1,e2,e3,e4⟩:=(i1.to gb);obtain ⟨t10,t11,t12⟩:=(i2.to gb)))
 all_goals
  clear hmul hneg hmax
  go_wp2_with fail
  exact bodyPost_ret (zt Tryz.results98 _ _ _ _ _ _ rfl (Tri.set (x0:=.bool false) (y0:=.slice none 0 0) (z0:=.slice none 0 0) ⟨aB,aD,aE,aG,aH,aI⟩ _ _ _)) rfl ⟨rfl,bT (bS zb gb) (by omega) _ _ _⟩

theorem zio (mB g N:Nat) (u vJ:Value) (rows cols:Int) (op to xb:Int) (ng:Bool) (vn vd:Value) (lw1 lw2:List Nat) (R1:Nat) (nr1:Bool) (vr1 ur1:Value) {x:Rat}  (w:World) (hw:IsF w vn vd lw1 lw2) (hm:zM w mB g N u vJ rows cols) (hN:N<=100000) (hr1:R1<N) (tr1:zbW w g (R1*3) (.bool nr1) vr1 ur1) (qr1:IsK w nr1 vr1 ur1 x) (hb:-21<=xb/\xb<=21) (hg:¬ xb<0) (hg0:x=0) (hsn:0<=xb) (hl:szq x*xb.toNat<=999)  :
  Calls Tryz.prog 98 #[.pointer (some ⟨mB,0,none⟩),.agg #[.int .i64 op,.int .i64 to,.int .i64 (R1:Int),.int .i64 xb,.bool ng,vn,vd]] w (zL w (x ^ xb.toNat)):=by
 obtain ⟨a0,n0,c0,rfl,H0,hm0⟩:=hw.1.open
 obtain ⟨a1,n1,c1,rfl,H1,hm1⟩:=hw.2.open
 have qq:=qr1.1
 have Hx1:=zaY qq
 obtain ⟨ra1,rn1,rc1,rfl,RH1,rm1⟩:=qr1.1.1.open
 obtain ⟨sa1,sn1,sc1,rfl,SH1,sm1⟩:=qr1.1.2.1.open
 have ri1:(R1:Int)<(N:Int):=by omega
 have lm:=hm.lt
 have lt1:=tr1.lt
 have Hz:=Lib.hid (zz RH1.out)
 have Hq:=Lib.hid (zdS RH1.out SH1.out)
 have t0:((rn1:Int) == 0)=true:=by simp;exact Hz.out.2 hg0
 have tb:decide (xb<0)=false:=decide_eq_false hg
 clear hg hg0
 have Hs9:=Lib.hid hl
 obtain ⟨m,hm9⟩:∃ m:Nat,max rn1 sn1=m:=⟨_,rfl⟩
 have HM:=Lib.hid (show ((max (za x.num.natAbs).length (za x.den).length:Nat):Int)=(m:Int) by rw [RH1.out,SH1.out,hm9])
 have Hm:=Lib.hid (show szq x=m by rw [Hq.out,hm9])
 have hm10:m<=1000:=by have:=Hx1.out;have:=Hm.out;omega
 obtain ⟨k,hk⟩:∃ k:Nat,xb.natAbs=k:=⟨_,rfl⟩
 have hk21:k<=21:=by omega
 have hneg:IntKind.i64.wrap (-xb)=-xb:=IntWalk.i64_in _ (by omega)
 have hmax:max xb (-xb)=(k:Int):=by omega
 have hmk:m*k<=1000*21:=Nat.mul_le_mul hm10 hk21
 obtain ⟨P,hP⟩:∃ P:Nat,m*k=P:=⟨_,rfl⟩
 have hmul:IntKind.i64.wrap ((m:Int)*(k:Int))=(P:Int):=by
  rw [<- Int.natCast_mul,hP]
  exact IntWalk.i64_in _ (by omega)
 rw [show xb.toNat=k by omega,Hm.out,hP] at hl
 have t4:decide (4096<P)=false:=decide_eq_false (by omega)
 have t5:decide ((4096:Int)<(P:Int))=false:=decide_eq_false (by omega)
 clear hl hm9 hP hk hmk
 go_enter Tryz.func98,Tryz.ntmps98
 go_wp2_with fail
 obtain ⟨W0,an⟩:∃ W0,(w.alloc (.cells #[.int .i64 op,.int .i64 to,.int .i64 (R1:Int),.int .i64 xb,.bool ng,.slice a0 n0 c0,.slice a1 n1 c1] 49)).alloc (.cells #[.bool false,.slice none 0 0,.slice none 0 0] 47)=W0:=⟨_,rfl⟩
 have ap:=Lib.hid (show ∀ W',Below W0.heap.size W0 W'->(Bx7 W' w.heap.size (.int .i64 op) (.int .i64 to) (.int .i64 (R1:Int)) (.int .i64 xb) (.bool ng) (.slice a0 n0 c0) (.slice a1 n1 c1)/\Bx3 W' (w.heap.size+1) (.bool false) (.slice none 0 0) (.slice none 0 0)) from fun W' hb => by
   refine ⟨bx7 hb ?_ ?_ ?_ ?_ ?_ ?_ ?_ ?_ ?_ ?_ ?_ ?_ ?_ ?_,bx3 hb ?_ ?_ ?_ ?_ ?_ ?_⟩
   all_goals first|assumption|(rw [<- an];simp [go_sem]))
 have zb:Below w.heap.size w W0:=by rw [<- an];exact bS (bN _ _) (bN _ _)
 rw [an]
 clear an
 have i0:=hw.to zb
 have i1:=hm.to zb
 have i2:=tr1.to zb
 have i3:=qq.to zb
 have gb:Below W0.heap.size W0 W0:=Below.refl _ _
 obtain ⟨⟨z0,ae,af,ag,az,aA,bf,bh,ah,ak,al,aJ,aK,bm,bn⟩,⟨z1,aB,aD,aE,aG,aH,aI⟩⟩:=ap.out _ gb
 obtain ⟨e0,e1,e2,e3,e4⟩:=(i1.to gb)
 obtain ⟨t10,t11,t12⟩:=(i2.to gb)
 go_wp2_with fail
 have gba:Below W0.heap.size W0 (W0.alloc (.cells #[.bool false,.slice none 0 0,.slice none 0 0] 47)):=bS gb (bN _ _)
 obtain ⟨⟨az0,ax0_0,ax0_1,ax0_2,ax0_3,ax0_4,ax0_5,ax0_6,ay0_0,ay0_1,ay0_2,ay0_3,ay0_4,ay0_5,ay0_6⟩,⟨az1,ax1_0,ax1_1,ax1_2,ay1_0,ay1_1,ay1_2⟩⟩:=ap.out _ gba
 obtain ⟨ae0,ae1,ae2,ae3,ae4⟩:=(i1.to gba)
 obtain ⟨at10,at11,at12⟩:=(i2.to gba)
 go_region
 clear gba ax0_0 ay0_0 ax0_1 ay0_1 ax0_2 ay0_2 ax0_3 ay0_3 ax0_4 ay0_4 ax0_5 ay0_5 ax0_6 ay0_6 ax1_0 ay1_0 ax1_1 ay1_1 ax1_2 ay1_2 az0 az1 ae0 ae1 ae2 ae3 ae4 at10 at11 at12
 obtain ⟨W1,aO⟩:∃ W1,(W0.alloc (.cells #[.bool nr1,.slice ra1 rn1 rc1,.slice sa1 sn1 sc1] 47)).drew=W1:=⟨_,rfl⟩
 have hb_W1:Below W0.heap.size W0 W1:=by rw [<- aO];exact (bN _ _).drew
 have cS:Hid (W1.heap.size=W0.heap.size+1):=by show _=_;rw [<- aO];simp
 clear ae ah af ak ag al az aJ aA aK bf bm bh bn aB aG aD aH aE aI e0 e1 e2 e3 e4 t10 t11 t12
 replace gb:=bS gb hb_W1
 obtain ⟨⟨z0,ae,af,ag,az,aA,bf,bh,ah,ak,al,aJ,aK,bm,bn⟩,⟨z1,aB,aD,aE,aG,aH,aI⟩⟩:=ap.out _ gb
 obtain ⟨e0,e1,e2,e3,e4⟩:=(i1.to gb)
 obtain ⟨t10,t11,t12⟩:=(i2.to gb)
 have bu:W1.cell? ⟨W0.heap.size,0,none⟩=some (.bool nr1):=by rw [<- aO];simp [go_sem]
 have bV:W1.frozen? ⟨W0.heap.size,0,none⟩=false:=by rw [<- aO];simp [go_sem]
 have bv:W1.cell? ⟨W0.heap.size,1,none⟩=some (.slice ra1 rn1 rc1):=by rw [<- aO];simp [go_sem]
 have bW:W1.frozen? ⟨W0.heap.size,1,none⟩=false:=by rw [<- aO];simp [go_sem]
 have cg:W1.cell? ⟨W0.heap.size,2,none⟩=some (.slice sa1 sn1 sc1):=by rw [<- aO];simp [go_sem]
 have cm:W1.frozen? ⟨W0.heap.size,2,none⟩=false:=by rw [<- aO];simp [go_sem]
 have z2:W0.heap.size<W1.heap.size:=by rw [<- aO];simp
 rw [aO]
 clear aO
 replace i0:=i0.to gb
 replace i1:=i1.to gb
 replace i2:=i2.to gb
 replace i3:=i3.to gb
 replace zb:=bS zb gb
 have ck:=Lib.hid (show ∀ W',Below W1.heap.size W1 W'->(Bx7 W' w.heap.size (.int .i64 op) (.int .i64 to) (.int .i64 (R1:Int)) (.int .i64 xb) (.bool ng) (.slice a0 n0 c0) (.slice a1 n1 c1)/\Bx3 W' (w.heap.size+1) (.bool false) (.slice none 0 0) (.slice none 0 0)/\Bx3 W' W0.heap.size (.bool nr1) (.slice ra1 rn1 rc1) (.slice sa1 sn1 sc1)) from fun W' hb => by
   refine ⟨bx7 hb ?_ ?_ ?_ ?_ ?_ ?_ ?_ ?_ ?_ ?_ ?_ ?_ ?_ ?_,bx3 hb ?_ ?_ ?_ ?_ ?_ ?_,bx3 hb ?_ ?_ ?_ ?_ ?_ ?_⟩
   all_goals first|assumption|assumption)
 replace gb:=Below.refl W1.heap.size W1
 go_wp2_with fail
 have nzx_e0:mB≠w.heap.size+1:=by omega
 have nzx_e1:mB≠w.heap.size+1:=by omega
 have nzx_t10:g≠w.heap.size+1:=by omega
 have nzx_t11:g≠w.heap.size+1:=by omega
 have nzx_t12:g≠w.heap.size+1:=by omega
 have nz0:w.heap.size≠w.heap.size+1:=by omega
 have nz2:W0.heap.size≠w.heap.size+1:=by omega
 go_region_held3 (fun W' => W'.cell? ⟨w.heap.size,0,none⟩=some (.int .i64 op)/\W'.cell? ⟨w.heap.size,1,none⟩=some (.int .i64 to)/\W'.cell? ⟨w.heap.size,2,none⟩=some (.int .i64 (R1:Int))/\W'.cell? ⟨w.heap.size,3,none⟩=some (.int .i64 xb)/\W'.cell? ⟨w.heap.size,4,none⟩=some (.bool ng)/\W'.cell? ⟨w.heap.size,5,none⟩=some (.slice a0 n0 c0)/\W'.cell? ⟨w.heap.size,6,none⟩=some (.slice a1 n1 c1)/\W'.cell? ⟨W0.heap.size,0,none⟩=some (.bool nr1)/\W'.cell? ⟨W0.heap.size,1,none⟩=some (.slice ra1 rn1 rc1)/\W'.cell? ⟨W0.heap.size,2,none⟩=some (.slice sa1 sn1 sc1)/\W'.cell? ⟨mB,0,none⟩=some (u)/\W'.cell? ⟨mB,1,none⟩=some (.slice (some ⟨g,0,none⟩) N N)/\W'.cell? ⟨g,R1*3,none⟩=some (.bool nr1)/\W'.cell? ⟨g,R1*3+1,none⟩=some (.slice ra1 rn1 rc1)/\W'.cell? ⟨g,R1*3+2,none⟩=some (.slice sa1 sn1 sc1)) (first|(with_reducible exact ⟨ae,af,ag,az,aA,bf,bh,bu,bv,cg,e0,e1,t10,t11,t12⟩)|(with_reducible exact ⟨cP (cP (cP (ae) (.inl nz0) _) (.inl nz0) _) (.inl nz0) _,cP (cP (cP (af) (.inl nz0) _) (.inl nz0) _) (.inl nz0) _,cP (cP (cP (ag) (.inl nz0) _) (.inl nz0) _) (.inl nz0) _,cP (cP (cP (az) (.inl nz0) _) (.inl nz0) _) (.inl nz0) _,cP (cP (cP (aA) (.inl nz0) _) (.inl nz0) _) (.inl nz0) _,cP (cP (cP (bf) (.inl nz0) _) (.inl nz0) _) (.inl nz0) _,cP (cP (cP (bh) (.inl nz0) _) (.inl nz0) _) (.inl nz0) _,cP (cP (cP (bu) (.inl nz2) _) (.inl nz2) _) (.inl nz2) _,cP (cP (cP (bv) (.inl nz2) _) (.inl nz2) _) (.inl nz2) _,cP (cP (cP (cg) (.inl nz2) _) (.inl nz2) _) (.inl nz2) _,cP (cP (cP (e0) (.inl nzx_e0) _) (.inl nzx_e0) _) (.inl nzx_e0) _,cP (cP (cP (e1) (.inl nzx_e1) _) (.inl nzx_e1) _) (.inl nzx_e1) _,cP (cP (cP (t10) (.inl nzx_t10) _) (.inl nzx_t10) _) (.inl nzx_t10) _,cP (cP (cP (t11) (.inl nzx_t11) _) (.inl nzx_t11) _) (.inl nzx_t11) _,cP (cP (cP (t12) (.inl nzx_t12) _) (.inl nzx_t12) _) (.inl nzx_t12) _⟩)|exact ⟨ae,af,ag,az,aA,bf,bh,bu,bv,cg,e0,e1,t10,t11,t12⟩) (first
  | (go_at_call 66;have gb:=gb.drew;(with_reducible refine (zar nr1 _ _ _ _ _ (i3.to gb).isF (m:Int) HM.out).mono ?_);rintro e w1 ⟨rfl,be⟩;have gb:=bS gb be;obtain ⟨⟨z0,ae,af,ag,az,aA,bf,bh,ah,ak,al,aJ,aK,bm,bn⟩,⟨z1,aB,aD,aE,aG,aH,aI⟩,⟨z2,bu,bv,cg,bV,bW,cm⟩⟩:=ck.out _ gb;obtain ⟨e0,e1,e2,e3,e4⟩:=(i1.to gb);obtain ⟨t10,t11,t12⟩:=(i2.to gb)))
 all_goals
  clear hmul hneg hmax
  go_wp2_with fail
  refine (pow_pos nr1 _ _ _ _ xb _ (i3.to gb) hsn (by omega) Hs9.out).mono ?_
  clear ae ah af ak ag al az aJ aA aK bf bm bh bn aB aG aD aH aE aI bu bV bv bW cg cm e0 e1 e2 e3 e4 t10 t11 t12
  rintro e w2 ⟨ng2,a2_,n2_,c2_,p2_,m2_,k2_,rfl,g2,aZ⟩
  replace gb:=bS gb aZ
  obtain ⟨⟨z0,ae,af,ag,az,aA,bf,bh,ah,ak,al,aJ,aK,bm,bn⟩,⟨z1,aB,aD,aE,aG,aH,aI⟩,⟨z2,bu,bv,cg,bV,bW,cm⟩⟩:=ck.out _ gb
  obtain ⟨e0,e1,e2,e3,e4⟩:=(i1.to gb)
  obtain ⟨t10,t11,t12⟩:=(i2.to gb)
  go_wp2_with fail
  refine bodyPost_ret (zt Tryz.results98 _ _ _ _ _ _ rfl (Tri.set (x0:=.bool false) (y0:=.slice none 0 0) (z0:=.slice none 0 0) ⟨aB,aD,aE,aG,aH,aI⟩ _ _ _)) rfl (zcf (bS zb gb) (by omega) ?_ g2)
  first|omega|(simp;omega)

end Go.Proofs.YtkjcdnlpjldhaaaGreat


namespace Go.Proofs.YtkjcdnlpjldhaaaGreat
open Go.RowKit Tw

theorem zew:∀ n:Nat,0<(cnt n).length/\(cnt n).length<=n+1
 | n => by
  by_cases h:n<128
  ·rw [zee h];simp
  ·rw [zgx h,List.length_cons]
   have:=zew (n / 128)
   omega

theorem zlV {w:Nat} (h:w<4294967296):∀ x ∈ zaH w,x<256:=by
 intro x hx
 unfold zaH at hx
 simp only [List.mem_cons,List.not_mem_nil,or_false] at hx
 omega

section

variable {w w' w2:World} {v:Value} {l l2:List Nat} {base:Nat} {row row':Option Nat}

theorem zaM (h:w.grownBy w' row) (h2:w'.grownBy w2 row') (hr:row'=row\/∀ k,row'=some k->w.heap.size<=k):w.grownBy w2 row :=
 ⟨h2.os.trans h.os,h2.tape.trans h.tape,h2.output.trans h.output,Nat.le_trans h.size h2.size,fun k hk hne => by
  rw [h2.block k (Nat.lt_of_lt_of_le hk h.size) ?_,h.block k hk hne]
  rcases hr with e|e
  ·rw [e];exact hne
  ·intro e2;have:=e k e2.symm;omega⟩

theorem Below.grows (h:Below w.heap.size w w') (row:Option Nat):w.grownBy w' row:=⟨h.os,h.tape,h.output,h.size,fun k hk _ => h.block k hk⟩

theorem zjn (h:w.grownBy w' row) (hr:∀ k,row=some k->base<=k) (hb:base<=w.heap.size):Below base w w' :=
 ⟨h.os,h.tape,h.output,h.size,fun k hk => h.block k (by omega) (fun e => by have:=hr k e.symm;omega)⟩

theorem zcD (h:w.grownBy w' row) (o:Obj):w.grownBy (w'.alloc o) row:=zaM h (Below.grows (bN w' o) none) (.inr (fun k e => by cases e))

theorem zgA (w:World) (row:Option Nat):w.grownBy w row:=⟨rfl,rfl,rfl,Nat.le_refl _,fun _ _ _ => rfl⟩

theorem zgz (h:w.grownBy w' row):w.grownBy w'.drew row:=⟨h.os,h.tape,h.output,h.size,h.block⟩

theorem zaj.grown (h:zaj base w v l) (hg:w.grownBy w' row) (hne:row≠v.ownBlock\/v.ownBlock=none):zaj base w' v l:=by
 refine ⟨h.1,h.2.1,?_⟩
 rcases h.2.2 with h2|⟨g,cap,cur,hv,hg',hh,r⟩
 ·exact .inl h2
 ·subst hv
  refine .inr ⟨g,cap,cur,rfl,hg',?_,r⟩
  rw [hg.block g (Array.getElem?_eq_some_iff.1 hh).1 ?_]
  ·exact hh
  ·rcases hne with e|e
   ·exact fun k => e k.symm
   ·cases e

theorem zaj.lt (h:zaj base w v l):∀ k,v.ownBlock=some k->base<=k/\k<w.heap.size:=World.ownsRow.lt h.2

theorem Far.of_rd (h:Rd w v l) {row:Option Nat} (hr:∀ k,row=some k->w.heap.size<=k):Far v row:=by
 intro b o n c e hn k
 have:=hr b k
 rcases h.2 with ⟨_,a,cap,hv,_⟩|⟨b',off,cap,hv,hl,hc,hm,hcell⟩
 ·rw [hv] at e
  injection e with e1 e2 e3
  omega
 ·rw [hv] at e
  injection e with e1 e2 e3
  injection e1 with e1
  injection e1 with e1 e4
  have h1:=zm (hcell 0 hl)
  omega

theorem zdG (w:World) {ops:Array Oper} {rest:List Oper} {o:Oper} {a:Act} {Q:Exit->Act->World->Prop} (hg:o.guard=none)
  (s x:Operand) (ho:o.op=Op.call { callee:=Callee.builtin Builtin.append,args:=#[s,x],argTypes:=#[54,54] })
  (v:Value) (l l2:List Nat) (b2 n2 c2:Nat) (hs:a.eval s=v) (hx:a.eval x=.slice (some ⟨b2,0,none⟩) n2 c2) (hown:zaj 0 w v l)
  (hl2:l2.length=n2) (h0:0<n2) (h256:∀ x ∈ l2,x<256) (hcell:∀ j,j<l2.length->w.cell? ⟨b2,j,none⟩=some (u8v (nth l2 j))) (hn:l.length+n2<=1099511627776) (H:Nat) (hH:w.heap.size=H)
  (hK:∀ g c w',zaj 0 w' (.slice (some ⟨g,0,none⟩) (l.length+n2) c) (l++l2)->w.grownBy w' v.ownBlock->(v.ownBlock=some g\/g=H)->g<w'.heap.size->wpList Tryz.prog ops Q rest (a.put o.dst (.slice (some ⟨g,0,none⟩) (l.length+n2) c)) w') :
  wpList Tryz.prog ops Q (o :: rest) a w:=by
 obtain ⟨i0,hi,hz0,hz1,hz2⟩:=info_parts info8
 refine wpList_append_lies w hg s x 54 ho 0 5 i0 (.int .u8 0) 1 1 Tryz.underlying54 hi hz0 hz1 hz2 rfl (by decide) v l.length (l.map u8v) hs hown.2 ⟨b2,0,none⟩ n2 c2 (l2.map u8v)
  hx (by simp [hl2]) (fun j u hj => ?_) (fun u hu => ?_) h0 (by simp [maxLen];omega) (by omega) (Nat.zero_le _) H hH ?_
 ·by_cases hjl:j<l2.length
  ·rw [List.getElem?_map,List.getElem?_eq_getElem hjl] at hj
   have hj:=Option.some.inj hj
   subst hj
   rw [zbH,Nat.zero_add,hcell j hjl,zaQ hjl]
  ·rw [List.getElem?_eq_none (by simp;omega)] at hj;cases hj
 ·obtain ⟨y,_,rfl⟩:=List.mem_map.1 hu;rfl
 ·intro g c w' hown' hgrow hat hlt
  refine hK g c w' ⟨fun y hy => ?_,?_⟩ hgrow hat hlt
  ·rcases List.mem_append.1 hy with hy|hy
   ·exact hown.1 y hy
   ·exact h256 y hy
  ·rw [List.length_append,List.map_append,hl2];exact hown'

def zia (w:World) (v:Value) (l:List Nat) (e:Ending) (w':World):Prop :=
 ∃ g n c,e=.returned (.slice (some ⟨g,0,none⟩) n c)/\zaj 0 w' (.slice (some ⟨g,0,none⟩) n c) l/\(v.ownBlock=some g\/w.heap.size<=g)/\g<w'.heap.size/\w.grownBy w' v.ownBlock

theorem zgS {v v':Value} {g H N:Nat} (hv:v'.ownBlock=v.ownBlock\/∀ k,v'.ownBlock=some k->N<=k) (hat:v'.ownBlock=some g\/g=H) (hH:N<=H):some g=v.ownBlock\/∀ k,some g=some k->N<=k:=by
 rcases hat with e|e
 ·rcases hv with k|k
  ·exact .inl (by rw [<- k,e])
  ·exact .inr (fun j ej => by injection ej with ej;subst ej;exact k _ e)
 ·exact .inr (fun j ej => by injection ej with ej;omega)

theorem zjt {w:World} {t:TypeId} {x:Nat}:∀ j,j<[x].length->(w.alloc (.cells #[.int .u8 (x:Int)] t)).cell? ⟨w.heap.size,j,none⟩=some (u8v (nth [x] j)):=by
 intro j hj
 have:j=0:=by simp at hj;exact hj
 subst this
 simp [go_sem,nth]

theorem zmp {w:World} {t:TypeId} {x:Nat} (hx:x<4294967296):∀ j,j<(zaH x).length ->
  (w.alloc (.cells #[.int .u8 ((x:Int) % 256),.int .u8 ((x:Int) / 256 % 256),.int .u8 ((x:Int) / 65536 % 256),.int .u8 ((x:Int) / 16777216 % 256)] t)).cell? ⟨w.heap.size,j,none⟩=some (u8v (nth (zaH x) j)):=by
 intro j hj
 have hj4:j<4:=hj
 have e0:(x:Int) % 256=((x % 256:Nat):Int):=by omega
 have e1:(x:Int) / 256 % 256=((x / 256 % 256:Nat):Int):=by omega
 have e2:(x:Int) / 65536 % 256=((x / 65536 % 256:Nat):Int):=by omega
 have e3:(x:Int) / 16777216 % 256=((x / 16777216:Nat):Int):=by omega
 rw [e0,e1,e2,e3]
 have h4:j=0\/j=1\/j=2\/j=3:=by omega
 rcases h4 with rfl|rfl|rfl|rfl <;> simp [go_sem,nth,zaH]

theorem zlP {n:Nat} (h:n<256):IntKind.u8.wrap (n:Int)=(n:Int):=by
 unfold IntKind.wrap
 simp [IntKind.signed,IntKind.bits]
 omega

end

theorem zbR (v:Value) (l:List Nat) (n:Nat) (w:World) (h:zaj 0 w v l) (hn:n<268435456) (hl:l.length<=1000000000) :
  Calls Tryz.prog 49 #[v,.int .i64 n] w (zia w v (l++cnt n)):=by
 have Hl:=Lib.hid hl
 have H:=Lib.hid h
 clear hl h
 go_enter Tryz.func49,Tryz.ntmps49
 go_wp2_with fail
 go_loopw [0,1] (fun v' i ww => ∃ (k:Nat) (l':List Nat),k<=n/\i=.int .i64 k/\zaj 0 ww v' l'/\Hid (l'++cnt k=l++cnt n)/\w.grownBy ww v.ownBlock/\Hid (v'.ownBlock=v.ownBlock\/∀ g,v'.ownBlock=some g->w.heap.size<=g)) (fun _ i _ => (intOf i).toNat)
 case atStart => exact ⟨n,l,Nat.le_refl _,rfl,H.out,rfl,zgA _ _,.inl rfl⟩
 case round =>
  obtain ⟨k,l',hk,rfl,hO,HE,hg,HV⟩:=hrel
  have hlen:l'.length+(cnt k).length=l.length+(cnt n).length:=by
   have:=congrArg List.length HE.out
   rwa [List.length_append,List.length_append] at this
  have c1:=zew k
  have c2:=zew n
  have Hln:=Lib.hid (show l'.length+1<=1099511627776 by have:=Hl.out;omega)
  clear hlen c1 c2
  by_cases hkb:128<=k
  ·have hki:(128:Int)<=(k:Int):=by omega
   have hx:(k % 128+128)<256:=by omega
   have HX:=Lib.hid hx
   have e1:IntKind.u8.wrap ((k:Int) % 128+128)=((k % 128+128:Nat):Int):=by rw [<- zlP hx];congr 1
   clear hx
   go_wp2_with (at_builtin;refine zdG _ rfl (.tmp 7) (.tmp 12) rfl _ l' [k % 128+128] wr.heap.size 1 1 rfl rfl (hO.alloc _) rfl (by decide) (by intro x hx;rw [List.mem_singleton.1 hx];exact HX.out) zjt Hln.out _ rfl ?_;intro g4 c4 w4 hO4 hg4 hat4 hlt4)
   go_roundw
   case rel =>
    refine ⟨k / 128,l'++[k % 128+128],by omega,by go_num,hO4,?_,?_,?_⟩
    ·show (l'++[k % 128+128])++cnt (k / 128)=_
     rw [<- HE.out,zgx (show ¬ k<128 by omega),List.append_assoc]
     rfl
    ·exact zaM (zcD hg _) hg4 (HV.out.imp id id)
    ·exact zgS HV.out hat4 (by have:=hg.size;simp;omega)
   case measure => simp [intOf] <;> omega
  ·have hki:¬ ((128:Int)<=(k:Int)):=by omega
   have hk':k<128:=by omega
   have e1:IntKind.u8.wrap (k:Int)=(k:Int):=zlP (by omega)
   have HK:=Lib.hid (show k<256 by omega)
   go_wp2_with (at_builtin;refine zdG _ rfl (.tmp 16) (.tmp 19) rfl _ l' [k] wr.heap.size 1 1 rfl rfl (hO.alloc _) rfl (by decide) (by intro x hx;rw [List.mem_singleton.1 hx];exact HK.out) zjt Hln.out _ rfl ?_;intro g4 c4 w4 hO4 hg4 hat4 hlt4)
   go_ret
   exact ⟨g4,_,c4,rfl,by rw [<- HE.out,zee hk'];exact hO4,(zgS HV.out hat4 (by have:=hg.size;simp;omega)).imp Eq.symm (fun k => k _ rfl),hlt4,zaM (zcD hg _) hg4 (HV.out.imp id id)⟩

theorem zjJ (v sv:Value) (l ws:List Nat) (w:World) (h:zaj 0 w v l) (hs:Rd w sv ws) (hw:zdn ws) (hf:Far sv v.ownBlock) (hl:l.length<=100000000) (hwl:ws.length<=1000000) :
  Calls Tryz.prog 50 #[v,sv] w (zia w v (l++zbp ws)):=by
 obtain ⟨a,n,cap,rfl,Hn,hm⟩:=hs.open
 have hn:n<=1000000:=by have:=Hn.out;omega
 have Hl:=Lib.hid hl
 have H:=Lib.hid h
 have Hs:=Lib.hid hs
 have Hw:=Lib.hid hw
 have Hf:=Lib.hid hf
 clear hl h hs hw hf hm hwl
 go_enter Tryz.func50,Tryz.ntmps50
 go_wp2_with fail
 refine (zbR v l n _ H.out (by omega) (by have:=Hl.out;omega)).mono ?_
 rintro e w1 ⟨g1,n1,c1,rfl,hO1,hat1,hlt1,hg1⟩
 have Hlen:=Lib.hid (zew n)
 go_wp2_with fail
 go_loopw [0,13] (fun v' i ww => ∃ (k:Nat) (l':List Nat),k<=n/\i=.int .i64 k/\zaj 0 ww v' l'/\Hid (l'++(ws.drop k).flatMap zaH=l++zbp ws)/\w.grownBy ww v.ownBlock/\Hid (v'.ownBlock=v.ownBlock\/∀ g,v'.ownBlock=some g->w.heap.size<=g)/\Hid (l'.length<=200000000+4*k)/\Hid (∃ g n' c',v'=.slice (some ⟨g,0,none⟩) n' c'/\g<ww.heap.size)) (fun _ i _ => n - (intOf i).toNat)
 case atStart => exact ⟨0,l++cnt n,Nat.zero_le _,rfl,hO1,by rw [List.drop_zero];show _=l++(cnt ws.length++_);rw [Hn.out,List.append_assoc],hg1,hat1.imp Eq.symm (fun k g e => by have e:g1=g:=Option.some.inj e;omega),by show (l++cnt n).length<=_;rw [List.length_append];have:=Hl.out;have:=Hlen.out;omega,⟨g1,_,_,rfl,hlt1⟩⟩
 case round =>
  obtain ⟨k,l',hk,rfl,hO,HE,hg,HV,HL,HX⟩:=hrel
  by_cases hkn:k<n
  ·have hki:(k:Int)<(n:Int):=by omega
   have hkl:k<ws.length:=by rw [Hn.out];exact hkn
   have hR:=Hs.out.grown hg Hf.out
   obtain ⟨b,off,rfl,hcell⟩:=hR.cells (by omega)
   have hc:=hcell k hkl
   have hxB:=hR.1 (nth ws k) (by rw [zaQ hkl];exact List.getElem_mem hkl)
   obtain ⟨x,hx⟩:∃ x,nth ws k=x:=⟨_,rfl⟩
   rw [hx] at hc hxB
   clear hcell
   have HB:=Lib.hid (zlV hxB)
   have Hx:=Lib.hid hx
   have HxB:=Lib.hid hxB
   have Hln:=Lib.hid (show l'.length+4<=1099511627776 by have:=HL.out;omega)
   clear hx hxB
   go_wp2_with (at_builtin;refine zdG _ rfl (.tmp 17) (.tmp 29) rfl _ l' (zaH x) wr.heap.size 4 4 rfl rfl (hO.alloc _) rfl (by decide) HB.out (zmp HxB.out) Hln.out _ rfl ?_;intro g4 c4 w4 hO4 hg4 hat4 hlt4)
   go_roundw
   case rel =>
    refine ⟨k+1,l'++zaH x,by omega,by go_num,hO4,?_,zaM (zcD hg _) hg4 (HV.out.imp id id),zgS HV.out hat4 (by have:=hg.size;simp;omega),?_,⟨g4,_,c4,rfl,hlt4⟩⟩
    ·show (l'++zaH x)++_=_
     rw [<- HE.out,List.drop_eq_getElem_cons hkl,List.flatMap_cons,<- zaQ hkl,Hx.out,List.append_assoc]
    ·show (l'++zaH x).length<=_
     rw [List.length_append]
     have:=HL.out
     have h4:(zaH x).length=4:=rfl
     omega
   case measure => simp [intOf] <;> omega
  ·obtain rfl:k=n:=by omega
   have hki:¬ ((k:Int)<(k:Int)):=by omega
   obtain ⟨g,n',c',rfl,hglt⟩:=HX.out
   go_wp2_with fail
   go_ret
   exact ⟨g,n',c',rfl,by
    have:=HE.out
    rw [<- Hn.out,List.drop_length] at this
    rw [<- this]
    simpa using hO,HV.out.imp Eq.symm (fun j => j g rfl),hglt,hg⟩

end Go.Proofs.YtkjcdnlpjldhaaaGreat


namespace Go.Proofs.YtkjcdnlpjldhaaaGreat
open Go.RowKit Tw

theorem zji:∀ (k n:Nat),n<128 ^ (k+1)->(cnt n).length<=k+1
 | 0,n,h => by rw [zee (by simpa using h)];exact Nat.le_refl _
 | k+1,n,h => by
  by_cases h1:n<128
  ·rw [zee h1];simp
  ·rw [zgx h1,List.length_cons]
   have:=zji k (n / 128) (by rw [Nat.pow_succ] at h;exact Nat.div_lt_of_lt_mul (by rw [Nat.mul_comm];exact h))
   omega

theorem zJ {n:Nat} (h:n<268435456):(cnt n).length<=4:=zji 3 n h

theorem zme (l:List Nat):(l.flatMap zaH).length=4*l.length:=by
 induction l with
 | nil => rfl
 | cons x t ih => rw [List.flatMap_cons,List.length_append,ih,List.length_cons];show 4+_=_;omega

theorem zct {l:List Nat} (h:zdn l):(zbp l).length<=4+4*l.length:=by
 unfold zbp
 rw [List.length_append,zme]
 have:=zJ h.1
 omega

theorem zgw {x:Ins} {S:Nat} (h:Wire x) (hn:x.q.n.length<=S) (hd:x.q.d.length<=S):(zav x).length<=28+8*S:=by
 obtain ⟨⟨h0,h0'⟩,⟨h1,h1'⟩,⟨h2,h2'⟩,⟨h3,h3'⟩,h4,h5,_⟩:=h
 have k0:=zJ (n:=x.op.toNat) (by omega)
 have k1:=zJ (n:=x.to.toNat) (by omega)
 have k2:=zJ (n:=x.a.toNat) (by omega)
 have k3:=zJ (n:=(bOf x).toNat) (by omega)
 have k4:=zct h4
 have k5:=zct h5
 have k6:(cnt (if x.q.ng=true then 1 else 0)).length<=4:=zJ (by split <;> decide)
 unfold zav
 simp only [List.length_append]
 split
 ·simp only [List.length_append];omega
 ·simp only [List.length_nil];omega

theorem zhB {S:Nat}:∀ (l:List Ins),(∀ x ∈ l,Wire x/\x.q.n.length<=S/\x.q.d.length<=S)->(l.flatMap zav).length<=(28+8*S)*l.length
 | [],_ => Nat.zero_le _
 | x :: t,h => by
  rw [List.flatMap_cons,List.length_append,List.length_cons,Nat.mul_succ]
  have h1:=h x (List.mem_cons_self ..)
  have:=zgw h1.1 h1.2.1 h1.2.2
  have:=zhB t (fun y hy => h y (List.mem_cons_of_mem _ hy))
  omega

theorem zkA {c:Cd} {L:List Int} {x:Ins} (hr:0<=c.regs/\c.regs<=100000) (hi:c.ins<=40) (hc:c.rows*c.cols<=1600) (hL:∀ r ∈ L,0<=r/\r<100000) (h:zp c L x=true) (hn:zdn x.q.n) (hd:zdn x.q.d):Wire x/\(x.op≠10->0<=x.to/\x.to<100000):=by
 unfold zp at h
 simp only [Bool.and_eq_true,decide_eq_true_eq] at h
 obtain ⟨⟨⟨⟨h1,h2⟩,h3⟩,h4⟩,h5,h6⟩:=h
 have hop:0<=x.op/\x.op<=10:=by
  unfold zd at h1
  split at h1
  ·omega
  ·split at h1
   ·omega
   ·split at h1
    ·omega
    ·omega
 have hto:x.to<100000:=by
  unfold zD at h6
  split at h6 <;> omega
 have ha:0<=x.a/\x.a<100000:=by
  unfold aOk at h3
  split at h3
  ·simp only [decide_eq_true_eq] at h3;omega
  ·split at h3
   ·simp only [decide_eq_true_eq] at h3;omega
   ·exact hL _ (of_decide_eq_true h3)
 have hb:0<=bOf x/\bOf x<100000:=by
  unfold bOf
  unfold bOk at h4
  split at h4
  ·rename_i e
   rw [if_pos e]
   simp only [decide_eq_true_eq] at h4;omega
  ·rename_i e
   rw [if_neg e]
   split at h4
   ·exact hL _ (of_decide_eq_true h4)
   ·simp only [decide_eq_true_eq] at h4;omega
 refine ⟨⟨by omega,by omega,by omega,by omega,hn,hd,fun e => ?_⟩,fun _ => by omega⟩
 unfold zaJ at h2
 rw [if_neg e] at h2
 simp only [Bool.and_eq_true,decide_eq_true_eq,Bool.not_eq_true'] at h2
 obtain ⟨⟨k1,k2⟩,k3⟩:=h2
 obtain ⟨op,to,a,b,ng,n,d⟩:=x
 simp only at k1 k2 k3 ⊢
 rw [k1,List.eq_nil_of_length_eq_zero k2,List.eq_nil_of_length_eq_zero k3]

theorem zgu {c:Cd} (hr:0<=c.regs/\c.regs<=100000) (hi:c.ins<=40) (hc:c.rows*c.cols<=1600):∀ (l:List Ins) (L:List Int),(∀ r ∈ L,0<=r/\r<100000)->zaq c L l=true->(∀ x ∈ l,zdn x.q.n/\zdn x.q.d)->∀ x ∈ l,Wire x
 | [],_,_,_,_,_,h => by cases h
 | y :: t,L,hL,ha,hw,x,h => by
  unfold zaq at ha
  rw [Bool.and_eq_true] at ha
  have hy:=hw y (List.mem_cons_self ..)
  have k:=zkA hr hi hc hL ha.1 hy.1 hy.2
  rcases List.mem_cons.1 h with h|h
  ·rw [h];exact k.1
  ·refine zgu hr hi hc t (more L y) (fun r hr => ?_) ha.2 (fun z hz => hw z (List.mem_cons_of_mem _ hz)) x h
   unfold more at hr
   split at hr
   ·exact hL r hr
   ·rename_i e
    rcases List.mem_append.1 hr with hr|hr
    ·exact hL r hr
    ·rw [List.mem_singleton.1 hr];exact k.2 e

theorem zeo {c:Cd} (h:zF c=true) (hw:∀ x ∈ c.all,zdn x.q.n/\zdn x.q.d):zfA c:=by
 unfold zF at h
 rw [Bool.and_eq_true] at h
 have h0:=h.1
 unfold zbX at h0
 simp only [decide_eq_true_eq] at h0
 obtain ⟨h1,h2,h3,h4,h5,h6,h7,h8⟩:=h0
 have hrc:c.rows*c.cols<=1600:=by
  have h9:c.cols<=40:=by omega
  have h10:0<=c.cols:=by omega
  calc c.rows*c.cols<=40*c.cols:=Int.mul_le_mul_of_nonneg_right h4 h10
   _<=1600:=by omega
 refine ⟨by omega,by omega,by omega,by omega,by omega,zgu ⟨h6,h7⟩ h2 hrc c.all [] (fun r hr => by cases hr) h.2 hw⟩

end Go.Proofs.YtkjcdnlpjldhaaaGreat

