/-
  The texts Rat7, Rat8, VmMath, PackMath, VmBase, Rat5, RefJ, merged.
-/
import Derived.Test.YtkjcdnlpjldhaaaGreatK13
import Derived.Test.YtkjcdnlpjldhaaaGreatK16
import Derived.Test.YtkjcdnlpjldhaaaGreatK12
import Derived.Test.YtkjcdnlpjldhaaaGreatK17
import Derived.Deep.RegionHeld3
import Derived.Deep.Cut
import Derived.Deep.DrawnRows
import Derived.Laws.EntriesVeiled
import Derived.Test.YtkjcdnlpjldhaaaGreatK11
set_option linter.unusedVariables false
set_option linter.unusedSimpArgs false
set_option maxRecDepth 100000
set_option maxHeartbeats 400000000
namespace Go.Proofs.YtkjcdnlpjldhaaaGreat
open Go.RowKit Tw
attribute [local go_sem ↓] Go.wp_at_zero Go.wp_at_succ

end Go.Proofs.YtkjcdnlpjldhaaaGreat


namespace Go.Proofs.YtkjcdnlpjldhaaaGreat
open Go.RowKit Tw
attribute [local go_sem ↓] Go.wp_at_zero Go.wp_at_succ

theorem zeB {m s n:Nat} (hm:sz m<=s) (hs:s*n<=999):(za (val (za m) ^ n)).length<=3000:=by
 rw [zc,vL]
 have h1:=zdW m n
 have h2:n*sz m<=n*s:=Nat.mul_le_mul_left _ hm
 rw [Nat.mul_comm s n] at hs
 omega

theorem zjq {x:Rat} {n:Nat} (hs:szq x*n<=999):szq (x ^ n)<=1000:=by
 unfold szq
 rw [Rat.num_pow,Rat.den_pow,Int.natAbs_pow]
 have h1:=zdW x.num.natAbs n
 have h2:=zdW x.den n
 have h3:n*sz x.num.natAbs<=n*szq x:=Nat.mul_le_mul_left _ (zaE x)
 have h4:n*sz x.den<=n*szq x:=Nat.mul_le_mul_left _ (zam x)
 rw [Nat.mul_comm (szq x) n] at hs
 omega

theorem pow_ok {m s n:Nat} {k:Int} (hm:sz m<=s) (dj:1<=s) (hs:s*n<=999) (hk:k=(n:Int)):¬ zfK m k:=by
 subst hk
 unfold zfK
 rintro (h|⟨h1,h2⟩)
 ·omega
 ·have h3:0<sz m:=Nat.pos_of_ne_zero fun e => by have:=zz.1 e;omega
  have h4:n<=4096 / sz m:=(Nat.le_div_iff_mul_le h3).2 (by
   have:n*sz m<=n*s:=Nat.mul_le_mul_left _ hm
   rw [Nat.mul_comm s n] at hs
   omega)
  omega

theorem pow_up {x:Rat} {n:Nat} {k:Int} (hs:szq x*n<=999) (hk:k=(n:Int)):¬ zfK (val (za x.num.natAbs)) k:=by
 rw [vL];exact pow_ok (zaE x) (zcW x) hs hk

theorem pow_dn {x:Rat} {n:Nat} {k:Int} (hs:szq x*n<=999) (hk:k=(n:Int)):¬ zfK (val (za x.den)) k:=by
 rw [vL];exact pow_ok (zam x) (zcW x) hs hk

theorem zje (x:Rat):∀ k:Nat,rat (decide (x<0) && decide (k % 2=1)) (x.num.natAbs ^ k) (x.den ^ k)=x ^ k
 | 0 => by rw [Rat.pow_zero,Nat.pow_zero,Nat.pow_zero];simp;rfl
 | k+1 => by
  rw [Rat.pow_succ,<- zje x k,Nat.pow_succ,Nat.pow_succ]
  conv => rhs;arg 2;rw [<- zco x]
  rw [zeC]
  congr 1
  cases decide (x<0)
  ·rfl
  ·rcases Nat.mod_two_eq_zero_or_one k with e|e
   ·have:(k+1) % 2=1:=by omega
    simp [e,this]
   ·have:(k+1) % 2=0:=by omega
    simp [e,this]

theorem inv_rat (b:Bool) {n d:Nat} (hn:n≠0) (hd:d≠0):rat b d n=(rat b n d)⁻¹:=by
 have h1:rat b n d≠0:=fun e => hn ((zef hd).1 e)
 have h2:rat b d n*rat b n d=1:=by
  rw [zeC,Nat.mul_comm d n]
  unfold rat
  have:(n*d:Nat)≠0:=Nat.mul_ne_zero hn hd
  rw [show (b != b)=false by cases b <;> rfl,zbI]
  rw [<- Rat.divInt_ofNat];exact Rat.divInt_self' (by omega)
 calc rat b d n=rat b d n*(rat b n d*(rat b n d)⁻¹):=by rw [Rat.mul_inv_cancel _ h1,Rat.mul_one]
  _=(rat b n d)⁻¹:=by rw [<- Rat.mul_assoc,h2,Rat.one_mul]

theorem zjd {x:Rat} {k:Nat} (p:Bool) (hp:p=decide (k % 2=1)):∀ ng,decide (x<0)=ng->rat (ng && p) (val (za (val (za x.num.natAbs) ^ k))) (val (za (val (za x.den) ^ k)))=x ^ k:=by
 intro ng e
 rw [<- e,hp,vL,vL,vL,vL,<- zje x k]

theorem pow_inv {x:Rat} {k:Nat} (p:Bool) (hp:p=decide (k % 2=1)) (h0:x≠0):∀ ng,decide (x<0)=ng ->
  rat (ng && p) (val (za (val (za x.den) ^ k))) (val (za (val (za x.num.natAbs) ^ k)))=(x ^ k)⁻¹:=by
 intro ng e
 have h:=zjd p hp ng e
 rw [vL,vL,vL,vL] at *
 rw [<- h]
 exact inv_rat _ (fun e => num_ne h0 (Int.natAbs_eq_zero.1 (Nat.pow_eq_zero.1 e).1)) (fun e => x.den_nz (Nat.pow_eq_zero.1 e).1)

theorem odd_pos {n:Int} {k:Nat} (hn:0<=n) (hk:max n (-n)=(k:Int)):(n % 2 != 0)=decide (k % 2=1):=by
 rw [Bool.eq_iff_iff];simp;omega

theorem odd_neg {n:Int} {k:Nat} (hk:max n (-n)=(k:Int)):(n.tmod 2 != 0)=decide (k % 2=1):=by
 have h1:n.tmod 2=0 ↔ n % 2=0:=by
  constructor
  ·intro h;have:=Int.dvd_of_tmod_eq_zero h;omega
  ·intro h;exact Int.tmod_eq_zero_of_dvd (by omega)
 rw [Bool.eq_iff_iff];simp [h1];omega

theorem pow_zero {x:Rat} (b:Bool) (v u:Value) (ln ld:List Nat) (n:Int) (w:World) (h:IsQ w b v u ln ld x) (m0:-9223372036854775808<=n) (m1:n<9223372036854775808) (hn:-64<=n) (hn':n<0) (h0:x=0) :
  Calls Tryz.prog 122 #[aggR b v u,.int .i64 n] w (fun e w' => e=.returned (.tuple #[aggR false (.slice none 0 0) (.slice none 0 0),.int .i64 3])/\Below w.heap.size w w'):=by
 have Hx:=zaG h
 have HX0:=Lib.hid h0
 clear h0
 obtain ⟨a0,n0,c0,rfl,H0,hm0⟩:=h.1.open
 obtain ⟨a1,n1,c1,rfl,H1,hm1⟩:=h.2.1.open
 go_enter Tryz.func122,Tryz.ntmps122
 go_wp2_with fail
 obtain ⟨W0,ap⟩:∃ W0,(w.alloc (.cells #[.bool b,.slice a0 n0 c0,.slice a1 n1 c1] 47)).alloc (.cells #[.bool false,.slice none 0 0,.slice none 0 0] 47)=W0:=⟨_,rfl⟩
 have aq:=Lib.hid (show ∀ W',Below W0.heap.size W0 W'->(Bx3 W' w.heap.size (.bool b) (.slice a0 n0 c0) (.slice a1 n1 c1)/\Bx3 W' (w.heap.size+1) (.bool false) (.slice none 0 0) (.slice none 0 0)) from fun W' hb => by
   refine ⟨bx3 hb ?_ ?_ ?_ ?_ ?_ ?_,bx3 hb ?_ ?_ ?_ ?_ ?_ ?_⟩
   all_goals first|assumption|(rw [<- ap];simp [go_sem]))
 have zb:Below w.heap.size w W0:=by rw [<- ap];exact bS (bN _ _) (bN _ _)
 rw [ap]
 clear ap
 have i0:=h.to zb
 have gb:Below W0.heap.size W0 W0:=Below.refl _ _
 obtain ⟨⟨z0,ae,af,ah,ai,ak,al⟩,⟨z1,am,an,aw,aB,aC,aD⟩⟩:=aq.out _ gb
 refine (zbk b _ _ ln ld _ (i0.to gb) Hx).mono ?_
 clear ae ai af ak ah al am aB an aC aw aD
 rintro e w1 ⟨ng1,a1_,n1_,c1_,p1_,m1_,k1_,rfl,g1,aS⟩
 replace gb:=bS gb aS
 obtain ⟨⟨z0,ae,af,ah,ai,ak,al⟩,⟨z1,am,an,aw,aB,aC,aD⟩⟩:=aq.out _ gb
 obtain rfl:n1_=0:=by have k:=g1.zeroQ (decide_eq_true HX0.out);simpa using k
 go_wp2_with fail
 refine bodyPost_ret (zm Tryz.results122 _ _ _ _ _ _ rfl (Tri.alloc (Tri.set (x0:=.bool false) (y0:=.slice none 0 0) (z0:=.slice none 0 0) ⟨am,an,aw,aB,aC,aD⟩ _ _ _) _)) rfl ⟨rfl,bS (bT (bS zb gb) (by omega) _ _ _) (bN _ _)⟩

theorem pow_pos {x:Rat} (b:Bool) (v u:Value) (ln ld:List Nat) (n:Int) (w:World) (h:IsQ w b v u ln ld x) (hn:0<=n) (hn':n<=64) (hs:szq x*n.toNat<=999) :
  Calls Tryz.prog 122 #[aggR b v u,.int .i64 n] w (zD w (x ^ n.toNat)):=by
 have Hx:=zaG h
 obtain ⟨K,hK⟩:∃ K,(max n (-n)).toNat=K:=⟨_,rfl⟩
 have hK2:n.toNat=K:=by omega
 have hK3:max n (-n)=(K:Int):=by omega
 rw [hK2] at hs
 rw [hK2]
 have HP1:=Lib.hid (pow_up (k:=max n (-n)) hs hK3)
 have HP2:=Lib.hid (pow_dn (k:=max n (-n)) hs hK3)
 have HK:=Lib.hid hK
 have HS:Hid (szq (x ^ K)<=1000):=zjq hs
 have L1:=Lib.hid (show (za (val (za x.num.natAbs) ^ K)).length<=3000 from zeB (zaE x) hs)
 have L2:=Lib.hid (show (za (val (za x.den) ^ K)).length<=3000 from zeB (zam x) hs)
 have H9:=Lib.hid (zjd (x:=x) (n % 2 != 0) (odd_pos hn hK3))
 clear hs hK hK2 hK3
 obtain ⟨a0,n0,c0,rfl,H0,hm0⟩:=h.1.open
 obtain ⟨a1,n1,c1,rfl,H1,hm1⟩:=h.2.1.open
 go_enter Tryz.func122,Tryz.ntmps122
 go_wp2_with fail
 obtain ⟨W0,ap⟩:∃ W0,(w.alloc (.cells #[.bool b,.slice a0 n0 c0,.slice a1 n1 c1] 47)).alloc (.cells #[.bool false,.slice none 0 0,.slice none 0 0] 47)=W0:=⟨_,rfl⟩
 have aq:=Lib.hid (show ∀ W',Below W0.heap.size W0 W'->(Bx3 W' w.heap.size (.bool b) (.slice a0 n0 c0) (.slice a1 n1 c1)/\Bx3 W' (w.heap.size+1) (.bool false) (.slice none 0 0) (.slice none 0 0)) from fun W' hb => by
   refine ⟨bx3 hb ?_ ?_ ?_ ?_ ?_ ?_,bx3 hb ?_ ?_ ?_ ?_ ?_ ?_⟩
   all_goals first|assumption|(rw [<- ap];simp [go_sem]))
 have zb:Below w.heap.size w W0:=by rw [<- ap];exact bS (bN _ _) (bN _ _)
 rw [ap]
 clear ap
 have i0:=h.to zb
 have gb:Below W0.heap.size W0 W0:=Below.refl _ _
 obtain ⟨⟨z0,ae,af,ah,ai,ak,al⟩,⟨z1,am,an,aw,aB,aC,aD⟩⟩:=aq.out _ gb
 refine (zbk b _ _ ln ld _ (i0.to gb) Hx).mono ?_
 clear ae ai af ak ah al am aB an aC aw aD
 rintro e w1 ⟨ng1,a1_,n1_,c1_,p1_,m1_,k1_,rfl,g1,aS⟩
 replace gb:=bS gb aS
 obtain ⟨⟨z0,ae,af,ah,ai,ak,al⟩,⟨z1,am,an,aw,aB,aC,aD⟩⟩:=aq.out _ gb
 go_wp2_with fail
 obtain ⟨W1,aJ⟩:∃ W1,w1.alloc (.cells #[.bool ng1,.slice a1_ n1_ c1_,.slice p1_ m1_ k1_] 166)=W1:=⟨_,rfl⟩
 have hb_W1:Below w1.heap.size w1 W1:=by rw [<- aJ];exact bN _ _
 have cD:Hid (W1.heap.size=w1.heap.size+1):=by show _=_;rw [<- aJ];simp
 clear ae ai af ak ah al am aB an aC aw aD
 replace g1:=g1.to hb_W1
 replace gb:=bS gb hb_W1
 obtain ⟨⟨z0,ae,af,ah,ai,ak,al⟩,⟨z1,am,an,aw,aB,aC,aD⟩⟩:=aq.out _ gb
 have cw:W1.cell? ⟨w1.heap.size,0,none⟩=some (.bool ng1):=by rw [<- aJ];simp [go_sem]
 have cF:W1.frozen? ⟨w1.heap.size,0,none⟩=false:=by rw [<- aJ];simp [go_sem]
 have cB:W1.cell? ⟨w1.heap.size,1,none⟩=some (.slice a1_ n1_ c1_):=by rw [<- aJ];simp [go_sem]
 have cG:W1.frozen? ⟨w1.heap.size,1,none⟩=false:=by rw [<- aJ];simp [go_sem]
 have cC:W1.cell? ⟨w1.heap.size,2,none⟩=some (.slice p1_ m1_ k1_):=by rw [<- aJ];simp [go_sem]
 have cH:W1.frozen? ⟨w1.heap.size,2,none⟩=false:=by rw [<- aJ];simp [go_sem]
 have z6:w1.heap.size<W1.heap.size:=by rw [<- aJ];simp
 rw [aJ]
 clear aJ
 replace i0:=i0.to gb
 replace zb:=bS zb gb
 have bX:=Lib.hid (show ∀ W',Below W1.heap.size W1 W'->(Bx3 W' w.heap.size (.bool b) (.slice a0 n0 c0) (.slice a1 n1 c1)/\Bx3 W' (w.heap.size+1) (.bool false) (.slice none 0 0) (.slice none 0 0)/\Bx3 W' w1.heap.size (.bool ng1) (.slice a1_ n1_ c1_) (.slice p1_ m1_ k1_)) from fun W' hb => by
   refine ⟨bx3 hb ?_ ?_ ?_ ?_ ?_ ?_,bx3 hb ?_ ?_ ?_ ?_ ?_ ?_,bx3 hb ?_ ?_ ?_ ?_ ?_ ?_⟩
   all_goals first|assumption|assumption)
 replace gb:=Below.refl W1.heap.size W1
 go_wp2_with fail
 refine (zcp _ _ _ _ (g1.to gb).isQ.up (Nat.le_trans (g1.to gb).isQ.lup (by omega)) HP1.out).mono ?_
 clear ae ai af ak ah al am aB an aC aw aD cw cF cB cG cC cH
 rintro e w2 ⟨v2,rfl,g2,aM⟩
 obtain ⟨a2_,n2_,c2_,rfl,H2,hm2⟩:=g2.rd.open
 replace gb:=bS gb aM
 obtain ⟨⟨z0,ae,af,ah,ai,ak,al⟩,⟨z1,am,an,aw,aB,aC,aD⟩,⟨z6,cw,cB,cC,cF,cG,cH⟩⟩:=bX.out _ gb
 rw [HK.out] at g2
 go_wp2_with fail
 refine (zcp _ _ _ _ (g1.to gb).isQ.dn (Nat.le_trans (g1.to gb).isQ.ldn (by omega)) HP2.out).mono ?_
 clear ae ai af ak ah al am aB an aC aw aD cw cF cB cG cC cH
 rintro e w3 ⟨v3,rfl,g3,bY⟩
 obtain ⟨a3_,n3_,c3_,rfl,H3,hm3⟩:=g3.rd.open
 replace g2:=g2.to bY
 replace gb:=bS gb bY
 obtain ⟨⟨z0,ae,af,ah,ai,ak,al⟩,⟨z1,am,an,aw,aB,aC,aD⟩,⟨z6,cw,cB,cC,cF,cG,cH⟩⟩:=bX.out _ gb
 rw [HK.out] at g3
 have H8:=Lib.hid (H9.out ng1 (g1.to gb).ng)
 cases ng1
 ·skip
  go_wp2_with fail
  refine (zM false _ _ _ _ _ g2.rd g3.rd L1.out L2.out _ H8.out HS).mono ?_
  clear ae ai af ak ah al am aB an aC aw aD cw cF cB cG cC cH
  rintro e w5 ⟨ng5,a5_,n5_,c5_,p5_,m5_,k5_,rfl,g5,cV⟩
  replace g2:=g2.to cV
  replace g3:=g3.to cV
  replace gb:=bS gb cV
  obtain ⟨⟨z0,ae,af,ah,ai,ak,al⟩,⟨z1,am,an,aw,aB,aC,aD⟩,⟨z6,cw,cB,cC,cF,cG,cH⟩⟩:=bX.out _ gb
  go_wp2_with fail
  refine bodyPost_ret (zm Tryz.results122 _ _ _ _ _ _ rfl (Tri.set (x0:=.bool false) (y0:=.slice none 0 0) (z0:=.slice none 0 0) ⟨am,an,aw,aB,aC,aD⟩ _ _ _)) rfl (zbB (bS zb gb) (by omega) ?_ g5)
  omega
 ·skip
  go_wp2_with fail
  refine (zM (n % 2 != 0) _ _ _ _ _ g2.rd g3.rd L1.out L2.out _ H8.out HS).mono ?_
  clear ae ai af ak ah al am aB an aC aw aD cw cF cB cG cC cH
  rintro e w5 ⟨ng5,a5_,n5_,c5_,p5_,m5_,k5_,rfl,g5,cV⟩
  replace g2:=g2.to cV
  replace g3:=g3.to cV
  replace gb:=bS gb cV
  obtain ⟨⟨z0,ae,af,ah,ai,ak,al⟩,⟨z1,am,an,aw,aB,aC,aD⟩,⟨z6,cw,cB,cC,cF,cG,cH⟩⟩:=bX.out _ gb
  go_wp2_with fail
  refine bodyPost_ret (zm Tryz.results122 _ _ _ _ _ _ rfl (Tri.set (x0:=.bool false) (y0:=.slice none 0 0) (z0:=.slice none 0 0) ⟨am,an,aw,aB,aC,aD⟩ _ _ _)) rfl (zbB (bS zb gb) (by omega) ?_ g5)
  omega

theorem pow_neg {x:Rat} (b:Bool) (v u:Value) (ln ld:List Nat) (n:Int) (w:World) (h:IsQ w b v u ln ld x) (hn:-64<=n) (hn':n<0) (h0:x≠0) (hs:szq x*(-n).toNat<=999) :
  Calls Tryz.prog 122 #[aggR b v u,.int .i64 n] w (zD w ((x ^ (-n).toNat)⁻¹)):=by
 have Hx:=zaG h
 obtain ⟨K,hK⟩:∃ K,(max n (-n)).toNat=K:=⟨_,rfl⟩
 have hK2:(-n).toNat=K:=by omega
 have hK3:max n (-n)=(K:Int):=by omega
 rw [hK2] at hs
 rw [hK2]
 have HP1:=Lib.hid (pow_up (k:=max n (-n)) hs hK3)
 have HP2:=Lib.hid (pow_dn (k:=max n (-n)) hs hK3)
 have HK:=Lib.hid hK
 have HS:Hid (szq ((x ^ K)⁻¹)<=1000):=Nat.le_trans (zgE _) (zjq hs)
 have L1:=Lib.hid (show (za (val (za x.num.natAbs) ^ K)).length<=3000 from zeB (zaE x) hs)
 have L2:=Lib.hid (show (za (val (za x.den) ^ K)).length<=3000 from zeB (zam x) hs)
 have H9:=Lib.hid (pow_inv (x:=x) (n.tmod 2 != 0) (odd_neg hK3) h0)
 clear hs hK hK2 hK3
 have HX0:=Lib.hid h0
 clear h0
 obtain ⟨a0,n0,c0,rfl,H0,hm0⟩:=h.1.open
 obtain ⟨a1,n1,c1,rfl,H1,hm1⟩:=h.2.1.open
 go_enter Tryz.func122,Tryz.ntmps122
 go_wp2_with fail
 obtain ⟨W0,ap⟩:∃ W0,(w.alloc (.cells #[.bool b,.slice a0 n0 c0,.slice a1 n1 c1] 47)).alloc (.cells #[.bool false,.slice none 0 0,.slice none 0 0] 47)=W0:=⟨_,rfl⟩
 have aq:=Lib.hid (show ∀ W',Below W0.heap.size W0 W'->(Bx3 W' w.heap.size (.bool b) (.slice a0 n0 c0) (.slice a1 n1 c1)/\Bx3 W' (w.heap.size+1) (.bool false) (.slice none 0 0) (.slice none 0 0)) from fun W' hb => by
   refine ⟨bx3 hb ?_ ?_ ?_ ?_ ?_ ?_,bx3 hb ?_ ?_ ?_ ?_ ?_ ?_⟩
   all_goals first|assumption|(rw [<- ap];simp [go_sem]))
 have zb:Below w.heap.size w W0:=by rw [<- ap];exact bS (bN _ _) (bN _ _)
 rw [ap]
 clear ap
 have i0:=h.to zb
 have gb:Below W0.heap.size W0 W0:=Below.refl _ _
 obtain ⟨⟨z0,ae,af,ah,ai,ak,al⟩,⟨z1,am,an,aw,aB,aC,aD⟩⟩:=aq.out _ gb
 refine (zbk b _ _ ln ld _ (i0.to gb) Hx).mono ?_
 clear ae ai af ak ah al am aB an aC aw aD
 rintro e w1 ⟨ng1,a1_,n1_,c1_,p1_,m1_,k1_,rfl,g1,aS⟩
 replace gb:=bS gb aS
 obtain ⟨⟨z0,ae,af,ah,ai,ak,al⟩,⟨z1,am,an,aw,aB,aC,aD⟩⟩:=aq.out _ gb
 have hz1:0<n1_:=by have k:=g1.zeroQ (decide_eq_false HX0.out);simp at k;omega
 go_wp2_with fail
 obtain ⟨W1,aJ⟩:∃ W1,w1.alloc (.cells #[.bool ng1,.slice a1_ n1_ c1_,.slice p1_ m1_ k1_] 166)=W1:=⟨_,rfl⟩
 have hb_W1:Below w1.heap.size w1 W1:=by rw [<- aJ];exact bN _ _
 have cD:Hid (W1.heap.size=w1.heap.size+1):=by show _=_;rw [<- aJ];simp
 clear ae ai af ak ah al am aB an aC aw aD
 replace g1:=g1.to hb_W1
 replace gb:=bS gb hb_W1
 obtain ⟨⟨z0,ae,af,ah,ai,ak,al⟩,⟨z1,am,an,aw,aB,aC,aD⟩⟩:=aq.out _ gb
 have cw:W1.cell? ⟨w1.heap.size,0,none⟩=some (.bool ng1):=by rw [<- aJ];simp [go_sem]
 have cF:W1.frozen? ⟨w1.heap.size,0,none⟩=false:=by rw [<- aJ];simp [go_sem]
 have cB:W1.cell? ⟨w1.heap.size,1,none⟩=some (.slice a1_ n1_ c1_):=by rw [<- aJ];simp [go_sem]
 have cG:W1.frozen? ⟨w1.heap.size,1,none⟩=false:=by rw [<- aJ];simp [go_sem]
 have cC:W1.cell? ⟨w1.heap.size,2,none⟩=some (.slice p1_ m1_ k1_):=by rw [<- aJ];simp [go_sem]
 have cH:W1.frozen? ⟨w1.heap.size,2,none⟩=false:=by rw [<- aJ];simp [go_sem]
 have z6:w1.heap.size<W1.heap.size:=by rw [<- aJ];simp
 rw [aJ]
 clear aJ
 replace i0:=i0.to gb
 replace zb:=bS zb gb
 have bX:=Lib.hid (show ∀ W',Below W1.heap.size W1 W'->(Bx3 W' w.heap.size (.bool b) (.slice a0 n0 c0) (.slice a1 n1 c1)/\Bx3 W' (w.heap.size+1) (.bool false) (.slice none 0 0) (.slice none 0 0)/\Bx3 W' w1.heap.size (.bool ng1) (.slice a1_ n1_ c1_) (.slice p1_ m1_ k1_)) from fun W' hb => by
   refine ⟨bx3 hb ?_ ?_ ?_ ?_ ?_ ?_,bx3 hb ?_ ?_ ?_ ?_ ?_ ?_,bx3 hb ?_ ?_ ?_ ?_ ?_ ?_⟩
   all_goals first|assumption|assumption)
 replace gb:=Below.refl W1.heap.size W1
 go_wp2_with fail
 refine (zcp _ _ _ _ (g1.to gb).isQ.up (Nat.le_trans (g1.to gb).isQ.lup (by omega)) HP1.out).mono ?_
 clear ae ai af ak ah al am aB an aC aw aD cw cF cB cG cC cH
 rintro e w2 ⟨v2,rfl,g2,aM⟩
 obtain ⟨a2_,n2_,c2_,rfl,H2,hm2⟩:=g2.rd.open
 replace gb:=bS gb aM
 obtain ⟨⟨z0,ae,af,ah,ai,ak,al⟩,⟨z1,am,an,aw,aB,aC,aD⟩,⟨z6,cw,cB,cC,cF,cG,cH⟩⟩:=bX.out _ gb
 rw [HK.out] at g2
 go_wp2_with fail
 refine (zcp _ _ _ _ (g1.to gb).isQ.dn (Nat.le_trans (g1.to gb).isQ.ldn (by omega)) HP2.out).mono ?_
 clear ae ai af ak ah al am aB an aC aw aD cw cF cB cG cC cH
 rintro e w3 ⟨v3,rfl,g3,bY⟩
 obtain ⟨a3_,n3_,c3_,rfl,H3,hm3⟩:=g3.rd.open
 replace g2:=g2.to bY
 replace gb:=bS gb bY
 obtain ⟨⟨z0,ae,af,ah,ai,ak,al⟩,⟨z1,am,an,aw,aB,aC,aD⟩,⟨z6,cw,cB,cC,cF,cG,cH⟩⟩:=bX.out _ gb
 rw [HK.out] at g3
 have H8:=Lib.hid (H9.out ng1 (g1.to gb).ng)
 cases ng1
 ·skip
  go_wp2_with fail
  refine (zM false _ _ _ _ _ g3.rd g2.rd L2.out L1.out _ H8.out HS).mono ?_
  clear ae ai af ak ah al am aB an aC aw aD cw cF cB cG cC cH
  rintro e w5 ⟨ng5,a5_,n5_,c5_,p5_,m5_,k5_,rfl,g5,cV⟩
  replace g2:=g2.to cV
  replace g3:=g3.to cV
  replace gb:=bS gb cV
  obtain ⟨⟨z0,ae,af,ah,ai,ak,al⟩,⟨z1,am,an,aw,aB,aC,aD⟩,⟨z6,cw,cB,cC,cF,cG,cH⟩⟩:=bX.out _ gb
  go_wp2_with fail
  refine bodyPost_ret (zm Tryz.results122 _ _ _ _ _ _ rfl (Tri.set (x0:=.bool false) (y0:=.slice none 0 0) (z0:=.slice none 0 0) ⟨am,an,aw,aB,aC,aD⟩ _ _ _)) rfl (zbB (bS zb gb) (by omega) ?_ g5)
  omega
 ·skip
  go_wp2_with fail
  refine (zM (n.tmod 2 != 0) _ _ _ _ _ g3.rd g2.rd L2.out L1.out _ H8.out HS).mono ?_
  clear ae ai af ak ah al am aB an aC aw aD cw cF cB cG cC cH
  rintro e w5 ⟨ng5,a5_,n5_,c5_,p5_,m5_,k5_,rfl,g5,cV⟩
  replace g2:=g2.to cV
  replace g3:=g3.to cV
  replace gb:=bS gb cV
  obtain ⟨⟨z0,ae,af,ah,ai,ak,al⟩,⟨z1,am,an,aw,aB,aC,aD⟩,⟨z6,cw,cB,cC,cF,cG,cH⟩⟩:=bX.out _ gb
  go_wp2_with fail
  refine bodyPost_ret (zm Tryz.results122 _ _ _ _ _ _ rfl (Tri.set (x0:=.bool false) (y0:=.slice none 0 0) (z0:=.slice none 0 0) ⟨am,an,aw,aB,aC,aD⟩ _ _ _)) rfl (zbB (bS zb gb) (by omega) ?_ g5)
  omega

end Go.Proofs.YtkjcdnlpjldhaaaGreat


namespace Go.Proofs.YtkjcdnlpjldhaaaGreat
open Go.RowKit Tw

structure Rt where
 ng:Bool
 n:List Nat
 d:List Nat

structure Ins where
 op:Int
 to:Int
 a:Int
 b:Int
 q:Rt

structure Cd where
 ins:Int
 rows:Int
 cols:Int
 regs:Int
 all:List Ins

def Rt.num (x:Rt):Rat:=rat x.ng (val x.n) (val x.d)

def zi (op:Int):Int:=if op=0\/op=1 then 0 else if (2<=op/\op<=5)\/op=8\/op=9 then 2 else if op=6\/op=7\/op=10 then 1 else -1

def zcd (x:Ins):Bool :=
 if x.op=1 then zdQ x.q.ng x.q.n x.q.d x.q.num && decide ((zbZ (val x.q.n)).length<=40) && decide ((zbZ (val x.q.d)).length<=40)
 else !x.q.ng && decide (x.q.n.length=0) && decide (x.q.d.length=0)

def aOk (c:Cd) (L:List Int) (x:Ins):Bool:=if x.op=0 then decide (0<=x.a/\x.a<c.ins) else if x.op=1 then decide (x.a=0) else decide (x.a ∈ L)

def bOk (L:List Int) (x:Ins):Bool:=if x.op=7 then decide (-21<=x.b/\x.b<=21) else if zi x.op=2 then decide (x.b ∈ L) else decide (x.b=0)

def zK (c:Cd) (x:Ins):Int:=if x.op=10 then c.rows*c.cols else c.regs

def zA (c:Cd) (L:List Int) (x:Ins):Bool:=decide (0<=zi x.op) && zcd x && aOk c L x && bOk L x && decide (0<=x.to/\x.to<zK c x)

def more (L:List Int) (x:Ins):List Int:=if x.op=10 then L else L++[x.to]

def zbN (c:Cd):List Int->List Ins->Bool
 | _,[] => true
 | L,x :: t => zA c L x && zbN c (more L x) t

def zda (c:Cd):Bool:=decide (1<=c.ins/\c.ins<=40/\1<=c.rows/\c.rows<=40/\c.cols=c.ins/\0<=c.regs/\c.regs<=100000/\c.all.length<=100000)

def zU (c:Cd):Bool:=zda c && zbN c [] c.all

def upd {α:Type} (f:Int->α) (i:Int) (v:α):Int->α:=fun j => if j=i then v else f j

theorem zcq {α:Type} (f:Int->α) (i:Int) (v:α):upd f i v i=v:=if_pos rfl

theorem zbM {α:Type} (f:Int->α) {i j:Int} (v:α) (h:j≠i):upd f i v j=f j:=if_neg h

def wOf (wt:Int->Int) (x:Ins):Int :=
 min ((fun n => if x.op=7 then n*max 1 (max x.b (-x.b)) else n) ((fun n => if zi x.op=2 then n+wt x.b else n) (if 1<=zi x.op then wt x.a else 1))) 1000000

def zdf:(Int->Int)->Int->List Ins->Int
 | _,m,[] => m
 | wt,m,x :: t => if x.op=10 then zdf wt m t else zdf (upd wt x.to (wOf wt x)) (max m (wOf wt x)) t

def zig (c:Cd):Int:=if zU c then zdf (fun _ => 0) 0 c.all else 0

def opE (R:Int->Rat) (x:Ins):Int :=
 if x.op=5 then (if R x.b=0 then 3 else 0)
 else if x.op=7 then (if R x.a=0/\x.b<0 then 3 else if 4096<szq (R x.a)*x.b.natAbs then 4 else 0) else 0

def opV (p:List Rat) (R:Int->Rat) (x:Ins):Rat :=
 if x.op=0 then p.getD x.a.toNat 0 else if x.op=1 then x.q.num else if x.op=2\/x.op=9 then R x.a+R x.b else if x.op=3 then R x.a - R x.b
 else if x.op=4\/x.op=8 then R x.a*R x.b else if x.op=5 then R x.a / R x.b else if x.op=6 then -R x.a
 else if x.op=7 then (if x.b<0 then (R x.a ^ x.b.natAbs)⁻¹ else R x.a ^ x.b.natAbs) else R x.a

def zau (p:List Rat) (R:Int->Rat) (x:Ins):Int:=if opE R x≠0 then opE R x else if x.op≠10/\4096<szq (opV p R x) then 4 else 0

structure St where
 R:Int->Rat
 J:Int->Rat
 k:Int
 t:Int

def St.next (p:List Rat) (s:St) (x:Ins):St :=
 if x.op=10 then { s with J:=upd s.J x.to (opV p s.R x),k:=s.k+1 } else { s with R:=upd s.R x.to (opV p s.R x),k:=s.k+1,t:=if x.op=8 then s.t+1 else s.t }

def St.zero:St:=⟨fun _ => 0,fun _ => 0,0,0⟩

def zaas (p:List Rat):St->List Ins->Int
 | _,[] => 0
 | s,x :: t => if zau p s.R x≠0 then zau p s.R x else zaas p (s.next p x) t

def zdy (p:List Rat):St->List Ins->St
 | s,[] => s
 | s,x :: t => zdy p (s.next p x) t

def zcy (S:Nat) (p:List Rat):St->List Ins->Prop
 | _,[] => True
 | s,x :: t => (opE s.R x=0->szq (opV p s.R x)<=S/\(x.op=7->szq (s.R x.a)*x.b.natAbs<S))/\(zau p s.R x=0->zcy S p (s.next p x) t)

theorem zbD (op:Int) (h:0<=zi op):op=0\/op=1\/op=2\/op=3\/op=4\/op=5\/op=6\/op=7\/op=8\/op=9\/op=10:=by
 unfold zi at h
 split at h
 ·omega
 ·split at h
  ·omega
  ·split at h
   ·omega
   ·omega

theorem zjR {op:Int} (h:¬ (0<=op/\op<=10)):zi op=-1:=by
 unfold zi
 rw [if_neg (by omega),if_neg (by omega),if_neg (by omega)]

theorem more_in {L:List Int} {x:Ins} {c:Cd} (h:∀ r ∈ L,0<=r/\r<c.regs) (hx:zA c L x=true):∀ r ∈ more L x,0<=r/\r<c.regs:=by
 intro r hr
 unfold more at hr
 split at hr
 ·exact h r hr
 ·rename_i ho
  rcases List.mem_append.1 hr with hr|hr
  ·exact h r hr
  ·rw [List.mem_singleton.1 hr]
   unfold zA zK at hx
   simp only [Bool.and_eq_true,decide_eq_true_eq] at hx
   have:=hx.2
   rw [if_neg ho] at this
   exact this

end Go.Proofs.YtkjcdnlpjldhaaaGreat


namespace Go.Proofs.YtkjcdnlpjldhaaaGreat
open Go.RowKit Tw

def cnt (n:Nat):List Nat:=if n<128 then [n] else (n % 128+128) :: cnt (n / 128)
termination_by n
decreasing_by omega

theorem zdd {n:Nat} (h:n<128):cnt n=[n]:=by rw [cnt,if_pos h]

theorem zeK {n:Nat} (h:¬ n<128):cnt n=(n % 128+128) :: cnt (n / 128):=by rw [cnt,if_neg h]

def zat (w:Nat):List Nat:=[w % 256,w / 256 % 256,w / 65536 % 256,w / 16777216]

def zaQ (l:List Nat):List Nat:=cnt l.length++l.flatMap zat

def bOf (x:Ins):Int:=if x.op=7 then x.b+64 else x.b

def zao (x:Ins):List Nat :=
 cnt x.op.toNat++(cnt x.to.toNat++(cnt x.a.toNat++(cnt (bOf x).toNat++(if x.op=1 then cnt (if x.q.ng then 1 else 0)++(zaQ x.q.n++zaQ x.q.d) else []))))

def zbm (c:Cd):List Nat :=
 cnt c.ins.toNat++(cnt c.rows.toNat++(cnt c.cols.toNat++(cnt c.regs.toNat++(cnt c.all.length++c.all.flatMap zao))))

abbrev Rdg (α:Type):=List Nat->Option (α × List Nat)

def rdC:Nat->Bool->Rdg Nat
 | 0,_,_ => none
 | _+1,_,[] => none
 | k+1,first,x :: t => if x<128 then (if x=0/\first=false then none else some (x,t)) else (rdC k false t).map fun y => (x % 128+128*y.1,y.2)

abbrev ze:Rdg Nat:=rdC 4 true

def rdW:Rdg Nat
 | a :: b :: c :: d :: t => some (a+256*b+65536*c+16777216*d,t)
 | _ => none

def zbT:Nat->Rdg (List Nat)
 | 0,l => some ([],l)
 | k+1,l => (rdW l).bind fun y => (zbT k y.2).map fun z => (y.1 :: z.1,z.2)

def rdN:Rdg (List Nat):=fun l => (ze l).bind fun y => zbT y.1 y.2

def rdQ:Rdg Rt:=fun l => (ze l).bind fun g => if 1<g.1 then none else (rdN g.2).bind fun n => (rdN n.2).map fun d => (⟨decide (g.1=1),n.1,d.1⟩,d.2)

def rdI:Rdg Ins:=fun l => (ze l).bind fun op => (ze op.2).bind fun to => (ze to.2).bind fun a => (ze a.2).bind fun b =>
 if op.1=1 then (rdQ b.2).map fun q => (⟨op.1,to.1,a.1,b.1,q.1⟩,q.2) else some (⟨op.1,to.1,a.1,if op.1=7 then (b.1:Int) - 64 else b.1,⟨false,[],[]⟩⟩,b.2)

def zbs:Nat->Rdg (List Ins)
 | 0,l => some ([],l)
 | k+1,l => (rdI l).bind fun y => (zbs k y.2).map fun z => (y.1 :: z.1,z.2)

def zbg:Rdg Cd:=fun l => (ze l).bind fun ins => (ze ins.2).bind fun rows => (ze rows.2).bind fun cols => (ze cols.2).bind fun regs => (ze regs.2).bind fun n =>
 (zbs n.1 n.2).map fun z => (⟨ins.1,rows.1,cols.1,regs.1,z.1⟩,z.2)

def zw (l:List Nat):Option Cd:=(zbg l).bind fun y => if y.2=[]/\zU y.1=true then some y.1 else none

def zx {α:Type} (f:Rdg α):Prop:=∀ l y s,f l=some y->f (l++s)=some (y.1,y.2++s)

theorem zah:∀ k b,zx (rdC k b)
 | 0,_,_,_,_,h => by cases h
 | k+1,b,[],_,_,h => by cases h
 | k+1,b,x :: t,y,s,h => by
  show rdC (k+1) b (x :: (t++s))=_
  unfold rdC at h ⊢
  by_cases h1:x<128
  ·rw [if_pos h1] at h ⊢
   by_cases h2:x=0/\b=false
   ·rw [if_pos h2] at h;cases h
   ·rw [if_neg h2] at h ⊢
    injection h with h
    rw [<- h]
  ·rw [if_neg h1] at h ⊢
   cases h3:rdC k false t with
   | none => rw [h3] at h;cases h
   | some z =>
    rw [h3] at h
    injection h with h
    rw [zah k false t z s h3,<- h]
    rfl

theorem zx.bind {α β:Type} {f:Rdg α} {g:α->Rdg β} (hf:zx f) (hg:∀ a,zx (g a)):zx (fun l => (f l).bind fun y => g y.1 y.2):=by
 intro l y s h
 cases h1:f l with
 | none => simp only [h1] at h;cases h
 | some z =>
  simp only [h1,Option.bind_some] at h
  show ((f (l++s)).bind fun y => g y.1 y.2)=_
  rw [hf l z s h1]
  exact hg z.1 z.2 y s h

theorem zx.map {α β:Type} {f:Rdg α} (g:α->β) (hf:zx f):zx (fun l => (f l).map fun y => (g y.1,y.2)):=by
 intro l y s h
 cases h1:f l with
 | none => simp only [h1] at h;cases h
 | some z =>
  simp only [h1,Option.map_some] at h
  injection h with h
  show ((f (l++s)).map fun y => (g y.1,y.2))=_
  rw [hf l z s h1,<- h]
  rfl

theorem zx.ite {α:Type} {p:Prop} [Decidable p] {f g:Rdg α} (hf:zx f) (hg:zx g):zx (fun l => if p then f l else g l):=by
 by_cases h:p
 ·simp only [if_pos h];exact hf
 ·simp only [if_neg h];exact hg

theorem zx.none {α:Type}:zx (fun _ => (none:Option (α × List Nat))):=fun _ _ _ h => by cases h

theorem zx.pure {α:Type} (a:α):zx (fun l => some (a,l)):=fun l y s h => by injection h with h;rw [<- h]

theorem zkd:zx rdW:=by
 intro l y s h
 match l,h with
 | a :: b :: c :: d :: t,h => injection h with h;rw [<- h];rfl

theorem zfb:∀ k,zx (zbT k)
 | 0 => zx.pure []
 | k+1 => zx.bind (α:=Nat) (β:=List Nat) (g:=fun y l => (zbT k l).map fun (z:List Nat × List Nat) => (y :: z.1,z.2)) zkd fun y => zx.map (fun z => y :: z) (zfb k)

theorem zfO:zx rdN:=zx.bind (g:=zbT) (zah _ _) zfb

theorem zkb:zx rdQ :=
 zx.bind (α:=Nat) (β:=Rt) (g:=fun g l => if 1<g then Option.none else (rdN l).bind fun (n:List Nat × List Nat) => (rdN n.2).map fun (d:List Nat × List Nat) => ((⟨decide (g=1),n.1,d.1⟩:Rt),d.2)) (zah _ _) fun g => zx.ite zx.none
  (zx.bind (α:=List Nat) (β:=Rt) (g:=fun n l => (rdN l).map fun (d:List Nat × List Nat) => ((⟨decide (g=1),n,d.1⟩:Rt),d.2)) zfO fun n => zx.map (fun d => (⟨decide (g=1),n,d⟩:Rt)) zfO)

theorem zjZ:zx rdI :=
 zx.bind (g:=fun op l => (ze l).bind fun to => (ze to.2).bind fun a => (ze a.2).bind fun b => if op=1 then (rdQ b.2).map fun q => ((⟨(op:Nat),(to.1:Nat),(a.1:Nat),(b.1:Nat),q.1⟩:Ins),q.2) else some ((⟨(op:Nat),(to.1:Nat),(a.1:Nat),if op=7 then (b.1:Int) - 64 else (b.1:Nat),⟨false,[],[]⟩⟩:Ins),b.2)) (zah _ _) fun op =>
 zx.bind (g:=fun to l => (ze l).bind fun a => (ze a.2).bind fun b => if op=1 then (rdQ b.2).map fun q => ((⟨(op:Nat),(to:Nat),(a.1:Nat),(b.1:Nat),q.1⟩:Ins),q.2) else some ((⟨(op:Nat),(to:Nat),(a.1:Nat),if op=7 then (b.1:Int) - 64 else (b.1:Nat),⟨false,[],[]⟩⟩:Ins),b.2)) (zah _ _) fun to =>
 zx.bind (g:=fun a l => (ze l).bind fun b => if op=1 then (rdQ b.2).map fun q => ((⟨(op:Nat),(to:Nat),(a:Nat),(b.1:Nat),q.1⟩:Ins),q.2) else some ((⟨(op:Nat),(to:Nat),(a:Nat),if op=7 then (b.1:Int) - 64 else (b.1:Nat),⟨false,[],[]⟩⟩:Ins),b.2)) (zah _ _) fun a =>
 zx.bind (g:=fun b l => if op=1 then (rdQ l).map fun q => ((⟨(op:Nat),(to:Nat),(a:Nat),(b:Nat),q.1⟩:Ins),q.2) else some ((⟨(op:Nat),(to:Nat),(a:Nat),if op=7 then (b:Int) - 64 else (b:Nat),⟨false,[],[]⟩⟩:Ins),l)) (zah _ _) fun b =>
 zx.ite (zx.map (fun q => (⟨(op:Nat),(to:Nat),(a:Nat),(b:Nat),q⟩:Ins)) zkb) (zx.pure _)

theorem zeX:∀ k,zx (zbs k)
 | 0 => zx.pure []
 | k+1 => zx.bind (α:=Ins) (β:=List Ins) (g:=fun y l => (zbs k l).map fun (z:List Ins × List Nat) => (y :: z.1,z.2)) zjZ fun y => zx.map (fun z => y :: z) (zeX k)

theorem zht:zx zbg :=
 zx.bind (α:=Nat) (β:=Cd) (g:=fun ins l => (ze l).bind fun rows => (ze rows.2).bind fun cols => (ze cols.2).bind fun regs => (ze regs.2).bind fun n => (zbs n.1 n.2).map fun (z:List Ins × List Nat) => ((⟨(ins:Nat),(rows.1:Nat),(cols.1:Nat),(regs.1:Nat),z.1⟩:Cd),z.2)) (zah _ _) fun ins =>
 zx.bind (α:=Nat) (β:=Cd) (g:=fun rows l => (ze l).bind fun cols => (ze cols.2).bind fun regs => (ze regs.2).bind fun n => (zbs n.1 n.2).map fun (z:List Ins × List Nat) => ((⟨(ins:Nat),(rows:Nat),(cols.1:Nat),(regs.1:Nat),z.1⟩:Cd),z.2)) (zah _ _) fun rows =>
 zx.bind (α:=Nat) (β:=Cd) (g:=fun cols l => (ze l).bind fun regs => (ze regs.2).bind fun n => (zbs n.1 n.2).map fun (z:List Ins × List Nat) => ((⟨(ins:Nat),(rows:Nat),(cols:Nat),(regs.1:Nat),z.1⟩:Cd),z.2)) (zah _ _) fun cols =>
 zx.bind (α:=Nat) (β:=Cd) (g:=fun regs l => (ze l).bind fun n => (zbs n.1 n.2).map fun (z:List Ins × List Nat) => ((⟨(ins:Nat),(rows:Nat),(cols:Nat),(regs:Nat),z.1⟩:Cd),z.2)) (zah _ _) fun regs =>
 zx.bind (α:=Nat) (β:=Cd) (g:=fun n l => (zbs n l).map fun (z:List Ins × List Nat) => ((⟨(ins:Nat),(rows:Nat),(cols:Nat),(regs:Nat),z.1⟩:Cd),z.2)) (zah _ _) fun n =>
 zx.map (fun z => (⟨(ins:Nat),(rows:Nat),(cols:Nat),(regs:Nat),z⟩:Cd)) (zeX n)

theorem zjh:∀ (k n:Nat) (b:Bool) (t:List Nat),n<128 ^ (k+1)->(b=false->0<n)->rdC (k+1) b (cnt n++t)=some (n,t)
 | k,n,b,t,h,hb => by
  by_cases h1:n<128
  ·rw [zdd h1]
   show rdC (k+1) b (n :: t)=_
   unfold rdC
   rw [if_pos h1,if_neg (fun e => by have:=hb e.2;omega)]
  ·cases k with
   | zero => exact absurd h h1
   | succ k =>
    rw [zeK h1]
    show rdC (k+1+1) b ((n % 128+128) :: (cnt (n / 128)++t))=_
    unfold rdC
    have h2:n / 128<128 ^ (k+1):=by rw [Nat.pow_succ] at h;exact Nat.div_lt_of_lt_mul (by rw [Nat.mul_comm];exact h)
    rw [if_neg (by omega),zjh k (n / 128) false t h2 (fun _ => by omega)]
    show some (_,t)=_
    congr 2
    show (n % 128+128) % 128+128*(n / 128)=n
    omega

theorem zQ {n:Nat} (h:n<268435456) (t:List Nat):ze (cnt n++t)=some (n,t):=zjh 3 n true t h (fun e => by cases e)

theorem zhv:∀ (k:Nat) (b:Bool) (l:List Nat) (y:Nat × List Nat),(∀ x ∈ l,x<256)->rdC k b l=some y->l=cnt y.1++y.2/\y.1<128 ^ k/\(b=false->0<y.1)
 | 0,_,_,_,_,h => by cases h
 | k+1,b,[],_,_,h => by cases h
 | k+1,b,x :: t,y,hl,h => by
  unfold rdC at h
  by_cases h1:x<128
  ·rw [if_pos h1] at h
   by_cases h2:x=0/\b=false
   ·rw [if_pos h2] at h;cases h
   ·rw [if_neg h2] at h
    injection h with h
    subst h
    refine ⟨by rw [zdd h1];rfl,?_,fun e => ?_⟩
    ·have:128 ^ 1<=128 ^ (k+1):=Nat.pow_le_pow_right (by decide) (by omega)
     simp only at this ⊢
     omega
    ·rcases Nat.eq_zero_or_pos x with e0|e0
     ·exact absurd ⟨e0,e⟩ h2
     ·exact e0
  ·rw [if_neg h1] at h
   cases h3:rdC k false t with
   | none => rw [h3] at h;cases h
   | some z =>
    rw [h3] at h
    injection h with h
    obtain ⟨e1,e2,e3⟩:=zhv k false t z (fun x hx => hl x (List.mem_cons_of_mem _ hx)) h3
    have hx:=hl x (List.mem_cons_self ..)
    have hz:=e3 rfl
    subst h
    refine ⟨?_,?_,fun _ => by show 0<x % 128+128*z.1;omega⟩
    ·show x :: t=cnt (x % 128+128*z.1)++z.2
     rw [zeK (by omega),show (x % 128+128*z.1) % 128+128=x by omega,show (x % 128+128*z.1) / 128=z.1 by omega,List.cons_append,<- e1]
    ·show x % 128+128*z.1<128 ^ (k+1)
     rw [Nat.pow_succ]
     omega

theorem zI {l:List Nat} {y:Nat × List Nat} (hl:∀ x ∈ l,x<256) (h:ze l=some y):l=cnt y.1++y.2/\y.1<268435456/\∀ x ∈ y.2,x<256:=by
 obtain ⟨e1,e2,_⟩:=zhv 4 true l y hl h
 exact ⟨e1,e2,fun x hx => hl x (by rw [e1];exact List.mem_append_right _ hx)⟩

theorem zke {w:Nat} (h:w<4294967296) (t:List Nat):rdW (zat w++t)=some (w,t):=by
 show some (w % 256+256*(w / 256 % 256)+65536*(w / 65536 % 256)+16777216*(w / 16777216),t)=_
 congr 2
 omega

theorem rdW_form {l:List Nat} {y:Nat × List Nat} (hl:∀ x ∈ l,x<256) (h:rdW l=some y):l=zat y.1++y.2/\y.1<4294967296/\∀ x ∈ y.2,x<256:=by
 match l,h,hl with
 | a :: b :: c :: d :: t,h,hl =>
  injection h with h
  subst h
  have ha:=hl a (by simp)
  have hb:=hl b (by simp)
  have hc:=hl c (by simp)
  have hd:=hl d (by simp)
  refine ⟨?_,by simp only;omega,fun x hx => hl x (by simp only at hx;simp [hx])⟩
  show a :: b :: c :: d :: t=[_,_,_,_]++t
  simp only [List.cons_append,List.nil_append,List.cons.injEq,and_true]
  omega

theorem zfc:∀ (l t:List Nat),(∀ w ∈ l,w<4294967296)->zbT l.length (l.flatMap zat++t)=some (l,t)
 | [],t,_ => rfl
 | w :: l,t,h => by
  show (rdW ((zat w++l.flatMap zat)++t)).bind _=_
  rw [List.append_assoc,zke (h w (List.mem_cons_self ..))]
  show (zbT l.length (l.flatMap zat++t)).map _=_
  rw [zfc l t (fun x hx => h x (List.mem_cons_of_mem _ hx))]
  rfl

theorem zfQ:∀ (k:Nat) (l:List Nat) (y:List Nat × List Nat),(∀ x ∈ l,x<256)->zbT k l=some y->l=y.1.flatMap zat++y.2/\y.1.length=k/\(∀ w ∈ y.1,w<4294967296)/\∀ x ∈ y.2,x<256
 | 0,l,y,hl,h => by
  injection h with h
  subst h
  exact ⟨rfl,rfl,(fun w hw => by cases hw),hl⟩
 | k+1,l,y,hl,h => by
  unfold zbT at h
  cases h1:rdW l with
  | none => rw [h1] at h;cases h
  | some a =>
   rw [h1] at h
   simp only [Option.bind_some] at h
   cases h2:zbT k a.2 with
   | none => rw [h2] at h;cases h
   | some z =>
    rw [h2] at h
    injection h with h
    subst h
    obtain ⟨e1,e2,e3⟩:=rdW_form hl h1
    obtain ⟨f1,f2,f3,f4⟩:=zfQ k a.2 z e3 h2
    refine ⟨?_,by simp [f2],fun w hw => ?_,f4⟩
    ·rw [e1]
     conv => lhs;rw [f1]
     simp [List.append_assoc]
    ·rcases List.mem_cons.1 hw with hw|hw
     ·rw [hw];exact e2
     ·exact f3 w hw

def zcB (l:List Nat):Prop:=l.length<268435456/\∀ w ∈ l,w<4294967296

theorem zfP {l:List Nat} (h:zcB l) (t:List Nat):rdN (zaQ l++t)=some (l,t):=by
 unfold rdN zaQ
 rw [List.append_assoc,zQ h.1]
 exact zfc l t h.2

theorem zhw {l:List Nat} {y:List Nat × List Nat} (hl:∀ x ∈ l,x<256) (h:rdN l=some y):l=zaQ y.1++y.2/\zcB y.1/\∀ x ∈ y.2,x<256:=by
 unfold rdN at h
 cases h1:ze l with
 | none => rw [h1] at h;cases h
 | some a =>
  rw [h1] at h
  simp only [Option.bind_some] at h
  obtain ⟨e1,e2,e3⟩:=zI hl h1
  obtain ⟨f1,f2,f3,f4⟩:=zfQ a.1 a.2 y e3 h
  refine ⟨?_,⟨by omega,f3⟩,f4⟩
  unfold zaQ
  rw [List.append_assoc,f2,<- f1]
  exact e1

theorem zkc {q:Rt} (h1:zcB q.n) (h2:zcB q.d) (t:List Nat):rdQ (cnt (if q.ng then 1 else 0)++(zaQ q.n++zaQ q.d)++t)=some (q,t):=by
 obtain ⟨ng,n,d⟩:=q
 unfold rdQ
 rw [List.append_assoc,List.append_assoc,zQ (by split <;> decide)]
 simp only [Option.bind_some]
 rw [if_neg (by split <;> decide),zfP h1]
 simp only [Option.bind_some]
 rw [zfP h2]
 cases ng <;> rfl

theorem rdQ_form {l:List Nat} {y:Rt × List Nat} (hl:∀ x ∈ l,x<256) (h:rdQ l=some y):l=cnt (if y.1.ng then 1 else 0)++(zaQ y.1.n++zaQ y.1.d)++y.2/\zcB y.1.n/\zcB y.1.d/\∀ x ∈ y.2,x<256:=by
 unfold rdQ at h
 cases h1:ze l with
 | none => rw [h1] at h;cases h
 | some g =>
  rw [h1] at h
  simp only [Option.bind_some] at h
  by_cases hg:1<g.1
  ·rw [if_pos hg] at h;cases h
  ·rw [if_neg hg] at h
   cases h2:rdN g.2 with
   | none => rw [h2] at h;cases h
   | some n =>
    rw [h2] at h
    simp only [Option.bind_some] at h
    cases h3:rdN n.2 with
    | none => rw [h3] at h;cases h
    | some d =>
     rw [h3] at h
     injection h with h
     subst h
     obtain ⟨e1,e2,e3⟩:=zI hl h1
     obtain ⟨f1,f2,f3⟩:=zhw e3 h2
     obtain ⟨g1,g2,g3⟩:=zhw f3 h3
     refine ⟨?_,f2,g2,g3⟩
     have hgg:(if decide (g.1=1)=true then 1 else 0)=g.1:=by
      by_cases k:g.1=1
      ·rw [if_pos (decide_eq_true k),k]
      ·rw [if_neg (by simpa using k)];omega
     simp only
     rw [hgg,List.append_assoc,List.append_assoc,<- g1,<- f1,<- e1]

def Wire (x:Ins):Prop:=(0<=x.op/\x.op<268435456)/\(0<=x.to/\x.to<268435456)/\(0<=x.a/\x.a<268435456)/\(0<=bOf x/\bOf x<268435456)/\zcB x.q.n/\zcB x.q.d/\(x.op≠1->x.q=⟨false,[],[]⟩)

theorem zka {x:Ins} (h:Wire x) (t:List Nat):rdI (zao x++t)=some (x,t):=by
 obtain ⟨op,to,a,b,q⟩:=x
 obtain ⟨⟨h0,h0'⟩,⟨h1,h1'⟩,⟨h2,h2'⟩,⟨h3,h3'⟩,h4,h5,h6⟩:=h
 simp only at h0 h0' h1 h1' h2 h2' h4 h5 h6
 obtain ⟨op,rfl⟩:=Int.eq_ofNat_of_zero_le h0
 obtain ⟨to,rfl⟩:=Int.eq_ofNat_of_zero_le h1
 obtain ⟨a,rfl⟩:=Int.eq_ofNat_of_zero_le h2
 obtain ⟨bb,hb⟩:=Int.eq_ofNat_of_zero_le h3
 unfold rdI zao
 simp only [hb,Int.toNat_natCast]
 rw [List.append_assoc,List.append_assoc,List.append_assoc,List.append_assoc,zQ (by omega)]
 simp only [Option.bind_some]
 rw [zQ (by omega)]
 simp only [Option.bind_some]
 rw [zQ (by omega)]
 simp only [Option.bind_some]
 rw [zQ (by omega)]
 simp only [Option.bind_some]
 unfold bOf at hb
 simp only at hb
 by_cases e:op=1
 ·subst e
  have hb':b=bb:=by rw [if_neg (by decide)] at hb;exact hb
  rw [if_pos rfl,if_pos (show ((1:Nat):Int)=1 from rfl),zkc h4 h5,hb']
  rfl
 ·have e':¬ ((op:Int)=1):=by omega
  rw [if_neg e,if_neg e',h6 e',List.nil_append]
  by_cases e7:op=7
  ·subst e7
   rw [if_pos (by rfl)] at hb
   rw [if_pos rfl]
   congr 3
   omega
  ·rw [if_neg (by omega)] at hb
   rw [if_neg e7,hb]

theorem rdI_form {l:List Nat} {y:Ins × List Nat} (hl:∀ x ∈ l,x<256) (h:rdI l=some y):l=zao y.1++y.2/\Wire y.1/\∀ x ∈ y.2,x<256:=by
 unfold rdI at h
 cases h1:ze l with
 | none => rw [h1] at h;cases h
 | some op =>
  rw [h1] at h
  simp only [Option.bind_some] at h
  cases h2:ze op.2 with
  | none => rw [h2] at h;cases h
  | some to =>
   rw [h2] at h
   simp only [Option.bind_some] at h
   cases h3:ze to.2 with
   | none => rw [h3] at h;cases h
   | some a =>
    rw [h3] at h
    simp only [Option.bind_some] at h
    cases h4:ze a.2 with
    | none => rw [h4] at h;cases h
    | some b =>
     rw [h4] at h
     simp only [Option.bind_some] at h
     obtain ⟨d1,d2,d3⟩:=zI hl h1
     obtain ⟨e1,e2,e3⟩:=zI d3 h2
     obtain ⟨f1,f2,f3⟩:=zI e3 h3
     obtain ⟨g1,g2,g3⟩:=zI f3 h4
     by_cases k:op.1=1
     ·rw [if_pos k] at h
      cases h5:rdQ b.2 with
      | none => rw [h5] at h;cases h
      | some q =>
       rw [h5] at h
       injection h with h
       obtain ⟨k1,k2,k3,k4⟩:=rdQ_form g3 h5
       have hbO:bOf ⟨(op.1:Int),to.1,a.1,b.1,q.1⟩=(b.1:Int):=if_neg (by show ¬ ((op.1:Int)=7);omega)
       subst h
       refine ⟨?_,⟨by simp only;omega,by simp only;omega,by simp only;omega,by rw [hbO];omega,k2,k3,fun e => absurd (show (op.1:Int)=1 by omega) e⟩,k4⟩
       unfold zao
       simp only [hbO,Int.toNat_natCast]
       rw [if_pos (show (op.1:Int)=1 by omega),List.append_assoc,List.append_assoc,List.append_assoc,List.append_assoc,<- k1,<- g1,<- f1,<- e1,<- d1]
     ·rw [if_neg k] at h
      injection h with h
      have hbO:bOf ⟨(op.1:Int),to.1,a.1,if op.1=7 then (b.1:Int) - 64 else b.1,⟨false,[],[]⟩⟩=(b.1:Int):=by
       unfold bOf
       by_cases e7:op.1=7
       ·simp only [e7,if_true]
        rw [if_pos (by rfl)]
        omega
       ·simp only [e7,if_false]
        rw [if_neg (by omega)]
      subst h
      refine ⟨?_,⟨by simp only;omega,by simp only;omega,by simp only;omega,by rw [hbO];omega,⟨show 0<268435456 by decide,fun w hw => by cases hw⟩,⟨show 0<268435456 by decide,fun w hw => by cases hw⟩,fun e => rfl⟩,g3⟩
      unfold zao
      simp only [hbO,Int.toNat_natCast]
      rw [if_neg (show ¬ (op.1:Int)=1 by omega),List.append_assoc,List.append_assoc,List.append_assoc,List.append_assoc,List.nil_append,<- g1,<- f1,<- e1,<- d1]

theorem zeY:∀ (l:List Ins) (t:List Nat),(∀ x ∈ l,Wire x)->zbs l.length (l.flatMap zao++t)=some (l,t)
 | [],t,_ => rfl
 | w :: l,t,h => by
  show (rdI ((zao w++l.flatMap zao)++t)).bind _=_
  rw [List.append_assoc,zka (h w (List.mem_cons_self ..))]
  show (zbs l.length (l.flatMap zao++t)).map _=_
  rw [zeY l t (fun x hx => h x (List.mem_cons_of_mem _ hx))]
  rfl

theorem zfN:∀ (k:Nat) (l:List Nat) (y:List Ins × List Nat),(∀ x ∈ l,x<256)->zbs k l=some y->l=y.1.flatMap zao++y.2/\y.1.length=k/\(∀ w ∈ y.1,Wire w)/\∀ x ∈ y.2,x<256
 | 0,l,y,hl,h => by
  injection h with h
  subst h
  exact ⟨rfl,rfl,(fun w hw => by cases hw),hl⟩
 | k+1,l,y,hl,h => by
  unfold zbs at h
  cases h1:rdI l with
  | none => rw [h1] at h;cases h
  | some a =>
   rw [h1] at h
   simp only [Option.bind_some] at h
   cases h2:zbs k a.2 with
   | none => rw [h2] at h;cases h
   | some z =>
    rw [h2] at h
    injection h with h
    subst h
    obtain ⟨e1,e2,e3⟩:=rdI_form hl h1
    obtain ⟨f1,f2,f3,f4⟩:=zfN k a.2 z e3 h2
    refine ⟨?_,by simp [f2],fun w hw => ?_,f4⟩
    ·rw [e1]
     conv => lhs;rw [f1]
     simp [List.append_assoc]
    ·rcases List.mem_cons.1 hw with hw|hw
     ·rw [hw];exact e2
     ·exact f3 w hw

def zfC (c:Cd):Prop:=(0<=c.ins/\c.ins<268435456)/\(0<=c.rows/\c.rows<268435456)/\(0<=c.cols/\c.cols<268435456)/\(0<=c.regs/\c.regs<268435456)/\c.all.length<268435456/\∀ x ∈ c.all,Wire x

theorem zhu {c:Cd} (h:zfC c) (t:List Nat):zbg (zbm c++t)=some (c,t):=by
 obtain ⟨ins,rows,cols,regs,all⟩:=c
 obtain ⟨⟨h0,h0'⟩,⟨h1,h1'⟩,⟨h2,h2'⟩,⟨h3,h3'⟩,h4,h5⟩:=h
 simp only at h0 h0' h1 h1' h2 h2' h3 h3' h4 h5
 obtain ⟨ins,rfl⟩:=Int.eq_ofNat_of_zero_le h0
 obtain ⟨rows,rfl⟩:=Int.eq_ofNat_of_zero_le h1
 obtain ⟨cols,rfl⟩:=Int.eq_ofNat_of_zero_le h2
 obtain ⟨regs,rfl⟩:=Int.eq_ofNat_of_zero_le h3
 unfold zbg zbm
 simp only [Int.toNat_natCast]
 rw [List.append_assoc,List.append_assoc,List.append_assoc,List.append_assoc,List.append_assoc,zQ (by omega)]
 simp only [Option.bind_some]
 rw [zQ (by omega)]
 simp only [Option.bind_some]
 rw [zQ (by omega)]
 simp only [Option.bind_some]
 rw [zQ (by omega)]
 simp only [Option.bind_some]
 rw [zQ h4]
 simp only [Option.bind_some]
 rw [zeY all t h5]
 rfl

theorem ziv {l:List Nat} {y:Cd × List Nat} (hl:∀ x ∈ l,x<256) (h:zbg l=some y):l=zbm y.1++y.2/\zfC y.1:=by
 unfold zbg at h
 cases h1:ze l with
 | none => rw [h1] at h;cases h
 | some ins =>
  rw [h1] at h
  simp only [Option.bind_some] at h
  cases h2:ze ins.2 with
  | none => rw [h2] at h;cases h
  | some rows =>
   rw [h2] at h
   simp only [Option.bind_some] at h
   cases h3:ze rows.2 with
   | none => rw [h3] at h;cases h
   | some cols =>
    rw [h3] at h
    simp only [Option.bind_some] at h
    cases h4:ze cols.2 with
    | none => rw [h4] at h;cases h
    | some regs =>
     rw [h4] at h
     simp only [Option.bind_some] at h
     cases h5:ze regs.2 with
     | none => rw [h5] at h;cases h
     | some n =>
      rw [h5] at h
      simp only [Option.bind_some] at h
      cases h6:zbs n.1 n.2 with
      | none => rw [h6] at h;cases h
      | some z =>
       rw [h6] at h
       injection h with h
       subst h
       obtain ⟨d1,d2,d3⟩:=zI hl h1
       obtain ⟨e1,e2,e3⟩:=zI d3 h2
       obtain ⟨f1,f2,f3⟩:=zI e3 h3
       obtain ⟨g1,g2,g3⟩:=zI f3 h4
       obtain ⟨i1,i2,i3⟩:=zI g3 h5
       obtain ⟨k1,k2,k3,k4⟩:=zfN n.1 n.2 z i3 h6
       refine ⟨?_,by simp only;omega,by simp only;omega,by simp only;omega,by simp only;omega,by simp only;omega,k3⟩
       unfold zbm
       simp only [Int.toNat_natCast]
       rw [k2,List.append_assoc,List.append_assoc,List.append_assoc,List.append_assoc,List.append_assoc,<- k1,<- i1,<- g1,<- f1,<- e1,<- d1]

theorem zgf {c:Cd} (h:zfC c) (hr:zU c=true):zw (zbm c)=some c:=by
 unfold zw
 have:=zhu h []
 rw [List.append_nil] at this
 rw [this]
 exact if_pos ⟨rfl,hr⟩

theorem zdZ {l:List Nat} {c:Cd} (hl:∀ x ∈ l,x<256) (h:zw l=some c):l=zbm c/\zfC c/\zU c=true:=by
 unfold zw at h
 cases h1:zbg l with
 | none => rw [h1] at h;cases h
 | some y =>
  rw [h1] at h
  simp only [Option.bind_some] at h
  by_cases k:y.2=[]/\zU y.1=true
  ·rw [if_pos k] at h
   injection h with h
   subst h
   obtain ⟨e1,e2⟩:=ziv hl h1
   rw [k.1,List.append_nil] at e1
   exact ⟨e1,e2,k.2⟩
  ·rw [if_neg k] at h;cases h

theorem zdo {l s:List Nat} (hs:s≠[]) (h:(zw l).isSome=true):zw (l++s)=none:=by
 unfold zw at h ⊢
 cases h1:zbg l with
 | none => rw [h1] at h;cases h
 | some y =>
  rw [h1] at h
  simp only [Option.bind_some] at h
  by_cases k:y.2=[]/\zU y.1=true
  ·rw [zht l y s h1]
   simp only [Option.bind_some]
   rw [if_neg (fun e => ?_)]
   have:=e.1
   rw [k.1,List.nil_append] at this
   exact hs this
  ·rw [if_neg k] at h;cases h

theorem zhX {l s:List Nat} (hs:s≠[]) (h:(zw (l++s)).isSome=true):zw l=none:=by
 cases h1:zw l with
 | none => rfl
 | some c =>
  have:=zdo (l:=l) hs (by rw [h1];rfl)
  rw [this] at h
  cases h

end Go.Proofs.YtkjcdnlpjldhaaaGreat


namespace Go.Proofs.YtkjcdnlpjldhaaaGreat
open Go.RowKit Tw

def I64 (z:Int):Prop:=-9223372036854775808<=z/\z<9223372036854775808

def At3 (w:World) (b o:Nat) (x:Rt):Prop :=
 ∃ vn vd,w.cell? ⟨b,o,none⟩=some (.bool x.ng)/\w.cell? ⟨b,o+1,none⟩=some vn/\w.cell? ⟨b,o+2,none⟩=some vd/\Rd w vn x.n/\Rd w vd x.d

def At7 (w:World) (b o:Nat) (x:Ins):Prop :=
 w.cell? ⟨b,o,none⟩=some (.int .i64 x.op)/\w.cell? ⟨b,o+1,none⟩=some (.int .i64 x.to)/\w.cell? ⟨b,o+2,none⟩=some (.int .i64 x.a)/\w.cell? ⟨b,o+3,none⟩=some (.int .i64 x.b) /\
  At3 w b (o+4) x.q/\I64 x.op/\I64 x.to/\I64 x.a/\I64 x.b

theorem At3.to {w w':World} {b o:Nat} {x:Rt} (h:At3 w b o x) (hb:Below w.heap.size w w'):At3 w' b o x:=by
 obtain ⟨vn,vd,h0,h1,h2,hn,hd⟩:=h
 have hl:=zj h0
 exact ⟨vn,vd,(hb.cell (p:=⟨b,o,none⟩) hl).trans h0,(hb.cell (p:=⟨b,o+1,none⟩) hl).trans h1,(hb.cell (p:=⟨b,o+2,none⟩) hl).trans h2,hn.to hb,hd.to hb⟩

theorem At7.to {w w':World} {b o:Nat} {x:Ins} (h:At7 w b o x) (hb:Below w.heap.size w w'):At7 w' b o x:=by
 obtain ⟨h0,h1,h2,h3,h4,h5⟩:=h
 have hl:=zj h0
 exact ⟨(hb.cell (p:=⟨b,o,none⟩) hl).trans h0,(hb.cell (p:=⟨b,o+1,none⟩) hl).trans h1,(hb.cell (p:=⟨b,o+2,none⟩) hl).trans h2,(hb.cell (p:=⟨b,o+3,none⟩) hl).trans h3,h4.to hb,h5⟩

def RdC (w:World) (v:Value) (l:List Ins):Prop :=
 ∃ a cap,v=.slice a l.length cap/\l.length<=cap/\cap<=maxLen/\∀ i (h:i<l.length),∃ b off,a=some ⟨b,off,none⟩/\At7 w b (off+i*7) l[i]

def RdR (w:World) (v:Value) (l:List Rt):Prop :=
 ∃ a cap,v=.slice a l.length cap/\l.length<=cap/\cap<=maxLen/\∀ i (h:i<l.length),∃ b off,a=some ⟨b,off,none⟩/\At3 w b (off+i*3) l[i]

theorem RdC.to {w w':World} {v:Value} {l:List Ins} (h:RdC w v l) (hb:Below w.heap.size w w'):RdC w' v l:=by
 obtain ⟨a,cap,hv,h1,h2,h3⟩:=h
 exact ⟨a,cap,hv,h1,h2,fun i hi => let ⟨b,off,e,k⟩:=h3 i hi;⟨b,off,e,k.to hb⟩⟩

theorem RdR.to {w w':World} {v:Value} {l:List Rt} (h:RdR w v l) (hb:Below w.heap.size w w'):RdR w' v l:=by
 obtain ⟨a,cap,hv,h1,h2,h3⟩:=h
 exact ⟨a,cap,hv,h1,h2,fun i hi => let ⟨b,off,e,k⟩:=h3 i hi;⟨b,off,e,k.to hb⟩⟩

theorem RdC.drew {w:World} {v:Value} {l:List Ins} (h:RdC w v l):RdC w.drew v l:=h.to (Below.refl _ _).drew

theorem RdR.drew {w:World} {v:Value} {l:List Rt} (h:RdR w v l):RdR w.drew v l:=h.to (Below.refl _ _).drew

theorem RdC.open {w:World} {v:Value} {l:List Ins} (h:RdC w v l):∃ a n cap,v=.slice a n cap/\Hid (l.length=n)/\n<=maxLen:=by
 obtain ⟨a,cap,hv,h1,h2,_⟩:=h
 exact ⟨a,_,cap,hv,rfl,by omega⟩

theorem RdR.open {w:World} {v:Value} {l:List Rt} (h:RdR w v l):∃ a n cap,v=.slice a n cap/\Hid (l.length=n)/\n<=maxLen:=by
 obtain ⟨a,cap,hv,h1,h2,_⟩:=h
 exact ⟨a,_,cap,hv,rfl,by omega⟩

theorem RdC.nth {w:World} {a:Option Addr} {n cap:Nat} {l:List Ins} (h:RdC w (.slice a n cap) l) {i:Nat} (hi:i<l.length):∃ b off,a=some ⟨b,off,none⟩/\At7 w b (off+i*7) l[i]:=by
 obtain ⟨a',cap',hv,_,_,h3⟩:=h
 injection hv with e1 e2 e3
 subst e1
 exact h3 i hi

theorem RdR.nth {w:World} {a:Option Addr} {n cap:Nat} {l:List Rt} (h:RdR w (.slice a n cap) l) {i:Nat} (hi:i<l.length):∃ b off,a=some ⟨b,off,none⟩/\At3 w b (off+i*3) l[i]:=by
 obtain ⟨a',cap',hv,_,_,h3⟩:=h
 injection hv with e1 e2 e3
 subst e1
 exact h3 i hi

theorem At3.isQ {w:World} {b o:Nat} {x:Rt} (h:At3 w b o x) (h1:x.n.length<=1000) (h2:x.d.length<=1000) :
  ∃ vn vd,w.cell? ⟨b,o,none⟩=some (.bool x.ng)/\w.cell? ⟨b,o+1,none⟩=some vn/\w.cell? ⟨b,o+2,none⟩=some vd/\IsQ w x.ng vn vd x.n x.d x.num:=by
 obtain ⟨vn,vd,h0,h1',h2',hn,hd⟩:=h
 exact ⟨vn,vd,h0,h1',h2',hn,hd,rfl,h1,h2⟩

abbrev aggC (c:Cd) (v:Value):Value:=.agg #[.int .i64 c.ins,.int .i64 c.rows,.int .i64 c.cols,.int .i64 c.regs,v]

def IsC (w:World) (c:Cd) (v:Value):Prop:=RdC w v c.all/\I64 c.ins/\I64 c.rows/\I64 c.cols/\I64 c.regs

theorem IsC.to {w w':World} {c:Cd} {v:Value} (h:IsC w c v) (hb:Below w.heap.size w w'):IsC w' c v:=⟨h.1.to hb,h.2⟩

def IsX (w:World) (x:Ins) (vn vd:Value):Prop:=IsQ w x.q.ng vn vd x.q.n x.q.d x.q.num/\I64 x.op/\I64 x.to/\I64 x.a/\I64 x.b

theorem IsX.to {w w':World} {x:Ins} {vn vd:Value} (h:IsX w x vn vd) (hb:Below w.heap.size w w'):IsX w' x vn vd:=⟨h.1.to hb,h.2⟩

theorem IsX.drew {w:World} {x:Ins} {vn vd:Value} (h:IsX w x vn vd):IsX w.drew x vn vd:=⟨h.1.drew,h.2⟩

theorem IsC.drew {w:World} {c:Cd} {v:Value} (h:IsC w c v):IsC w.drew c v:=⟨h.1.drew,h.2⟩

theorem At7.isX {w:World} {b o:Nat} {x:Ins} (h:At7 w b o x) (h1:x.q.n.length<=1000) (h2:x.q.d.length<=1000) :
  ∃ vn vd,w.cell? ⟨b,o,none⟩=some (.int .i64 x.op)/\w.cell? ⟨b,o+1,none⟩=some (.int .i64 x.to)/\w.cell? ⟨b,o+2,none⟩=some (.int .i64 x.a)/\w.cell? ⟨b,o+3,none⟩=some (.int .i64 x.b) /\
   w.cell? ⟨b,o+4,none⟩=some (.bool x.q.ng)/\w.cell? ⟨b,o+5,none⟩=some vn/\w.cell? ⟨b,o+6,none⟩=some vd/\IsX w x vn vd:=by
 obtain ⟨c0,c1,c2,c3,c4,h5⟩:=h
 obtain ⟨vn,vd,d0,d1,d2,hq⟩:=c4.isQ h1 h2
 exact ⟨vn,vd,c0,c1,c2,c3,d0,d1,d2,hq,h5⟩

def zbA (S:Nat) (l:List Ins):Prop:=∀ x ∈ l,x.q.n.length<=S/\x.q.d.length<=S

end Go.Proofs.YtkjcdnlpjldhaaaGreat


namespace Go.Proofs.YtkjcdnlpjldhaaaGreat
open Go.RowKit Tw
attribute [local go_sem ↓] Go.wp_at_zero Go.wp_at_succ

end Go.Proofs.YtkjcdnlpjldhaaaGreat


namespace Go.Proofs.YtkjcdnlpjldhaaaGreat
open Go.RowKit Tw
attribute [local go_sem ↓] Go.wp_at_zero Go.wp_at_succ

theorem zaav (v v':Value) (l:List Rt) (w:World) (h:RdR w v l) (h':RdR w v' l) (hl:l.length<=100000) :
  Calls Tryz.prog 43 #[v,v'] w (fun e w' => e=.returned (.bool true)/\Below w.heap.size w w'):=by
 obtain ⟨a,n,cap,rfl,H0,hm⟩:=h.open
 obtain ⟨a',n',cap',rfl,H0',hm'⟩:=h'.open
 obtain rfl:n=n':=by rw [<- H0.out,H0'.out]
 have hn:n<=100000:=by have:=H0.out;omega
 clear hl hm hm'
 go_enter Tryz.func43,Tryz.ntmps43
 go_wp2_with fail
 go_loopw [5] (fun i ww => ∃ k:Nat,k<=n/\i=.int .i64 k/\Below w.heap.size w ww) (fun i _ => n - (intOf i).toNat)
 case atStart => exact ⟨0,Nat.zero_le _,rfl,Below.refl _ _⟩
 case round =>
  obtain ⟨k,hk,rfl,gb⟩:=hrel
  by_cases hkn:k<n
  ·have hki:(k:Int)<(n:Int):=by omega
   have hkl:k<l.length:=by rw [H0.out];exact hkn
   obtain ⟨b,off,rfl,h3⟩:=h.nth hkl
   obtain ⟨b',off',rfl,h3'⟩:=h'.nth hkl
   obtain ⟨x,hx⟩:∃ x,l[k]=x:=⟨_,rfl⟩
   rw [hx] at h3 h3'
   obtain ⟨vn,vd,s0,s1,s2,hn1,hd1⟩:=h3
   obtain ⟨vn',vd',r0,r1,r2,hn2,hd2⟩:=h3'
   obtain ⟨a1,n1,c1,rfl,H1,hm1⟩:=hn1.open
   obtain ⟨a2,n2,c2,rfl,H2,hm2⟩:=hd1.open
   obtain ⟨a3,n3,c3,rfl,H3,hm3⟩:=hn2.open
   obtain ⟨a4,n4,c4,rfl,H4,hm4⟩:=hd2.open
   have HS:Hid (∀ W',Below w.heap.size w W'->W'.cell? ⟨b,off+k*3,none⟩=some (.bool x.ng)/\W'.cell? ⟨b,off+k*3+1,none⟩=some (.slice a1 n1 c1)/\W'.cell? ⟨b,off+k*3+2,none⟩=some (.slice a2 n2 c2) /\
     W'.cell? ⟨b',off'+k*3,none⟩=some (.bool x.ng)/\W'.cell? ⟨b',off'+k*3+1,none⟩=some (.slice a3 n3 c3)/\W'.cell? ⟨b',off'+k*3+2,none⟩=some (.slice a4 n4 c4)):=fun W' hb =>
    ⟨(hb.cell (p:=⟨b,off+k*3,none⟩) (zj s0)).trans s0,(hb.cell (p:=⟨b,off+k*3+1,none⟩) (zj s1)).trans s1,(hb.cell (p:=⟨b,off+k*3+2,none⟩) (zj s2)).trans s2,
     (hb.cell (p:=⟨b',off'+k*3,none⟩) (zj r0)).trans r0,(hb.cell (p:=⟨b',off'+k*3+1,none⟩) (zj r1)).trans r1,(hb.cell (p:=⟨b',off'+k*3+2,none⟩) (zj r2)).trans r2⟩
   have HF1:=Lib.hid (show IsF w (.slice a1 n1 c1) (.slice a2 n2 c2) x.n x.d from ⟨hn1,hd1⟩)
   have HF2:=Lib.hid (show IsF w (.slice a3 n3 c3) (.slice a4 n4 c4) x.n x.d from ⟨hn2,hd2⟩)
   clear s0 s1 s2 r0 r1 r2 hn1 hd1 hn2 hd2 hx h h' hm1 hm2 hm3 hm4
   obtain ⟨s0,s1,s2,r0,r1,r2⟩:=HS.out _ gb
   go_wp2_with fail
   go_region_held3 (fun W' => W'.cell? ⟨b,off+k*3,none⟩=some (.bool x.ng)/\W'.cell? ⟨b,off+k*3+1,none⟩=some (.slice a1 n1 c1)/\W'.cell? ⟨b,off+k*3+2,none⟩=some (.slice a2 n2 c2) /\
     W'.cell? ⟨b',off'+k*3,none⟩=some (.bool x.ng)/\W'.cell? ⟨b',off'+k*3+1,none⟩=some (.slice a3 n3 c3)/\W'.cell? ⟨b',off'+k*3+2,none⟩=some (.slice a4 n4 c4)) (exact ⟨s0,s1,s2,r0,r1,r2⟩) (first
    | (go_at_call 24;have gb:=gb.drew;(with_reducible refine (ziy x.ng _ _ x.n x.d x.ng _ _ x.n x.d _ (HF1.out.to gb) (HF2.out.to gb) true (show (x.ng == x.ng && decide (x.n=x.n) && decide (x.d=x.d))=true by simp)).mono ?_);rintro e w3 ⟨rfl,bY⟩;have gb:=bS gb bY;obtain ⟨s0,s1,s2,r0,r1,r2⟩:=HS.out _ gb))
   clear s0 s1 s2 r0 r1 r2
   go_wp2_with fail
   go_roundw
   case rel => exact ⟨k+1,by omega,by go_num,gb⟩
   case measure => simp [intOf] <;> omega
  ·obtain rfl:k=n:=by omega
   go_wp2_with fail
   go_ret
   exact ⟨rfl,gb⟩

theorem zaai (rows cols:Int) (v v':Value) (l:List Rt) (w:World) (h:RdR w v l) (h':RdR w v' l) (hl:l.length<=100000) :
  Calls Tryz.prog 21 #[.agg #[.int .i64 rows,.int .i64 cols,v],.agg #[.int .i64 rows,.int .i64 cols,v']] w (fun e w' => e=.returned (.bool true)/\Below w.heap.size w w'):=by
 have Hl:=Lib.hid hl
 clear hl
 obtain ⟨a0,n0,c0,rfl,H0,hm0⟩:=h.open
 obtain ⟨a1,n1,c1,rfl,H1,hm1⟩:=h'.open
 go_enter Tryz.func21,Tryz.ntmps21
 go_wp2_with fail
 obtain ⟨W0,ap⟩:∃ W0,(w.alloc (.cells #[.int .i64 rows,.int .i64 cols,.slice a0 n0 c0] 32)).alloc (.cells #[.int .i64 rows,.int .i64 cols,.slice a1 n1 c1] 32)=W0:=⟨_,rfl⟩
 have aq:=Lib.hid (show ∀ W',Below W0.heap.size W0 W'->(Bx3 W' w.heap.size (.int .i64 rows) (.int .i64 cols) (.slice a0 n0 c0)/\Bx3 W' (w.heap.size+1) (.int .i64 rows) (.int .i64 cols) (.slice a1 n1 c1)) from fun W' hb => by
   refine ⟨bx3 hb ?_ ?_ ?_ ?_ ?_ ?_,bx3 hb ?_ ?_ ?_ ?_ ?_ ?_⟩
   all_goals first|assumption|(rw [<- ap];simp [go_sem]))
 have zb:Below w.heap.size w W0:=by rw [<- ap];exact bS (bN _ _) (bN _ _)
 rw [ap]
 clear ap
 have i0:=h.to zb
 have i1:=h'.to zb
 have gb:Below W0.heap.size W0 W0:=Below.refl _ _
 obtain ⟨⟨z0,ae,af,ah,ai,ak,al⟩,⟨z1,am,an,aw,aB,aC,aD⟩⟩:=aq.out _ gb
 go_wp2_with fail
 refine (zaav _ _ l _ (i0.to gb) (i1.to gb) Hl.out).mono ?_
 clear ae ai af ak ah al am aB an aC aw aD
 rintro e w1 ⟨rfl,aS⟩
 replace gb:=bS gb aS
 obtain ⟨⟨z0,ae,af,ah,ai,ak,al⟩,⟨z1,am,an,aw,aB,aC,aD⟩⟩:=aq.out _ gb
 go_wp2_with fail
 go_ret
 exact ⟨rfl,bS zb gb⟩

end Go.Proofs.YtkjcdnlpjldhaaaGreat

