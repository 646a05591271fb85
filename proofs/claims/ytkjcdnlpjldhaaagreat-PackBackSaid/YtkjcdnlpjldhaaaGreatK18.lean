/-
  The texts Rat7, Rat8, VmMath, PackMath, VmBase, Rat5, merged.
-/
import Derived.Test.YtkjcdnlpjldhaaaGreatK13
import Derived.Test.YtkjcdnlpjldhaaaGreatK16
import Derived.Test.YtkjcdnlpjldhaaaGreatK12
import Derived.Test.YtkjcdnlpjldhaaaGreatK17
import Derived.Deep.RegionHeld3
import Derived.Deep.Cut
import Derived.Deep.DrawnRows
import Derived.Laws.EntriesVeiled
set_option linter.unusedVariables false
set_option linter.unusedSimpArgs false
set_option maxRecDepth 100000
set_option maxHeartbeats 400000000
namespace Go.Proofs.YtkjcdnlpjldhaaaGreat
open Go.RowKit Tw
attribute [local go_sem ↓] Go.wp_at_zero Go.wp_at_succ

end Go.Proofs.YtkjcdnlpjldhaaaGreat


namespace Go.Proofs.YtkjcdnlpjldhaaaGreat
open Go.RowKit Tw
attribute [local go_sem ↓] Go.wp_at_zero Go.wp_at_succ

theorem zgo {m s n:Nat} (hm:sz m<=s) (hs:s*n<=999):(za (val (za m) ^ n)).length<=3000:=by
 rw [ze,vL]
 have h1:=zfy m n
 have h2:n*sz m<=n*s:=Nat.mul_le_mul_left _ hm
 rw [Nat.mul_comm s n] at hs
 omega

theorem zlO {x:Rat} {n:Nat} (hs:szq x*n<=999):szq (x ^ n)<=1000:=by
 unfold szq
 rw [Rat.num_pow,Rat.den_pow,Int.natAbs_pow]
 have h1:=zfy x.num.natAbs n
 have h2:=zfy x.den n
 have h3:n*sz x.num.natAbs<=n*szq x:=Nat.mul_le_mul_left _ (zaF x)
 have h4:n*sz x.den<=n*szq x:=Nat.mul_le_mul_left _ (zam x)
 rw [Nat.mul_comm (szq x) n] at hs
 omega

theorem pow_ok {m s n:Nat} {k:Int} (hm:sz m<=s) (dD:1<=s) (hs:s*n<=999) (hk:k=(n:Int)):¬ zhK m k:=by
 subst hk
 unfold zhK
 rintro (h|⟨h1,h2⟩)
 ·omega
 ·have h3:0<sz m:=Nat.pos_of_ne_zero fun e => by have:=zA.1 e;omega
  have h4:n<=4096 / sz m:=(Nat.le_div_iff_mul_le h3).2 (by
   have:n*sz m<=n*s:=Nat.mul_le_mul_left _ hm
   rw [Nat.mul_comm s n] at hs
   omega)
  omega

theorem pow_up {x:Rat} {n:Nat} {k:Int} (hs:szq x*n<=999) (hk:k=(n:Int)):¬ zhK (val (za x.num.natAbs)) k:=by
 rw [vL];exact pow_ok (zaF x) (zdT x) hs hk

theorem pow_dn {x:Rat} {n:Nat} {k:Int} (hs:szq x*n<=999) (hk:k=(n:Int)):¬ zhK (val (za x.den)) k:=by
 rw [vL];exact pow_ok (zam x) (zdT x) hs hk

theorem zlC (x:Rat):∀ k:Nat,rat (decide (x<0) && decide (k % 2=1)) (x.num.natAbs ^ k) (x.den ^ k)=x ^ k
 | 0 => by rw [Rat.pow_zero,Nat.pow_zero,Nat.pow_zero];simp;rfl
 | k+1 => by
  rw [Rat.pow_succ,<- zlC x k,Nat.pow_succ,Nat.pow_succ]
  conv => rhs;arg 2;rw [<- zcV x]
  rw [zgp]
  congr 1
  cases decide (x<0)
  ·rfl
  ·rcases Nat.mod_two_eq_zero_or_one k with e|e
   ·have:(k+1) % 2=1:=by omega
    simp [e,this]
   ·have:(k+1) % 2=0:=by omega
    simp [e,this]

theorem inv_rat (b:Bool) {n d:Nat} (hn:n≠0) (hd:d≠0):rat b d n=(rat b n d)⁻¹:=by
 have h1:rat b n d≠0:=fun e => hn ((zfH hd).1 e)
 have h2:rat b d n*rat b n d=1:=by
  rw [zgp,Nat.mul_comm d n]
  unfold rat
  have:(n*d:Nat)≠0:=Nat.mul_ne_zero hn hd
  rw [show (b != b)=false by cases b <;> rfl,zcn]
  rw [<- Rat.divInt_ofNat];exact Rat.divInt_self' (by omega)
 calc rat b d n=rat b d n*(rat b n d*(rat b n d)⁻¹):=by rw [Rat.mul_inv_cancel _ h1,Rat.mul_one]
  _=(rat b n d)⁻¹:=by rw [<- Rat.mul_assoc,h2,Rat.one_mul]

theorem zlB {x:Rat} {k:Nat} (p:Bool) (hp:p=decide (k % 2=1)):∀ ng,decide (x<0)=ng->rat (ng && p) (val (za (val (za x.num.natAbs) ^ k))) (val (za (val (za x.den) ^ k)))=x ^ k:=by
 intro ng e
 rw [<- e,hp,vL,vL,vL,vL,<- zlC x k]

theorem pow_inv {x:Rat} {k:Nat} (p:Bool) (hp:p=decide (k % 2=1)) (h0:x≠0):∀ ng,decide (x<0)=ng ->
  rat (ng && p) (val (za (val (za x.den) ^ k))) (val (za (val (za x.num.natAbs) ^ k)))=(x ^ k)⁻¹:=by
 intro ng e
 have h:=zlB p hp ng e
 rw [vL,vL,vL,vL] at *
 rw [<- h]
 exact inv_rat _ (fun e => num_ne h0 (Int.natAbs_eq_zero.1 (Nat.pow_eq_zero.1 e).1)) (fun e => x.den_nz (Nat.pow_eq_zero.1 e).1)

theorem odd_pos {n:Int} {k:Nat} (hn:0<=n) (hk:max n (-n)=(k:Int)):(n % 2 != 0)=decide (k % 2=1):=by
 rw [Bool.eq_iff_iff];simp;omega

theorem odd_neg {n:Int} {k:Nat} (hk:max n (-n)=(k:Int)):(n.tmod 2 != 0)=decide (k % 2=1):=by
 have h1:n.tmod 2=0 ↔ n % 2=0:=by
  constructor
  ·intro h;have:=Int.dvd_of_tmod_eq_zero h;omega
  ·intro h;exact Int.tmod_eq_zero_of_dvd (by omega)
 rw [Bool.eq_iff_iff];simp [h1];omega

theorem pow_zero {x:Rat} (b:Bool) (v u:Value) (ln ld:List Nat) (n:Int) (w:World) (h:IsQ w b v u ln ld x) (m0:-9223372036854775808<=n) (m1:n<9223372036854775808) (hn:-64<=n) (hn':n<0) (h0:x=0) :
  Calls Tryz.prog 122 #[aggR b v u,.int .i64 n] w (fun e w' => e=.returned (.tuple #[aggR false (.slice none 0 0) (.slice none 0 0),.int .i64 3])/\Below w.heap.size w w'):=by
 have Hx:=zaY h
 have HX0:=Lib.hid h0
 clear h0
 obtain ⟨a0,n0,c0,rfl,H0,hm0⟩:=h.1.open
 obtain ⟨a1,n1,c1,rfl,H1,hm1⟩:=h.2.1.open
 go_enter Tryz.func122,Tryz.ntmps122
 go_wp2_with fail
 obtain ⟨W0,an⟩:∃ W0,(w.alloc (.cells #[.bool b,.slice a0 n0 c0,.slice a1 n1 c1] 47)).alloc (.cells #[.bool false,.slice none 0 0,.slice none 0 0] 47)=W0:=⟨_,rfl⟩
 have ap:=Lib.hid (show ∀ W',Below W0.heap.size W0 W'->(Bx3 W' w.heap.size (.bool b) (.slice a0 n0 c0) (.slice a1 n1 c1)/\Bx3 W' (w.heap.size+1) (.bool false) (.slice none 0 0) (.slice none 0 0)) from fun W' hb => by
   refine ⟨bx3 hb ?_ ?_ ?_ ?_ ?_ ?_,bx3 hb ?_ ?_ ?_ ?_ ?_ ?_⟩
   all_goals first|assumption|(rw [<- an];simp [go_sem]))
 have zb:Below w.heap.size w W0:=by rw [<- an];exact bS (bN _ _) (bN _ _)
 rw [an]
 clear an
 have i0:=h.to zb
 have gb:Below W0.heap.size W0 W0:=Below.refl _ _
 obtain ⟨⟨z0,ae,af,ag,ah,ak,al⟩,⟨z1,aB,aD,aE,aG,aH,aI⟩⟩:=ap.out _ gb
 refine (zbJ b _ _ ln ld _ (i0.to gb) Hx).mono ?_
 clear ae ah af ak ag al aB aG aD aH aE aI
 rintro e w1 ⟨ng1,a1_,n1_,c1_,p1_,m1_,k1_,rfl,g1,be⟩
 replace gb:=bS gb be
 obtain ⟨⟨z0,ae,af,ag,ah,ak,al⟩,⟨z1,aB,aD,aE,aG,aH,aI⟩⟩:=ap.out _ gb
 obtain rfl:n1_=0:=by have k:=g1.zeroQ (decide_eq_true HX0.out);simpa using k
 go_wp2_with fail
 refine bodyPost_ret (zt Tryz.results122 _ _ _ _ _ _ rfl (Tri.alloc (Tri.set (x0:=.bool false) (y0:=.slice none 0 0) (z0:=.slice none 0 0) ⟨aB,aD,aE,aG,aH,aI⟩ _ _ _) _)) rfl ⟨rfl,bS (bT (bS zb gb) (by omega) _ _ _) (bN _ _)⟩

theorem pow_pos {x:Rat} (b:Bool) (v u:Value) (ln ld:List Nat) (n:Int) (w:World) (h:IsQ w b v u ln ld x) (hn:0<=n) (hn':n<=64) (hs:szq x*n.toNat<=999) :
  Calls Tryz.prog 122 #[aggR b v u,.int .i64 n] w (zL w (x ^ n.toNat)):=by
 have Hx:=zaY h
 obtain ⟨K,hK⟩:∃ K,(max n (-n)).toNat=K:=⟨_,rfl⟩
 have hK2:n.toNat=K:=by omega
 have hK3:max n (-n)=(K:Int):=by omega
 rw [hK2] at hs
 rw [hK2]
 have HP1:=Lib.hid (pow_up (k:=max n (-n)) hs hK3)
 have HP2:=Lib.hid (pow_dn (k:=max n (-n)) hs hK3)
 have HK:=Lib.hid hK
 have HS:Hid (szq (x ^ K)<=1000):=zlO hs
 have L1:=Lib.hid (show (za (val (za x.num.natAbs) ^ K)).length<=3000 from zgo (zaF x) hs)
 have L2:=Lib.hid (show (za (val (za x.den) ^ K)).length<=3000 from zgo (zam x) hs)
 have H9:=Lib.hid (zlB (x:=x) (n % 2 != 0) (odd_pos hn hK3))
 clear hs hK hK2 hK3
 obtain ⟨a0,n0,c0,rfl,H0,hm0⟩:=h.1.open
 obtain ⟨a1,n1,c1,rfl,H1,hm1⟩:=h.2.1.open
 go_enter Tryz.func122,Tryz.ntmps122
 go_wp2_with fail
 obtain ⟨W0,an⟩:∃ W0,(w.alloc (.cells #[.bool b,.slice a0 n0 c0,.slice a1 n1 c1] 47)).alloc (.cells #[.bool false,.slice none 0 0,.slice none 0 0] 47)=W0:=⟨_,rfl⟩
 have ap:=Lib.hid (show ∀ W',Below W0.heap.size W0 W'->(Bx3 W' w.heap.size (.bool b) (.slice a0 n0 c0) (.slice a1 n1 c1)/\Bx3 W' (w.heap.size+1) (.bool false) (.slice none 0 0) (.slice none 0 0)) from fun W' hb => by
   refine ⟨bx3 hb ?_ ?_ ?_ ?_ ?_ ?_,bx3 hb ?_ ?_ ?_ ?_ ?_ ?_⟩
   all_goals first|assumption|(rw [<- an];simp [go_sem]))
 have zb:Below w.heap.size w W0:=by rw [<- an];exact bS (bN _ _) (bN _ _)
 rw [an]
 clear an
 have i0:=h.to zb
 have gb:Below W0.heap.size W0 W0:=Below.refl _ _
 obtain ⟨⟨z0,ae,af,ag,ah,ak,al⟩,⟨z1,aB,aD,aE,aG,aH,aI⟩⟩:=ap.out _ gb
 refine (zbJ b _ _ ln ld _ (i0.to gb) Hx).mono ?_
 clear ae ah af ak ag al aB aG aD aH aE aI
 rintro e w1 ⟨ng1,a1_,n1_,c1_,p1_,m1_,k1_,rfl,g1,be⟩
 replace gb:=bS gb be
 obtain ⟨⟨z0,ae,af,ag,ah,ak,al⟩,⟨z1,aB,aD,aE,aG,aH,aI⟩⟩:=ap.out _ gb
 go_wp2_with fail
 obtain ⟨W1,aO⟩:∃ W1,w1.alloc (.cells #[.bool ng1,.slice a1_ n1_ c1_,.slice p1_ m1_ k1_] 166)=W1:=⟨_,rfl⟩
 have hb_W1:Below w1.heap.size w1 W1:=by rw [<- aO];exact bN _ _
 have cS:Hid (W1.heap.size=w1.heap.size+1):=by show _=_;rw [<- aO];simp
 clear ae ah af ak ag al aB aG aD aH aE aI
 replace g1:=g1.to hb_W1
 replace gb:=bS gb hb_W1
 obtain ⟨⟨z0,ae,af,ag,ah,ak,al⟩,⟨z1,aB,aD,aE,aG,aH,aI⟩⟩:=ap.out _ gb
 have cO:W1.cell? ⟨w1.heap.size,0,none⟩=some (.bool ng1):=by rw [<- aO];simp [go_sem]
 have cV:W1.frozen? ⟨w1.heap.size,0,none⟩=false:=by rw [<- aO];simp [go_sem]
 have cQ:W1.cell? ⟨w1.heap.size,1,none⟩=some (.slice a1_ n1_ c1_):=by rw [<- aO];simp [go_sem]
 have cW:W1.frozen? ⟨w1.heap.size,1,none⟩=false:=by rw [<- aO];simp [go_sem]
 have cR:W1.cell? ⟨w1.heap.size,2,none⟩=some (.slice p1_ m1_ k1_):=by rw [<- aO];simp [go_sem]
 have cX:W1.frozen? ⟨w1.heap.size,2,none⟩=false:=by rw [<- aO];simp [go_sem]
 have z6:w1.heap.size<W1.heap.size:=by rw [<- aO];simp
 rw [aO]
 clear aO
 replace i0:=i0.to gb
 replace zb:=bS zb gb
 have ck:=Lib.hid (show ∀ W',Below W1.heap.size W1 W'->(Bx3 W' w.heap.size (.bool b) (.slice a0 n0 c0) (.slice a1 n1 c1)/\Bx3 W' (w.heap.size+1) (.bool false) (.slice none 0 0) (.slice none 0 0)/\Bx3 W' w1.heap.size (.bool ng1) (.slice a1_ n1_ c1_) (.slice p1_ m1_ k1_)) from fun W' hb => by
   refine ⟨bx3 hb ?_ ?_ ?_ ?_ ?_ ?_,bx3 hb ?_ ?_ ?_ ?_ ?_ ?_,bx3 hb ?_ ?_ ?_ ?_ ?_ ?_⟩
   all_goals first|assumption|assumption)
 replace gb:=Below.refl W1.heap.size W1
 go_wp2_with fail
 refine (zcW _ _ _ _ (g1.to gb).isQ.up (Nat.le_trans (g1.to gb).isQ.lup (by omega)) HP1.out).mono ?_
 clear ae ah af ak ag al aB aG aD aH aE aI cO cV cQ cW cR cX
 rintro e w2 ⟨v2,rfl,g2,aZ⟩
 obtain ⟨a2_,n2_,c2_,rfl,H2,hm2⟩:=g2.rd.open
 replace gb:=bS gb aZ
 obtain ⟨⟨z0,ae,af,ag,ah,ak,al⟩,⟨z1,aB,aD,aE,aG,aH,aI⟩,⟨z6,cO,cQ,cR,cV,cW,cX⟩⟩:=ck.out _ gb
 rw [HK.out] at g2
 go_wp2_with fail
 refine (zcW _ _ _ _ (g1.to gb).isQ.dn (Nat.le_trans (g1.to gb).isQ.ldn (by omega)) HP2.out).mono ?_
 clear ae ah af ak ag al aB aG aD aH aE aI cO cV cQ cW cR cX
 rintro e w3 ⟨v3,rfl,g3,cl⟩
 obtain ⟨a3_,n3_,c3_,rfl,H3,hm3⟩:=g3.rd.open
 replace g2:=g2.to cl
 replace gb:=bS gb cl
 obtain ⟨⟨z0,ae,af,ag,ah,ak,al⟩,⟨z1,aB,aD,aE,aG,aH,aI⟩,⟨z6,cO,cQ,cR,cV,cW,cX⟩⟩:=ck.out _ gb
 rw [HK.out] at g3
 have H8:=Lib.hid (H9.out ng1 (g1.to gb).ng)
 cases ng1
 ·skip
  go_wp2_with fail
  refine (zab false _ _ _ _ _ g2.rd g3.rd L1.out L2.out _ H8.out HS).mono ?_
  clear ae ah af ak ag al aB aG aD aH aE aI cO cV cQ cW cR cX
  rintro e w5 ⟨ng5,a5_,n5_,c5_,p5_,m5_,k5_,rfl,g5,cU⟩
  replace g2:=g2.to cU
  replace g3:=g3.to cU
  replace gb:=bS gb cU
  obtain ⟨⟨z0,ae,af,ag,ah,ak,al⟩,⟨z1,aB,aD,aE,aG,aH,aI⟩,⟨z6,cO,cQ,cR,cV,cW,cX⟩⟩:=ck.out _ gb
  go_wp2_with fail
  refine bodyPost_ret (zt Tryz.results122 _ _ _ _ _ _ rfl (Tri.set (x0:=.bool false) (y0:=.slice none 0 0) (z0:=.slice none 0 0) ⟨aB,aD,aE,aG,aH,aI⟩ _ _ _)) rfl (zcf (bS zb gb) (by omega) ?_ g5)
  omega
 ·skip
  go_wp2_with fail
  refine (zab (n % 2 != 0) _ _ _ _ _ g2.rd g3.rd L1.out L2.out _ H8.out HS).mono ?_
  clear ae ah af ak ag al aB aG aD aH aE aI cO cV cQ cW cR cX
  rintro e w5 ⟨ng5,a5_,n5_,c5_,p5_,m5_,k5_,rfl,g5,cU⟩
  replace g2:=g2.to cU
  replace g3:=g3.to cU
  replace gb:=bS gb cU
  obtain ⟨⟨z0,ae,af,ag,ah,ak,al⟩,⟨z1,aB,aD,aE,aG,aH,aI⟩,⟨z6,cO,cQ,cR,cV,cW,cX⟩⟩:=ck.out _ gb
  go_wp2_with fail
  refine bodyPost_ret (zt Tryz.results122 _ _ _ _ _ _ rfl (Tri.set (x0:=.bool false) (y0:=.slice none 0 0) (z0:=.slice none 0 0) ⟨aB,aD,aE,aG,aH,aI⟩ _ _ _)) rfl (zcf (bS zb gb) (by omega) ?_ g5)
  omega

theorem pow_neg {x:Rat} (b:Bool) (v u:Value) (ln ld:List Nat) (n:Int) (w:World) (h:IsQ w b v u ln ld x) (hn:-64<=n) (hn':n<0) (h0:x≠0) (hs:szq x*(-n).toNat<=999) :
  Calls Tryz.prog 122 #[aggR b v u,.int .i64 n] w (zL w ((x ^ (-n).toNat)⁻¹)):=by
 have Hx:=zaY h
 obtain ⟨K,hK⟩:∃ K,(max n (-n)).toNat=K:=⟨_,rfl⟩
 have hK2:(-n).toNat=K:=by omega
 have hK3:max n (-n)=(K:Int):=by omega
 rw [hK2] at hs
 rw [hK2]
 have HP1:=Lib.hid (pow_up (k:=max n (-n)) hs hK3)
 have HP2:=Lib.hid (pow_dn (k:=max n (-n)) hs hK3)
 have HK:=Lib.hid hK
 have HS:Hid (szq ((x ^ K)⁻¹)<=1000):=Nat.le_trans (ziK _) (zlO hs)
 have L1:=Lib.hid (show (za (val (za x.num.natAbs) ^ K)).length<=3000 from zgo (zaF x) hs)
 have L2:=Lib.hid (show (za (val (za x.den) ^ K)).length<=3000 from zgo (zam x) hs)
 have H9:=Lib.hid (pow_inv (x:=x) (n.tmod 2 != 0) (odd_neg hK3) h0)
 clear hs hK hK2 hK3
 have HX0:=Lib.hid h0
 clear h0
 obtain ⟨a0,n0,c0,rfl,H0,hm0⟩:=h.1.open
 obtain ⟨a1,n1,c1,rfl,H1,hm1⟩:=h.2.1.open
 go_enter Tryz.func122,Tryz.ntmps122
 go_wp2_with fail
 obtain ⟨W0,an⟩:∃ W0,(w.alloc (.cells #[.bool b,.slice a0 n0 c0,.slice a1 n1 c1] 47)).alloc (.cells #[.bool false,.slice none 0 0,.slice none 0 0] 47)=W0:=⟨_,rfl⟩
 have ap:=Lib.hid (show ∀ W',Below W0.heap.size W0 W'->(Bx3 W' w.heap.size (.bool b) (.slice a0 n0 c0) (.slice a1 n1 c1)/\Bx3 W' (w.heap.size+1) (.bool false) (.slice none 0 0) (.slice none 0 0)) from fun W' hb => by
   refine ⟨bx3 hb ?_ ?_ ?_ ?_ ?_ ?_,bx3 hb ?_ ?_ ?_ ?_ ?_ ?_⟩
   all_goals first|assumption|(rw [<- an];simp [go_sem]))
 have zb:Below w.heap.size w W0:=by rw [<- an];exact bS (bN _ _) (bN _ _)
 rw [an]
 clear an
 have i0:=h.to zb
 have gb:Below W0.heap.size W0 W0:=Below.refl _ _
 obtain ⟨⟨z0,ae,af,ag,ah,ak,al⟩,⟨z1,aB,aD,aE,aG,aH,aI⟩⟩:=ap.out _ gb
 refine (zbJ b _ _ ln ld _ (i0.to gb) Hx).mono ?_
 clear ae ah af ak ag al aB aG aD aH aE aI
 rintro e w1 ⟨ng1,a1_,n1_,c1_,p1_,m1_,k1_,rfl,g1,be⟩
 replace gb:=bS gb be
 obtain ⟨⟨z0,ae,af,ag,ah,ak,al⟩,⟨z1,aB,aD,aE,aG,aH,aI⟩⟩:=ap.out _ gb
 have hz1:0<n1_:=by have k:=g1.zeroQ (decide_eq_false HX0.out);simp at k;omega
 go_wp2_with fail
 obtain ⟨W1,aO⟩:∃ W1,w1.alloc (.cells #[.bool ng1,.slice a1_ n1_ c1_,.slice p1_ m1_ k1_] 166)=W1:=⟨_,rfl⟩
 have hb_W1:Below w1.heap.size w1 W1:=by rw [<- aO];exact bN _ _
 have cS:Hid (W1.heap.size=w1.heap.size+1):=by show _=_;rw [<- aO];simp
 clear ae ah af ak ag al aB aG aD aH aE aI
 replace g1:=g1.to hb_W1
 replace gb:=bS gb hb_W1
 obtain ⟨⟨z0,ae,af,ag,ah,ak,al⟩,⟨z1,aB,aD,aE,aG,aH,aI⟩⟩:=ap.out _ gb
 have cO:W1.cell? ⟨w1.heap.size,0,none⟩=some (.bool ng1):=by rw [<- aO];simp [go_sem]
 have cV:W1.frozen? ⟨w1.heap.size,0,none⟩=false:=by rw [<- aO];simp [go_sem]
 have cQ:W1.cell? ⟨w1.heap.size,1,none⟩=some (.slice a1_ n1_ c1_):=by rw [<- aO];simp [go_sem]
 have cW:W1.frozen? ⟨w1.heap.size,1,none⟩=false:=by rw [<- aO];simp [go_sem]
 have cR:W1.cell? ⟨w1.heap.size,2,none⟩=some (.slice p1_ m1_ k1_):=by rw [<- aO];simp [go_sem]
 have cX:W1.frozen? ⟨w1.heap.size,2,none⟩=false:=by rw [<- aO];simp [go_sem]
 have z6:w1.heap.size<W1.heap.size:=by rw [<- aO];simp
 rw [aO]
 clear aO
 replace i0:=i0.to gb
 replace zb:=bS zb gb
 have ck:=Lib.hid (show ∀ W',Below W1.heap.size W1 W'->(Bx3 W' w.heap.size (.bool b) (.slice a0 n0 c0) (.slice a1 n1 c1)/\Bx3 W' (w.heap.size+1) (.bool false) (.slice none 0 0) (.slice none 0 0)/\Bx3 W' w1.heap.size (.bool ng1) (.slice a1_ n1_ c1_) (.slice p1_ m1_ k1_)) from fun W' hb => by
   refine ⟨bx3 hb ?_ ?_ ?_ ?_ ?_ ?_,bx3 hb ?_ ?_ ?_ ?_ ?_ ?_,bx3 hb ?_ ?_ ?_ ?_ ?_ ?_⟩
   all_goals first|assumption|assumption)
 replace gb:=Below.refl W1.heap.size W1
 go_wp2_with fail
 refine (zcW _ _ _ _ (g1.to gb).isQ.up (Nat.le_trans (g1.to gb).isQ.lup (by omega)) HP1.out).mono ?_
 clear ae ah af ak ag al aB aG aD aH aE aI cO cV cQ cW cR cX
 rintro e w2 ⟨v2,rfl,g2,aZ⟩
 obtain ⟨a2_,n2_,c2_,rfl,H2,hm2⟩:=g2.rd.open
 replace gb:=bS gb aZ
 obtain ⟨⟨z0,ae,af,ag,ah,ak,al⟩,⟨z1,aB,aD,aE,aG,aH,aI⟩,⟨z6,cO,cQ,cR,cV,cW,cX⟩⟩:=ck.out _ gb
 rw [HK.out] at g2
 go_wp2_with fail
 refine (zcW _ _ _ _ (g1.to gb).isQ.dn (Nat.le_trans (g1.to gb).isQ.ldn (by omega)) HP2.out).mono ?_
 clear ae ah af ak ag al aB aG aD aH aE aI cO cV cQ cW cR cX
 rintro e w3 ⟨v3,rfl,g3,cl⟩
 obtain ⟨a3_,n3_,c3_,rfl,H3,hm3⟩:=g3.rd.open
 replace g2:=g2.to cl
 replace gb:=bS gb cl
 obtain ⟨⟨z0,ae,af,ag,ah,ak,al⟩,⟨z1,aB,aD,aE,aG,aH,aI⟩,⟨z6,cO,cQ,cR,cV,cW,cX⟩⟩:=ck.out _ gb
 rw [HK.out] at g3
 have H8:=Lib.hid (H9.out ng1 (g1.to gb).ng)
 cases ng1
 ·skip
  go_wp2_with fail
  refine (zab false _ _ _ _ _ g3.rd g2.rd L2.out L1.out _ H8.out HS).mono ?_
  clear ae ah af ak ag al aB aG aD aH aE aI cO cV cQ cW cR cX
  rintro e w5 ⟨ng5,a5_,n5_,c5_,p5_,m5_,k5_,rfl,g5,cU⟩
  replace g2:=g2.to cU
  replace g3:=g3.to cU
  replace gb:=bS gb cU
  obtain ⟨⟨z0,ae,af,ag,ah,ak,al⟩,⟨z1,aB,aD,aE,aG,aH,aI⟩,⟨z6,cO,cQ,cR,cV,cW,cX⟩⟩:=ck.out _ gb
  go_wp2_with fail
  refine bodyPost_ret (zt Tryz.results122 _ _ _ _ _ _ rfl (Tri.set (x0:=.bool false) (y0:=.slice none 0 0) (z0:=.slice none 0 0) ⟨aB,aD,aE,aG,aH,aI⟩ _ _ _)) rfl (zcf (bS zb gb) (by omega) ?_ g5)
  omega
 ·skip
  go_wp2_with fail
  refine (zab (n.tmod 2 != 0) _ _ _ _ _ g3.rd g2.rd L2.out L1.out _ H8.out HS).mono ?_
  clear ae ah af ak ag al aB aG aD aH aE aI cO cV cQ cW cR cX
  rintro e w5 ⟨ng5,a5_,n5_,c5_,p5_,m5_,k5_,rfl,g5,cU⟩
  replace g2:=g2.to cU
  replace g3:=g3.to cU
  replace gb:=bS gb cU
  obtain ⟨⟨z0,ae,af,ag,ah,ak,al⟩,⟨z1,aB,aD,aE,aG,aH,aI⟩,⟨z6,cO,cQ,cR,cV,cW,cX⟩⟩:=ck.out _ gb
  go_wp2_with fail
  refine bodyPost_ret (zt Tryz.results122 _ _ _ _ _ _ rfl (Tri.set (x0:=.bool false) (y0:=.slice none 0 0) (z0:=.slice none 0 0) ⟨aB,aD,aE,aG,aH,aI⟩ _ _ _)) rfl (zcf (bS zb gb) (by omega) ?_ g5)
  omega

end Go.Proofs.YtkjcdnlpjldhaaaGreat


namespace Go.Proofs.YtkjcdnlpjldhaaaGreat
open Go.RowKit Tw

structure Rt where
 ng:Bool
 n:List Nat
 d:List Nat

structure Ins where
 op:Int
 to:Int
 a:Int
 b:Int
 q:Rt

structure Cd where
 ins:Int
 rows:Int
 cols:Int
 regs:Int
 all:List Ins

def Rt.num (x:Rt):Rat:=rat x.ng (val x.n) (val x.d)

def zd (op:Int):Int:=if op=0\/op=1 then 0 else if (2<=op/\op<=5)\/op=8\/op=9 then 2 else if op=6\/op=7\/op=10 then 1 else -1

def zaJ (x:Ins):Bool :=
 if x.op=1 then zcy x.q.ng x.q.n x.q.d x.q.num && decide ((zaP (val x.q.n)).length<=40) && decide ((zaP (val x.q.d)).length<=40)
 else !x.q.ng && decide (x.q.n.length=0) && decide (x.q.d.length=0)

def aOk (c:Cd) (L:List Int) (x:Ins):Bool:=if x.op=0 then decide (0<=x.a/\x.a<c.ins) else if x.op=1 then decide (x.a=0) else decide (x.a ∈ L)

def bOk (L:List Int) (x:Ins):Bool:=if x.op=7 then decide (-21<=x.b/\x.b<=21) else if zd x.op=2 then decide (x.b ∈ L) else decide (x.b=0)

def zD (c:Cd) (x:Ins):Int:=if x.op=10 then c.rows*c.cols else c.regs

def zp (c:Cd) (L:List Int) (x:Ins):Bool:=decide (0<=zd x.op) && zaJ x && aOk c L x && bOk L x && decide (0<=x.to/\x.to<zD c x)

def more (L:List Int) (x:Ins):List Int:=if x.op=10 then L else L++[x.to]

def zaq (c:Cd):List Int->List Ins->Bool
 | _,[] => true
 | L,x :: t => zp c L x && zaq c (more L x) t

def zbX (c:Cd):Bool:=decide (1<=c.ins/\c.ins<=40/\1<=c.rows/\c.rows<=40/\c.cols=c.ins/\0<=c.regs/\c.regs<=100000/\c.all.length<=100000)

def zF (c:Cd):Bool:=zbX c && zaq c [] c.all

def upd {α:Type} (f:Int->α) (i:Int) (v:α):Int->α:=fun j => if j=i then v else f j

theorem zcc {α:Type} (f:Int->α) (i:Int) (v:α):upd f i v i=v:=if_pos rfl

theorem zbG {α:Type} (f:Int->α) {i j:Int} (v:α) (h:j≠i):upd f i v j=f j:=if_neg h

def wOf (wt:Int->Int) (x:Ins):Int :=
 min ((fun n => if x.op=7 then n*max 1 (max x.b (-x.b)) else n) ((fun n => if zd x.op=2 then n+wt x.b else n) (if 1<=zd x.op then wt x.a else 1))) 1000000

def zcM:(Int->Int)->Int->List Ins->Int
 | _,m,[] => m
 | wt,m,x :: t => if x.op=10 then zcM wt m t else zcM (upd wt x.to (wOf wt x)) (max m (wOf wt x)) t

def zgB (c:Cd):Int:=if zF c then zcM (fun _ => 0) 0 c.all else 0

def opE (R:Int->Rat) (x:Ins):Int :=
 if x.op=5 then (if R x.b=0 then 3 else 0)
 else if x.op=7 then (if R x.a=0/\x.b<0 then 3 else if 4096<szq (R x.a)*x.b.natAbs then 4 else 0) else 0

def opV (p:List Rat) (R:Int->Rat) (x:Ins):Rat :=
 if x.op=0 then p.getD x.a.toNat 0 else if x.op=1 then x.q.num else if x.op=2\/x.op=9 then R x.a+R x.b else if x.op=3 then R x.a - R x.b
 else if x.op=4\/x.op=8 then R x.a*R x.b else if x.op=5 then R x.a / R x.b else if x.op=6 then -R x.a
 else if x.op=7 then (if x.b<0 then (R x.a ^ x.b.natAbs)⁻¹ else R x.a ^ x.b.natAbs) else R x.a

def zaK (p:List Rat) (R:Int->Rat) (x:Ins):Int:=if opE R x≠0 then opE R x else if x.op≠10/\4096<szq (opV p R x) then 4 else 0

structure St where
 R:Int->Rat
 J:Int->Rat
 k:Int
 t:Int

def St.next (p:List Rat) (s:St) (x:Ins):St :=
 if x.op=10 then { s with J:=upd s.J x.to (opV p s.R x),k:=s.k+1 } else { s with R:=upd s.R x.to (opV p s.R x),k:=s.k+1,t:=if x.op=8 then s.t+1 else s.t }

def St.zero:St:=⟨fun _ => 0,fun _ => 0,0,0⟩

def runE (p:List Rat):St->List Ins->Int
 | _,[] => 0
 | s,x :: t => if zaK p s.R x≠0 then zaK p s.R x else runE p (s.next p x) t

def zeP (p:List Rat):St->List Ins->St
 | s,[] => s
 | s,x :: t => zeP p (s.next p x) t

def zdj (S:Nat) (p:List Rat):St->List Ins->Prop
 | _,[] => True
 | s,x :: t => (opE s.R x=0->szq (opV p s.R x)<=S/\(x.op=7->szq (s.R x.a)*x.b.natAbs<S))/\(zaK p s.R x=0->zdj S p (s.next p x) t)

theorem zbj (op:Int) (h:0<=zd op):op=0\/op=1\/op=2\/op=3\/op=4\/op=5\/op=6\/op=7\/op=8\/op=9\/op=10:=by
 unfold zd at h
 split at h
 ·omega
 ·split at h
  ·omega
  ·split at h
   ·omega
   ·omega

theorem zhI {op:Int} (h:¬ (0<=op/\op<=10)):zd op=-1:=by
 unfold zd
 rw [if_neg (by omega),if_neg (by omega),if_neg (by omega)]

theorem zls {L:List Int} {x:Ins} {c:Cd} (h:∀ r ∈ L,0<=r/\r<c.regs) (hx:zp c L x=true):∀ r ∈ more L x,0<=r/\r<c.regs:=by
 intro r hr
 unfold more at hr
 split at hr
 ·exact h r hr
 ·rename_i ho
  rcases List.mem_append.1 hr with hr|hr
  ·exact h r hr
  ·rw [List.mem_singleton.1 hr]
   unfold zp zD at hx
   simp only [Bool.and_eq_true,decide_eq_true_eq] at hx
   have:=hx.2
   rw [if_neg ho] at this
   exact this

end Go.Proofs.YtkjcdnlpjldhaaaGreat


namespace Go.Proofs.YtkjcdnlpjldhaaaGreat
open Go.RowKit Tw

def cnt (n:Nat):List Nat:=if n<128 then [n] else (n % 128+128) :: cnt (n / 128)
termination_by n
decreasing_by omega

theorem zee {n:Nat} (h:n<128):cnt n=[n]:=by rw [cnt,if_pos h]

theorem zgx {n:Nat} (h:¬ n<128):cnt n=(n % 128+128) :: cnt (n / 128):=by rw [cnt,if_neg h]

def zaH (w:Nat):List Nat:=[w % 256,w / 256 % 256,w / 65536 % 256,w / 16777216]

def zbp (l:List Nat):List Nat:=cnt l.length++l.flatMap zaH

def bOf (x:Ins):Int:=if x.op=7 then x.b+64 else x.b

def zav (x:Ins):List Nat :=
 cnt x.op.toNat++(cnt x.to.toNat++(cnt x.a.toNat++(cnt (bOf x).toNat++(if x.op=1 then cnt (if x.q.ng then 1 else 0)++(zbp x.q.n++zbp x.q.d) else []))))

def zaX (c:Cd):List Nat :=
 cnt c.ins.toNat++(cnt c.rows.toNat++(cnt c.cols.toNat++(cnt c.regs.toNat++(cnt c.all.length++c.all.flatMap zav))))

abbrev Rdg (α:Type):=List Nat->Option (α × List Nat)

def rdC:Nat->Bool->Rdg Nat
 | 0,_,_ => none
 | _+1,_,[] => none
 | k+1,first,x :: t => if x<128 then (if x=0/\first=false then none else some (x,t)) else (rdC k false t).map fun y => (x % 128+128*y.1,y.2)

abbrev zc:Rdg Nat:=rdC 4 true

def rdW:Rdg Nat
 | a :: b :: c :: d :: t => some (a+256*b+65536*c+16777216*d,t)
 | _ => none

def zbx:Nat->Rdg (List Nat)
 | 0,l => some ([],l)
 | k+1,l => (rdW l).bind fun y => (zbx k y.2).map fun z => (y.1 :: z.1,z.2)

def rdN:Rdg (List Nat):=fun l => (zc l).bind fun y => zbx y.1 y.2

def rdQ:Rdg Rt:=fun l => (zc l).bind fun g => if 1<g.1 then none else (rdN g.2).bind fun n => (rdN n.2).map fun d => (⟨decide (g.1=1),n.1,d.1⟩,d.2)

def rdI:Rdg Ins:=fun l => (zc l).bind fun op => (zc op.2).bind fun to => (zc to.2).bind fun a => (zc a.2).bind fun b =>
 if op.1=1 then (rdQ b.2).map fun q => (⟨op.1,to.1,a.1,b.1,q.1⟩,q.2) else some (⟨op.1,to.1,a.1,if op.1=7 then (b.1:Int) - 64 else b.1,⟨false,[],[]⟩⟩,b.2)

def zcw:Nat->Rdg (List Ins)
 | 0,l => some ([],l)
 | k+1,l => (rdI l).bind fun y => (zcw k y.2).map fun z => (y.1 :: z.1,z.2)

def zbF:Rdg Cd:=fun l => (zc l).bind fun ins => (zc ins.2).bind fun rows => (zc rows.2).bind fun cols => (zc cols.2).bind fun regs => (zc regs.2).bind fun n =>
 (zcw n.1 n.2).map fun z => (⟨ins.1,rows.1,cols.1,regs.1,z.1⟩,z.2)

def zC (l:List Nat):Option Cd:=(zbF l).bind fun y => if y.2=[]/\zF y.1=true then some y.1 else none

def zep {α:Type} (f:Rdg α):Prop:=∀ l y s,f l=some y->f (l++s)=some (y.1,y.2++s)

theorem zep.bind {α β:Type} {f:Rdg α} {g:α->Rdg β} (hf:zep f) (hg:∀ a,zep (g a)):zep (fun l => (f l).bind fun y => g y.1 y.2):=by
 intro l y s h
 cases h1:f l with
 | none => simp only [h1] at h;cases h
 | some z =>
  simp only [h1,Option.bind_some] at h
  show ((f (l++s)).bind fun y => g y.1 y.2)=_
  rw [hf l z s h1]
  exact hg z.1 z.2 y s h

theorem zep.map {α β:Type} {f:Rdg α} (g:α->β) (hf:zep f):zep (fun l => (f l).map fun y => (g y.1,y.2)):=by
 intro l y s h
 cases h1:f l with
 | none => simp only [h1] at h;cases h
 | some z =>
  simp only [h1,Option.map_some] at h
  injection h with h
  show ((f (l++s)).map fun y => (g y.1,y.2))=_
  rw [hf l z s h1,<- h]
  rfl

theorem zep.none {α:Type}:zep (fun _ => (none:Option (α × List Nat))):=fun _ _ _ h => by cases h

theorem zlF:∀ (k n:Nat) (b:Bool) (t:List Nat),n<128 ^ (k+1)->(b=false->0<n)->rdC (k+1) b (cnt n++t)=some (n,t)
 | k,n,b,t,h,hb => by
  by_cases h1:n<128
  ·rw [zee h1]
   show rdC (k+1) b (n :: t)=_
   unfold rdC
   rw [if_pos h1,if_neg (fun e => by have:=hb e.2;omega)]
  ·cases k with
   | zero => exact absurd h h1
   | succ k =>
    rw [zgx h1]
    show rdC (k+1+1) b ((n % 128+128) :: (cnt (n / 128)++t))=_
    unfold rdC
    have h2:n / 128<128 ^ (k+1):=by rw [Nat.pow_succ] at h;exact Nat.div_lt_of_lt_mul (by rw [Nat.mul_comm];exact h)
    rw [if_neg (by omega),zlF k (n / 128) false t h2 (fun _ => by omega)]
    show some (_,t)=_
    congr 2
    show (n % 128+128) % 128+128*(n / 128)=n
    omega

theorem zaf {n:Nat} (h:n<268435456) (t:List Nat):zc (cnt n++t)=some (n,t):=zlF 3 n true t h (fun e => by cases e)

theorem zjM:∀ (k:Nat) (b:Bool) (l:List Nat) (y:Nat × List Nat),(∀ x ∈ l,x<256)->rdC k b l=some y->l=cnt y.1++y.2/\y.1<128 ^ k/\(b=false->0<y.1)
 | 0,_,_,_,_,h => by cases h
 | k+1,b,[],_,_,h => by cases h
 | k+1,b,x :: t,y,hl,h => by
  unfold rdC at h
  by_cases h1:x<128
  ·rw [if_pos h1] at h
   by_cases h2:x=0/\b=false
   ·rw [if_pos h2] at h;cases h
   ·rw [if_neg h2] at h
    injection h with h
    subst h
    refine ⟨by rw [zee h1];rfl,?_,fun e => ?_⟩
    ·have:128 ^ 1<=128 ^ (k+1):=Nat.pow_le_pow_right (by decide) (by omega)
     simp only at this ⊢
     omega
    ·rcases Nat.eq_zero_or_pos x with e0|e0
     ·exact absurd ⟨e0,e⟩ h2
     ·exact e0
  ·rw [if_neg h1] at h
   cases h3:rdC k false t with
   | none => rw [h3] at h;cases h
   | some z =>
    rw [h3] at h
    injection h with h
    obtain ⟨e1,e2,e3⟩:=zjM k false t z (fun x hx => hl x (List.mem_cons_of_mem _ hx)) h3
    have hx:=hl x (List.mem_cons_self ..)
    have hz:=e3 rfl
    subst h
    refine ⟨?_,?_,fun _ => by show 0<x % 128+128*z.1;omega⟩
    ·show x :: t=cnt (x % 128+128*z.1)++z.2
     rw [zgx (by omega),show (x % 128+128*z.1) % 128+128=x by omega,show (x % 128+128*z.1) / 128=z.1 by omega,List.cons_append,<- e1]
    ·show x % 128+128*z.1<128 ^ (k+1)
     rw [Nat.pow_succ]
     omega

theorem zQ {l:List Nat} {y:Nat × List Nat} (hl:∀ x ∈ l,x<256) (h:zc l=some y):l=cnt y.1++y.2/\y.1<268435456/\∀ x ∈ y.2,x<256:=by
 obtain ⟨e1,e2,_⟩:=zjM 4 true l y hl h
 exact ⟨e1,e2,fun x hx => hl x (by rw [e1];exact List.mem_append_right _ hx)⟩

theorem zmI {w:Nat} (h:w<4294967296) (t:List Nat):rdW (zaH w++t)=some (w,t):=by
 show some (w % 256+256*(w / 256 % 256)+65536*(w / 65536 % 256)+16777216*(w / 16777216),t)=_
 congr 2
 omega

theorem rdW_form {l:List Nat} {y:Nat × List Nat} (hl:∀ x ∈ l,x<256) (h:rdW l=some y):l=zaH y.1++y.2/\y.1<4294967296/\∀ x ∈ y.2,x<256:=by
 match l,h,hl with
 | a :: b :: c :: d :: t,h,hl =>
  injection h with h
  subst h
  have ha:=hl a (by simp)
  have hb:=hl b (by simp)
  have hc:=hl c (by simp)
  have hd:=hl d (by simp)
  refine ⟨?_,by simp only;omega,fun x hx => hl x (by simp only at hx;simp [hx])⟩
  show a :: b :: c :: d :: t=[_,_,_,_]++t
  simp only [List.cons_append,List.nil_append,List.cons.injEq,and_true]
  omega

theorem zgV:∀ (l t:List Nat),(∀ w ∈ l,w<4294967296)->zbx l.length (l.flatMap zaH++t)=some (l,t)
 | [],t,_ => rfl
 | w :: l,t,h => by
  show (rdW ((zaH w++l.flatMap zaH)++t)).bind _=_
  rw [List.append_assoc,zmI (h w (List.mem_cons_self ..))]
  show (zbx l.length (l.flatMap zaH++t)).map _=_
  rw [zgV l t (fun x hx => h x (List.mem_cons_of_mem _ hx))]
  rfl

theorem zhQ:∀ (k:Nat) (l:List Nat) (y:List Nat × List Nat),(∀ x ∈ l,x<256)->zbx k l=some y->l=y.1.flatMap zaH++y.2/\y.1.length=k/\(∀ w ∈ y.1,w<4294967296)/\∀ x ∈ y.2,x<256
 | 0,l,y,hl,h => by
  injection h with h
  subst h
  exact ⟨rfl,rfl,(fun w hw => by cases hw),hl⟩
 | k+1,l,y,hl,h => by
  unfold zbx at h
  cases h1:rdW l with
  | none => rw [h1] at h;cases h
  | some a =>
   rw [h1] at h
   simp only [Option.bind_some] at h
   cases h2:zbx k a.2 with
   | none => rw [h2] at h;cases h
   | some z =>
    rw [h2] at h
    injection h with h
    subst h
    obtain ⟨e1,e2,e3⟩:=rdW_form hl h1
    obtain ⟨f1,f2,f3,f4⟩:=zhQ k a.2 z e3 h2
    refine ⟨?_,by simp [f2],fun w hw => ?_,f4⟩
    ·rw [e1]
     conv => lhs;rw [f1]
     simp [List.append_assoc]
    ·rcases List.mem_cons.1 hw with hw|hw
     ·rw [hw];exact e2
     ·exact f3 w hw

def zdn (l:List Nat):Prop:=l.length<268435456/\∀ w ∈ l,w<4294967296

theorem zhP {l:List Nat} (h:zdn l) (t:List Nat):rdN (zbp l++t)=some (l,t):=by
 unfold rdN zbp
 rw [List.append_assoc,zaf h.1]
 exact zgV l t h.2

theorem zjO {l:List Nat} {y:List Nat × List Nat} (hl:∀ x ∈ l,x<256) (h:rdN l=some y):l=zbp y.1++y.2/\zdn y.1/\∀ x ∈ y.2,x<256:=by
 unfold rdN at h
 cases h1:zc l with
 | none => rw [h1] at h;cases h
 | some a =>
  rw [h1] at h
  simp only [Option.bind_some] at h
  obtain ⟨e1,e2,e3⟩:=zQ hl h1
  obtain ⟨f1,f2,f3,f4⟩:=zhQ a.1 a.2 y e3 h
  refine ⟨?_,⟨by omega,f3⟩,f4⟩
  unfold zbp
  rw [List.append_assoc,f2,<- f1]
  exact e1

theorem zmH {q:Rt} (h1:zdn q.n) (h2:zdn q.d) (t:List Nat):rdQ (cnt (if q.ng then 1 else 0)++(zbp q.n++zbp q.d)++t)=some (q,t):=by
 obtain ⟨ng,n,d⟩:=q
 unfold rdQ
 rw [List.append_assoc,List.append_assoc,zaf (by split <;> decide)]
 simp only [Option.bind_some]
 rw [if_neg (by split <;> decide),zhP h1]
 simp only [Option.bind_some]
 rw [zhP h2]
 cases ng <;> rfl

theorem rdQ_form {l:List Nat} {y:Rt × List Nat} (hl:∀ x ∈ l,x<256) (h:rdQ l=some y):l=cnt (if y.1.ng then 1 else 0)++(zbp y.1.n++zbp y.1.d)++y.2/\zdn y.1.n/\zdn y.1.d/\∀ x ∈ y.2,x<256:=by
 unfold rdQ at h
 cases h1:zc l with
 | none => rw [h1] at h;cases h
 | some g =>
  rw [h1] at h
  simp only [Option.bind_some] at h
  by_cases hg:1<g.1
  ·rw [if_pos hg] at h;cases h
  ·rw [if_neg hg] at h
   cases h2:rdN g.2 with
   | none => rw [h2] at h;cases h
   | some n =>
    rw [h2] at h
    simp only [Option.bind_some] at h
    cases h3:rdN n.2 with
    | none => rw [h3] at h;cases h
    | some d =>
     rw [h3] at h
     injection h with h
     subst h
     obtain ⟨e1,e2,e3⟩:=zQ hl h1
     obtain ⟨f1,f2,f3⟩:=zjO e3 h2
     obtain ⟨g1,g2,g3⟩:=zjO f3 h3
     refine ⟨?_,f2,g2,g3⟩
     have hgg:(if decide (g.1=1)=true then 1 else 0)=g.1:=by
      by_cases k:g.1=1
      ·rw [if_pos (decide_eq_true k),k]
      ·rw [if_neg (by simpa using k)];omega
     simp only
     rw [hgg,List.append_assoc,List.append_assoc,<- g1,<- f1,<- e1]

def Wire (x:Ins):Prop:=(0<=x.op/\x.op<268435456)/\(0<=x.to/\x.to<268435456)/\(0<=x.a/\x.a<268435456)/\(0<=bOf x/\bOf x<268435456)/\zdn x.q.n/\zdn x.q.d/\(x.op≠1->x.q=⟨false,[],[]⟩)

theorem zmG {x:Ins} (h:Wire x) (t:List Nat):rdI (zav x++t)=some (x,t):=by
 obtain ⟨op,to,a,b,q⟩:=x
 obtain ⟨⟨h0,h0'⟩,⟨h1,h1'⟩,⟨h2,h2'⟩,⟨h3,h3'⟩,h4,h5,h6⟩:=h
 simp only at h0 h0' h1 h1' h2 h2' h4 h5 h6
 obtain ⟨op,rfl⟩:=Int.eq_ofNat_of_zero_le h0
 obtain ⟨to,rfl⟩:=Int.eq_ofNat_of_zero_le h1
 obtain ⟨a,rfl⟩:=Int.eq_ofNat_of_zero_le h2
 obtain ⟨bb,hb⟩:=Int.eq_ofNat_of_zero_le h3
 unfold rdI zav
 simp only [hb,Int.toNat_natCast]
 rw [List.append_assoc,List.append_assoc,List.append_assoc,List.append_assoc,zaf (by omega)]
 simp only [Option.bind_some]
 rw [zaf (by omega)]
 simp only [Option.bind_some]
 rw [zaf (by omega)]
 simp only [Option.bind_some]
 rw [zaf (by omega)]
 simp only [Option.bind_some]
 unfold bOf at hb
 simp only at hb
 by_cases e:op=1
 ·subst e
  have hb':b=bb:=by rw [if_neg (by decide)] at hb;exact hb
  rw [if_pos rfl,if_pos (show ((1:Nat):Int)=1 from rfl),zmH h4 h5,hb']
  rfl
 ·have e':¬ ((op:Int)=1):=by omega
  rw [if_neg e,if_neg e',h6 e',List.nil_append]
  by_cases e7:op=7
  ·subst e7
   rw [if_pos (by rfl)] at hb
   rw [if_pos rfl]
   congr 3
   omega
  ·rw [if_neg (by omega)] at hb
   rw [if_neg e7,hb]

theorem rdI_form {l:List Nat} {y:Ins × List Nat} (hl:∀ x ∈ l,x<256) (h:rdI l=some y):l=zav y.1++y.2/\Wire y.1/\∀ x ∈ y.2,x<256:=by
 unfold rdI at h
 cases h1:zc l with
 | none => rw [h1] at h;cases h
 | some op =>
  rw [h1] at h
  simp only [Option.bind_some] at h
  cases h2:zc op.2 with
  | none => rw [h2] at h;cases h
  | some to =>
   rw [h2] at h
   simp only [Option.bind_some] at h
   cases h3:zc to.2 with
   | none => rw [h3] at h;cases h
   | some a =>
    rw [h3] at h
    simp only [Option.bind_some] at h
    cases h4:zc a.2 with
    | none => rw [h4] at h;cases h
    | some b =>
     rw [h4] at h
     simp only [Option.bind_some] at h
     obtain ⟨d1,d2,d3⟩:=zQ hl h1
     obtain ⟨e1,e2,e3⟩:=zQ d3 h2
     obtain ⟨f1,f2,f3⟩:=zQ e3 h3
     obtain ⟨g1,g2,g3⟩:=zQ f3 h4
     by_cases k:op.1=1
     ·rw [if_pos k] at h
      cases h5:rdQ b.2 with
      | none => rw [h5] at h;cases h
      | some q =>
       rw [h5] at h
       injection h with h
       obtain ⟨k1,k2,k3,k4⟩:=rdQ_form g3 h5
       have hbO:bOf ⟨(op.1:Int),to.1,a.1,b.1,q.1⟩=(b.1:Int):=if_neg (by show ¬ ((op.1:Int)=7);omega)
       subst h
       refine ⟨?_,⟨by simp only;omega,by simp only;omega,by simp only;omega,by rw [hbO];omega,k2,k3,fun e => absurd (show (op.1:Int)=1 by omega) e⟩,k4⟩
       unfold zav
       simp only [hbO,Int.toNat_natCast]
       rw [if_pos (show (op.1:Int)=1 by omega),List.append_assoc,List.append_assoc,List.append_assoc,List.append_assoc,<- k1,<- g1,<- f1,<- e1,<- d1]
     ·rw [if_neg k] at h
      injection h with h
      have hbO:bOf ⟨(op.1:Int),to.1,a.1,if op.1=7 then (b.1:Int) - 64 else b.1,⟨false,[],[]⟩⟩=(b.1:Int):=by
       unfold bOf
       by_cases e7:op.1=7
       ·simp only [e7,if_true]
        rw [if_pos (by rfl)]
        omega
       ·simp only [e7,if_false]
        rw [if_neg (by omega)]
      subst h
      refine ⟨?_,⟨by simp only;omega,by simp only;omega,by simp only;omega,by rw [hbO];omega,⟨show 0<268435456 by decide,fun w hw => by cases hw⟩,⟨show 0<268435456 by decide,fun w hw => by cases hw⟩,fun e => rfl⟩,g3⟩
      unfold zav
      simp only [hbO,Int.toNat_natCast]
      rw [if_neg (show ¬ (op.1:Int)=1 by omega),List.append_assoc,List.append_assoc,List.append_assoc,List.append_assoc,List.nil_append,<- g1,<- f1,<- e1,<- d1]

theorem zgT:∀ (l:List Ins) (t:List Nat),(∀ x ∈ l,Wire x)->zcw l.length (l.flatMap zav++t)=some (l,t)
 | [],t,_ => rfl
 | w :: l,t,h => by
  show (rdI ((zav w++l.flatMap zav)++t)).bind _=_
  rw [List.append_assoc,zmG (h w (List.mem_cons_self ..))]
  show (zcw l.length (l.flatMap zav++t)).map _=_
  rw [zgT l t (fun x hx => h x (List.mem_cons_of_mem _ hx))]
  rfl

theorem zhO:∀ (k:Nat) (l:List Nat) (y:List Ins × List Nat),(∀ x ∈ l,x<256)->zcw k l=some y->l=y.1.flatMap zav++y.2/\y.1.length=k/\(∀ w ∈ y.1,Wire w)/\∀ x ∈ y.2,x<256
 | 0,l,y,hl,h => by
  injection h with h
  subst h
  exact ⟨rfl,rfl,(fun w hw => by cases hw),hl⟩
 | k+1,l,y,hl,h => by
  unfold zcw at h
  cases h1:rdI l with
  | none => rw [h1] at h;cases h
  | some a =>
   rw [h1] at h
   simp only [Option.bind_some] at h
   cases h2:zcw k a.2 with
   | none => rw [h2] at h;cases h
   | some z =>
    rw [h2] at h
    injection h with h
    subst h
    obtain ⟨e1,e2,e3⟩:=rdI_form hl h1
    obtain ⟨f1,f2,f3,f4⟩:=zhO k a.2 z e3 h2
    refine ⟨?_,by simp [f2],fun w hw => ?_,f4⟩
    ·rw [e1]
     conv => lhs;rw [f1]
     simp [List.append_assoc]
    ·rcases List.mem_cons.1 hw with hw|hw
     ·rw [hw];exact e2
     ·exact f3 w hw

def zfA (c:Cd):Prop:=(0<=c.ins/\c.ins<268435456)/\(0<=c.rows/\c.rows<268435456)/\(0<=c.cols/\c.cols<268435456)/\(0<=c.regs/\c.regs<268435456)/\c.all.length<268435456/\∀ x ∈ c.all,Wire x

theorem zjL {c:Cd} (h:zfA c) (t:List Nat):zbF (zaX c++t)=some (c,t):=by
 obtain ⟨ins,rows,cols,regs,all⟩:=c
 obtain ⟨⟨h0,h0'⟩,⟨h1,h1'⟩,⟨h2,h2'⟩,⟨h3,h3'⟩,h4,h5⟩:=h
 simp only at h0 h0' h1 h1' h2 h2' h3 h3' h4 h5
 obtain ⟨ins,rfl⟩:=Int.eq_ofNat_of_zero_le h0
 obtain ⟨rows,rfl⟩:=Int.eq_ofNat_of_zero_le h1
 obtain ⟨cols,rfl⟩:=Int.eq_ofNat_of_zero_le h2
 obtain ⟨regs,rfl⟩:=Int.eq_ofNat_of_zero_le h3
 unfold zbF zaX
 simp only [Int.toNat_natCast]
 rw [List.append_assoc,List.append_assoc,List.append_assoc,List.append_assoc,List.append_assoc,zaf (by omega)]
 simp only [Option.bind_some]
 rw [zaf (by omega)]
 simp only [Option.bind_some]
 rw [zaf (by omega)]
 simp only [Option.bind_some]
 rw [zaf (by omega)]
 simp only [Option.bind_some]
 rw [zaf h4]
 simp only [Option.bind_some]
 rw [zgT all t h5]
 rfl

theorem zkL {l:List Nat} {y:Cd × List Nat} (hl:∀ x ∈ l,x<256) (h:zbF l=some y):l=zaX y.1++y.2/\zfA y.1:=by
 unfold zbF at h
 cases h1:zc l with
 | none => rw [h1] at h;cases h
 | some ins =>
  rw [h1] at h
  simp only [Option.bind_some] at h
  cases h2:zc ins.2 with
  | none => rw [h2] at h;cases h
  | some rows =>
   rw [h2] at h
   simp only [Option.bind_some] at h
   cases h3:zc rows.2 with
   | none => rw [h3] at h;cases h
   | some cols =>
    rw [h3] at h
    simp only [Option.bind_some] at h
    cases h4:zc cols.2 with
    | none => rw [h4] at h;cases h
    | some regs =>
     rw [h4] at h
     simp only [Option.bind_some] at h
     cases h5:zc regs.2 with
     | none => rw [h5] at h;cases h
     | some n =>
      rw [h5] at h
      simp only [Option.bind_some] at h
      cases h6:zcw n.1 n.2 with
      | none => rw [h6] at h;cases h
      | some z =>
       rw [h6] at h
       injection h with h
       subst h
       obtain ⟨d1,d2,d3⟩:=zQ hl h1
       obtain ⟨e1,e2,e3⟩:=zQ d3 h2
       obtain ⟨f1,f2,f3⟩:=zQ e3 h3
       obtain ⟨g1,g2,g3⟩:=zQ f3 h4
       obtain ⟨i1,i2,i3⟩:=zQ g3 h5
       obtain ⟨k1,k2,k3,k4⟩:=zhO n.1 n.2 z i3 h6
       refine ⟨?_,by simp only;omega,by simp only;omega,by simp only;omega,by simp only;omega,by simp only;omega,k3⟩
       unfold zaX
       simp only [Int.toNat_natCast]
       rw [k2,List.append_assoc,List.append_assoc,List.append_assoc,List.append_assoc,List.append_assoc,<- k1,<- i1,<- g1,<- f1,<- e1,<- d1]

theorem zey {c:Cd} (h:zfA c) (hr:zF c=true):zC (zaX c)=some c:=by
 unfold zC
 have:=zjL h []
 rw [List.append_nil] at this
 rw [this]
 exact if_pos ⟨rfl,hr⟩

theorem zjj {l:List Nat} {c:Cd} (hl:∀ x ∈ l,x<256) (h:zC l=some c):l=zaX c/\zfA c/\zF c=true:=by
 unfold zC at h
 cases h1:zbF l with
 | none => rw [h1] at h;cases h
 | some y =>
  rw [h1] at h
  simp only [Option.bind_some] at h
  by_cases k:y.2=[]/\zF y.1=true
  ·rw [if_pos k] at h
   injection h with h
   subst h
   obtain ⟨e1,e2⟩:=zkL hl h1
   rw [k.1,List.append_nil] at e1
   exact ⟨e1,e2,k.2⟩
  ·rw [if_neg k] at h;cases h

end Go.Proofs.YtkjcdnlpjldhaaaGreat


namespace Go.Proofs.YtkjcdnlpjldhaaaGreat
open Go.RowKit Tw

def I64 (z:Int):Prop:=-9223372036854775808<=z/\z<9223372036854775808

def At3 (w:World) (b o:Nat) (x:Rt):Prop :=
 ∃ vn vd,w.cell? ⟨b,o,none⟩=some (.bool x.ng)/\w.cell? ⟨b,o+1,none⟩=some vn/\w.cell? ⟨b,o+2,none⟩=some vd/\Rd w vn x.n/\Rd w vd x.d

def At7 (w:World) (b o:Nat) (x:Ins):Prop :=
 w.cell? ⟨b,o,none⟩=some (.int .i64 x.op)/\w.cell? ⟨b,o+1,none⟩=some (.int .i64 x.to)/\w.cell? ⟨b,o+2,none⟩=some (.int .i64 x.a)/\w.cell? ⟨b,o+3,none⟩=some (.int .i64 x.b) /\
  At3 w b (o+4) x.q/\I64 x.op/\I64 x.to/\I64 x.a/\I64 x.b

theorem At3.to {w w':World} {b o:Nat} {x:Rt} (h:At3 w b o x) (hb:Below w.heap.size w w'):At3 w' b o x:=by
 obtain ⟨vn,vd,h0,h1,h2,hn,hd⟩:=h
 have hl:=zm h0
 exact ⟨vn,vd,(hb.cell (p:=⟨b,o,none⟩) hl).trans h0,(hb.cell (p:=⟨b,o+1,none⟩) hl).trans h1,(hb.cell (p:=⟨b,o+2,none⟩) hl).trans h2,hn.to hb,hd.to hb⟩

theorem At7.to {w w':World} {b o:Nat} {x:Ins} (h:At7 w b o x) (hb:Below w.heap.size w w'):At7 w' b o x:=by
 obtain ⟨h0,h1,h2,h3,h4,h5⟩:=h
 have hl:=zm h0
 exact ⟨(hb.cell (p:=⟨b,o,none⟩) hl).trans h0,(hb.cell (p:=⟨b,o+1,none⟩) hl).trans h1,(hb.cell (p:=⟨b,o+2,none⟩) hl).trans h2,(hb.cell (p:=⟨b,o+3,none⟩) hl).trans h3,h4.to hb,h5⟩

def RdC (w:World) (v:Value) (l:List Ins):Prop :=
 ∃ a cap,v=.slice a l.length cap/\l.length<=cap/\cap<=maxLen/\∀ i (h:i<l.length),∃ b off,a=some ⟨b,off,none⟩/\At7 w b (off+i*7) l[i]

def RdR (w:World) (v:Value) (l:List Rt):Prop :=
 ∃ a cap,v=.slice a l.length cap/\l.length<=cap/\cap<=maxLen/\∀ i (h:i<l.length),∃ b off,a=some ⟨b,off,none⟩/\At3 w b (off+i*3) l[i]

theorem RdC.to {w w':World} {v:Value} {l:List Ins} (h:RdC w v l) (hb:Below w.heap.size w w'):RdC w' v l:=by
 obtain ⟨a,cap,hv,h1,h2,h3⟩:=h
 exact ⟨a,cap,hv,h1,h2,fun i hi => let ⟨b,off,e,k⟩:=h3 i hi;⟨b,off,e,k.to hb⟩⟩

theorem RdR.to {w w':World} {v:Value} {l:List Rt} (h:RdR w v l) (hb:Below w.heap.size w w'):RdR w' v l:=by
 obtain ⟨a,cap,hv,h1,h2,h3⟩:=h
 exact ⟨a,cap,hv,h1,h2,fun i hi => let ⟨b,off,e,k⟩:=h3 i hi;⟨b,off,e,k.to hb⟩⟩

theorem RdC.drew {w:World} {v:Value} {l:List Ins} (h:RdC w v l):RdC w.drew v l:=h.to (Below.refl _ _).drew

theorem RdR.drew {w:World} {v:Value} {l:List Rt} (h:RdR w v l):RdR w.drew v l:=h.to (Below.refl _ _).drew

theorem RdC.open {w:World} {v:Value} {l:List Ins} (h:RdC w v l):∃ a n cap,v=.slice a n cap/\Hid (l.length=n)/\n<=maxLen:=by
 obtain ⟨a,cap,hv,h1,h2,_⟩:=h
 exact ⟨a,_,cap,hv,rfl,by omega⟩

theorem RdR.open {w:World} {v:Value} {l:List Rt} (h:RdR w v l):∃ a n cap,v=.slice a n cap/\Hid (l.length=n)/\n<=maxLen:=by
 obtain ⟨a,cap,hv,h1,h2,_⟩:=h
 exact ⟨a,_,cap,hv,rfl,by omega⟩

theorem RdC.nth {w:World} {a:Option Addr} {n cap:Nat} {l:List Ins} (h:RdC w (.slice a n cap) l) {i:Nat} (hi:i<l.length):∃ b off,a=some ⟨b,off,none⟩/\At7 w b (off+i*7) l[i]:=by
 obtain ⟨a',cap',hv,_,_,h3⟩:=h
 injection hv with e1 e2 e3
 subst e1
 exact h3 i hi

theorem RdR.nth {w:World} {a:Option Addr} {n cap:Nat} {l:List Rt} (h:RdR w (.slice a n cap) l) {i:Nat} (hi:i<l.length):∃ b off,a=some ⟨b,off,none⟩/\At3 w b (off+i*3) l[i]:=by
 obtain ⟨a',cap',hv,_,_,h3⟩:=h
 injection hv with e1 e2 e3
 subst e1
 exact h3 i hi

theorem At3.isQ {w:World} {b o:Nat} {x:Rt} (h:At3 w b o x) (h1:x.n.length<=1000) (h2:x.d.length<=1000) :
  ∃ vn vd,w.cell? ⟨b,o,none⟩=some (.bool x.ng)/\w.cell? ⟨b,o+1,none⟩=some vn/\w.cell? ⟨b,o+2,none⟩=some vd/\IsQ w x.ng vn vd x.n x.d x.num:=by
 obtain ⟨vn,vd,h0,h1',h2',hn,hd⟩:=h
 exact ⟨vn,vd,h0,h1',h2',hn,hd,rfl,h1,h2⟩

abbrev aggC (c:Cd) (v:Value):Value:=.agg #[.int .i64 c.ins,.int .i64 c.rows,.int .i64 c.cols,.int .i64 c.regs,v]

def IsC (w:World) (c:Cd) (v:Value):Prop:=RdC w v c.all/\I64 c.ins/\I64 c.rows/\I64 c.cols/\I64 c.regs

theorem IsC.to {w w':World} {c:Cd} {v:Value} (h:IsC w c v) (hb:Below w.heap.size w w'):IsC w' c v:=⟨h.1.to hb,h.2⟩

def IsX (w:World) (x:Ins) (vn vd:Value):Prop:=IsQ w x.q.ng vn vd x.q.n x.q.d x.q.num/\I64 x.op/\I64 x.to/\I64 x.a/\I64 x.b

theorem IsX.to {w w':World} {x:Ins} {vn vd:Value} (h:IsX w x vn vd) (hb:Below w.heap.size w w'):IsX w' x vn vd:=⟨h.1.to hb,h.2⟩

theorem IsX.drew {w:World} {x:Ins} {vn vd:Value} (h:IsX w x vn vd):IsX w.drew x vn vd:=⟨h.1.drew,h.2⟩

theorem IsC.drew {w:World} {c:Cd} {v:Value} (h:IsC w c v):IsC w.drew c v:=⟨h.1.drew,h.2⟩

theorem At7.isX {w:World} {b o:Nat} {x:Ins} (h:At7 w b o x) (h1:x.q.n.length<=1000) (h2:x.q.d.length<=1000) :
  ∃ vn vd,w.cell? ⟨b,o,none⟩=some (.int .i64 x.op)/\w.cell? ⟨b,o+1,none⟩=some (.int .i64 x.to)/\w.cell? ⟨b,o+2,none⟩=some (.int .i64 x.a)/\w.cell? ⟨b,o+3,none⟩=some (.int .i64 x.b) /\
   w.cell? ⟨b,o+4,none⟩=some (.bool x.q.ng)/\w.cell? ⟨b,o+5,none⟩=some vn/\w.cell? ⟨b,o+6,none⟩=some vd/\IsX w x vn vd:=by
 obtain ⟨c0,c1,c2,c3,c4,h5⟩:=h
 obtain ⟨vn,vd,d0,d1,d2,hq⟩:=c4.isQ h1 h2
 exact ⟨vn,vd,c0,c1,c2,c3,d0,d1,d2,hq,h5⟩

def zbo (S:Nat) (l:List Ins):Prop:=∀ x ∈ l,x.q.n.length<=S/\x.q.d.length<=S

end Go.Proofs.YtkjcdnlpjldhaaaGreat


namespace Go.Proofs.YtkjcdnlpjldhaaaGreat
open Go.RowKit Tw
attribute [local go_sem ↓] Go.wp_at_zero Go.wp_at_succ

theorem zhz {n k:Nat} (h:sz n<=k):(zaP n).length<=10*k+1:=by
 have h1:=zek (zI n)
 rw [vL,ze] at h1
 unfold zdo at h1
 omega

end Go.Proofs.YtkjcdnlpjldhaaaGreat

