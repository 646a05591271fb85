/-
  The texts Rat7, Rat8, VmMath, VmBase, RefJ, Rat5, merged.
-/
import Derived.Test.YtkjcdnlpjldhaaaG12
import Derived.Test.YtkjcdnlpjldhaaaG15
import Derived.Test.YtkjcdnlpjldhaaaG11
import Derived.Test.YtkjcdnlpjldhaaaG16
import Derived.Deep.RegionHeld3
import Derived.Deep.Cut
import Derived.Deep.DrawnRows
import Derived.Laws.EntriesVeiled
import Derived.Test.YtkjcdnlpjldhaaaG10
set_option linter.unusedVariables false
set_option linter.unusedSimpArgs false
set_option maxRecDepth 100000
set_option maxHeartbeats 400000000
namespace Go.Proofs.Ytkjcdnlpjldhaaa
open Go.RowKit Tw
attribute [local go_sem ↓] Go.wp_at_zero Go.wp_at_succ

end Go.Proofs.Ytkjcdnlpjldhaaa


namespace Go.Proofs.Ytkjcdnlpjldhaaa
open Go.RowKit Tw
attribute [local go_sem ↓] Go.wp_at_zero Go.wp_at_succ

theorem zep {m s n:Nat} (hm:sz m<=s) (hs:s*n<=4096):(zc (val (zc m) ^ n)).length<=15000:=by
 rw [ze,vL]
 have h1:=zdK m n
 have h2:n*sz m<=n*s:=Nat.mul_le_mul_left _ hm
 rw [Nat.mul_comm s n] at hs
 omega

theorem ziS {x:Rat} {n:Nat} (hs:szq x*n<=4096):szq (x ^ n)<=4097:=by
 unfold szq
 rw [Rat.num_pow,Rat.den_pow,Int.natAbs_pow]
 have h1:=zdK x.num.natAbs n
 have h2:=zdK x.den n
 have h3:n*sz x.num.natAbs<=n*szq x:=Nat.mul_le_mul_left _ (zaq x)
 have h4:n*sz x.den<=n*szq x:=Nat.mul_le_mul_left _ (zac x)
 rw [Nat.mul_comm (szq x) n] at hs
 omega

theorem pow_ok {m s n:Nat} {k:Int} (hm:sz m<=s) (c8:1<=s) (hs:s*n<=4096) (hk:k=(n:Int)):¬ zfq m k:=by
 subst hk
 unfold zfq
 rintro (h|⟨h1,h2⟩)
 ·omega
 ·have h3:0<sz m:=Nat.pos_of_ne_zero fun e => by have:=zA.1 e;omega
  have h4:n<=4096 / sz m:=(Nat.le_div_iff_mul_le h3).2 (by
   have:n*sz m<=n*s:=Nat.mul_le_mul_left _ hm
   rw [Nat.mul_comm s n] at hs
   omega)
  omega

theorem pow_up {x:Rat} {n:Nat} {k:Int} (hs:szq x*n<=4096) (hk:k=(n:Int)):¬ zfq (val (zc x.num.natAbs)) k:=by
 rw [vL];exact pow_ok (zaq x) (zcD x) hs hk

theorem pow_dn {x:Rat} {n:Nat} {k:Int} (hs:szq x*n<=4096) (hk:k=(n:Int)):¬ zfq (val (zc x.den)) k:=by
 rw [vL];exact pow_ok (zac x) (zcD x) hs hk

theorem ziF (x:Rat):∀ k:Nat,rat (decide (x<0) && decide (k % 2=1)) (x.num.natAbs ^ k) (x.den ^ k)=x ^ k
 | 0 => by rw [Rat.pow_zero,Nat.pow_zero,Nat.pow_zero];simp;rfl
 | k+1 => by
  rw [Rat.pow_succ,<- ziF x k,Nat.pow_succ,Nat.pow_succ]
  conv => rhs;arg 2;rw [<- zbW x]
  rw [zde]
  congr 1
  cases decide (x<0)
  ·rfl
  ·rcases Nat.mod_two_eq_zero_or_one k with e|e
   ·have:(k+1) % 2=1:=by omega
    simp [e,this]
   ·have:(k+1) % 2=0:=by omega
    simp [e,this]

theorem inv_rat (b:Bool) {n d:Nat} (hn:n≠0) (hd:d≠0):rat b d n=(rat b n d)⁻¹:=by
 have h1:rat b n d≠0:=fun e => hn ((zdT hd).1 e)
 have h2:rat b d n*rat b n d=1:=by
  rw [zde,Nat.mul_comm d n]
  unfold rat
  have:(n*d:Nat)≠0:=Nat.mul_ne_zero hn hd
  rw [show (b != b)=false by cases b <;> rfl,zbu]
  rw [<- Rat.divInt_ofNat];exact Rat.divInt_self' (by omega)
 calc rat b d n=rat b d n*(rat b n d*(rat b n d)⁻¹):=by rw [Rat.mul_inv_cancel _ h1,Rat.mul_one]
  _=(rat b n d)⁻¹:=by rw [<- Rat.mul_assoc,h2,Rat.one_mul]

theorem ziE {x:Rat} {k:Nat} (p:Bool) (hp:p=decide (k % 2=1)):∀ ng,decide (x<0)=ng->rat (ng && p) (val (zc (val (zc x.num.natAbs) ^ k))) (val (zc (val (zc x.den) ^ k)))=x ^ k:=by
 intro ng e
 rw [<- e,hp,vL,vL,vL,vL,<- ziF x k]

theorem pow_inv {x:Rat} {k:Nat} (p:Bool) (hp:p=decide (k % 2=1)) (h0:x≠0):∀ ng,decide (x<0)=ng ->
  rat (ng && p) (val (zc (val (zc x.den) ^ k))) (val (zc (val (zc x.num.natAbs) ^ k)))=(x ^ k)⁻¹:=by
 intro ng e
 have h:=ziE p hp ng e
 rw [vL,vL,vL,vL] at *
 rw [<- h]
 exact inv_rat _ (fun e => num_ne h0 (Int.natAbs_eq_zero.1 (Nat.pow_eq_zero.1 e).1)) (fun e => x.den_nz (Nat.pow_eq_zero.1 e).1)

theorem odd_pos {n:Int} {k:Nat} (hn:0<=n) (hk:max n (-n)=(k:Int)):(n % 2 != 0)=decide (k % 2=1):=by
 rw [Bool.eq_iff_iff];simp;omega

theorem odd_neg {n:Int} {k:Nat} (hk:max n (-n)=(k:Int)):(n.tmod 2 != 0)=decide (k % 2=1):=by
 have h1:n.tmod 2=0 ↔ n % 2=0:=by
  constructor
  ·intro h;have:=Int.dvd_of_tmod_eq_zero h;omega
  ·intro h;exact Int.tmod_eq_zero_of_dvd (by omega)
 rw [Bool.eq_iff_iff];simp [h1];omega

theorem pow_zero {x:Rat} (b:Bool) (v u:Value) (ln ld:List Nat) (n:Int) (w:World) (h:IsQ w b v u ln ld x) (m0:-9223372036854775808<=n) (m1:n<9223372036854775808) (hn:-64<=n) (hn':n<0) (h0:x=0) :
  Calls Try.prog 57 #[aggR b v u,.int .i64 n] w (fun e w' => e=.returned (.tuple #[aggR false (.slice none 0 0) (.slice none 0 0),.int .i64 3])/\Below w.heap.size w w'):=by
 have Hx:=zas h
 have HX0:=Lib.hid h0
 clear h0
 obtain ⟨a0,n0,c0,rfl,H0,hm0⟩:=h.1.open
 obtain ⟨a1,n1,c1,rfl,H1,hm1⟩:=h.2.1.open
 go_enter Try.func57,Try.ntmps57
 go_wp2_with fail
 obtain ⟨W0,aq⟩:∃ W0,(w.alloc (.cells #[.bool b,.slice a0 n0 c0,.slice a1 n1 c1] 25)).alloc (.cells #[.bool false,.slice none 0 0,.slice none 0 0] 25)=W0:=⟨_,rfl⟩
 have al:=Lib.hid (show ∀ W',Below W0.heap.size W0 W'->(Bx3 W' w.heap.size (.bool b) (.slice a0 n0 c0) (.slice a1 n1 c1)/\Bx3 W' (w.heap.size+1) (.bool false) (.slice none 0 0) (.slice none 0 0)) from fun W' hb => by
   refine ⟨bx3 hb ?_ ?_ ?_ ?_ ?_ ?_,bx3 hb ?_ ?_ ?_ ?_ ?_ ?_⟩
   all_goals first|assumption|(rw [<- aq];simp [go_sem]))
 have zb:Below w.heap.size w W0:=by rw [<- aq];exact bS (bN _ _) (bN _ _)
 rw [aq]
 clear aq
 have i0:=h.to zb
 have gb:Below W0.heap.size W0 W0:=Below.refl _ _
 obtain ⟨⟨z0,ae,af,ag,ah,ai,ak⟩,⟨z1,aA,aB,aC,aD,aE,aF⟩⟩:=al.out _ gb
 refine (zaT b _ _ ln ld _ (i0.to gb) Hx).mono ?_
 clear ae ah af ai ag ak aA aD aB aE aC aF
 rintro e w1 ⟨ng1,a1_,n1_,c1_,p1_,m1_,k1_,rfl,g1,aT⟩
 replace gb:=bS gb aT
 obtain ⟨⟨z0,ae,af,ag,ah,ai,ak⟩,⟨z1,aA,aB,aC,aD,aE,aF⟩⟩:=al.out _ gb
 obtain rfl:n1_=0:=by have k:=g1.zeroQ (decide_eq_true HX0.out);simpa using k
 go_wp2_with fail
 refine bodyPost_ret (zn Try.results57 _ _ _ _ _ _ rfl (Tri.alloc (Tri.set (x0:=.bool false) (y0:=.slice none 0 0) (z0:=.slice none 0 0) ⟨aA,aB,aC,aD,aE,aF⟩ _ _ _) _)) rfl ⟨rfl,bS (bT (bS zb gb) (by omega) _ _ _) (bN _ _)⟩

theorem pow_pos {x:Rat} (b:Bool) (v u:Value) (ln ld:List Nat) (n:Int) (w:World) (h:IsQ w b v u ln ld x) (hn:0<=n) (hn':n<=64) (hs:szq x*n.toNat<=4096) :
  Calls Try.prog 57 #[aggR b v u,.int .i64 n] w (zp w (x ^ n.toNat)):=by
 have Hx:=zas h
 obtain ⟨K,hK⟩:∃ K,(max n (-n)).toNat=K:=⟨_,rfl⟩
 have hK2:n.toNat=K:=by omega
 have hK3:max n (-n)=(K:Int):=by omega
 rw [hK2] at hs
 rw [hK2]
 have HP1:=Lib.hid (pow_up (k:=max n (-n)) hs hK3)
 have HP2:=Lib.hid (pow_dn (k:=max n (-n)) hs hK3)
 have HK:=Lib.hid hK
 have HS:Hid (szq (x ^ K)<=4097):=ziS hs
 have L1:=Lib.hid (show (zc (val (zc x.num.natAbs) ^ K)).length<=15000 from zep (zaq x) hs)
 have L2:=Lib.hid (show (zc (val (zc x.den) ^ K)).length<=15000 from zep (zac x) hs)
 have H9:=Lib.hid (ziE (x:=x) (n % 2 != 0) (odd_pos hn hK3))
 clear hs hK hK2 hK3
 obtain ⟨a0,n0,c0,rfl,H0,hm0⟩:=h.1.open
 obtain ⟨a1,n1,c1,rfl,H1,hm1⟩:=h.2.1.open
 go_enter Try.func57,Try.ntmps57
 go_wp2_with fail
 obtain ⟨W0,aq⟩:∃ W0,(w.alloc (.cells #[.bool b,.slice a0 n0 c0,.slice a1 n1 c1] 25)).alloc (.cells #[.bool false,.slice none 0 0,.slice none 0 0] 25)=W0:=⟨_,rfl⟩
 have al:=Lib.hid (show ∀ W',Below W0.heap.size W0 W'->(Bx3 W' w.heap.size (.bool b) (.slice a0 n0 c0) (.slice a1 n1 c1)/\Bx3 W' (w.heap.size+1) (.bool false) (.slice none 0 0) (.slice none 0 0)) from fun W' hb => by
   refine ⟨bx3 hb ?_ ?_ ?_ ?_ ?_ ?_,bx3 hb ?_ ?_ ?_ ?_ ?_ ?_⟩
   all_goals first|assumption|(rw [<- aq];simp [go_sem]))
 have zb:Below w.heap.size w W0:=by rw [<- aq];exact bS (bN _ _) (bN _ _)
 rw [aq]
 clear aq
 have i0:=h.to zb
 have gb:Below W0.heap.size W0 W0:=Below.refl _ _
 obtain ⟨⟨z0,ae,af,ag,ah,ai,ak⟩,⟨z1,aA,aB,aC,aD,aE,aF⟩⟩:=al.out _ gb
 refine (zaT b _ _ ln ld _ (i0.to gb) Hx).mono ?_
 clear ae ah af ai ag ak aA aD aB aE aC aF
 rintro e w1 ⟨ng1,a1_,n1_,c1_,p1_,m1_,k1_,rfl,g1,aT⟩
 replace gb:=bS gb aT
 obtain ⟨⟨z0,ae,af,ag,ah,ai,ak⟩,⟨z1,aA,aB,aC,aD,aE,aF⟩⟩:=al.out _ gb
 go_wp2_with fail
 obtain ⟨W1,aK⟩:∃ W1,w1.alloc (.cells #[.bool ng1,.slice a1_ n1_ c1_,.slice p1_ m1_ k1_] 112)=W1:=⟨_,rfl⟩
 have hb_W1:Below w1.heap.size w1 W1:=by rw [<- aK];exact bN _ _
 have cw:Hid (W1.heap.size=w1.heap.size+1):=by show _=_;rw [<- aK];simp
 clear ae ah af ai ag ak aA aD aB aE aC aF
 replace g1:=g1.to hb_W1
 replace gb:=bS gb hb_W1
 obtain ⟨⟨z0,ae,af,ag,ah,ai,ak⟩,⟨z1,aA,aB,aC,aD,aE,aF⟩⟩:=al.out _ gb
 have ck:W1.cell? ⟨w1.heap.size,0,none⟩=some (.bool ng1):=by rw [<- aK];simp [go_sem]
 have cx:W1.frozen? ⟨w1.heap.size,0,none⟩=false:=by rw [<- aK];simp [go_sem]
 have cm:W1.cell? ⟨w1.heap.size,1,none⟩=some (.slice a1_ n1_ c1_):=by rw [<- aK];simp [go_sem]
 have cy:W1.frozen? ⟨w1.heap.size,1,none⟩=false:=by rw [<- aK];simp [go_sem]
 have cu:W1.cell? ⟨w1.heap.size,2,none⟩=some (.slice p1_ m1_ k1_):=by rw [<- aK];simp [go_sem]
 have cB:W1.frozen? ⟨w1.heap.size,2,none⟩=false:=by rw [<- aK];simp [go_sem]
 have z6:w1.heap.size<W1.heap.size:=by rw [<- aK];simp
 rw [aK]
 clear aK
 replace i0:=i0.to gb
 replace zb:=bS zb gb
 have b7:=Lib.hid (show ∀ W',Below W1.heap.size W1 W'->(Bx3 W' w.heap.size (.bool b) (.slice a0 n0 c0) (.slice a1 n1 c1)/\Bx3 W' (w.heap.size+1) (.bool false) (.slice none 0 0) (.slice none 0 0)/\Bx3 W' w1.heap.size (.bool ng1) (.slice a1_ n1_ c1_) (.slice p1_ m1_ k1_)) from fun W' hb => by
   refine ⟨bx3 hb ?_ ?_ ?_ ?_ ?_ ?_,bx3 hb ?_ ?_ ?_ ?_ ?_ ?_,bx3 hb ?_ ?_ ?_ ?_ ?_ ?_⟩
   all_goals first|assumption|assumption)
 replace gb:=Below.refl W1.heap.size W1
 go_wp2_with fail
 refine (zbX _ _ _ _ (g1.to gb).isQ.up (Nat.le_trans (g1.to gb).isQ.lup (by omega)) HP1.out).mono ?_
 clear ae ah af ai ag ak aA aD aB aE aC aF ck cx cm cy cu cB
 rintro e w2 ⟨v2,rfl,g2,aL⟩
 obtain ⟨a2_,n2_,c2_,rfl,H2,hm2⟩:=g2.rd.open
 replace gb:=bS gb aL
 obtain ⟨⟨z0,ae,af,ag,ah,ai,ak⟩,⟨z1,aA,aB,aC,aD,aE,aF⟩,⟨z6,ck,cm,cu,cx,cy,cB⟩⟩:=b7.out _ gb
 rw [HK.out] at g2
 go_wp2_with fail
 refine (zbX _ _ _ _ (g1.to gb).isQ.dn (Nat.le_trans (g1.to gb).isQ.ldn (by omega)) HP2.out).mono ?_
 clear ae ah af ai ag ak aA aD aB aE aC aF ck cx cm cy cu cB
 rintro e w3 ⟨v3,rfl,g3,bM⟩
 obtain ⟨a3_,n3_,c3_,rfl,H3,hm3⟩:=g3.rd.open
 replace g2:=g2.to bM
 replace gb:=bS gb bM
 obtain ⟨⟨z0,ae,af,ag,ah,ai,ak⟩,⟨z1,aA,aB,aC,aD,aE,aF⟩,⟨z6,ck,cm,cu,cx,cy,cB⟩⟩:=b7.out _ gb
 rw [HK.out] at g3
 have H8:=Lib.hid (H9.out ng1 (g1.to gb).ng)
 cases ng1
 ·skip
  go_wp2_with fail
  refine (zO false _ _ _ _ _ g2.rd g3.rd L1.out L2.out _ H8.out HS).mono ?_
  clear ae ah af ai ag ak aA aD aB aE aC aF ck cx cm cy cu cB
  rintro e w5 ⟨ng5,a5_,n5_,c5_,p5_,m5_,k5_,rfl,g5,c9⟩
  replace g2:=g2.to c9
  replace g3:=g3.to c9
  replace gb:=bS gb c9
  obtain ⟨⟨z0,ae,af,ag,ah,ai,ak⟩,⟨z1,aA,aB,aC,aD,aE,aF⟩,⟨z6,ck,cm,cu,cx,cy,cB⟩⟩:=b7.out _ gb
  go_wp2_with fail
  refine bodyPost_ret (zn Try.results57 _ _ _ _ _ _ rfl (Tri.set (x0:=.bool false) (y0:=.slice none 0 0) (z0:=.slice none 0 0) ⟨aA,aB,aC,aD,aE,aF⟩ _ _ _)) rfl (zbn (bS zb gb) (by omega) ?_ g5)
  omega
 ·skip
  go_wp2_with fail
  refine (zO (n % 2 != 0) _ _ _ _ _ g2.rd g3.rd L1.out L2.out _ H8.out HS).mono ?_
  clear ae ah af ai ag ak aA aD aB aE aC aF ck cx cm cy cu cB
  rintro e w5 ⟨ng5,a5_,n5_,c5_,p5_,m5_,k5_,rfl,g5,c9⟩
  replace g2:=g2.to c9
  replace g3:=g3.to c9
  replace gb:=bS gb c9
  obtain ⟨⟨z0,ae,af,ag,ah,ai,ak⟩,⟨z1,aA,aB,aC,aD,aE,aF⟩,⟨z6,ck,cm,cu,cx,cy,cB⟩⟩:=b7.out _ gb
  go_wp2_with fail
  refine bodyPost_ret (zn Try.results57 _ _ _ _ _ _ rfl (Tri.set (x0:=.bool false) (y0:=.slice none 0 0) (z0:=.slice none 0 0) ⟨aA,aB,aC,aD,aE,aF⟩ _ _ _)) rfl (zbn (bS zb gb) (by omega) ?_ g5)
  omega

theorem pow_neg {x:Rat} (b:Bool) (v u:Value) (ln ld:List Nat) (n:Int) (w:World) (h:IsQ w b v u ln ld x) (hn:-64<=n) (hn':n<0) (h0:x≠0) (hs:szq x*(-n).toNat<=4096) :
  Calls Try.prog 57 #[aggR b v u,.int .i64 n] w (zp w ((x ^ (-n).toNat)⁻¹)):=by
 have Hx:=zas h
 obtain ⟨K,hK⟩:∃ K,(max n (-n)).toNat=K:=⟨_,rfl⟩
 have hK2:(-n).toNat=K:=by omega
 have hK3:max n (-n)=(K:Int):=by omega
 rw [hK2] at hs
 rw [hK2]
 have HP1:=Lib.hid (pow_up (k:=max n (-n)) hs hK3)
 have HP2:=Lib.hid (pow_dn (k:=max n (-n)) hs hK3)
 have HK:=Lib.hid hK
 have HS:Hid (szq ((x ^ K)⁻¹)<=4097):=Nat.le_trans (zgb _) (ziS hs)
 have L1:=Lib.hid (show (zc (val (zc x.num.natAbs) ^ K)).length<=15000 from zep (zaq x) hs)
 have L2:=Lib.hid (show (zc (val (zc x.den) ^ K)).length<=15000 from zep (zac x) hs)
 have H9:=Lib.hid (pow_inv (x:=x) (n.tmod 2 != 0) (odd_neg hK3) h0)
 clear hs hK hK2 hK3
 have HX0:=Lib.hid h0
 clear h0
 obtain ⟨a0,n0,c0,rfl,H0,hm0⟩:=h.1.open
 obtain ⟨a1,n1,c1,rfl,H1,hm1⟩:=h.2.1.open
 go_enter Try.func57,Try.ntmps57
 go_wp2_with fail
 obtain ⟨W0,aq⟩:∃ W0,(w.alloc (.cells #[.bool b,.slice a0 n0 c0,.slice a1 n1 c1] 25)).alloc (.cells #[.bool false,.slice none 0 0,.slice none 0 0] 25)=W0:=⟨_,rfl⟩
 have al:=Lib.hid (show ∀ W',Below W0.heap.size W0 W'->(Bx3 W' w.heap.size (.bool b) (.slice a0 n0 c0) (.slice a1 n1 c1)/\Bx3 W' (w.heap.size+1) (.bool false) (.slice none 0 0) (.slice none 0 0)) from fun W' hb => by
   refine ⟨bx3 hb ?_ ?_ ?_ ?_ ?_ ?_,bx3 hb ?_ ?_ ?_ ?_ ?_ ?_⟩
   all_goals first|assumption|(rw [<- aq];simp [go_sem]))
 have zb:Below w.heap.size w W0:=by rw [<- aq];exact bS (bN _ _) (bN _ _)
 rw [aq]
 clear aq
 have i0:=h.to zb
 have gb:Below W0.heap.size W0 W0:=Below.refl _ _
 obtain ⟨⟨z0,ae,af,ag,ah,ai,ak⟩,⟨z1,aA,aB,aC,aD,aE,aF⟩⟩:=al.out _ gb
 refine (zaT b _ _ ln ld _ (i0.to gb) Hx).mono ?_
 clear ae ah af ai ag ak aA aD aB aE aC aF
 rintro e w1 ⟨ng1,a1_,n1_,c1_,p1_,m1_,k1_,rfl,g1,aT⟩
 replace gb:=bS gb aT
 obtain ⟨⟨z0,ae,af,ag,ah,ai,ak⟩,⟨z1,aA,aB,aC,aD,aE,aF⟩⟩:=al.out _ gb
 have hz1:0<n1_:=by have k:=g1.zeroQ (decide_eq_false HX0.out);simp at k;omega
 go_wp2_with fail
 obtain ⟨W1,aK⟩:∃ W1,w1.alloc (.cells #[.bool ng1,.slice a1_ n1_ c1_,.slice p1_ m1_ k1_] 112)=W1:=⟨_,rfl⟩
 have hb_W1:Below w1.heap.size w1 W1:=by rw [<- aK];exact bN _ _
 have cw:Hid (W1.heap.size=w1.heap.size+1):=by show _=_;rw [<- aK];simp
 clear ae ah af ai ag ak aA aD aB aE aC aF
 replace g1:=g1.to hb_W1
 replace gb:=bS gb hb_W1
 obtain ⟨⟨z0,ae,af,ag,ah,ai,ak⟩,⟨z1,aA,aB,aC,aD,aE,aF⟩⟩:=al.out _ gb
 have ck:W1.cell? ⟨w1.heap.size,0,none⟩=some (.bool ng1):=by rw [<- aK];simp [go_sem]
 have cx:W1.frozen? ⟨w1.heap.size,0,none⟩=false:=by rw [<- aK];simp [go_sem]
 have cm:W1.cell? ⟨w1.heap.size,1,none⟩=some (.slice a1_ n1_ c1_):=by rw [<- aK];simp [go_sem]
 have cy:W1.frozen? ⟨w1.heap.size,1,none⟩=false:=by rw [<- aK];simp [go_sem]
 have cu:W1.cell? ⟨w1.heap.size,2,none⟩=some (.slice p1_ m1_ k1_):=by rw [<- aK];simp [go_sem]
 have cB:W1.frozen? ⟨w1.heap.size,2,none⟩=false:=by rw [<- aK];simp [go_sem]
 have z6:w1.heap.size<W1.heap.size:=by rw [<- aK];simp
 rw [aK]
 clear aK
 replace i0:=i0.to gb
 replace zb:=bS zb gb
 have b7:=Lib.hid (show ∀ W',Below W1.heap.size W1 W'->(Bx3 W' w.heap.size (.bool b) (.slice a0 n0 c0) (.slice a1 n1 c1)/\Bx3 W' (w.heap.size+1) (.bool false) (.slice none 0 0) (.slice none 0 0)/\Bx3 W' w1.heap.size (.bool ng1) (.slice a1_ n1_ c1_) (.slice p1_ m1_ k1_)) from fun W' hb => by
   refine ⟨bx3 hb ?_ ?_ ?_ ?_ ?_ ?_,bx3 hb ?_ ?_ ?_ ?_ ?_ ?_,bx3 hb ?_ ?_ ?_ ?_ ?_ ?_⟩
   all_goals first|assumption|assumption)
 replace gb:=Below.refl W1.heap.size W1
 go_wp2_with fail
 refine (zbX _ _ _ _ (g1.to gb).isQ.up (Nat.le_trans (g1.to gb).isQ.lup (by omega)) HP1.out).mono ?_
 clear ae ah af ai ag ak aA aD aB aE aC aF ck cx cm cy cu cB
 rintro e w2 ⟨v2,rfl,g2,aL⟩
 obtain ⟨a2_,n2_,c2_,rfl,H2,hm2⟩:=g2.rd.open
 replace gb:=bS gb aL
 obtain ⟨⟨z0,ae,af,ag,ah,ai,ak⟩,⟨z1,aA,aB,aC,aD,aE,aF⟩,⟨z6,ck,cm,cu,cx,cy,cB⟩⟩:=b7.out _ gb
 rw [HK.out] at g2
 go_wp2_with fail
 refine (zbX _ _ _ _ (g1.to gb).isQ.dn (Nat.le_trans (g1.to gb).isQ.ldn (by omega)) HP2.out).mono ?_
 clear ae ah af ai ag ak aA aD aB aE aC aF ck cx cm cy cu cB
 rintro e w3 ⟨v3,rfl,g3,bM⟩
 obtain ⟨a3_,n3_,c3_,rfl,H3,hm3⟩:=g3.rd.open
 replace g2:=g2.to bM
 replace gb:=bS gb bM
 obtain ⟨⟨z0,ae,af,ag,ah,ai,ak⟩,⟨z1,aA,aB,aC,aD,aE,aF⟩,⟨z6,ck,cm,cu,cx,cy,cB⟩⟩:=b7.out _ gb
 rw [HK.out] at g3
 have H8:=Lib.hid (H9.out ng1 (g1.to gb).ng)
 cases ng1
 ·skip
  go_wp2_with fail
  refine (zO false _ _ _ _ _ g3.rd g2.rd L2.out L1.out _ H8.out HS).mono ?_
  clear ae ah af ai ag ak aA aD aB aE aC aF ck cx cm cy cu cB
  rintro e w5 ⟨ng5,a5_,n5_,c5_,p5_,m5_,k5_,rfl,g5,c9⟩
  replace g2:=g2.to c9
  replace g3:=g3.to c9
  replace gb:=bS gb c9
  obtain ⟨⟨z0,ae,af,ag,ah,ai,ak⟩,⟨z1,aA,aB,aC,aD,aE,aF⟩,⟨z6,ck,cm,cu,cx,cy,cB⟩⟩:=b7.out _ gb
  go_wp2_with fail
  refine bodyPost_ret (zn Try.results57 _ _ _ _ _ _ rfl (Tri.set (x0:=.bool false) (y0:=.slice none 0 0) (z0:=.slice none 0 0) ⟨aA,aB,aC,aD,aE,aF⟩ _ _ _)) rfl (zbn (bS zb gb) (by omega) ?_ g5)
  omega
 ·skip
  go_wp2_with fail
  refine (zO (n.tmod 2 != 0) _ _ _ _ _ g3.rd g2.rd L2.out L1.out _ H8.out HS).mono ?_
  clear ae ah af ai ag ak aA aD aB aE aC aF ck cx cm cy cu cB
  rintro e w5 ⟨ng5,a5_,n5_,c5_,p5_,m5_,k5_,rfl,g5,c9⟩
  replace g2:=g2.to c9
  replace g3:=g3.to c9
  replace gb:=bS gb c9
  obtain ⟨⟨z0,ae,af,ag,ah,ai,ak⟩,⟨z1,aA,aB,aC,aD,aE,aF⟩,⟨z6,ck,cm,cu,cx,cy,cB⟩⟩:=b7.out _ gb
  go_wp2_with fail
  refine bodyPost_ret (zn Try.results57 _ _ _ _ _ _ rfl (Tri.set (x0:=.bool false) (y0:=.slice none 0 0) (z0:=.slice none 0 0) ⟨aA,aB,aC,aD,aE,aF⟩ _ _ _)) rfl (zbn (bS zb gb) (by omega) ?_ g5)
  omega

end Go.Proofs.Ytkjcdnlpjldhaaa


namespace Go.Proofs.Ytkjcdnlpjldhaaa
open Go.RowKit Tw

structure Rt where
 ng:Bool
 n:List Nat
 d:List Nat

structure Ins where
 op:Int
 to:Int
 a:Int
 b:Int
 q:Rt

structure Cd where
 ins:Int
 rows:Int
 cols:Int
 regs:Int
 all:List Ins

def Rt.num (x:Rt):Rat:=rat x.ng (val x.n) (val x.d)

def zh (op:Int):Int:=if op=0\/op=1 then 0 else if (2<=op/\op<=5)\/op=8\/op=9 then 2 else if op=6\/op=7\/op=10 then 1 else -1

def zbo (x:Ins):Bool :=
 if x.op=1 then zdE x.q.ng x.q.n x.q.d x.q.num && decide ((zbH (val x.q.n)).length<=40) && decide ((zbH (val x.q.d)).length<=40)
 else !x.q.ng && decide (x.q.n.length=0) && decide (x.q.d.length=0)

def aOk (c:Cd) (L:List Int) (x:Ins):Bool:=if x.op=0 then decide (0<=x.a/\x.a<c.ins) else if x.op=1 then decide (x.a=0) else decide (x.a ∈ L)

def bOk (L:List Int) (x:Ins):Bool:=if x.op=7 then decide (-21<=x.b/\x.b<=21) else if zh x.op=2 then decide (x.b ∈ L) else decide (x.b=0)

def zJ (c:Cd) (x:Ins):Int:=if x.op=10 then c.rows*c.cols else c.regs

def zw (c:Cd) (L:List Int) (x:Ins):Bool:=decide (0<=zh x.op) && zbo x && aOk c L x && bOk L x && decide (0<=x.to/\x.to<zJ c x)

def more (L:List Int) (x:Ins):List Int:=if x.op=10 then L else L++[x.to]

def zaj (c:Cd):List Int->List Ins->Bool
 | _,[] => true
 | L,x :: t => zw c L x && zaj c (more L x) t

def zbV (c:Cd):Bool:=decide (1<=c.ins/\c.ins<=40/\1<=c.rows/\c.rows<=40/\c.cols=c.ins/\0<=c.regs/\c.regs<=100000/\c.all.length<=100000)

def zS (c:Cd):Bool:=zbV c && zaj c [] c.all

def upd {α:Type} (f:Int->α) (i:Int) (v:α):Int->α:=fun j => if j=i then v else f j

theorem zbh {α:Type} (f:Int->α) (i:Int) (v:α):upd f i v i=v:=if_pos rfl

theorem zby {α:Type} (f:Int->α) {i j:Int} (v:α) (h:j≠i):upd f i v j=f j:=if_neg h

def wOf (wt:Int->Int) (x:Ins):Int :=
 min ((fun n => if x.op=7 then n*max 1 (max x.b (-x.b)) else n) ((fun n => if zh x.op=2 then n+wt x.b else n) (if 1<=zh x.op then wt x.a else 1))) 1000000

def zbj:(Int->Int)->Int->List Ins->Int
 | _,m,[] => m
 | wt,m,x :: t => if x.op=10 then zbj wt m t else zbj (upd wt x.to (wOf wt x)) (max m (wOf wt x)) t

def zey (c:Cd):Int:=if zS c then zbj (fun _ => 0) 0 c.all else 0

def opE (R:Int->Rat) (x:Ins):Int :=
 if x.op=5 then (if R x.b=0 then 3 else 0)
 else if x.op=7 then (if R x.a=0/\x.b<0 then 3 else if 4096<szq (R x.a)*x.b.natAbs then 4 else 0) else 0

def opV (p:List Rat) (R:Int->Rat) (x:Ins):Rat :=
 if x.op=0 then p.getD x.a.toNat 0 else if x.op=1 then x.q.num else if x.op=2\/x.op=9 then R x.a+R x.b else if x.op=3 then R x.a - R x.b
 else if x.op=4\/x.op=8 then R x.a*R x.b else if x.op=5 then R x.a / R x.b else if x.op=6 then -R x.a
 else if x.op=7 then (if x.b<0 then (R x.a ^ x.b.natAbs)⁻¹ else R x.a ^ x.b.natAbs) else R x.a

def zB (p:List Rat) (R:Int->Rat) (x:Ins):Int:=if opE R x≠0 then opE R x else if x.op≠10/\4096<szq (opV p R x) then 4 else 0

structure St where
 R:Int->Rat
 J:Int->Rat
 k:Int
 t:Int

def St.next (p:List Rat) (s:St) (x:Ins):St :=
 if x.op=10 then { s with J:=upd s.J x.to (opV p s.R x),k:=s.k+1 } else { s with R:=upd s.R x.to (opV p s.R x),k:=s.k+1,t:=if x.op=8 then s.t+1 else s.t }

def St.zero:St:=⟨fun _ => 0,fun _ => 0,0,0⟩

def zci (p:List Rat):St->List Ins->Int
 | _,[] => 0
 | s,x :: t => if zB p s.R x≠0 then zB p s.R x else zci p (s.next p x) t

def zbg (p:List Rat):St->List Ins->St
 | s,[] => s
 | s,x :: t => zbg p (s.next p x) t

def zaL (S:Nat) (p:List Rat):St->List Ins->Prop
 | _,[] => True
 | s,x :: t => (opE s.R x=0->szq (opV p s.R x)<=S/\(x.op=7->szq (s.R x.a)*x.b.natAbs<S))/\(zB p s.R x=0->zaL S p (s.next p x) t)

theorem zbp (op:Int) (h:0<=zh op):op=0\/op=1\/op=2\/op=3\/op=4\/op=5\/op=6\/op=7\/op=8\/op=9\/op=10:=by
 unfold zh at h
 split at h
 ·omega
 ·split at h
  ·omega
  ·split at h
   ·omega
   ·omega

theorem zju {op:Int} (h:¬ (0<=op/\op<=10)):zh op=-1:=by
 unfold zh
 rw [if_neg (by omega),if_neg (by omega),if_neg (by omega)]

theorem more_in {L:List Int} {x:Ins} {c:Cd} (h:∀ r ∈ L,0<=r/\r<c.regs) (hx:zw c L x=true):∀ r ∈ more L x,0<=r/\r<c.regs:=by
 intro r hr
 unfold more at hr
 split at hr
 ·exact h r hr
 ·rename_i ho
  rcases List.mem_append.1 hr with hr|hr
  ·exact h r hr
  ·rw [List.mem_singleton.1 hr]
   unfold zw zJ at hx
   simp only [Bool.and_eq_true,decide_eq_true_eq] at hx
   have:=hx.2
   rw [if_neg ho] at this
   exact this

end Go.Proofs.Ytkjcdnlpjldhaaa


namespace Go.Proofs.Ytkjcdnlpjldhaaa
open Go.RowKit Tw

def I64 (z:Int):Prop:=-9223372036854775808<=z/\z<9223372036854775808

def At3 (w:World) (b o:Nat) (x:Rt):Prop :=
 ∃ vn vd,w.cell? ⟨b,o,none⟩=some (.bool x.ng)/\w.cell? ⟨b,o+1,none⟩=some vn/\w.cell? ⟨b,o+2,none⟩=some vd/\Rd w vn x.n/\Rd w vd x.d

def At7 (w:World) (b o:Nat) (x:Ins):Prop :=
 w.cell? ⟨b,o,none⟩=some (.int .i64 x.op)/\w.cell? ⟨b,o+1,none⟩=some (.int .i64 x.to)/\w.cell? ⟨b,o+2,none⟩=some (.int .i64 x.a)/\w.cell? ⟨b,o+3,none⟩=some (.int .i64 x.b) /\
  At3 w b (o+4) x.q/\I64 x.op/\I64 x.to/\I64 x.a/\I64 x.b

theorem At3.to {w w':World} {b o:Nat} {x:Rt} (h:At3 w b o x) (hb:Below w.heap.size w w'):At3 w' b o x:=by
 obtain ⟨vn,vd,h0,h1,h2,hn,hd⟩:=h
 have hl:=zj h0
 exact ⟨vn,vd,(hb.cell (p:=⟨b,o,none⟩) hl).trans h0,(hb.cell (p:=⟨b,o+1,none⟩) hl).trans h1,(hb.cell (p:=⟨b,o+2,none⟩) hl).trans h2,hn.to hb,hd.to hb⟩

theorem At7.to {w w':World} {b o:Nat} {x:Ins} (h:At7 w b o x) (hb:Below w.heap.size w w'):At7 w' b o x:=by
 obtain ⟨h0,h1,h2,h3,h4,h5⟩:=h
 have hl:=zj h0
 exact ⟨(hb.cell (p:=⟨b,o,none⟩) hl).trans h0,(hb.cell (p:=⟨b,o+1,none⟩) hl).trans h1,(hb.cell (p:=⟨b,o+2,none⟩) hl).trans h2,(hb.cell (p:=⟨b,o+3,none⟩) hl).trans h3,h4.to hb,h5⟩

def RdC (w:World) (v:Value) (l:List Ins):Prop :=
 ∃ a cap,v=.slice a l.length cap/\l.length<=cap/\cap<=maxLen/\∀ i (h:i<l.length),∃ b off,a=some ⟨b,off,none⟩/\At7 w b (off+i*7) l[i]

def RdR (w:World) (v:Value) (l:List Rt):Prop :=
 ∃ a cap,v=.slice a l.length cap/\l.length<=cap/\cap<=maxLen/\∀ i (h:i<l.length),∃ b off,a=some ⟨b,off,none⟩/\At3 w b (off+i*3) l[i]

theorem RdC.to {w w':World} {v:Value} {l:List Ins} (h:RdC w v l) (hb:Below w.heap.size w w'):RdC w' v l:=by
 obtain ⟨a,cap,hv,h1,h2,h3⟩:=h
 exact ⟨a,cap,hv,h1,h2,fun i hi => let ⟨b,off,e,k⟩:=h3 i hi;⟨b,off,e,k.to hb⟩⟩

theorem RdR.to {w w':World} {v:Value} {l:List Rt} (h:RdR w v l) (hb:Below w.heap.size w w'):RdR w' v l:=by
 obtain ⟨a,cap,hv,h1,h2,h3⟩:=h
 exact ⟨a,cap,hv,h1,h2,fun i hi => let ⟨b,off,e,k⟩:=h3 i hi;⟨b,off,e,k.to hb⟩⟩

theorem RdC.drew {w:World} {v:Value} {l:List Ins} (h:RdC w v l):RdC w.drew v l:=h.to (Below.refl _ _).drew

theorem RdR.drew {w:World} {v:Value} {l:List Rt} (h:RdR w v l):RdR w.drew v l:=h.to (Below.refl _ _).drew

theorem RdC.open {w:World} {v:Value} {l:List Ins} (h:RdC w v l):∃ a n cap,v=.slice a n cap/\Hid (l.length=n)/\n<=maxLen:=by
 obtain ⟨a,cap,hv,h1,h2,_⟩:=h
 exact ⟨a,_,cap,hv,rfl,by omega⟩

theorem RdR.open {w:World} {v:Value} {l:List Rt} (h:RdR w v l):∃ a n cap,v=.slice a n cap/\Hid (l.length=n)/\n<=maxLen:=by
 obtain ⟨a,cap,hv,h1,h2,_⟩:=h
 exact ⟨a,_,cap,hv,rfl,by omega⟩

theorem RdC.nth {w:World} {a:Option Addr} {n cap:Nat} {l:List Ins} (h:RdC w (.slice a n cap) l) {i:Nat} (hi:i<l.length):∃ b off,a=some ⟨b,off,none⟩/\At7 w b (off+i*7) l[i]:=by
 obtain ⟨a',cap',hv,_,_,h3⟩:=h
 injection hv with e1 e2 e3
 subst e1
 exact h3 i hi

theorem RdR.nth {w:World} {a:Option Addr} {n cap:Nat} {l:List Rt} (h:RdR w (.slice a n cap) l) {i:Nat} (hi:i<l.length):∃ b off,a=some ⟨b,off,none⟩/\At3 w b (off+i*3) l[i]:=by
 obtain ⟨a',cap',hv,_,_,h3⟩:=h
 injection hv with e1 e2 e3
 subst e1
 exact h3 i hi

theorem At3.isQ {w:World} {b o:Nat} {x:Rt} (h:At3 w b o x) (h1:x.n.length<=4097) (h2:x.d.length<=4097) :
  ∃ vn vd,w.cell? ⟨b,o,none⟩=some (.bool x.ng)/\w.cell? ⟨b,o+1,none⟩=some vn/\w.cell? ⟨b,o+2,none⟩=some vd/\IsQ w x.ng vn vd x.n x.d x.num:=by
 obtain ⟨vn,vd,h0,h1',h2',hn,hd⟩:=h
 exact ⟨vn,vd,h0,h1',h2',hn,hd,rfl,h1,h2⟩

abbrev aggC (c:Cd) (v:Value):Value:=.agg #[.int .i64 c.ins,.int .i64 c.rows,.int .i64 c.cols,.int .i64 c.regs,v]

def IsC (w:World) (c:Cd) (v:Value):Prop:=RdC w v c.all/\I64 c.ins/\I64 c.rows/\I64 c.cols/\I64 c.regs

theorem IsC.to {w w':World} {c:Cd} {v:Value} (h:IsC w c v) (hb:Below w.heap.size w w'):IsC w' c v:=⟨h.1.to hb,h.2⟩

def IsX (w:World) (x:Ins) (vn vd:Value):Prop:=IsQ w x.q.ng vn vd x.q.n x.q.d x.q.num/\I64 x.op/\I64 x.to/\I64 x.a/\I64 x.b

theorem IsX.to {w w':World} {x:Ins} {vn vd:Value} (h:IsX w x vn vd) (hb:Below w.heap.size w w'):IsX w' x vn vd:=⟨h.1.to hb,h.2⟩

theorem IsX.drew {w:World} {x:Ins} {vn vd:Value} (h:IsX w x vn vd):IsX w.drew x vn vd:=⟨h.1.drew,h.2⟩

theorem IsC.drew {w:World} {c:Cd} {v:Value} (h:IsC w c v):IsC w.drew c v:=⟨h.1.drew,h.2⟩

theorem At7.isX {w:World} {b o:Nat} {x:Ins} (h:At7 w b o x) (h1:x.q.n.length<=4097) (h2:x.q.d.length<=4097) :
  ∃ vn vd,w.cell? ⟨b,o,none⟩=some (.int .i64 x.op)/\w.cell? ⟨b,o+1,none⟩=some (.int .i64 x.to)/\w.cell? ⟨b,o+2,none⟩=some (.int .i64 x.a)/\w.cell? ⟨b,o+3,none⟩=some (.int .i64 x.b) /\
   w.cell? ⟨b,o+4,none⟩=some (.bool x.q.ng)/\w.cell? ⟨b,o+5,none⟩=some vn/\w.cell? ⟨b,o+6,none⟩=some vd/\IsX w x vn vd:=by
 obtain ⟨c0,c1,c2,c3,c4,h5⟩:=h
 obtain ⟨vn,vd,d0,d1,d2,hq⟩:=c4.isQ h1 h2
 exact ⟨vn,vd,c0,c1,c2,c3,d0,d1,d2,hq,h5⟩

def zaV (S:Nat) (l:List Ins):Prop:=∀ x ∈ l,x.q.n.length<=S/\x.q.d.length<=S

end Go.Proofs.Ytkjcdnlpjldhaaa


namespace Go.Proofs.Ytkjcdnlpjldhaaa
open Go.RowKit Tw
attribute [local go_sem ↓] Go.wp_at_zero Go.wp_at_succ

theorem zfa (v v':Value) (l:List Rt) (w:World) (h:RdR w v l) (h':RdR w v' l) (hl:l.length<=100000) :
  Calls Try.prog 14 #[v,v'] w (fun e w' => e=.returned (.bool true)/\Below w.heap.size w w'):=by
 obtain ⟨a,n,cap,rfl,H0,hm⟩:=h.open
 obtain ⟨a',n',cap',rfl,H0',hm'⟩:=h'.open
 obtain rfl:n=n':=by rw [<- H0.out,H0'.out]
 have hn:n<=100000:=by have:=H0.out;omega
 clear hl hm hm'
 go_enter Try.func14,Try.ntmps14
 go_wp2_with fail
 go_loopw [5] (fun i ww => ∃ k:Nat,k<=n/\i=.int .i64 k/\Below w.heap.size w ww) (fun i _ => n - (intOf i).toNat)
 case atStart => exact ⟨0,Nat.zero_le _,rfl,Below.refl _ _⟩
 case round =>
  obtain ⟨k,hk,rfl,gb⟩:=hrel
  by_cases hkn:k<n
  ·have hki:(k:Int)<(n:Int):=by omega
   have hkl:k<l.length:=by rw [H0.out];exact hkn
   obtain ⟨b,off,rfl,h3⟩:=h.nth hkl
   obtain ⟨b',off',rfl,h3'⟩:=h'.nth hkl
   obtain ⟨x,hx⟩:∃ x,l[k]=x:=⟨_,rfl⟩
   rw [hx] at h3 h3'
   obtain ⟨vn,vd,s0,s1,s2,hn1,hd1⟩:=h3
   obtain ⟨vn',vd',r0,r1,r2,hn2,hd2⟩:=h3'
   obtain ⟨a1,n1,c1,rfl,H1,hm1⟩:=hn1.open
   obtain ⟨a2,n2,c2,rfl,H2,hm2⟩:=hd1.open
   obtain ⟨a3,n3,c3,rfl,H3,hm3⟩:=hn2.open
   obtain ⟨a4,n4,c4,rfl,H4,hm4⟩:=hd2.open
   have HS:Hid (∀ W',Below w.heap.size w W'->W'.cell? ⟨b,off+k*3,none⟩=some (.bool x.ng)/\W'.cell? ⟨b,off+k*3+1,none⟩=some (.slice a1 n1 c1)/\W'.cell? ⟨b,off+k*3+2,none⟩=some (.slice a2 n2 c2) /\
     W'.cell? ⟨b',off'+k*3,none⟩=some (.bool x.ng)/\W'.cell? ⟨b',off'+k*3+1,none⟩=some (.slice a3 n3 c3)/\W'.cell? ⟨b',off'+k*3+2,none⟩=some (.slice a4 n4 c4)):=fun W' hb =>
    ⟨(hb.cell (p:=⟨b,off+k*3,none⟩) (zj s0)).trans s0,(hb.cell (p:=⟨b,off+k*3+1,none⟩) (zj s1)).trans s1,(hb.cell (p:=⟨b,off+k*3+2,none⟩) (zj s2)).trans s2,
     (hb.cell (p:=⟨b',off'+k*3,none⟩) (zj r0)).trans r0,(hb.cell (p:=⟨b',off'+k*3+1,none⟩) (zj r1)).trans r1,(hb.cell (p:=⟨b',off'+k*3+2,none⟩) (zj r2)).trans r2⟩
   have HF1:=Lib.hid (show IsF w (.slice a1 n1 c1) (.slice a2 n2 c2) x.n x.d from ⟨hn1,hd1⟩)
   have HF2:=Lib.hid (show IsF w (.slice a3 n3 c3) (.slice a4 n4 c4) x.n x.d from ⟨hn2,hd2⟩)
   clear s0 s1 s2 r0 r1 r2 hn1 hd1 hn2 hd2 hx h h' hm1 hm2 hm3 hm4
   obtain ⟨s0,s1,s2,r0,r1,r2⟩:=HS.out _ gb
   go_wp2_with fail
   go_region_held3 (fun W' => W'.cell? ⟨b,off+k*3,none⟩=some (.bool x.ng)/\W'.cell? ⟨b,off+k*3+1,none⟩=some (.slice a1 n1 c1)/\W'.cell? ⟨b,off+k*3+2,none⟩=some (.slice a2 n2 c2) /\
     W'.cell? ⟨b',off'+k*3,none⟩=some (.bool x.ng)/\W'.cell? ⟨b',off'+k*3+1,none⟩=some (.slice a3 n3 c3)/\W'.cell? ⟨b',off'+k*3+2,none⟩=some (.slice a4 n4 c4)) (exact ⟨s0,s1,s2,r0,r1,r2⟩) (first
    | (go_at_call 25;have gb:=gb.drew;(with_reducible refine (zhY x.ng _ _ x.n x.d x.ng _ _ x.n x.d _ (HF1.out.to gb) (HF2.out.to gb) true (show (x.ng == x.ng && decide (x.n=x.n) && decide (x.d=x.d))=true by simp)).mono ?_);rintro e w3 ⟨rfl,bM⟩;have gb:=bS gb bM;obtain ⟨s0,s1,s2,r0,r1,r2⟩:=HS.out _ gb))
   clear s0 s1 s2 r0 r1 r2
   go_wp2_with fail
   go_roundw
   case rel => exact ⟨k+1,by omega,by go_num,gb⟩
   case measure => simp [intOf] <;> omega
  ·obtain rfl:k=n:=by omega
   go_wp2_with fail
   go_ret
   exact ⟨rfl,gb⟩

theorem zec (rows cols:Int) (v v':Value) (l:List Rt) (w:World) (h:RdR w v l) (h':RdR w v' l) (hl:l.length<=100000) :
  Calls Try.prog 7 #[.agg #[.int .i64 rows,.int .i64 cols,v],.agg #[.int .i64 rows,.int .i64 cols,v']] w (fun e w' => e=.returned (.bool true)/\Below w.heap.size w w'):=by
 have Hl:=Lib.hid hl
 clear hl
 obtain ⟨a0,n0,c0,rfl,H0,hm0⟩:=h.open
 obtain ⟨a1,n1,c1,rfl,H1,hm1⟩:=h'.open
 go_enter Try.func7,Try.ntmps7
 go_wp2_with fail
 obtain ⟨W0,aq⟩:∃ W0,(w.alloc (.cells #[.int .i64 rows,.int .i64 cols,.slice a0 n0 c0] 34)).alloc (.cells #[.int .i64 rows,.int .i64 cols,.slice a1 n1 c1] 34)=W0:=⟨_,rfl⟩
 have al:=Lib.hid (show ∀ W',Below W0.heap.size W0 W'->(Bx3 W' w.heap.size (.int .i64 rows) (.int .i64 cols) (.slice a0 n0 c0)/\Bx3 W' (w.heap.size+1) (.int .i64 rows) (.int .i64 cols) (.slice a1 n1 c1)) from fun W' hb => by
   refine ⟨bx3 hb ?_ ?_ ?_ ?_ ?_ ?_,bx3 hb ?_ ?_ ?_ ?_ ?_ ?_⟩
   all_goals first|assumption|(rw [<- aq];simp [go_sem]))
 have zb:Below w.heap.size w W0:=by rw [<- aq];exact bS (bN _ _) (bN _ _)
 rw [aq]
 clear aq
 have i0:=h.to zb
 have i1:=h'.to zb
 have gb:Below W0.heap.size W0 W0:=Below.refl _ _
 obtain ⟨⟨z0,ae,af,ag,ah,ai,ak⟩,⟨z1,aA,aB,aC,aD,aE,aF⟩⟩:=al.out _ gb
 go_wp2_with fail
 refine (zfa _ _ l _ (i0.to gb) (i1.to gb) Hl.out).mono ?_
 clear ae ah af ai ag ak aA aD aB aE aC aF
 rintro e w1 ⟨rfl,aT⟩
 replace gb:=bS gb aT
 obtain ⟨⟨z0,ae,af,ag,ah,ai,ak⟩,⟨z1,aA,aB,aC,aD,aE,aF⟩⟩:=al.out _ gb
 go_wp2_with fail
 go_ret
 exact ⟨rfl,bS zb gb⟩

end Go.Proofs.Ytkjcdnlpjldhaaa


namespace Go.Proofs.Ytkjcdnlpjldhaaa
open Go.RowKit Tw
attribute [local go_sem ↓] Go.wp_at_zero Go.wp_at_succ

end Go.Proofs.Ytkjcdnlpjldhaaa

