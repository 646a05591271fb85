/-
  The texts Ref3, Ref3b, SplitDiv, Whole, SplitRoot, Ref4, Ref5, merged.
-/
import Derived.Test.YtkjcdnlpjldhaaaG05
import Derived.Deep.RegionLaw
import Derived.Deep.OwnRows
import Derived.Test.YtkjcdnlpjldhaaaG01
set_option linter.unusedVariables false
set_option linter.unusedSimpArgs false
set_option maxRecDepth 100000
set_option maxHeartbeats 400000000
namespace Go.Proofs.Ytkjcdnlpjldhaaa
open Go.RowKit Tw

theorem zjF {X la:List Nat} {k c wd C x s q:Nat} (hX:X.length=k) (hv:val X+B ^ k*c=val (la.take k)*wd+C) (hx:nth la k*wd+c=x) (hs:x % 4294967296=s) (hq:x / 4294967296=q) :
  val (X++[s])+B ^ (k+1)*q=val (la.take (k+1))*wd+C:=by
 rw [zct,hX,zm]
 have h:=zfo (S:=val X) (Sz:=0) (A:=val (la.take k)) (k:=k) (c:=c) (x:=nth la k) (z:=0) (w:=wd) (q:=q) (s:=s) (o:=C) (by rw [Nat.zero_add];exact hv) (by rw [Nat.add_zero,hx];exact hq) (by rw [Nat.add_zero,hx];exact hs)
 rw [Nat.mul_zero,Nat.zero_add] at h
 exact h

theorem zdf (va:Value) (la:List Nat) (wd c:Int) (w:World) (ha:Rd w va la) (hla:la.length<=1000000) (wd0:0<=wd) (wd1:wd<4294967296) (c0:0<=c) (c1:c<4294967296) :
  Calls Try.prog 63 #[va,.int .u32 wd,.int .u32 c] w (zcg w (zc (val la*wd.toNat+c.toNat))):=by
 obtain ⟨wd,rfl⟩:=Int.eq_ofNat_of_zero_le wd0
 obtain ⟨C,rfl⟩:=Int.eq_ofNat_of_zero_le c0
 simp only [Int.toNat_natCast]
 obtain ⟨aa,na,capa,rfl,Hna,_⟩:=ha.open
 have hna:na<=1000000:=by have:=Hna.out;omega
 go_enter Try.func63,Try.ntmps63
 go_wp2_with fail
 go_loopw [7,8,9,10] (fun v c i _ ww => ∃ (k cc:Nat) (X:List Nat),k<=na/\cc<4294967296/\i=.int .i64 k/\c=.int .u64 cc/\Own w.heap.size ww v X/\Below w.heap.size w ww/\Hid (X.length=k) /\
   Hid (val X+B ^ k*cc=val (la.take k)*wd+C)) (fun _ _ i _ _ => na - (intOf i).toNat)
 case atStart => exact ⟨0,C,[],by omega,by omega,rfl,rfl,Own.nil _ _,Below.refl _ _,rfl,by unfold Hid;simp [val]⟩
 case round =>
  obtain ⟨k,c,X,hk,hc,rfl,rfl,hown,hbw,HX,HV⟩:=hrel
  have hlx:X.length<=1000001:=by have:=HX.out;omega
  by_cases hkn:k<na
  ·obtain ⟨b,o,rfl,hcell⟩:=(ha.to hbw).cells (by rw [Hna.out];omega)
   have hck:=hcell k (by rw [Hna.out];omega)
   have hx:=ha.1.nth k
   simp only [zam] at hx
   clear hcell
   have hm:nth la k*wd<=4294967295*4294967295:=Nat.mul_le_mul (by omega) (by omega)
   have hm2:(nth la k:Int)*wd<=4294967295*4294967295:=Int.mul_le_mul (by omega) (by omega) (by omega) (by omega)
   have hm3:0<=(nth la k:Int)*wd:=Int.mul_nonneg (by omega) (by omega)
   have E:=Lib.hid (show (nth la k:Int)*wd+c=((nth la k*wd+c:Nat):Int) by push_cast;rfl)
   have hst:=Lib.hid (zjF HX.out HV.out rfl rfl rfl)
   have Hq:=Lib.hid (show ((nth la k:Int)*wd+c) / 4294967296=(((nth la k*wd+c) / 4294967296:Nat):Int) by rw [E.out];omega)
   have Hs:=Lib.hid (show ((nth la k:Int)*wd+c) % 4294967296=(((nth la k*wd+c) % 4294967296:Nat):Int) by rw [E.out];omega)
   have hq1:(nth la k*wd+c) / 4294967296<4294967296:=by omega
   have Hsl:=Lib.hid (show (nth la k*wd+c) % 4294967296<4294967296 by omega)
   generalize (nth la k*wd+c) / 4294967296=q at *
   generalize (nth la k*wd+c) % 4294967296=s at *
   have hrd:Rd (wr.alloc (.cells #[.int .u32 (((nth la k:Int)*wd+c) % 4294967296)] 31)) (.slice (some ⟨wr.heap.size,0,none⟩) 1 1) [s]:=by
    rw [Hs.out]
    exact (zaJ wr _ [s] rfl (zbQ Hsl.out) (by simp [maxLen])).rd
   have Hrd:=Lib.hid hrd
   clear hrd hm
   go_wp2_with (at_builtin;refine zaZ _ rfl (.tmp 29) (.tmp 33) rfl w.heap.size _ _ X [s] rfl rfl (hown.alloc _) Hrd.out (by have:=hbw.size;simp;omega) (by simp;omega) ?_;intro v2 w2 hown2 aL da)
   go_roundw
   case rel => exact ⟨k+1,q,X++[s],by omega,hq1,by go_num,zr Hq.out,hown2,(hbw.alloc hbw.size _).trans aL,by unfold Hid;rw [List.length_append,HX.out];rfl,hst⟩
   case measure => simp [intOf];omega
  ·have hkn2:k=na:=by omega
   subst hkn2
   have Hv:=Lib.hid (show val (X++[c])=val la*wd+C by
    have h1:=HV.out
    rw [zv (l:=la) (by rw [Hna.out];exact Nat.le_refl _)] at h1
    rw [zct,HX.out];exact h1)
   go_wp2_with (at_builtin;refine zaZ _ rfl (.tmp 37) (.tmp 40) rfl w.heap.size _ _ X [c] rfl rfl (hown.alloc _) (zaJ wr _ [c] rfl (zbQ hc) (by simp [maxLen])).rd (by have:=hbw.size;simp;omega) (by simp;omega) ?_;intro v2 w2 hown2 aL da)
   refine (zT _ _ _ hown2.rd (by simp;omega)).mono ?_
   rintro e w3 ⟨v,rfl,hv,bM⟩
   go_wp2_with fail
   go_ret
   exact ⟨_,rfl,by rw [<- Hv.out];exact hv.mono da,((hbw.alloc hbw.size _).trans aL).trans (bM.mono da)⟩

end Go.Proofs.Ytkjcdnlpjldhaaa


namespace Go.Proofs.Ytkjcdnlpjldhaaa
open Go.RowKit Tw

theorem lit1' (w:World) {n a:Nat} (hn:n=w.heap.size) (ha:a<4294967296):Rd (w.alloc (.cells #[zau a] 31)) (.slice (some ⟨n,0,none⟩) 1 1) [a]:=by
 subst hn;exact (zbK w [a] (zbQ ha) (by simp [maxLen])).rd

theorem zio (j:Nat):sz (2 ^ j)<=j+1:=by
 apply zcK
 exact Nat.lt_of_lt_of_le (Nat.pow_lt_pow_right (by omega) (Nat.lt_succ_self j)) (Nat.pow_le_pow_left B_two _)

theorem zhW (va:Value) (la:List Nat) (k:Int) (w:World) (ha:Rd w va la) (hla:la.length<=100000) (hk:k<=100000) :
  Calls Try.prog 62 #[va,.int .i64 k] w (zcg w (zc (val la*2 ^ k.toNat))):=by
 have hsl:=zu ha.1
 obtain ⟨K,hK,hK1⟩:∃ K:Nat,k.toNat=K/\(K:Int)<=100000:=⟨k.toNat,rfl,by omega⟩
 have hkK:k<=K:=by omega
 have hKk:K=0\/(K:Int)<=k:=by omega
 rw [hK]
 clear hK
 by_cases hz:val la=0
 ·have Hfin:=Lib.hid (show zc (val la*2 ^ K)=[] by rw [hz,Nat.zero_mul];rfl)
  have Hl0:=Lib.hid (show zc (val la)=[] by rw [hz];rfl)
  clear hz
  go_enter Try.func62,Try.ntmps62
  go_wp2_with fail
  refine (zT _ la _ ha (by omega)).mono ?_
  rintro e w1 ⟨t,rfl,ht,aT⟩
  rw [Hl0.out] at ht
  obtain ⟨at1,nt,ct,rfl,Hnt,_⟩:=ht.rd.open
  obtain rfl:nt=0:=Hnt.out.symm
  go_wp2_with fail
  go_loop [5,6] (fun v i => v=.slice at1 0 ct/\i=.int .i64 0) (fun _ _ => 0)
  case atStart => exact ⟨rfl,rfl⟩
  case round =>
   obtain ⟨rfl,rfl⟩:=hrel
   by_cases hk0:0<k
   ·go_wp2_with fail
    go_ret
    exact ⟨_,rfl,by rw [Hfin.out];exact ht,aT⟩
   ·go_wp2_with fail
    go_ret
    exact ⟨_,rfl,by rw [Hfin.out];exact ht,aT⟩
 ·have Hz:=Lib.hid hz
  clear hz
  go_enter Try.func62,Try.ntmps62
  go_wp2_with fail
  refine (zT _ la _ ha (by omega)).mono ?_
  rintro e w1 ⟨t,rfl,ht,aT⟩
  go_wp2_with fail
  go_loopw [5,6] (fun v i ww => ∃ j:Nat,j<=K/\i=.int .i64 j/\Own w.heap.size ww v (zc (val la*2 ^ j))/\Below w.heap.size w ww) (fun _ i _ => K - (intOf i).toNat)
  case atStart => exact ⟨0,by omega,rfl,by rw [Nat.pow_zero,Nat.mul_one];exact ht,aT⟩
  case round =>
   obtain ⟨j,hj,rfl,hown,hbw⟩:=hrel
   by_cases hjk:(j:Int)<k
   ·have hne:val la*2 ^ j≠0:=Nat.mul_ne_zero Hz.out (Nat.ne_of_gt (Nat.pow_pos (by omega)))
    have jI:sz (val la*2 ^ j)≠0:=fun e => hne (zA.1 e)
    have c8:=zap (val la) (2 ^ j)
    have da:=zio j
    obtain ⟨a1,n1,c1,rfl,Hn1,_⟩:=hown.rd.open
    have hn1:0<n1:=by have:=Hn1.out;rw [ze] at this;omega
    have Hp:=Lib.hid (show val (zc (val la*2 ^ j))*(2:Int).toNat+(0:Int).toNat=val la*2 ^ (j+1) by
     rw [vL,Int.toNat_zero,Nat.add_zero,Nat.pow_succ,Nat.mul_assoc];rfl)
    have hjl:decide ((j:Int)<100000)=true:=decide_eq_true (by omega)
    have hjl2:(j:Int)<100000:=by omega
    clear hne jI
    go_wp2_with fail
    refine (zdf _ _ _ _ _ hown.rd (by show sz _<=_;omega) (by omega) (by omega) (by omega) (by omega)).mono ?_
    rintro e w2 ⟨v2,rfl,hv2,aL⟩
    rw [Hp.out] at hv2
    go_wp2_with fail
    go_roundw
    case rel => exact ⟨j+1,by omega,by go_num,hv2.mono hbw.size,hbw.trans (aL.mono hbw.size)⟩
    case measure => simp [intOf];omega
   ·obtain rfl:j=K:=by omega
    go_wp2_with fail
    go_ret
    exact ⟨_,rfl,hown,hbw⟩

end Go.Proofs.Ytkjcdnlpjldhaaa


namespace Go.Proofs.Ytkjcdnlpjldhaaa
open Go.RowKit Tw

theorem val_two':val [2]=2:=by decide

theorem zjc {base g n j D:Nat} {w:World} {Z la:List Nat} (hz:Own base w (.slice (some ⟨g,0,none⟩) n n) Z) (hzl:Z.length=n) (hj:j<n) (hll:la.length=n) (hla:Small la)
  (hD:0<D) (hv:val (Z.drop (j+1))=val (la.drop (j+1)) / D) :
  Hid (∃ Z',Own base (w.setCell ⟨g,j,none⟩ (.int .u32 (((nth la j+B*(val (la.drop (j+1)) % D)) / D:Nat):Int))) (.slice (some ⟨g,0,none⟩) n n) Z'/\Z'.length=n/\val (Z'.drop j)=val (la.drop j) / D):=by
 have hq:(nth la j+B*(val (la.drop (j+1)) % D)) / D<B:=zgz (hla.nth j) (Nat.mod_lt _ hD)
 exact ⟨Z.set j ((nth la j+B*(val (la.drop (j+1)) % D)) / D),zaY hz _ _ hq,by simpa using hzl,zhy hD (by omega) (by omega) hv⟩

theorem zhU {s:Nat} (h:s<=31):2 ^ s<=2147483648:=Nat.pow_le_pow_right (n:=2) (by omega) h

theorem own1_any (w:World) {x base:Nat} (hx:x<4294967296) (hb:base<=w.heap.size):Own base (w.alloc (.cells #[.int .u32 (x:Int)] 31)) (.slice (some ⟨w.heap.size,0,none⟩) 1 1) [x] :=
 (zbK w [x] (zbQ hx) (by simp [maxLen])).mono hb

theorem Own.setOther {base:Nat} {w:World} {v:Value} {l:List Nat} (h:Own base w v l) {p:Addr} (hp:p.block<base) (x:Value):Own base (w.setCell p x) v l:=by
 refine ⟨h.1,h.2.1,?_⟩
 rcases h.2.2 with h2|⟨g,cap,cur,hv,hg,hh,r⟩
 ·exact .inl h2
 ·exact .inr ⟨g,cap,cur,hv,hg,by rw [Below.heap_setCell w p x g (by omega)];exact hh,r⟩

theorem zdH (va vb:Value) (la lb:List Nat) (w:World) (ha:Rd w va la) (hb:Rd w vb lb) (hla:la.length<=90000) (hlb:lb.length<=90000) (hD:0<val lb) :
  Calls Try.prog 50 #[va,vb] w (zcO w (zc (val la / val lb)) (zc (val la % val lb))):=by
 obtain ⟨m,hm⟩:=zga hD
 have hm1:m<90000:=by have:=zu hb.1;omega
 have Hm:=Lib.hid hm
 have ht:=(zP (val lb)).nth m
 have ht0:=(zfP hD hm).1
 simp only [zam] at ht
 obtain ⟨c,hc⟩:∃ c,zD (nth (zc (val lb)) m)=c:=⟨_,rfl⟩
 have hc1:c<=32:=by rw [<- hc];exact zbB.2 (by omega)
 have hc0:1<=c:=by
  have h1:zD (nth (zc (val lb)) m)≠0:=fun e => by have:=zaC.1 e;omega
  omega
 have Hc:=Lib.hid (show zD ((nth (zc (val lb)) m:Int)).toNat=c by rw [Int.toNat_natCast];exact hc)
 obtain ⟨s,hs⟩:∃ s,s=32 - c:=⟨_,rfl⟩
 have jJ:s<=31:=by omega
 have Hs:=Lib.hid (show (max 0 (min ((32:Int) - c) 100000)).toNat=s by omega)
 have Hs2:=Lib.hid (show ((32:Int) - c).toNat=s by omega)
 have hp0:0<2 ^ s:=Nat.pow_pos (by omega)
 have hp1:=zhU jJ
 have Hpn:=Lib.hid (show ¬ zfq (val [2]) ((32:Int) - c) by
  rintro (h|⟨_,h⟩)
  ·omega
  ·have h2:(4096 / sz (val [2]):Nat)=4096:=by decide +kernel
   rw [h2] at h;omega)
 have hsA:sz (val la*2 ^ s)<=90001:=by
  have h1:=zap (val la) (2 ^ s)
  have h2:=zu ha.1
  have h3:=zbM (n:=2 ^ s) (by omega)
  omega
 have hsD:sz (val lb*2 ^ s)<=90001:=by
  have h1:=zap (val lb) (2 ^ s)
  have h2:=zu hb.1
  have h3:=zbM (n:=2 ^ s) (by omega)
  omega
 have hDD:0<val lb*2 ^ s:=Nat.mul_pos hD hp0
 have Hfq:=Lib.hid (show val la*2 ^ s / (val lb*2 ^ s)=val la / val lb from zgW hp0)
 have Hfr:=Lib.hid (show val la*2 ^ s % (val lb*2 ^ s) / 2 ^ s=val la % val lb from zgX hp0)
 clear hm hc hs
 go_enter Try.func50,Try.ntmps50
 go_wp2_with fail
 refine (zan _ _ _ hb (by omega)).mono ?_
 rintro e w1 ⟨v1,rfl,hv1,aT⟩
 obtain ⟨ab,nb,capb,rfl,Hnb,hnb0⟩:=hv1.rd.open
 have hnb:nb=m+1:=by have:=Hnb.out;rw [ze] at this;have:=Hm.out;omega
 have hnbp:0<nb:=by omega
 have hnbz:((nb:Int) == 0)=false:=by simp;omega
 have hnbi:(nb:Int) - 1=(m:Int):=by omega
 have Hnbi:=Lib.hid hnbi
 have hnb1:nb<=90001:=by omega
 clear hnb
 obtain ⟨bb,ob,rfl,hcb⟩:=hv1.rd.cells (by rw [Hnb.out];omega)
 have hcb2:=hcb m (by rw [Hnb.out];omega)
 clear hcb
 go_wp2_with fail
 refine (zfn _ _ (by omega) (by omega)).mono ?_
 rintro e w' ⟨rfl,rfl⟩
 rw [Hc.out]
 go_wp2_with fail
 refine (zdW _ la _ _ (ha.to aT) (by omega)).mono ?_
 rintro e w2 ⟨va2,rfl,hA,aL⟩
 rw [Hs.out] at hA
 go_wp2_with fail
 refine (zdW _ _ _ _ (hv1.rd.to aL) (by rw [Hnb.out];omega)).mono ?_
 rintro e w3 ⟨vb2,rfl,hBB,bM⟩
 rw [Hs.out,vL] at hBB
 have hA3:=hA.rd.to bM
 have hB3:=hBB.rd
 have d6:=bS (bS aT aL) bM
 have iS:=d6.size
 clear hcb2
 obtain ⟨aa,na,capa,rfl,Hna,hna0⟩:=hA3.open
 have hna:na<=90001:=by have:=Hna.out;rw [ze] at this;omega
 go_wp2_with (at_make;refine zbN _ rfl _ _ rfl _ _ _ _ na rfl rfl rfl rfl (by omega) ?_;intro w4 hown4 dA hs4)
 go_loopw [5,8] (fun r i ww => ∃ (k:Nat),k<=na/\i=.int .i64 ((k:Int) - 1)/\Own w.heap.size ww r (zc (val ((zc (val la*2 ^ s)).drop k) % (val lb*2 ^ s)))/\Below w3.heap.size w3 ww /\
   Hid (∃ Z,Own w.heap.size ww (.slice (some ⟨w3.heap.size,0,none⟩) na na) Z/\Z.length=na/\val (Z.drop k)=val ((zc (val la*2 ^ s)).drop k) / (val lb*2 ^ s))) (fun _ i _ => (intOf i+1).toNat)
 case atStart =>
  refine ⟨na,Nat.le_refl _,rfl,?_,dA,List.replicate na 0,hown4.mono iS,by simp,?_⟩
  ·rw [zbb (by rw [Hna.out];exact Nat.le_refl _),Nat.zero_mod,zt];exact Own.nil _ _
  ·rw [zbb (by simp),zbb (by rw [Hna.out];exact Nat.le_refl _)];simp
 case round =>
  obtain ⟨k,hk,rfl,hr,hbw,HZ⟩:=hrel
  have hsw:=Nat.le_trans iS hbw.size
  obtain ⟨Z,hz,hzl,hzv⟩:=HZ.out
  have Hzl:=Lib.hid hzl
  have Hzv:=Lib.hid hzv
  clear HZ hzl hzv
  have hA5:=hA3.to hbw
  have hB5:=hB3.to hbw
  rcases Nat.eq_zero_or_pos k with rfl|hpos
  ·have Hv:=Lib.hid (show val Z=val la / val lb by
    have h:=Hzv.out
    rw [List.drop_zero,List.drop_zero,vL,Hfq.out] at h;exact h)
   rw [List.drop_zero,vL] at hr
   have Hpw:=Lib.hid (show zc (val [2] ^ ((32:Int) - c).toNat)=[2 ^ s] by rw [Hs2.out,val_two',zeC (by omega) (by omega)])
   have hbz:=bS d6 hbw
   go_wp2_with fail
   refine (zbX _ [2] _ _ (lit1' wr rfl (by omega)) (by simp) Hpn.out).mono ?_
   rintro e w5 ⟨vp,rfl,hp,c9⟩
   rw [Hpw.out] at hp
   have hb5':=bS (bN _ _) c9
   obtain ⟨bp,op,cp,hvp,hcp⟩:=hp.rd.cells' (by simp)
   subst hvp
   have hcp0:=hcp 0 (by simp)
   simp only [zah,List.getD_cons_zero,Nat.add_zero] at hcp0
   clear hcp
   go_wp2_with fail
   refine (zcs _ _ _ _ (hr.rd.to hb5') (by rw [ze];have:=sz_mod (val la*2 ^ s) (val lb*2 ^ s);omega) (by omega) (by omega)).mono ?_
   rintro e w6 ⟨vr,rfl,hr6,ef⟩
   rw [vL,Int.toNat_natCast,Hfr.out] at hr6
   have hb6':=bS hb5' ef
   go_wp2_with fail
   refine (zan _ _ _ (hz.rd.to hb6') (by rw [Hzl.out];omega)).mono ?_
   rintro e w7 ⟨vq,rfl,hq7,eh⟩
   rw [Hv.out] at hq7
   have hb7':=bS hb6' eh
   go_wp2_with fail
   go_ret3
   exact ⟨vq,vr,rfl,hq7.mono (by have:=hb6'.size;omega),(hr6.mono (by have:=hb5'.size;omega)).to eh,bS hbz hb7'⟩
  ·obtain ⟨j,rfl⟩:∃ j,k=j+1:=⟨k - 1,by omega⟩
   obtain ⟨b,o,rfl,hcell⟩:=hA5.cells (by rw [Hna.out];omega)
   have hck:=hcell j (by rw [Hna.out];omega)
   have hx:=(zP (val la*2 ^ s)).nth j
   simp only [zam] at hx
   clear hcell
   obtain ⟨R,hR⟩:∃ R,val ((zc (val la*2 ^ s)).drop (j+1)) % (val lb*2 ^ s)=R:=⟨_,rfl⟩
   have HR:=Lib.hid hR
   have Hmod:=Lib.hid (show val ((zc (val la*2 ^ s)).drop j) % (val lb*2 ^ s)=(nth (zc (val la*2 ^ s)) j+B*R) % (val lb*2 ^ s) by
    rw [zhz (by rw [Hna.out];omega),hR])
   have hRlt:R<val lb*2 ^ s:=by rw [<- hR];exact Nat.mod_lt _ hDD
   rw [hR] at hr
   have hsR:sz R<=90001:=Nat.le_trans (zV (Nat.le_of_lt hRlt)) hsD
   clear hR
   have Hcat:=Lib.hid (show val ([nth (zc (val la*2 ^ s)) j]++zc R)=nth (zc (val la*2 ^ s)) j+B*R by
    rw [List.singleton_append,zdj,vL])
   have hlt2:=ziL (x:=nth (zc (val la*2 ^ s)) j) (by rw [zam];exact hx) hRlt
   have hs22:sz (nth (zc (val la*2 ^ s)) j+B*R)<=90002:=by
    have h1:=zV (Nat.le_of_lt hlt2)
    have h2:=zap B (val lb*2 ^ s)
    have h3:sz B=2:=by decide +kernel
    have h4:=zdt hDD rfl hlt2
    omega
   have Hlt2:=Lib.hid hlt2
   clear hlt2
   go_wp2_with (at_builtin;refine zaZ _ rfl (.tmp 47) (.tmp 48) rfl wr.heap.size _ _ [nth (zc (val la*2 ^ s)) j] (zc R) rfl rfl (own1_any wr hx (Nat.le_refl _)) (hr.rd.alloc _) (by simp) (by simp;rw [ze];omega) ?_;intro v5 w5 hown5 c9 ic)
   have hb5':Below wr.heap.size wr w5:=(bN wr _).trans c9
   refine (zan _ _ _ hown5.rd (by simp;rw [ze];omega)).mono ?_
   rintro e w6 ⟨v6,rfl,hv6,ef⟩
   rw [Hcat.out] at hv6
   have hb6':=bS hb5' ef
   go_wp2_with fail
   refine (zgY _ _ (nth (zc (val la*2 ^ s)) j+B*R) (val lb*2 ^ s) _ hv6.rd (hB5.to hb6') hDD Hlt2.out (by omega) (by omega)).mono ?_
   rintro e w7 ⟨v7,rfl,hv7,eh⟩
   have hb7':=bS hb6' eh
   have hz7:=hz.to hb7'
   obtain ⟨q1,q2⟩:=zay hz7 (show j<Z.length by rw [Hzl.out];omega)
   have hstep:=zjc hz7 Hzl.out (by omega) Hna.out (zP _) hDD Hzv.out
   rw [HR.out] at hstep
   have hzlt:=(hz.lt w3.heap.size rfl).2
   have hs6:=hb6'.size
   clear hck
   go_wp2_with fail
   go_roundw
   case rel => exact ⟨j,by omega,by go_num,by rw [Hmod.out];exact (hv7.setOther (by show w3.heap.size<_;omega) _).mono (by omega),(hbw.trans (hb7'.mono hbw.size)).setCell (Nat.le_refl _) _,hstep⟩
   case measure => simp [intOf]

end Go.Proofs.Ytkjcdnlpjldhaaa


namespace Go.Proofs.Ytkjcdnlpjldhaaa
open Go.RowKit Tw

abbrev aggI (b:Bool) (v:Value):Value:=.agg #[.bool b,v]

def zbO (w:World) (z:Int) (e:Ending) (w':World):Prop :=
 ∃ v,e=.returned (aggI (decide (z<0)) v)/\Own w.heap.size w' v (zc z.natAbs)/\Below w.heap.size w w'

theorem bcell {W w1:World} (hb:Below W.heap.size W w1):(∀ b o,b<W.heap.size->w1.cell? ⟨b,o,none⟩=W.cell? ⟨b,o,none⟩)/\(∀ b o,b<W.heap.size->w1.frozen? ⟨b,o,none⟩=W.frozen? ⟨b,o,none⟩) :=
 ⟨fun b o h => hb.cell (p:=⟨b,o,none⟩) h,fun b o h => hb.frozen (p:=⟨b,o,none⟩) h⟩

theorem loadI (w:World) (b:Nat) (x y:Value) (c0:w.cell? ⟨b,0,none⟩=some x) (c1:w.cell? ⟨b,1,none⟩=some y) :
  (loadVar 51 ⟨b,0,none⟩).run Try.prog w=.ok (.agg #[x,y]) w:=by
 simp [go_sem,c0,c1]

theorem zQ {fn:Func} {k:Tmp} (h:fn.results=#[.cell k 51]) (tmps:Array Value) (w:World) (b:Nat) (x y:Value) (hk:tmps.getD k undef=.pointer (some ⟨b,0,none⟩))
  (c0:w.cell? ⟨b,0,none⟩=some x) (c1:w.cell? ⟨b,1,none⟩=some y):(results fn tmps).run Try.prog w=.ok (.agg #[x,y]) w:=by
 have hl:=loadI w b x y c0 c1
 have hk':tmps[k]?.getD undef=.pointer (some ⟨b,0,none⟩):=by simpa using hk
 simp [results,h,asAddr,Sem.run_bind,hl,Result.andThen,hk']

theorem zZ {w:World} {b:Nat} {x y x0 y0:Value} (h0:w.cell? ⟨b,0,none⟩=some x0) (h1:w.cell? ⟨b,1,none⟩=some y0) :
  ((w.setCell ⟨b,0,none⟩ x).setCell ⟨b,1,none⟩ y).cell? ⟨b,0,none⟩=some x/\((w.setCell ⟨b,0,none⟩ x).setCell ⟨b,1,none⟩ y).cell? ⟨b,1,none⟩=some y:=by
 have e1:(⟨b,1,none⟩:Addr)≠⟨b,0,none⟩:=by simp
 constructor
 ·rw [World.cell?_setCell_other (h:=e1)]
  exact World.cell?_setCell_same' _ _ _ (by rw [h0];rfl)
 ·apply World.cell?_setCell_same'
  rw [World.cell?_setCell_other (h:=Ne.symm e1),h1];rfl

theorem sgn_test {b:Bool} {n nt:Nat} (h:(zc n).length=nt):decide (sgn b n<0)=(b && decide (0<nt)):=by
 rw [sgn_neg]
 congr 1
 rw [decide_eq_decide,<- h,ze]
 have:=@zA n
 omega

theorem zaz (b:Bool) (v:Value) (l:List Nat) (w:World) (h:Rd w v l) (hl:l.length<=1000000) :
  Calls Try.prog 28 #[.bool b,v] w (zbO w (sgn b (val l))):=by
 have H2:=Lib.hid (zet b (val l))
 go_enter Try.func28,Try.ntmps28
 go_wp2_with fail
 refine (zan v l _ (h.alloc _) (by omega)).mono ?_
 rintro e w1 ⟨t,rfl,ht,aT⟩
 obtain ⟨at1,nt,ct,rfl,Hnt,_⟩:=ht.rd.open
 have H1:=Lib.hid (sgn_test (b:=b) Hnt.out)
 obtain ⟨hc,hf⟩:=bcell aT
 have h0:w1.cell? ⟨w.heap.size,0,none⟩=some (.bool false):=by rw [hc _ _ (by simp)];simp [go_sem]
 have h1:w1.cell? ⟨w.heap.size,1,none⟩=some (.slice none 0 0):=by rw [hc _ _ (by simp)];simp [go_sem]
 have hown:∀ (x y:Value),Own w.heap.size ((w1.setCell ⟨w.heap.size,0,none⟩ x).setCell ⟨w.heap.size,1,none⟩ y) (.slice at1 nt ct) (zc (sgn b (val l)).natAbs):=fun x y => by
  rw [H2.out];exact ((ht.setOther (by simp) _).setOther (by simp) _).mono (by simp)
 have hbel:∀ (x y:Value),Below w.heap.size w ((w1.setCell ⟨w.heap.size,0,none⟩ x).setCell ⟨w.heap.size,1,none⟩ y):=fun x y =>
  ((bS (bN _ _) aT).setCell (Nat.le_refl _) _).setCell (Nat.le_refl _) _
 cases b
 ·go_wp2_with fail
  obtain ⟨k0,k1⟩:=zZ (x:=.bool false) (y:=.slice at1 nt ct) h0 h1
  exact bodyPost_ret (zQ Try.results28 _ _ _ _ _ rfl k0 k1) rfl ⟨_,by rw [H1.out];rfl,hown _ _,hbel _ _⟩
 ·go_wp2_with fail
  obtain ⟨k0,k1⟩:=zZ (x:=.bool (decide (0<nt))) (y:=.slice at1 nt ct) h0 h1
  exact bodyPost_ret (zQ Try.results28 _ _ _ _ _ rfl k0 k1) rfl ⟨_,by rw [H1.out];rfl,hown _ _,hbel _ _⟩

theorem finI {w w1 w2:World} {rb:Nat} {z:Int} {v:Value} (eD:Below w.heap.size w w1) (hrb:w.heap.size<=rb) (hrb1:rb<w1.heap.size) (hv:Own w1.heap.size w2 v (zc z.natAbs)) (hb:Below w1.heap.size w1 w2) :
  zbO w z (.returned (aggI (decide (z<0)) v)) ((w2.setCell ⟨rb,0,none⟩ (.bool (decide (z<0)))).setCell ⟨rb,1,none⟩ v) :=
 ⟨v,rfl,((hv.setOther (p:=⟨rb,0,none⟩) hrb1 _).setOther (p:=⟨rb,1,none⟩) hrb1 _).mono eD.size,((bS eD hb).setCell (p:=⟨rb,0,none⟩) hrb _).setCell (p:=⟨rb,1,none⟩) hrb _⟩

end Go.Proofs.Ytkjcdnlpjldhaaa


namespace Go.Proofs.Ytkjcdnlpjldhaaa
open Go.RowKit Tw

def rdWord (w:World) (b o:Nat):Nat:=match w.cell? ⟨b,o,none⟩ with
 | some (.int _ n) => n.toNat
 | _ => 0

def zeL (w:World):Value->Nat
 | .slice (some ⟨b,off,none⟩) n _ => val ((List.range n).map fun i => rdWord w b (off+i))
 | _ => 0

theorem zao {w:World} {v:Value} {l:List Nat} (h:Rd w v l):zeL w v=val l:=by
 rcases h.2 with ⟨rfl,a,cap,rfl,_⟩|⟨b,off,cap,rfl,hl,hc,hm,hcell⟩
 ·rcases a with _|⟨b,off,_|s⟩ <;> rfl
 ·show val _=val l
  congr 1
  apply List.ext_getElem
  ·simp
  ·intro i h1 h2
   simp only [List.getElem_map,List.getElem_range]
   unfold rdWord
   rw [hcell i h2]
   simp [zaH h2]

end Go.Proofs.Ytkjcdnlpjldhaaa


namespace Go.Proofs.Ytkjcdnlpjldhaaa
open Go.RowKit Tw

theorem shr_bit (x r:Nat) (hx:x<4294967296):bits .and .u32 ((x:Int) / 2 ^ r) 1=((x / 2 ^ r % 2:Nat):Int):=by
 have h1:((x:Int) / 2 ^ r)=((x / 2 ^ r:Nat):Int):=by push_cast;rfl
 have h2:x / 2 ^ r<=x:=Nat.div_le_self _ _
 rw [h1]
 generalize x / 2 ^ r=y at h2 ⊢
 rw [zgt _ (by omega) (by omega)]
 omega

theorem ref4_bit (va:Value) (la:List Nat) (n:Nat) (w:World) (ha:Rd w va la) (hn:n<32*la.length) (hla:la.length<=1000000) :
  Calls Try.prog 64 #[va,.int .i64 n] w fun e w' => e=.returned (.int .u32 ((val la / 2 ^ n % 2:Nat):Int))/\w=w':=by
 have hlm:=ha.len_le
 unfold maxLen at hlm
 obtain ⟨k,r,hr,rfl⟩:∃ k r,r<32/\n=32*k+r:=⟨n / 32,n % 32,Nat.mod_lt _ (by omega),by omega⟩
 have hk:k<la.length:=by omega
 have Hb:=Lib.hid (bit_eq ha.1 hk hr)
 obtain ⟨aa,na,capa,rfl,Hna,_⟩:=ha.open
 have hkn:k<na:=by have:=Hna.out;omega
 obtain ⟨b,o,rfl,hcell⟩:=ha.cells (by rw [Hna.out];omega)
 have hck:=hcell k (by rw [Hna.out];omega)
 have hx:=ha.1.nth k
 simp only [zam] at hx
 have Hs:=Lib.hid (shr_bit _ r hx)
 have e1:(((32*k+r:Nat):Int)) / 32=(k:Int):=by omega
 have e2:(((32*k+r:Nat):Int)) % 32=(r:Int):=by omega
 have e0:(0:Int)<=((32*k+r:Nat):Int):=by omega
 have e3:((32*k+r:Nat):Int)<9000000000000000000:=by omega
 clear hcell hn
 generalize hN:((32*k+r:Nat):Int)=N at *
 go_enter Try.func64,Try.ntmps64
 go_wp2_with fail
 go_ret
 exact ⟨zo (zr (by rw [Hs.out,Hb.out])),rfl⟩

theorem zhN (A j:Nat):A / 2 ^ j=2*(A / 2 ^ (j+1))+A / 2 ^ j % 2:=by
 rw [Nat.pow_succ,<- Nat.div_div_eq_div_mul]
 exact (Nat.div_add_mod _ 2).symm

theorem zfw {R D x:Nat} (h:R<D) (hx:x<2):sz (R*2+x)<=sz D+1:=by
 have h1:=zV (show R*2+x<=D*2 by omega)
 have h2:=zap D 2
 have h3:=zbM (n:=2) (by omega)
 omega

theorem zeN (va vb:Value) (la lb:List Nat) (w:World) (ha:Rd w va la) (hb:Rd w vb lb) (hla:la.length<=10000) (hlb:lb.length<=10000) (hD:0<val lb) :
  Calls Try.prog 42 #[va,vb] w (zcO w (zc (val la / val lb)) (zc (val la % val lb))):=by
 obtain ⟨D,hDd⟩:∃ D,val lb=D:=⟨_,rfl⟩
 have hsD:sz D<=10000:=by have:=zu hb.1;rw [hDd] at this;omega
 have hsA:=zu ha.1
 have Hstart:=Lib.hid (show val la / 2 ^ (32*la.length)=0 by
  have h:=zbG ha.1
  rw [show B ^ la.length=2 ^ (32*la.length) by rw [Nat.pow_mul];rfl] at h
  exact Nat.div_eq_of_lt h)
 rw [hDd] at hD ⊢
 obtain ⟨m,hm⟩:=zga hD
 have Hm:=Lib.hid (show (zc D).length=m+1 by rw [ze];exact hm)
 have HDd:=Lib.hid hDd
 clear hDd hm
 obtain ⟨aa,na,capa,rfl,Hna,_⟩:=ha.open
 have hna:na<=10000:=by have:=Hna.out;omega
 go_enter Try.func42,Try.ntmps42
 go_wp2_with fail
 refine (zT _ _ _ hb (by omega)).mono ?_
 rintro e w1 ⟨v1,rfl,hv1,aT⟩
 rw [HDd.out] at hv1
 obtain ⟨ab,nb,capb,rfl,Hnb,hnb0⟩:=hv1.rd.open
 have hnb:0<nb:=by have:=Hnb.out;have:=Hm.out;omega
 have hnbz:((nb:Int) == 0)=false:=by simp;omega
 go_wp2_with fail
 go_loopw [8,9,10] (fun q r i ww => ∃ (k:Nat),k<=32*na/\i=.int .i64 ((k:Int) - 1)/\Own w.heap.size ww q (zc (val la / 2 ^ k / D))/\Own w.heap.size ww r (zc (val la / 2 ^ k % D))/\Below w1.heap.size w1 ww) (fun _ _ i _ => (intOf i+1).toNat)
 case atStart =>
  have e0:val la / 2 ^ (32*na)=0:=by rw [<- Hna.out];exact Hstart.out
  refine ⟨32*na,Nat.le_refl _,by push_cast;rfl,?_,?_,Below.refl _ _⟩
  ·rw [e0,Nat.zero_div,zt];exact Own.nil _ _
  ·rw [e0,Nat.zero_mod,zt];exact Own.nil _ _
 case round =>
  obtain ⟨k,hk,rfl,hq,hr,hbw⟩:=hrel
  have hbz:=bS aT hbw
  have hsz:=hbz.size
  rcases Nat.eq_zero_or_pos k with rfl|hpos
  ·rw [Nat.pow_zero,Nat.div_one] at hq hr
   go_wp2_with fail
   go_ret3
   exact ⟨_,_,rfl,hq,hr,hbz⟩
  ·obtain ⟨j,rfl⟩:∃ j,k=j+1:=⟨k - 1,by omega⟩
   obtain ⟨x,hx⟩:∃ x,val la / 2 ^ j % 2=x:=⟨_,rfl⟩
   obtain ⟨Q,hQ⟩:∃ Q,val la / 2 ^ (j+1) / D=Q:=⟨_,rfl⟩
   obtain ⟨R,hR⟩:∃ R,val la / 2 ^ (j+1) % D=R:=⟨_,rfl⟩
   have hx2:x<2:=by rw [<- hx];exact Nat.mod_lt _ (by omega)
   have hRlt:R<D:=by rw [<- hR];exact Nat.mod_lt _ hD
   have hsQ:sz Q<=10000:=by
    have h1:=zcN (val la / 2 ^ (j+1)) D
    have h2:=zcN (val la) (2 ^ (j+1))
    rw [hQ] at h1
    omega
   have hd:=bit_div (x:=x) (y:=val la / 2 ^ (j+1)) hD hx2
   have hmd:=bit_mod (x:=x) (y:=val la / 2 ^ (j+1)) hD hx2
   have hh:=zhN (val la) j
   rw [hx] at hh
   rw [<- hh,hQ,hR] at hd
   rw [<- hh,hR] at hmd
   rw [hQ] at hq
   rw [hR] at hr
   have Hd:=Lib.hid hd
   have Hmd:=Lib.hid hmd
   have Hx:=Lib.hid hx
   have hsR:=zV (Nat.le_of_lt hRlt)
   have hsR2:=zfw (x:=x) hRlt hx2
   have hsQ2:=zfw (R:=Q) (D:=Q+1) (x:=0) (by omega) (by omega)
   have hsQ1:sz (Q+1)<=10002:=by have:=zdJ Q 1;have:=zbM (n:=1) (by omega);omega
   clear hd hmd hh hx hQ hR
   go_wp2_with fail
   refine (zdf _ _ _ _ _ hq.rd (by rw [ze];omega) (by omega) (by omega) (by omega) (by omega)).mono ?_
   rintro e w2 ⟨v2,rfl,hv2,aL⟩
   rw [vL] at hv2
   replace hv2:Own wr.heap.size w2 v2 (zc (Q*2+0)):=hv2
   have hr2:=hr.to aL
   have cT:=hbw.trans (aL.mono hbw.size)
   go_wp2_with fail
   refine (ref4_bit _ la j _ ((ha.to aT).to cT) (by rw [Hna.out];omega) (by rw [Hna.out];omega)).mono ?_
   rintro e w' ⟨rfl,rfl⟩
   rw [Hx.out]
   go_wp2_with fail
   refine (zdf _ _ _ _ _ hr2.rd (by rw [ze];omega) (by omega) (by omega) (by omega) (by omega)).mono ?_
   rintro e w3 ⟨v3,rfl,hv3,bM⟩
   rw [vL] at hv3
   replace hv3:Own w2.heap.size w3 v3 (zc (R*2+x)):=hv3
   have hq3:=hv2.to bM
   have d6:=cT.trans (bM.mono cT.size)
   by_cases hge:D<=R*2+x
   ·have hc:0<=zaG (val (zc (R*2+x))) (val (zc D)):=by rw [vL,vL];exact zel.2 hge
    have hge2:D<=2*R+x:=by omega
    go_wp2_with fail
    refine (zbf _ _ _ _ _ hv3.rd (hv1.rd.to d6) (by rw [ze];omega) (by rw [ze];omega)).mono ?_
    rintro e w' ⟨rfl,rfl⟩
    go_wp2_with fail
    refine (zeM _ _ _ _ _ hv3.rd (hv1.rd.to d6) (by rw [ze];omega) (by rw [ze];omega) (by rw [vL,vL];exact hge)).mono ?_
    rintro e w4 ⟨v4,rfl,hv4,dA⟩
    rw [vL,vL] at hv4
    have iQ:=d6.trans (dA.mono d6.size)
    go_wp2_with fail
    refine (zdf _ _ _ _ _ (hq3.rd.to dA) (by rw [ze];omega) (by omega) (by omega) (by omega) (by omega)).mono ?_
    rintro e w5 ⟨v5,rfl,hv5,c9⟩
    rw [vL] at hv5
    replace hv5:Own w4.heap.size w5 v5 (zc ((Q*2+0)*1+1)):=hv5
    have jH:=iQ.trans (c9.mono iQ.size)
    have z2:=aL.size
    have z3:=bM.size
    have z4:=dA.size
    go_wp2_with fail
    go_roundw
    case rel =>
     refine ⟨j,by omega,by go_num,?_,?_,jH⟩
     ·rw [Hd.out,if_pos hge2,show 2*Q+1=(Q*2+0)*1+1 by omega];exact hv5.mono (by omega)
     ·rw [Hmd.out,if_pos hge2,show 2*R+x - D=R*2+x - D by omega];exact (hv4.mono (by omega)).to c9
    case measure => simp [intOf]
   ·have hc:¬ 0<=zaG (val (zc (R*2+x))) (val (zc D)):=by rw [vL,vL];exact fun e => hge (zel.1 e)
    have hge2:¬ D<=2*R+x:=by omega
    go_wp2_with fail
    refine (zbf _ _ _ _ _ hv3.rd (hv1.rd.to d6) (by rw [ze];omega) (by rw [ze];omega)).mono ?_
    rintro e w' ⟨rfl,rfl⟩
    have z2:=aL.size
    have z3:=bM.size
    go_wp2_with fail
    go_roundw
    case rel =>
     refine ⟨j,by omega,by go_num,?_,?_,d6⟩
     ·rw [Hd.out,if_neg hge2,show 2*Q+0=Q*2+0 by omega];exact hq3.mono (by omega)
     ·rw [Hmd.out,if_neg hge2,show 2*R+x=R*2+x by omega];exact hv3.mono (by omega)
    case measure => simp [intOf]

theorem zhX (va:Value) (la:List Nat) (d:Int) (w:World) (ha:Rd w va la) (hla:la.length<=10000) (d0:0<d) (d1:d<4294967296) :
  Calls Try.prog 83 #[va,.int .u32 d] w (zgr w (zc (val la / d.toNat)) (val la % d.toNat)):=by
 obtain ⟨D,rfl⟩:=Int.eq_ofNat_of_zero_le (Int.le_of_lt d0)
 simp only [Int.toNat_natCast]
 have hD0:0<D:=by omega
 have hv:val [D]=D:=by simp [val]
 go_enter Try.func83,Try.ntmps83
 have Hv:=Lib.hid hv
 clear hv
 go_wp2_with fail
 refine (zeN _ _ la [D] _ (ha.alloc _) (lit1' w rfl (by omega)) (by omega) (by simp) (by rw [Hv.out];exact hD0)).mono ?_
 rintro e w1 ⟨vq,vr,rfl,hq,hr,aT⟩
 rw [Hv.out] at hq hr
 have hbz:=bS (bN _ _) aT
 have hrlt:val la % D<D:=Nat.mod_lt _ hD0
 by_cases h0:val la % D=0
 ·have H0:=Lib.hid h0
  rw [h0,zt] at hr
  obtain ⟨ar,capr,rfl⟩:=hr.rd.shape
  clear h0
  go_wp2_with fail
  go_ret3
  exact ⟨_,zft rfl (zr (by rw [H0.out];rfl)) rfl,hq.mono (by simp),hbz⟩
 ·rw [zeC h0 (by omega)] at hr
  obtain ⟨br,or_,cr,rfl,hcr⟩:=hr.rd.cells' (by simp)
  have hcr0:=hcr 0 (by simp)
  simp only [zah,List.getD_cons_zero,Nat.add_zero] at hcr0
  clear hcr
  go_wp2_with fail
  go_quiet (fail)
  go_wp2_with fail
  go_ret3
  exact ⟨_,rfl,(hq.mono (by simp)).to (below_drewN (Below.refl _ _) _),below_drewN hbz _⟩

end Go.Proofs.Ytkjcdnlpjldhaaa


namespace Go.Proofs.Ytkjcdnlpjldhaaa
open Go.RowKit Tw

theorem zdx {l:List Nat} (h:Small l):zD (val l)<=32*l.length:=by
 apply zbB.2
 have h1:=zbG h
 rwa [show B ^ l.length=2 ^ (32*l.length) by rw [Nat.pow_mul];rfl] at h1

def GivesOdd (w:World) (N:Nat) (e:Ending) (w':World):Prop :=
 ∃ (m k:Nat) (v:Value),e=.returned (.tuple #[v,.int .i64 (k:Int)])/\Rd w' v (zc m)/\m % 2=1/\N=m*2 ^ k/\Below w.heap.size w w'

theorem zdg (va:Value) (N:Nat) (w:World) (ha:Rd w va (zc N)) (hN:N≠0) (hsN:sz N<=10000) :
  Calls Try.prog 59 #[va] w (GivesOdd w N):=by
 have hnb:zD N<=320000:=by
  have h1:=zdx (zP N)
  rw [vL,ze] at h1
  omega
 have HN:=Lib.hid hN
 clear hN
 go_enter Try.func59,Try.ntmps59
 go_wp2_with fail
 go_loopw [0,4] (fun a n ww => ∃ M k:Nat,Rd ww a (zc M)/\M≠0/\sz M<=10000/\k<=320000/\n=.int .i64 k/\Hid (N=M*2 ^ k)/\Below w.heap.size w ww) (fun a _ ww => zeL ww a)
 case atStart => exact ⟨N,0,ha,HN.out,hsN,by omega,rfl,by unfold Hid;simp,Below.refl _ _⟩
 case round =>
  obtain ⟨M,k,hM,hM0,hMs,hk,rfl,HM,hbw⟩:=hrel
  have jI:sz M≠0:=fun e => hM0 (zA.1 e)
  have hpos:0<(zc M).length:=by rw [ze];omega
  have hrd:=zao hM
  rw [vL] at hrd
  have Hrd:=Lib.hid hrd
  obtain ⟨b,o,cap,rfl,hcell⟩:=hM.cells' hpos
  have hc0:=hcell 0 hpos
  rw [Nat.add_zero] at hc0
  have hx:=(zP M).nth 0
  simp only [zam] at hx
  have He:=Lib.hid (zhQ hM0)
  have Hlen:=Lib.hid (show (zc M).length=sz M from rfl)
  clear hrd hcell
  by_cases hev:nth (zc M) 0 % 2=0
  ·have hz:(((nth (zc M) 0:Int)) % 2 == 0)=true:=by simp;omega
   have hd0:M / 2≠0:=by have:=He.out;omega
   have hd1:M / 2<M:=by omega
   have hds:sz (M / 2)<=10000:=Nat.le_trans (zcN M 2) hMs
   have HM2:=Lib.hid (show N=M / 2*2 ^ (k+1) by
    rw [Nat.pow_succ,Nat.mul_comm (2 ^ k) 2,<- Nat.mul_assoc,Nat.div_mul_cancel (Nat.dvd_of_mod_eq_zero (by have:=He.out;omega))];exact HM.out)
   have hk2:=zcp HM2.out HN.out
   clear hev
   go_wp2_with fail
   refine (zhX _ _ 2 _ hM (by rw [ze];omega) (by omega) (by omega)).mono ?_
   rintro e w2 ⟨v2,rfl,hv2,aL⟩
   rw [vL] at hv2
   replace hv2:Own wr.heap.size w2 v2 (zc (M / 2)):=hv2
   have cT:=bS hbw aL
   go_wp2_with fail
   go_roundw
   case rel => exact ⟨M / 2,k+1,hv2.rd,hd0,hds,by omega,by go_num,HM2,cT⟩
   case measure => rw [zao hv2.rd,Hrd.out,vL];exact hd1
  ·have hz:(((nth (zc M) 0:Int)) % 2 == 0)=false:=by simp;omega
   have hodd:M % 2=1:=by have:=He.out;omega
   clear hev
   go_wp2_with fail
   go_ret2
   exact ⟨M,k,_,rfl,hM,hodd,HM.out,hbw⟩

theorem odd_ne {m:Nat} (h:m % 2=1):m≠0:=fun e => by subst e;simp at h

theorem cmp_test {a b:Nat} (h:a≠b):(zaG a b != 0)=true:=by
 have:=mt zdq.1 h
 simpa using this

theorem ref5_gcd (va vb:Value) (la lb:List Nat) (w:World) (ha:Rd w va la) (hb:Rd w vb lb) (hla:la.length<=3000) (hlb:lb.length<=3000) :
  Calls Try.prog 41 #[va,vb] w (zcg w (zc (Nat.gcd (val la) (val lb)))):=by
 have hsA:=zu ha.1
 have hsB:=zu hb.1
 by_cases ha0:val la=0
 ·have HA:=Lib.hid (show zc (val la)=[] by rw [ha0];rfl)
  have HG:=Lib.hid (show Nat.gcd (val la) (val lb)=val lb by rw [ha0,Nat.gcd_zero_left])
  clear ha0
  rw [HG.out]
  go_enter Try.func41,Try.ntmps41
  go_wp2_with fail
  refine (zT _ _ _ ha (by omega)).mono ?_
  rintro e w1 ⟨v1,rfl,hv1,aT⟩
  rw [HA.out] at hv1
  obtain ⟨a1,cap1,rfl⟩:=hv1.rd.shape
  go_wp2_with fail
  refine (zT _ _ _ (hb.to aT) (by omega)).mono ?_
  rintro e w2 ⟨v2,rfl,hv2,aL⟩
  go_wp2_with fail
  go_ret
  exact ⟨_,rfl,hv2.mono aT.size,bS aT aL⟩
 by_cases eD:val lb=0
 ·have HB:=Lib.hid (show zc (val lb)=[] by rw [eD];rfl)
  have HG:=Lib.hid (show Nat.gcd (val la) (val lb)=val la by rw [eD,Nat.gcd_zero_right])
  have ha1:0<(zc (val la)).length:=by rw [ze];have:=mt zA.1 ha0;omega
  clear eD ha0
  rw [HG.out]
  go_enter Try.func41,Try.ntmps41
  go_wp2_with fail
  refine (zT _ _ _ ha (by omega)).mono ?_
  rintro e w1 ⟨v1,rfl,hv1,aT⟩
  obtain ⟨a1,o1,cap1,rfl,_⟩:=hv1.rd.cells' ha1
  go_wp2_with fail
  refine (zT _ _ _ (hb.to aT) (by omega)).mono ?_
  rintro e w2 ⟨v2,rfl,hv2,aL⟩
  rw [HB.out] at hv2
  obtain ⟨a2,cap2,rfl⟩:=hv2.rd.shape
  go_wp2_with fail
  go_ret
  exact ⟨_,rfl,hv1.to aL,bS aT aL⟩
 have ha1:0<(zc (val la)).length:=by rw [ze];have:=mt zA.1 ha0;omega
 have aT:0<(zc (val lb)).length:=by rw [ze];have:=mt zA.1 eD;omega
 have hnA:=zdx ha.1
 have hnB:=zdx hb.1
 have HA:=Lib.hid ha0
 have HB:=Lib.hid eD
 clear ha0 eD
 go_enter Try.func41,Try.ntmps41
 go_wp2_with fail
 refine (zT _ _ _ ha (by omega)).mono ?_
 rintro e w1 ⟨v1,rfl,hv1,hbA⟩
 obtain ⟨a1,o1,cap1,rfl,_⟩:=hv1.rd.cells' ha1
 go_wp2_with fail
 refine (zT _ _ _ (hb.to hbA) (by omega)).mono ?_
 rintro e w2 ⟨v2,rfl,hv2,hbB⟩
 obtain ⟨a2,o2,cap2,rfl,_⟩:=hv2.rd.cells' aT
 have hbw:=bS hbA hbB
 go_wp2_with fail
 refine (zdg _ _ _ (hv1.rd.to hbB) HA.out (by omega)).mono ?_
 rintro e w3 ⟨X0,n,v3,rfl,hx,hxo,hxe,bM⟩
 replace hbw:=bS hbw bM
 have Hxe:=Lib.hid hxe
 have Hxo:=Lib.hid hxo
 clear hxe hxo
 go_wp2_with fail
 refine (zdg _ _ _ (hv2.rd.to bM) HB.out (by omega)).mono ?_
 rintro e w4 ⟨Y0,k,v4,rfl,hy,hyo,hye,dA⟩
 replace hbw:=bS hbw dA
 replace hx:=hx.to dA
 have Hye:=Lib.hid hye
 have Hyo:=Lib.hid hyo
 clear hye hyo
 have hn1:=zcp Hxe.out HA.out
 have hk1:=zcp Hye.out HB.out
 have HG:=Lib.hid (show Nat.gcd (val la) (val lb)=Nat.gcd X0 Y0*2 ^ min n k by rw [Hxe.out,Hye.out];exact gcd_twos Hxo.out Hyo.out)
 have hsX:sz X0<=3000:=by
  have h1:=zV (show X0<=val la by rw [Hxe.out];exact Nat.le_mul_of_pos_right _ (Nat.pow_pos (by omega)))
  omega
 have hsY:sz Y0<=3000:=by
  have h1:=zV (show Y0<=val lb by rw [Hye.out];exact Nat.le_mul_of_pos_right _ (Nat.pow_pos (by omega)))
  omega
 go_wp2_with fail
 go_loopw [5,6] (fun x y ww => ∃ X Y:Nat,Rd ww x (zc X)/\Rd ww y (zc Y)/\sz X<=3000/\sz Y<=3000/\Hid (X % 2=1)/\Hid (Y % 2=1)/\Hid (Nat.gcd X Y=Nat.gcd X0 Y0)/\Below w.heap.size w ww) (fun x y ww => zeL ww x+zeL ww y)
 case atStart => exact ⟨X0,Y0,hx,hy,hsX,hsY,Hxo,Hyo,rfl,hbw⟩
 case round =>
  clear hx hy hv1 hv2
  obtain ⟨X,Y,hx,hy,hXs,hYs,HX,HY,HGl,hbl⟩:=hrel
  have Hmx:=Lib.hid (zao hx)
  have Hmy:=Lib.hid (zao hy)
  by_cases hxy:X=Y
  ·have Hc:=Lib.hid (show zaG (val (zc X)) (val (zc Y))=0 from zfE (by rw [hxy]))
   have HG2:=Lib.hid (show Nat.gcd (val la) (val lb)=X*2 ^ min n k by rw [HG.out,<- HGl.out,<- hxy,Nat.gcd_self])
   have Hmin:=Lib.hid (show (min (n:Int) (k:Int)).toNat=min n k by omega)
   clear hxy
   go_wp2_with fail
   refine (zbf _ _ _ _ _ hx hy (by rw [ze];omega) (by rw [ze];omega)).mono ?_
   rintro e w' ⟨rfl,rfl⟩
   rw [Hc.out]
   go_wp2_with fail
   refine (zhW _ _ _ _ hx (by rw [ze];omega) (by omega)).mono ?_
   rintro e w5 ⟨v5,rfl,hv5,c9⟩
   rw [vL,Hmin.out,<- HG2.out] at hv5
   go_wp2_with fail
   go_ret
   exact ⟨_,rfl,hv5.mono hbl.size,bS hbl c9⟩
  ·have hne:zaG (val (zc X)) (val (zc Y))≠0:=by rw [vL,vL];exact mt zdq.1 hxy
   have hneb:(zaG (val (zc X)) (val (zc Y)) != 0)=true:=by rw [vL,vL];exact cmp_test hxy
   rcases Nat.lt_or_ge X Y with hlt|hge
   ·have hc:zaG (val (zc X)) (val (zc Y))<0:=by rw [vL,vL];exact zgx.2 hlt
    have hle:X<=Y:=by omega
    have hd0:Y - X≠0:=by omega
    have hsd:=zbR Y X
    clear hxy
    go_wp2_with fail
    refine (zbf _ _ _ _ _ hx hy (by rw [ze];omega) (by rw [ze];omega)).mono ?_
    rintro e w' ⟨rfl,rfl⟩
    go_wp2_with fail
    refine (zbf _ _ _ _ _ hx hy (by rw [ze];omega) (by rw [ze];omega)).mono ?_
    rintro e w' ⟨rfl,rfl⟩
    go_wp2_with fail
    refine (zeM _ _ _ _ _ hy hx (by rw [ze];omega) (by rw [ze];omega) (by rw [vL,vL];exact hle)).mono ?_
    rintro e w5 ⟨v5,rfl,hv5,c9⟩
    rw [vL,vL] at hv5
    replace hbl:=bS hbl c9
    have hx5:=hx.to c9
    go_wp2_with fail
    refine (zdg _ _ _ hv5.rd hd0 (by omega)).mono ?_
    rintro e w6 ⟨m,j,v6,rfl,hv6,hmo,hme,ef⟩
    replace hbl:=bS hbl ef
    have hm1:m<=Y - X:=by rw [hme];exact Nat.le_mul_of_pos_right _ (Nat.pow_pos (by omega))
    have hm2:m<Y:=by have:=odd_ne HX.out;omega
    have hms:=zV hm1
    have Hg:=Lib.hid (show Nat.gcd m X=Nat.gcd X0 Y0 by rw [<- zen (m:=m) j HX.out,<- hme,zfm hle,Nat.gcd_comm,HGl.out])
    have Hmo:=Lib.hid hmo
    clear hmo hme hm1
    go_wp2_with fail
    go_roundw
    case rel => exact ⟨m,X,hv6,hx5.to ef,by omega,hXs,Hmo,HX,Hg,hbl⟩
    case measure => rw [zao hv6,zao (hx5.to ef),Hmx.out,Hmy.out,vL,vL,vL];omega
   ·have hc:¬ zaG (val (zc X)) (val (zc Y))<0:=by rw [vL,vL];exact fun e => absurd (zgx.1 e) (by omega)
    have hd0:X - Y≠0:=by omega
    have hsd:=zbR X Y
    clear hxy
    go_wp2_with fail
    refine (zbf _ _ _ _ _ hx hy (by rw [ze];omega) (by rw [ze];omega)).mono ?_
    rintro e w' ⟨rfl,rfl⟩
    go_wp2_with fail
    refine (zbf _ _ _ _ _ hx hy (by rw [ze];omega) (by rw [ze];omega)).mono ?_
    rintro e w' ⟨rfl,rfl⟩
    go_wp2_with fail
    refine (zeM _ _ _ _ _ hx hy (by rw [ze];omega) (by rw [ze];omega) (by rw [vL,vL];exact hge)).mono ?_
    rintro e w5 ⟨v5,rfl,hv5,c9⟩
    rw [vL,vL] at hv5
    replace hbl:=bS hbl c9
    have hy5:=hy.to c9
    go_wp2_with fail
    refine (zdg _ _ _ hv5.rd hd0 (by omega)).mono ?_
    rintro e w6 ⟨m,j,v6,rfl,hv6,hmo,hme,ef⟩
    replace hbl:=bS hbl ef
    have hm1:m<=X - Y:=by rw [hme];exact Nat.le_mul_of_pos_right _ (Nat.pow_pos (by omega))
    have hm2:m<X:=by have:=odd_ne HY.out;omega
    have hms:=zV hm1
    have Hg:=Lib.hid (show Nat.gcd m Y=Nat.gcd X0 Y0 by rw [<- zen (m:=m) j HY.out,<- hme,zfm hge,HGl.out])
    have Hmo:=Lib.hid hmo
    clear hmo hme hm1
    go_wp2_with fail
    go_roundw
    case rel => exact ⟨m,Y,hv6,hy5.to ef,by omega,hYs,Hmo,HY,Hg,hbl⟩
    case measure => rw [zao hv6,zao (hy5.to ef),Hmx.out,Hmy.out,vL,vL,vL];omega

end Go.Proofs.Ytkjcdnlpjldhaaa

