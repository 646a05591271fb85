/-
  The texts Nat, NatSub, Times, Split, Ref2, Ref2b, Words, Lits, merged.
-/
import Derived.Test.YtkjcdnlpjldhaaaG04
import Derived.Deep.RegionHeld3
import Derived.Deep.DrawnRows
import Derived.Test.YtkjcdnlpjldhaaaG01
set_option linter.unusedVariables false
set_option linter.unusedSimpArgs false
set_option maxRecDepth 100000
set_option maxHeartbeats 400000000
namespace Go.Proofs.Ytkjcdnlpjldhaaa
open Go.RowKit Tw

def zcR (x y:Int):Int:=if x<y then -1 else if y<x then 1 else 0

theorem zek {x y:Int} (h:x<y):zcR x y=-1:=by simp [zcR,h]

theorem zej {x y:Int} (h:y<x):zcR x y=1:=by
 have:¬ x<y:=by omega
 simp [zcR,h,this]

theorem zei {x y:Int} (h:x=y):zcR x y=0:=by subst h;simp [zcR]

theorem zfG (x y:Int) (w:World) :
  Calls Try.prog 96 #[.int .i64 x,.int .i64 y] w fun e w' => e=.returned (.int .i64 (zcR x y))/\w=w':=by
 rcases Int.lt_trichotomy x y with h|h|h
 ·have H:=Lib.hid (zek h)
  go_enter Try.func96,Try.ntmps96
  go_wp2
  go_ret
  exact ⟨zo (zr H.out.symm),rfl⟩
 ·have H:=Lib.hid (zei h)
  have h1:¬ x<y:=by omega
  have h2:¬ y<x:=by omega
  clear h
  go_enter Try.func96,Try.ntmps96
  go_wp2
  go_ret
  exact ⟨zo (zr H.out.symm),rfl⟩
 ·have H:=Lib.hid (zej h)
  have h1:¬ x<y:=by omega
  go_enter Try.func96,Try.ntmps96
  go_wp2
  go_ret
  exact ⟨zo (zr H.out.symm),rfl⟩

theorem cmp_u32 (x y:Int) (w:World) :
  Calls Try.prog 97 #[.int .u32 x,.int .u32 y] w fun e w' => e=.returned (.int .i64 (zcR x y))/\w=w':=by
 rcases Int.lt_trichotomy x y with h|h|h
 ·have H:=Lib.hid (zek h)
  go_enter Try.func97,Try.ntmps97
  go_wp2
  go_ret
  exact ⟨zo (zr H.out.symm),rfl⟩
 ·have H:=Lib.hid (zei h)
  have h1:¬ x<y:=by omega
  have h2:¬ y<x:=by omega
  clear h
  go_enter Try.func97,Try.ntmps97
  go_wp2
  go_ret
  exact ⟨zo (zr H.out.symm),rfl⟩
 ·have H:=Lib.hid (zej h)
  have h1:¬ x<y:=by omega
  go_enter Try.func97,Try.ntmps97
  go_wp2
  go_ret
  exact ⟨zo (zr H.out.symm),rfl⟩

theorem nat_at (v:Value) (l:List Nat) (i:Int) (w:World) (h:Rd w v l) (i0:0<=i) :
  Calls Try.prog 47 #[v,.int .i64 i] w fun e w' => e=.returned (zau (nth l i.toNat))/\w=w':=by
 obtain ⟨k,rfl⟩:=Int.eq_ofNat_of_zero_le i0
 rw [Int.toNat_natCast]
 by_cases hk:k<l.length
 ·obtain ⟨a,cap,rfl⟩:=h.shape
  obtain ⟨b,off,rfl,_,hc,hm,hcell⟩:=h.at (by omega)
  have hck:=hcell k hk
  clear hcell
  go_enter Try.func47,Try.ntmps47
  go_wp2
  go_ret
  exact ⟨rfl,rfl⟩
 ·have H:=Lib.hid (zdy (Nat.not_lt.1 hk))
  obtain ⟨a,cap,rfl⟩:=h.shape
  go_enter Try.func47,Try.ntmps47
  go_wp2
  go_ret
  exact ⟨zo (zr (by rw [H.out];rfl)),rfl⟩

theorem zaX (v:Value) (l:List Nat) (w:World) (h:Rd w v l) :
  Calls Try.prog 65 #[v] w fun e w' => e=.returned (.bool (decide (sz (val l)=l.length)))/\w=w':=by
 obtain ⟨a,cap,rfl⟩:=h.shape
 go_enter Try.func65,Try.ntmps65
 go_wp2_with fail
 refine (zab _ l _ h).mono ?_
 rintro e w' ⟨rfl,rfl⟩
 go_wp2_with fail
 go_ret
 refine ⟨zo (congrArg Value.bool ?_),rfl⟩
 by_cases hh:sz (val l)=l.length
 ·simp [hh]
 ·have:¬ ((sz (val l):Int)=l.length):=by omega
  simp [hh,this]

theorem zan (v:Value) (l:List Nat) (w:World) (h:Rd w v l) (hl:l.length<=1000000000) :
  Calls Try.prog 31 #[v] w (zcg w (zc (val l))):=by
 have hsz:=zu h.1
 have hlim:=zaB h.1
 by_cases h0:sz (val l)=0
 ·have H:=Lib.hid (show zc (val l)=[] by rw [hlim,h0];rfl)
  go_enter Try.func31,Try.ntmps31
  go_wp2_with fail
  refine (zab _ l _ h).mono ?_
  rintro e w' ⟨rfl,rfl⟩
  rw [h0]
  clear h0 hlim
  go_wp2_with fail
  go_ret
  exact ⟨_,rfl,by rw [H.out];exact Own.nil _ _,Below.refl _ _⟩
 ·have H:=Lib.hid hlim
  have hne:((sz (val l):Int) == 0)=false:=by simp;omega
  clear hlim
  go_enter Try.func31,Try.ntmps31
  go_wp2_with fail
  refine (zab _ l _ h).mono ?_
  rintro e w' ⟨rfl,rfl⟩
  generalize hn:sz (val l)=n at *
  have Hn:=Lib.hid hn
  clear hn
  go_wp2_with (first
   | (at_make;refine zbN _ rfl _ _ rfl _ _ _ _ n rfl rfl rfl rfl (by omega) ?_;intro w1 hown1 aT c8)
   | (refine wp_copy _ rfl (.tmp 11) (.tmp 12) rfl w.heap.size _ _ _ _ _ l rfl rfl hown1 (h.to aT) hsz ?_;intro w2 hown2 aL da))
  go_ret
  exact ⟨_,rfl,by rw [H.out];exact hown2,aT.trans aL⟩

theorem zcb (n:Int) (w:World) (n0:0<=n) (n1:n<18446744073709551616) :
  Calls Try.prog 19 #[.int .u64 n] w (zcg w (zc n.toNat)):=by
 obtain ⟨n,rfl⟩:=Int.eq_ofNat_of_zero_le n0
 rw [Int.toNat_natCast]
 have H:=Lib.hid (show val [n % 4294967296,n / 4294967296]=n by simp only [val,zam];omega)
 go_enter Try.func19,Try.ntmps19
 go_wp2_with fail
 have e1:((n:Int) % 4294967296)=((n % 4294967296:Nat):Int):=by omega
 have e2:((n:Int) / 4294967296)=((n / 4294967296:Nat):Int):=by omega
 rw [e1,e2]
 refine (zan _ [n % 4294967296,n / 4294967296] _ (zbK w [n % 4294967296,n / 4294967296] (zic (by omega) (by omega)) (by simp [maxLen])).rd (by simp)).mono ?_
 rintro e w1 ⟨v,rfl,hv,hb⟩
 rw [H.out] at hv
 clear e1 e2
 go_wp2_with fail
 go_ret
 exact ⟨_,rfl,hv.mono (by simp),bS (bN _ _) hb⟩

theorem zat (v:Value) (l:List Nat) (w:World) (h:Rd w v l) (hl:l.length<=1000000) :
  Calls Try.prog 48 #[v] w fun e w' => e=.returned (.int .i64 (zD (val l):Nat))/\w=w':=by
 have hsz:=zu h.1
 obtain ⟨a,cap,rfl⟩:=h.shape
 by_cases h0:sz (val l)=0
 ·have H:=Lib.hid (show zD (val l)=0 by rw [zA.1 h0];rfl)
  go_enter Try.func48,Try.ntmps48
  go_wp2_with fail
  refine (zab _ l _ h).mono ?_
  rintro e w' ⟨rfl,rfl⟩
  rw [h0]
  clear h0
  go_wp2_with fail
  go_ret
  exact ⟨zo (zr (by rw [H.out];rfl)),rfl⟩
 ·have H:=Lib.hid (zjt h.1 h0)
  have hne:((sz (val l):Int) == 0)=false:=by simp;omega
  obtain ⟨b,off,rfl,_,hc,hm,hcell⟩:=h.at (by omega)
  have hck:=hcell (sz (val l) - 1) (by omega)
  have hlt:=h.1.nth (sz (val l) - 1)
  simp only [zam] at hlt
  have hnb:zD (nth l (sz (val l) - 1))<=32:=zbB.2 (by omega)
  clear hcell
  go_enter Try.func48,Try.ntmps48
  go_wp2_with fail
  refine (zab _ l _ h).mono ?_
  rintro e w' ⟨rfl,rfl⟩
  generalize hn:sz (val l)=n at *
  have Hn:=Lib.hid hn
  clear hn
  go_wp2_with fail
  refine (zfn _ _ (by omega) (by omega)).mono ?_
  rintro e w' ⟨rfl,rfl⟩
  rw [Int.toNat_natCast]
  go_wp2_with fail
  go_ret
  exact ⟨zo (zr (by rw [H.out];omega)),rfl⟩

theorem zfN (va vb:Value) (la lb:List Nat) (w:World) (ha:Rd w va la) (hb:Rd w vb lb) :
  Calls Try.prog 85 #[va,vb] w fun e w' => e=.returned (.int .i64 (zaG (val la) (val lb)))/\Below w.heap.size w w':=by
 have hsa:=zu ha.1
 have hsb:=zu hb.1
 have hma:=ha.len_le
 unfold maxLen at hma
 rcases Nat.lt_trichotomy (sz (val la)) (sz (val lb)) with h|h|h
 ·have H:=Lib.hid (zjb h)
  have hc:zcR (sz (val la):Int) (sz (val lb):Int)=-1:=zek (by omega)
  have Hc:=Lib.hid hc
  clear hc
  go_enter Try.func85,Try.ntmps85
  go_wp2_with fail
  refine (zab _ _ _ ha).mono ?_
  rintro e w' ⟨rfl,rfl⟩
  go_wp2_with fail
  refine (zab _ _ _ hb).mono ?_
  rintro e w' ⟨rfl,rfl⟩
  go_wp2_with fail
  refine (zfG _ _ _).mono ?_
  rintro e w' ⟨rfl,rfl⟩
  rw [Hc.out]
  go_wp2_with fail
  go_ret
  exact ⟨zo (zr H.out.symm),Below.refl _ _⟩
 ·have hc:zcR (sz (val la):Int) (sz (val lb):Int)=0:=zei (by omega)
  have Hc:=Lib.hid hc
  have Hst:=Lib.hid (zfb ha.1 hb.1 rfl h.symm)
  have Hn2:=Lib.hid h
  clear hc h
  obtain ⟨aa,capa,rfl⟩:=ha.shape
  obtain ⟨ab,capb,rfl⟩:=hb.shape
  go_enter Try.func85,Try.ntmps85
  go_wp2_with fail
  refine (zab _ _ _ ha).mono ?_
  rintro e w' ⟨rfl,rfl⟩
  go_wp2_with fail
  refine (zab _ _ _ hb).mono ?_
  rintro e w' ⟨rfl,rfl⟩
  go_wp2_with fail
  refine (zfG _ _ _).mono ?_
  rintro e w' ⟨rfl,rfl⟩
  rw [Hc.out]
  rw [<- Hn2.out] at hsb
  generalize hn:sz (val la)=n at *
  have Hn:=Lib.hid hn
  clear hn
  go_wp2_with fail
  go_loopw [19] (fun i ww => ∃ k:Nat,k<=n/\i=.int .i64 k/\Hid (zaa la lb (n - k))/\Below w.heap.size w ww) (fun i _ => n - (intOf i).toNat)
  case atStart => exact ⟨0,Nat.zero_le _,rfl,Hst,Below.refl _ _⟩
  case round =>
   obtain ⟨k,hk,rfl,HT,hbw⟩:=hrel
   by_cases hkn:k<n
   ·obtain ⟨ba,offa,rfl,_,hca,hcma,hcella⟩:=(ha.to hbw).at (by omega)
    obtain ⟨bb,offb,rfl,_,hcb,hcmb,hcellb⟩:=(hb.to hbw).at (by omega)
    have hxa:=hcella (n - 1 - k) (by omega)
    have hxb:=hcellb (n - 1 - k) (by omega)
    have hi0:(0:Int)<=(n:Int) - 1 - k:=by omega
    have hi3:(k:Int)<=(n:Int) - 1:=by omega
    have hi1:(n:Int) - 1 - k<(la.length:Int):=by omega
    have hi2:(n:Int) - 1 - k<(lb.length:Int):=by omega
    clear hcella hcellb
    go_wp2_with fail
    have e1:IntKind.i64.wrap ((n:Int) - 1)=(n:Int) - 1:=IntWalk.i64_in _ (by omega)
    have e2:IntKind.i64.wrap ((n:Int) - 1 - k)=(n:Int) - 1 - k:=IntWalk.i64_in _ (by omega)
    have e3:((n:Int) - 1 - k).toNat=n - 1 - k:=by omega
    go_quiet ((go_at_call 97;exact quiet_l (cmp_u32 _ _ _)))
    clear e1 e2 e3
    have cT:=below_drewN hbw nq
    have HT2:Hid (zaa la lb (n - 1 - k+1)):=by unfold Hid;rw [show n - 1 - k+1=n - k by omega];exact HT.out
    generalize wr.drewN nq=w2 at *
    rcases Nat.lt_trichotomy (nth la (n - 1 - k)) (nth lb (n - 1 - k)) with hx|hx|hx
    ·have Hr:=Lib.hid (zem (HT2.out.lt ha.1 hx))
     have hc:zcR (nth la (n - 1 - k):Int) (nth lb (n - 1 - k):Int)=-1:=zek (by omega)
     go_wp2_with fail
     go_ret
     exact ⟨zo (zr (hc.trans Hr.out.symm)),cT⟩
    ·have Hr:Hid (zaa la lb (n - (k+1))):=by unfold Hid;rw [show n - (k+1)=n - 1 - k by omega];exact HT2.out.step hx
     have hc:zcR (nth la (n - 1 - k):Int) (nth lb (n - 1 - k):Int)=0:=zei (by omega)
     clear hx
     go_wp2_with fail
     go_roundw
     case rel => exact ⟨k+1,by omega,by go_num,Hr,cT⟩
     case measure => simp [intOf];omega
    ·have Hr:=Lib.hid (zfF (HT2.out.symm.lt hb.1 hx))
     have hc:zcR (nth la (n - 1 - k):Int) (nth lb (n - 1 - k):Int)=1:=zej (by omega)
     go_wp2_with fail
     go_ret
     exact ⟨zo (zr (hc.trans Hr.out.symm)),cT⟩
   ·have Hr:=Lib.hid (zfE (show val la=val lb by have:=HT.out;rw [show n - k=0 by omega] at this;exact this.zero))
    go_wp2_with fail
    go_ret
    exact ⟨zo (zr Hr.out.symm),hbw⟩
 ·have H:=Lib.hid (zja h)
  have hc:zcR (sz (val la):Int) (sz (val lb):Int)=1:=zej (by omega)
  have Hc:=Lib.hid hc
  clear hc
  go_enter Try.func85,Try.ntmps85
  go_wp2_with fail
  refine (zab _ _ _ ha).mono ?_
  rintro e w' ⟨rfl,rfl⟩
  go_wp2_with fail
  refine (zab _ _ _ hb).mono ?_
  rintro e w' ⟨rfl,rfl⟩
  go_wp2_with fail
  refine (zfG _ _ _).mono ?_
  rintro e w' ⟨rfl,rfl⟩
  rw [Hc.out]
  go_wp2_with fail
  go_ret
  exact ⟨zo (zr H.out.symm),Below.refl _ _⟩

theorem add_step {base:Nat} {w:World} {n k:Nat} {z la lb:List Nat} {h:Nat} (hz:Own base w (.slice (some ⟨h,0,none⟩) (n+1) (n+1)) z) (hzl:z.length=n+1)
  (hzv:val (z.take k)+B ^ k*nth z n=val (la.take k)+val (lb.take k)) (hkn:k<n) (hx:nth la k<4294967296) (hy:nth lb k<4294967296) (hc:nth z n<4294967296) :
  Hid (∃ z':List Nat,Own base ((w.setCell ⟨h,k,none⟩ (.int .u32 (((nth la k:Int)+nth lb k+nth z n) % 4294967296))).setCell ⟨h,n,none⟩ (.int .u32 (((nth la k:Int)+nth lb k+nth z n) / 4294967296)))
   (.slice (some ⟨h,0,none⟩) (n+1) (n+1)) z'/\z'.length=n+1/\val (z'.take (k+1))+B ^ (k+1)*nth z' n=val (la.take (k+1))+val (lb.take (k+1))):=by
 have e1:((nth la k:Int)+nth lb k+nth z n) % 4294967296=(((nth la k+nth lb k+nth z n) % 4294967296:Nat):Int):=by omega
 have e2:((nth la k:Int)+nth lb k+nth z n) / 4294967296=(((nth la k+nth lb k+nth z n) / 4294967296:Nat):Int):=by omega
 rw [e1,e2]
 refine ⟨(z.set k ((nth la k+nth lb k+nth z n) % 4294967296)).set n ((nth la k+nth lb k+nth z n) / 4294967296),zaY (zaY hz k _ (by simp only [zam];omega)) n _ (by simp only [zam];omega),by simpa using hzl,?_⟩
 rw [zdV (by omega),zdk (by omega),zaI (by simp;omega),zm,zm]
 have hs:=Nat.mod_add_div (nth la k+nth lb k+nth z n) 4294967296
 generalize (nth la k+nth lb k+nth z n) % 4294967296=s at *
 generalize (nth la k+nth lb k+nth z n) / 4294967296=q at *
 have h1:B ^ (k+1)*q=B ^ k*(4294967296*q):=by rw [Nat.pow_succ,Nat.mul_assoc];rfl
 rw [h1,Nat.add_assoc,<- Nat.mul_add,hs,Nat.mul_add,Nat.mul_add]
 omega

theorem ziv (va vb:Value) (la lb:List Nat) (w:World) (ha:Rd w va la) (hb:Rd w vb lb) (hla:la.length<=1000000) (hlb:lb.length<=1000000) :
  Calls Try.prog 29 #[va,vb] w (zcg w (zc (val la+val lb))):=by
 obtain ⟨aa,na,capa,rfl,Hna,hma⟩:=ha.open
 obtain ⟨ab,nb,capb,rfl,Hnb,hmb⟩:=hb.open
 have hna:na<=1000000:=by have:=Hna.out;omega
 have hnb:nb<=1000000:=by have:=Hnb.out;omega
 clear hma hmb
 obtain ⟨n,hn,hn1,hn2,hn3⟩:∃ n,max na nb=n/\na<=n/\nb<=n/\n<=1000000:=⟨_,rfl,by omega,by omega,by omega⟩
 have hmax:max (na:Int) (nb:Int)=(n:Int):=by omega
 have Hn:=Lib.hid hn
 clear hn
 go_enter Try.func29,Try.ntmps29
 go_wp2_with (at_make;refine zbN _ rfl _ _ rfl _ _ _ _ (n+1) rfl rfl (by simp) (by simp) (by omega) ?_;intro w1 hown1 aT c8)
 have hlt1:w.heap.size<w1.heap.size:=c8
 go_loopw [17] (fun i ww => ∃ k:Nat,k<=n/\i=.int .i64 k/\Hid (∃ z:List Nat,Own w.heap.size ww (.slice (some ⟨w.heap.size,0,none⟩) (n+1) (n+1)) z/\z.length=n+1 /\
   val (z.take k)+B ^ k*nth z n=val (la.take k)+val (lb.take k))/\Below w.heap.size w ww/\w.heap.size<ww.heap.size) (fun i _ => n - (intOf i).toNat)
 case atStart => exact ⟨0,Nat.zero_le _,rfl,⟨List.replicate (n+1) 0,hown1,by simp,by simp [val,zah]⟩,aT,c8⟩
 case round =>
  obtain ⟨k,hk,rfl,HZ,hbw,hsw⟩:=hrel
  obtain ⟨z,hz,hzl,hzv⟩:=HZ.out
  have Hzl:=Lib.hid hzl
  have Hzv:=Lib.hid hzv
  clear HZ hzl hzv
  by_cases hkn:k<n
  ·have hA:=ha.to hbw
   have hB:=hb.to hbw
   obtain ⟨hcn,hfn⟩:=zay hz (show n<z.length by rw [Hzl.out];omega)
   have hi1:(n:Int)<(n:Int)+1:=by omega
   have hi2:(k:Int)<(n:Int)+1:=by omega
   have hx:=ha.1.nth k
   have hy:=hb.1.nth k
   have hc:=hz.1.nth n
   simp only [zam] at hx hy hc
   have hne:k≠n:=by omega
   have hne':n≠k:=by omega
   go_wp2_with fail
   go_region_with (first
    | (go_at_call 47;refine (nat_at _ _ _ _ (by first|exact hA.drew|exact hB.drew) (by omega)).mono ?_;rintro e w' ⟨rfl,rfl⟩)
    | (
      go_at_call 46;refine (limb_add _ _ _ _ (by omega) (by omega) (by omega) (by omega) (by omega) (by omega)).mono ?_;rintro e w2 ⟨rfl,aL⟩;
      have hz2:=hz.drew.to aL;obtain ⟨q1,q2⟩:=zay hz2 (show k<z.length by rw [Hzl.out];omega);obtain ⟨q3,q4⟩:=zay hz2 (show n<z.length by rw [Hzl.out];omega)))
   all_goals
    clear q1 q2 q3 q4 hcn hfn
    go_wp2_with fail
    go_roundw
    case measure => simp [intOf];omega
    case rel => exact ⟨k+1,by omega,by go_num,add_step hz2 Hzl.out Hzv.out hkn hx hy hc,((hbw.drew.trans (aL.mono (Nat.le_of_lt hsw))).setCell (Nat.le_refl _) _).setCell (Nat.le_refl _) _,by have:=aL.size;simp at this ⊢;omega⟩
  ·have Hv:=Lib.hid (show val z=val la+val lb by
    have h1:=Hzv.out
    have h2:=Hna.out
    have h3:=Hnb.out
    rw [show k=n by omega,zv (l:=la) (by omega),zv (l:=lb) (by omega)] at h1
    rw [<- h1,<- zba (by rw [Hzl.out];omega),zv (by rw [Hzl.out];omega)])
   go_wp2_with fail
   refine (zan _ _ _ hz.rd (by rw [Hzl.out];omega)).mono ?_
   rintro e w3 ⟨v,rfl,hv,bM⟩
   go_wp2_with fail
   go_ret
   exact ⟨_,rfl,by rw [<- Hv.out];exact hv.mono (Nat.le_of_lt hsw),hbw.trans (bM.mono (Nat.le_of_lt hsw))⟩

end Go.Proofs.Ytkjcdnlpjldhaaa


namespace Go.Proofs.Ytkjcdnlpjldhaaa
open Go.RowKit Tw

theorem sub_step {base:Nat} {w:World} {n k:Nat} {z la lb:List Nat} {h c:Nat} (hz:Own base w (.slice (some ⟨h,0,none⟩) n n) z) (hzl:z.length=n)
  (hzv:val (la.take k)+B ^ k*c=val (z.take k)+val (lb.take k)) (hkn:k<n) (hx:nth la k<4294967296) (hy:nth lb k<4294967296) (hc:c<=1) :
  ∃ c':Nat,c'<=1/\- (((nth la k:Int) - nth lb k - c) / 4294967296)=(c':Int) /\
  Hid (∃ z':List Nat,Own base (w.setCell ⟨h,k,none⟩ (.int .u32 (((nth la k:Int) - nth lb k - c) % 4294967296)))
   (.slice (some ⟨h,0,none⟩) n n) z'/\z'.length=n/\val (la.take (k+1))+B ^ (k+1)*c'=val (z'.take (k+1))+val (lb.take (k+1))):=by
 obtain ⟨c',hc'⟩:∃ c':Nat,- (((nth la k:Int) - nth lb k - c) / 4294967296)=(c':Int):=⟨(- (((nth la k:Int) - nth lb k - c) / 4294967296)).toNat,by omega⟩
 obtain ⟨d,hd⟩:∃ d:Nat,((nth la k:Int) - nth lb k - c) % 4294967296=(d:Int):=⟨(((nth la k:Int) - nth lb k - c) % 4294967296).toNat,by omega⟩
 refine ⟨c',by omega,hc',?_⟩
 rw [hd]
 refine ⟨z.set k d,zaY hz k d (by simp only [zam];omega),by simpa using hzl,?_⟩
 rw [zdk (by omega),zm,zm]
 have hs:nth la k+4294967296*c'=d+nth lb k+c:=by omega
 have h1:B ^ (k+1)*c'=B ^ k*(4294967296*c'):=by rw [Nat.pow_succ,Nat.mul_assoc];rfl
 have h2:B ^ k*(nth la k+4294967296*c')=B ^ k*(d+nth lb k+c):=by rw [hs]
 rw [Nat.mul_add,Nat.mul_add,Nat.mul_add] at h2
 rw [h1]
 omega

theorem zeH (va vb:Value) (la lb:List Nat) (w:World) (ha:Rd w va la) (hb:Rd w vb lb) (h:val la<val lb) :
  Calls Try.prog 91 #[va,vb] w fun e w' => e=.returned (.tuple #[.slice none 0 0,.bool false])/\Below w.heap.size w w':=by
 have Hc:=Lib.hid (zem h)
 go_enter Try.func91,Try.ntmps91
 go_wp2_with fail
 refine (zfN _ _ _ _ _ ha hb).mono ?_
 rintro e w1 ⟨rfl,aT⟩
 rw [Hc.out]
 go_wp2_with fail
 go_ret2
 exact ⟨rfl,aT⟩

def zfA (w:World) (l:List Nat) (e:Ending) (w':World):Prop :=
 ∃ v,e=.returned (.tuple #[v,.bool true])/\Own w.heap.size w' v l/\Below w.heap.size w w'

theorem zfO (va vb:Value) (la lb:List Nat) (w:World) (ha:Rd w va la) (hb:Rd w vb lb) (hla:la.length<=1000000) (h:val lb<=val la) :
  Calls Try.prog 91 #[va,vb] w (zfA w (zc (val la - val lb))):=by
 have hc0:¬ zaG (val la) (val lb)<0:=by have:=zel.2 h;omega
 have hc1:0<=zaG (val la) (val lb):=by omega
 have hcd:decide (zaG (val la) (val lb)<0)=false:=by simp;omega
 have hsz:=zu ha.1
 obtain ⟨aa,na,capa,rfl,Hna,hma⟩:=ha.open
 have hna:na<=1000000:=by have:=Hna.out;omega
 have Hszb:=Lib.hid (zV h)
 have Hlt:=Lib.hid (zcJ (val la))
 have Hle:=Lib.hid h
 clear h hma
 rw [Hna.out] at hsz
 go_enter Try.func91,Try.ntmps91
 go_wp2_with fail
 refine (zfN _ _ _ _ _ ha hb).mono ?_
 rintro e w0 ⟨rfl,eD⟩
 go_wp2_with fail
 refine (zab _ _ _ (ha.to eD)).mono ?_
 rintro e w' ⟨rfl,rfl⟩
 generalize hn:sz (val la)=n at *
 have Hn:=Lib.hid hn
 clear hn
 go_wp2_with (at_make;refine zbN _ rfl _ _ rfl _ _ _ _ n rfl rfl rfl rfl (by omega) ?_;intro w1 hown1 aT c8)
 have iR:w.heap.size<=w0.heap.size:=eD.size
 go_loopw [8,19] (fun br i ww => ∃ k c:Nat,k<=n/\c<=1/\br=.int .u32 c/\i=.int .i64 k/\Hid (∃ z:List Nat,Own w0.heap.size ww (.slice (some ⟨w0.heap.size,0,none⟩) n n) z/\z.length=n /\
   val (la.take k)+B ^ k*c=val (z.take k)+val (lb.take k))/\Below w.heap.size w ww/\w0.heap.size<ww.heap.size) (fun _ i _ => n - (intOf i).toNat)
 case atStart => exact ⟨0,0,Nat.zero_le _,by omega,rfl,rfl,⟨List.replicate n 0,hown1,by simp,by simp [val]⟩,eD.trans (aT.mono iR),c8⟩
 case round =>
  obtain ⟨k,c,hk,hc,rfl,rfl,HZ,hbw,hsw⟩:=hrel
  obtain ⟨z,hz,hzl,hzv⟩:=HZ.out
  have Hzl:=Lib.hid hzl
  have Hzv:=Lib.hid hzv
  clear HZ hzl hzv
  by_cases hkn:k<n
  ·have hB:=hb.to hbw
   obtain ⟨ba,offa,rfl,hcella⟩:=(ha.to hbw).cells (by rw [Hna.out];omega)
   have hxa:=hcella k (by rw [Hna.out];omega)
   have hi1:(k:Int)<(n:Int):=by omega
   have hi2:(k:Int)<(na:Int):=by omega
   have hx:=ha.1.nth k
   have hy:=hb.1.nth k
   simp only [zam] at hx hy
   clear hcella
   go_wp2_with fail
   go_region_with (first
    | (go_at_call 47;refine (nat_at _ _ _ _ hB.drew (by omega)).mono ?_;rintro e w' ⟨rfl,rfl⟩)
    | (
      go_at_call 98;refine (limb_sub _ _ _ _ (by omega) (by omega) (by omega) (by omega) (by omega) (by omega)).mono ?_;rintro e w2 ⟨rfl,aL⟩;
      have hz2:=hz.drew.to aL;obtain ⟨q1,q2⟩:=zay hz2 (show k<z.length by rw [Hzl.out];omega)))
   all_goals
    clear q1 q2 hxa
    obtain ⟨c',hc',hce,hst⟩:=sub_step hz2 Hzl.out Hzv.out hkn hx hy hc
    have Hce:=Lib.hid hce
    clear hce
    go_wp2_with fail
    go_roundw
    case measure => simp [intOf];omega
    case rel => exact ⟨k+1,c',by omega,hc',zr Hce.out,by go_num,hst,((hbw.drew.trans (aL.mono (by simp;omega)))).setCell iR _,by have:=aL.size;simp at this ⊢;omega⟩
  ·have Hv:=Lib.hid (show val z=val la - val lb by
    have h1:=Hzv.out
    have h2:=hz.1
    have h3:=zbG h2
    have hkn2:k=n:=by omega
    rw [Hzl.out] at h3
    have h4:val (la.take n)=val la:=by rw [<- Hn.out];exact zav ha.1
    have h5:val (lb.take n)=val lb:=by
     have h7:=Hszb.out
     exact zdX hb.1 h7
    rw [hkn2,h4,h5,zv (l:=z) (by rw [Hzl.out];exact Nat.le_refl _)] at h1
    have h8:=Hlt.out
    have h9:=Hle.out
    rcases Nat.eq_zero_or_pos c with rfl|hcp
    ·omega
    ·obtain rfl:c=1:=by omega
     omega)
   go_wp2_with fail
   refine (zan _ _ _ hz.rd (by rw [Hzl.out];omega)).mono ?_
   rintro e w3 ⟨v,rfl,hv,bM⟩
   go_wp2_with fail
   go_ret2
   exact ⟨_,rfl,by rw [<- Hv.out];exact hv.mono (by omega),hbw.trans (bM.mono (by omega))⟩

end Go.Proofs.Ytkjcdnlpjldhaaa


namespace Go.Proofs.Ytkjcdnlpjldhaaa
open Go.RowKit Tw

theorem sz_one:sz 1=1:=by decide +kernel

theorem zdK (n:Nat):∀ k,sz (n ^ k)<=k*sz n+1
 | 0 => by rw [Nat.pow_zero,sz_one];omega
 | k+1 => by
  have h1:=zdK n k
  have h2:=zap (n ^ k) n
  rw [Nat.pow_succ,Nat.add_mul,Nat.one_mul]
  omega

def seg (Z:List Nat) (off:Nat):Nat->Nat
 | 0 => 0
 | k+1 => seg Z off k+B ^ k*nth Z (off+k)

theorem zaU (Z:List Nat) (off k:Nat):seg Z off (k+1)=seg Z off k+B ^ k*nth Z (off+k):=rfl

theorem zcB {Z Y:List Nat} {off:Nat}:∀ {k:Nat},(∀ j,off<=j->j<off+k->nth Z j=nth Y j)->seg Z off k=seg Y off k
 | 0,_ => rfl
 | k+1,h => by rw [zaU,zaU,zcB (fun j h1 h2 => h j h1 (by omega)),h (off+k) (by omega) (by omega)]

theorem zcr (Z:List Nat):∀ k,seg Z 0 k=val (Z.take k)
 | 0 => rfl
 | k+1 => by rw [zaU,zcr Z k,zm,Nat.zero_add]

theorem zdF (Z:List Nat) (i:Nat):∀ m,seg Z 0 (i+m)=seg Z 0 i+B ^ i*seg Z i m
 | 0 => by simp [seg]
 | m+1 => by
  rw [<- Nat.add_assoc,zaU,zdF Z i m,zaU,Nat.zero_add,Nat.mul_add,Nat.pow_add]
  rw [Nat.mul_assoc,Nat.add_assoc]

theorem zfo {S Sz A k c x z w q s o:Nat} (hv:S+B ^ k*c=Sz+A*w+o) (hq:(x*w+z+c) / 4294967296=q) (hs:(x*w+z+c) % 4294967296=s) :
  S+B ^ k*s+B ^ (k+1)*q=Sz+B ^ k*z+(A+B ^ k*x)*w+o:=by
 have h1:B ^ (k+1)*q=B ^ k*(4294967296*q):=by rw [Nat.pow_succ,Nat.mul_assoc];rfl
 have h2:s+4294967296*q=x*w+z+c:=by omega
 have h3:B ^ k*(s+4294967296*q)=B ^ k*(x*w+z+c):=by rw [h2]
 rw [Nat.mul_add,Nat.mul_add,Nat.mul_add] at h3
 rw [h1,Nat.add_mul,Nat.mul_assoc (B ^ k) x w]
 omega

def Only (Z Y:List Nat) (off k:Nat):Prop:=Y.length=Z.length/\∀ j,j<off\/off+k<=j->nth Y j=nth Z j

theorem Only.set {Z Y:List Nat} {off k s:Nat} (h:Only Z Y off k):Only Z (Y.set (off+k) s) off (k+1) :=
 ⟨by simpa using h.1,fun j hj => by rw [zbC (by omega)];exact h.2 j (by omega)⟩

theorem Only.seg_lo {Z Y:List Nat} {off k:Nat} (h:Only Z Y off k):seg Y 0 off=seg Z 0 off:=zcB fun j _ h2 => h.2 j (.inl (by omega))

theorem zjp {base g N off k cc wd C:Nat} {w:World} {Z Y la:List Nat} (hy:Own base w (.slice (some ⟨g,0,none⟩) N N) Y) (ho:Only Z Y off k)
  (hv:seg Y off k+B ^ k*cc=seg Z off k+val (la.take k)*wd+C) (hx:nth la k<4294967296) (hw:wd<4294967296) (hz:nth Y (off+k)<4294967296) (hc:cc<4294967296) (hlen:off+k<Y.length) :
  ∃ c':Nat,c'<4294967296/\((nth la k:Int)*wd+nth Y (off+k)+cc) / 4294967296=(c':Int) /\
   Hid (∃ Y',Own base (w.setCell ⟨g,off+k,none⟩ (.int .u32 (((nth la k:Int)*wd+nth Y (off+k)+cc) % 4294967296))) (.slice (some ⟨g,0,none⟩) N N) Y'/\Only Z Y' off (k+1) /\
    seg Y' off (k+1)+B ^ (k+1)*c'=seg Z off (k+1)+val (la.take (k+1))*wd+C):=by
 have hm:nth la k*wd<=4294967295*4294967295:=Nat.mul_le_mul (by omega) (by omega)
 have e:((nth la k:Int)*wd+nth Y (off+k)+cc)=((nth la k*wd+nth Y (off+k)+cc:Nat):Int):=by push_cast;rfl
 have hlt:(nth la k*wd+nth Y (off+k)+cc) / 4294967296<4294967296:=by omega
 refine ⟨(nth la k*wd+nth Y (off+k)+cc) / 4294967296,hlt,by rw [e];omega,?_⟩
 have e2:(((nth la k*wd+nth Y (off+k)+cc:Nat):Int) % 4294967296)=(((nth la k*wd+nth Y (off+k)+cc) % 4294967296:Nat):Int):=by omega
 rw [e,e2]
 refine ⟨Y.set (off+k) ((nth la k*wd+nth Y (off+k)+cc) % 4294967296),zaY hy _ _ (by simp only [zam];omega),ho.set,?_⟩
 rw [zaU,zaI hlen,zaU Z,zm,<- ho.2 (off+k) (.inr (Nat.le_refl _))]
 rw [zcB (Y:=Y) (fun j _ h2 => zbC (by omega))]
 exact zfo hv rfl rfl

theorem zgE (base g N off n capx:Nat) (Z la:List Nat) (va:Value) (wd c:Int) (w0 w:World) (hz:Own base w (.slice (some ⟨g,0,none⟩) N N) Z) (ha:Rd w0 va la) (h0:w0.heap.size<=base)
  (hb:Below base w0 w) (hg:base<=g) (hbs:base<=w.heap.size) (hn:la.length=n) (hoff:off+n+1<=Z.length) (hN:Z.length<=3000000) (wd0:0<=wd) (wd1:wd<4294967296) (c0:0<=c) (c1:c<4294967296) :
  Calls Try.prog 95 #[.slice (some ⟨g,off,none⟩) (n+1) capx,va,.int .u32 wd,.int .u32 c] w fun e w' => e=.returned (.tuple #[])/\∃ Y,Own base w' (.slice (some ⟨g,0,none⟩) N N) Y /\
   Only Z Y off (n+1)/\seg Y off (n+1)=seg Z off n+val la*wd.toNat+c.toNat/\Below base w w':=by
 obtain ⟨wd,rfl⟩:=Int.eq_ofNat_of_zero_le wd0
 obtain ⟨C,rfl⟩:=Int.eq_ofNat_of_zero_le c0
 simp only [Int.toNat_natCast]
 obtain ⟨aa,na,capa,rfl,Hna,_⟩:=ha.open
 have hnn:n=na:=by rw [<- hn];exact Hna.out
 subst hnn
 have Hn:=Lib.hid hn
 have hnb:n<=3000000:=by omega
 clear hn
 go_enter Try.func95,Try.ntmps95
 go_wp2_with fail
 go_loopw [3,12] (fun cs i ww => ∃ (k cc:Nat),k<=n/\cc<4294967296/\cs=.int .u32 cc/\i=.int .i64 k/\Below base w ww/\base<=ww.heap.size /\
   Hid (∃ Y,Own base ww (.slice (some ⟨g,0,none⟩) N N) Y/\Only Z Y off k/\seg Y off k+B ^ k*cc=seg Z off k+val (la.take k)*wd+C)) (fun _ i _ => n - (intOf i).toNat)
 case atStart => exact ⟨0,C,by omega,by omega,rfl,rfl,Below.refl _ _,hbs,Z,hz,⟨rfl,fun _ _ => rfl⟩,by simp [seg,val]⟩
 case round =>
  obtain ⟨k,cc,hk,hcc,rfl,rfl,hbw,hsw,HY⟩:=hrel
  obtain ⟨Y,hy,hyo,hyv⟩:=HY.out
  have Hyo:=Lib.hid hyo
  have Hyv:=Lib.hid hyv
  clear HY hyo hyv
  by_cases hkn:k<n
  ·obtain ⟨b,o,rfl,hcell⟩:=(ha.below (hb.trans hbw) h0).cells (by rw [Hn.out];omega)
   have hck:=hcell k (by rw [Hn.out];omega)
   have hx:=ha.1.nth k
   have hzz:=hy.1.nth (off+k)
   simp only [zam] at hx hzz
   obtain ⟨q1,q2⟩:=zay hy (show off+k<Y.length by rw [Hyo.out.1];omega)
   clear hcell
   go_wp2_with fail
   refine (limb_mul _ _ _ _ _ (by omega) (by omega) (by omega) (by omega) (by omega) (by omega) (by omega) (by omega)).mono ?_
   rintro e w2 ⟨rfl,aL⟩
   have hy2:=hy.to aL
   have jL:base<=w2.heap.size:=Nat.le_trans hsw aL.size
   have cT:=hbw.trans (aL.mono hsw)
   clear q1 q2 hck
   obtain ⟨q1,q2⟩:=zay hy2 (show off+k<Y.length by rw [Hyo.out.1];omega)
   obtain ⟨c',hc',hce,HY2⟩:=zjp hy2 Hyo.out Hyv.out hx (by omega) hzz hcc (by rw [Hyo.out.1];omega)
   have Hce:=Lib.hid hce
   clear hce
   go_wp2_with fail
   go_roundw
   case rel => exact ⟨k+1,c',by omega,hc',zr Hce.out,by go_num,cT.setCell hg _,by simpa using jL,HY2⟩
   case measure => simp [intOf];omega
  ·have hkn2:k=n:=by omega
   subst hkn2
   obtain ⟨q1,q2⟩:=zay hy (show off+k<Y.length by rw [Hyo.out.1];omega)
   have hi1:(k:Int)<(k:Int)+1:=by omega
   go_wp2_with fail
   go_end0
   refine ⟨rfl,Y.set (off+k) cc,zaY hy _ _ (by simp only [zam];omega),Hyo.out.set,?_,hbw.setCell hg _⟩
   have h1:=Hyv.out
   rw [zaU,zaI (by rw [Hyo.out.1];omega),zcB (Y:=Y) (fun j _ h2 => zbC (by omega)),h1,zv (by rw [Hn.out];exact Nat.le_refl _)]

theorem zfx (va:Value) (la:List Nat) (wd c:Int) (w:World) (ha:Rd w va la) (hla:la.length<=1000000) (wd0:0<=wd) (wd1:wd<4294967296) (c0:0<=c) (c1:c<4294967296) :
  Calls Try.prog 89 #[va,.int .u32 wd,.int .u32 c] w (zcg w (zc (val la*wd.toNat+c.toNat))):=by
 obtain ⟨aa,na,capa,rfl,Hna,_⟩:=ha.open
 have hna:na<=1000000:=by have:=Hna.out;omega
 go_enter Try.func89,Try.ntmps89
 go_wp2_with (at_make;refine zbN _ rfl _ _ rfl _ _ _ _ (na+1) rfl rfl (by simp) (by simp) (by omega) ?_;intro w1 hown1 aT c8)
 refine (zgE w.heap.size w.heap.size _ 0 na _ (List.replicate (na+1) 0) la _ _ _ w w1 hown1 ha (Nat.le_refl _) aT (Nat.le_refl _) (Nat.le_of_lt c8) Hna.out (by simp) (by simp;omega) wd0 wd1 c0 c1).mono ?_
 rintro e w2 ⟨rfl,Y,hY,hYo,hYv,aL⟩
 have Hv:=Lib.hid (show val Y=val la*wd.toNat+c.toNat by
  have h1:Y.length=na+1:=by rw [hYo.1];simp
  have h2:seg (List.replicate (na+1) 0) 0 na=0:=by rw [zcr,List.take_replicate,zbS]
  rw [h2,Nat.zero_add,zcr,zv (by omega)] at hYv
  exact hYv)
 have hYl:Y.length<=1000001:=by rw [hYo.1];simp;omega
 clear hYo hYv
 go_wp2_with fail
 refine (zan _ _ _ hY.rd (by omega)).mono ?_
 rintro e w3 ⟨v,rfl,hv,bM⟩
 have da:w.heap.size<=w2.heap.size:=Nat.le_of_lt (hY.lt w.heap.size rfl).2
 go_wp2_with fail
 go_ret
 exact ⟨_,rfl,by rw [<- Hv.out];exact hv.mono da,(aT.trans aL).trans (bM.mono da)⟩

theorem mul_step {Z Y la lb:List Nat} {i n:Nat} (hv:seg Z 0 (i+n)=val la*val (lb.take i)) (hz:∀ j,i+n<=j->nth Z j=0) (ho:Only Z Y i (n+1)) (hs:seg Y i (n+1)=seg Z i n+val la*nth lb i) :
  seg Y 0 (i+1+n)=val la*val (lb.take (i+1))/\∀ j,i+1+n<=j->nth Y j=0:=by
 constructor
 ·rw [show i+1+n=i+(n+1) by omega,zdF,hs,ho.seg_lo,Nat.mul_add,<- Nat.add_assoc,<- zdF,hv,zm,Nat.mul_add]
  rw [<- Nat.mul_assoc,Nat.mul_comm (B ^ i),Nat.mul_assoc]
 ·intro j hj
  rw [ho.2 j (by omega)]
  exact hz j (by omega)

theorem zbx (va vb:Value) (la lb:List Nat) (w:World) (ha:Rd w va la) (hb:Rd w vb lb) (hla:la.length<=1000000) (hlb:lb.length<=1000000) :
  Calls Try.prog 81 #[va,vb] w (zcg w (zc (val la*val lb))):=by
 obtain ⟨aa,na,capa,rfl,Hna,_⟩:=ha.open
 obtain ⟨ab,nb,capb,rfl,Hnb,_⟩:=hb.open
 have hna:na<=1000000:=by have:=Hna.out;omega
 have hnb:nb<=1000000:=by have:=Hnb.out;omega
 go_enter Try.func81,Try.ntmps81
 go_wp2_with (at_make;refine zbN _ rfl _ _ rfl _ _ _ _ (na+nb+1) rfl rfl (by simp) (by simp) (by omega) ?_;intro w1 hown1 aT c8)
 go_loopw [6,7,8,18] (fun _ _ _ i ww => ∃ (k:Nat),k<=nb/\i=.int .i64 k/\Below w.heap.size w ww/\w.heap.size<=ww.heap.size /\
   Hid (∃ Z,Own w.heap.size ww (.slice (some ⟨w.heap.size,0,none⟩) (na+nb+1) (na+nb+1)) Z/\Z.length=na+nb+1/\seg Z 0 (k+na)=val la*val (lb.take k)/\∀ j,k+na<=j->nth Z j=0)) (fun _ _ _ i _ => nb - (intOf i).toNat)
 case atStart => exact ⟨0,by omega,rfl,aT,Nat.le_of_lt c8,List.replicate (na+nb+1) 0,hown1,by simp,by rw [zcr,List.take_replicate,zbS];simp [val],fun j _ => by
  rw [zah,List.getD_eq_getElem?_getD,List.getElem?_replicate];split <;> rfl⟩
 case round =>
  obtain ⟨k,hk,rfl,hbw,hsw,HZ⟩:=hrel
  obtain ⟨Z,hz,hzl,hzv,hzz⟩:=HZ.out
  have Hzl:=Lib.hid hzl
  have Hzv:=Lib.hid hzv
  have Hzz:=Lib.hid hzz
  clear HZ hzl hzv hzz
  by_cases hkn:k<nb
  ·obtain ⟨b,o,rfl,hcell⟩:=(hb.to hbw).cells (by rw [Hnb.out];omega)
   have hck:=hcell k (by rw [Hnb.out];omega)
   have hx:=hb.1.nth k
   simp only [zam] at hx
   clear hcell
   go_wp2_with fail
   rw [show k+na+1 - k=na+1 by omega]
   refine (zgE w.heap.size w.heap.size _ k na _ Z la _ _ _ w wr hz ha (Nat.le_refl _) hbw (Nat.le_refl _) hsw Hna.out (by rw [Hzl.out];omega) (by rw [Hzl.out];omega) (by omega) (by omega) (by omega) (by omega)).mono ?_
   rintro e w2 ⟨rfl,Y,hY,hYo,hYv,aL⟩
   have da:w.heap.size<=w2.heap.size:=Nat.le_of_lt (hY.lt w.heap.size rfl).2
   have Hst:=Lib.hid (mul_step Hzv.out Hzz.out hYo (by rw [Int.toNat_natCast,Int.toNat_zero,Nat.add_zero] at hYv;exact hYv))
   have Hyl:=Lib.hid (show Y.length=na+nb+1 by rw [hYo.1];exact Hzl.out)
   clear hYo hYv
   go_wp2_with fail
   go_roundw
   case rel => exact ⟨k+1,by omega,by go_num,hbw.trans aL,da,Y,hY,Hyl.out,Hst.out.1,Hst.out.2⟩
   case measure => simp [intOf];omega
  ·have hkn2:k=nb:=by omega
   subst hkn2
   have Hv:=Lib.hid (show val Z=val la*val lb by
    have h1:=Hzv.out
    have h2:=Hzz.out (k+na) (Nat.le_refl _)
    rw [zv (l:=lb) (by rw [Hnb.out];exact Nat.le_refl _)] at h1
    rw [<- h1,<- zv (l:=Z) (k:=k+na+1) (by rw [Hzl.out];omega),<- zcr,zaU,Nat.zero_add,h2];simp)
   go_wp2_with fail
   refine (zan _ _ _ hz.rd (by rw [Hzl.out];omega)).mono ?_
   rintro e w3 ⟨v,rfl,hv,bM⟩
   go_wp2_with fail
   go_ret
   exact ⟨_,rfl,by rw [<- Hv.out];exact hv.mono hsw,hbw.trans (bM.mono hsw)⟩

theorem zhT {n k:Nat} (h:n<=1) (hk:1<=k):n ^ k=n:=by
 rcases Nat.eq_zero_or_pos n with rfl|h1
 ·exact Nat.zero_pow hk
 ·obtain rfl:n=1:=by omega
  exact Nat.one_pow k

def zfq (n:Nat) (k:Int):Prop:=k<0\/1<n/\(4096 / sz n:Nat)<k

theorem zbX (va:Value) (la:List Nat) (k:Int) (w:World) (ha:Rd w va la) (hla:la.length<=1000000) (h:¬ zfq (val la) k) :
  Calls Try.prog 74 #[va,.int .i64 k] w (zfA w (zc (val la ^ k.toNat))):=by
 have hnb:zD (val la)<=32000000:=by
  have h1:=zbG ha.1
  have h2:B ^ la.length=2 ^ (32*la.length):=by rw [Nat.pow_mul];rfl
  rw [h2] at h1
  have:=zbB.2 h1
  omega
 have hk0:0<=k:=Int.not_lt.1 fun e => h (.inl e)
 have hsl:=zu ha.1
 have H1:=Lib.hid (show zc (1:Int).toNat=zc 1 from rfl)
 obtain ⟨aa,na,capa,rfl,Hna,_⟩:=ha.open
 have hcap:=ha.len_cap
 have hnc:na<=capa:=by have:=Hna.out;omega
 have hsn:sz (val la)<=na:=by have:=Hna.out;omega
 by_cases hb:1<zD (val la)
 ·have hv1:1<val la:=by
   rcases Nat.lt_or_ge 1 (val la) with h1|h1
   ·exact h1
   ·have:=zhR h1;have h3:zD 1=1:=by decide +kernel
    omega
  have jI:sz (val la)≠0:=fun e => by have:=zA.1 e;omega
  have c8:1<=sz (val la):=by omega
  obtain ⟨m,rfl⟩:=Int.eq_ofNat_of_zero_le hk0
  have hkm:m<=4096 / sz (val la):=Nat.not_lt.1 fun e => h (.inr ⟨hv1,by omega⟩)
  have Hms:=Lib.hid (show m*sz (val la)<=4096 from Nat.le_trans (Nat.mul_le_mul_right _ hkm) (Nat.div_mul_le_self _ _))
  have hm4:m<=4096:=Nat.le_trans hkm (Nat.div_le_self _ _)
  have hk:(m:Int)<=(4096:Int) / (sz (val la):Int):=by
   have:((4096 / sz (val la):Nat):Int)=(4096:Int) / (sz (val la):Int):=by simp
   omega
  have Hfin:=Lib.hid (show val la ^ (m:Int).toNat=val la ^ m by rw [Int.toNat_natCast])
  clear h hkm hv1
  go_enter Try.func74,Try.ntmps74
  go_wp2_with fail
  refine (zab _ la _ ha).mono ?_
  rintro e w' ⟨rfl,rfl⟩
  go_wp2_with fail
  refine (zat _ la _ ha hla).mono ?_
  rintro e w' ⟨rfl,rfl⟩
  go_wp2_with fail
  refine (zcb _ _ (by omega) (by omega)).mono ?_
  rintro e w1 ⟨v1,rfl,hv1,aT⟩
  rw [H1.out] at hv1
  go_wp2_with fail
  go_loopw [8,31] (fun v i ww => ∃ (j:Nat),j<=m/\i=.int .i64 j/\Own w.heap.size ww v (zc (val la ^ j))/\Below w.heap.size w ww) (fun _ i _ => m - (intOf i).toNat)
  case atStart => exact ⟨0,by omega,rfl,by rw [Nat.pow_zero];exact hv1,aT⟩
  case round =>
   obtain ⟨j,hj,rfl,hv,hbw⟩:=hrel
   by_cases hjm:j<m
   ·have hsj:sz (val la ^ j)<=4100:=by
     have h1:=zdK (val la) j
     have h2:j*sz (val la)<=m*sz (val la):=Nat.mul_le_mul_right _ (by omega)
     have h3:=Hms.out
     omega
    have Hp:=Lib.hid (show val (zc (val la ^ j))*val (la.take (sz (val la)))=val la ^ (j+1) by rw [vL,zav ha.1,Nat.pow_succ])
    have hrt:=(ha.to hbw).take (sz (val la)) (by omega)
    go_wp2_with fail
    refine (zbx _ _ _ _ _ hv.rd hrt (by show sz _<=_;omega) (by rw [List.length_take];omega)).mono ?_
    rintro e w2 ⟨v2,rfl,hv2,aL⟩
    rw [Hp.out] at hv2
    go_wp2_with fail
    go_roundw
    case rel => exact ⟨j+1,by omega,by go_num,hv2.mono hbw.size,hbw.trans (aL.mono hbw.size)⟩
    case measure => simp [intOf];omega
   ·have hjm2:j=m:=by omega
    subst hjm2
    go_wp2_with fail
    go_ret2
    exact ⟨_,rfl,by rw [Hfin.out];exact hv,hbw⟩
 ·have hv1:val la<=1:=Nat.not_lt.1 fun e => hb (zgL (n:=1) (by omega))
  obtain ⟨m,hm,hm1,hmk⟩:∃ m:Nat,min k 1=(m:Int)/\m<=1/\(m=0/\k=0\/m=1/\1<=k):=by
   rcases Int.lt_or_le k 1 with h1|h1
   ·exact ⟨0,by omega,by omega,.inl ⟨rfl,by omega⟩⟩
   ·exact ⟨1,by omega,by omega,.inr ⟨rfl,h1⟩⟩
  have hsz1:sz (val la)<=1:=zbM (by omega)
  have Hms:=Lib.hid (show m*sz (val la)<=4096 from Nat.le_trans (Nat.mul_le_mul hm1 hsz1) (by omega))
  have Hfin:=Lib.hid (show val la ^ k.toNat=val la ^ m by
   rcases hmk with ⟨rfl,rfl⟩|⟨rfl,h1⟩
   ·rfl
   ·rw [zhT hv1 (by omega),Nat.pow_one])
  have hmm:min k 1=(m:Int):=hm
  clear h hm hmk hv1
  go_enter Try.func74,Try.ntmps74
  go_wp2_with fail
  refine (zab _ la _ ha).mono ?_
  rintro e w' ⟨rfl,rfl⟩
  go_wp2_with fail
  refine (zat _ la _ ha hla).mono ?_
  rintro e w' ⟨rfl,rfl⟩
  go_wp2_with fail
  refine (zcb _ _ (by omega) (by omega)).mono ?_
  rintro e w1 ⟨v1,rfl,hv1,aT⟩
  rw [H1.out] at hv1
  go_wp2_with fail
  go_loopw [8,31] (fun v i ww => ∃ (j:Nat),j<=m/\i=.int .i64 j/\Own w.heap.size ww v (zc (val la ^ j))/\Below w.heap.size w ww) (fun _ i _ => m - (intOf i).toNat)
  case atStart => exact ⟨0,by omega,rfl,by rw [Nat.pow_zero];exact hv1,aT⟩
  case round =>
   obtain ⟨j,hj,rfl,hv,hbw⟩:=hrel
   by_cases hjm:j<m
   ·have hsj:sz (val la ^ j)<=4100:=by
     have h1:=zdK (val la) j
     have h2:j*sz (val la)<=m*sz (val la):=Nat.mul_le_mul_right _ (by omega)
     have h3:=Hms.out
     omega
    have Hp:=Lib.hid (show val (zc (val la ^ j))*val (la.take (sz (val la)))=val la ^ (j+1) by rw [vL,zav ha.1,Nat.pow_succ])
    have hrt:=(ha.to hbw).take (sz (val la)) (by omega)
    go_wp2_with fail
    refine (zbx _ _ _ _ _ hv.rd hrt (by show sz _<=_;omega) (by rw [List.length_take];omega)).mono ?_
    rintro e w2 ⟨v2,rfl,hv2,aL⟩
    rw [Hp.out] at hv2
    go_wp2_with fail
    go_roundw
    case rel => exact ⟨j+1,by omega,by go_num,hv2.mono hbw.size,hbw.trans (aL.mono hbw.size)⟩
    case measure => simp [intOf];omega
   ·have hjm2:j=m:=by omega
    subst hjm2
    go_wp2_with fail
    go_ret2
    exact ⟨_,rfl,by rw [Hfin.out];exact hv,hbw⟩

theorem zdW (va:Value) (la:List Nat) (k:Int) (w:World) (ha:Rd w va la) (hla:la.length<=900000) :
  Calls Try.prog 72 #[va,.int .i64 k] w (zcg w (zc (val la*2 ^ (max 0 (min k 100000)).toNat))):=by
 obtain ⟨m,hm,hm1⟩:∃ m:Nat,max 0 (min k 100000)=(m:Int)/\m<=100000:=⟨(max 0 (min k 100000)).toNat,by omega,by omega⟩
 have Hm:=Lib.hid (show (max 0 (min k 100000)).toNat=m by rw [hm];rfl)
 rw [hm]
 rw [Int.toNat_natCast]
 have hr:(m % 32:Nat)<32:=Nat.mod_lt _ (by omega)
 have hp:2 ^ (m % 32)<4294967296:=by
  have:=Nat.pow_lt_pow_right (a:=2) (by omega) hr
  omega
 go_enter Try.func72,Try.ntmps72
 go_wp2_with (at_make;refine zbN _ rfl _ _ rfl _ _ _ _ (m / 32) rfl rfl (by simp) (by simp) (by omega) ?_;intro w1 hown1 aT c8)
 have hpe:(2:Int) ^ (m % 32) % 4294967296=((2 ^ (m % 32):Nat):Int):=by
  have h1:(2:Int) ^ (m % 32)=((2 ^ (m % 32):Nat):Int):=by push_cast;rfl
  rw [h1]
  generalize 2 ^ (m % 32)=u at *
  omega
 rw [hpe]
 clear hpe
 refine (zfx va la _ _ w1 (ha.to aT) (by omega) (Int.natCast_nonneg _) (Int.ofNat_lt.2 hp) (by omega) (by omega)).mono ?_
 rintro e w2 ⟨v2,rfl,hv2,aL⟩
 have Hv:=Lib.hid (show val (List.replicate (m / 32) 0++zc (val la*(((2 ^ (m % 32):Nat):Int)).toNat+(0:Int).toNat))=val la*2 ^ m by
  rw [Int.toNat_natCast,zbF,zbS,vL,List.length_replicate,Nat.zero_add,Int.toNat_zero,Nat.add_zero]
  have h1:B ^ (m / 32)=2 ^ (32*(m / 32)):=by rw [Nat.pow_mul];rfl
  rw [h1,Nat.mul_comm (2 ^ (32*(m / 32))),Nat.mul_assoc,<- Nat.pow_add]
  congr 2
  omega)
 have hl2:(zc (val la*(((2 ^ (m % 32):Nat):Int)).toNat+(0:Int).toNat)).length<=900001:=by
  rw [Int.toNat_natCast,Int.toNat_zero,Nat.add_zero]
  have h1:=zap (val la) (2 ^ (m % 32))
  have h2:=zu ha.1
  have h3:=zbM hp
  show sz _<=_
  omega
 have hm32:m / 32<=3125:=by omega
 generalize zc (val la*(((2 ^ (m % 32):Nat):Int)).toNat+(0:Int).toNat)=L at *
 have da:w.heap.size<=w2.heap.size:=by have:=aL.size;omega
 go_wp2_with (at_builtin;refine zaZ _ rfl (.tmp 12) (.tmp 17) rfl w.heap.size _ _ (List.replicate (m / 32) 0) L rfl rfl (hown1.to aL) hv2.rd da (by simp;omega) ?_;intro v3 w3 hown3 bM iS)
 refine (zan _ _ _ hown3.rd (by simp;omega)).mono ?_
 rintro e w4 ⟨v4,rfl,hv4,dA⟩
 rw [Hv.out] at hv4
 go_wp2_with fail
 go_ret
 exact ⟨_,rfl,hv4.mono iS,((aT.trans (aL.mono (Nat.le_of_lt c8))).trans bM).trans (dA.mono iS)⟩

end Go.Proofs.Ytkjcdnlpjldhaaa


namespace Go.Proofs.Ytkjcdnlpjldhaaa
open Go.RowKit Tw

def zgr (w:World) (q:List Nat) (r:Nat) (e:Ending) (w':World):Prop :=
 ∃ v,e=.returned (.tuple #[v,.int .u32 (r:Int),.bool true])/\Own w.heap.size w' v q/\Below w.heap.size w w'

def zcO (w:World) (q r:List Nat) (e:Ending) (w':World):Prop :=
 ∃ v u,e=.returned (.tuple #[v,u,.bool true])/\Own w.heap.size w' v q/\Own w.heap.size w' u r/\Below w.heap.size w w'

theorem zga {n:Nat} (h:0<n):∃ m,sz n=m+1:=by
 have h1:sz n≠0:=fun e => Nat.ne_of_gt h (zA.1 e)
 exact ⟨sz n - 1,by omega⟩

theorem zeC {n:Nat} (h0:n≠0) (h1:n<4294967296):zc n=[n]:=by
 rw [zax h0,Nat.mod_eq_of_lt (by rw [zam];exact h1),Nat.div_eq_of_lt (by rw [zam];exact h1),zt]

theorem Rd.cells' {w:World} {v:Value} {l:List Nat} (h:Rd w v l) (h0:0<l.length) :
  ∃ b off cap,v=.slice (some ⟨b,off,none⟩) l.length cap/\∀ i,i<l.length->w.cell? ⟨b,off+i,none⟩=some (zau (nth l i)):=by
 rcases h.2 with ⟨rfl,_⟩|⟨b,off,cap,hv,hl,hc,hm,hcell⟩
 ·simp at h0
 ·exact ⟨b,off,cap,hv,hcell⟩

theorem int_quot (a b d:Nat):((a:Int)*4294967296+b) / d=(((a*4294967296+b) / d:Nat):Int):=by
 rw [Int.natCast_ediv,show ((a*4294967296+b:Nat):Int)=(a:Int)*4294967296+b by omega]

theorem zjl (b d:Nat):(b:Int) / d=(((0*4294967296+b) / d:Nat):Int):=by
 rw [Nat.zero_mul,Nat.zero_add,Int.natCast_ediv]

theorem zjK {base g n j d r:Nat} {w:World} {Z la:List Nat} (hz:Own base w (.slice (some ⟨g,0,none⟩) n n) Z) (hzl:Z.length=n) (hj:j<n) (hll:la.length=n) (hla:Small la)
  (hd:0<d) (hd1:d<4294967296) (hv:val (Z.drop (j+1))=val (la.drop (j+1)) / d) (hr:r=val (la.drop (j+1)) % d) :
  ∃ r':Nat,r'<d/\((r:Int)*4294967296+nth la j) % d=(r':Int)/\r'=val (la.drop j) % d /\
   Hid (∃ Z',Own base (w.setCell ⟨g,j,none⟩ (.int .u32 (((r:Int)*4294967296+nth la j) / d))) (.slice (some ⟨g,0,none⟩) n n) Z'/\Z'.length=n/\val (Z'.drop j)=val (la.drop j) / d):=by
 have hx:=hla.nth j
 have e1:(r:Int)*4294967296+nth la j=((nth la j+B*r:Nat):Int):=by rw [zam];omega
 have hq:(nth la j+B*r) / d<B:=zgz hx (by rw [hr];exact Nat.mod_lt _ hd)
 have hm:=zhz (la:=la) (j:=j) (d:=d) (by omega)
 have hdv:=zhy hd (show j<Z.length by omega) (show j<la.length by omega) hv
 rw [<- hr] at hm hdv
 refine ⟨(nth la j+B*r) % d,Nat.mod_lt _ hd,by rw [e1];exact (Int.natCast_emod _ _).symm,hm.symm,?_⟩
 rw [e1,<- Int.natCast_ediv]
 exact ⟨Z.set j ((nth la j+B*r) / d),zaY hz _ _ hq,by simpa using hzl,hdv⟩

theorem zib {base g n j D r:Nat} {w:World} {Z la:List Nat} {d:Int} (hdD:d=(D:Int)) (hz:Own base w (.slice (some ⟨g,0,none⟩) n n) Z) (hzl:Z.length=n) (hj:j<n) (hll:la.length=n) (hla:Small la)
  (hd:0<D) (hd1:D<4294967296) (hv:val (Z.drop (j+1))=val (la.drop (j+1)) / D) (hr:r=val (la.drop (j+1)) % D) :
  ∃ r':Nat,(r':Int)<d/\((r:Int)*4294967296+nth la j) % d=(r':Int)/\r'=val (la.drop j) % D /\
   Hid (∃ Z',Own base (w.setCell ⟨g,j,none⟩ (.int .u32 (((r:Int)*4294967296+nth la j) / d))) (.slice (some ⟨g,0,none⟩) n n) Z'/\Z'.length=n/\val (Z'.drop j)=val (la.drop j) / D):=by
 subst hdD
 obtain ⟨r',h1,h2⟩:=zjK hz hzl hj hll hla hd hd1 hv hr
 exact ⟨r',by omega,h2⟩

theorem zcs (va:Value) (la:List Nat) (d:Int) (w:World) (ha:Rd w va la) (hla:la.length<=1000000) (d0:0<d) (d1:d<4294967296) :
  Calls Try.prog 75 #[va,.int .u32 d] w (zgr w (zc (val la / d.toNat)) (val la % d.toNat)):=by
 obtain ⟨aa,na,capa,rfl,Hna,_⟩:=ha.open
 have hna:na<=1000000:=by have:=Hna.out;omega
 obtain ⟨D,hD⟩:∃ D,d.toNat=D:=⟨_,rfl⟩
 have HD:=Lib.hid hD
 have HDi:=Lib.hid (show d=(D:Int) by omega)
 have HD0:=Lib.hid (show 0<D by omega)
 rw [hD]
 clear hD
 go_enter Try.func75,Try.ntmps75
 go_wp2_with (at_make;refine zbN _ rfl _ _ rfl _ _ _ _ na rfl rfl rfl rfl (by omega) ?_;intro w1 hown1 aT c8)
 go_loopw [5,7] (fun r i ww => ∃ (k R:Nat),k<=na/\(R:Int)<d/\r=.int .u32 R/\i=.int .i64 ((k:Int) - 1)/\Hid (R=val (la.drop k) % D)/\Below w.heap.size w ww/\w.heap.size<=ww.heap.size /\
   Hid (∃ Z,Own w.heap.size ww (.slice (some ⟨w.heap.size,0,none⟩) na na) Z/\Z.length=na/\val (Z.drop k)=val (la.drop k) / D)) (fun _ i _ => (intOf i+1).toNat)
 case atStart => exact ⟨na,0,Nat.le_refl _,d0,rfl,rfl,by unfold Hid;rw [zbb (by rw [Hna.out];exact Nat.le_refl _)];simp,aT,Nat.le_of_lt c8,List.replicate na 0,hown1,by simp,by
  rw [zbb (by simp),zbb (by rw [Hna.out];exact Nat.le_refl _)];simp⟩
 case round =>
  obtain ⟨k,R,hk,hR,rfl,rfl,HR,hbw,hsw,HZ⟩:=hrel
  obtain ⟨Z,hz,hzl,hzv⟩:=HZ.out
  have Hzl:=Lib.hid hzl
  have Hzv:=Lib.hid hzv
  clear HZ hzl hzv
  rcases Nat.eq_zero_or_pos k with rfl|hpos
  ·have Hv:=Lib.hid (show val Z=val la / D from Hzv.out)
   have HRr:=Lib.hid (show R=val la % D from HR.out)
   go_wp2_with fail
   refine (zan _ _ _ hz.rd (by rw [Hzl.out];omega)).mono ?_
   rintro e w3 ⟨v,rfl,hv,bM⟩
   rw [Hv.out] at hv
   go_wp2_with fail
   go_ret3
   exact ⟨v,zft rfl (zr (by rw [HRr.out])) rfl,hv.mono hsw,hbw.trans (bM.mono hsw)⟩
  ·obtain ⟨j,rfl⟩:∃ j,k=j+1:=⟨k - 1,by omega⟩
   obtain ⟨b,o,rfl,hcell⟩:=(ha.to hbw).cells (by rw [Hna.out];omega)
   have hck:=hcell j (by rw [Hna.out];omega)
   have hx:=ha.1.nth j
   simp only [zam] at hx
   clear hcell
   go_wp2_with fail
   refine (limb_div _ _ _ _ (by omega) (by omega) (by omega) (by omega) (by omega) (by omega) (by omega)).mono ?_
   rintro e w2 ⟨rfl,aL⟩
   have hz2:=hz.to aL
   obtain ⟨q1,q2⟩:=zay hz2 (show j<Z.length by rw [Hzl.out];omega)
   obtain ⟨r',hr1,hr2,hr3,HZ2⟩:=zib HDi.out hz2 Hzl.out (by omega) Hna.out ha.1 HD0.out (by have:=HDi.out;omega) Hzv.out HR.out
   have Hr2:=Lib.hid hr2
   have Hr3:=Lib.hid hr3
   clear hr2 hr3 hck
   go_wp2_with fail
   go_roundw
   case rel => exact ⟨j,r',by omega,hr1,zr Hr2.out,by go_num,Hr3,(hbw.trans (aL.mono hsw)).setCell (Nat.le_refl _) _,by have:=aL.size;simp;omega,HZ2⟩
   case measure => simp [intOf]

theorem zgZ (vr vb:Value) (R D:Nat) (w:World) (hr:Rd w vr (zc R)) (hb:Rd w vb (zc D)) (hD:0<D) (hlt:R<B*D) :
  Calls Try.prog 90 #[vr,vb] w fun e w' => ∃ g:Nat,Hid (R / D<=g)/\g<4294967296/\e=.returned (.int .u32 g)/\Below w.heap.size w w':=by
 obtain ⟨m,hm⟩:=zga hD
 obtain ⟨ar,nr,capr,rfl,Hnr,hnr0⟩:=hr.open
 obtain ⟨ab,n,capb,rfl,Hnb,hnb0⟩:=hb.open
 have hn:n=m+1:=by have:=Hnb.out;rw [ze] at this;omega
 unfold maxLen at hnr0 hnb0
 have hR:sz R=nr:=Hnr.out
 have hnr1:nr<=n+1:=by have:=zdt hD hm hlt;omega
 have hx:=(zP R).nth m
 have hx1:=(zP R).nth n
 have ht:=(zP D).nth m
 have ht0:=(zfP hD hm).1
 simp only [zam] at hx hx1 ht
 have Hok:=Lib.hid (show m<nr->R / D<=(nth (zc R) n*4294967296+nth (zc R) m) / nth (zc D) m by
  intro h;rw [hn];exact guess_ok hD hm hlt (by omega))
 have Hmax:=Lib.hid (zjj hD hlt)
 have Hz:=Lib.hid (show nr<n->R / D=0 from fun h => zhL (by omega))
 have Hn:=Lib.hid hn
 have Hr0:=Lib.hid (show ¬ n<nr->nth (zc R) n=0 from fun h => zdy (by rw [Hnr.out];omega))
 clear hm hlt hR
 by_cases hlo:nr<n
 ·have Hz2:=Lib.hid (Hz.out hlo)
  clear hn
  go_enter Try.func90,Try.ntmps90
  go_wp2_with fail
  go_ret
  exact ⟨0,by unfold Hid;rw [Hz2.out];exact Nat.le_refl _,by omega,rfl,Below.refl _ _⟩
 ·obtain ⟨br,of1,rfl,hcr⟩:=hr.cells (by rw [Hnr.out];omega)
  obtain ⟨bb,of2,rfl,hcb⟩:=hb.cells (by rw [Hnb.out];omega)
  have c1:=hcr m (by rw [Hnr.out];omega)
  have c2:=hcb m (by rw [Hnb.out];omega)
  have Hok2:=Lib.hid (Hok.out (by omega))
  have i0:(1:Int)<=(n:Int):=by omega
  have i1:(0:Int)<=(n:Int) - 1:=by omega
  have i2:(n:Int) - 1<(n:Int):=by omega
  have i3:(n:Int) - 1<(nr:Int):=by omega
  have q1:IntKind.i64.wrap ((n:Int) - 1)=(n:Int) - 1:=IntWalk.i64_in _ (by omega)
  have q3:((n:Int) - 1).toNat=m:=by omega
  by_cases hhi:n<nr
  ·have c3:=hcr n (by rw [Hnr.out];exact hhi)
   clear hcr hcb hn
   by_cases hdv:nth (zc R) n<nth (zc D) m
   ·have hq:=fun k:Nat => zeB k (nth (zc R) n) (nth (zc R) m) (nth (zc D) m) w (by omega) (by omega) (by omega) (by omega) (by omega) (by omega) (by omega)
    have Q1:=Lib.hid q1
    have Q3:=Lib.hid q3
    clear q1 q3
    go_enter Try.func90,Try.ntmps90
    go_wp2_with fail
    have q1:=Q1.out
    have q3:=Q3.out
    go_quiet ((go_at_call 92;exact hq _))
    clear q1 q3
    go_wp2_with fail
    go_ret
    exact ⟨(nth (zc R) n*4294967296+nth (zc R) m) / nth (zc D) m,Hok2,zdO hx ht0 hdv,zo (zr (int_quot _ _ _)),below_drewN (Below.refl _ _) _⟩
   ·have hq:=fun k:Nat => zeX k (nth (zc R) n) (nth (zc R) m) (nth (zc D) m) w (by omega) (by omega) (by omega) (by omega) (by omega) (by omega) (by omega)
    have Q1:=Lib.hid q1
    have Q3:=Lib.hid q3
    clear q1 q3
    go_enter Try.func90,Try.ntmps90
    go_wp2_with fail
    have q1:=Q1.out
    have q3:=Q3.out
    go_quiet ((go_at_call 92;exact hq _))
    clear q1 q3
    go_wp2_with fail
    go_ret
    exact ⟨4294967295,Hmax,by omega,rfl,below_drewN (Below.refl _ _) _⟩
  ·have h0:=Hr0.out hhi
   have Hok3:=Lib.hid (show R / D<=(0*4294967296+nth (zc R) m) / nth (zc D) m by have:=Hok2.out;rw [h0] at this;exact this)
   have hq:=fun k:Nat => zeB k 0 (nth (zc R) m) (nth (zc D) m) w (by omega) (by omega) (by omega) (by omega) (by omega) (by omega) (by omega)
   have Q1:=Lib.hid q1
   have Q3:=Lib.hid q3
   clear hcr hcb h0 hn q1 q3
   go_enter Try.func90,Try.ntmps90
   go_wp2_with fail
   have q1:=Q1.out
   have q3:=Q3.out
   go_quiet ((go_at_call 92;exact hq _))
   clear q1 q3
   go_wp2_with fail
   go_ret
   exact ⟨(0*4294967296+nth (zc R) m) / nth (zc D) m,Hok3,zdO hx ht0 ht0,zo (zr (zjl _ _)),below_drewN (Below.refl _ _) _⟩

theorem zgY (vr vb:Value) (R D:Nat) (w:World) (hr:Rd w vr (zc R)) (hb:Rd w vb (zc D)) (hD:0<D) (hlt:R<B*D) (hlR:sz R<=100000) (hlD:sz D<=100000) :
  Calls Try.prog 73 #[vr,vb] w fun e w' => ∃ v,e=.returned (.tuple #[.int .u32 ((R / D:Nat):Int),v])/\Own w.heap.size w' v (zc (R % D))/\Below w.heap.size w w':=by
 go_enter Try.func73,Try.ntmps73
 go_wp2_with fail
 go_step3
 go_wp2_with fail
 refine (zgZ _ _ R D _ hr hb hD hlt).mono ?_
 rintro e w1 ⟨g,Hg,hg1,rfl,aT⟩
 go_wp2_with fail
 go_step3
 go_wp2_with fail
 go_loopw [0,6] (fun rr q ww => ∃ Q:Nat,rr=vr/\Q<4294967296/\Hid (R / D<=Q)/\q=.int .u32 Q/\Below w.heap.size w ww) (fun _ q _ => (intOf q).toNat)
 case atStart => exact ⟨g,rfl,hg1,Hg,rfl,aT⟩
 case round =>
  obtain ⟨Q,rfl,hQ,HQ,rfl,hbw⟩:=hrel
  have hszm:=zap D Q
  have hszq:=zbM hQ
  go_wp2_with fail
  refine (zfx _ _ _ _ _ (hb.to hbw) (by rw [ze];omega) (by omega) (by omega) (by omega) (by omega)).mono ?_
  rintro e w2 ⟨v2,rfl,hv2,aL⟩
  have cT:=bS hbw aL
  rw [vL,Int.toNat_natCast,Int.toNat_zero,Nat.add_zero] at hv2
  by_cases hle:D*Q<=R
  ·have HQe:=Lib.hid (digit_eq hD hle HQ.out)
   go_wp2_with fail
   refine (zfO _ _ _ _ _ (hr.to cT) hv2.rd (by rw [ze];omega) (by rw [vL,vL];exact hle)).mono ?_
   rintro e w3 ⟨v3,rfl,hv3,bM⟩
   rw [vL,vL] at hv3
   have d6:=bS cT bM
   go_wp2_with fail
   rw [Exit.noGoto_ret]
   go_ret2
   exact ⟨_,zfU (zr (by rw [HQe.out])) rfl,by rw [HQe.out,zhH] at hv3;exact hv3.mono cT.size,d6⟩
  ·obtain ⟨hq0,hq1⟩:=zhG hD (Nat.not_le.1 hle) HQ.out
   have Hq1:=Lib.hid hq1
   clear hq1
   go_wp2_with fail
   refine (zeH _ _ _ _ _ (hr.to cT) hv2.rd (by rw [vL,vL];omega)).mono ?_
   rintro e w3 ⟨rfl,bM⟩
   have d6:=bS cT bM
   go_wp2_with fail
   go_roundw
   case rel => exact ⟨Q - 1,rfl,by omega,Hq1,by go_num,d6⟩
   case measure => simp [intOf];omega

end Go.Proofs.Ytkjcdnlpjldhaaa


namespace Go.Proofs.Ytkjcdnlpjldhaaa
open Go.RowKit Tw

theorem zbL (v:Value) (l:List Nat) (i:Int) (w:World) (h:Rd w v l) (i0:0<=i) :
  Calls Try.prog 84 #[v,.int .i64 i] w fun e w' => e=.returned (.int .u64 (nth l i.toNat:Nat))/\w=w':=by
 obtain ⟨k,rfl⟩:=Int.eq_ofNat_of_zero_le i0
 rw [Int.toNat_natCast]
 by_cases hk:k<l.length
 ·obtain ⟨a,n,cap,rfl,Hn,_⟩:=h.open
  obtain ⟨b,off,rfl,hcell⟩:=h.cells (by omega)
  have hck:=hcell k hk
  have hx:=h.1.nth k
  simp only [zam] at hx
  have hkn:k<n:=by have:=Hn.out;omega
  clear hcell
  go_enter Try.func84,Try.ntmps84
  go_wp2
  go_ret
  exact ⟨rfl,rfl⟩
 ·have H:=Lib.hid (zdy (Nat.not_lt.1 hk))
  obtain ⟨a,n,cap,rfl,Hn,_⟩:=h.open
  have hkn:n<=k:=by have:=Hn.out;omega
  go_enter Try.func84,Try.ntmps84
  go_wp2
  go_ret
  exact ⟨zo (zr (by rw [H.out];rfl)),rfl⟩

theorem zT (v:Value) (l:List Nat) (w:World) (h:Rd w v l) (hl:l.length<=1000000000) :
  Calls Try.prog 40 #[v] w (zcg w (zc (val l))):=by
 have hsz:=zu h.1
 have Hlim:=Lib.hid (zaB h.1)
 obtain ⟨a,na,cap,rfl,Hna,_⟩:=h.open
 go_enter Try.func40,Try.ntmps40
 go_wp2_with fail
 refine (ref1_low _ l _ h).mono ?_
 rintro e w' ⟨rfl,rfl⟩
 generalize hn:sz (val l)=n at *
 have Hn:=Lib.hid hn
 clear hn
 go_wp2_with fail
 go_loopw [4,5] (fun v i ww => ∃ k:Nat,k<=n/\i=.int .i64 k/\Own w.heap.size ww v (l.take k)/\Below w.heap.size w ww) (fun _ i _ => n - (intOf i).toNat)
 case atStart => exact ⟨0,Nat.zero_le _,rfl,Own.nil _ _,Below.refl _ _⟩
 case round =>
  obtain ⟨k,hk,rfl,hown,hbw⟩:=hrel
  by_cases hkn:k<n
  ·obtain ⟨b,off,rfl,hcell⟩:=(h.to hbw).cells (by omega)
   have hck:=hcell k (by omega)
   have hx:=h.1.nth k
   simp only [zam] at hx
   have hlk:(l.take k).length=k:=by rw [List.length_take];omega
   have Hlk:=Lib.hid hlk
   have hnk:k<na:=by have:=Hna.out;omega
   have Hsn:=Lib.hid (zbw (show k<l.length by omega))
   clear hcell hlk
   go_wp2_with (at_builtin;refine zaZ _ rfl (.tmp 13) (.tmp 18) rfl w.heap.size _ _ (l.take k) [nth l k] rfl rfl (hown.alloc _) (zaJ wr _ [nth l k] rfl (zbQ hx) (by simp [maxLen])).rd (by have:=hbw.size;simp;omega) (by rw [Hlk.out];simp;omega) ?_;intro v2 w2 hown2 aL da)
   go_roundw
   case rel => exact ⟨k+1,by omega,by go_num,by rw [Hsn.out];exact hown2,(hbw.alloc hbw.size _).trans aL⟩
   case measure => simp [intOf];omega
  ·go_wp2_with fail
   go_ret
   exact ⟨_,rfl,by rw [Hlim.out,show n=k by omega];exact hown,hbw⟩

theorem ziJ (n:Int) (w:World) (n0:0<=n) (n1:n<18446744073709551616) :
  Calls Try.prog 24 #[.int .u64 n] w (zcg w (zc n.toNat)):=by
 obtain ⟨N,rfl⟩:=Int.eq_ofNat_of_zero_le n0
 rw [Int.toNat_natCast]
 go_enter Try.func24,Try.ntmps24
 go_wp2_with fail
 go_loopw [0,3] (fun i v ww => ∃ (m:Nat) (X:List Nat),Hid (m<18446744073709551616)/\i=.int .u64 m/\Own w.heap.size ww v X/\Below w.heap.size w ww/\Hid (zc N=X++zc m)/\X.length+sz m<=2) (fun i _ _ => (intOf i).toNat)
 case atStart => exact ⟨N,[],by unfold Hid;omega,rfl,Own.nil _ _,Below.refl _ _,rfl,by simp;exact zcK (by rw [zam];simpa using (show N<18446744073709551616 by omega))⟩
 case round =>
  obtain ⟨m,X,hm,rfl,hown,hbw,HX,hlen⟩:=hrel
  rcases Nat.eq_zero_or_pos m with rfl|hpos
  ·go_wp2_with fail
   go_ret
   exact ⟨_,rfl,by rw [HX.out,zt,List.append_nil];exact hown,hbw⟩
  ·have E1:=Lib.hid (show (m:Int) % 4294967296=((m % 4294967296:Nat):Int) by omega)
   have E2:=Lib.hid (show (m:Int) / 4294967296=((m / 4294967296:Nat):Int) by omega)
   have hm2:(m:Int) / 4294967296<=4294967295:=by have:=hm.out;omega
   have hlp:=zax (show m≠0 by omega)
   have hs:sz m=sz (m / 4294967296)+1:=by rw [<- ze,hlp,List.length_cons];rfl
   have HX2:Hid (zc N=(X++[m % 4294967296])++zc (m / 4294967296)):=by unfold Hid;rw [HX.out,hlp,List.append_assoc];rfl
   have hlen2:(X++[m % 4294967296]).length+sz (m / 4294967296)<=2:=by rw [List.length_append];simp;omega
   have hlx:X.length<=2:=by omega
   clear hlp hs
   go_wp2_with (at_builtin;refine zaZ _ rfl (.tmp 6) (.tmp 10) rfl w.heap.size _ _ X [m % 4294967296] rfl rfl (hown.alloc _) (zaJ wr _ [m % 4294967296] rfl (zbQ (by omega)) (by simp [maxLen])).rd (by have:=hbw.size;simp;omega) (by simp;omega) ?_;intro v2 w2 hown2 aL da)
   go_roundw
   case rel => exact ⟨m / 4294967296,X++[m % 4294967296],by have:=hm.out;unfold Hid;omega,zr E2.out,hown2,(hbw.alloc hbw.size _).trans aL,HX2,hlen2⟩
   case measure => simp [intOf];omega

theorem zbf (va vb:Value) (la lb:List Nat) (w:World) (ha:Rd w va la) (hb:Rd w vb lb) (hla:la.length<=1000000000) (hlb:lb.length<=1000000000) :
  Calls Try.prog 60 #[va,vb] w fun e w' => e=.returned (.int .i64 (zaG (val la) (val lb)))/\w=w':=by
 obtain ⟨aa,na,capa,rfl,Hna,_⟩:=ha.open
 obtain ⟨ab,nb,capb,rfl,Hnb,_⟩:=hb.open
 have hna:na<=1000000000:=by have:=Hna.out;omega
 have hnb:nb<=1000000000:=by have:=Hnb.out;omega
 obtain ⟨n,hn,hn1,hn2,hn3⟩:∃ n,max na nb=n/\na<=n/\nb<=n/\n<=1000000000:=⟨_,rfl,by omega,by omega,by omega⟩
 have hmax:max (na:Int) (nb:Int)=(n:Int):=by omega
 have Hst:=Lib.hid (show zaa la lb n from zfV (by rw [Hna.out];exact hn1) (by rw [Hnb.out];exact hn2))
 clear hn
 go_enter Try.func60,Try.ntmps60
 go_wp2_with fail
 go_loop [6] (fun i => ∃ k:Nat,k<=n/\i=.int .i64 ((k:Int) - 1)/\Hid (zaa la lb k)) (fun i => (intOf i+1).toNat)
 case atStart => exact ⟨n,Nat.le_refl _,rfl,Hst⟩
 case round =>
  obtain ⟨k,hk,rfl,HT⟩:=hrel
  rcases Nat.eq_zero_or_pos k with rfl|hpos
  ·have Hr:=Lib.hid (zfE HT.out.zero)
   go_wp2_with fail
   go_ret
   exact ⟨zo (zr Hr.out.symm),rfl⟩
  ·obtain ⟨j,rfl⟩:∃ j,k=j+1:=⟨k - 1,by omega⟩
   have hx:=ha.1.nth j
   have hy:=hb.1.nth j
   simp only [zam] at hx hy
   go_wp2_with fail
   refine (zbL _ la _ _ ha (by omega)).mono ?_
   rintro e w' ⟨rfl,rfl⟩
   go_wp2_with fail
   refine (zbL _ lb _ _ hb (by omega)).mono ?_
   rintro e w' ⟨rfl,rfl⟩
   rw [Int.toNat_natCast]
   rcases Nat.lt_trichotomy (nth la j) (nth lb j) with hxy|hxy|hxy
   ·have Hr:=Lib.hid (zem (HT.out.lt ha.1 hxy))
    go_wp2_with fail
    go_ret
    exact ⟨zo (zr Hr.out.symm),rfl⟩
   ·have Hr:=Lib.hid (HT.out.step hxy)
    have h1:¬ nth la j<nth lb j:=by omega
    have h2:¬ nth lb j<nth la j:=by omega
    clear hxy
    go_wp2_with fail
    refine (zbL _ la _ _ ha (by omega)).mono ?_
    rintro e w' ⟨rfl,rfl⟩
    go_wp2_with fail
    refine (zbL _ lb _ _ hb (by omega)).mono ?_
    rintro e w' ⟨rfl,rfl⟩
    rw [Int.toNat_natCast]
    go_wp2_with fail
    go_round
    case rel => exact ⟨j,by omega,rfl,Hr⟩
    case measure => simp [intOf]
   ·have Hr:=Lib.hid (zfF (HT.out.symm.lt hb.1 hxy))
    have h1:¬ nth la j<nth lb j:=by omega
    go_wp2_with fail
    refine (zbL _ la _ _ ha (by omega)).mono ?_
    rintro e w' ⟨rfl,rfl⟩
    go_wp2_with fail
    refine (zbL _ lb _ _ hb (by omega)).mono ?_
    rintro e w' ⟨rfl,rfl⟩
    rw [Int.toNat_natCast]
    go_wp2_with fail
    go_ret
    exact ⟨zo (zr Hr.out.symm),rfl⟩

theorem zis (va vb:Value) (l:List Nat) (w:World) (ha:Rd w va l) (hb:Rd w vb l) :
  Calls Try.prog 43 #[va,vb] w fun e w' => e=.returned (.bool true)/\Below w.heap.size w w':=by
 obtain ⟨aa,capa,rfl⟩:=ha.shape
 obtain ⟨ab,capb,rfl⟩:=hb.shape
 have hm:=ha.len_le
 unfold maxLen at hm
 go_enter Try.func43,Try.ntmps43
 go_wp2_with fail
 go_loopw [5] (fun i ww => ∃ k:Nat,k<=l.length/\i=.int .i64 k/\Below w.heap.size w ww) (fun i _ => l.length - (intOf i).toNat)
 case atStart => exact ⟨0,Nat.zero_le _,rfl,Below.refl _ _⟩
 case round =>
  obtain ⟨k,hk,rfl,hbw⟩:=hrel
  by_cases hkl:k<l.length
  ·obtain ⟨ba,offa,rfl,hcella⟩:=(ha.to hbw).cells (by omega)
   obtain ⟨bb,offb,rfl,hcellb⟩:=(hb.to hbw).cells (by omega)
   have hxa:=hcella k hkl
   have hxb:=hcellb k hkl
   have hi1:(k:Int)<(l.length:Int):=by omega
   clear hcella hcellb
   go_wp2_with fail
   go_quiet (fail)
   have cT:=below_drewN hbw nq
   clear hxa hxb
   generalize wr.drewN nq=w2 at *
   go_wp2_with fail
   go_roundw
   case rel => exact ⟨k+1,by omega,by go_num,cT⟩
   case measure => simp [intOf];omega
  ·go_wp2_with fail
   go_ret
   exact ⟨rfl,hbw⟩

end Go.Proofs.Ytkjcdnlpjldhaaa


namespace Go.Proofs.Ytkjcdnlpjldhaaa
open Go.RowKit Tw

theorem zjG {la lb X:List Nat} {k c x s q:Nat} (hX:X.length=k) (hv:val (la.take k)+B ^ k*c=val X+val (lb.take k)) (hx:4294967296+nth la k - nth lb k - c=x)
  (hle:nth lb k+c<=4294967296) (hs:x % 4294967296=s) (hq:1 - x / 4294967296=q) (hx1:x / 4294967296<=1):val (la.take (k+1))+B ^ (k+1)*q=val (X++[s])+val (lb.take (k+1)):=by
 rw [zct,hX,zm,zm]
 have h1:B ^ (k+1)*q=B ^ k*(4294967296*q):=by rw [Nat.pow_succ,Nat.mul_assoc];rfl
 have h2:nth la k+4294967296*q=s+nth lb k+c:=by omega
 have h3:B ^ k*(nth la k+4294967296*q)=B ^ k*(s+nth lb k+c):=by rw [h2]
 rw [Nat.mul_add,Nat.mul_add,Nat.mul_add] at h3
 rw [h1]
 omega

theorem zeM (va vb:Value) (la lb:List Nat) (w:World) (ha:Rd w va la) (hb:Rd w vb lb) (hla:la.length<=1000000) (hlb:lb.length<=1000000) (h:val lb<=val la) :
  Calls Try.prog 61 #[va,vb] w (zfA w (zc (val la - val lb))):=by
 have hc1:0<=zaG (val la) (val lb):=zel.2 h
 have hc0:¬ zaG (val la) (val lb)<0:=by omega
 have hcd:decide (zaG (val la) (val lb)<0)=false:=by simp;omega
 obtain ⟨aa,na,capa,rfl,Hna,_⟩:=ha.open
 have hna:na<=1000000:=by have:=Hna.out;omega
 have Hle:=Lib.hid h
 clear h
 go_enter Try.func61,Try.ntmps61
 go_wp2_with fail
 refine (zbf _ _ _ _ _ ha hb (by omega) (by omega)).mono ?_
 rintro e w' ⟨rfl,rfl⟩
 go_wp2_with fail
 go_loopw [6,7,8,9] (fun v c i _ ww => ∃ (k cc:Nat) (X:List Nat),k<=na/\cc<=1/\i=.int .i64 k/\c=.int .u64 cc/\Own w.heap.size ww v X/\Below w.heap.size w ww/\Hid (X.length=k) /\
   Hid (val (la.take k)+B ^ k*cc=val X+val (lb.take k))) (fun _ _ i _ _ => na - (intOf i).toNat)
 case atStart => exact ⟨0,0,[],by omega,by omega,rfl,rfl,Own.nil _ _,Below.refl _ _,rfl,by unfold Hid;simp [val]⟩
 case round =>
  obtain ⟨k,c,X,hk,hc,rfl,rfl,hown,hbw,HX,HV⟩:=hrel
  by_cases hkn:k<na
  ·have hA:=ha.to hbw
   have hB:=hb.to hbw
   have hx:=ha.1.nth k
   have hy:=hb.1.nth k
   simp only [zam] at hx hy
   go_wp2_with fail
   refine (zbL _ la _ _ hA (by omega)).mono ?_
   rintro e w' ⟨rfl,rfl⟩
   rw [Int.toNat_natCast]
   go_wp2_with fail
   refine (zbL _ lb _ _ hB (by omega)).mono ?_
   rintro e w' ⟨rfl,rfl⟩
   rw [Int.toNat_natCast]
   have hst:=Lib.hid (zjG HX.out HV.out rfl (by omega) rfl rfl (by omega))
   have Hq:=Lib.hid (show 1 - (4294967296+(nth la k:Int) - nth lb k - c) / 4294967296=((1 - (4294967296+nth la k - nth lb k - c) / 4294967296:Nat):Int) by omega)
   have Hs:=Lib.hid (show (4294967296+(nth la k:Int) - nth lb k - c) % 4294967296=(((4294967296+nth la k - nth lb k - c) % 4294967296:Nat):Int) by omega)
   have hlx:X.length<=1000001:=by have:=HX.out;omega
   have hrd:Rd (wr.alloc (.cells #[.int .u32 ((4294967296+(nth la k:Int) - nth lb k - c) % 4294967296)] 31)) (.slice (some ⟨wr.heap.size,0,none⟩) 1 1) [(4294967296+nth la k - nth lb k - c) % 4294967296]:=by
    rw [Hs.out]
    exact (zaJ wr _ [(4294967296+nth la k - nth lb k - c) % 4294967296] rfl (zbQ (by omega)) (by simp [maxLen])).rd
   have Hrd:=Lib.hid hrd
   clear hrd
   go_wp2_with (at_builtin;refine zaZ _ rfl (.tmp 30) (.tmp 34) rfl w.heap.size _ _ X [(4294967296+nth la k - nth lb k - c) % 4294967296] rfl rfl (hown.alloc _) Hrd.out (by have:=hbw.size;simp;omega) (by simp;omega) ?_;intro v2 w2 hown2 aL da)
   go_roundw
   case rel => exact ⟨k+1,_,_,by omega,by omega,by go_num,zr Hq.out,hown2,(hbw.alloc hbw.size _).trans aL,by unfold Hid;rw [List.length_append,HX.out];rfl,hst⟩
   case measure => simp [intOf];omega
  ·have hkn2:k=na:=by omega
   subst hkn2
   have Hv:=Lib.hid (show val X=val la - val lb by
    have h1:=HV.out
    have h2:=zcu ha.1 k
    have h4:=zbG hown.1
    rw [HX.out] at h4
    rw [zv (l:=la) (by rw [Hna.out];exact Nat.le_refl _)] at h1 h2
    have h5:val (lb.take k)=val lb:=zdX hb.1 (zcK (Nat.lt_of_le_of_lt Hle.out h2))
    rw [h5] at h1
    have h9:=Hle.out
    rcases Nat.eq_zero_or_pos c with rfl|hcp
    ·omega
    ·obtain rfl:c=1:=by omega
     omega)
   have hlx:X.length<=1000001:=by have:=HX.out;omega
   go_wp2_with fail
   refine (zT _ _ _ hown.rd (by omega)).mono ?_
   rintro e w3 ⟨v,rfl,hv,bM⟩
   go_wp2_with fail
   go_ret2
   exact ⟨_,rfl,by rw [<- Hv.out];exact hv.mono hbw.size,hbw.trans (bM.mono hbw.size)⟩

end Go.Proofs.Ytkjcdnlpjldhaaa


namespace Go.Proofs.Ytkjcdnlpjldhaaa
open Go.RowKit Tw

theorem zir (va vb:Value) (la lb:List Nat) (w:World) (ha:Rd w va la) (hb:Rd w vb lb) (hne:la≠lb) :
  Calls Try.prog 43 #[va,vb] w fun e w' => e=.returned (.bool false)/\Below w.heap.size w w':=by
 have hlm:=ha.len_le
 unfold maxLen at hlm
 have Hne:=Lib.hid hne
 clear hne
 obtain ⟨aa,na,capa,rfl,Hna,_⟩:=ha.open
 obtain ⟨ab,nb,capb,rfl,Hnb,_⟩:=hb.open
 by_cases hl:na=nb
 ·subst hl
  have hn:na<=2 ^ 63 - 1:=by have:=Hna.out;omega
  go_enter Try.func43,Try.ntmps43
  go_wp2_with fail
  go_loopw [5] (fun i ww => ∃ k:Nat,k<=na/\i=.int .i64 k/\Below w.heap.size w ww/\Hid (la.take k=lb.take k)) (fun i _ => na - (intOf i).toNat)
  case atStart => exact ⟨0,Nat.zero_le _,rfl,Below.refl _ _,by unfold Hid;simp⟩
  case round =>
   obtain ⟨k,hk,rfl,hbw,Ht⟩:=hrel
   by_cases hkl:k<na
   ·obtain ⟨ba,offa,rfl,hcella⟩:=(ha.to hbw).cells (by rw [Hna.out];omega)
    obtain ⟨bb,offb,rfl,hcellb⟩:=(hb.to hbw).cells (by rw [Hnb.out];omega)
    have hxa:=hcella k (by rw [Hna.out];omega)
    have hxb:=hcellb k (by rw [Hnb.out];omega)
    have hi1:(k:Int)<(na:Int):=by omega
    clear hcella hcellb
    by_cases hx:nth la k=nth lb k
    ·have t:((nth la k:Int) != (nth lb k:Int))=false:=by simp;omega
     have H2:Hid (la.take (k+1)=lb.take (k+1)):=by
      unfold Hid
      rw [zbw (by rw [Hna.out];omega),zbw (by rw [Hnb.out];omega),Ht.out,hx]
     clear hx
     go_wp2_with fail
     go_quiet (fail)
     have cT:=below_drewN hbw nq
     clear hxa hxb
     generalize wr.drewN nq=w2 at *
     go_wp2_with fail
     go_roundw
     case rel => exact ⟨k+1,by omega,by go_num,cT,H2⟩
     case measure => simp [intOf];omega
    ·have t:((nth la k:Int) != (nth lb k:Int))=true:=by simp;omega
     clear hx
     go_wp2_with fail
     go_quiet (fail)
     have cT:=below_drewN hbw nq
     clear hxa hxb
     generalize wr.drewN nq=w2 at *
     go_wp2_with fail
     go_ret
     exact ⟨rfl,cT⟩
   ·obtain rfl:k=na:=by omega
    have h:=Ht.out
    rw [List.take_of_length_le (by rw [Hna.out];exact Nat.le_refl _),List.take_of_length_le (by rw [Hnb.out];exact Nat.le_refl _)] at h
    exact absurd h Hne.out
 ·have t:((na:Int) != (nb:Int))=true:=by simp;omega
  clear hl
  go_enter Try.func43,Try.ntmps43
  go_wp2_with fail
  go_ret
  exact ⟨rfl,Below.refl _ _⟩

end Go.Proofs.Ytkjcdnlpjldhaaa


namespace Go.Proofs.Ytkjcdnlpjldhaaa
open Go.RowKit Tw

def Holds (w:World) (e:Ending) (w':World):Prop:=e=.returned (.bool true)/\Below w.heap.size w w'

theorem lit1 (w:World) {a:Nat} (ha:a<4294967296):Rd (w.alloc (.cells #[zau a] 31)) (.slice (some ⟨w.heap.size,0,none⟩) 1 1) [a] :=
 (zbK w [a] (zbQ ha) (by simp [maxLen])).rd

end Go.Proofs.Ytkjcdnlpjldhaaa

