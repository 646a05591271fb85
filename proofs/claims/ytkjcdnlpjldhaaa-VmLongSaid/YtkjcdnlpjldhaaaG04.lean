/-
  The texts Limb, Ref1, merged.
-/
import Derived.Test.YtkjcdnlpjldhaaaG02
import Derived.Test.YtkjcdnlpjldhaaaG03
import Derived.Deep.QuietTactic
import Derived.BigQuiet
set_option linter.unusedVariables false
set_option linter.unusedSimpArgs false
set_option maxRecDepth 100000
set_option maxHeartbeats 400000000
namespace Go.Proofs.Ytkjcdnlpjldhaaa
open Go.RowKit Tw

theorem zfc {l:List Nat} {k:Nat} (h:k<l.length):(l.take (k+1)).sum=(l.take k).sum+nth l k:=by
 rw [zbw h,List.sum_append];simp

theorem zfv {l:List Nat} (h:Small l):l.sum<=4294967295*l.length:=by
 induction l with
 | nil => simp
 | cons x t ih =>
  have:=ih (zN.1 h).2
  have hx:=(zN.1 h).1
  simp only [zam] at hx
  simp only [List.sum_cons,List.length_cons];omega

theorem zdm (v:Value) (l:List Nat) (w:World) (h:Rd w v l) (hl:l.length<=4) :
  Calls Try.prog 69 #[v] w fun e w' => e=.returned (.int .u64 (l.sum:Nat))/\w=w':=by
 have hs:=zfv h.1
 rcases h.2 with ⟨rfl,a,cap,rfl,hm,hnone⟩|⟨b,off,cap,rfl,hpos,hc,hm,hcell⟩
 ·go_enter Try.func69,Try.ntmps69
  go_wp2
  go_loop [3,8] (fun n i => n=.int .u64 0/\i=.int .i64 0) (fun _ _ => 0)
  case atStart => exact ⟨rfl,rfl⟩
  case round =>
   obtain ⟨rfl,rfl⟩:=hrel
   go_wp2
   go_ret
   exact ⟨rfl,rfl⟩
 ·go_enter Try.func69,Try.ntmps69
  go_wp2
  go_loop [3,8] (fun n i => ∃ k:Nat,k<=l.length/\i=.int .i64 k/\n=.int .u64 ((l.take k).sum:Nat)) (fun _ i => l.length - (intOf i).toNat)
  case atStart => exact ⟨0,Nat.zero_le _,rfl,rfl⟩
  case round =>
   obtain ⟨k,hk,rfl,rfl⟩:=hrel
   have hst:=zfv (h.1.take k)
   have hlt:(l.take k).length<=4:=by rw [List.length_take];omega
   by_cases hkl:k<l.length
   ·have hck:=hcell k hkl
    have hx:=h.1.nth k
    simp only [zam] at hx
    have hsum:=Lib.hid (zfc hkl)
    go_wp2
    go_round
    case rel => exact ⟨k+1,by omega,by go_num,by rw [hsum.out];go_num⟩
    case measure => simp [intOf];omega
   ·go_wp2
    go_ret
    have:k=l.length:=by omega
    subst this
    exact ⟨by first|rfl|(rw [List.take_length];rfl),rfl⟩

theorem zdA (n:Int) (w:World) (h0:0<=n) (h1:n<18446744073709551616) :
  Calls Try.prog 68 #[.int .u64 n] w fun e w' => e=.returned (.tuple #[.int .u32 (n / 4294967296),.int .u32 (n % 4294967296)])/\w=w':=by
 go_enter Try.func68,Try.ntmps68
 go_wp2
 go_ret2
 exact ⟨rfl,rfl⟩

theorem wrap_u64 (n:Int):IntKind.u64.wrap n=n % 18446744073709551616:=by simp [IntKind.wrap,IntKind.bits,IntKind.signed]

theorem bN (w:World) (o:Obj):Below w.heap.size w (w.alloc o):=(Below.refl _ _).alloc (Nat.le_refl _) _

theorem small3 {a b c:Nat} (ha:a<4294967296) (hb:b<4294967296) (hc:c<4294967296):Small [a,b,c] :=
 zN.2 ⟨ha,zN.2 ⟨hb,zN.2 ⟨hc,zbv⟩⟩⟩

theorem zic {a b:Nat} (ha:a<4294967296) (hb:b<4294967296):Small [a,b] :=
 zN.2 ⟨ha,zN.2 ⟨hb,zbv⟩⟩

theorem zbQ {a:Nat} (ha:a<4294967296):Small [a]:=zN.2 ⟨ha,zbv⟩

theorem limb_add (a b c:Int) (w:World) (a0:0<=a) (a1:a<4294967296) (b0:0<=b) (b1:b<4294967296) (c0:0<=c) (c1:c<4294967296) :
  Calls Try.prog 46 #[.int .u32 a,.int .u32 b,.int .u32 c] w fun e w' => e=.returned (.tuple #[.int .u32 ((a+b+c) % 4294967296),.int .u32 ((a+b+c) / 4294967296)])/\Below w.heap.size w w':=by
 obtain ⟨a,rfl⟩:=Int.eq_ofNat_of_zero_le a0
 obtain ⟨b,rfl⟩:=Int.eq_ofNat_of_zero_le b0
 obtain ⟨c,rfl⟩:=Int.eq_ofNat_of_zero_le c0
 go_enter Try.func46,Try.ntmps46
 go_wp2_with fail
 refine (zdm _ [a,b,c] _ (zbK w [a,b,c] (small3 (by omega) (by omega) (by omega)) (by simp [maxLen])).rd (by simp)).mono ?_
 rintro e w' ⟨rfl,rfl⟩
 have hsum:(([a,b,c]:List Nat).sum:Int)=a+b+c:=by simp;omega
 rw [hsum]
 clear hsum
 go_wp2_with fail
 refine (zdA _ _ (by omega) (by omega)).mono ?_
 rintro e w' ⟨rfl,rfl⟩
 go_wp2_with fail
 go_ret2
 exact ⟨rfl,bN _ _⟩

theorem limb_sub (a b c:Int) (w:World) (a0:0<=a) (a1:a<4294967296) (b0:0<=b) (b1:b<4294967296) (c0:0<=c) (c1:c<4294967296) :
  Calls Try.prog 98 #[.int .u32 a,.int .u32 b,.int .u32 c] w fun e w' => e=.returned (.tuple #[.int .u32 ((a - b - c) % 4294967296),.int .u32 (- ((a - b - c) / 4294967296))])/\Below w.heap.size w w':=by
 obtain ⟨a,rfl⟩:=Int.eq_ofNat_of_zero_le a0
 obtain ⟨b,rfl⟩:=Int.eq_ofNat_of_zero_le b0
 obtain ⟨c,rfl⟩:=Int.eq_ofNat_of_zero_le c0
 go_enter Try.func98,Try.ntmps98
 go_wp2_with fail
 refine (zdm _ [b,c] _ (zbK w [b,c] (zic (by omega) (by omega)) (by simp [maxLen])).rd (by simp)).mono ?_
 rintro e w' ⟨rfl,rfl⟩
 have hsum:(([b,c]:List Nat).sum:Int)=b+c:=by simp
 rw [hsum]
 clear hsum
 go_wp2_with fail
 obtain ⟨d,hlt,hd⟩:∃ d:Nat,d<4294967296/\((a:Int) - b - c) % 4294967296=d:=⟨(((a:Int) - b - c) % 4294967296).toNat,by omega,by omega⟩
 have hw:IntKind.u64.wrap ((a:Int) - (b+c)) % 4294967296=d:=by rw [wrap_u64];omega
 have Hv:=Lib.hid (show - (((a:Int) - b - c) / 4294967296)=((d:Int)+(b+c)) / 4294967296 by omega)
 have Hd:=Lib.hid hd
 rw [hw]
 clear hd hw
 refine (zdm _ [d] _ (zaJ (w.alloc (.cells #[zau b,zau c] 31)) _ [d] (by simp) (zbQ (by omega)) (by simp [maxLen])).rd (by simp)).mono ?_
 rintro e w' ⟨rfl,rfl⟩
 have hsum:(([d]:List Nat).sum:Int)=d:=by simp
 rw [hsum]
 clear hsum
 go_wp2_with fail
 refine (zdA _ _ (by omega) (by omega)).mono ?_
 rintro e w' ⟨rfl,rfl⟩
 go_wp2_with fail
 go_ret2
 exact ⟨zfU (zr Hd.out.symm) (zr Hv.out.symm),bS (bN _ _) (bN _ _)⟩

theorem limb_mul (a b c d:Int) (w:World) (a0:0<=a) (a1:a<4294967296) (b0:0<=b) (b1:b<4294967296) (c0:0<=c) (c1:c<4294967296) (d0:0<=d) (d1:d<4294967296) :
  Calls Try.prog 99 #[.int .u32 a,.int .u32 b,.int .u32 c,.int .u32 d] w fun e w' =>
   e=.returned (.tuple #[.int .u32 ((a*b+c+d) / 4294967296),.int .u32 ((a*b+c+d) % 4294967296)])/\Below w.heap.size w w':=by
 obtain ⟨a,rfl⟩:=Int.eq_ofNat_of_zero_le a0
 obtain ⟨b,rfl⟩:=Int.eq_ofNat_of_zero_le b0
 obtain ⟨c,rfl⟩:=Int.eq_ofNat_of_zero_le c0
 obtain ⟨d,rfl⟩:=Int.eq_ofNat_of_zero_le d0
 have hm:(a:Int)*b<=4294967295*4294967295:=Int.mul_le_mul (by omega) (by omega) (by omega) (by omega)
 have hm0:0<=(a:Int)*b:=Int.mul_nonneg (by omega) (by omega)
 go_enter Try.func99,Try.ntmps99
 go_wp2_with fail
 refine (zdm _ [c,d] _ (zbK w [c,d] (zic (by omega) (by omega)) (by simp [maxLen])).rd (by simp)).mono ?_
 rintro e w' ⟨rfl,rfl⟩
 have hsum:(([c,d]:List Nat).sum:Int)=c+d:=by simp
 rw [hsum]
 clear hsum
 go_wp2_with fail
 have Hv:=Lib.hid (show (a:Int)*b+c+d=a*b+(c+d) by omega)
 refine (zdA _ _ (by omega) (by omega)).mono ?_
 rintro e w' ⟨rfl,rfl⟩
 go_wp2_with fail
 go_ret2
 exact ⟨zfU (zr (by rw [Hv.out])) (zr (by rw [Hv.out])),bN _ _⟩

theorem ziD (a b:Int) (a0:0<=a) (a1:a<4294967296) (b0:0<=b) (b1:b<4294967296):bits .or .u64 (a*4294967296) b=a*4294967296+b:=by
 rw [u64_or _ _ (by omega) (by omega) (by omega) (by omega),nat_join 32 _ _ (by omega) (by omega)]
 omega

theorem limb_div (a b d:Int) (w:World) (a0:0<=a) (a1:a<4294967296) (b0:0<=b) (b1:b<4294967296) (d0:0<=d) (d1:d<4294967296) (h:a<d) :
  Calls Try.prog 92 #[.int .u32 a,.int .u32 b,.int .u32 d] w fun e w' =>
   e=.returned (.tuple #[.int .u32 ((a*4294967296+b) / d),.int .u32 ((a*4294967296+b) % d),.bool true])/\Below w.heap.size w w':=by
 go_enter Try.func92,Try.ntmps92
 have Hor:=Lib.hid (ziD a b a0 a1 b0 b1)
 have hm:=Int.mul_le_mul_of_nonneg_right (show a<=d - 1 by omega) (show (0:Int)<=4294967296 by omega)
 have hq0:0<=(a*4294967296+b) / d:=Int.ediv_nonneg (by omega) (by omega)
 have hq1:(a*4294967296+b) / d<4294967296:=by
  apply Int.ediv_lt_of_lt_mul (by omega)
  have:(d:Int)*4294967296=(d - 1)*4294967296+4294967296:=by omega
  omega
 have hr0:0<=(a*4294967296+b) % d:=Int.emod_nonneg _ (by omega)
 have hr1:(a*4294967296+b) % d<d:=Int.emod_lt_of_pos _ (by omega)
 go_wp2_with fail
 rw [Hor.out]
 go_quiet (fail)
 go_wp2_with fail
 go_ret3
 exact ⟨rfl,below_drewN (Below.refl _ _) _⟩

theorem zdQ (w:World):∀ n m,(w.drewN n).drewN m=w.drewN (n+m)
 | n,0 => rfl
 | n,m+1 => by
  show ((w.drewN n).drewN m).drew=(w.drewN (n+m)).drew
  rw [zdQ w n m]

theorem zeX (n:Nat) (a b d:Int) (w:World) (a0:0<=a) (a1:a<4294967296) (b0:0<=b) (b1:b<4294967296) (d0:0<=d) (d1:d<4294967296) (h:d<=a) :
  Calls Try.prog 92 #[.int .u32 a,.int .u32 b,.int .u32 d] (w.drewN n) fun e w' => e=.returned (.tuple #[.int .u32 0,.int .u32 0,.bool false])/\∃ m,w'=w.drewN m:=by
 go_enter Try.func92,Try.ntmps92
 go_wp2_with fail
 go_ret3
 exact ⟨rfl,n,rfl⟩

theorem zeB (n:Nat) (a b d:Int) (w:World) (a0:0<=a) (a1:a<4294967296) (b0:0<=b) (b1:b<4294967296) (d0:0<=d) (d1:d<4294967296) (h:a<d) :
  Calls Try.prog 92 #[.int .u32 a,.int .u32 b,.int .u32 d] (w.drewN n) fun e w' =>
   e=.returned (.tuple #[.int .u32 ((a*4294967296+b) / d),.int .u32 ((a*4294967296+b) % d),.bool true])/\∃ m,w'=w.drewN m:=by
 go_enter Try.func92,Try.ntmps92
 have Hor:=Lib.hid (ziD a b a0 a1 b0 b1)
 have hm:=Int.mul_le_mul_of_nonneg_right (show a<=d - 1 by omega) (show (0:Int)<=4294967296 by omega)
 have hq0:0<=(a*4294967296+b) / d:=Int.ediv_nonneg (by omega) (by omega)
 have hq1:(a*4294967296+b) / d<4294967296:=by
  apply Int.ediv_lt_of_lt_mul (by omega)
  have:(d:Int)*4294967296=(d - 1)*4294967296+4294967296:=by omega
  omega
 have hr0:0<=(a*4294967296+b) % d:=Int.emod_nonneg _ (by omega)
 have hr1:(a*4294967296+b) % d<d:=Int.emod_lt_of_pos _ (by omega)
 go_wp2_with fail
 rw [Hor.out]
 go_quiet (fail)
 go_wp2_with fail
 go_ret3
 exact ⟨rfl,_,zdQ _ _ _⟩

theorem zfn (x:Int) (w:World) (h0:0<=x) (h1:x<4294967296) :
  Calls Try.prog 70 #[.int .u32 x] w fun e w' => e=.returned (.int .i64 (zD x.toNat:Nat))/\w=w':=by
 go_enter Try.func70,Try.ntmps70
 go_wp2_with fail
 refine (zjm _ _ h0 (by omega)).mono ?_
 rintro e w' ⟨rfl,rfl⟩
 go_wp2_with fail
 go_ret
 exact ⟨rfl,rfl⟩

theorem zab (v:Value) (l:List Nat) (w:World) (h:Rd w v l) :
  Calls Try.prog 51 #[v] w fun e w' => e=.returned (.int .i64 (sz (val l):Nat))/\w=w':=by
 have hlm:=h.len_le
 unfold maxLen at hlm
 rcases h.2 with ⟨rfl,a,cap,rfl,hm,hnone⟩|⟨b,off,cap,rfl,hpos,hc,hm,hcell⟩
 ·go_enter Try.func51,Try.ntmps51
  go_wp2
  go_loop [3] (fun n => n=.int .i64 0) (fun _ => 0)
  case atStart => rfl
  case round =>
   obtain rfl:=hrel
   go_wp2
   go_ret
   exact ⟨rfl,rfl⟩
 ·go_enter Try.func51,Try.ntmps51
  go_wp2
  go_loop [3] (fun n => ∃ k:Nat,k<=l.length/\n=.int .i64 k/\Hid (val (l.take k)=val l)) (fun n => (intOf n).toNat)
  case atStart => exact ⟨l.length,Nat.le_refl _,rfl,by unfold Hid;rw [List.take_length]⟩
  case round =>
   obtain ⟨k,hk,rfl,hv⟩:=hrel
   rcases Nat.eq_zero_or_pos k with rfl|hkp
   ·have Hs:=Lib.hid (show sz (val l)=0 by rw [<- hv.out];rfl)
    go_wp2
    go_ret
    exact ⟨zo (zr (by rw [Hs.out];rfl)),rfl⟩
   ·obtain ⟨j,rfl⟩:∃ j,k=j+1:=⟨k - 1,by omega⟩
    have hcj:=hcell j (by omega)
    by_cases hz:nth l j=0
    ·have hz':((nth l j:Int) == 0)=true:=by simp [hz]
     have Hv:Hid (val (l.take j)=val l):=by unfold Hid;rw [<- hv.out,zal (by omega) hz]
     clear hz hv
     go_wp2
     go_round
     case rel => exact ⟨j,by omega,by go_num,Hv⟩
     case measure => simp [intOf]
    ·have hz':((nth l j:Int) == 0)=false:=by simp;omega
     have Hs:=Lib.hid (show sz (val l)=j+1 by
      rw [<- ze,zcH h.1 hk hv.out (.inr (by simpa using hz)),List.length_take];omega)
     clear hz hv
     go_wp2
     go_ret
     exact ⟨zo (zr (by rw [Hs.out];rfl)),rfl⟩

end Go.Proofs.Ytkjcdnlpjldhaaa


namespace Go.Proofs.Ytkjcdnlpjldhaaa
open Go.RowKit Tw

theorem zgt (x:Int) (h0:0<=x) (h1:x<4294967296):bits .and .u32 x 1=x % 2:=by
 rw [u32_and _ _ h0 h1 (by omega) (by omega)]
 have:(1:Int).toNat=1:=rfl
 rw [this,Nat.and_one_is_mod];omega

theorem ref1_low (v:Value) (l:List Nat) (w:World) (h:Rd w v l) :
  Calls Try.prog 58 #[v] w fun e w' => e=.returned (.int .i64 (sz (val l):Nat))/\w=w':=by
 have hlm:=h.len_le
 unfold maxLen at hlm
 rcases h.2 with ⟨rfl,a,cap,rfl,hm,hnone⟩|⟨b,off,cap,rfl,hpos,hc,hm,hcell⟩
 ·go_enter Try.func58,Try.ntmps58
  go_wp2
  go_loop [3,4] (fun n i => n=.int .i64 0/\i=.int .i64 0) (fun _ _ => 0)
  case atStart => exact ⟨rfl,rfl⟩
  case round =>
   obtain ⟨rfl,rfl⟩:=hrel
   go_wp2
   go_ret
   exact ⟨rfl,rfl⟩
 ·go_enter Try.func58,Try.ntmps58
  go_wp2
  go_loop [3,4] (fun n i => ∃ k m:Nat,k<=l.length/\i=.int .i64 k/\n=.int .i64 m/\Hid (sz (val (l.take k))=m)) (fun _ i => l.length - (intOf i).toNat)
  case atStart => exact ⟨0,0,by omega,rfl,rfl,rfl⟩
  case round =>
   obtain ⟨k,m,hk,rfl,rfl,H⟩:=hrel
   by_cases hkl:k<l.length
   ·have hck:=hcell k hkl
    by_cases hz:nth l k=0
    ·have hz':((nth l k:Int) != 0)=false:=by simp [hz]
     have H2:Hid (sz (val (l.take (k+1)))=m):=by unfold Hid;rw [zal hkl hz];exact H.out
     clear hz H
     go_wp2_with fail
     go_round
     case rel => exact ⟨k+1,m,by omega,by go_num,rfl,H2⟩
     case measure => simp [intOf];omega
    ·have hz':((nth l k:Int) != 0)=true:=by simp;omega
     have H2:Hid (sz (val (l.take (k+1)))=k+1):=by
      unfold Hid
      rw [<- ze,zbJ (h.1.take _) (.inr (by rw [List.length_take,Nat.min_eq_left (by omega),Nat.add_sub_cancel,zeI (by omega)];exact hz)),List.length_take];omega
     clear hz H
     go_wp2_with fail
     go_round
     case rel => exact ⟨k+1,k+1,by omega,by go_num,by go_num,H2⟩
     case measure => simp [intOf];omega
   ·have H2:=Lib.hid (show sz (val l)=m by
     have:=H.out
     rwa [show k=l.length by omega,List.take_length] at this)
    clear H
    go_wp2_with fail
    go_ret
    exact ⟨zo (zr (by rw [H2.out])),rfl⟩

end Go.Proofs.Ytkjcdnlpjldhaaa

