/-
  The walk of VmLong.
-/
import Derived.Test.YtkjcdnlpjldhaaaG23
import Derived.Test.YtkjcdnlpjldhaaaG24
import Derived.Deep.RegionHeld3
set_option linter.unusedVariables false
set_option linter.unusedSimpArgs false
set_option maxRecDepth 100000
set_option maxHeartbeats 400000000
namespace Go.Proofs.Ytkjcdnlpjldhaaa
open Go.RowKit Tw
attribute [local go_sem ↓] Go.wp_at_zero Go.wp_at_succ

theorem zfy (a n:Nat):(a:Int).tmod (n:Int)=((a % n:Nat):Int):=by
 rw [Int.tmod_eq_emod_of_nonneg (by omega)]
 exact (Int.natCast_emod a n).symm

theorem zcT:I64 0:=by unfold I64;decide

theorem zdS:I64 1:=by unfold I64;decide

theorem i64_7:I64 7:=by unfold I64;decide

theorem i64_8:I64 8:=by unfold I64;decide

theorem ownI_lit {w:World} {y:Ins} (hn:y.q.n=[]) (hd:y.q.d=[]) (hi:I64X y):zaQ w.heap.size (w.alloc (.cells (zar y (.slice none 0 0) (.slice none 0 0)).toArray 27)) (.slice (some ⟨w.heap.size,0,none⟩) 1 1) [y]:=by
 refine ⟨zar y (.slice none 0 0) (.slice none 0 0),⟨rfl,.inr ⟨w.heap.size,1,(zar y (.slice none 0 0) (.slice none 0 0)).toArray,rfl,Nat.le_refl _,heap_alloc_new _ _,Nat.le_refl _,by decide,rfl,rfl⟩⟩,fun k hk => ?_⟩
 have e:k=0:=by simp at hk;exact hk
 subst e
 refine ⟨none,0,0,none,0,0,fun j hj => by rw [Nat.zero_mul,Nat.zero_add];rfl,?_,?_,zcx,zcx,hi⟩
 ·show Rd _ _ y.q.n;rw [hn];exact zdB _
 ·show Rd _ _ y.q.d;rw [hd];exact zdB _

theorem zje {w w':World} {B:Nat} {x y:Value} {row:Option Nat} (h:Duo w B x y) (hg:w.grownBy w' row) (hr:∀ q,row=some q->q<B):Duo w' B x y:=by
 have n0:row≠some B:=fun e => by have:=hr B e;omega
 obtain ⟨h0,h1,f0,f1⟩:=h
 have hl:=zj h0
 exact ⟨hg.cell h0 (fun e => n0 e.symm),hg.cell h1 (fun e => n0 e.symm),(zak hg hl n0).trans f0,(zak hg hl n0).trans f1⟩

theorem zjf {w:World} {B B' o:Nat} {x y:Value} (h:Duo w B x y) (hne:B≠B') (z:Value):Duo (w.setCell ⟨B',o,none⟩ z) B x y:=by
 obtain ⟨h0,h1,f0,f1⟩:=h
 exact ⟨cP h0 (.inl hne) _,cP h1 (.inl hne) _,by simp [go_sem,f0],by simp [go_sem,f1]⟩

def rtX:Rt:=⟨false,[0,1],[1]⟩

theorem rd_lit {w:World} {b:Nat} {l:List Nat} (hs:Small l) (h0:0<l.length) (hm:l.length<=maxLen) (h:∀ i,i<l.length->w.cell? ⟨b,i,none⟩=some (zau (nth l i))):Rd w (.slice (some ⟨b,0,none⟩) l.length l.length) l :=
 ⟨hs,.inr ⟨b,0,l.length,rfl,h0,Nat.le_refl _,hm,fun i hi => by rw [Nat.zero_add];exact h i hi⟩⟩

def XL (w:World) (b:Nat):Prop:=w.cell? ⟨b,0,none⟩=some (.int .u32 0)/\w.cell? ⟨b,1,none⟩=some (.int .u32 1)/\w.cell? ⟨b+1,0,none⟩=some (.int .u32 1) /\
 w.cell? ⟨b+1+1,0,none⟩=some (.bool false)/\w.cell? ⟨b+1+1,1,none⟩=some (.slice (some ⟨b,0,none⟩) 2 2)/\w.cell? ⟨b+1+1,2,none⟩=some (.slice (some ⟨b+1,0,none⟩) 1 1)

section

variable {w w':World} {b:Nat} {row:Option Nat}

theorem XL.new (t0 t1 t2:TypeId):XL (((w.alloc (.cells #[.int .u32 0,.int .u32 1] t0)).alloc (.cells #[.int .u32 1] t1)).alloc (.cells #[.bool false,.slice (some ⟨w.heap.size,0,none⟩) 2 2,.slice (some ⟨w.heap.size+1,0,none⟩) 1 1] t2)) w.heap.size:=by
 refine ⟨?_,?_,?_,?_,?_,?_⟩ <;> simp [go_sem]

theorem XL.to (h:XL w b) (hb:Below w.heap.size w w'):XL w' b:=by
 obtain ⟨h0,h1,h2,h3,h4,h5⟩:=h
 exact ⟨(hb.cell (p:=⟨b,0,none⟩) (zj h0)).trans h0,(hb.cell (p:=⟨b,1,none⟩) (zj h1)).trans h1,(hb.cell (p:=⟨b+1,0,none⟩) (zj h2)).trans h2,(hb.cell (p:=⟨b+1+1,0,none⟩) (zj h3)).trans h3,(hb.cell (p:=⟨b+1+1,1,none⟩) (zj h4)).trans h4,(hb.cell (p:=⟨b+1+1,2,none⟩) (zj h5)).trans h5⟩

theorem XL.grown (h:XL w b) (hg:w.grownBy w' row) (hr:∀ q,row=some q->q<b):XL w' b:=by
 obtain ⟨h0,h1,h2,h3,h4,h5⟩:=h
 have n0:some b≠row:=fun e => by have:=hr b e.symm;omega
 have n1:some (b+1)≠row:=fun e => by have:=hr (b+1) e.symm;omega
 have n2:some (b+1+1)≠row:=fun e => by have:=hr (b+1+1) e.symm;omega
 exact ⟨hg.cell h0 n0,hg.cell h1 n0,hg.cell h2 n1,hg.cell h3 n2,hg.cell h4 n2,hg.cell h5 n2⟩

theorem XL.set {B' o:Nat} (h:XL w b) (hl:B'<b) (x:Value):XL (w.setCell ⟨B',o,none⟩ x) b:=by
 obtain ⟨h0,h1,h2,h3,h4,h5⟩:=h
 exact ⟨cP h0 (.inl (by omega)) _,cP h1 (.inl (by omega)) _,cP h2 (.inl (by omega)) _,cP h3 (.inl (by omega)) _,cP h4 (.inl (by omega)) _,cP h5 (.inl (by omega)) _⟩

theorem XL.rdR (h:XL w b):RdR w (.slice (some ⟨b+1+1,0,none⟩) 1 1) [rtX]:=by
 obtain ⟨h0,h1,h2,h3,h4,h5⟩:=h
 refine ⟨_,1,rfl,Nat.le_refl _,by decide,fun i hi => ?_⟩
 have e:i=0:=by simp at hi;exact hi
 subst e
 refine ⟨b+1+1,0,rfl,.slice (some ⟨b,0,none⟩) 2 2,.slice (some ⟨b+1,0,none⟩) 1 1,h3,h4,h5,?_,?_⟩
 ·refine rd_lit (l:=[0,1]) (by intro x hx;simp at hx;rcases hx with rfl|rfl <;> decide) (by decide) (by decide) (fun i hi => ?_)
  match i,hi with
  | 0,_ => exact h0
  | 1,_ => exact h1
 ·refine rd_lit (l:=[1]) (by intro x hx;simp at hx;subst hx;decide) (by decide) (by decide) (fun i hi => ?_)
  match i,hi with
  | 0,_ => exact h2

end

theorem zdh (k:Nat) (tail:List Ins) (h:∀ x ∈ tail,x.q.n.length<=4097/\x.q.d.length<=4097):zaV 4097 (cL k tail).all:=by
 intro x hx
 rcases List.mem_cons.1 hx with rfl|hx
 ·exact ⟨Nat.zero_le _,Nat.zero_le _⟩
 ·rcases List.mem_append.1 hx with hx|hx
  ·rw [List.eq_of_mem_replicate hx]
   exact ⟨Nat.zero_le _,Nat.zero_le _⟩
  ·exact h x hx

theorem walk_VmLong (a0 a1:Int) (w:World) (h00:0<=a0) (h01:a0<256) (h10:0<=a1) (h11:a1<256) :
  Calls Try.prog 3 #[.int .u8 a0,.int .u8 a1] w (fun e w' => e=.returned (.bool true)/\Below w.heap.size w w'):=by
 obtain ⟨n,rfl⟩:=Int.eq_ofNat_of_zero_le h00
 obtain ⟨p,rfl⟩:=Int.eq_ofNat_of_zero_le h10
 obtain ⟨k,hk⟩:∃ z,n % 15=z:=⟨_,rfl⟩
 obtain ⟨b,hb⟩:∃ z,p % 22=z:=⟨_,rfl⟩
 have tk:(n:Int).tmod 15=(k:Int):=by rw [<- hk];exact zfy n 15
 have tb:(p:Int).tmod 22=(b:Int):=by rw [<- hb];exact zfy p 22
 have bk:k<15:=by omega
 have bb:b<22:=by omega
 have Htb:=Lib.hid tb
 clear hk hb tb
 go_enter Try.func3,Try.ntmps3
 go_wp2_with fail
 refine (awake25 _).mono ?_
 rintro e w1 ⟨rfl,aT⟩
 go_wp2_with fail
 go_loopw [8,9] (fun s8 s9 ww => ∃ (j wd:Nat) (dn:List Ins) (vC:Value),j<=k/\s8=.int .i64 (wd:Int)/\s9=.int .i64 (j:Int)/\Below w1.heap.size w1 ww/\Hid (wd=2 ^ j)/\Hid (B5 ww (w1.heap.size+1) (.int .i64 1) (.int .i64 1) (.int .i64 1) (.int .i64 1) vC)/\Hid (zaQ w1.heap.size ww vC dn)/\Hid (vC.ownBlock≠some (w1.heap.size+1))/\Hid (dn=zbk :: List.replicate j zag)) (fun _ i _ => k - (intOf i).toNat)
 case atStart =>
  refine ⟨0,1,[zbk],.slice (some ⟨w1.heap.size,0,none⟩) 1 1,Nat.zero_le _,rfl,rfl,bS (bN _ _) (bN _ _),rfl,?_,?_,?_,rfl⟩
  ·show B5 _ _ _ _ _ _ _
   unfold B5
   and_intros <;> first|(simp [go_sem];done)|(simp [go_sem];omega)
  ·exact (ownI_lit (y:=zbk) rfl rfl ⟨zcT,zcT,zcT,zcT⟩).to (bN _ _)
  ·show _≠_
   intro e
   have e:w1.heap.size=w1.heap.size+1:=Option.some.inj e
   omega
 case round =>
 obtain ⟨j,wd,dn,vC,hj,rfl,rfl,gb0,Hwd,HC5,HO,HvC,Hdn⟩:=hrel
 have hgs:=gb0.size
 have hz1:w1.heap.size+1<wr.heap.size:=HC5.out.1
 have HvC4:Hid (∀ z,vC≠.int .u32 z):=fun z e => by
  obtain ⟨a,cap,hv,_⟩:=HO.out.form
  rw [hv] at e
  cases e
 have bwd:wd<=16384:=by
  rw [Hwd.out]
  exact Nat.le_trans (Nat.pow_le_pow_right (by decide) (show j<=14 by omega)) (by decide)
 have Hdl:Hid (dn.length=j+1):=by show _=_;rw [Hdn.out,List.length_cons,List.length_replicate]
 by_cases hjk:j<k
 ·have hji:(j:Int)<(k:Int):=by omega
  obtain ⟨cz,c0,c1,c2,c3,c4,cf0,cf1,cf2,cf3,cf4⟩:=HC5.out
  have HI:Hid (I64X zag):=⟨i64_8,zcT,zcT,zcT⟩
  go_wp2_with (at_builtin;refine zhB _ rfl (.tmp 31) (.tmp 33) rfl w1.heap.size vC dn _ (zag) none 0 0 none 0 0 rfl rfl (HO.out.to (bN wr _)) zeK (zdB _) (zdB _) zcx zcx HI.out (by have:=Hdl.out;omega) (by simp;omega) _ rfl ?_;intro g4 cj4 w4 hO4 hgrow4 hat4 hlt4;have hC4:=(HC5.out.to (bN wr _)).grown hgrow4 HvC.out;obtain ⟨qz,q0,q1,q2,q3,q4,qf0,qf1,qf2,qf3,qf4⟩:=hC4)
  have b5:=bN wr (.cells (zar zag (.slice none 0 0) (.slice none 0 0)).toArray 27)
  have b4:Below w1.heap.size w1 w4:=(bS gb0 b5).grown hgrow4 (Nat.le_trans hgs b5.size) (fun q hq => by have:=(HO.out.lt q hq).1;omega)
  have hg4:g4≠w1.heap.size+1:=by
   rcases hat4 with e|e
   ·exact fun k => HvC.out (by rw [e,k])
   ·rw [e];simp;omega
  have hC4:=(HC5.out.to b5).grown hgrow4 HvC.out
  have hO5:=hO4.setP (B:=w1.heap.size+1) (o:=4) (fun e => hg4 (Option.some.inj e)) hC4.2.2.2.2.2.1 HvC4.out (.slice (some ⟨g4,0,none⟩) (dn.length+1) cj4)
  have hC6:=hC4.set4 (.slice (some ⟨g4,0,none⟩) (dn.length+1) cj4)
  have ef:=b4.setCell (p:=⟨w1.heap.size+1,4,none⟩) (by show _<=w1.heap.size+1;omega) (.slice (some ⟨g4,0,none⟩) (dn.length+1) cj4)
  go_roundw
  case rel => exact ⟨j+1,2*wd,dn++[zag],.slice (some ⟨g4,0,none⟩) (dn.length+1) cj4,by omega,by go_num,by go_num,ef,Lib.hid (by rw [Hwd.out,Nat.pow_succ];omega),Lib.hid hC6,Lib.hid hO5,Lib.hid (fun e => hg4 (Option.some.inj e)),Lib.hid (by rw [Hdn.out,List.replicate_succ'];rfl)⟩
  case measure => simp [intOf] <;> omega
 ·obtain rfl:j=k:=by omega
  have hji:¬ ((j:Int)<(j:Int)):=by omega
  have hcC:IsC wr (cL j []) vC:=⟨by have h:=HO.out.rdC;rw [Hdn.out] at h;show RdC wr vC (zbk :: (List.replicate j zag++[]));rw [List.append_nil];exact h,zdS,zdS,zdS,zdS⟩
  have HcC:=Lib.hid hcC
  obtain ⟨avC,cvC,hvC,_⟩:=HO.out.form
  obtain ⟨nC,hnC⟩:∃ z,dn.length=z:=⟨_,rfl⟩
  rw [hnC] at hvC
  subst hvC
  clear hcC hnC
  obtain ⟨cz,c0,c1,c2,c3,c4,cf0,cf1,cf2,cf3,cf4⟩:=HC5.out
  go_upto_region 11 with fail
  obtain ⟨W0,aq⟩:∃ W0,((wr.alloc (.cells #[.int .u32 0,.int .u32 1] 31)).alloc (.cells #[.int .u32 1] 31)).alloc (.cells #[.bool false,.slice (some ⟨wr.heap.size,0,none⟩) 2 2,.slice (some ⟨wr.heap.size+1,0,none⟩) 1 1] 25)=W0:=⟨_,rfl⟩
  have hX0:XL W0 wr.heap.size:=by rw [<- aq];exact XL.new _ _ _
  have hx0:=hX0.rdR
  have eX:Below wr.heap.size wr W0:=by rw [<- aq];exact bS (bS (bN _ _) (bN _ _)) (bN _ _)
  rw [aq]
  clear aq cz c0 c1 c2 c3 c4 cf0 cf1 cf2 cf3 cf4
  obtain ⟨cz,c0,c1,c2,c3,c4,cf0,cf1,cf2,cf3,cf4⟩:=HC5.out.to eX
  by_cases hk12:12<=j
  ·have Hw:Hid (4096<=wd):=by
    show _<=_
    rw [Hwd.out]
    exact Nat.le_trans (by decide) (Nat.pow_le_pow_right (show 0<2 by decide) hk12)
   have uw:decide ((4096:Int)<(wd:Int)+1)=true:=decide_eq_true (by have:=Hw.out;omega)
   have HR:Hid (∀ (W:World) (v u:Value),IsC W (cL j []) v->RdR W u [rtX]->Calls Try.prog 5 #[.agg #[.int .i64 1,.int .i64 1,.int .i64 1,.int .i64 1,v],u] W (fun e w' => ∃ rw cl a n c,e=.returned (.tuple #[.agg #[.int .i64 rw,.int .i64 cl,.slice a n c],.agg #[.int .i64 0,.int .i64 0],.int .i64 4])/\Below W.heap.size W w')):=fun W v u hc hx => by
    have h:=zdl (cL j []) v u [rtX] W hc (zdh _ _ (by intro x hx;cases hx)) hx (fun _ _ => ⟨fun x hx => by rw [List.mem_singleton.1 hx];exact ⟨by decide,by decide⟩,by rw [show ([rtX].map Rt.num)=pB from congrArg (fun q => [q]) zbm];exact (zit hk12).2⟩) 4 (by
     rw [show ([rtX].map Rt.num)=pB from congrArg (fun q => [q]) zbm]
     exact (zeg (zfj (by omega))).trans (zit hk12).1)
    rw [show ([rtX].map Rt.num)=pB from congrArg (fun q => [q]) zbm] at h
    refine h.mono ?_
    rintro e w' ⟨a,n,c,rfl,_,_,hb⟩
    refine ⟨zeA (cL j []) 4,zez (cL j []) 4,a,n,c,?_,hb⟩
    have eK:jK (cL j []) pB 4=0:=by
     unfold jK
     rw [if_neg (by decide)]
    have eT:jT (cL j []) pB 4=0:=by
     unfold jT
     rw [if_neg (by decide)]
    rw [eK,eT]
   go_wp2_with fail
   refine (HR.out _ _ _ (HcC.out.to eX) hx0).mono ?_
   rintro e w5 ⟨rw5,cl5,a5_,n5_,c5_,rfl,c9⟩
   clear cz c0 c1 c2 c3 c4 cf0 cf1 cf2 cf3 cf4
   go_upto_region 12 with fail
   obtain ⟨W5,fS⟩:∃ W5,(w5.alloc (.cells #[.int .i64 rw5,.int .i64 cl5,.slice a5_ n5_ c5_] 34)).alloc (.cells #[.int .i64 0,.int .i64 0] 36)=W5:=⟨_,rfl⟩
   have hb_W5:Below w5.heap.size w5 W5:=by rw [<- fS];exact bS (bN _ _) (bN _ _)
   have tK:Duo W5 (w5.heap.size+1) (.int .i64 0) (.int .i64 0):=by rw [<- fS];exact zaR _ _ _ _ _
   rw [fS]
   clear fS
   obtain ⟨k0,k1,_⟩:=tK
   go_wp2_with fail
   go_ret
   exact ⟨rfl,bS (bS (bS (bS aT gb0) eX) c9) hb_W5⟩
  ·have hk11:j<=11:=by omega
   have Hw:Hid (wd<=2048):=by
    show _<=_
    rw [Hwd.out]
    exact zgS hk11
   have bw2:=Hw.out
   have uw:decide ((4096:Int)<(wd:Int)+1)=false:=decide_eq_false (by omega)
   obtain ⟨m,hm⟩:∃ z,(wd+1)*b=z:=⟨_,rfl⟩
   have hmb:m<=2049*21:=by rw [<- hm];exact Nat.mul_le_mul (by omega) (by omega)
   have em:((wd:Int)+1)*(b:Int)=(m:Int):=by rw [<- hm];push_cast;rfl
   have Hem:=Lib.hid em
   have Hm:=Lib.hid hm
   have tb:=Htb.out
   clear hm em
   have HR:Hid (∀ (W:World) (v u:Value),IsC W (cL j []) v->RdR W u [rtX]->Calls Try.prog 5 #[.agg #[.int .i64 1,.int .i64 1,.int .i64 1,.int .i64 1,v],u] W (fun e w' => ∃ rw cl a n c,e=.returned (.tuple #[.agg #[.int .i64 rw,.int .i64 cl,.slice a n c],.agg #[.int .i64 ((j:Int)+1),.int .i64 (j:Int)],.int .i64 0])/\Below W.heap.size W w')):=fun W v u hc hx => by
    have h:=zdl (cL j []) v u [rtX] W hc (zdh _ _ (by intro x hx;cases hx)) hx (fun _ _ => ⟨fun x hx => by rw [List.mem_singleton.1 hx];exact ⟨by decide,by decide⟩,by rw [show ([rtX].map Rt.num)=pB from congrArg (fun q => [q]) zbm];exact (cL_in hk11).2.1⟩) 0 (by
     rw [show ([rtX].map Rt.num)=pB from congrArg (fun q => [q]) zbm]
     exact (zeg (zfj (by omega))).trans (cL_in hk11).1)
    rw [show ([rtX].map Rt.num)=pB from congrArg (fun q => [q]) zbm] at h
    refine h.mono ?_
    rintro e w' ⟨a,n,c,rfl,_,_,hb⟩
    refine ⟨zeA (cL j []) 0,zez (cL j []) 0,a,n,c,?_,hb⟩
    have eK:jK (cL j []) pB 0=((j:Int)+1):=by
     unfold jK
     rw [if_pos rfl];exact (cL_in hk11).2.2.1
    have eT:jT (cL j []) pB 0=(j:Int):=by
     unfold jT
     rw [if_pos rfl];exact (cL_in hk11).2.2.2
    rw [eK,eT]
   go_wp2_with fail
   refine (HR.out _ _ _ (HcC.out.to eX) hx0).mono ?_
   rintro e w5 ⟨rw5,cl5,a5_,n5_,c5_,rfl,c9⟩
   clear cz c0 c1 c2 c3 c4 cf0 cf1 cf2 cf3 cf4
   go_upto_region 12 with fail
   obtain ⟨W5,fS⟩:∃ W5,(w5.alloc (.cells #[.int .i64 rw5,.int .i64 cl5,.slice a5_ n5_ c5_] 34)).alloc (.cells #[.int .i64 ((j:Int)+1),.int .i64 (j:Int)] 36)=W5:=⟨_,rfl⟩
   have hb_W5:Below w5.heap.size w5 W5:=by rw [<- fS];exact bS (bN _ _) (bN _ _)
   have tK:Duo W5 (w5.heap.size+1) (.int .i64 ((j:Int)+1)) (.int .i64 (j:Int)):=by rw [<- fS];exact zaR _ _ _ _ _
   rw [fS]
   clear fS
   have hb5':=bS c9 hb_W5
   have eW:=bS eX hb5'
   obtain ⟨cz,c0,c1,c2,c3,c4,cf0,cf1,cf2,cf3,cf4⟩:=HC5.out.to eW
   have HtK:=Lib.hid tK
   have HI:Hid (I64X (zX (b:Int))):=⟨i64_7,zcT,zcT,⟨by show _<=(b:Int);omega,by show (b:Int)<_;omega⟩⟩
   go_wp2_with (at_builtin;refine zhB _ rfl (.tmp 66) (.tmp 69) rfl w1.heap.size (.slice avC nC cvC) dn _ (zX (b:Int)) none 0 0 none 0 0 rfl rfl (HO.out.to (bS eW (bN W5 _))) zeK (zdB _) (zdB _) zcx zcx HI.out (by have:=Hdl.out;omega) (by have:=eW.size;simp;omega) _ rfl ?_;intro g4 cj4 w4 hO4 hgrow4 hat4 hlt4;have hC4:=(HC5.out.to (bS eW (bN W5 _))).grown hgrow4 HvC.out;obtain ⟨qz,q0,q1,q2,q3,q4,qf0,qf1,qf2,qf3,qf4⟩:=hC4)
   have b5:=bS eW (bN W5 (.cells (zar (zX (b:Int)) (.slice none 0 0) (.slice none 0 0)).toArray 27))
   have b4:Below w1.heap.size w1 w4:=(bS gb0 b5).grown hgrow4 (Nat.le_trans hgs b5.size) (fun q hq => by have:=(HO.out.lt q hq).1;omega)
   have hg4:g4≠w1.heap.size+1:=by
    rcases hat4 with e|e
    ·exact fun k => HvC.out (by rw [e,k])
    ·rw [e];have:=eW.size;simp;omega
   have hC4:=(HC5.out.to b5).grown hgrow4 HvC.out
   have hX4:=((hX0.to hb5').to (bN W5 (.cells (zar (zX (b:Int)) (.slice none 0 0) (.slice none 0 0)).toArray 27))).grown hgrow4 (fun q hq => (HO.out.lt q hq).2)
   have hX6:=hX4.set (B':=w1.heap.size+1) (o:=4) (by omega) (.slice (some ⟨g4,0,none⟩) (dn.length+1) cj4)
   have hO5:=hO4.setP (B:=w1.heap.size+1) (o:=4) (fun e => hg4 (Option.some.inj e)) hC4.2.2.2.2.2.1 HvC4.out (.slice (some ⟨g4,0,none⟩) (dn.length+1) cj4)
   have ef:=b4.setCell (p:=⟨w1.heap.size+1,4,none⟩) (by show _<=w1.heap.size+1;omega) (.slice (some ⟨g4,0,none⟩) (dn.length+1) cj4)
   have tK4:Duo (w4.setCell ⟨w1.heap.size+1,4,none⟩ (.slice (some ⟨g4,0,none⟩) (dn.length+1) cj4)) (w5.heap.size+1) (.int .i64 ((j:Int)+1)) (.int .i64 (j:Int)):=by
    have ic:=(bS eX c9).size
    have k1:=HtK.out.to (bN W5 (.cells (zar (zX (b:Int)) (.slice none 0 0) (.slice none 0 0)).toArray 27))
    exact zjf (zje k1 hgrow4 (fun q hq => by have:=(HO.out.lt q hq).2;omega)) (by omega) _
   have HtK4:=Lib.hid tK4
   have hcC2:IsC (w4.setCell ⟨w1.heap.size+1,4,none⟩ (.slice (some ⟨g4,0,none⟩) (dn.length+1) cj4)) (cL j [zX (b:Int)]) (.slice (some ⟨g4,0,none⟩) (dn.length+1) cj4):=⟨by have h:=hO5.rdC;rw [Hdn.out] at h ⊢;exact h,zdS,zdS,zdS,zdS⟩
   have hxx:=hX6.rdR
   have em:=Hem.out
   by_cases h40:4096<m
   ·have um:decide ((4096:Int)<(m:Int))=true:=decide_eq_true (by omega)
    have HR2:Hid (∀ (W:World) (v u:Value),IsC W (cL j [zX (b:Int)]) v->RdR W u [rtX]->Calls Try.prog 5 #[.agg #[.int .i64 1,.int .i64 1,.int .i64 1,.int .i64 1,v],u] W (fun e w' => ∃ rw cl a n c,e=.returned (.tuple #[.agg #[.int .i64 rw,.int .i64 cl,.slice a n c],.agg #[.int .i64 0,.int .i64 0],.int .i64 4])/\Below W.heap.size W w')):=fun W v u hc hx => by
     have h:=zdl (cL j [zX (b:Int)]) v u [rtX] W hc (zdh _ _ (by intro x hx;rw [List.mem_singleton.1 hx];exact ⟨Nat.zero_le _,Nat.zero_le _⟩)) hx (fun _ _ => ⟨fun x hx => by rw [List.mem_singleton.1 hx];exact ⟨by decide,by decide⟩,by rw [show ([rtX].map Rt.num)=pB from congrArg (fun q => [q]) zbm];exact (zdo hk11).2.1⟩) 4 (by
      rw [show ([rtX].map Rt.num)=pB from congrArg (fun q => [q]) zbm]
      exact (zeg (zfk (by omega) (by omega))).trans ((zdo hk11).1.trans (by have:=Hwd.out;have:=Hm.out;rw [if_pos (by rw [<- Hwd.out,Hm.out];exact h40)])))
     rw [show ([rtX].map Rt.num)=pB from congrArg (fun q => [q]) zbm] at h
     refine h.mono ?_
     rintro e w' ⟨a,n,c,rfl,_,_,hb⟩
     refine ⟨zeA (cL j [zX (b:Int)]) 4,zez (cL j [zX (b:Int)]) 4,a,n,c,?_,hb⟩
     have eK:jK (cL j [zX (b:Int)]) pB 4=0:=by
      unfold jK
      rw [if_neg (by decide)]
     have eT:jT (cL j [zX (b:Int)]) pB 4=0:=by
      unfold jT
      rw [if_neg (by decide)]
     rw [eK,eT]
    refine (HR2.out _ _ _ hcC2 hxx).mono ?_
    rintro e w6 ⟨rw5',cl5',a6_,n6_,c6_,rfl,eh⟩
    go_upto_region 17 with fail
    obtain ⟨W6,fU⟩:∃ W6,(w6.alloc (.cells #[.int .i64 rw5',.int .i64 cl5',.slice a6_ n6_ c6_] 34)).alloc (.cells #[.int .i64 0,.int .i64 0] 36)=W6:=⟨_,rfl⟩
    have hb_W6:Below w6.heap.size w6 W6:=by rw [<- fU];exact bS (bN _ _) (bN _ _)
    have tK:Duo W6 (w6.heap.size+1) (.int .i64 0) (.int .i64 0):=by rw [<- fU];exact zaR _ _ _ _ _
    rw [fU]
    clear fU
    obtain ⟨k0,k1,_⟩:=tK
    go_wp2_with fail
    go_ret
    exact ⟨rfl,bS (bS (bS aT ef) eh) hb_W6⟩
   ·have um:decide ((4096:Int)<(m:Int))=false:=decide_eq_false (by omega)
    have HR3:Hid (∀ (W:World) (v u:Value),IsC W (cL j [zX (b:Int)]) v->RdR W u [rtX]->Calls Try.prog 5 #[.agg #[.int .i64 1,.int .i64 1,.int .i64 1,.int .i64 1,v],u] W (fun e w' => ∃ rw cl a n c,e=.returned (.tuple #[.agg #[.int .i64 rw,.int .i64 cl,.slice a n c],.agg #[.int .i64 ((j:Int)+2),.int .i64 (j:Int)],.int .i64 0])/\Below W.heap.size W w')):=fun W v u hc hx => by
     have h:=zdl (cL j [zX (b:Int)]) v u [rtX] W hc (zdh _ _ (by intro x hx;rw [List.mem_singleton.1 hx];exact ⟨Nat.zero_le _,Nat.zero_le _⟩)) hx (fun _ _ => ⟨fun x hx => by rw [List.mem_singleton.1 hx];exact ⟨by decide,by decide⟩,by rw [show ([rtX].map Rt.num)=pB from congrArg (fun q => [q]) zbm];exact (zdo hk11).2.1⟩) 0 (by
      rw [show ([rtX].map Rt.num)=pB from congrArg (fun q => [q]) zbm]
      exact (zeg (zfk (by omega) (by omega))).trans ((zdo hk11).1.trans (by rw [if_neg (by rw [<- Hwd.out,Hm.out];exact h40)])))
     rw [show ([rtX].map Rt.num)=pB from congrArg (fun q => [q]) zbm] at h
     refine h.mono ?_
     rintro e w' ⟨a,n,c,rfl,_,_,hb⟩
     refine ⟨zeA (cL j [zX (b:Int)]) 0,zez (cL j [zX (b:Int)]) 0,a,n,c,?_,hb⟩
     have eK:jK (cL j [zX (b:Int)]) pB 0=((j:Int)+2):=by
      unfold jK
      rw [if_pos rfl];exact (zdo hk11).2.2.1
     have eT:jT (cL j [zX (b:Int)]) pB 0=(j:Int):=by
      unfold jT
      rw [if_pos rfl];exact (zdo hk11).2.2.2
     rw [eK,eT]
    refine (HR3.out _ _ _ hcC2 hxx).mono ?_
    rintro e w6 ⟨rw5',cl5',a6_,n6_,c6_,rfl,eh⟩
    go_upto_region 17 with fail
    obtain ⟨W6,fU⟩:∃ W6,(w6.alloc (.cells #[.int .i64 rw5',.int .i64 cl5',.slice a6_ n6_ c6_] 34)).alloc (.cells #[.int .i64 ((j:Int)+2),.int .i64 (j:Int)] 36)=W6:=⟨_,rfl⟩
    have hb_W6:Below w6.heap.size w6 W6:=by rw [<- fU];exact bS (bN _ _) (bN _ _)
    have tK:Duo W6 (w6.heap.size+1) (.int .i64 ((j:Int)+2)) (.int .i64 (j:Int)):=by rw [<- fU];exact zaR _ _ _ _ _
    rw [fU]
    clear fU
    obtain ⟨k0,k1,_⟩:=tK
    obtain ⟨k2,k3,_⟩:=(HtK4.out.to eh).to hb_W6
    go_wp2_with fail
    go_ret
    exact ⟨rfl,bS (bS (bS aT ef) eh) hb_W6⟩

end Go.Proofs.Ytkjcdnlpjldhaaa

