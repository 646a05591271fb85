/-
  The walk of VmFront.
-/
import Derived.Test.YtkjcdnlpjldhaaaGreatG27
import Derived.Test.YtkjcdnlpjldhaaaGreatG28
import Derived.Test.YtkjcdnlpjldhaaaGreatG23
import Derived.Test.YtkjcdnlpjldhaaaGreatG17
import Derived.Test.YtkjcdnlpjldhaaaGreatG15
import Derived.Deep.RegionHeld3
import Derived.Deep.CutRange
import Derived.RegionTactic
set_option linter.unusedVariables false
set_option linter.unusedSimpArgs false
set_option maxRecDepth 100000
set_option maxHeartbeats 400000000
namespace Go.Proofs.YtkjcdnlpjldhaaaGreat
open Go.RowKit Tw
attribute [local go_sem ↓] Go.wp_at_zero Go.wp_at_succ

theorem zac.upF {a b:Nat} {l:List Ins} (h:zac a l) (hab:a<=b):zac b l:=fun x hx => ⟨Nat.le_trans (h x hx).1 hab,Nat.le_trans (h x hx).2 hab⟩

theorem zla (a n:Nat):(a:Int).tmod (n:Int)=((a % n:Nat):Int):=by
 rw [Int.tmod_eq_emod_of_nonneg (by omega)]
 exact (Int.natCast_emod a n).symm

theorem RdC.take {w:World} {a:Option Addr} {m c:Nat} {l:List Ins} (h:RdC w (.slice a m c) l) {n:Nat} (hn:n<=l.length):RdC w (.slice a n c) (l.take n):=by
 obtain ⟨a',cap,hv,h1,h2,h3⟩:=h
 injection hv with e1 e2 e3
 subst e1 e3
 have hl:(l.take n).length=n:=by rw [List.length_take];omega
 refine ⟨a,c,by rw [hl],by omega,h2,fun i hi => ?_⟩
 obtain ⟨b,off,e,k⟩:=h3 i (by omega)
 exact ⟨b,off,e,by rw [List.getElem_take];exact k⟩

theorem all_ok {c:Cd}:∀ (l:List Ins) (L:List Int),zA c L l=true->∀ x ∈ l,∃ L',zq c L' x=true
 | [],_,_,x,h => by cases h
 | y :: t,L,ha,x,h => by
  unfold zA at ha
  rw [Bool.and_eq_true] at ha
  rcases List.mem_cons.1 h with h|h
  ·rw [h];exact ⟨L,ha.1⟩
  ·exact all_ok t _ ha.2 x h

theorem zjD {A:List Ins} {i n:Nat} (hi:i<A.length) (hin:i<n) {r:Int}:zck (A.take (min (i+1) n)) r ↔ (zck (A.take (min i n)) r\/(A[i].op=10/\A[i].to=r)):=by
 rw [show min (i+1) n=i+1 by omega,show min i n=i by omega,List.take_succ_eq_append_getElem hi]
 unfold zck
 constructor
 ·rintro ⟨x,hx,h⟩
  rcases List.mem_append.1 hx with hx|hx
  ·exact .inl ⟨x,hx,h⟩
  ·rw [List.mem_singleton.1 hx] at h;exact .inr h
 ·rintro (⟨x,hx,h⟩|h)
  ·exact ⟨x,List.mem_append_left _ hx,h⟩
  ·exact ⟨_,List.mem_append_right _ (List.mem_singleton.2 rfl),h⟩

theorem zjC {A:List Ins} {i n:Nat} (hin:¬ i<n):A.take (min (i+1) n)=A.take (min i n):=by
 rw [show min (i+1) n=min i n by omega]

theorem zix {A:List Ins} {i n:Nat} (hi:i<A.length) (hin:i<n):zbv (A.take (min (i+1) n))=zbv (A.take (min i n))+(if A[i].op=8 then 1 else 0):=by
 rw [show min (i+1) n=i+1 by omega,show min i n=i by omega,List.take_succ_eq_append_getElem hi]
 unfold zbv
 rw [List.filter_append,List.length_append]
 by_cases h:A[i].op=8
 ·rw [if_pos h,List.filter_cons_of_pos (by simpa using h)]
  simp
 ·rw [if_neg h,List.filter_cons_of_neg (by simpa using h)]
  simp

theorem ziT {lo hi:Nat} {b ng:Bool} {vn vd v u:Value} (w:World) (hb:(zi 0).ng=b) (hn:Rd w vn (zi 0).n) (hd:Rd w vd (zi 0).d) (g:zab lo hi w ng v u ((0:Int):Rat)) :
  Calls Tryz.prog 24 #[aggR b vn vd,aggR ng v u] w (fun e w' => e=.returned (.bool true)/\Below w.heap.size w w'):=by
 have h0:((0:Int):Rat)=0:=by simp
 rw [h0] at g
 have e:=g.2.2.1
 refine zfW b vn vd _ _ ng v u _ _ w ⟨hn,hd⟩ g.isF true ?_
 rw [<- e,<- hb]
 simp [zi]

theorem walk_VmFront (a0 a1 a2:Int) (v:Value) (l:List Tn) (a4:Int) (u:Value) (s:List Sn) (w:World) (h00:0<=a0) (h01:a0<256) (h10:0<=a1) (h11:a1<256) (h20:0<=a2) (h21:a2<256) (hl:RdTn w v l) (h40:0<=a4) (h41:a4<256) (hs:RdSn w u s) :
  Calls Tryz.prog 5 #[.int .u8 a0,.int .u8 a1,.int .u8 a2,v,.int .u8 a4,u] w (fun e w' => e=.returned (.bool true)/\Below w.heap.size w w'):=by
 obtain ⟨i,rfl⟩:=Int.eq_ofNat_of_zero_le h00
 obtain ⟨r,rfl⟩:=Int.eq_ofNat_of_zero_le h10
 obtain ⟨g,rfl⟩:=Int.eq_ofNat_of_zero_le h20
 obtain ⟨kk,rfl⟩:=Int.eq_ofNat_of_zero_le h40
 obtain ⟨a,N,cap,rfl,HN,hm'⟩:=hl.open
 obtain ⟨au,Nu,cu,rfl,HNu,hmu'⟩:=hs.open
 have Hl:=Lib.hid hl
 have Hs:=Lib.hid hs
 by_cases h16:N<=16
 ·have u16:decide ((16:Int)<(N:Int))=false:=decide_eq_false (by omega)
  have hl16:l.length<=16:=by rw [HN.out];exact h16
  have hR:=zeO i r g l hl16
  obtain ⟨I,hI⟩:∃ z,1+i % 3=z:=⟨_,rfl⟩
  obtain ⟨R,hRR⟩:∃ z,1+r % 3=z:=⟨_,rfl⟩
  obtain ⟨G,hG⟩:∃ z,1+g % 6=z:=⟨_,rfl⟩
  obtain ⟨A,hA⟩:∃ z,zao I G (R*I) [] [] l=z:=⟨_,rfl⟩
  have bI:0<I/\I<=3:=by omega
  have bR:0<R/\R<=3:=by omega
  have bG:0<G/\G<=6:=by omega
  have hC:zcc i r g l=⟨(I:Int),(R:Int),(I:Int),(G:Int),A⟩:=by unfold zcc;rw [hI,hRR,hG,hA]
  rw [hC] at hR
  obtain ⟨RC,hRC⟩:∃ z,R*I=z:=⟨_,rfl⟩
  have bRC:0<RC/\RC<=9:=by rw [<- hRC];exact ⟨Nat.mul_pos bR.1 bI.1,Nat.mul_le_mul bR.2 bI.2⟩
  have HeRC:=Lib.hid (show (R:Int)*(I:Int)=(RC:Int) by rw [<- hRC];push_cast;rfl)
  have hAl:A.length<=16:=by rw [<- hA,zcr];exact hl16
  have hQ:∀ x ∈ A,x.q.n.length<=1/\x.q.d.length<=1/\szq x.q.num<=1:=by
   rw [<- hA]
   intro x hx
   have:=zfn l [] [] x hx
   exact ⟨this.1,this.2.1,this.2.2.1⟩
  have HMd:Hid (∀ W,Below w.heap.size w W->Calls Tryz.prog 22 #[.int .u8 (i:Int),.int .u8 (r:Int),.int .u8 (g:Int),.slice a N cap,.int .i64 16] W (fun e w' => ∃ v',e=.returned (aggC ⟨(I:Int),(R:Int),(I:Int),(G:Int),A⟩ v')/\zat W.heap.size w' v' A/\Below W.heap.size W w')):=fun W hb => by
   have h:=zfS i r g 16 _ l W (Hl.out.to hb) (by omega) (by omega) (by omega) (by decide)
   rw [List.take_of_length_le hl16,hC] at h
   exact h
  obtain ⟨nA,hnA⟩:∃ z,A.length=z:=⟨_,rfl⟩
  obtain ⟨n,hn⟩:∃ z,kk % (nA+1)=z:=⟨_,rfl⟩
  have hnn:n<=nA:=by have:=Nat.mod_lt kk (show 0<nA+1 by omega);omega
  have htn:(kk:Int).tmod ((nA:Int)+1)=(n:Int):=by rw [<- hn,<- zla kk (nA+1)];push_cast;rfl
  have hnA16:nA<=16:=by omega
  have hnz:¬ ((nA:Int)+1=0):=by omega
  have HnA:=Lib.hid hnA
  have Htn:=Lib.hid htn
  have HR:=Lib.hid (show zr ⟨(I:Int),(R:Int),(I:Int),(G:Int),A⟩=true from hR.1)
  have HH:=Lib.hid (show zU ⟨(I:Int),(R:Int),(I:Int),(G:Int),A⟩<=12 from hR.2)
  have HQ:=Lib.hid hQ
  have HRd:=Lib.hid (show zr ⟨(I:Int),(R:Int),(I:Int),(G:Int),A.take n⟩=true from zdJ (n:=n) hR.1)
  have HHd:=Lib.hid (show zU ⟨(I:Int),(R:Int),(I:Int),(G:Int),A.take n⟩<=zU ⟨(I:Int),(R:Int),(I:Int),(G:Int),A⟩ from zhV (n:=n) hR.1)
  obtain ⟨g1,hg1⟩:∃ z,zU ⟨(I:Int),(R:Int),(I:Int),(G:Int),A⟩=z:=⟨_,rfl⟩
  obtain ⟨g2,hg2⟩:∃ z,zU ⟨(I:Int),(R:Int),(I:Int),(G:Int),A.take n⟩=z:=⟨_,rfl⟩
  have hg21:g2<=g1:=by rw [<- hg1,<- hg2];exact HHd.out
  have Hg1:=Lib.hid hg1
  have Hg2:=Lib.hid hg2
  obtain ⟨ps,hps⟩:∃ z,zcB I s=z:=⟨_,rfl⟩
  have hp:∀ x ∈ ps.map zi,x.n.length<=6/\x.d.length<=6:=by rw [<- hps];exact zcC _ _ Hs.out.rng
  have hnum:(ps.map zi).map Rt.num=ps:=by rw [<- hps];exact zdA _ _
  have hln:(ps.map zi).length=I:=by rw [<- hps];exact zdz _ _
  have hp7:∀ q ∈ ps,szq q<=7:=by
   rw [<- hps]
   intro q hq
   obtain ⟨j,_,rfl⟩:=List.mem_map.1 hq
   exact Nat.le_trans (zgG s j Hs.out.rng) (by decide)
  have gT:zac 6 A:=fun x hx => by have:=HQ.out x hx;omega
  have hsd:zac 6 (A.take n):=fun x hx => gT x (List.mem_of_mem_take hx)
  have Hs6:=Lib.hid gT
  have Hsd:=Lib.hid hsd
  obtain ⟨o1,ho1⟩:∃ o,zcT ⟨(I:Int),(R:Int),(I:Int),(G:Int),A⟩ ps I=o:=⟨_,rfl⟩
  obtain ⟨o2,ho2⟩:∃ o,zcT ⟨(I:Int),(R:Int),(I:Int),(G:Int),A.take n⟩ ps I=o:=⟨_,rfl⟩
  have hno:o2≠0->o2=3/\o1=3:=fun h => by
   have:=front_no (c:=⟨(I:Int),(R:Int),(I:Int),(G:Int),A⟩) (n:=n) (p:=ps) hp7 (fun x hx => by have:=HQ.out x hx;omega) HR.out (by have:=HH.out;omega) (I:=I) rfl (by show zcT ⟨(I:Int),(R:Int),(I:Int),(G:Int),A.take n⟩ ps I≠0;rw [ho2];exact h)
   rw [<- ho1,<- ho2]
   exact this
  have hk1:o1=0->jK ⟨(I:Int),(R:Int),(I:Int),(G:Int),A⟩ ps o1=(nA:Int)/\((zch ⟨(I:Int),(R:Int),(I:Int),(G:Int),A⟩ ps o1).map zi).length=RC:=fun h => by
   refine ⟨?_,?_⟩
   ·unfold jK
    rw [if_pos h,zjo]
    show (0:Int)+(A.length:Int)=_
    rw [hnA];omega
   ·unfold zch
    rw [if_pos h]
    unfold zcx
    rw [List.length_map,List.length_map,List.length_range]
    show ((R:Int)*(I:Int)).toNat=RC
    rw [HeRC.out];rfl
  have hk2:o2=0->jK ⟨(I:Int),(R:Int),(I:Int),(G:Int),A.take n⟩ ps o2=(n:Int)/\jT ⟨(I:Int),(R:Int),(I:Int),(G:Int),A.take n⟩ ps o2=zbv (A.take n)/\((zch ⟨(I:Int),(R:Int),(I:Int),(G:Int),A.take n⟩ ps o2).map zi).length=RC/\∀ (j:Nat) (hj:j<((zch ⟨(I:Int),(R:Int),(I:Int),(G:Int),A.take n⟩ ps o2).map zi).length),¬ zck (A.take n) (j:Int)->((zch ⟨(I:Int),(R:Int),(I:Int),(G:Int),A.take n⟩ ps o2).map zi)[j]=zi 0:=fun h => by
   refine ⟨?_,?_,?_,fun j hj hnt => ?_⟩
   ·unfold jK
    rw [if_pos h,zjo]
    show (0:Int)+((A.take n).length:Int)=_
    rw [List.length_take];omega
   ·rw [h];exact front_t (c:=⟨(I:Int),(R:Int),(I:Int),(G:Int),A.take n⟩)
   ·unfold zch
    rw [if_pos h]
    unfold zcx
    rw [List.length_map,List.length_map,List.length_range]
    show ((R:Int)*(I:Int)).toNat=RC
    rw [HeRC.out];rfl
   ·subst h
    rw [List.getElem_map,front_J (c:=⟨(I:Int),(R:Int),(I:Int),(G:Int),A.take n⟩) (by rw [List.length_map] at hj;exact hj) hnt]
  obtain ⟨k1,hk1'⟩:∃ z,jK ⟨(I:Int),(R:Int),(I:Int),(G:Int),A⟩ ps o1=z:=⟨_,rfl⟩
  obtain ⟨t1,ht1'⟩:∃ z,jT ⟨(I:Int),(R:Int),(I:Int),(G:Int),A⟩ ps o1=z:=⟨_,rfl⟩
  obtain ⟨k2,hk2'⟩:∃ z,jK ⟨(I:Int),(R:Int),(I:Int),(G:Int),A.take n⟩ ps o2=z:=⟨_,rfl⟩
  obtain ⟨t2,ht2'⟩:∃ z,jT ⟨(I:Int),(R:Int),(I:Int),(G:Int),A.take n⟩ ps o2=z:=⟨_,rfl⟩
  obtain ⟨q1,hq1'⟩:∃ z,(zch ⟨(I:Int),(R:Int),(I:Int),(G:Int),A⟩ ps o1).map zi=z:=⟨_,rfl⟩
  obtain ⟨q2,hq2'⟩:∃ z,(zch ⟨(I:Int),(R:Int),(I:Int),(G:Int),A.take n⟩ ps o2).map zi=z:=⟨_,rfl⟩
  rw [hk1',hq1'] at hk1
  rw [hk2',ht2',hq2'] at hk2
  have HRun1:Hid (∀ (W:World) (v u:Value),IsC W ⟨(I:Int),(R:Int),(I:Int),(G:Int),A⟩ v->RdR W u (ps.map zi)->Calls Tryz.prog 19 #[aggC ⟨(I:Int),(R:Int),(I:Int),(G:Int),A⟩ v,u] W (fun e w' => ∃ rw cl a c,e=.returned (.tuple #[.agg #[.int .i64 rw,.int .i64 cl,.slice a q1.length c],.agg #[.int .i64 k1,.int .i64 t1],.int .i64 o1])/\RdR w' (.slice a q1.length c) q1/\Below W.heap.size W w')):=fun W v u hc hx => by
   have h:=zea ⟨(I:Int),(R:Int),(I:Int),(G:Int),A⟩ v u (ps.map zi) W hc (Hs6.out.upF (by decide)) hx (zdM hc hx Hs6.out hp (by have:=HH.out;omega)) o1 (by rw [hnum,hln];exact ho1)
   rw [hnum] at h
   refine h.mono ?_
   rintro e w' ⟨a,m,c,rfl,hr,_,hb⟩
   rw [hq1'] at hr
   obtain ⟨a',cap',hv,_⟩:=id hr
   injection hv with e1 e2 e3
   subst e1 e2 e3
   rw [hk1',ht1']
   exact ⟨_,_,a,c,rfl,hr,hb⟩
  have HRun2:Hid (∀ (W:World) (v u:Value),IsC W ⟨(I:Int),(R:Int),(I:Int),(G:Int),A.take n⟩ v->RdR W u (ps.map zi)->Calls Tryz.prog 19 #[aggC ⟨(I:Int),(R:Int),(I:Int),(G:Int),A.take n⟩ v,u] W (fun e w' => ∃ rw cl a c,e=.returned (.tuple #[.agg #[.int .i64 rw,.int .i64 cl,.slice a q2.length c],.agg #[.int .i64 k2,.int .i64 t2],.int .i64 o2])/\RdR w' (.slice a q2.length c) q2/\Below W.heap.size W w')):=fun W v u hc hx => by
   have h:=zea ⟨(I:Int),(R:Int),(I:Int),(G:Int),A.take n⟩ v u (ps.map zi) W hc (Hsd.out.upF (by decide)) hx (zdM hc hx Hsd.out hp (by have:=HH.out;have:=HHd.out;omega)) o2 (by rw [hnum,hln];exact ho2)
   rw [hnum] at h
   refine h.mono ?_
   rintro e w' ⟨a,m,c,rfl,hr,_,hb⟩
   rw [hq2'] at hr
   obtain ⟨a',cap',hv,_⟩:=id hr
   injection hv with e1 e2 e3
   subst e1 e2 e3
   rw [hk2',ht2']
   exact ⟨_,_,a,c,rfl,hr,hb⟩
  have HPt:Hid (∀ W,Below w.heap.size w W->Calls Tryz.prog 23 #[.int .i64 (I:Int),.slice au Nu cu] W (fun e w' => ∃ a c,e=.returned (.slice a I c)/\RdR w' (.slice a I c) (ps.map zi)/\Below W.heap.size W w')):=fun W hb => by
   rw [<- hps]
   exact zeR I _ s W (Hs.out.to hb) (by omega)
  have Hk1:=Lib.hid hk1
  have Hk2:=Lib.hid hk2
  have Hno:=Lib.hid hno
  have hTo:∀ x ∈ A,x.op=10->0<=x.to/\x.to<(RC:Int):=fun x hx h10 => by
   have h:=all_ok A [] (zbi HR.out).2 x hx
   obtain ⟨L',h⟩:=h
   have h2:=zN h
   unfold zE at h2
   rw [if_pos h10] at h2
   have e:(R:Int)*(I:Int)=(RC:Int):=HeRC.out
   rw [<- e]
   exact h2
  have HTo:=Lib.hid hTo
  clear hl hs hR hC hA hI hRR hG hQ hRC hAl hnA hn htn hg1 hg2 hps hp hnum hln hp7 gT hsd ho1 ho2 hno hk1 hk2 hk1' ht1' hk2' ht2' hq1' hq2' hl16 hTo
  by_cases h0:o2=0
  ·subst h0
   obtain ⟨hk2n,hk2t,hq2l,hJ⟩:=Hk2.out rfl
   subst hk2n
   have Ht2:=Lib.hid hk2t
   have HJ:=Lib.hid hJ
   have Hq2l:=Lib.hid hq2l
   clear hk2t hJ hq2l
   go_enter Tryz.func5,Tryz.ntmps5
   go_wp2_with fail
   refine (zdE _).mono ?_
   rintro e w1 ⟨rfl,aX⟩
   go_wp2_with fail
   refine (HMd.out _ aX).mono ?_
   rintro e w2 ⟨v2,rfl,hO2,aR⟩
   have dp:=bS aX aR
   obtain ⟨av,cv,hv2,_⟩:=hO2.form
   rw [HnA.out] at hv2
   subst hv2
   have hrc:=hO2.rdC
   have HO2:=Lib.hid hrc
   have hcv:nA<=cv:=by
    obtain ⟨a',cap',hv,h1,_⟩:=id hrc
    injection hv with _ e2 e3
    omega
   have hncv:(n:Int)<=(cv:Int):=by omega
   clear hO2 hrc
   have htn:=Htn.out
   go_upto_region 8 with fail
   obtain ⟨W2,ds⟩:∃ W2,(w2.alloc (.cells #[.int .i64 (I:Int),.int .i64 (R:Int),.int .i64 (I:Int),.int .i64 (G:Int),.slice av nA cv] 24)).alloc (.cells #[.int .i64 (I:Int),.int .i64 (R:Int),.int .i64 (I:Int),.int .i64 (G:Int),.slice av n cv] 24)=W2:=⟨_,rfl⟩
   have fq:Below w2.heap.size w2 W2:=by rw [<- ds];exact bS (bN _ _) (bN _ _)
   have hC5:B5 W2 w2.heap.size (.int .i64 (I:Int)) (.int .i64 (R:Int)) (.int .i64 (I:Int)) (.int .i64 (G:Int)) (.slice av nA cv):=by
    rw [<- ds]
    unfold B5
    and_intros <;> first|(simp [go_sem];done)|(simp [go_sem];omega)
   have hD5:B5 W2 (w2.heap.size+1) (.int .i64 (I:Int)) (.int .i64 (R:Int)) (.int .i64 (I:Int)) (.int .i64 (G:Int)) (.slice av n cv):=by
    rw [<- ds]
    unfold B5
    and_intros <;> first|(simp [go_sem];done)|(simp [go_sem];omega)
   rw [ds]
   clear ds
   have HC5:=Lib.hid hC5
   have HD5:=Lib.hid hD5
   have du:=bS dp fq
   have hcC:IsC W2 ⟨(I:Int),(R:Int),(I:Int),(G:Int),A⟩ (.slice av nA cv):=⟨HO2.out.to fq,⟨by show _<=(I:Int);omega,by show (I:Int)<_;omega⟩,⟨by show _<=(R:Int);omega,by show (R:Int)<_;omega⟩,⟨by show _<=(I:Int);omega,by show (I:Int)<_;omega⟩,⟨by show _<=(G:Int);omega,by show (G:Int)<_;omega⟩⟩
   have hcD:IsC W2 ⟨(I:Int),(R:Int),(I:Int),(G:Int),A.take n⟩ (.slice av n cv):=⟨(HO2.out.to fq).take (by rw [HnA.out];exact hnn),hcC.2⟩
   have HcC:=Lib.hid hcC
   have HcD:=Lib.hid hcD
   clear hcC hcD hC5 hD5 htn
   obtain ⟨cz,c0,c1,c2,c3,c4,cf0,cf1,cf2,cf3,cf4⟩:=HC5.out
   go_wp2_with fail
   refine (HPt.out _ du).mono ?_
   rintro e w3 ⟨a3_,c3_,rfl,g3,bZ⟩
   clear cz c0 c1 c2 c3 c4 cf0 cf1 cf2 cf3 cf4
   obtain ⟨cz,c0,c1,c2,c3,c4,cf0,cf1,cf2,cf3,cf4⟩:=HC5.out.to bZ
   go_wp2_with fail
   refine (HRun1.out _ _ _ (HcC.out.to bZ) g3).mono ?_
   rintro e w5 ⟨rwa,cla,a5_,c5_,rfl,g5,cQ⟩
   clear cz c0 c1 c2 c3 c4 cf0 cf1 cf2 cf3 cf4
   have fK:=bS bZ cQ
   go_upto_region 10 with fail
   obtain ⟨W5,cX⟩:∃ W5,(w5.alloc (.cells #[.int .i64 rwa,.int .i64 cla,.slice a5_ q1.length c5_] 32)).alloc (.cells #[.int .i64 k1,.int .i64 t1] 34)=W5:=⟨_,rfl⟩
   have hb_W5:Below w5.heap.size w5 W5:=by rw [<- cX];exact bS (bN _ _) (bN _ _)
   have tJ:Tri W5 w5.heap.size (.int .i64 rwa) (.int .i64 cla) (.slice a5_ q1.length c5_):=by rw [<- cX];exact (ze _ _ _ _ _).alloc _
   have tK:Duo W5 (w5.heap.size+1) (.int .i64 k1) (.int .i64 t1):=by rw [<- cX];exact zaD _ _ _ _ _
   rw [cX]
   clear cX
   have hbW:=bS fK hb_W5
   obtain ⟨dz,d0,d1,d2,d3,d4,df0,df1,df2,df3,df4⟩:=HD5.out.to hbW
   go_wp2_with fail
   refine (HRun2.out _ _ _ (HcD.out.to hbW) ((g3.to cQ).to hb_W5)).mono ?_
   rintro e w6 ⟨rwb,clb,a6_,c6_,rfl,g6,dr⟩
   clear dz d0 d1 d2 d3 d4 df0 df1 df2 df3 df4
   go_upto_region 11 with fail
   obtain ⟨W6,fl⟩:∃ W6,(w6.alloc (.cells #[.int .i64 rwb,.int .i64 clb,.slice a6_ q2.length c6_] 32)).alloc (.cells #[.int .i64 (n:Int),.int .i64 t2] 34)=W6:=⟨_,rfl⟩
   have hb_W6:Below w6.heap.size w6 W6:=by rw [<- fl];exact bS (bN _ _) (bN _ _)
   have tJ2:Tri W6 w6.heap.size (.int .i64 rwb) (.int .i64 clb) (.slice a6_ q2.length c6_):=by rw [<- fl];exact (ze _ _ _ _ _).alloc _
   have tK2:Duo W6 (w6.heap.size+1) (.int .i64 (n:Int)) (.int .i64 t2):=by rw [<- fl];exact zaD _ _ _ _ _
   rw [fl]
   clear fl
   have hbX:=bS dr hb_W6
   have hbZ:=bS hbW hbX
   have hbA:=bS du hbZ
   have eRC:=HeRC.out
   have HC6:=Lib.hid (HC5.out.to hbZ)
   have HD6:=Lib.hid (HD5.out.to hbZ)
   have HJ1:=Lib.hid (tJ.to hbX)
   have HK1:=Lib.hid (tK.to hbX)
   have HJ2:=Lib.hid tJ2
   have HK2:=Lib.hid tK2
   have Hq2r:=Lib.hid (g6.to hb_W6)
   have HcC6:=Lib.hid (HcC.out.to hbZ)
   have HcD6:=Lib.hid (HcD.out.to hbZ)
   clear tJ tK tJ2 tK2
   obtain ⟨cz,c0,c1,c2,c3,c4,cf0,cf1,cf2,cf3,cf4⟩:=HC6.out
   obtain ⟨CL,hCL⟩:∃ CL,madeCells #[.bool false] (RC*1)=CL:=⟨_,rfl⟩
   have hmk:∀ w':World,(Instr.makeSlice 44 (.int .i64 (RC:Int)) (.int .i64 (RC:Int))).run Tryz.prog w'=.ok (.slice (some ⟨w'.heap.size,0,none⟩) RC RC) (w'.alloc (.cells CL 4)):=fun w' => by
    obtain ⟨i0,hi0,hz0,hz1,hz2⟩:=info_parts (show (Tryz.prog.info? 4).map (fun i => (i.zero,i.size,i.bytes))=some (some (.bool false),1,1) by kernel_rfl)
    have:=run_make (P:=Tryz.prog) w' 44 4 i0 _ Tryz.underlying44 hi0 hz0 .i64 .i64 (RC:Int) (RC:Int) (by omega) (Int.le_refl _) (by rw [hz2];omega) (by omega)
    rw [this,hz1,<- hCL,Int.toNat_natCast];rfl
   have HCL:=Lib.hid hCL
   clear hCL
   go_upto_region 14 with fail
   obtain ⟨w7,hw7⟩:∃ w7,W6.alloc (.cells CL 4)=w7:=⟨_,rfl⟩
   have fm:Below W6.heap.size W6 w7:=by rw [<- hw7];exact bN _ _
   have hr7:zaC w7 W6.heap.size RC (fun i => .bool (decide ((i:Int) ∈ ([]:List Int)))):=by
    rw [<- hw7,<- HCL.out]
    refine ⟨by simp,fun i hi => ⟨?_,by simp [go_sem]⟩⟩
    simp [go_sem,madeCells,hi,Nat.mod_one]
   rw [hw7]
   clear hw7
   clear cz c0 c1 c2 c3 c4 cf0 cf1 cf2 cf3 cf4 eRC
   obtain ⟨cz,c0,c1,c2,c3,c4,cf0,cf1,cf2,cf3,cf4⟩:=HC6.out.to fm
   go_wp2_with fail
   go_loopw [25,26] (fun st si ww => ∃ (j tm:Nat) (Lt:List Int),j<=nA/\st=.int .i64 (tm:Int)/\si=.int .i64 (j:Int)/\Below W6.heap.size W6 ww/\Hid (zaC ww W6.heap.size RC (fun i => .bool (decide ((i:Int) ∈ Lt))))/\Hid (∀ r,r ∈ Lt ↔ zck (A.take (min j n)) r)/\Hid ((tm:Int)=zbv (A.take (min j n)))/\tm<=j) (fun _ i _ => nA - (intOf i).toNat)
   case atStart =>
    exact ⟨0,0,[],Nat.zero_le _,rfl,rfl,fm,Lib.hid hr7,Lib.hid (fun r => by simp [zck]),Lib.hid (by simp [zbv]),Nat.le_refl _⟩
   case round =>
   obtain ⟨j,tm,Lt,hj,rfl,rfl,gb,Hrow,Hmem,Htm,htmj⟩:=hrel
   clear cz c0 c1 c2 c3 c4 cf0 cf1 cf2 cf3 cf4
   obtain ⟨cz,c0,c1,c2,c3,c4,cf0,cf1,cf2,cf3,cf4⟩:=HC6.out.to gb
   have hts:=Hrow.out.lt
   by_cases hjA:j<nA
   ·have hji:(j:Int)<(nA:Int):=by omega
    have hjl:j<A.length:=by rw [HnA.out];exact hjA
    obtain ⟨b,off,rfl,hA7⟩:=(HO2.out.to fq).nth hjl
    have hbb:b<W2.heap.size:=zj hA7.1
    have hbz:=hbZ.size
    have hneb:¬ (b=W6.heap.size):=by omega
    have hneT:¬ (w2.heap.size=W6.heap.size):=by have:=HC5.out.1;omega
    obtain ⟨s0,s1,s2,s3,_,i0,i1,i2,i3⟩:=hA7.to (bS hbZ gb)
    have hTo:=HTo.out _ (List.getElem_mem hjl)
    have hstep:=fun (h:j<n) (r:Int) => zjD (A:=A) hjl h (r:=r)
    have htstep:=fun (h:j<n) => zix (A:=A) (n:=n) hjl h
    obtain ⟨x,hx⟩:∃ x,A[j]=x:=⟨_,rfl⟩
    rw [hx] at s0 s1 hTo hstep htstep
    obtain ⟨op,tz,xa,xb,xq⟩:=x
    simp only at s0 s1 hTo hstep htstep
    have HTo1:=Lib.hid hTo
    have Hst:=Lib.hid hstep
    have Hts:=Lib.hid htstep
    clear hx hTo hstep htstep i0 i1 i2 i3 s2 s3
    by_cases hjn:j<n
    ·have hjn':(j:Int)<(n:Int):=by omega
     by_cases h10:op=10
     ·have v10:(op == 10)=true:=by simp [h10]
      have v8:(op == 8)=false:=by simp [h10]
      obtain ⟨hto0,hto1⟩:=HTo1.out h10
      obtain ⟨T,rfl⟩:=Int.eq_ofNat_of_zero_le hto0
      have hTR:T<RC:=by omega
      obtain ⟨rc,rf⟩:=Hrow.out.2 T hTR
      have HN1:=Hrow.out.set T (.bool true)
      have HE:=Lib.hid h10
      clear h10 hto0
      go_wp2_with fail
      go_roundw
      case rel =>
       refine ⟨j+1,tm,Lt++[(T:Int)],by omega,rfl,by go_num,gb.setCell (Nat.le_refl _) _,Lib.hid (HN1.cast (fun i _ => ?_)),Lib.hid (fun r => ?_),Lib.hid ?_,by omega⟩
       ·by_cases hi:i=T
        ·rw [if_pos hi,hi];congr 1;symm;exact decide_eq_true (List.mem_append_right _ (List.mem_singleton.2 rfl))
        ·rw [if_neg hi]
         congr 1
         exact decide_eq_decide.2 ⟨fun h => List.mem_append_left _ h,fun h => by
          rcases List.mem_append.1 h with h|h
          ·exact h
          ·have:=List.mem_singleton.1 h;omega⟩
       ·rw [Hst.out hjn r,List.mem_append,List.mem_singleton,Hmem.out r]
        exact or_congr Iff.rfl ⟨fun h => ⟨HE.out,h.symm⟩,fun h => h.2.symm⟩
       ·rw [Hts.out hjn,if_neg (by have:=HE.out;omega),Int.add_zero];exact Htm.out
      case measure => simp [intOf] <;> omega
     ·have v10:(op == 10)=false:=by simp [h10]
      have HE:=Lib.hid h10
      clear h10
      by_cases h8:op=8
      ·have v8:(op == 8)=true:=by simp [h8]
       have HE8:=Lib.hid h8
       clear h8
       go_wp2_with fail
       go_roundw
       case rel =>
        refine ⟨j+1,tm+1,Lt,by omega,by go_num,by go_num,gb,Hrow,Lib.hid (fun r => ?_),Lib.hid ?_,by omega⟩
        ·rw [Hst.out hjn r,Hmem.out r]
         exact ⟨.inl,fun h => h.elim id (fun k => absurd k.1 HE.out)⟩
        ·rw [Hts.out hjn,if_pos HE8.out,<- Htm.out];push_cast;rfl
       case measure => simp [intOf] <;> omega
      ·have v8:(op == 8)=false:=by simp [h8]
       have HE8:=Lib.hid h8
       clear h8
       go_wp2_with fail
       go_roundw
       case rel =>
        refine ⟨j+1,tm,Lt,by omega,rfl,by go_num,gb,Hrow,Lib.hid (fun r => ?_),Lib.hid ?_,by omega⟩
        ·rw [Hst.out hjn r,Hmem.out r]
         exact ⟨.inl,fun h => h.elim id (fun k => absurd k.1 HE.out)⟩
        ·rw [Hts.out hjn,if_neg HE8.out,Int.add_zero];exact Htm.out
       case measure => simp [intOf] <;> omega
    ·have hjn':¬ ((j:Int)<(n:Int)):=by omega
     have Hst':=Lib.hid (zjC (A:=A) hjn)
     have tail:∀ (b1 b2:Bool),(op == 10)=b1->(op == 8)=b2->True:=fun _ _ _ _ => trivial
     cases v10:(op == 10) <;> cases v8:(op == 8)
     all_goals
      go_wp2_with fail
      go_roundw
      case rel => exact ⟨j+1,tm,Lt,by omega,rfl,by go_num,gb,Hrow,Lib.hid (by rw [Hst'.out];exact Hmem.out),Lib.hid (by rw [Hst'.out];exact Htm.out),by omega⟩
      case measure => simp [intOf] <;> omega
   ·obtain rfl:j=nA:=by omega
    have hji:¬ ((j:Int)<(j:Int)):=by omega
    have Hmin:=Lib.hid (show min j n=n by omega)
    have Hmem2:=Lib.hid (show ∀ r,r ∈ Lt ↔ zck (A.take n) r by have h:=Hmem.out;rw [Hmin.out] at h;exact h)
    obtain rfl:t2=(tm:Int):=by rw [Ht2.out,Htm.out,Hmin.out]
    obtain ⟨Wa,hWa⟩:∃ Wa,Wa=wr:=⟨_,rfl⟩
    subst hWa
    have hj2:=HJ2.out.to gb
    obtain ⟨p0,p1,p2,_⟩:=hj2
    have Hq2e:=Lib.hid Hq2l.out
    have hlq:((q2.length:Int) != (RC:Int))=false:=by have:=Hq2l.out;simp;omega
    go_wp2_with fail
    clear p0 p1 p2 cz c0 c1 c2 c3 c4 cf0 cf1 cf2 cf3 cf4
    go_loopw [27] (fun si ww => ∃ m:Nat,m<=RC/\si=.int .i64 (m:Int)/\Below Wa.heap.size Wa ww) (fun i _ => RC - (intOf i).toNat)
    case atStart => exact ⟨0,Nat.zero_le _,rfl,Below.refl _ _⟩
    case round =>
    obtain ⟨m,hm,rfl,gb2⟩:=hrel
    by_cases hmR:m<RC
    ·have hmi:(m:Int)<(RC:Int):=by omega
     obtain ⟨rc,rf⟩:=(Hrow.out.to gb2).2 m hmR
     by_cases hml:(m:Int) ∈ Lt
     ·have ed:decide ((m:Int) ∈ Lt)=true:=decide_eq_true hml
      simp only [ed] at rc
      clear ed hml
      go_wp2_with fail
      go_region
      all_goals
       go_wp2_with fail
       go_roundw
       case rel => exact ⟨m+1,by omega,by go_num,gb2.drew⟩
       case measure => simp [intOf] <;> omega
     ·have ed:decide ((m:Int) ∈ Lt)=false:=decide_eq_false hml
      simp only [ed] at rc
      have hnt:¬ zck (A.take n) (m:Int):=fun h => hml ((Hmem2.out _).2 h)
      have hmq:m<q2.length:=by rw [Hq2e.out];exact hmR
      have hq0:=HJ.out m hmq hnt
      obtain ⟨bq,oq,ha6,hA3⟩:=((Hq2r.out.to gb).to gb2).nth hmq
      subst ha6
      rw [hq0] at hA3
      obtain ⟨vn,vd,s0,s1,s2,hn,hd⟩:=hA3
      have HN0:=Lib.hid hn
      have HD0:=Lib.hid hd
      have hj2:=(HJ2.out.to gb).to gb2
      obtain ⟨p0,p1,p2,_⟩:=hj2
      have HS8:Hid (∀ W',Below wr.heap.size wr W'->(W'.cell? ⟨W6.heap.size,m,none⟩=some (.bool false)/\W'.cell? ⟨w6.heap.size,2,none⟩=some (.slice (some ⟨bq,oq,none⟩) q2.length c6_)/\W'.cell? ⟨bq,oq+m*3,none⟩=some (.bool (zi 0).ng)/\W'.cell? ⟨bq,oq+m*3+1,none⟩=some vn/\W'.cell? ⟨bq,oq+m*3+2,none⟩=some vd)):=fun W' hb =>
       ⟨(hb.cell (p:=⟨W6.heap.size,m,none⟩) (zj rc)).trans rc,(hb.cell (p:=⟨w6.heap.size,2,none⟩) (zj p2)).trans p2,(hb.cell (p:=⟨bq,oq+m*3,none⟩) (zj s0)).trans s0,(hb.cell (p:=⟨bq,oq+m*3+1,none⟩) (zj s0)).trans s1,(hb.cell (p:=⟨bq,oq+m*3+2,none⟩) (zj s0)).trans s2⟩
      obtain ⟨bz,hbz⟩:∃ z,(zi 0).ng=z:=⟨_,rfl⟩
      have HS9:Hid (∀ W',Below wr.heap.size wr W'->(W'.cell? ⟨W6.heap.size,m,none⟩=some (.bool false)/\W'.cell? ⟨w6.heap.size,2,none⟩=some (.slice (some ⟨bq,oq,none⟩) q2.length c6_)/\W'.cell? ⟨bq,oq+m*3,none⟩=some (.bool bz)/\W'.cell? ⟨bq,oq+m*3+1,none⟩=some vn/\W'.cell? ⟨bq,oq+m*3+2,none⟩=some vd)):=fun W' hb => by
       obtain ⟨k0,k1,k2,k3,k4⟩:=HS8.out W' hb
       rw [hbz] at k2
       exact ⟨k0,k1,k2,k3,k4⟩
      have HBZ:=Lib.hid hbz
      have hmq':(m:Int)<(q2.length:Int):=by omega
      clear ed hml hq0 hn hd hnt hbz p0 p1 p2 s0 s1 s2 rc
      clear HS8
      have gb7:Below wr.heap.size wr wr:=Below.refl _ _
      obtain ⟨m0,m1,m2,m3,m4⟩:=HS9.out _ gb7
      go_wp2_with fail
      go_region_held3 (fun W' => W'.cell? ⟨W6.heap.size,m,none⟩=some (.bool false)/\W'.cell? ⟨w6.heap.size,2,none⟩=some (.slice (some ⟨bq,oq,none⟩) q2.length c6_)/\W'.cell? ⟨bq,oq+m*3,none⟩=some (.bool bz)/\W'.cell? ⟨bq,oq+m*3+1,none⟩=some vn/\W'.cell? ⟨bq,oq+m*3+2,none⟩=some vd) (first|(with_reducible exact HS9.out _ gb7)|((with_reducible refine HS9.out _ ?_);repeat' (first|(with_reducible exact gb7)|(with_reducible refine Below.drew ?_)|(with_reducible refine bS ?_ (bN _ _))|omega))) (first
       | (go_at_call 24;(refine zf x7 (by with_reducible first|exact Below.refl _ _|exact (Below.refl _ _).drew|exact bN _ _) ?_);intro V8 kE fp;have gb7:=bS gb7 fp;(with_reducible refine (ziT _ HBZ.out (HN0.out.to gb7) (HD0.out.to gb7) (g7.to fp)).mono ?_);rintro e x8 ⟨rfl,iS⟩;have gb7:=bS gb7 iS;obtain ⟨m0,m1,m2,m3,m4⟩:=HS9.out _ gb7)
       | (go_at_call 25;(refine zf wr (by with_reducible first|exact (Below.refl _ _).drew|exact Below.refl _ _|exact (bN _ _).drew|exact bN _ _) ?_);intro V7 kD fI;have gb7:=bS gb7 fI;(with_reducible refine (zfq 0 0 _ rfl (by omega) (by omega)).mono ?_);rintro e x7 ⟨ng7,a7_,n7_,c7_,p7_,m7_,k7_,rfl,g7,hb7'⟩;have gb7:=bS gb7 hb7';obtain ⟨m0,m1,m2,m3,m4⟩:=HS9.out _ gb7))
      all_goals
       go_wp2_with fail
       go_roundw
       case rel => exact ⟨m+1,by omega,by go_num,bS gb2 gb7⟩
       case measure => simp [intOf] <;> omega
    ·obtain rfl:m=RC:=by omega
     have hmi:¬ ((m:Int)<(m:Int)):=by omega
     have hbE:=bS gb gb2
     have hbF:=bS hbA hbE
     have HcC7:=Lib.hid (HcC6.out.to hbE)
     have HcD7:=Lib.hid (HcD6.out.to hbE)
     have HS7:Hid (∀ W',Below wr.heap.size wr W'->(W'.cell? ⟨w2.heap.size+1,0,none⟩=some (.int .i64 (I:Int))/\W'.cell? ⟨w2.heap.size+1,1,none⟩=some (.int .i64 (R:Int))/\W'.cell? ⟨w2.heap.size+1,2,none⟩=some (.int .i64 (I:Int))/\W'.cell? ⟨w2.heap.size+1,3,none⟩=some (.int .i64 (G:Int))/\W'.cell? ⟨w2.heap.size+1,4,none⟩=some (.slice av n cv)/\W'.cell? ⟨w2.heap.size,0,none⟩=some (.int .i64 (I:Int))/\W'.cell? ⟨w2.heap.size,1,none⟩=some (.int .i64 (R:Int))/\W'.cell? ⟨w2.heap.size,2,none⟩=some (.int .i64 (I:Int))/\W'.cell? ⟨w2.heap.size,3,none⟩=some (.int .i64 (G:Int))/\W'.cell? ⟨w2.heap.size,4,none⟩=some (.slice av j cv)/\W'.cell? ⟨w5.heap.size,2,none⟩=some (.slice a5_ q1.length c5_)/\W'.cell? ⟨w5.heap.size+1,0,none⟩=some (.int .i64 k1)/\W'.cell? ⟨w5.heap.size+1,1,none⟩=some (.int .i64 t1)/\W'.cell? ⟨w6.heap.size,2,none⟩=some (.slice a6_ q2.length c6_)/\W'.cell? ⟨w6.heap.size+1,0,none⟩=some (.int .i64 (n:Int))/\W'.cell? ⟨w6.heap.size+1,1,none⟩=some (.int .i64 (tm:Int)))):=fun W' hb => by
      have hbb:=bS hbE hb
      obtain ⟨_,d0,d1,d2,d3,d4,_⟩:=HD6.out.to hbb
      obtain ⟨_,c0,c1,c2,c3,c4,_⟩:=HC6.out.to hbb
      obtain ⟨p0,p1,p2,_⟩:=HJ1.out.to hbb
      obtain ⟨r0,r1,_⟩:=HK1.out.to hbb
      obtain ⟨s0,s1,s2,_⟩:=HJ2.out.to hbb
      obtain ⟨v0,v1,_⟩:=HK2.out.to hbb
      exact ⟨d0,d1,d2,d3,d4,c0,c1,c2,c3,c4,p2,r0,r1,s2,v0,v1⟩
     have hle:decide (g2<=g1)=true:=decide_eq_true hg21
     have gb7:Below wr.heap.size wr wr:=Below.refl _ _
     obtain ⟨m0,m1,m2,m3,m4,m5,m6,m7,m8,m9,m10,m11,m12,m13,m14,m15⟩:=HS7.out _ gb7
     by_cases ho:o1=0
     ·have hk:=Hk1.out ho
      have vo:(o1 == 0)=true:=by simp [ho]
      have vk:((k1:Int) != (j:Int))=false:=by simp [hk.1]
      have vl:((q1.length:Int) != (q2.length:Int))=false:=by have:=hk.2;have:=Hq2l.out;simp;omega
      clear ho hk
      go_wp2_with fail
      go_region_held3 (fun W' => W'.cell? ⟨w2.heap.size+1,0,none⟩=some (.int .i64 (I:Int))/\W'.cell? ⟨w2.heap.size+1,1,none⟩=some (.int .i64 (R:Int))/\W'.cell? ⟨w2.heap.size+1,2,none⟩=some (.int .i64 (I:Int))/\W'.cell? ⟨w2.heap.size+1,3,none⟩=some (.int .i64 (G:Int))/\W'.cell? ⟨w2.heap.size+1,4,none⟩=some (.slice av n cv)/\W'.cell? ⟨w2.heap.size,0,none⟩=some (.int .i64 (I:Int))/\W'.cell? ⟨w2.heap.size,1,none⟩=some (.int .i64 (R:Int))/\W'.cell? ⟨w2.heap.size,2,none⟩=some (.int .i64 (I:Int))/\W'.cell? ⟨w2.heap.size,3,none⟩=some (.int .i64 (G:Int))/\W'.cell? ⟨w2.heap.size,4,none⟩=some (.slice av j cv)/\W'.cell? ⟨w5.heap.size,2,none⟩=some (.slice a5_ q1.length c5_)/\W'.cell? ⟨w5.heap.size+1,0,none⟩=some (.int .i64 k1)/\W'.cell? ⟨w5.heap.size+1,1,none⟩=some (.int .i64 t1)/\W'.cell? ⟨w6.heap.size,2,none⟩=some (.slice a6_ q2.length c6_)/\W'.cell? ⟨w6.heap.size+1,0,none⟩=some (.int .i64 (n:Int))/\W'.cell? ⟨w6.heap.size+1,1,none⟩=some (.int .i64 (tm:Int))) (first|(with_reducible exact HS7.out _ gb7)|((with_reducible refine HS7.out _ ?_);repeat' (first|(with_reducible exact gb7)|(with_reducible refine Below.drew ?_)|(with_reducible refine bS ?_ (bN _ _))|omega))) (first
       | (go_at_call 16;(refine zf x9 (by with_reducible first|exact Below.refl _ _|exact bN _ _) ?_);intro V10 jx fo;have gb7:=bS gb7 fo;(with_reducible refine (zbZ _ _ _ (HcC7.out.to gb7) (Hs6.out.upF (by decide)) g1 Hg1.out).mono ?_);rintro e x10 ⟨rfl,fU⟩;have gb7:=bS gb7 fU;obtain ⟨m0,m1,m2,m3,m4,m5,m6,m7,m8,m9,m10,m11,m12,m13,m14,m15⟩:=HS7.out _ gb7)
       | (go_at_call 16;(refine zf x8 (by with_reducible first|exact Below.refl _ _|exact bN _ _) ?_);intro V9 kT fW;have gb7:=bS gb7 fW;(with_reducible refine (zbZ _ _ _ (HcD7.out.to gb7) (Hsd.out.upF (by decide)) g2 Hg2.out).mono ?_);rintro e x9 ⟨rfl,fG⟩;have gb7:=bS gb7 fG;obtain ⟨m0,m1,m2,m3,m4,m5,m6,m7,m8,m9,m10,m11,m12,m13,m14,m15⟩:=HS7.out _ gb7)
       | (go_at_call 14;(refine zf x7 (by with_reducible first|exact Below.refl _ _|exact bN _ _) ?_);intro V8 kE fp;have gb7:=bS gb7 fp;(with_reducible refine (zaL _ _ _ (HcD7.out.to gb7) (Hsd.out.upF (by decide)) true HRd.out).mono ?_);rintro e x8 ⟨rfl,iS⟩;have gb7:=bS gb7 iS;obtain ⟨m0,m1,m2,m3,m4,m5,m6,m7,m8,m9,m10,m11,m12,m13,m14,m15⟩:=HS7.out _ gb7)
       | (go_at_call 14;(refine zf wr (by with_reducible first|exact (Below.refl _ _).drew|exact (bN _ _).drew) ?_);intro V7 kD fI;have gb7:=bS gb7 fI;(with_reducible refine (zaL _ _ _ (HcC7.out.to gb7) (Hs6.out.upF (by decide)) true HR.out).mono ?_);rintro e x7 ⟨rfl,hb7'⟩;have gb7:=bS gb7 hb7';obtain ⟨m0,m1,m2,m3,m4,m5,m6,m7,m8,m9,m10,m11,m12,m13,m14,m15⟩:=HS7.out _ gb7))
      go_wp2_with fail
      go_ret
      exact ⟨rfl,bS hbF gb7⟩
     ·have vo:(o1 == 0)=false:=by simp [ho]
      clear ho
      go_wp2_with fail
      go_region_held3 (fun W' => W'.cell? ⟨w2.heap.size+1,0,none⟩=some (.int .i64 (I:Int))/\W'.cell? ⟨w2.heap.size+1,1,none⟩=some (.int .i64 (R:Int))/\W'.cell? ⟨w2.heap.size+1,2,none⟩=some (.int .i64 (I:Int))/\W'.cell? ⟨w2.heap.size+1,3,none⟩=some (.int .i64 (G:Int))/\W'.cell? ⟨w2.heap.size+1,4,none⟩=some (.slice av n cv)/\W'.cell? ⟨w2.heap.size,0,none⟩=some (.int .i64 (I:Int))/\W'.cell? ⟨w2.heap.size,1,none⟩=some (.int .i64 (R:Int))/\W'.cell? ⟨w2.heap.size,2,none⟩=some (.int .i64 (I:Int))/\W'.cell? ⟨w2.heap.size,3,none⟩=some (.int .i64 (G:Int))/\W'.cell? ⟨w2.heap.size,4,none⟩=some (.slice av j cv)/\W'.cell? ⟨w5.heap.size,2,none⟩=some (.slice a5_ q1.length c5_)/\W'.cell? ⟨w5.heap.size+1,0,none⟩=some (.int .i64 k1)/\W'.cell? ⟨w5.heap.size+1,1,none⟩=some (.int .i64 t1)/\W'.cell? ⟨w6.heap.size,2,none⟩=some (.slice a6_ q2.length c6_)/\W'.cell? ⟨w6.heap.size+1,0,none⟩=some (.int .i64 (n:Int))/\W'.cell? ⟨w6.heap.size+1,1,none⟩=some (.int .i64 (tm:Int))) (first|(with_reducible exact HS7.out _ gb7)|((with_reducible refine HS7.out _ ?_);repeat' (first|(with_reducible exact gb7)|(with_reducible refine Below.drew ?_)|(with_reducible refine bS ?_ (bN _ _))|omega))) (first
       | (go_at_call 16;(refine zf x9 (by with_reducible first|exact Below.refl _ _|exact bN _ _) ?_);intro V10 jx fo;have gb7:=bS gb7 fo;(with_reducible refine (zbZ _ _ _ (HcC7.out.to gb7) (Hs6.out.upF (by decide)) g1 Hg1.out).mono ?_);rintro e x10 ⟨rfl,fU⟩;have gb7:=bS gb7 fU;obtain ⟨m0,m1,m2,m3,m4,m5,m6,m7,m8,m9,m10,m11,m12,m13,m14,m15⟩:=HS7.out _ gb7)
       | (go_at_call 16;(refine zf x8 (by with_reducible first|exact Below.refl _ _|exact bN _ _) ?_);intro V9 kT fW;have gb7:=bS gb7 fW;(with_reducible refine (zbZ _ _ _ (HcD7.out.to gb7) (Hsd.out.upF (by decide)) g2 Hg2.out).mono ?_);rintro e x9 ⟨rfl,fG⟩;have gb7:=bS gb7 fG;obtain ⟨m0,m1,m2,m3,m4,m5,m6,m7,m8,m9,m10,m11,m12,m13,m14,m15⟩:=HS7.out _ gb7)
       | (go_at_call 14;(refine zf x7 (by with_reducible first|exact Below.refl _ _|exact bN _ _) ?_);intro V8 kE fp;have gb7:=bS gb7 fp;(with_reducible refine (zaL _ _ _ (HcD7.out.to gb7) (Hsd.out.upF (by decide)) true HRd.out).mono ?_);rintro e x8 ⟨rfl,iS⟩;have gb7:=bS gb7 iS;obtain ⟨m0,m1,m2,m3,m4,m5,m6,m7,m8,m9,m10,m11,m12,m13,m14,m15⟩:=HS7.out _ gb7)
       | (go_at_call 14;(refine zf wr (by with_reducible first|exact (Below.refl _ _).drew|exact (bN _ _).drew) ?_);intro V7 kD fI;have gb7:=bS gb7 fI;(with_reducible refine (zaL _ _ _ (HcC7.out.to gb7) (Hs6.out.upF (by decide)) true HR.out).mono ?_);rintro e x7 ⟨rfl,hb7'⟩;have gb7:=bS gb7 hb7';obtain ⟨m0,m1,m2,m3,m4,m5,m6,m7,m8,m9,m10,m11,m12,m13,m14,m15⟩:=HS7.out _ gb7))
      go_wp2_with fail
      go_ret
      exact ⟨rfl,bS hbF gb7⟩
  ·obtain ⟨rfl,rfl⟩:=Hno.out h0
   clear h0
   go_enter Tryz.func5,Tryz.ntmps5
   go_wp2_with fail
   refine (zdE _).mono ?_
   rintro e w1 ⟨rfl,aX⟩
   go_wp2_with fail
   refine (HMd.out _ aX).mono ?_
   rintro e w2 ⟨v2,rfl,hO2,aR⟩
   have dp:=bS aX aR
   obtain ⟨av,cv,hv2,_⟩:=hO2.form
   rw [HnA.out] at hv2
   subst hv2
   have hrc:=hO2.rdC
   have HO2:=Lib.hid hrc
   have hcv:nA<=cv:=by
    obtain ⟨a',cap',hv,h1,_⟩:=id hrc
    injection hv with _ e2 e3
    omega
   have hncv:(n:Int)<=(cv:Int):=by omega
   clear hO2 hrc
   have htn:=Htn.out
   go_upto_region 8 with fail
   obtain ⟨W2,ds⟩:∃ W2,(w2.alloc (.cells #[.int .i64 (I:Int),.int .i64 (R:Int),.int .i64 (I:Int),.int .i64 (G:Int),.slice av nA cv] 24)).alloc (.cells #[.int .i64 (I:Int),.int .i64 (R:Int),.int .i64 (I:Int),.int .i64 (G:Int),.slice av n cv] 24)=W2:=⟨_,rfl⟩
   have fq:Below w2.heap.size w2 W2:=by rw [<- ds];exact bS (bN _ _) (bN _ _)
   have hC5:B5 W2 w2.heap.size (.int .i64 (I:Int)) (.int .i64 (R:Int)) (.int .i64 (I:Int)) (.int .i64 (G:Int)) (.slice av nA cv):=by
    rw [<- ds]
    unfold B5
    and_intros <;> first|(simp [go_sem];done)|(simp [go_sem];omega)
   have hD5:B5 W2 (w2.heap.size+1) (.int .i64 (I:Int)) (.int .i64 (R:Int)) (.int .i64 (I:Int)) (.int .i64 (G:Int)) (.slice av n cv):=by
    rw [<- ds]
    unfold B5
    and_intros <;> first|(simp [go_sem];done)|(simp [go_sem];omega)
   rw [ds]
   clear ds
   have HC5:=Lib.hid hC5
   have HD5:=Lib.hid hD5
   have du:=bS dp fq
   have hcC:IsC W2 ⟨(I:Int),(R:Int),(I:Int),(G:Int),A⟩ (.slice av nA cv):=⟨HO2.out.to fq,⟨by show _<=(I:Int);omega,by show (I:Int)<_;omega⟩,⟨by show _<=(R:Int);omega,by show (R:Int)<_;omega⟩,⟨by show _<=(I:Int);omega,by show (I:Int)<_;omega⟩,⟨by show _<=(G:Int);omega,by show (G:Int)<_;omega⟩⟩
   have hcD:IsC W2 ⟨(I:Int),(R:Int),(I:Int),(G:Int),A.take n⟩ (.slice av n cv):=⟨(HO2.out.to fq).take (by rw [HnA.out];exact hnn),hcC.2⟩
   have HcC:=Lib.hid hcC
   have HcD:=Lib.hid hcD
   clear hcC hcD hC5 hD5 htn
   obtain ⟨cz,c0,c1,c2,c3,c4,cf0,cf1,cf2,cf3,cf4⟩:=HC5.out
   go_wp2_with fail
   refine (HPt.out _ du).mono ?_
   rintro e w3 ⟨a3_,c3_,rfl,g3,bZ⟩
   clear cz c0 c1 c2 c3 c4 cf0 cf1 cf2 cf3 cf4
   obtain ⟨cz,c0,c1,c2,c3,c4,cf0,cf1,cf2,cf3,cf4⟩:=HC5.out.to bZ
   go_wp2_with fail
   refine (HRun1.out _ _ _ (HcC.out.to bZ) g3).mono ?_
   rintro e w5 ⟨rwa,cla,a5_,c5_,rfl,g5,cQ⟩
   clear cz c0 c1 c2 c3 c4 cf0 cf1 cf2 cf3 cf4
   have fK:=bS bZ cQ
   go_upto_region 10 with fail
   obtain ⟨W5,cX⟩:∃ W5,(w5.alloc (.cells #[.int .i64 rwa,.int .i64 cla,.slice a5_ q1.length c5_] 32)).alloc (.cells #[.int .i64 k1,.int .i64 t1] 34)=W5:=⟨_,rfl⟩
   have hb_W5:Below w5.heap.size w5 W5:=by rw [<- cX];exact bS (bN _ _) (bN _ _)
   have tJ:Tri W5 w5.heap.size (.int .i64 rwa) (.int .i64 cla) (.slice a5_ q1.length c5_):=by rw [<- cX];exact (ze _ _ _ _ _).alloc _
   have tK:Duo W5 (w5.heap.size+1) (.int .i64 k1) (.int .i64 t1):=by rw [<- cX];exact zaD _ _ _ _ _
   rw [cX]
   clear cX
   have hbW:=bS fK hb_W5
   obtain ⟨dz,d0,d1,d2,d3,d4,df0,df1,df2,df3,df4⟩:=HD5.out.to hbW
   go_wp2_with fail
   refine (HRun2.out _ _ _ (HcD.out.to hbW) ((g3.to cQ).to hb_W5)).mono ?_
   rintro e w6 ⟨rwb,clb,a6_,c6_,rfl,g6,dr⟩
   clear dz d0 d1 d2 d3 d4 df0 df1 df2 df3 df4
   go_upto_region 11 with fail
   obtain ⟨W6,fl⟩:∃ W6,(w6.alloc (.cells #[.int .i64 rwb,.int .i64 clb,.slice a6_ q2.length c6_] 32)).alloc (.cells #[.int .i64 k2,.int .i64 t2] 34)=W6:=⟨_,rfl⟩
   have hb_W6:Below w6.heap.size w6 W6:=by rw [<- fl];exact bS (bN _ _) (bN _ _)
   have tJ2:Tri W6 w6.heap.size (.int .i64 rwb) (.int .i64 clb) (.slice a6_ q2.length c6_):=by rw [<- fl];exact (ze _ _ _ _ _).alloc _
   have tK2:Duo W6 (w6.heap.size+1) (.int .i64 k2) (.int .i64 t2):=by rw [<- fl];exact zaD _ _ _ _ _
   rw [fl]
   clear fl
   have hbX:=bS dr hb_W6
   have hbZ:=bS hbW hbX
   have hbA:=bS du hbZ
   go_wp2_with fail
   go_ret
   exact ⟨rfl,bS hbA (Below.refl _ _)⟩
 ·have u16:decide ((16:Int)<(N:Int))=true:=decide_eq_true (by omega)
  clear hl hs
  go_enter Tryz.func5,Tryz.ntmps5
  go_wp2_with fail
  refine (zdE _).mono ?_
  rintro e w1 ⟨rfl,aX⟩
  go_wp2_with fail
  go_ret
  exact ⟨rfl,aX⟩

end Go.Proofs.YtkjcdnlpjldhaaaGreat

