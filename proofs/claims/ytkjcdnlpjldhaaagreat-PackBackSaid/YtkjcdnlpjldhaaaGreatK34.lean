/-
  The texts PackRefD, merged.
-/
import Derived.Test.YtkjcdnlpjldhaaaGreatK25
import Derived.Test.YtkjcdnlpjldhaaaGreatK33
import Derived.Deep.CutRange
set_option linter.unusedVariables false
set_option linter.unusedSimpArgs false
set_option maxRecDepth 100000
set_option maxHeartbeats 400000000
namespace Go.Proofs.YtkjcdnlpjldhaaaGreat
open Go.RowKit Tw
attribute [local go_sem ↓] Go.wp_at_zero Go.wp_at_succ

theorem rs_new {w:World} {a:Option Addr} {m c:Nat} {l:List Nat} (h:RdB w (.slice a m c) l) (hl:l.length<=4000) (o:Obj) (t:TypeId) :
  RS (w.heap.size+2) (w.heap.size+1) ((w.alloc o).alloc (.cells #[.slice a m c,.int .i64 0,.bool false] t)) l (some l):=by
 have hb:Below w.heap.size w ((w.alloc o).alloc (.cells #[.slice a m c,.int .i64 0,.bool false] t)):=bS (bN _ _) (bN _ _)
 have hlt:∀ p,a=some p->0<m->p.block<w.heap.size:=fun p e h0 => by
  obtain ⟨_,a',c',e',_,_,h3⟩:=h
  injection e' with e1 e2 e3
  subst e1 e2
  obtain ⟨b,off,e4,k⟩:=h3 0 (by omega)
  rw [e] at e4
  injection e4 with e4
  rw [e4]
  exact zm k
 refine ⟨0,false,⟨a,m,c,by simp [go_sem],by simp [go_sem],by simp [go_sem],by simp [go_sem],by simp [go_sem],h.to hb,fun p n c' e h0 => ?_,by omega,by simp,fun p e h0 => by have:=hlt p e h0;omega,Nat.zero_le _,hl⟩,rfl,rfl⟩
 injection e with e1 e2 e3
 have:=hlt p e1 (by omega)
 omega

theorem HB.new {w w1:World} {P R:Nat} {l:List Nat} {st:Option (List Nat)} {v1:Int} {t:TypeId} (h1:RS (P+2) R w1 l st) (h2:Below P w w1) (h3:B5 w1 P (.int .i64 0) (.int .i64 0) (.int .i64 0) (.int .i64 0) (.slice none 0 0)) (hR:R=P+1) (hP:P=w.heap.size) :
  HB w (w1.alloc (.cells #[.int .i64 v1,.int .i64 0,.int .i64 0,.int .i64 0,.slice none 0 0] t)) P w1.heap.size R l st v1 0 0 0 (.slice none 0 0):=by
 have hb:=bN w1 (.cells #[.int .i64 v1,.int .i64 0,.int .i64 0,.int .i64 0,.slice none 0 0] t)
 have hs:=h1.size.2
 refine ⟨h1.to hb,h2.trans (hb.mono (by omega)),h3.to hb,?_,hR,hs,hP⟩
 unfold B5
 and_intros <;> first|(simp [go_sem];done)|(simp [go_sem];omega)

theorem zlo {g:Nat} {z:Int} {b:Bool} (h:(g:Int)=z) (h2:(z == 1)=b):decide (g=1)=b:=by
 subst h2
 by_cases k:g=1
 ·have:z=1:=by omega
  rw [this,k];rfl
 ·have k2:¬ (z=1):=by omega
  rw [decide_eq_false k]
  exact (beq_eq_false_iff_ne.2 k2).symm

theorem HB.zero {w ww:World} {P C R:Nat} {l:List Nat} {st:Option (List Nat)} {v1 v2 v3 v4:Int} {row:Value} (h:HB w ww P C R l st v1 v2 v3 v4 row) (u0 u1 u2 u3 u4:Value) :
  B5 (((((ww.setCell ⟨P,0,none⟩ u0).setCell ⟨P,1,none⟩ u1).setCell ⟨P,2,none⟩ u2).setCell ⟨P,3,none⟩ u3).setCell ⟨P,4,none⟩ u4) P u0 u1 u2 u3 u4 /\
  Below w.heap.size w (((((ww.setCell ⟨P,0,none⟩ u0).setCell ⟨P,1,none⟩ u1).setCell ⟨P,2,none⟩ u2).setCell ⟨P,3,none⟩ u3).setCell ⟨P,4,none⟩ u4):=by
 obtain ⟨h1,h2,h3,h4,h5,h6,h7⟩:=h
 rw [<- h7]
 exact ⟨h3.put5' _ _ _ _ _,h2.trans (zic ww P P u0 u1 u2 u3 u4 (Nat.le_refl _))⟩

theorem zeM (v:Value) (l:List Nat) (w:World) (h:RdB w v l) (hl:l.length<=4000) :
  Calls Tryz.prog 30 #[v] w (zlm w (zC l)):=by
 obtain ⟨a,m,c,rfl,Hm,hmc,hcm⟩:=h.open
 have H:=Lib.hid h
 have Hl:=Lib.hid hl
 clear h hl
 go_enter Tryz.func30,Tryz.ntmps30
 go_wp2_with fail
 obtain ⟨W0,an⟩:∃ W0,(w.alloc (.cells #[.int .i64 0,.int .i64 0,.int .i64 0,.int .i64 0,.slice none 0 0] 24)).alloc (.cells #[.slice a m c,.int .i64 0,.bool false] 108)=W0:=⟨_,rfl⟩
 have dE:Below w.heap.size w W0:=by rw [<- an];exact bS (bN _ _) (bN _ _)
 have fF:W0.heap.size=w.heap.size+2:=by rw [<- an];simp
 have hR0:RS (w.heap.size+2) (w.heap.size+1) W0 l (some l):=by rw [<- an];exact rs_new H.out Hl.out _ _
 have hC0:B5 W0 w.heap.size (.int .i64 0) (.int .i64 0) (.int .i64 0) (.int .i64 0) (.slice none 0 0):=by
  rw [<- an]
  unfold B5
  and_intros <;> first|(simp [go_sem];done)|(simp [go_sem];omega)
 rw [an]
 clear an
 obtain ⟨R,hRr⟩:∃ R,w.heap.size+1=R:=⟨_,rfl⟩
 obtain ⟨P,hP⟩:∃ P,w.heap.size=P:=⟨_,rfl⟩
 rw [hRr] at hR0
 rw [hP] at dE hC0 hR0 fF hRr
 rw [hP,hRr]
 refine (zR _ _ l _ _ hR0).mono ?_
 rintro e w1 ⟨hg1,v1,rfl,hv1,hR1,hx1⟩
 have HX1:=Lib.hid (show Was ((some l).bind zc) v1 from hx1)
 have HI:=Lib.hid (HB.new (st:=nx (some l)) (v1:=(v1:Int)) (t:=24) hR1 (dE.grown hg1 (by omega) (fun q e => by injection e with e;omega)) (hC0.grown hg1 (fun e => by injection e with e;omega)) hRr.symm hP.symm)
 have Hv1:=Lib.hid hv1
 clear hg1 hR1 hx1 dE hC0 fF hR0 hRr hP hv1
 go_upto_region 3 with fail
 obtain ⟨C,hCC⟩:∃ C,w1.heap.size=C:=⟨_,rfl⟩
 obtain ⟨W1,aO⟩:∃ W1,w1.alloc (.cells #[.int .i64 (v1:Int),.int .i64 0,.int .i64 0,.int .i64 0,.slice none 0 0] 24)=W1:=⟨_,rfl⟩
 rw [aO,hCC] at HI
 rw [aO,hCC]
 clear aO hCC
 go_wp2_with fail
 refine (zR _ _ l _ _ HI.out.1).mono ?_
 rintro e w2 ⟨hg,v2,rfl,hv,hR,hx⟩
 have HX2:=Lib.hid (show Was ((nx (some l)).bind zc) v2 from hx)
 have HI2:=Lib.hid (HI.out.rd (st':=nx (nx (some l))) hg hR)
 have Hv2:=Lib.hid hv
 clear HI hg hR hx hv
 obtain ⟨cz,c0_,c1_,c2_,c3_,c4_,cf0,cf1,cf2,cf3,cf4⟩:=HI2.out.2.2.2.1
 go_upto_region 4 with fail
 clear cz c0_ c1_ c2_ c3_ c4_ cf0 cf1 cf2 cf3 cf4
 obtain ⟨W2,dp⟩:∃ W2,w2.setCell ⟨C,1,none⟩ (.int .i64 (v2:Int))=W2:=⟨_,rfl⟩
 have HI:=Lib.hid (HI2.out.set1 (v2:Int))
 rw [dp] at HI
 rw [dp]
 clear dp HI2
 go_wp2_with fail
 refine (zR _ _ l _ _ HI.out.1).mono ?_
 rintro e w3 ⟨hg,v3,rfl,hv,hR,hx⟩
 have HX3:=Lib.hid (show Was ((nx (nx (some l))).bind zc) v3 from hx)
 have HI2:=Lib.hid (HI.out.rd (st':=nx (nx (nx (some l)))) hg hR)
 have Hv3:=Lib.hid hv
 clear HI hg hR hx hv
 obtain ⟨cz,c0_,c1_,c2_,c3_,c4_,cf0,cf1,cf2,cf3,cf4⟩:=HI2.out.2.2.2.1
 go_upto_region 5 with fail
 clear cz c0_ c1_ c2_ c3_ c4_ cf0 cf1 cf2 cf3 cf4
 obtain ⟨W2,dp⟩:∃ W2,w3.setCell ⟨C,2,none⟩ (.int .i64 (v3:Int))=W2:=⟨_,rfl⟩
 have HI:=Lib.hid (HI2.out.set2 (v3:Int))
 rw [dp] at HI
 rw [dp]
 clear dp HI2
 go_wp2_with fail
 refine (zR _ _ l _ _ HI.out.1).mono ?_
 rintro e w4 ⟨hg,v4,rfl,hv,hR,hx⟩
 have HX4:=Lib.hid (show Was ((nx (nx (nx (some l)))).bind zc) v4 from hx)
 have HI2:=Lib.hid (HI.out.rd (st':=nx (nx (nx (nx (some l))))) hg hR)
 have Hv4:=Lib.hid hv
 clear HI hg hR hx hv
 obtain ⟨cz,c0_,c1_,c2_,c3_,c4_,cf0,cf1,cf2,cf3,cf4⟩:=HI2.out.2.2.2.1
 go_upto_region 6 with fail
 clear cz c0_ c1_ c2_ c3_ c4_ cf0 cf1 cf2 cf3 cf4
 obtain ⟨W2,dp⟩:∃ W2,w4.setCell ⟨C,3,none⟩ (.int .i64 (v4:Int))=W2:=⟨_,rfl⟩
 have HI:=Lib.hid (HI2.out.set3 (v4:Int))
 rw [dp] at HI
 rw [dp]
 clear dp HI2
 go_wp2_with fail
 refine (zR _ _ l _ _ HI.out.1).mono ?_
 rintro e w5 ⟨hg,n,rfl,hv5,hR,hx⟩
 have HV0:Hid (zfN l v1 v2 v3 v4 n 0 [] (nx (nx (nx (nx (nx (some l))))))):=zfN.start Hl.out (rdAll_st HX1.out HX2.out HX3.out HX4.out (show Was ((nx (nx (nx (nx (some l))))).bind zc) n from hx))
 have HI2:=Lib.hid (HI.out.rd (st':=nx (nx (nx (nx (nx (some l)))))) hg hR)
 obtain ⟨s0,fF⟩:∃ s,nx (nx (nx (nx (nx (some l)))))=s:=⟨_,rfl⟩
 rw [fF] at HV0 HI2
 clear HI hg hR hx fF HX1 HX2 HX3 HX4
 go_wp2_with fail
 go_loopw [7,8,9] (fun si _ _ ww => ∃ (k:Nat) (dn:List Ins) (st:Option (List Nat)) (row:Value),k<=n/\si=.int .i64 (k:Int)/\Hid (HB w ww P C R l st v1 v2 v3 v4 row)/\Hid (zaD R (C+1) ww row dn)/\Hid (zfN l v1 v2 v3 v4 n k dn st)) (fun i _ _ _ => n - (intOf i).toNat)
 case atStart => exact ⟨0,[],s0,.slice none 0 0,Nat.zero_le _,rfl,HI2,Lib.hid (zaD.nil _ _ _),HV0⟩
 case round =>
 clear HI2 HV0
 obtain ⟨k,dn,st,row,hk,rfl,HI,HO,HV⟩:=hrel
 obtain ⟨a4,cap4,hform,_⟩:=HO.out.toI.form
 rw [HV.out.2.1] at hform
 subst hform
 obtain ⟨p,bd,hX,hS⟩:=HI.out.1
 obtain ⟨ra,rm,rc,r0,r1,r2,rf1,rf2,_⟩:=id hX
 have HX:=Lib.hid hX
 clear hX
 obtain ⟨pz,p0_,p1_,p2_,p3_,p4_,pf0,pf1,pf2,pf3,pf4⟩:=HI.out.2.2.1
 by_cases hkn:k<n
 ·cases st with
  | none =>
   have hki:(k:Int)<(n:Int):=by omega
   have hS:bd=true:=hS
   subst hS
   go_wp2_with fail
   refine bodyPost_ret (zbA rfl _ _ _ rfl rfl (HI.out.zero _ _ _ _ _).1) rfl ?_
   rw [show zC l=none from HV.out.no]
   exact ⟨(HI.out.zero _ _ _ _ _).2,rfl⟩
  | some t =>
   obtain ⟨hS0,hS1⟩:=hS
   subst hS0
   have hki:(k:Int)<(n:Int):=by omega
   go_wp2_with fail
   clear r0 r1 r2 rf1 rf2 pz p0_ p1_ p2_ p3_ p4_ pf0 pf1 pf2 pf3 pf4
   refine (zR _ _ l _ _ HI.out.1).mono ?_
   rintro e w2 ⟨hg,op,rfl,hvop,hR,hx⟩
   have HX1:=Lib.hid (show Was ((some t).bind zc) op from hx)
   obtain ⟨z,hz⟩:∃ z:Int,(op:Int)=z:=⟨_,rfl⟩
   rw [hz]
   have HJ:=Lib.hid (RI.new (x0:=z) (t:=49) (HI.out.rd (st':=nx (some t)) hg hR) (HO.out.grownR hg (by have:=HI.out.2.2.2.2;omega)))
   have bz:0<=z/\z<268435456:=by omega
   have Hz:=Lib.hid hz
   clear HI HO hg hR hx hz hvop HX
   go_upto_region 11 with fail
   obtain ⟨X,hXX⟩:∃ X,w2.heap.size=X:=⟨_,rfl⟩
   obtain ⟨W2,dp⟩:∃ W2,w2.alloc (.cells #[.int .i64 z,.int .i64 0,.int .i64 0,.int .i64 0,.bool false,.slice none 0 0,.slice none 0 0] 49)=W2:=⟨_,rfl⟩
   rw [dp,hXX] at HJ
   rw [dp,hXX]
   clear dp hXX
   go_wp2_with fail
   refine (zR _ _ l _ _ HJ.out.1.1).mono ?_
   rintro e w3 ⟨hg,to',rfl,hvto',hR,hx⟩
   have HX2:=Lib.hid (show Was ((nx (some t)).bind zc) to' from hx)
   have HJ2:=Lib.hid (HJ.out.rd (st':=nx (nx (some t))) hg hR)
   clear HJ hg hR hx
   obtain ⟨xz,x0_,x1_,x2_,x3_,x4_,x5_,x6_,xf0,xf1,xf2,xf3,xf4,xf5,xf6⟩:=HJ2.out.2.2.1
   go_upto_region 12 with fail
   clear xz x0_ x1_ x2_ x3_ x4_ x5_ x6_ xf0 xf1 xf2 xf3 xf4 xf5 xf6
   obtain ⟨W2,dp⟩:∃ W2,w3.setCell ⟨X,1,none⟩ (.int .i64 (to':Int))=W2:=⟨_,rfl⟩
   have HJ:=Lib.hid (HJ2.out.set1 (to':Int))
   rw [dp] at HJ
   rw [dp]
   clear dp HJ2
   go_wp2_with fail
   refine (zR _ _ l _ _ HJ.out.1.1).mono ?_
   rintro e w4 ⟨hg,ai,rfl,hvai,hR,hx⟩
   have HX3:=Lib.hid (show Was ((nx (nx (some t))).bind zc) ai from hx)
   have HJ2:=Lib.hid (HJ.out.rd (st':=nx (nx (nx (some t)))) hg hR)
   clear HJ hg hR hx
   obtain ⟨xz,x0_,x1_,x2_,x3_,x4_,x5_,x6_,xf0,xf1,xf2,xf3,xf4,xf5,xf6⟩:=HJ2.out.2.2.1
   go_upto_region 13 with fail
   clear xz x0_ x1_ x2_ x3_ x4_ x5_ x6_ xf0 xf1 xf2 xf3 xf4 xf5 xf6
   obtain ⟨W2,dp⟩:∃ W2,w4.setCell ⟨X,2,none⟩ (.int .i64 (ai:Int))=W2:=⟨_,rfl⟩
   have HJ:=Lib.hid (HJ2.out.set2 (ai:Int))
   rw [dp] at HJ
   rw [dp]
   clear dp HJ2
   go_wp2_with fail
   refine (zR _ _ l _ _ HJ.out.1.1).mono ?_
   rintro e w5 ⟨hg,bi,rfl,hvbi,hR,hx⟩
   have HX4:=Lib.hid (show Was ((nx (nx (nx (some t)))).bind zc) bi from hx)
   have HJ2:=Lib.hid (HJ.out.rd (st':=nx (nx (nx (nx (some t))))) hg hR)
   clear HJ hg hR hx
   obtain ⟨xz,x0_,x1_,x2_,x3_,x4_,x5_,x6_,xf0,xf1,xf2,xf3,xf4,xf5,xf6⟩:=HJ2.out.2.2.1
   go_upto_region 14 with fail
   clear xz x0_ x1_ x2_ x3_ x4_ x5_ x6_ xf0 xf1 xf2 xf3 xf4 xf5 xf6
   obtain ⟨W2,dp⟩:∃ W2,w5.setCell ⟨X,3,none⟩ (.int .i64 (bi:Int))=W2:=⟨_,rfl⟩
   have HJ:=Lib.hid (HJ2.out.set3 (bi:Int))
   rw [dp] at HJ
   rw [dp]
   clear dp HJ2
   by_cases q7':z=7
   ·subst q7'
    have hwb:IntKind.i64.wrap ((bi:Int) - 64)=(bi:Int) - 64:=IntWalk.i64_in _ (by omega)
    obtain ⟨xz,x0_,x1_,x2_,x3_,x4_,x5_,x6_,xf0,xf1,xf2,xf3,xf4,xf5,xf6⟩:=HJ.out.2.2.1
    go_upto_region 16 with fail
    clear xz x0_ x1_ x2_ x3_ x4_ x5_ x6_ xf0 xf1 xf2 xf3 xf4 xf5 xf6
    obtain ⟨W3,eJ⟩:∃ W3,W2.setCell ⟨X,3,none⟩ (.int .i64 ((bi:Int) - 64))=W3:=⟨_,rfl⟩
    have HJ2:=Lib.hid (HJ.out.set3 ((bi:Int) - 64))
    rw [eJ] at HJ2
    rw [eJ]
    clear eJ HJ
    have HJ:=HJ2
    clear HJ2
    obtain ⟨xz,x0_,x1_,x2_,x3_,x4_,x5_,x6_,xf0,xf1,xf2,xf3,xf4,xf5,xf6⟩:=HJ.out.2.2.1
    obtain ⟨cz,c0_,c1_,c2_,c3_,c4_,cf0,cf1,cf2,cf3,cf4⟩:=HJ.out.1.2.2.2.1
    have HI64:Hid (zbV ⟨7,(to':Int),(ai:Int),(bi:Int) - 64,⟨false,[],[]⟩⟩):=by refine ⟨?_,?_,?_,?_⟩ <;> (constructor <;> (simp only;omega))
    have HdL:Hid (dn.length<=100000):=by show _<=_;have:=(HV.out.2.2 t rfl).1;omega
    have HCs:Hid (C+1<=W3.heap.size):=by show _<=_;have:=HJ.out.1.2.2.2.1.1;omega
    have HnC:Hid ((Value.slice a4 k cap4).ownBlock≠some C):=fun e => by have:=(HJ.out.2.2.2.1.2 C e).1;omega
    go_wp2_with (at_builtin;refine zdU _ rfl (.tmp 82) (.tmp 84) rfl R (C+1) _ dn _ ⟨7,(to':Int),(ai:Int),(bi:Int) - 64,⟨false,[],[]⟩⟩ none 0 0 none 0 0 rfl rfl (HJ.out.2.1.to (bN _ _)) zaS (HJ.out.2.2.2.2.1.1.to (bN _ _)) (HJ.out.2.2.2.2.2.1.to (bN _ _)) HJ.out.2.2.2.2.1.2.2.2 HJ.out.2.2.2.2.2.2.2.2 HI64.out HJ.out.2.2.2.2.1.2.1 HJ.out.2.2.2.2.2.2.1 HdL.out (Nat.le_trans HCs.out (bN _ _).size) _ rfl ?_;intro g4 cj4 w4 hO4 hgrow4 hat4 hlt4;have hC4:=(HJ.out.1.2.2.2.1.to (bN _ _)).grown hgrow4 HnC.out;obtain ⟨dz,d0,d1,d2,d3,d4,df0,df1,df2,df3,df4⟩:=hC4)
    have hpush:=HJ.out.push (bN _ _) hO4 hgrow4 hat4
    go_roundw
    case rel => exact ⟨k+1,dn++[⟨7,(to':Int),(ai:Int),(bi:Int) - 64,⟨false,[],[]⟩⟩],nx (nx (nx (nx (some t)))),.slice (some ⟨g4,0,none⟩) (dn.length+1) cj4,by omega,by go_num,Lib.hid hpush.1,Lib.hid hpush.2,Lib.hid (HV.out.step hkn (by rw [zhN HX1.out HX2.out HX3.out HX4.out (by have:=Hz.out;omega),if_pos (show op=7 by have:=Hz.out;omega),Hz.out]))⟩
    case measure => simp [intOf] <;> omega
   ·by_cases q1':z=1
    ·subst q1'
     clear q7'
     obtain ⟨xz,x0_,x1_,x2_,x3_,x4_,x5_,x6_,xf0,xf1,xf2,xf3,xf4,xf5,xf6⟩:=HJ.out.2.2.1
     go_wp2_with fail
     clear xz x0_ x1_ x2_ x3_ x4_ x5_ x6_ xf0 xf1 xf2 xf3 xf4 xf5 xf6
     refine (zR _ _ l _ _ HJ.out.1.1).mono ?_
     rintro e w6 ⟨hg,gn,rfl,hvgn,hR,hx⟩
     have HX5:=Lib.hid (show Was ((nx (nx (nx (nx (some t))))).bind zc) gn from hx)
     have HJ2:=Lib.hid (HJ.out.rd (st':=nx (nx (nx (nx (nx (some t)))))) hg hR)
     clear HJ hg hR hx
     obtain ⟨zg,hzg⟩:∃ zg:Int,(gn:Int)=zg:=⟨_,rfl⟩
     rw [hzg]
     have Hzg:=Lib.hid hzg
     obtain ⟨bb,hbb⟩:∃ bb,(zg == 1)=bb:=⟨_,rfl⟩
     have Hbb:=Lib.hid hbb
     by_cases hgb:1<zg
     ·have qg:decide (1<zg)=true:=decide_eq_true (by omega)
      obtain ⟨p2,bd2,hX2,_⟩:=HJ2.out.1.1
      obtain ⟨ra2,rm2,rc2,r0,r1,r2,rf1,rf2,_⟩:=hX2
      go_upto_region 20 with fail
      clear r0 r1 r2 rf1 rf2
      have HJ:=Lib.hid (HJ2.out.rd (zH (o:=2) (x:=.bool true) (World.grownBy.refl _ (some R))) HJ2.out.1.1.bad)
      obtain ⟨W3,eJ⟩:∃ W3,w6.setCell ⟨R,2,none⟩ (.bool true)=W3:=⟨_,rfl⟩
      rw [eJ] at HJ
      rw [eJ]
      clear eJ HJ2
      obtain ⟨xz,x0_,x1_,x2_,x3_,x4_,x5_,x6_,xf0,xf1,xf2,xf3,xf4,xf5,xf6⟩:=HJ.out.2.2.1
      go_upto_region 21 with fail
      clear xz x0_ x1_ x2_ x3_ x4_ x5_ x6_ xf0 xf1 xf2 xf3 xf4 xf5 xf6
      try rw [hbb]
      obtain ⟨W4,eX⟩:∃ W4,W3.setCell ⟨X,4,none⟩ (.bool bb)=W4:=⟨_,rfl⟩
      have HJ2:=Lib.hid (HJ.out.set4 bb)
      rw [eX] at HJ2
      rw [eX]
      clear eX HJ hbb
      have HJ:=HJ2
      clear HJ2
      obtain ⟨xz,x0_,x1_,x2_,x3_,x4_,x5_,x6_,xf0,xf1,xf2,xf3,xf4,xf5,xf6⟩:=HJ.out.2.2.1
      go_wp2_with fail
      clear xz x0_ x1_ x2_ x3_ x4_ x5_ x6_ xf0 xf1 xf2 xf3 xf4 xf5 xf6
      refine (zdf _ _ l _ _ HJ.out.1.1).mono ?_
      rintro e w7 ⟨hg,vln,ln,rfl,hOln,hR,hx⟩
      have HX6:=Lib.hid (show Was ((none).bind rdN) ln from hx)
      have HWln:=Lib.hid (WD.of HJ.out hOln HJ.out.2.2.1.1)
      obtain ⟨aln,nln,cln,rfl,_,_⟩:=hOln.rd.open
      have HJ2:=Lib.hid (HJ.out.rd (st':=nxN (none)) hg hR)
      clear HJ hg hR hx hOln
      obtain ⟨xz,x0_,x1_,x2_,x3_,x4_,x5_,x6_,xf0,xf1,xf2,xf3,xf4,xf5,xf6⟩:=HJ2.out.2.2.1
      go_upto_region 22 with fail
      clear xz x0_ x1_ x2_ x3_ x4_ x5_ x6_ xf0 xf1 xf2 xf3 xf4 xf5 xf6
      obtain ⟨W5,dc⟩:∃ W5,w7.setCell ⟨X,5,none⟩ (.slice aln nln cln)=W5:=⟨_,rfl⟩
      have HJ:=Lib.hid (HJ2.out.set5 HWln.out)
      rw [dc] at HJ
      rw [dc]
      clear dc HJ2 HWln
      obtain ⟨xz,x0_,x1_,x2_,x3_,x4_,x5_,x6_,xf0,xf1,xf2,xf3,xf4,xf5,xf6⟩:=HJ.out.2.2.1
      go_wp2_with fail
      clear xz x0_ x1_ x2_ x3_ x4_ x5_ x6_ xf0 xf1 xf2 xf3 xf4 xf5 xf6
      refine (zdf _ _ l _ _ HJ.out.1.1).mono ?_
      rintro e w8 ⟨hg,vld,ld,rfl,hOld,hR,hx⟩
      have HX7:=Lib.hid (show Was ((nxN (none)).bind rdN) ld from hx)
      have HWld:=Lib.hid (WD.of HJ.out hOld HJ.out.2.2.1.1)
      obtain ⟨ald,nld,cld,rfl,_,_⟩:=hOld.rd.open
      have HJ2:=Lib.hid (HJ.out.rd (st':=nxN (nxN (none))) hg hR)
      clear HJ hg hR hx hOld
      obtain ⟨xz,x0_,x1_,x2_,x3_,x4_,x5_,x6_,xf0,xf1,xf2,xf3,xf4,xf5,xf6⟩:=HJ2.out.2.2.1
      go_upto_region 23 with fail
      clear xz x0_ x1_ x2_ x3_ x4_ x5_ x6_ xf0 xf1 xf2 xf3 xf4 xf5 xf6
      obtain ⟨W6,gM⟩:∃ W6,w8.setCell ⟨X,6,none⟩ (.slice ald nld cld)=W6:=⟨_,rfl⟩
      have HJ:=Lib.hid (HJ2.out.set6 HWld.out)
      rw [gM] at HJ
      rw [gM]
      clear gM HJ2 HWld
      obtain ⟨xz,x0_,x1_,x2_,x3_,x4_,x5_,x6_,xf0,xf1,xf2,xf3,xf4,xf5,xf6⟩:=HJ.out.2.2.1
      obtain ⟨cz,c0_,c1_,c2_,c3_,c4_,cf0,cf1,cf2,cf3,cf4⟩:=HJ.out.1.2.2.2.1
      have HI64:Hid (zbV ⟨1,(to':Int),(ai:Int),(bi:Int),⟨bb,ln,ld⟩⟩):=by refine ⟨?_,?_,?_,?_⟩ <;> (constructor <;> (simp only;omega))
      have HdL:Hid (dn.length<=100000):=by show _<=_;have:=(HV.out.2.2 t rfl).1;omega
      have HCs:Hid (C+1<=W6.heap.size):=by show _<=_;have:=HJ.out.1.2.2.2.1.1;omega
      have HnC:Hid ((Value.slice a4 k cap4).ownBlock≠some C):=fun e => by have:=(HJ.out.2.2.2.1.2 C e).1;omega
      go_wp2_with (at_builtin;refine zdU _ rfl (.tmp 82) (.tmp 84) rfl R (C+1) _ dn _ ⟨1,(to':Int),(ai:Int),(bi:Int),⟨bb,ln,ld⟩⟩ aln nln cln ald nld cld rfl rfl (HJ.out.2.1.to (bN _ _)) zaS (HJ.out.2.2.2.2.1.1.to (bN _ _)) (HJ.out.2.2.2.2.2.1.to (bN _ _)) HJ.out.2.2.2.2.1.2.2.2 HJ.out.2.2.2.2.2.2.2.2 HI64.out HJ.out.2.2.2.2.1.2.1 HJ.out.2.2.2.2.2.2.1 HdL.out (Nat.le_trans HCs.out (bN _ _).size) _ rfl ?_;intro g4 cj4 w4 hO4 hgrow4 hat4 hlt4;have hC4:=(HJ.out.1.2.2.2.1.to (bN _ _)).grown hgrow4 HnC.out;obtain ⟨dz,d0,d1,d2,d3,d4,df0,df1,df2,df3,df4⟩:=hC4)
      have hpush:=HJ.out.push (bN _ _) hO4 hgrow4 hat4
      go_roundw
      case rel => exact ⟨k+1,dn++[⟨1,(to':Int),(ai:Int),(bi:Int),⟨bb,ln,ld⟩⟩],nxN (nxN (none)),.slice (some ⟨g4,0,none⟩) (dn.length+1) cj4,by omega,by go_num,Lib.hid hpush.1,Lib.hid hpush.2,Lib.hid (HV.out.step hkn (by rw [zjN (g:=gn) (s5:=none) (show Was ((some t).bind zc) 1 from (show op=1 by have:=Hz.out;omega) ▸ HX1.out) HX2.out HX3.out HX4.out HX5.out ((if_pos (show 1<gn by have:=Hzg.out;omega)).symm) HX6.out HX7.out,show decide (gn=1)=bb from zlo Hzg.out Hbb.out];rfl))⟩
      case measure => simp [intOf] <;> omega
     ·have qg:decide (1<zg)=false:=decide_eq_false (by omega)
      have HJ:=HJ2
      clear HJ2
      obtain ⟨xz,x0_,x1_,x2_,x3_,x4_,x5_,x6_,xf0,xf1,xf2,xf3,xf4,xf5,xf6⟩:=HJ.out.2.2.1
      go_upto_region 21 with fail
      clear xz x0_ x1_ x2_ x3_ x4_ x5_ x6_ xf0 xf1 xf2 xf3 xf4 xf5 xf6
      try rw [hbb]
      obtain ⟨W4,eX⟩:∃ W4,w6.setCell ⟨X,4,none⟩ (.bool bb)=W4:=⟨_,rfl⟩
      have HJ2:=Lib.hid (HJ.out.set4 bb)
      rw [eX] at HJ2
      rw [eX]
      clear eX HJ hbb
      have HJ:=HJ2
      clear HJ2
      obtain ⟨xz,x0_,x1_,x2_,x3_,x4_,x5_,x6_,xf0,xf1,xf2,xf3,xf4,xf5,xf6⟩:=HJ.out.2.2.1
      go_wp2_with fail
      clear xz x0_ x1_ x2_ x3_ x4_ x5_ x6_ xf0 xf1 xf2 xf3 xf4 xf5 xf6
      refine (zdf _ _ l _ _ HJ.out.1.1).mono ?_
      rintro e w7 ⟨hg,vln,ln,rfl,hOln,hR,hx⟩
      have HX6:=Lib.hid (show Was ((nx (nx (nx (nx (nx (some t)))))).bind rdN) ln from hx)
      have HWln:=Lib.hid (WD.of HJ.out hOln HJ.out.2.2.1.1)
      obtain ⟨aln,nln,cln,rfl,_,_⟩:=hOln.rd.open
      have HJ2:=Lib.hid (HJ.out.rd (st':=nxN (nx (nx (nx (nx (nx (some t))))))) hg hR)
      clear HJ hg hR hx hOln
      obtain ⟨xz,x0_,x1_,x2_,x3_,x4_,x5_,x6_,xf0,xf1,xf2,xf3,xf4,xf5,xf6⟩:=HJ2.out.2.2.1
      go_upto_region 22 with fail
      clear xz x0_ x1_ x2_ x3_ x4_ x5_ x6_ xf0 xf1 xf2 xf3 xf4 xf5 xf6
      obtain ⟨W5,dc⟩:∃ W5,w7.setCell ⟨X,5,none⟩ (.slice aln nln cln)=W5:=⟨_,rfl⟩
      have HJ:=Lib.hid (HJ2.out.set5 HWln.out)
      rw [dc] at HJ
      rw [dc]
      clear dc HJ2 HWln
      obtain ⟨xz,x0_,x1_,x2_,x3_,x4_,x5_,x6_,xf0,xf1,xf2,xf3,xf4,xf5,xf6⟩:=HJ.out.2.2.1
      go_wp2_with fail
      clear xz x0_ x1_ x2_ x3_ x4_ x5_ x6_ xf0 xf1 xf2 xf3 xf4 xf5 xf6
      refine (zdf _ _ l _ _ HJ.out.1.1).mono ?_
      rintro e w8 ⟨hg,vld,ld,rfl,hOld,hR,hx⟩
      have HX7:=Lib.hid (show Was ((nxN (nx (nx (nx (nx (nx (some t))))))).bind rdN) ld from hx)
      have HWld:=Lib.hid (WD.of HJ.out hOld HJ.out.2.2.1.1)
      obtain ⟨ald,nld,cld,rfl,_,_⟩:=hOld.rd.open
      have HJ2:=Lib.hid (HJ.out.rd (st':=nxN (nxN (nx (nx (nx (nx (nx (some t)))))))) hg hR)
      clear HJ hg hR hx hOld
      obtain ⟨xz,x0_,x1_,x2_,x3_,x4_,x5_,x6_,xf0,xf1,xf2,xf3,xf4,xf5,xf6⟩:=HJ2.out.2.2.1
      go_upto_region 23 with fail
      clear xz x0_ x1_ x2_ x3_ x4_ x5_ x6_ xf0 xf1 xf2 xf3 xf4 xf5 xf6
      obtain ⟨W6,gM⟩:∃ W6,w8.setCell ⟨X,6,none⟩ (.slice ald nld cld)=W6:=⟨_,rfl⟩
      have HJ:=Lib.hid (HJ2.out.set6 HWld.out)
      rw [gM] at HJ
      rw [gM]
      clear gM HJ2 HWld
      obtain ⟨xz,x0_,x1_,x2_,x3_,x4_,x5_,x6_,xf0,xf1,xf2,xf3,xf4,xf5,xf6⟩:=HJ.out.2.2.1
      obtain ⟨cz,c0_,c1_,c2_,c3_,c4_,cf0,cf1,cf2,cf3,cf4⟩:=HJ.out.1.2.2.2.1
      have HI64:Hid (zbV ⟨1,(to':Int),(ai:Int),(bi:Int),⟨bb,ln,ld⟩⟩):=by refine ⟨?_,?_,?_,?_⟩ <;> (constructor <;> (simp only;omega))
      have HdL:Hid (dn.length<=100000):=by show _<=_;have:=(HV.out.2.2 t rfl).1;omega
      have HCs:Hid (C+1<=W6.heap.size):=by show _<=_;have:=HJ.out.1.2.2.2.1.1;omega
      have HnC:Hid ((Value.slice a4 k cap4).ownBlock≠some C):=fun e => by have:=(HJ.out.2.2.2.1.2 C e).1;omega
      go_wp2_with (at_builtin;refine zdU _ rfl (.tmp 82) (.tmp 84) rfl R (C+1) _ dn _ ⟨1,(to':Int),(ai:Int),(bi:Int),⟨bb,ln,ld⟩⟩ aln nln cln ald nld cld rfl rfl (HJ.out.2.1.to (bN _ _)) zaS (HJ.out.2.2.2.2.1.1.to (bN _ _)) (HJ.out.2.2.2.2.2.1.to (bN _ _)) HJ.out.2.2.2.2.1.2.2.2 HJ.out.2.2.2.2.2.2.2.2 HI64.out HJ.out.2.2.2.2.1.2.1 HJ.out.2.2.2.2.2.2.1 HdL.out (Nat.le_trans HCs.out (bN _ _).size) _ rfl ?_;intro g4 cj4 w4 hO4 hgrow4 hat4 hlt4;have hC4:=(HJ.out.1.2.2.2.1.to (bN _ _)).grown hgrow4 HnC.out;obtain ⟨dz,d0,d1,d2,d3,d4,df0,df1,df2,df3,df4⟩:=hC4)
      have hpush:=HJ.out.push (bN _ _) hO4 hgrow4 hat4
      go_roundw
      case rel => exact ⟨k+1,dn++[⟨1,(to':Int),(ai:Int),(bi:Int),⟨bb,ln,ld⟩⟩],nxN (nxN (nx (nx (nx (nx (nx (some t))))))),.slice (some ⟨g4,0,none⟩) (dn.length+1) cj4,by omega,by go_num,Lib.hid hpush.1,Lib.hid hpush.2,Lib.hid (HV.out.step hkn (by rw [zjN (g:=gn) (s5:=nx (nx (nx (nx (nx (some t)))))) (show Was ((some t).bind zc) 1 from (show op=1 by have:=Hz.out;omega) ▸ HX1.out) HX2.out HX3.out HX4.out HX5.out ((if_neg (show ¬ 1<gn by have:=Hzg.out;omega)).symm) HX6.out HX7.out,show decide (gn=1)=bb from zlo Hzg.out Hbb.out];rfl))⟩
      case measure => simp [intOf] <;> omega
    ·have q7:(z == 7)=false:=by simp;omega
     have q1:(z == 1)=false:=by simp;omega
     obtain ⟨xz,x0_,x1_,x2_,x3_,x4_,x5_,x6_,xf0,xf1,xf2,xf3,xf4,xf5,xf6⟩:=HJ.out.2.2.1
     obtain ⟨cz,c0_,c1_,c2_,c3_,c4_,cf0,cf1,cf2,cf3,cf4⟩:=HJ.out.1.2.2.2.1
     have HI64:Hid (zbV ⟨z,(to':Int),(ai:Int),(bi:Int),⟨false,[],[]⟩⟩):=by refine ⟨?_,?_,?_,?_⟩ <;> (constructor <;> (simp only;omega))
     have HdL:Hid (dn.length<=100000):=by show _<=_;have:=(HV.out.2.2 t rfl).1;omega
     have HCs:Hid (C+1<=W2.heap.size):=by show _<=_;have:=HJ.out.1.2.2.2.1.1;omega
     have HnC:Hid ((Value.slice a4 k cap4).ownBlock≠some C):=fun e => by have:=(HJ.out.2.2.2.1.2 C e).1;omega
     go_wp2_with (at_builtin;refine zdU _ rfl (.tmp 82) (.tmp 84) rfl R (C+1) _ dn _ ⟨z,(to':Int),(ai:Int),(bi:Int),⟨false,[],[]⟩⟩ none 0 0 none 0 0 rfl rfl (HJ.out.2.1.to (bN _ _)) zaS (HJ.out.2.2.2.2.1.1.to (bN _ _)) (HJ.out.2.2.2.2.2.1.to (bN _ _)) HJ.out.2.2.2.2.1.2.2.2 HJ.out.2.2.2.2.2.2.2.2 HI64.out HJ.out.2.2.2.2.1.2.1 HJ.out.2.2.2.2.2.2.1 HdL.out (Nat.le_trans HCs.out (bN _ _).size) _ rfl ?_;intro g4 cj4 w4 hO4 hgrow4 hat4 hlt4;have hC4:=(HJ.out.1.2.2.2.1.to (bN _ _)).grown hgrow4 HnC.out;obtain ⟨dz,d0,d1,d2,d3,d4,df0,df1,df2,df3,df4⟩:=hC4)
     have hpush:=HJ.out.push (bN _ _) hO4 hgrow4 hat4
     go_roundw
     case rel => exact ⟨k+1,dn++[⟨z,(to':Int),(ai:Int),(bi:Int),⟨false,[],[]⟩⟩],nx (nx (nx (nx (some t)))),.slice (some ⟨g4,0,none⟩) (dn.length+1) cj4,by omega,by go_num,Lib.hid hpush.1,Lib.hid hpush.2,Lib.hid (HV.out.step hkn (by rw [zhN HX1.out HX2.out HX3.out HX4.out (by have:=Hz.out;omega),if_neg (show ¬ op=7 by have:=Hz.out;omega),Hz.out]))⟩
     case measure => simp [intOf] <;> omega
 ·obtain rfl:k=n:=by omega
  have hki:¬ ((k:Int)<(k:Int)):=by omega
  cases st with
  | none =>
   have hS:bd=true:=hS
   subst hS
   go_wp2_with fail
   refine bodyPost_ret (zbA rfl _ _ _ rfl rfl (HI.out.zero _ _ _ _ _).1) rfl ?_
   rw [show zC l=none from HV.out.no]
   exact ⟨(HI.out.zero _ _ _ _ _).2,rfl⟩
  | some t =>
   obtain ⟨hS0,hS1⟩:=hS
   subst hS0
   have hpos:=HX.out.pos.1
   have hm:=Hm.out
   have hlt:=HV.out.done
   have HD:=Lib.hid hlt
   have HT:=Lib.hid hS1
   clear hlt hS1
   by_cases hpm:p<m
   ·have hpi:(p:Int)<(m:Int):=by omega
    have HN:Hid (zC l=none):=by
     show _=_
     rw [HD.out]
     exact if_neg (fun h => by have e1:=h.1;rw [<- HT.out] at e1;have:=congrArg List.length e1;rw [List.length_drop] at this;simp only [List.length_nil] at this;omega)
    clear hpos hm
    go_wp2_with fail
    refine bodyPost_ret (zbA rfl _ _ _ rfl rfl (HI.out.zero _ _ _ _ _).1) rfl ?_
    rw [show zC l=none from HN.out]
    exact ⟨(HI.out.zero _ _ _ _ _).2,rfl⟩
   ·have hpi:¬ ((p:Int)<(m:Int)):=by omega
    have ht0:t=[]:=by rw [<- HT.out];exact List.drop_eq_nil_of_le (by omega)
    have HS:Hid (zbo 1000 dn):=(HV.out.2.2 t rfl).2
    have hIsC:IsC wr ⟨v1,v2,v3,v4,dn⟩ (.slice a4 k cap4):=by
     have k1:=Hv1.out
     have k2:=Hv2.out
     have k3:=Hv3.out
     have k4:=Hv4.out
     exact ⟨HO.out.toI.rdC,⟨by show (-9223372036854775808:Int)<=(v1:Int);omega,by show (v1:Int)<_;omega⟩,⟨by show (-9223372036854775808:Int)<=(v2:Int);omega,by show (v2:Int)<_;omega⟩,⟨by show (-9223372036854775808:Int)<=(v3:Int);omega,by show (v3:Int)<_;omega⟩,⟨by show (-9223372036854775808:Int)<=(v4:Int);omega,by show (v4:Int)<_;omega⟩⟩
    have HIs:=Lib.hid hIsC
    obtain ⟨o,ho⟩:∃ o,zF ⟨v1,v2,v3,v4,dn⟩=o:=⟨_,rfl⟩
    have HDo:=Lib.hid (show zC l=if o=true then some ⟨v1,v2,v3,v4,dn⟩ else none by
     rw [HD.out,ho]
     simp only [ht0,true_and])
    have Ho:=Lib.hid ho
    clear hIsC ho ht0 hpos hm
    obtain ⟨cz,c0_,c1_,c2_,c3_,c4_,cf0,cf1,cf2,cf3,cf4⟩:=HI.out.2.2.2.1
    go_wp2_with fail
    refine (zjQ ⟨v1,v2,v3,v4,dn⟩ _ _ HIs.out HS.out o Ho.out).mono ?_
    rintro e w8 ⟨rfl,fs⟩
    have hb8':=zW fs (some R)
    have hRS:=HI.out.1.to fs
    have HI8:=Lib.hid (HI.out.rd hb8' hRS)
    have HO8:=Lib.hid (HO.out.to fs)
    clear cz c0_ c1_ c2_ c3_ c4_ cf0 cf1 cf2 cf3 cf4 pz p0_ p1_ p2_ p3_ p4_ pf0 pf1 pf2 pf3 pf4 r0 r1 r2 rf1 rf2 fs hb8' hRS HI HO
    have HI:=HI8
    clear HI8
    obtain ⟨pz,p0_,p1_,p2_,p3_,p4_,pf0,pf1,pf2,pf3,pf4⟩:=HI.out.2.2.1
    cases o with
    | false =>
     go_wp2_with fail
     refine bodyPost_ret (zbA rfl _ _ _ rfl rfl (HI.out.zero _ _ _ _ _).1) rfl ?_
     rw [show zC l=none from by rw [HDo.out];rfl]
     exact ⟨(HI.out.zero _ _ _ _ _).2,rfl⟩
    | true =>
     obtain ⟨cz,c0_,c1_,c2_,c3_,c4_,cf0,cf1,cf2,cf3,cf4⟩:=HI.out.2.2.2.1
     go_wp2_with fail
     refine bodyPost_ret (zbA rfl _ _ _ rfl rfl (HI.out.zero _ _ _ _ _).1) rfl ?_
     rw [show zC l=some ⟨v1,v2,v3,v4,dn⟩ by rw [HDo.out];rfl]
     have hPC:=HI.out.2.2.2.2
     have hvP:(Value.slice a4 k cap4).ownBlock≠some P:=fun e => by have:=(HO8.out.toI.lt _ e).1;omega
     refine ⟨(HI.out.zero _ _ _ _ _).2,_,rfl,?_⟩
     exact (HI.out.2.2.1.own5 HO8.out.toI hvP _ _ _ _ _).mono (by omega)

end Go.Proofs.YtkjcdnlpjldhaaaGreat

