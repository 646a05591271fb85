/-
  The texts PackRun, Awake28, merged.
-/
import Derived.Test.YtkjcdnlpjldhaaaGreatK25
import Derived.Test.YtkjcdnlpjldhaaaGreatK28
import Derived.Test.YtkjcdnlpjldhaaaGreatK29
import Derived.Test.YtkjcdnlpjldhaaaGreatK22
import Derived.Test.YtkjcdnlpjldhaaaGreatK16
import Derived.Test.YtkjcdnlpjldhaaaGreatK08
set_option linter.unusedVariables false
set_option linter.unusedSimpArgs false
set_option maxRecDepth 100000
set_option maxHeartbeats 400000000
namespace Go.Proofs.YtkjcdnlpjldhaaaGreat
open Go.RowKit Tw
attribute [local go_sem ↓] Go.wp_at_zero Go.wp_at_succ

theorem zik {l:List Nat} {c:Cd} {base:Nat} {w:World} {v:Value} (hl:∀ x ∈ l,x<256) (h:zC l=some c) (ho:zau base w v c.all):IsC w c v:=by
 obtain ⟨⟨h1,h1'⟩,⟨h2,h2'⟩,⟨h3,h3'⟩,⟨h4,h4'⟩,_⟩:=(zjj hl h).2.1
 refine ⟨ho.rdC,⟨by omega,by omega⟩,⟨by omega,by omega⟩,⟨by omega,by omega⟩,⟨by omega,by omega⟩⟩

theorem zhm (v u:Value) (l:List Nat) (c:Cd) (xs:List Rt) (w:World) (h:RdB w v l) (hl:l.length<=4000) (hu:RdR w u xs) (hd:zC l=some c) (rows cols k t o:Int) (qs:List Rat)
  (HR:∀ (W:World) (x:Value),IsC W c x->RdR W u xs->Calls Tryz.prog 19 #[aggC c x,u] W (RunJ W rows cols qs k t o)) :
  Calls Tryz.prog 32 #[v,u] w (RunJ w rows cols qs k t o):=by
 have h256:=h.1
 obtain ⟨a,m,cc,rfl,Hm,hmc,hcm⟩:=h.open
 have H:=Lib.hid h
 have Hl:=Lib.hid hl
 have Hd:=Lib.hid hd
 have Hu:=Lib.hid hu
 have H256:=Lib.hid h256
 have HRun:=Lib.hid HR
 clear h hl hd hu h256 HR Hm hmc hcm
 go_enter Tryz.func32,Tryz.ntmps32
 go_wp2_with fail
 obtain ⟨W0,an⟩:∃ W0,(w.alloc (.cells #[.int .i64 0,.int .i64 0,.slice none 0 0] 32)).alloc (.cells #[.int .i64 0,.int .i64 0] 34)=W0:=⟨_,rfl⟩
 have dE:Below w.heap.size w W0:=by rw [<- an];exact bS (bN _ _) (bN _ _)
 have tJ:Tri W0 w.heap.size (.int .i64 0) (.int .i64 0) (.slice none 0 0):=by rw [<- an];exact (zi _ _ _ _ _).alloc _
 have tK:Duo W0 (w.heap.size+1) (.int .i64 0) (.int .i64 0):=by rw [<- an];exact zjl _ _ _ _ _
 rw [an]
 clear an
 refine (zcH _ l _ (H.out.to dE) Hl.out).mono ?_
 rintro e w1 ⟨be,h1⟩
 rw [Hd.out] at h1
 obtain ⟨x,rfl,hO⟩:=h1
 have hIC:=zik H256.out Hd.out hO
 have HIC:=Lib.hid hIC
 obtain ⟨ax,cx,hform,_⟩:=hO.form
 obtain ⟨nx,hnx⟩:∃ n,c.all.length=n:=⟨_,rfl⟩
 rw [hnx] at hform
 subst hform
 clear hO hIC hnx
 go_wp2_with fail
 obtain ⟨W1,aO⟩:∃ W1,w1.alloc (.cells #[.int .i64 c.ins,.int .i64 c.rows,.int .i64 c.cols,.int .i64 c.regs,.slice ax nx cx] 24)=W1:=⟨_,rfl⟩
 have hbn:Below w1.heap.size w1 W1:=by rw [<- aO];exact bN _ _
 try rw [aO]
 clear aO
 have fA:=bS dE (bS be hbn)
 refine (HRun.out _ _ (HIC.out.to hbn) (Hu.out.to fA)).mono ?_
 rintro e w2 ⟨aj,nj,cj,rfl,hrd,hnew,aZ⟩
 have dl:=bS be (bS hbn aZ)
 have tJ1:=tJ.to dl
 have tK1:=tK.to dl
 obtain ⟨j0,j1,j2,jf0,jf1,jf2⟩:=id tJ1
 obtain ⟨k0,k1,kf0,kf1⟩:=id tK1
 have hz:=tK1.lt
 have hR:=zhe tJ1 tK1 (by omega) (.int .i64 rows) (.int .i64 cols) (.slice aj nj cj) (.int .i64 k) (.int .i64 t)
 have ea:=bS dE dl
 go_wp2_with fail
 refine bodyPost_ret (zcx rfl _ _ _ _ _ _ _ _ _ rfl rfl hR.1 hR.2) rfl ?_
 have hB:Below w.heap.size w (set2 (set3 w2 w.heap.size (.int .i64 rows) (.int .i64 cols) (.slice aj nj cj)) (w.heap.size+1) (.int .i64 k) (.int .i64 t)) :=
  (((((ea).setCell (p:=⟨w.heap.size,0,none⟩) (Nat.le_refl _) _).setCell (p:=⟨w.heap.size,1,none⟩) (Nat.le_refl _) _).setCell (p:=⟨w.heap.size,2,none⟩) (Nat.le_refl _) _).setCell (p:=⟨w.heap.size+1,0,none⟩) (Nat.le_succ _) _).setCell (p:=⟨w.heap.size+1,1,none⟩) (Nat.le_succ _) _
 have hsz:w.heap.size+1<W1.heap.size:=by have:=(tK.to (bS be hbn)).lt;exact this
 have n0:∀ b o,aj=some ⟨b,o,none⟩->b≠w.heap.size:=fun b o e => by have:=hnew b o e;omega
 have n1:∀ b o,aj=some ⟨b,o,none⟩->b≠w.heap.size+1:=fun b o e => by have:=hnew b o e;omega
 have hne:w.heap.size+1≠w.heap.size:=by omega
 refine ⟨aj,nj,cj,rfl,?_,fun b o e => by have:=hnew b o e;omega,hB⟩
 have r0:=hrd.setP n0 j0 (fun z e => by cases e) (.int .i64 rows)
 have r1:=r0.setP n0 (cP j1 (.inr (by decide)) _) (fun z e => by cases e) (.int .i64 cols)
 have r2:=r1.setP n0 (cP (cP j2 (.inr (by decide)) _) (.inr (by decide)) _) (fun z e => by cases e) (.slice aj nj cj)
 have r3:=r2.setP n1 (cP (cP (cP k0 (.inl hne) _) (.inl hne) _) (.inl hne) _) (fun z e => by cases e) (.int .i64 k)
 exact r3.setP n1 (cP (cP (cP (cP k1 (.inl hne) _) (.inl hne) _) (.inl hne) _) (.inr (by decide)) _) (fun z e => by cases e) (.int .i64 t)

end Go.Proofs.YtkjcdnlpjldhaaaGreat


namespace Go.Proofs.YtkjcdnlpjldhaaaGreat
open Go.RowKit Tw
attribute [local go_sem ↓] Go.wp_at_zero Go.wp_at_succ

def cA:Cd:=⟨1,1,1,1,[⟨0,0,0,0,⟨false,[],[]⟩⟩,⟨10,0,0,0,⟨false,[],[]⟩⟩]⟩

theorem zet:zF cA=true:=by decide +kernel

theorem cA_heavy:zgB cA=1:=by decide +kernel

theorem cA_o:runO cA [5] 1=0:=by decide +kernel

theorem cA_all:jAll cA [5] 0=[5]:=by decide +kernel

theorem cA_kt:jK cA [5] 0=2/\jT cA [5] 0=0/\jRows cA 0=1/\jCols cA 0=1:=by decide +kernel

theorem cA_fit:zdj 1000 [5] St.zero cA.all:=zmc (c:=cA) (p:=[5]) (by decide +kernel) (by decide +kernel) zet (by rw [cA_heavy];decide)

theorem zjf:zbo 1000 cA.all:=by
 intro x hx
 simp only [cA,List.mem_cons,List.not_mem_nil,or_false] at hx
 rcases hx with rfl|rfl <;> exact ⟨by decide,by decide⟩

theorem cA_i64:∀ x ∈ cA.all,I64 x.op/\I64 x.to/\I64 x.a/\I64 x.b:=by
 intro x hx
 simp only [cA,List.mem_cons,List.not_mem_nil,or_false] at hx
 rcases hx with rfl|rfl <;> (unfold I64;decide)

theorem zje:zaX cA=[1,1,1,1,2,0,0,0,0,10,0,0,0]:=by
 simp [zaX,cA,zav,bOf,zee]

theorem cA_wire:zfA cA:=zeo zet (fun x hx => by
 simp only [cA,List.mem_cons,List.not_mem_nil,or_false] at hx
 rcases hx with rfl|rfl <;> exact ⟨⟨by decide,fun w hw => by cases hw⟩,⟨by decide,fun w hw => by cases hw⟩⟩)

theorem cA_dec:zC [1,1,1,1,2,0,0,0,0,10,0,0,0]=some cA:=by rw [<- zje];exact zey cA_wire zet

theorem zkm (v u:Value) (w:World) (hc:IsC w cA v) (hx:RdR w u [zak ((5:Int):Rat)]) :
  Calls Tryz.prog 19 #[aggC cA v,u] w (RunJ w 1 1 [5] 2 0 0):=by
 have hm:[zak ((5:Int):Rat)].map Rt.num=[5]:=by simp only [List.map_cons,List.map_nil,zeY];rfl
 have:=vm_runJ cA v u [zak ((5:Int):Rat)] w hc zjf hx (fun _ _ => ⟨by
  intro x hx
  rw [List.mem_singleton.1 hx]
  decide +kernel,by rw [hm];exact cA_fit⟩) 0 (by rw [hm];exact cA_o)
 unfold zjb at this
 rw [hm,cA_all,cA_kt.1,cA_kt.2.1,cA_kt.2.2.1,cA_kt.2.2.2] at this
 exact this

abbrev zgf (op to_ a b:Int):List Value:=[.int .i64 op,.int .i64 to_,.int .i64 a,.int .i64 b,.bool false,.slice none 0 0,.slice none 0 0]

theorem zmq {w:World} {t:TypeId} {fr:Nat × Nat} {B:Nat} (h:w.heap[B]?=some (.cells (zgf 0 0 0 0++zgf 10 0 0 0).toArray t fr)):RdC w (.slice (some ⟨B,0,none⟩) 2 2) cA.all:=by
 have hc:∀ o,w.cell? ⟨B,o,none⟩=(zgf 0 0 0 0++zgf 10 0 0 0).toArray[o]?:=fun o => cell_of_row w B o _ t fr h
 refine ⟨_,2,rfl,Nat.le_refl _,by decide,fun i hi => ⟨B,0,rfl,?_⟩⟩
 have i64:=cA_i64 _ (List.getElem_mem hi)
 have hi':i<2:=hi
 have hi3:i=0\/i=1:=by omega
 rcases hi3 with rfl|rfl
 all_goals exact ⟨hc _,hc _,hc _,hc _,⟨.slice none 0 0,.slice none 0 0,hc _,hc _,hc _,Rd.nil _,Rd.nil _⟩,i64⟩

theorem zaj.rdB {base:Nat} {w:World} {g n c:Nat} {l:List Nat} (h:zaj base w (.slice (some ⟨g,0,none⟩) n c) l):RdB w (.slice (some ⟨g,0,none⟩) n c) l:=by
 have hn:=zdt h
 refine ⟨h.1,some ⟨g,0,none⟩,c,by rw [hn],?_,?_,fun i hi => ⟨g,0,rfl,?_⟩⟩
 ·rcases h.2.2 with ⟨hv,_⟩|⟨g',cap,cur,hv,hg,hh,h1,h2,_⟩
  ·cases hv
  ·injection hv with e1 e2 e3
   rw [e3];exact h1
 ·rcases h.2.2 with ⟨hv,_⟩|⟨g',cap,cur,hv,hg,hh,h1,h2,_⟩
  ·cases hv
  ·injection hv with e1 e2 e3
   rw [e3];exact h2
 ·rw [Nat.zero_add,(zdL h hi).1,zaQ hi]

theorem zib (w:World):Calls Tryz.prog 26 #[] w (Holds w):=by
 go_enter Tryz.func26,Tryz.ntmps26
 go_upto_region 2 with fail
 obtain ⟨W00,fz⟩:∃ W00,w.alloc (.cells #[.int .i64 0,.int .i64 0,.int .i64 0,.int .i64 0,.bool false,.slice none 0 0,.slice none 0 0,.int .i64 10,.int .i64 0,.int .i64 0,.int .i64 0,.bool false,.slice none 0 0,.slice none 0 0] 49)=W00:=⟨_,rfl⟩
 have gV:Below w.heap.size w W00:=by rw [<- fz];exact bN _ _
 have ir:W00.heap.size=w.heap.size+1:=by rw [<- fz];simp
 have hc00:RdC W00 (.slice (some ⟨w.heap.size,0,none⟩) 2 2) cA.all:=zmq (t:=49) (fr:=(0,0)) (by rw [<- fz];exact heap_alloc_new _ _)
 obtain ⟨W0,an⟩:∃ W0,W00.alloc (.cells #[.int .i64 1,.int .i64 1,.int .i64 1,.int .i64 1,.slice (some ⟨w.heap.size,0,none⟩) 2 2] 24)=W0:=⟨_,rfl⟩
 have fA:Below W00.heap.size W00 W0:=by rw [<- an];exact bN _ _
 have dE:=bS gV fA
 have g0:IsC W0 cA (.slice (some ⟨w.heap.size,0,none⟩) 2 2):=⟨hc00.to fA,by unfold I64 cA;decide,by unfold I64 cA;decide,by unfold I64 cA;decide,by unfold I64 cA;decide⟩
 have hC0:B5 W0 (w.heap.size+1) (.int .i64 1) (.int .i64 1) (.int .i64 1) (.int .i64 1) (.slice (some ⟨w.heap.size,0,none⟩) 2 2):=by
  rw [<- an,<- ir]
  unfold B5
  and_intros <;> first|(simp [go_sem];done)|(simp [go_sem];omega)
 rw [fz,an]
 clear an fz hc00 gV fA
 have G0:=Lib.hid g0
 obtain ⟨cz,c0,c1,c2,c3,c4,cf0,cf1,cf2,cf3,cf4⟩:=id hC0
 clear g0
 go_wp2_with fail
 refine (zdl cA _ _ G0.out zjf (by decide) zet).mono ?_
 rintro e w1 ⟨g,n,cp,rfl,hOB,hg1,hg2,be⟩
 rw [zje] at hOB
 have HOB:=Lib.hid hOB
 clear cz c0 c1 c2 c3 c4 cf0 cf1 cf2 cf3 cf4 hOB
 have hb10:=bS dE be
 go_wp2_with fail
 refine (zcH _ _ _ HOB.out.rdB (by decide)).mono ?_
 rintro e w2 ⟨aZ,h2⟩
 rw [cA_dec] at h2
 obtain ⟨u,rfl,hO2⟩:=h2
 obtain ⟨au,cu,hform,_⟩:=hO2.form
 rw [show cA.all.length=2 from rfl] at hform
 subst hform
 have hrc:=hO2.rdC
 go_wp2_with fail
 obtain ⟨W2,dp⟩:∃ W2,w2.alloc (.cells #[.int .i64 cA.ins,.int .i64 cA.rows,.int .i64 cA.cols,.int .i64 cA.regs,.slice au 2 cu] 24)=W2:=⟨_,rfl⟩
 have hbn2:Below w2.heap.size w2 W2:=by rw [<- dp];exact bN _ _
 have hD2:B5 W2 w2.heap.size (.int .i64 cA.ins) (.int .i64 cA.rows) (.int .i64 cA.cols) (.int .i64 cA.regs) (.slice au 2 cu):=by
  rw [<- dp]
  unfold B5
  and_intros <;> first|(simp [go_sem];done)|(simp [go_sem];omega)
 have g2:IsC W2 cA (.slice au 2 cu):=⟨hrc.to hbn2,by unfold I64 cA;decide,by unfold I64 cA;decide,by unfold I64 cA;decide,by unfold I64 cA;decide⟩
 rw [dp]
 clear dp hrc hO2
 have G2:=Lib.hid g2
 clear g2
 refine (ref8_of 5 5 _ rfl (by omega) (by omega)).mono ?_
 rintro e w3 ⟨ng3,a3_,n3_,c3_,p3_,m3_,k3_,rfl,g3,cl⟩
 go_wp2_with fail
 obtain ⟨W3,eJ⟩:∃ W3,w3.alloc (.cells #[.bool ng3,.slice a3_ n3_ c3_,.slice p3_ m3_ k3_] 47)=W3:=⟨_,rfl⟩
 have hbn3:Below w3.heap.size w3 W3:=by rw [<- eJ];exact bN _ _
 have t3:Tri W3 w3.heap.size (.bool ng3) (.slice a3_ n3_ c3_) (.slice p3_ m3_ k3_):=by rw [<- eJ];exact zi _ _ _ _ _
 have hRd:=lit_rdR t3 (g3.isK.to hbn3)
 rw [eJ]
 clear eJ t3
 have eb:=bS aZ (bS hbn2 (bS cl hbn3))
 refine (zhm _ _ _ cA [zak ((5:Int):Rat)] _ (HOB.out.to eb).rdB (by decide) hRd cA_dec 1 1 2 0 0 [5] (fun W x hc hx => zkm x _ W hc hx)).mono ?_
 rintro e w4 ⟨aj,nj,cj,rfl,hrd,_,dd⟩
 obtain rfl:nj=1:=by
  obtain ⟨_,_,hv,_⟩:=hrd
  injection hv with _ e2 _
 clear hrd hRd
 go_upto_region 5 with fail
 obtain ⟨W5,dc⟩:∃ W5,(w4.alloc (.cells #[.int .i64 1,.int .i64 1,.slice aj 1 cj] 32)).alloc (.cells #[.int .i64 2,.int .i64 0] 34)=W5:=⟨_,rfl⟩
 have cU:Below w4.heap.size w4 W5:=by rw [<- dc];exact bS (bN _ _) (bN _ _)
 have tJ:Tri W5 w4.heap.size (.int .i64 1) (.int .i64 1) (.slice aj 1 cj):=by rw [<- dc];exact (zi _ _ _ _ _).alloc _
 have tK:Duo W5 (w4.heap.size+1) (.int .i64 2) (.int .i64 0):=by rw [<- dc];exact zjl _ _ _ _ _
 rw [dc]
 clear dc
 have gO:=bS cl (bS hbn3 (bS dd cU))
 have dP:=bS aZ (bS hbn2 gO)
 have gN:=bS be dP
 have hba:ba [1,1,1,1,2,0,0,0,0,10,0,0,0]={ data:=#[1,1,1,1,2,0,0,0,0,10,0,0,0] }:=by decide +kernel
 have hconv:=(HOB.out.to dP).conv
 rw [hba] at hconv
 clear hba
 obtain ⟨cz,c0,c1,c2,c3,c4,cf0,cf1,cf2,cf3,cf4⟩:=hC0.to gN
 obtain ⟨dz,d0,d1,d2,d3,d4,df0,df1,df2,df3,df4⟩:=hD2.to gO
 obtain ⟨j0,j1,j2,_⟩:=id tJ
 obtain ⟨k0,k1,_⟩:=id tK
 go_wp2_with fail
 refine (zde cA _ _ _ (G0.out.to gN) (G2.out.to gO)).mono ?_
 rintro e w6 ⟨rfl,dF⟩
 clear cz c0 c1 c2 c3 c4 cf0 cf1 cf2 cf3 cf4 dz d0 d1 d2 d3 d4 df0 df1 df2 df3 df4 j0 j1 j2 k0 k1 hconv
 obtain ⟨j0,j1,j2,_⟩:=tJ.to dF
 obtain ⟨k0,k1,_⟩:=tK.to dF
 go_wp2_with fail
 go_ret
 exact ⟨rfl,bS dE (bS gN dF)⟩

end Go.Proofs.YtkjcdnlpjldhaaaGreat

