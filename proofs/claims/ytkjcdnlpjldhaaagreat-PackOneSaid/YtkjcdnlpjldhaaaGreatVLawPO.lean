/-
  The walk of PackOne.
-/
import Derived.Test.YtkjcdnlpjldhaaaGreatK29
import Derived.Test.YtkjcdnlpjldhaaaGreatK05
set_option linter.unusedVariables false
set_option linter.unusedSimpArgs false
set_option maxRecDepth 100000
set_option maxHeartbeats 400000000
namespace Go.Proofs.YtkjcdnlpjldhaaaGreat
open Go.RowKit Tw
attribute [local go_sem ↓] Go.wp_at_zero Go.wp_at_succ

theorem ziB (w:World) (b off n cap:Nat) (l:List Nat) (hn:l.length=n) (h:∀ i,i<l.length->w.cell? ⟨b,off+i,none⟩=some (u8v (nth l i))) :
  (convert 54 9 (.slice (some ⟨b,off,none⟩) n cap)).run Tryz.prog w=.ok (.string (ba l)) w:=by
 rw [run_convert_bytes_string w 54 9 5 _ _ _ Tryz.underlying54 Tryz.underlying5 Tryz.underlying9]
 have hl:=run_loadCells_list (P:=Tryz.prog) (w:=w) ⟨b,off,none⟩ (l.map u8v) (fun j v hj => by
  rw [List.getElem?_map] at hj
  by_cases hjl:j<l.length
  ·rw [List.getElem?_eq_getElem hjl] at hj
   injection hj with hj
   subst hj
   rw [zaS,h j hjl,zaf hjl]
  ·rw [List.getElem?_eq_none (by omega)] at hj;cases hj)
 rw [List.length_map,hn] at hl
 have e:(l.map u8v)=(l.map (fun (x:Nat) => (x:Int))).map (Value.int .u8):=by rw [List.map_map];rfl
 rw [e] at hl
 rw [run_bytesToString w ⟨b,off,none⟩ n cap _ hl]
 congr 2
 have key:∀ (m:List Nat) (r:ByteArray),(m.map (fun (x:Nat) => (x:Int))).foldl (fun r n => r.push (UInt8.ofNat n.toNat)) r=r++ba m:=by
  intro m
  induction m with
  | nil =>
   intro r
   apply ByteArray.ext
   simp [ba,ByteArray.data_append]
  | cons x t ih =>
   intro r
   rw [List.map_cons,List.foldl_cons,ih]
   apply ByteArray.ext
   simp [ba,ByteArray.data_append,ByteArray.push]
 rw [key]
 apply ByteArray.ext
 simp [ByteArray.data_append]

theorem zek (w:World) {ops:Array Oper} {rest:List Oper} {o:Oper} {a:Act} {Q:Exit->Act->World->Prop} (hg:o.guard=none)
  (s x:Operand) (ho:o.op=Op.call { callee:=Callee.builtin Builtin.append,args:=#[s,x],argTypes:=#[54,54] })
  (v:Value) (l l2:List Nat) (b2 o2 n2 c2:Nat) (hs:a.eval s=v) (hx:a.eval x=.slice (some ⟨b2,o2,none⟩) n2 c2) (hown:zR 0 w v l)
  (hl2:l2.length=n2) (h0:0<n2) (h256:∀ x ∈ l2,x<256) (hcell:∀ j,j<l2.length->w.cell? ⟨b2,o2+j,none⟩=some (u8v (nth l2 j))) (hn:l.length+n2<=1099511627776) (H:Nat) (hH:w.heap.size=H)
  (hK:∀ g c w',zR 0 w' (.slice (some ⟨g,0,none⟩) (l.length+n2) c) (l++l2)->w.grownBy w' v.ownBlock->(v.ownBlock=some g\/g=H)->g<w'.heap.size->wpList Tryz.prog ops Q rest (a.put o.dst (.slice (some ⟨g,0,none⟩) (l.length+n2) c)) w') :
  wpList Tryz.prog ops Q (o :: rest) a w:=by
 obtain ⟨i0,hi,hz0,hz1,hz2⟩:=info_parts info8
 refine wpList_append_lies w hg s x 54 ho 0 5 i0 (.int .u8 0) 1 1 Tryz.underlying54 hi hz0 hz1 hz2 rfl (by decide) v l.length (l.map u8v) hs hown.2 ⟨b2,o2,none⟩ n2 c2 (l2.map u8v)
  hx (by simp [hl2]) (fun j u hj => ?_) (fun u hu => ?_) h0 (by simp [maxLen];omega) (by omega) (Nat.zero_le _) H hH ?_
 ·by_cases hjl:j<l2.length
  ·rw [List.getElem?_map,List.getElem?_eq_getElem hjl] at hj
   have hj:=Option.some.inj hj
   subst hj
   rw [zaS,hcell j hjl,zaf hjl]
  ·rw [List.getElem?_eq_none (by simp;omega)] at hj;cases hj
 ·obtain ⟨y,_,rfl⟩:=List.mem_map.1 hu;rfl
 ·intro g c w' hown' hgrow hat hlt
  refine hK g c w' ⟨fun y hy => ?_,?_⟩ hgrow hat hlt
  ·rcases List.mem_append.1 hy with hy|hy
   ·exact hown.1 y hy
   ·exact h256 y hy
  ·rw [List.length_append,List.map_append,hl2];exact hown'

theorem lit_none {w:World}:zR 0 (w.alloc (.cells #[] 5)) (.slice (some ⟨w.heap.size,0,none⟩) 0 0) [] :=
 ⟨fun y hy => (by cases hy),rfl,.inr ⟨w.heap.size,0,#[],rfl,Nat.zero_le _,heap_alloc_new _ _,Nat.le_refl _,Nat.zero_le _,rfl,rfl⟩⟩

theorem RdB.at0 {w:World} {a:Option Addr} {m c:Nat} {l:List Nat} (h:RdB w (.slice a m c) l) (hm:0<m):∃ b off,a=some ⟨b,off,none⟩/\b<w.heap.size/\∀ i,i<l.length->w.cell? ⟨b,off+i,none⟩=some (u8v (nth l i)):=by
 obtain ⟨_,a',c',e,_,_,h3⟩:=h
 injection e with e1 e2 e3
 subst e1
 obtain ⟨b,off,e4,k⟩:=h3 0 (by omega)
 refine ⟨b,off,e4,zj k,fun i hi => ?_⟩
 obtain ⟨b',off',e5,k'⟩:=h3 i hi
 rw [e4] at e5
 injection e5 with e5
 injection e5 with e5 e6
 subst e5 e6
 rw [k',zaf hi]

theorem walk_PackOne (v:Value) (b:List Nat) (a1 a2:Int) (w:World) (h:RdB w v b) (h10:0<=a1) (h11:a1<256) (h20:0<=a2) (h21:a2<256) :
  Calls Tryz.prog 10 #[v,.int .u8 a1,.int .u8 a2] w (Holds w):=by
 obtain ⟨ka,rfl⟩:=Int.eq_ofNat_of_zero_le h10
 obtain ⟨mo,rfl⟩:=Int.eq_ofNat_of_zero_le h20
 have h256:=h.1
 obtain ⟨a,m,c0,rfl,Hm,hmc,hcm⟩:=h.open
 have H:=Lib.hid h
 have H256:=Lib.hid h256
 clear h h256
 go_enter Tryz.func10,Tryz.ntmps10
 go_wp2_with fail
 refine (zabl _).mono ?_
 rintro e w1 ⟨rfl,aS⟩
 by_cases hm2:200<m
 ·have hmi:(200:Int)<(m:Int):=by omega
  go_wp2_with fail
  go_ret
  exact ⟨rfl,aS⟩
 ·have hmi:¬ ((200:Int)<(m:Int)):=by omega
  have Hb:=Lib.hid (show b.length<=200 by have:=Hm.out;omega)
  go_wp2_with fail
  refine (zbv _ b _ (H.out.to aS) (by have:=Hb.out;omega)).mono ?_
  rintro e w2 ⟨aM,h2⟩
  have da:=bS aS aM
  cases hd:zw b with
  | none =>
   rw [hd] at h2
   obtain rfl:=h2
   clear hd
   go_wp2_with fail
   have hz:IsC (w2.alloc (.cells #[.int .i64 zae.ins,.int .i64 zae.rows,.int .i64 zae.cols,.int .i64 zae.regs,.slice none 0 0] 24)) zae (.slice none 0 0):=⟨⟨none,0,rfl,Nat.le_refl _,Nat.zero_le _,fun i hi => absurd hi (by simp [zae])⟩,by unfold I64 zae;decide,by unfold I64 zae;decide,by unfold I64 zae;decide,by unfold I64 zae;decide⟩
   refine (zfe zae _ _ _ hz hz).mono ?_
   rintro e w3 ⟨rfl,bY⟩
   go_wp2_with fail
   go_ret
   exact ⟨rfl,bS da (bS (bN _ _) bY)⟩
  | some c =>
   rw [hd] at h2
   obtain ⟨u,rfl,hO⟩:=h2
   obtain ⟨hbc,hwc,hrc⟩:=zdZ H256.out hd
   obtain ⟨hsc,hlc⟩:=zko (by have:=Hb.out;omega) hd
   have hm0:0<m:=by
    rcases Nat.eq_zero_or_pos m with e|e
    ·exfalso
     have hbn:b=[]:=List.eq_nil_of_length_eq_zero (by rw [Hm.out];exact e)
     rw [hbn] at hd
     cases hd
    ·exact e
   have hIC:=ziV H256.out hd hO
   have HIC:=Lib.hid hIC
   have Hd:=Lib.hid hd
   have Hbc:=Lib.hid hbc
   have Hrc:=Lib.hid hrc
   have Hsc:=Lib.hid hsc
   have Hlc:=Lib.hid (show c.all.length<=1000 by have:=Hb.out;omega)
   obtain ⟨au,cu,hform,_⟩:=hO.form
   obtain ⟨nu,hnu⟩:∃ n,c.all.length=n:=⟨_,rfl⟩
   rw [hnu] at hform
   subst hform
   clear hO hIC hd hbc hwc hrc hsc hlc hnu
   obtain ⟨b0,off,rfl,dN,hcells⟩:=H.out.at0 hm0
   have Hcells:=Lib.hid hcells
   clear hcells
   go_upto_region 7 with fail
   obtain ⟨W2,d6⟩:∃ W2,w2.alloc (.cells #[.int .i64 c.ins,.int .i64 c.rows,.int .i64 c.cols,.int .i64 c.regs,.slice au nu cu] 24)=W2:=⟨_,rfl⟩
   have hbn2:Below w2.heap.size w2 W2:=by rw [<- d6];exact bN _ _
   have hC2:B5 W2 w2.heap.size (.int .i64 c.ins) (.int .i64 c.rows) (.int .i64 c.cols) (.int .i64 c.regs) (.slice au nu cu):=by
    rw [<- d6]
    unfold B5
    and_intros <;> first|(simp [go_sem];done)|(simp [go_sem];omega)
   rw [d6]
   clear d6
   obtain ⟨cz,c0_,c1_,c2_,c3_,c4_,cf0,cf1,cf2,cf3,cf4⟩:=id hC2
   go_wp2_with fail
   refine (zcz c _ _ (HIC.out.to hbn2) Hsc.out Hlc.out Hrc.out).mono ?_
   rintro e w3 ⟨g,n,cp,rfl,hOB,hg1,hg2,bY⟩
   rw [<- Hbc.out] at hOB
   have hn:n=m:=by rw [zcn hOB,Hm.out]
   subst n
   have hconv:=hOB.conv
   clear cz c0_ c1_ c2_ c3_ c4_ cf0 cf1 cf2 cf3 cf4 hOB
   have bA:=bS da (bS hbn2 bY)
   have hconv2:=ziB w3 b0 off m c0 b Hm.out (fun i hi => (bA.cell (p:=⟨b0,off+i,none⟩) dN).trans (Hcells.out i hi))
   obtain ⟨S,hS⟩:∃ S,ba b=S:=⟨_,rfl⟩
   rw [hS] at hconv hconv2
   clear hS
   have hm1:((m:Int) == 0)=false:=by simp;omega
   obtain ⟨cz,c0_,c1_,c2_,c3_,c4_,cf0,cf1,cf2,cf3,cf4⟩:=hC2.to bY
   go_wp2_with fail
   refine (zcs c _ _ (HIC.out.to (bS hbn2 bY)) Hsc.out true Hrc.out).mono ?_
   rintro e w4 ⟨rfl,di⟩
   clear hconv hconv2 cz c0_ c1_ c2_ c3_ c4_ cf0 cf1 cf2 cf3 cf4
   have gs:=bS bA di
   obtain ⟨kk,hkk⟩:∃ z,ka % m=z:=⟨_,rfl⟩
   have hkm:kk<m:=by rw [<- hkk];exact Nat.mod_lt _ hm0
   have htm:(ka:Int).tmod (m:Int)=(kk:Int):=by rw [<- hkk,Int.tmod_eq_emod_of_nonneg (by omega)];exact (Int.natCast_emod ka m).symm
   have hmz:¬ (m=0):=by omega
   have hkw:IntKind.i64.wrap (ka:Int)=(ka:Int):=IntWalk.i64_in _ (by omega)
   have hkc:(kk:Int)<=(c0:Int):=by omega
   clear hkk
   go_wp2_with fail
   have hbk:kk<=b.length:=by have:=Hm.out;omega
   have hdk:zw (b.take kk)=none:=by
    refine zhX (s:=b.drop kk) (fun e => ?_) (by rw [List.take_append_drop,Hd.out];rfl)
    have:=congrArg List.length e
    rw [List.length_drop,List.length_nil] at this
    have:=Hm.out
    omega
   have Hdk:=Lib.hid hdk
   clear hdk
   refine (zbv _ (b.take kk) _ ((H.out.to gs).take hbk) (by rw [List.length_take];have:=Hb.out;omega)).mono ?_
   rintro e w5 ⟨cV,h5⟩
   rw [Hdk.out] at h5
   obtain rfl:=h5
   have eV:=bS gs cV
   go_upto_region 11 with fail
   obtain ⟨W5,eL⟩:∃ W5,w5.alloc (.cells #[.int .i64 zae.ins,.int .i64 zae.rows,.int .i64 zae.cols,.int .i64 zae.regs,.slice none 0 0] 24)=W5:=⟨_,rfl⟩
   have hbn5:Below w5.heap.size w5 W5:=by rw [<- eL];exact bN _ _
   have hX5:B5 W5 w5.heap.size (.int .i64 zae.ins) (.int .i64 zae.rows) (.int .i64 zae.cols) (.int .i64 zae.regs) (.slice none 0 0):=by
    rw [<- eL]
    unfold B5
    and_intros <;> first|(simp [go_sem];done)|(simp [go_sem];omega)
   rw [eL]
   clear eL
   have gv:=bS eV hbn5
   have Hmb:=Lib.hid (show m<=1099511627776 by omega)
   go_wp2_with (first
    | (at_builtin;refine zek _ rfl (.tmp 74) (.tmp 75) rfl _ [] b b0 off m c0 rfl rfl lit_none Hm.out hm0 H256.out (fun i hi => ((bS gv (bN _ _)).cell (p:=⟨b0,off+i,none⟩) dN).trans (Hcells.out i hi)) (by simp;exact Hmb.out) _ rfl ?_;intro g6 c6 w6 hO6 hg6 hat6 hlt6;rw [List.nil_append,List.length_nil,Nat.zero_add] at hO6)
    | (at_builtin;refine zek _ rfl (.tmp 76) (.tmp 78) rfl _ b [mo] w6.heap.size 0 1 1 rfl rfl (hO6.alloc _) rfl (by decide) (by intro x hx;rw [List.mem_singleton.1 hx];omega) (fun j hj => by rw [Nat.zero_add];exact zeQ j hj) (by rw [Hm.out];omega) _ rfl ?_;intro g7 c7 w7 hO7 hg7 hat7 hlt7))
   have gi:Below W5.heap.size W5 w6:=(bN W5 _).grown hg6 (by simp) (fun q e => by have e:W5.heap.size=q:=Option.some.inj e;omega)
   have hg6':W5.heap.size<=g6:=by
    rcases hat6 with e|e
    ·have e:W5.heap.size=g6:=Option.some.inj e
     omega
    ·rw [e];simp
   have gM:Below W5.heap.size W5 w7:=(gi.alloc gi.size _).grown hg7 (by simp;have:=gi.size;omega) (fun q e => by have e:g6=q:=Option.some.inj e;omega)
   have hdm:zw (b++[mo])=none:=zdo (s:=[mo]) (by simp) (by rw [Hd.out];rfl)
   have Hdm:=Lib.hid hdm
   clear hdm
   refine (zbv _ (b++[mo]) _ hO7.rdB (by rw [List.length_append];have:=Hb.out;show b.length+1<=4000;omega)).mono ?_
   rintro e w8 ⟨eW,h8⟩
   rw [Hdm.out] at h8
   obtain rfl:=h8
   go_upto_region 12 with fail
   obtain ⟨W8,gC⟩:∃ W8,w8.alloc (.cells #[.int .i64 zae.ins,.int .i64 zae.rows,.int .i64 zae.cols,.int .i64 zae.regs,.slice none 0 0] 24)=W8:=⟨_,rfl⟩
   have hbn8:Below w8.heap.size w8 W8:=by rw [<- gC];exact bN _ _
   have hY8:B5 W8 w8.heap.size (.int .i64 zae.ins) (.int .i64 zae.rows) (.int .i64 zae.cols) (.int .i64 zae.regs) (.slice none 0 0):=by
    rw [<- gC]
    unfold B5
    and_intros <;> first|(simp [go_sem];done)|(simp [go_sem];omega)
   rw [gC]
   clear gC
   have gu:=bS gM (bS eW hbn8)
   obtain ⟨cz,c0_,c1_,c2_,c3_,c4_,cf0,cf1,cf2,cf3,cf4⟩:=hX5.to gu
   obtain ⟨dz,d0_,d1_,d2_,d3_,d4_,df0,df1,df2,df3,df4⟩:=hY8
   go_wp2_with fail
   go_ret
   exact ⟨rfl,bS gv gu⟩

end Go.Proofs.YtkjcdnlpjldhaaaGreat

