/-
  The texts PackEnc, merged.
-/
import Derived.Test.YtkjcdnlpjldhaaaGreatK26
import Derived.Test.YtkjcdnlpjldhaaaGreatK22
import Derived.Test.YtkjcdnlpjldhaaaGreatK20
import Derived.Deep.RegionHeld3
import Derived.RegionTactic
set_option linter.unusedVariables false
set_option linter.unusedSimpArgs false
set_option maxRecDepth 100000
set_option maxHeartbeats 400000000
namespace Go.Proofs.YtkjcdnlpjldhaaaGreat
open Go.RowKit Tw
attribute [local go_sem ↓] Go.wp_at_zero Go.wp_at_succ

def Ext (w:World) (v:Value) (l:List Nat) (v':Value) (ww:World):Prop :=
 zaj 0 ww v' l/\w.grownBy ww v.ownBlock/\(v'.ownBlock=v.ownBlock\/∀ g,v'.ownBlock=some g->w.heap.size<=g)

section

variable {w w' ww w2 w0 ww0:World} {v v' v2 v0:Value} {l l2 l0:List Nat} {e:Ending} {row:Option Nat}

theorem Ext.start (h:zaj 0 w v l):Ext w v l v w:=⟨h,zgA _ _,.inl rfl⟩

theorem Ext.gr (h:Ext w v l v' ww):w.grownBy ww v.ownBlock:=h.2.1

theorem Ext.own (h:Ext w v l v' ww):zaj 0 ww v' l:=h.1

theorem Ext.longer (h:Ext w v l v' ww) (k:zia ww v' l2 e w2):∃ g n c,e=.returned (.slice (some ⟨g,0,none⟩) n c)/\Ext w v l2 (.slice (some ⟨g,0,none⟩) n c) w2/\g<w2.heap.size/\ww.grownBy w2 v'.ownBlock:=by
 obtain ⟨h1,h2,h3⟩:=h
 obtain ⟨g,n,c,k1,k2,k3,k4,k5⟩:=k
 refine ⟨g,n,c,k1,⟨k2,zaM h2 k5 h3,?_⟩,k4,k5⟩
 rcases k3 with e|e
 ·rcases h3 with e3|e3
  ·exact .inl (by rw [<- e3,e];rfl)
  ·exact .inr (fun k hk => by have hk:g=k:=Option.some.inj hk;subst hk;exact e3 _ e)
 ·exact .inr (fun k hk => by have hk:g=k:=Option.some.inj hk;have:=h2.size;omega)

theorem Ext.alloc (h:Ext w v l v' ww) (o:Obj):Ext w v l v' (ww.alloc o):=⟨h.1.alloc o,zcD h.2.1 o,h.2.2⟩

theorem Ext.drew (h:Ext w v l v' ww):Ext w v l v' ww.drew:=⟨h.1.drew,zgz h.2.1,h.2.2⟩

theorem Ext.trans (h:Ext w0 v0 l v ww) (hb:Below ww.heap.size ww w) (k:Ext w v l2 v2 w2):Ext w0 v0 l2 v2 w2:=by
 refine ⟨k.1,zaM (zaM h.2.1 (Below.grows hb none) (.inr (fun k e => by cases e))) k.2.1 h.2.2,?_⟩
 rcases k.2.2 with e|e
 ·rw [e];exact h.2.2
 ·exact .inr (fun g hg => by have h1:=e g hg;have h2:=h.2.1.size;have h3:=hb.size;omega)

theorem Ext.to (h:Ext w v l v' ww) (hb:Below ww.heap.size ww w2):Ext w v l v' w2:=⟨h.1.to hb,zaM h.2.1 (Below.grows hb none) (.inr (fun k e => by cases e)),h.2.2⟩

theorem Ext.high (h:Ext w (.slice none 0 0) l v' ww):∀ g,v'.ownBlock=some g->w.heap.size<=g:=by
 rcases h.2.2 with e|e
 ·intro g hg;rw [e] at hg;cases hg
 ·exact e

theorem Ext.below (h:Ext w (.slice none 0 0) l v' ww):Below w.heap.size w ww:=zjn h.2.1 (fun k e => by cases e) (Nat.le_refl _)

theorem Ext.form (h:Ext w (.slice none 0 0) l v' ww) (hl:l≠[]):∃ g n c,v'=.slice (some ⟨g,0,none⟩) n c/\w.heap.size<=g/\g<ww.heap.size:=by
 obtain ⟨h1,h2,h3⟩:=h
 rcases h1.2.2 with ⟨rfl,h0⟩|⟨g,cap,cur,rfl,hg,hh,_⟩
 ·exact absurd (List.eq_nil_of_length_eq_zero h0) hl
 ·refine ⟨g,_,cap,rfl,?_,(h1.lt g rfl).2⟩
  rcases h3 with e|e
  ·cases e
  ·exact e g rfl

def RowN (w:World) (H:Nat) (L:List Nat):Prop:=∀ j (h:j<L.length),w.cell? ⟨H,j,none⟩=some (.int .i64 ((L[j]:Nat):Int))

theorem RowN.grown {H:Nat} {L:List Nat} (h:RowN w H L) (hg:w.grownBy w' row) (hne:row≠some H):RowN w' H L:=fun j hj => hg.cell (h j hj) (fun e => hne e.symm)

theorem wide_of {c:Cd} (hc:IsC w c v) (hs:zbo 1000 c.all):∀ x ∈ c.all,zdn x.q.n/\zdn x.q.d:=by
 intro x hx
 obtain ⟨i,hi,rfl⟩:=List.getElem_of_mem hx
 obtain ⟨a,cap,hv,_,_,h3⟩:=hc.1
 obtain ⟨b,off,_,h7⟩:=h3 i hi
 obtain ⟨vn,vd,_,_,_,hn,hd⟩:=h7.2.2.2.2.1
 have:=hs _ hx
 exact ⟨⟨by omega,hn.1⟩,⟨by omega,hd.1⟩⟩

theorem zfG (v:Value) (l:List Nat) (n:Nat) (z:Int) (w:World) (h:zaj 0 w v l) (hz:z=(n:Int)) (hn:n<268435456) (hl:l.length<=1000000000) :
  Calls Tryz.prog 49 #[v,.int .i64 z] w (zia w v (l++cnt n)):=by rw [hz];exact zbR v l n w h hn hl

theorem cnt_ne (n:Nat):cnt n≠[]:=fun e => by have:=(zew n).1;rw [e] at this;simp at this

end

theorem zdl (c:Cd) (v:Value) (w:World) (hc:IsC w c v) (hs:zbo 1000 c.all) (hA:c.all.length<=1000) (h1:zF c=true) :
  Calls Tryz.prog 27 #[aggC c v] w (fun e w' => ∃ g n cp,e=.returned (.tuple #[.slice (some ⟨g,0,none⟩) n cp,.int .i64 0])/\zaj 0 w' (.slice (some ⟨g,0,none⟩) n cp) (zaX c)/\w.heap.size<=g/\g<w'.heap.size/\Below w.heap.size w w'):=by
 have hwc:=wide_of hc hs
 have hW:=zeo h1 hwc
 obtain ⟨ins,rows,cols,regs,all⟩:=c
 obtain ⟨⟨p0,q0⟩,⟨p1,q1⟩,⟨p2,q2⟩,⟨p3,q3⟩,p4,hWi⟩:=hW
 simp only at p0 q0 p1 q1 p2 q2 p3 q3 p4 hWi hs hA hwc
 obtain ⟨I,rfl⟩:=Int.eq_ofNat_of_zero_le p0
 obtain ⟨R,rfl⟩:=Int.eq_ofNat_of_zero_le p1
 obtain ⟨C,rfl⟩:=Int.eq_ofNat_of_zero_le p2
 obtain ⟨G,rfl⟩:=Int.eq_ofNat_of_zero_le p3
 obtain ⟨a0,n0,c0,rfl,H0,hm0⟩:=hc.1.open
 have h0l:all.length=n0:=H0.out
 have H28:=Lib.hid (show ∀ x ∈ [I,R,C,G,n0],x<268435456 by intro x hx;simp only [List.mem_cons,List.not_mem_nil,or_false] at hx;omega)
 have hn0:n0<=1000:=by omega
 have Hs:=Lib.hid hs
 have HW:=Lib.hid hWi
 have Hwc:=Lib.hid hwc
 have Hr:=Lib.hid h1
 have Hbytes:=Lib.hid (show zaX ⟨(I:Int),(R:Int),(C:Int),(G:Int),all⟩=([I,R,C,G,n0].flatMap cnt)++all.flatMap zav by
  unfold zaX
  simp [h0l])
 clear h0l p0 q0 p1 q1 p2 q2 p3 q3 p4 hWi hs hA hwc h1
 go_enter Tryz.func27,Tryz.ntmps27
 go_wp2_with fail
 obtain ⟨W0,an⟩:∃ W0,w.alloc (.cells #[.int .i64 (I:Int),.int .i64 (R:Int),.int .i64 (C:Int),.int .i64 (G:Int),.slice a0 n0 c0] 24)=W0:=⟨_,rfl⟩
 have zb:Below w.heap.size w W0:=by rw [<- an];exact bN _ _
 have hC:B5 W0 w.heap.size (.int .i64 (I:Int)) (.int .i64 (R:Int)) (.int .i64 (C:Int)) (.int .i64 (G:Int)) (.slice a0 n0 c0):=by
  rw [<- an]
  unfold B5
  and_intros <;> first|(simp [go_sem];done)|(simp [go_sem];omega)
 rw [an]
 clear an
 have i0:=hc.to zb
 obtain ⟨cz,c0_,c1_,c2_,c3_,c4_,cf0,cf1,cf2,cf3,cf4⟩:=id hC
 go_wp2_with fail
 refine (zdF _ _ _ i0 Hs.out true Hr.out).mono ?_
 rintro e w1 ⟨rfl,be⟩
 clear cz c0_ c1_ c2_ c3_ c4_ cf0 cf1 cf2 cf3 cf4
 obtain ⟨cz,c0_,c1_,c2_,c3_,c4_,cf0,cf1,cf2,cf3,cf4⟩:=hC.to be
 go_wp2_with fail
 obtain ⟨Wa,hWa⟩:∃ Wa,w1.alloc (.cells #[.int .i64 (I:Int),.int .i64 (R:Int),.int .i64 (C:Int),.int .i64 (G:Int),.int .i64 (n0:Int)] 3)=Wa:=⟨_,rfl⟩
 have hba:Below w1.heap.size w1 Wa:=by rw [<- hWa];exact bN _ _
 have hrow:RowN Wa w1.heap.size [I,R,C,G,n0]:=by
  rw [<- hWa]
  intro j hj
  have hj5:j=0\/j=1\/j=2\/j=3\/j=4:=by simp at hj;omega
  rcases hj5 with rfl|rfl|rfl|rfl|rfl <;> simp [go_sem]
 have hCa:=Lib.hid ((hC.to be).to hba)
 have hHa:w1.heap.size<Wa.heap.size:=by rw [<- hWa];simp
 rw [hWa]
 clear hWa
 clear cz c0_ c1_ c2_ c3_ c4_ cf0 cf1 cf2 cf3 cf4
 have hbA:=bS zb (bS be hba)
 go_loopw [4,28] (fun v' i ww => ∃ (k:Nat) (l':List Nat),k<=5/\i=.int .i64 k/\Ext Wa (.slice none 0 0) l' v' ww/\Hid (l'++([I,R,C,G,n0].drop k).flatMap cnt=[I,R,C,G,n0].flatMap cnt)/\Hid (l'.length<=4*k)) (fun _ i _ => 5 - (intOf i).toNat)
 case atStart => exact ⟨0,[],Nat.zero_le _,rfl,Ext.start (zaj.nil _ _),rfl,Nat.zero_le _⟩
 case round =>
 obtain ⟨k,l',hk,rfl,hE,HB,HL⟩:=hrel
 by_cases hk5:k<5
 ·have hki:(k:Int)<5:=by omega
  have hkl:k<[I,R,C,G,n0].length:=hk5
  have hrc:=hrow.grown hE.2.1 (fun e => by cases e) k hkl
  have hx28:=H28.out _ (List.getElem_mem hkl)
  have hdr:([I,R,C,G,n0].drop k).flatMap cnt=cnt [I,R,C,G,n0][k]++([I,R,C,G,n0].drop (k+1)).flatMap cnt:=by rw [List.drop_eq_getElem_cons hkl,List.flatMap_cons]
  obtain ⟨x,hx⟩:∃ x,[I,R,C,G,n0][k]=x:=⟨_,rfl⟩
  rw [hx] at hrc hx28 hdr
  have Hdr:=Lib.hid hdr
  have HL28:=Lib.hid hx28
  clear hx hdr hx28
  go_wp2_with fail
  refine (zbR _ l' x _ hE.1 HL28.out (by have:=HL.out;omega)).mono ?_
  rintro e w2 hlo
  obtain ⟨g2,n2,c2,rfl,hE2,_,_⟩:=hE.longer hlo
  go_wp2_with fail
  go_roundw
  case rel =>
   refine ⟨k+1,l'++cnt x,by omega,by go_num,hE2,Lib.hid ?_,Lib.hid ?_⟩
   ·rw [<- HB.out,Hdr.out,List.append_assoc]
   ·rw [List.length_append]
    have:=HL.out
    have:=zJ HL28.out
    omega
  case measure => simp [intOf] <;> omega
 ·obtain rfl:k=5:=by omega
  have hki:¬ ((5:Int)<5):=by decide
  have HB5:=Lib.hid (show l'=[I,R,C,G,n0].flatMap cnt by have h:=HB.out;simpa using h)
  clear HB
  obtain ⟨cz,c0_,c1_,c2_,c3_,c4_,cf0,cf1,cf2,cf3,cf4⟩:=hCa.out.to hE.below
  go_wp2_with fail
  clear cz c0_ c1_ c2_ c3_ c4_ cf0 cf1 cf2 cf3 cf4
  go_loopw [4,39] (fun v' i ww => ∃ (v4:Value) (k:Nat) (l':List Nat),v4=v'/\k<=n0/\i=.int .i64 k/\Ext Wa (.slice none 0 0) l' v' ww/\Hid (l'++(all.drop k).flatMap zav=zaX ⟨(I:Int),(R:Int),(C:Int),(G:Int),all⟩)/\Hid (l'.length<=20+8028*k)) (fun _ i _ => n0 - (intOf i).toNat)
  case atStart => exact ⟨_,0,l',rfl,Nat.zero_le _,rfl,hE,Lib.hid (by rw [Hbytes.out,HB5.out];rfl),Lib.hid (by have:=HL.out;omega)⟩
  case round =>
  clear hE HB5 HL hk hk5 hki
  obtain ⟨v4,k,l',hv4,hk,rfl,hE,HB,HL⟩:=hrel
  subst hv4
  obtain ⟨wv,hwv⟩:∃ W,W=wr:=⟨_,rfl⟩
  subst hwv
  by_cases hkn:k<n0
  ·have hki:(k:Int)<(n0:Int):=by omega
   have hkl:k<all.length:=by rw [H0.out];exact hkn
   have hbr:=bS hbA hE.below
   obtain ⟨b,off,rfl,h7⟩:=hc.1.nth hkl
   have hsx:=Hs.out _ (List.getElem_mem hkl)
   have hWx:=HW.out _ (List.getElem_mem hkl)
   have hdr:(all.drop k).flatMap zav=zav all[k]++(all.drop (k+1)).flatMap zav:=by rw [List.drop_eq_getElem_cons hkl,List.flatMap_cons]
   obtain ⟨x,hx⟩:∃ x,all[k]=x:=⟨_,rfl⟩
   rw [hx] at h7 hsx hWx hdr
   have Hdr:=Lib.hid hdr
   have HLI:=Lib.hid (zgw hWx hsx.1 hsx.2)
   obtain ⟨⟨o0,o1⟩,⟨t0,t1⟩,⟨u0,u1⟩,⟨b0,b1⟩,hwn,hwd,hq0⟩:=hWx
   obtain ⟨vn,vd,s0,s1,s2,s3,s4,s5,s6,hX⟩:=h7.isX hsx.1 hsx.2
   have hbl:=zm s0
   replace s0:=(hbr.cell (p:=⟨b,off+k*7,none⟩) hbl).trans s0
   replace s1:=(hbr.cell (p:=⟨b,off+k*7+1,none⟩) hbl).trans s1
   replace s2:=(hbr.cell (p:=⟨b,off+k*7+2,none⟩) hbl).trans s2
   replace s3:=(hbr.cell (p:=⟨b,off+k*7+3,none⟩) hbl).trans s3
   replace s4:=(hbr.cell (p:=⟨b,off+k*7+4,none⟩) hbl).trans s4
   replace s5:=(hbr.cell (p:=⟨b,off+k*7+5,none⟩) hbl).trans s5
   replace s6:=(hbr.cell (p:=⟨b,off+k*7+6,none⟩) hbl).trans s6
   obtain ⟨O,hO⟩:=Int.eq_ofNat_of_zero_le o0
   obtain ⟨T,hT⟩:=Int.eq_ofNat_of_zero_le t0
   obtain ⟨A,hA⟩:=Int.eq_ofNat_of_zero_le u0
   obtain ⟨Bo,hBo⟩:=Int.eq_ofNat_of_zero_le b0
   obtain ⟨xb,hxb⟩:∃ z,x.b=z:=⟨_,rfl⟩
   have hbO:xb=if O=7 then (Bo:Int) - 64 else (Bo:Int):=by
    rw [<- hBo,<- hxb]
    unfold bOf
    rw [hO]
    by_cases h:O=7
    ·rw [if_pos h,if_pos (by omega)];omega
    ·rw [if_neg h,if_neg (by omega)]
   have Hx:=Lib.hid (show zav x=(cnt O++(cnt T++(cnt A++cnt Bo)))++(if O=1 then cnt (if x.q.ng then 1 else 0)++(zbp x.q.n++zbp x.q.d) else []) by
    unfold zav
    rw [hO,hT,hA,hBo]
    simp only [Int.toNat_natCast,List.append_assoc]
    congr 4
    by_cases h:O=1
    ·rw [if_pos h,if_pos (by omega)]
    ·rw [if_neg h,if_neg (by omega)])
   have hO28:O<268435456:=by omega
   have H4:=Lib.hid (show ∀ y ∈ [O,T,A,Bo],y<268435456 by intro y hy;simp only [List.mem_cons,List.not_mem_nil,or_false] at hy;omega)
   rw [hO] at s0
   rw [hT] at s1
   rw [hA] at s2
   rw [hxb] at s3
   obtain ⟨a1,n1,c1,rfl,H1,hm1⟩:=hX.1.1.open
   obtain ⟨a2,n2,c2,rfl,H2,hm2⟩:=hX.1.2.1.open
   have HXn:=Lib.hid hX.1.1
   have HXd:=Lib.hid hX.1.2.1
   have Hwn:=Lib.hid hwn
   have Hwd:=Lib.hid hwd
   have Hsx:=Lib.hid hsx
   obtain ⟨ng,hng⟩:∃ z,x.q.ng=z:=⟨_,rfl⟩
   rw [hng] at s4 Hx
   have hlv:∀ g,v4.ownBlock=some g->g<wv.heap.size:=fun g hg => (hE.1.lt g hg).2
   have HLV:=Lib.hid hlv
   clear h7 hsx hdr hx o0 o1 t0 t1 u0 u1 b0 b1 hwn hwd hq0 hX hO hT hA hBo hxb hng hlv
   by_cases h7o:O=7
   ·have v7:((O:Int) == 7)=true:=by simp;omega
    have v1:((O:Int) != 1)=true:=by simp;omega
    have hb64:IntKind.i64.wrap (xb+64)=(Bo:Int):=by rw [hbO,if_pos h7o];rw [show (Bo:Int) - 64+64=(Bo:Int) by omega];exact IntWalk.i64_in _ (by have:=H4.out Bo (by simp);omega)
    have h1o:¬ O=1:=by omega
    rw [if_neg h1o,List.append_nil] at Hx
    clear hbO h7o h1o
    go_wp2_with fail
    obtain ⟨Wx,hWx⟩:∃ Wx,(wv.alloc (.cells #[.int .i64 (O:Int),.int .i64 (T:Int),.int .i64 (A:Int),.int .i64 (Bo:Int),.bool ng,.slice a1 n1 c1,.slice a2 n2 c2] 49))=Wx:=⟨_,rfl⟩
    have hbx:Below wv.heap.size wv Wx:=by rw [<- hWx];exact bN _ _
    have hxs:Wx.heap.size=wv.heap.size+1:=by rw [<- hWx];simp [go_sem]
    have hx0:Wx.cell? ⟨wv.heap.size,0,none⟩=some (.int .i64 (O:Int))/\Wx.cell? ⟨wv.heap.size,1,none⟩=some (.int .i64 (T:Int))/\Wx.cell? ⟨wv.heap.size,2,none⟩=some (.int .i64 (A:Int))/\Wx.cell? ⟨wv.heap.size,3,none⟩=some (.int .i64 (Bo:Int))/\Wx.cell? ⟨wv.heap.size,4,none⟩=some (.bool ng)/\Wx.cell? ⟨wv.heap.size,5,none⟩=some (.slice a1 n1 c1)/\Wx.cell? ⟨wv.heap.size,6,none⟩=some (.slice a2 n2 c2):=by
     rw [<- hWx]
     refine ⟨?_,?_,?_,?_,?_,?_,?_⟩ <;> simp [go_sem]
    rw [hWx]
    clear hWx
    obtain ⟨Wc,hWc⟩:∃ Wc,Wx.alloc (.cells #[.int .i64 (O:Int),.int .i64 (T:Int),.int .i64 (A:Int),.int .i64 (Bo:Int)] 3)=Wc:=⟨_,rfl⟩
    have hbc:Below Wx.heap.size Wx Wc:=by rw [<- hWc];exact bN _ _
    have hrow4:RowN Wc (wv.heap.size+1) [O,T,A,Bo]:=by
     rw [<- hWc,<- hxs]
     intro j hj
     have hj4:j=0\/j=1\/j=2\/j=3:=by simp at hj;omega
     rcases hj4 with rfl|rfl|rfl|rfl <;> simp [go_sem]
    have hcs:Wc.heap.size=wv.heap.size+2:=by rw [<- hWc];simp [go_sem,hxs]
    try rw [hWc]
    clear hWc
    have hbxc:=bS hbx hbc
    have HX0:Hid (∀ W',Wc.grownBy W' v4.ownBlock->(W'.cell? ⟨wv.heap.size,0,none⟩=some (.int .i64 (O:Int))/\W'.cell? ⟨wv.heap.size,1,none⟩=some (.int .i64 (T:Int))/\W'.cell? ⟨wv.heap.size,2,none⟩=some (.int .i64 (A:Int))/\W'.cell? ⟨wv.heap.size,3,none⟩=some (.int .i64 (Bo:Int))/\W'.cell? ⟨wv.heap.size,4,none⟩=some (.bool ng)/\W'.cell? ⟨wv.heap.size,5,none⟩=some (.slice a1 n1 c1)/\W'.cell? ⟨wv.heap.size,6,none⟩=some (.slice a2 n2 c2))):=fun W' hg => by
     have hne:∀ o,some (⟨wv.heap.size,o,none⟩:Addr).block≠v4.ownBlock:=fun o e => by have:=HLV.out _ e.symm;exact absurd this (Nat.lt_irrefl _)
     obtain ⟨k0,k1,k2,k3,k4,k5,k6⟩:=hx0
     have hl:wv.heap.size<Wx.heap.size:=by omega
     exact ⟨hg.cell ((hbc.cell (p:=⟨wv.heap.size,0,none⟩) hl).trans k0) (hne _),hg.cell ((hbc.cell (p:=⟨wv.heap.size,1,none⟩) hl).trans k1) (hne _),hg.cell ((hbc.cell (p:=⟨wv.heap.size,2,none⟩) hl).trans k2) (hne _),hg.cell ((hbc.cell (p:=⟨wv.heap.size,3,none⟩) hl).trans k3) (hne _),hg.cell ((hbc.cell (p:=⟨wv.heap.size,4,none⟩) hl).trans k4) (hne _),hg.cell ((hbc.cell (p:=⟨wv.heap.size,5,none⟩) hl).trans k5) (hne _),hg.cell ((hbc.cell (p:=⟨wv.heap.size,6,none⟩) hl).trans k6) (hne _)⟩
    have hEc:Ext Wc v4 l' v4 Wc:=Ext.start (hE.1.to hbxc)
    clear hx0
    go_loopw [4,60] (fun v' i ww => ∃ (j:Nat) (l3:List Nat),j<=4/\i=.int .i64 j/\Ext Wc v4 l3 v' ww/\Hid (l3++([O,T,A,Bo].drop j).flatMap cnt=l'++(cnt O++(cnt T++(cnt A++cnt Bo))))/\Hid (l3.length<=l'.length+4*j)) (fun _ i _ => 4 - (intOf i).toNat)
    case atStart => exact ⟨0,l',Nat.zero_le _,rfl,hEc,Lib.hid (by simp),Lib.hid (by omega)⟩
    case round =>
    obtain ⟨j,l3,hj,rfl,hE3,HB3,HL3⟩:=hrel
    by_cases hj4:j<4
    ·have hji:(j:Int)<4:=by omega
     have hjl:j<[O,T,A,Bo].length:=hj4
     have hrc:=hrow4.grown hE3.2.1 (fun e => by have:=HLV.out _ e;omega) j hjl
     have hy28:=H4.out _ (List.getElem_mem hjl)
     have hdr:([O,T,A,Bo].drop j).flatMap cnt=cnt [O,T,A,Bo][j]++([O,T,A,Bo].drop (j+1)).flatMap cnt:=by rw [List.drop_eq_getElem_cons hjl,List.flatMap_cons]
     obtain ⟨y,hy⟩:∃ y,[O,T,A,Bo][j]=y:=⟨_,rfl⟩
     rw [hy] at hrc hy28 hdr
     have Hdr3:=Lib.hid hdr
     have HL28:=Lib.hid hy28
     clear hy hdr hy28
     go_wp2_with fail
     refine (zbR _ l3 y _ hE3.1 HL28.out (by have:=HL3.out;have:=HL.out;omega)).mono ?_
     rintro e w2 hlo
     obtain ⟨g2,n2_,c2_,rfl,hE4,_,_⟩:=hE3.longer hlo
     go_wp2_with fail
     go_roundw
     case rel =>
      refine ⟨j+1,l3++cnt y,by omega,by go_num,hE4,Lib.hid ?_,Lib.hid ?_⟩
      ·rw [<- HB3.out,Hdr3.out,List.append_assoc]
      ·rw [List.length_append]
       have:=HL3.out
       have:=zJ HL28.out
       omega
     case measure => simp [intOf] <;> omega
    ·obtain rfl:j=4:=by omega
     have hji:¬ ((4:Int)<4):=by decide
     have HB4:=Lib.hid (show l3=l'++(cnt O++(cnt T++(cnt A++cnt Bo))) by have h:=HB3.out;simpa using h)
     clear HB3
     obtain ⟨m0,m1,m2,m3,m4,m5,m6⟩:=HX0.out _ hE3.2.1
     go_wp2_with fail
     go_roundw
     case rel =>
      refine ⟨_,k+1,l3,rfl,by omega,by go_num,hE.trans hbxc hE3,Lib.hid ?_,Lib.hid ?_⟩
      ·rw [<- HB.out,HB4.out,Hdr.out,Hx.out]
       simp only [List.append_assoc]
      ·have:=HL3.out
       have:=HL.out
       omega
     case measure => simp [intOf] <;> omega
   ·by_cases h1o:O=1
    ·have v7:((O:Int) == 7)=false:=by simp;omega
     have v1:((O:Int) != 1)=false:=by simp;omega
     obtain rfl:xb=(Bo:Int):=by rw [hbO,if_neg h7o]
     rw [if_pos h1o] at Hx
     clear hbO h7o h1o
     go_wp2_with fail
     obtain ⟨Wx,hWx⟩:∃ Wx,(wv.alloc (.cells #[.int .i64 (O:Int),.int .i64 (T:Int),.int .i64 (A:Int),.int .i64 (Bo:Int),.bool ng,.slice a1 n1 c1,.slice a2 n2 c2] 49))=Wx:=⟨_,rfl⟩
     have hbx:Below wv.heap.size wv Wx:=by rw [<- hWx];exact bN _ _
     have hxs:Wx.heap.size=wv.heap.size+1:=by rw [<- hWx];simp [go_sem]
     have hx0:Wx.cell? ⟨wv.heap.size,0,none⟩=some (.int .i64 (O:Int))/\Wx.cell? ⟨wv.heap.size,1,none⟩=some (.int .i64 (T:Int))/\Wx.cell? ⟨wv.heap.size,2,none⟩=some (.int .i64 (A:Int))/\Wx.cell? ⟨wv.heap.size,3,none⟩=some (.int .i64 (Bo:Int))/\Wx.cell? ⟨wv.heap.size,4,none⟩=some (.bool ng)/\Wx.cell? ⟨wv.heap.size,5,none⟩=some (.slice a1 n1 c1)/\Wx.cell? ⟨wv.heap.size,6,none⟩=some (.slice a2 n2 c2):=by
      rw [<- hWx]
      refine ⟨?_,?_,?_,?_,?_,?_,?_⟩ <;> simp [go_sem]
     rw [hWx]
     clear hWx
     obtain ⟨Wc,hWc⟩:∃ Wc,Wx.alloc (.cells #[.int .i64 (O:Int),.int .i64 (T:Int),.int .i64 (A:Int),.int .i64 (Bo:Int)] 3)=Wc:=⟨_,rfl⟩
     have hbc:Below Wx.heap.size Wx Wc:=by rw [<- hWc];exact bN _ _
     have hrow4:RowN Wc (wv.heap.size+1) [O,T,A,Bo]:=by
      rw [<- hWc,<- hxs]
      intro j hj
      have hj4:j=0\/j=1\/j=2\/j=3:=by simp at hj;omega
      rcases hj4 with rfl|rfl|rfl|rfl <;> simp [go_sem]
     have hcs:Wc.heap.size=wv.heap.size+2:=by rw [<- hWc];simp [go_sem,hxs]
     try rw [hWc]
     clear hWc
     have hbxc:=bS hbx hbc
     have HX0:Hid (∀ W',Wc.grownBy W' v4.ownBlock->(W'.cell? ⟨wv.heap.size,0,none⟩=some (.int .i64 (O:Int))/\W'.cell? ⟨wv.heap.size,1,none⟩=some (.int .i64 (T:Int))/\W'.cell? ⟨wv.heap.size,2,none⟩=some (.int .i64 (A:Int))/\W'.cell? ⟨wv.heap.size,3,none⟩=some (.int .i64 (Bo:Int))/\W'.cell? ⟨wv.heap.size,4,none⟩=some (.bool ng)/\W'.cell? ⟨wv.heap.size,5,none⟩=some (.slice a1 n1 c1)/\W'.cell? ⟨wv.heap.size,6,none⟩=some (.slice a2 n2 c2))):=fun W' hg => by
      have hne:∀ o,some (⟨wv.heap.size,o,none⟩:Addr).block≠v4.ownBlock:=fun o e => by have:=HLV.out _ e.symm;exact absurd this (Nat.lt_irrefl _)
      obtain ⟨k0,k1,k2,k3,k4,k5,k6⟩:=hx0
      have hl:wv.heap.size<Wx.heap.size:=by omega
      exact ⟨hg.cell ((hbc.cell (p:=⟨wv.heap.size,0,none⟩) hl).trans k0) (hne _),hg.cell ((hbc.cell (p:=⟨wv.heap.size,1,none⟩) hl).trans k1) (hne _),hg.cell ((hbc.cell (p:=⟨wv.heap.size,2,none⟩) hl).trans k2) (hne _),hg.cell ((hbc.cell (p:=⟨wv.heap.size,3,none⟩) hl).trans k3) (hne _),hg.cell ((hbc.cell (p:=⟨wv.heap.size,4,none⟩) hl).trans k4) (hne _),hg.cell ((hbc.cell (p:=⟨wv.heap.size,5,none⟩) hl).trans k5) (hne _),hg.cell ((hbc.cell (p:=⟨wv.heap.size,6,none⟩) hl).trans k6) (hne _)⟩
     have hEc:Ext Wc v4 l' v4 Wc:=Ext.start (hE.1.to hbxc)
     clear hx0
     go_loopw [4,60] (fun v' i ww => ∃ (j:Nat) (l3:List Nat),j<=4/\i=.int .i64 j/\Ext Wc v4 l3 v' ww/\Hid (l3++([O,T,A,Bo].drop j).flatMap cnt=l'++(cnt O++(cnt T++(cnt A++cnt Bo))))/\Hid (l3.length<=l'.length+4*j)) (fun _ i _ => 4 - (intOf i).toNat)
     case atStart => exact ⟨0,l',Nat.zero_le _,rfl,hEc,Lib.hid (by simp),Lib.hid (by omega)⟩
     case round =>
     obtain ⟨j,l3,hj,rfl,hE3,HB3,HL3⟩:=hrel
     by_cases hj4:j<4
     ·have hji:(j:Int)<4:=by omega
      have hjl:j<[O,T,A,Bo].length:=hj4
      have hrc:=hrow4.grown hE3.2.1 (fun e => by have:=HLV.out _ e;omega) j hjl
      have hy28:=H4.out _ (List.getElem_mem hjl)
      have hdr:([O,T,A,Bo].drop j).flatMap cnt=cnt [O,T,A,Bo][j]++([O,T,A,Bo].drop (j+1)).flatMap cnt:=by rw [List.drop_eq_getElem_cons hjl,List.flatMap_cons]
      obtain ⟨y,hy⟩:∃ y,[O,T,A,Bo][j]=y:=⟨_,rfl⟩
      rw [hy] at hrc hy28 hdr
      have Hdr3:=Lib.hid hdr
      have HL28:=Lib.hid hy28
      clear hy hdr hy28
      go_wp2_with fail
      refine (zbR _ l3 y _ hE3.1 HL28.out (by have:=HL3.out;have:=HL.out;omega)).mono ?_
      rintro e w2 hlo
      obtain ⟨g2,n2_,c2_,rfl,hE4,_,_⟩:=hE3.longer hlo
      go_wp2_with fail
      go_roundw
      case rel =>
       refine ⟨j+1,l3++cnt y,by omega,by go_num,hE4,Lib.hid ?_,Lib.hid ?_⟩
       ·rw [<- HB3.out,Hdr3.out,List.append_assoc]
       ·rw [List.length_append]
        have:=HL3.out
        have:=zJ HL28.out
        omega
      case measure => simp [intOf] <;> omega
     ·obtain rfl:j=4:=by omega
      have hji:¬ ((4:Int)<4):=by decide
      have HB4:=Lib.hid (show l3=l'++(cnt O++(cnt T++(cnt A++cnt Bo))) by have h:=HB3.out;simpa using h)
      clear HB3
      obtain ⟨m0,m1,m2,m3,m4,m5,m6⟩:=HX0.out _ hE3.2.1
      clear m1 m2 m3
      have HXS:Hid (∀ W',Wc.grownBy W' v4.ownBlock->(W'.cell? ⟨wv.heap.size,5,none⟩=some (.slice a1 n1 c1)/\W'.cell? ⟨wv.heap.size,6,none⟩=some (.slice a2 n2 c2))):=fun W' hg => by
       obtain ⟨_,_,_,_,_,k5,k6⟩:=HX0.out W' hg
       exact ⟨k5,k6⟩
      have HLa:=Lib.hid (show l3.length<=8100000 by have:=HL3.out;have:=HL.out;omega)
      have hE7:=hE3
      clear HX0
      cases ng
      all_goals
       go_wp2_with fail
       go_region_held3 (fun W' => W'.cell? ⟨wv.heap.size,5,none⟩=some (.slice a1 n1 c1)/\W'.cell? ⟨wv.heap.size,6,none⟩=some (.slice a2 n2 c2)) (with_reducible first|(exact HXS.out _ hE7.gr)|((refine HXS.out _ ?_);repeat' (first|(exact hE7.gr)|(refine zgz ?_)))) (first
        | (go_at_call 50;(refine zl x8 (by with_reducible first|exact Below.refl _ _|exact (Below.refl _ _).drew) ?_);intro V9 hV9 ip;have hE7:=hE7.to ip;have hT:=hE.trans hbxc hE7;(with_reducible refine (zjJ _ _ _ x.q.d _ hE7.own (HXd.out.to (bS hbA hT.below)) Hwd.out (Far.of_rd HXd.out (fun g hg => by have h1:=hT.high g hg;have h2:=hbA.size;omega)) (by simp only [List.length_append];have h1:=HLa.out;have h2:=zct Hwn.out;have h3:=Hsx.out.1;have h4:=zJ (n:=1) (by decide);have h5:=zJ (n:=0) (by decide);omega) (by have h3:=Hsx.out.2;omega)).mono ?_);rintro e x9 hlo9;obtain ⟨g9,n9,c9,rfl,hE7,_,_⟩:=hE7.longer hlo9;obtain ⟨m5,m6⟩:=HXS.out _ hE7.gr)
        | (go_at_call 50;(refine zl x7 (by with_reducible first|exact Below.refl _ _|exact (Below.refl _ _).drew) ?_);intro V8 hV8 io;have hE7:=hE7.to io;have hT:=hE.trans hbxc hE7;(with_reducible refine (zjJ _ _ _ x.q.n _ hE7.own (HXn.out.to (bS hbA hT.below)) Hwn.out (Far.of_rd HXn.out (fun g hg => by have h1:=hT.high g hg;have h2:=hbA.size;omega)) (by simp only [List.length_append];have h1:=HLa.out;have h4:=zJ (n:=1) (by decide);have h5:=zJ (n:=0) (by decide);omega) (by have h3:=Hsx.out.1;omega)).mono ?_);rintro e x8 hlo8;obtain ⟨g8,n8,c8,rfl,hE7,_,_⟩:=hE7.longer hlo8;obtain ⟨m5,m6⟩:=HXS.out _ hE7.gr)
        | (go_at_call 49;(refine zl wr (by with_reducible first|exact (Below.refl _ _).drew|exact Below.refl _ _) ?_);intro V7 iM fq;have hE7:=hE7.to fq;(first|(with_reducible refine (zfG _ _ 0 0 _ hE7.own (by decide) (by decide) (by have h1:=HLa.out;omega)).mono ?_)|(with_reducible refine (zfG _ _ 1 1 _ hE7.own (by decide) (by decide) (by have h1:=HLa.out;omega)).mono ?_));rintro e x7 hlo7;obtain ⟨g7,n7,c7,rfl,hE7,_,_⟩:=hE7.longer hlo7;obtain ⟨m5,m6⟩:=HXS.out _ hE7.gr))
       go_wp2_with fail
       go_roundw
       case rel =>
        refine ⟨_,k+1,_,rfl,by omega,by go_num,hE.trans hbxc hE7,Lib.hid ?_,Lib.hid ?_⟩
        ·rw [<- HB.out,Hdr.out,Hx.out,HB4.out]
         simp [List.append_assoc]
        ·simp only [List.length_append]
         have h1:=HL3.out
         have h2:=HL.out
         have h3:=zct Hwn.out
         have h4:=zct Hwd.out
         have h5:=Hsx.out
         have h6:=zJ (n:=1) (by decide)
         have h7:=zJ (n:=0) (by decide)
         omega
       case measure => simp [intOf] <;> omega
    ·have v7:((O:Int) == 7)=false:=by simp;omega
     have v1:((O:Int) != 1)=true:=by simp;omega
     obtain rfl:xb=(Bo:Int):=by rw [hbO,if_neg h7o]
     rw [if_neg h1o,List.append_nil] at Hx
     clear hbO h7o h1o
     go_wp2_with fail
     obtain ⟨Wx,hWx⟩:∃ Wx,(wv.alloc (.cells #[.int .i64 (O:Int),.int .i64 (T:Int),.int .i64 (A:Int),.int .i64 (Bo:Int),.bool ng,.slice a1 n1 c1,.slice a2 n2 c2] 49))=Wx:=⟨_,rfl⟩
     have hbx:Below wv.heap.size wv Wx:=by rw [<- hWx];exact bN _ _
     have hxs:Wx.heap.size=wv.heap.size+1:=by rw [<- hWx];simp [go_sem]
     have hx0:Wx.cell? ⟨wv.heap.size,0,none⟩=some (.int .i64 (O:Int))/\Wx.cell? ⟨wv.heap.size,1,none⟩=some (.int .i64 (T:Int))/\Wx.cell? ⟨wv.heap.size,2,none⟩=some (.int .i64 (A:Int))/\Wx.cell? ⟨wv.heap.size,3,none⟩=some (.int .i64 (Bo:Int))/\Wx.cell? ⟨wv.heap.size,4,none⟩=some (.bool ng)/\Wx.cell? ⟨wv.heap.size,5,none⟩=some (.slice a1 n1 c1)/\Wx.cell? ⟨wv.heap.size,6,none⟩=some (.slice a2 n2 c2):=by
      rw [<- hWx]
      refine ⟨?_,?_,?_,?_,?_,?_,?_⟩ <;> simp [go_sem]
     rw [hWx]
     clear hWx
     obtain ⟨Wc,hWc⟩:∃ Wc,Wx.alloc (.cells #[.int .i64 (O:Int),.int .i64 (T:Int),.int .i64 (A:Int),.int .i64 (Bo:Int)] 3)=Wc:=⟨_,rfl⟩
     have hbc:Below Wx.heap.size Wx Wc:=by rw [<- hWc];exact bN _ _
     have hrow4:RowN Wc (wv.heap.size+1) [O,T,A,Bo]:=by
      rw [<- hWc,<- hxs]
      intro j hj
      have hj4:j=0\/j=1\/j=2\/j=3:=by simp at hj;omega
      rcases hj4 with rfl|rfl|rfl|rfl <;> simp [go_sem]
     have hcs:Wc.heap.size=wv.heap.size+2:=by rw [<- hWc];simp [go_sem,hxs]
     try rw [hWc]
     clear hWc
     have hbxc:=bS hbx hbc
     have HX0:Hid (∀ W',Wc.grownBy W' v4.ownBlock->(W'.cell? ⟨wv.heap.size,0,none⟩=some (.int .i64 (O:Int))/\W'.cell? ⟨wv.heap.size,1,none⟩=some (.int .i64 (T:Int))/\W'.cell? ⟨wv.heap.size,2,none⟩=some (.int .i64 (A:Int))/\W'.cell? ⟨wv.heap.size,3,none⟩=some (.int .i64 (Bo:Int))/\W'.cell? ⟨wv.heap.size,4,none⟩=some (.bool ng)/\W'.cell? ⟨wv.heap.size,5,none⟩=some (.slice a1 n1 c1)/\W'.cell? ⟨wv.heap.size,6,none⟩=some (.slice a2 n2 c2))):=fun W' hg => by
      have hne:∀ o,some (⟨wv.heap.size,o,none⟩:Addr).block≠v4.ownBlock:=fun o e => by have:=HLV.out _ e.symm;exact absurd this (Nat.lt_irrefl _)
      obtain ⟨k0,k1,k2,k3,k4,k5,k6⟩:=hx0
      have hl:wv.heap.size<Wx.heap.size:=by omega
      exact ⟨hg.cell ((hbc.cell (p:=⟨wv.heap.size,0,none⟩) hl).trans k0) (hne _),hg.cell ((hbc.cell (p:=⟨wv.heap.size,1,none⟩) hl).trans k1) (hne _),hg.cell ((hbc.cell (p:=⟨wv.heap.size,2,none⟩) hl).trans k2) (hne _),hg.cell ((hbc.cell (p:=⟨wv.heap.size,3,none⟩) hl).trans k3) (hne _),hg.cell ((hbc.cell (p:=⟨wv.heap.size,4,none⟩) hl).trans k4) (hne _),hg.cell ((hbc.cell (p:=⟨wv.heap.size,5,none⟩) hl).trans k5) (hne _),hg.cell ((hbc.cell (p:=⟨wv.heap.size,6,none⟩) hl).trans k6) (hne _)⟩
     have hEc:Ext Wc v4 l' v4 Wc:=Ext.start (hE.1.to hbxc)
     clear hx0
     go_loopw [4,60] (fun v' i ww => ∃ (j:Nat) (l3:List Nat),j<=4/\i=.int .i64 j/\Ext Wc v4 l3 v' ww/\Hid (l3++([O,T,A,Bo].drop j).flatMap cnt=l'++(cnt O++(cnt T++(cnt A++cnt Bo))))/\Hid (l3.length<=l'.length+4*j)) (fun _ i _ => 4 - (intOf i).toNat)
     case atStart => exact ⟨0,l',Nat.zero_le _,rfl,hEc,Lib.hid (by simp),Lib.hid (by omega)⟩
     case round =>
     obtain ⟨j,l3,hj,rfl,hE3,HB3,HL3⟩:=hrel
     by_cases hj4:j<4
     ·have hji:(j:Int)<4:=by omega
      have hjl:j<[O,T,A,Bo].length:=hj4
      have hrc:=hrow4.grown hE3.2.1 (fun e => by have:=HLV.out _ e;omega) j hjl
      have hy28:=H4.out _ (List.getElem_mem hjl)
      have hdr:([O,T,A,Bo].drop j).flatMap cnt=cnt [O,T,A,Bo][j]++([O,T,A,Bo].drop (j+1)).flatMap cnt:=by rw [List.drop_eq_getElem_cons hjl,List.flatMap_cons]
      obtain ⟨y,hy⟩:∃ y,[O,T,A,Bo][j]=y:=⟨_,rfl⟩
      rw [hy] at hrc hy28 hdr
      have Hdr3:=Lib.hid hdr
      have HL28:=Lib.hid hy28
      clear hy hdr hy28
      go_wp2_with fail
      refine (zbR _ l3 y _ hE3.1 HL28.out (by have:=HL3.out;have:=HL.out;omega)).mono ?_
      rintro e w2 hlo
      obtain ⟨g2,n2_,c2_,rfl,hE4,_,_⟩:=hE3.longer hlo
      go_wp2_with fail
      go_roundw
      case rel =>
       refine ⟨j+1,l3++cnt y,by omega,by go_num,hE4,Lib.hid ?_,Lib.hid ?_⟩
       ·rw [<- HB3.out,Hdr3.out,List.append_assoc]
       ·rw [List.length_append]
        have:=HL3.out
        have:=zJ HL28.out
        omega
      case measure => simp [intOf] <;> omega
     ·obtain rfl:j=4:=by omega
      have hji:¬ ((4:Int)<4):=by decide
      have HB4:=Lib.hid (show l3=l'++(cnt O++(cnt T++(cnt A++cnt Bo))) by have h:=HB3.out;simpa using h)
      clear HB3
      obtain ⟨m0,m1,m2,m3,m4,m5,m6⟩:=HX0.out _ hE3.2.1
      go_wp2_with fail
      go_roundw
      case rel =>
       refine ⟨_,k+1,l3,rfl,by omega,by go_num,hE.trans hbxc hE3,Lib.hid ?_,Lib.hid ?_⟩
       ·rw [<- HB.out,HB4.out,Hdr.out,Hx.out]
        simp only [List.append_assoc]
       ·have:=HL3.out
        have:=HL.out
        omega
      case measure => simp [intOf] <;> omega
  ·obtain rfl:k=n0:=by omega
   have hki:¬ ((k:Int)<(k:Int)):=by omega
   have HE:=Lib.hid (show l'=zaX ⟨(I:Int),(R:Int),(C:Int),(G:Int),all⟩ by have h:=HB.out;rw [<- H0.out,List.drop_length] at h;simpa using h)
   obtain ⟨g,n,cp,rfl,hg1,hg2⟩:=hE.form (by rw [HE.out,Hbytes.out];show cnt I++_++_≠[];intro h;exact cnt_ne I (List.append_eq_nil_iff.1 (List.append_eq_nil_iff.1 h).1).1)
   go_wp2_with fail
   refine bodyPost_ret (results_tmp2 rfl _ _ _) rfl ?_
   have hs:=hbA.size
   exact ⟨g,n,cp,rfl,by rw [<- HE.out];exact hE.1,by omega,hg2,bS hbA hE.below⟩

end Go.Proofs.YtkjcdnlpjldhaaaGreat

