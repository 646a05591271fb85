/-
  The walk of VmNames.
-/
import Derived.Test.YtkjcdnlpjldhaaaGreatG27
import Derived.Test.YtkjcdnlpjldhaaaGreatG28
import Derived.Test.YtkjcdnlpjldhaaaGreatG23
import Derived.Test.YtkjcdnlpjldhaaaGreatG17
import Derived.Deep.RegionHeld3
import Derived.RegionTactic
set_option linter.unusedVariables false
set_option linter.unusedSimpArgs false
set_option maxRecDepth 100000
set_option maxHeartbeats 400000000
namespace Go.Proofs.YtkjcdnlpjldhaaaGreat
open Go.RowKit Tw
attribute [local go_sem ↓] Go.wp_at_zero Go.wp_at_succ

theorem zac.upN {a b:Nat} {l:List Ins} (h:zac a l) (hab:a<=b):zac b l:=fun x hx => ⟨Nat.le_trans (h x hx).1 hab,Nat.le_trans (h x hx).2 hab⟩

def X7 (wr wx:World) (op tz a b:Int) (ng:Bool) (vn vd:Value):Prop :=
 Below wr.heap.size wr wx/\wr.heap.size<wx.heap.size /\
 wx.cell? ⟨wr.heap.size,0,none⟩=some (.int .i64 op)/\wx.cell? ⟨wr.heap.size,1,none⟩=some (.int .i64 tz)/\wx.cell? ⟨wr.heap.size,2,none⟩=some (.int .i64 a)/\wx.cell? ⟨wr.heap.size,3,none⟩=some (.int .i64 b) /\
 wx.cell? ⟨wr.heap.size,4,none⟩=some (.bool ng)/\wx.cell? ⟨wr.heap.size,5,none⟩=some vn/\wx.cell? ⟨wr.heap.size,6,none⟩=some vd /\
 wx.frozen? ⟨wr.heap.size,0,none⟩=false/\wx.frozen? ⟨wr.heap.size,1,none⟩=false/\wx.frozen? ⟨wr.heap.size,2,none⟩=false/\wx.frozen? ⟨wr.heap.size,3,none⟩=false

section

variable {w wr wx:World} {op tz a b:Int} {ng:Bool} {vn vd:Value} {t:TypeId}

theorem X7.new:X7 w (w.alloc (.cells #[.int .i64 op,.int .i64 tz,.int .i64 a,.int .i64 b,.bool ng,vn,vd] t)) op tz a b ng vn vd:=by
 refine ⟨bN _ _,by simp,?_,?_,?_,?_,?_,?_,?_,?_,?_,?_,?_⟩ <;> simp [go_sem]

theorem X7.put (h:X7 wr wx op tz a b ng vn vd) {o:Nat} (ho:o<4) (z:Int):X7 wr (wx.setCell ⟨wr.heap.size,o,none⟩ (.int .i64 z)) (if o=0 then z else op) (if o=1 then z else tz) (if o=2 then z else a) (if o=3 then z else b) ng vn vd:=by
 obtain ⟨gb,hs,x0,x1,x2,x3,x4,x5,x6,y0,y1,y2,y3⟩:=h
 refine ⟨gb.setCell (Nat.le_refl _) _,by simp [go_sem];exact hs,?_,?_,?_,?_,cP x4 (.inr (by omega)) _,cP x5 (.inr (by omega)) _,cP x6 (.inr (by omega)) _,?_,?_,?_,?_⟩
 ·split
  ·rename_i e;subst e;exact zl x0 _
  ·rename_i e;exact cP x0 (.inr (fun k => e k.symm)) _
 ·split
  ·rename_i e;subst e;exact zl x1 _
  ·rename_i e;exact cP x1 (.inr (fun k => e k.symm)) _
 ·split
  ·rename_i e;subst e;exact zl x2 _
  ·rename_i e;exact cP x2 (.inr (fun k => e k.symm)) _
 ·split
  ·rename_i e;subst e;exact zl x3 _
  ·rename_i e;exact cP x3 (.inr (fun k => e k.symm)) _
 all_goals simp [go_sem,y0,y1,y2,y3]

theorem X7.put1 (h:X7 wr wx op tz a b ng vn vd) (z:Int):X7 wr (wx.setCell ⟨wr.heap.size,1,none⟩ (.int .i64 z)) op z a b ng vn vd:=h.put (o:=1) (by decide) z

theorem X7.put2 (h:X7 wr wx op tz a b ng vn vd) (z:Int):X7 wr (wx.setCell ⟨wr.heap.size,2,none⟩ (.int .i64 z)) op tz z b ng vn vd:=h.put (o:=2) (by decide) z

theorem X7.put3 (h:X7 wr wx op tz a b ng vn vd) (z:Int):X7 wr (wx.setCell ⟨wr.heap.size,3,none⟩ (.int .i64 z)) op tz a z ng vn vd:=h.put (o:=3) (by decide) z

end

theorem walk_VmNames (a0 a1 a2:Int) (v:Value) (l:List Tn) (a4 a5:Int) (u:Value) (s:List Sn) (w:World) (h00:0<=a0) (h01:a0<256) (h10:0<=a1) (h11:a1<256) (h20:0<=a2) (h21:a2<256) (hl:RdTn w v l) (h40:0<=a4) (h41:a4<256) (h50:0<=a5) (h51:a5<256) (hs:RdSn w u s) :
  Calls Tryz.prog 6 #[.int .u8 a0,.int .u8 a1,.int .u8 a2,v,.int .u8 a4,.int .u8 a5,u] w (fun e w' => e=.returned (.bool true)/\Below w.heap.size w w'):=by
 obtain ⟨i,rfl⟩:=Int.eq_ofNat_of_zero_le h00
 obtain ⟨r,rfl⟩:=Int.eq_ofNat_of_zero_le h10
 obtain ⟨g,rfl⟩:=Int.eq_ofNat_of_zero_le h20
 obtain ⟨by',rfl⟩:=Int.eq_ofNat_of_zero_le h40
 obtain ⟨mo,rfl⟩:=Int.eq_ofNat_of_zero_le h50
 obtain ⟨a,N,cap,rfl,HN,hm'⟩:=hl.open
 obtain ⟨au,Nu,cu,rfl,HNu,hmu'⟩:=hs.open
 have Hl:=Lib.hid hl
 have Hs:=Lib.hid hs
 by_cases h16:N<=16
 ·have u16:decide ((16:Int)<(N:Int))=false:=decide_eq_false (by omega)
  have hl16:l.length<=16:=by rw [HN.out];exact h16
  have hR:=zeO i r g l hl16
  obtain ⟨I,hI⟩:∃ z,1+i % 3=z:=⟨_,rfl⟩
  obtain ⟨R,hRR⟩:∃ z,1+r % 3=z:=⟨_,rfl⟩
  obtain ⟨G,hG⟩:∃ z,1+g % 6=z:=⟨_,rfl⟩
  obtain ⟨A,hA⟩:∃ z,zao I G (R*I) [] [] l=z:=⟨_,rfl⟩
  have bI:0<I/\I<=3:=by omega
  have bR:0<R/\R<=3:=by omega
  have bG:0<G/\G<=6:=by omega
  have hC:zcc i r g l=⟨(I:Int),(R:Int),(I:Int),(G:Int),A⟩:=by unfold zcc;rw [hI,hRR,hG,hA]
  rw [hC] at hR
  have hT:∀ x ∈ A,Tame x:=by rw [<- hA];exact zdw bI bG ⟨Nat.mul_pos bR.1 bI.1,Nat.mul_le_mul bR.2 bI.2⟩ l [] [] (MI.nil _)
  have HAl:Hid (A.length<=16):=by show _<=_;rw [<- hA,zcr];exact hl16
  have hQ:∀ x ∈ A,x.q.n.length<=1/\x.q.d.length<=1:=by
   rw [<- hA]
   intro x hx
   have:=zfn l [] [] x hx
   exact ⟨this.1,this.2.1⟩
  have HMd:Hid (∀ W,Below w.heap.size w W->Calls Tryz.prog 22 #[.int .u8 (i:Int),.int .u8 (r:Int),.int .u8 (g:Int),.slice a N cap,.int .i64 16] W (fun e w' => ∃ v',e=.returned (aggC ⟨(I:Int),(R:Int),(I:Int),(G:Int),A⟩ v')/\zat W.heap.size w' v' A/\Below W.heap.size W w')):=fun W hb => by
   have h:=zfS i r g 16 _ l W (Hl.out.to hb) (by omega) (by omega) (by omega) (by decide)
   rw [List.take_of_length_le hl16,hC] at h
   exact h
  obtain ⟨C,hCC⟩:∃ C:Cd,⟨(I:Int),(R:Int),(I:Int),(G:Int),A⟩=C:=⟨_,rfl⟩
  obtain ⟨NR,hNR⟩:∃ z,G+mo=z:=⟨_,rfl⟩
  have eNR:(G:Int)+(mo:Int)=(NR:Int):=by omega
  have HR:=Lib.hid (show zr ⟨(I:Int),(R:Int),(I:Int),(G:Int),A⟩=true from hR.1)
  have HH:=Lib.hid (show zU ⟨(I:Int),(R:Int),(I:Int),(G:Int),A⟩<=12 from hR.2)
  have HT:=Lib.hid hT
  have HQ:=Lib.hid hQ
  have hdN:dN ⟨(I:Int),(R:Int),(I:Int),(G:Int),A⟩ (by':Int) (mo:Int)=⟨(I:Int),(R:Int),(I:Int),(NR:Int),A.map (ren (fN (by':Int) (NR:Int)))⟩:=by unfold dN;rw [eNR]
  have HRd:Hid (zr ⟨(I:Int),(R:Int),(I:Int),(NR:Int),A.map (ren (fN (by':Int) (NR:Int)))⟩=true):=by
   show _=_
   rw [<- hdN]
   exact zfy HR.out ⟨by omega,by omega⟩ (by show (1:Int)<=(G:Int)/\(G:Int)<=10;omega)
  have HHd:Hid (zU ⟨(I:Int),(R:Int),(I:Int),(NR:Int),A.map (ren (fN (by':Int) (NR:Int)))⟩=zU ⟨(I:Int),(R:Int),(I:Int),(G:Int),A⟩):=by
   show _=_
   rw [<- hdN]
   exact dN_heavy HR.out ⟨by omega,by omega⟩ (by show (1:Int)<=(G:Int)/\(G:Int)<=10;omega)
  obtain ⟨ps,hps⟩:∃ z,zcB I s=z:=⟨_,rfl⟩
  obtain ⟨o,ho⟩:∃ o,zcT ⟨(I:Int),(R:Int),(I:Int),(G:Int),A⟩ ps I=o:=⟨_,rfl⟩
  obtain ⟨rw',hrw⟩:∃ z,zgB ⟨(I:Int),(R:Int),(I:Int),(G:Int),A⟩ o=z:=⟨_,rfl⟩
  obtain ⟨cl',hcl⟩:∃ z,zgA ⟨(I:Int),(R:Int),(I:Int),(G:Int),A⟩ o=z:=⟨_,rfl⟩
  obtain ⟨k',hk'⟩:∃ z,jK ⟨(I:Int),(R:Int),(I:Int),(G:Int),A⟩ ps o=z:=⟨_,rfl⟩
  obtain ⟨t',ht'⟩:∃ z,jT ⟨(I:Int),(R:Int),(I:Int),(G:Int),A⟩ ps o=z:=⟨_,rfl⟩
  obtain ⟨qs',hqs⟩:∃ z,zch ⟨(I:Int),(R:Int),(I:Int),(G:Int),A⟩ ps o=z:=⟨_,rfl⟩
  have Hlen:=Lib.hid (zku (c:=⟨(I:Int),(R:Int),(I:Int),(G:Int),A⟩) ho)
  rw [hqs] at Hlen
  have hrun:=dN_run (c:=⟨(I:Int),(R:Int),(I:Int),(G:Int),A⟩) (b:=(by':Int)) (m:=(mo:Int)) (p:=ps) (n:=I) HR.out ⟨by omega,by omega⟩ (by show (1:Int)<=(G:Int)/\(G:Int)<=10;omega)
  rw [hdN] at hrun
  obtain ⟨gh,hgh⟩:∃ z,zU ⟨(I:Int),(R:Int),(I:Int),(G:Int),A⟩=z:=⟨_,rfl⟩
  have Hgh:=Lib.hid hgh
  have Hgd:=Lib.hid (HHd.out.trans hgh)
  have gT:zac 6 A:=fun x hx => by have:=HQ.out x hx;omega
  have hsd:zac 6 (A.map (ren (fN (by':Int) (NR:Int)))):=fun x hx => by
   obtain ⟨y,hy,rfl⟩:=List.mem_map.1 hx
   exact gT y hy
  have Hs6:=Lib.hid gT
  have Hsd:=Lib.hid hsd
  have HRun1:Hid (∀ (W:World) (v u:Value),IsC W ⟨(I:Int),(R:Int),(I:Int),(G:Int),A⟩ v->RdR W u (ps.map zi)->Calls Tryz.prog 19 #[aggC ⟨(I:Int),(R:Int),(I:Int),(G:Int),A⟩ v,u] W (RunJ W rw' cl' qs' k' t' o)):=fun W v u hc hx => by
   have hp:∀ x ∈ ps.map zi,x.n.length<=6/\x.d.length<=6:=by rw [<- hps];exact zcC _ _ Hs.out.rng
   have hnum:(ps.map zi).map Rt.num=ps:=by rw [<- hps];exact zdA _ _
   have hln:(ps.map zi).length=I:=by rw [<- hps];exact zdz _ _
   have h:=zea ⟨(I:Int),(R:Int),(I:Int),(G:Int),A⟩ v u (ps.map zi) W hc (Hs6.out.upN (by decide)) hx (zdM hc hx Hs6.out hp (by have:=HH.out;omega)) o (by rw [hnum,hln];exact ho)
   unfold zfu at h
   rw [hnum,hrw,hcl,hk',ht',hqs] at h
   exact h
  have HRun2:Hid (∀ (W:World) (v u:Value),IsC W ⟨(I:Int),(R:Int),(I:Int),(NR:Int),A.map (ren (fN (by':Int) (NR:Int)))⟩ v->RdR W u (ps.map zi)->Calls Tryz.prog 19 #[aggC ⟨(I:Int),(R:Int),(I:Int),(NR:Int),A.map (ren (fN (by':Int) (NR:Int)))⟩ v,u] W (RunJ W rw' cl' qs' k' t' o)):=fun W v u hc hx => by
   have hp:∀ x ∈ ps.map zi,x.n.length<=6/\x.d.length<=6:=by rw [<- hps];exact zcC _ _ Hs.out.rng
   have hnum:(ps.map zi).map Rt.num=ps:=by rw [<- hps];exact zdA _ _
   have hln:(ps.map zi).length=I:=by rw [<- hps];exact zdz _ _
   have h:=zea _ v u (ps.map zi) W hc (Hsd.out.upN (by decide)) hx (zdM hc hx Hsd.out hp (by have:=HH.out;have:=HHd.out;omega)) o (by rw [hnum,hln,hrun.1];exact ho)
   unfold zfu at h
   have hj:=hrun.2 o
   rw [hnum,hj.1,hj.2.1,hj.2.2.1,hj.2.2.2.1,hj.2.2.2.2,hrw,hcl,hk',ht',hqs] at h
   exact h
  have HPt:Hid (∀ W,Below w.heap.size w W->Calls Tryz.prog 23 #[.int .i64 (I:Int),.slice au Nu cu] W (fun e w' => ∃ a c,e=.returned (.slice a I c)/\RdR w' (.slice a I c) (ps.map zi)/\Below W.heap.size W w')):=fun W hb => by
   rw [<- hps]
   exact zeR I _ s W (Hs.out.to hb) (by omega)
  have Hnr:=Lib.hid eNR
  clear hl hs hR hC hCC hA hI hRR hG hT hQ hNR hdN hps ho hrw hcl hk' ht' hqs hrun hgh gT hsd hl16 C
  go_enter Tryz.func6,Tryz.ntmps6
  go_wp2_with fail
  refine (zdE _).mono ?_
  rintro e w1 ⟨rfl,aX⟩
  go_wp2_with fail
  refine (HMd.out _ aX).mono ?_
  rintro e w2 ⟨v2,rfl,hO2,aR⟩
  have dp:=bS aX aR
  obtain ⟨av,cv,rfl,hpv⟩:=hO2.form
  obtain ⟨nA,hnA⟩:∃ z,A.length=z:=⟨_,rfl⟩
  have HnA:=Lib.hid hnA
  rw [hnA]
  rw [hnA] at hO2
  have HO2:=Lib.hid hO2.rdC
  have hnA16:nA<=1000:=by have:=HAl.out;omega
  clear hpv hnA hO2
  have eNR:=Hnr.out
  go_wp2_with fail
  go_loopw [18] (fun i ww => ∃ (k:Nat) (dn:List Ins) (vD:Value),k<=nA/\i=.int .i64 k/\Below w2.heap.size w2 ww/\Hid (B5 ww w2.heap.size (.int .i64 (I:Int)) (.int .i64 (R:Int)) (.int .i64 (I:Int)) (.int .i64 (G:Int)) (.slice av nA cv))/\Hid (B5 ww (w2.heap.size+1) (.int .i64 (I:Int)) (.int .i64 (R:Int)) (.int .i64 (I:Int)) (.int .i64 (NR:Int)) vD)/\Hid (zat (w2.heap.size+2) ww vD dn)/\Hid (dn=(A.take k).map (ren (fN (by':Int) (NR:Int)))/\dn.length=k)) (fun i _ => nA - (intOf i).toNat)
  case atStart =>
   refine ⟨0,[],.slice none 0 0,Nat.zero_le _,rfl,bS (bN _ _) (bN _ _),?_,?_,zat.nil _ _,⟨rfl,rfl⟩⟩
   ·show B5 _ _ _ _ _ _ _
    unfold B5
    and_intros <;> first|(simp [go_sem];done)|(simp [go_sem];omega)
   ·show B5 _ _ _ _ _ _ _
    unfold B5
    and_intros <;> first|(simp [go_sem];done)|(simp [go_sem];omega)
  case round =>
  obtain ⟨k,dn,vD,hk,rfl,gb0,HC5,HD5,HO,HL⟩:=hrel
  have hgs:=gb0.size
  have hz1:w2.heap.size+1<wr.heap.size:=HD5.out.1
  have hz2:w2.heap.size<wr.heap.size:=by omega
  have hne1:¬ (w2.heap.size=wr.heap.size):=by omega
  have hne2:¬ (w2.heap.size+1=wr.heap.size):=by omega
  by_cases hkA:k<nA
  ·have hki:(k:Int)<(nA:Int):=by omega
   have hkl:k<A.length:=by rw [HnA.out];exact hkA
   obtain ⟨b,off,rfl,s0,s1,s2,s3,⟨vn,vd,s4,s5,s6,hn,hd⟩,i0,i1,i2,i3⟩:=HO2.out.nth hkl
   have far:∀ {v:Value} {l:List Nat},Rd w2 v l->Far v vD.ownBlock:=fun h b o n c e hn k => (h.far_new (g:=b) (by have:=(HO.out.lt b k).1;omega)) b o n c e hn rfl
   have far1:=far hn
   have far2:=far hd
   have hbl:=zj s0
   replace s0:=(gb0.cell (p:=⟨b,off+k*7,none⟩) hbl).trans s0
   replace s1:=(gb0.cell (p:=⟨b,off+k*7+1,none⟩) hbl).trans s1
   replace s2:=(gb0.cell (p:=⟨b,off+k*7+2,none⟩) hbl).trans s2
   replace s3:=(gb0.cell (p:=⟨b,off+k*7+3,none⟩) hbl).trans s3
   replace s4:=(gb0.cell (p:=⟨b,off+k*7+4,none⟩) hbl).trans s4
   replace s5:=(gb0.cell (p:=⟨b,off+k*7+4+1,none⟩) hbl).trans s5
   replace s6:=(gb0.cell (p:=⟨b,off+k*7+4+2,none⟩) hbl).trans s6
   replace hn:=hn.to gb0
   replace hd:=hd.to gb0
   clear far hbl
   have hTm:=HT.out _ (List.getElem_mem hkl)
   obtain ⟨x,hx⟩:∃ x,A[k]=x:=⟨_,rfl⟩
   rw [hx] at s0 s1 s2 s3 s4 hn hd hTm
   obtain ⟨op,tz,xa,xb,⟨ng,ln,ld⟩⟩:=x
   obtain ⟨T1,T2,T3,T4,T5,T6,T7,T8,T9⟩:=hTm
   simp only at s0 s1 s2 s3 s4 hn hd T1 T2 T3 T4 T5 T6 T7 T8 T9
   have Hx:=Lib.hid hx
   obtain ⟨a1,n1,c1,rfl,H1,hm1⟩:=hn.open
   obtain ⟨a2,n2,c2,rfl,H2,hm2⟩:=hd.open
   have Hn:=Lib.hid hn
   have Hd:=Lib.hid hd
   have HvD:Hid (vD.ownBlock≠some (w2.heap.size+1)/\vD.ownBlock≠some w2.heap.size/\some ((⟨wr.heap.size,0,none⟩:Addr).block)≠vD.ownBlock):=⟨fun e => by have:=(HO.out.lt _ e).1;omega,fun e => by have:=(HO.out.lt _ e).1;omega,fun e => by have h2:=(HO.out.lt wr.heap.size e.symm).2;omega⟩
   have HvD4:Hid (∀ z,vD≠.int .u32 z):=fun z e => by
    obtain ⟨a,cap,hv,_⟩:=HO.out.form
    rw [hv] at e
    cases e
   have HF:Hid (Far (.slice a1 n1 c1) vD.ownBlock/\Far (.slice a2 n2 c2) vD.ownBlock):=⟨far1,far2⟩
   clear far1 far2
   obtain ⟨z1,hz1'⟩:∃ z,fN (by':Int) (NR:Int) tz=z:=⟨_,rfl⟩
   obtain ⟨z2,hz2'⟩:∃ z,fN (by':Int) (NR:Int) xa=z:=⟨_,rfl⟩
   obtain ⟨z3,hz3'⟩:∃ z,fN (by':Int) (NR:Int) xb=z:=⟨_,rfl⟩
   have et1:(tz+(by':Int)).tmod (NR:Int)=z1:=by rw [zdK (by omega)];exact hz1'
   have et2:(xa+(by':Int)).tmod (NR:Int)=z2:=by rw [zdK (by omega)];exact hz2'
   have bz:∀ q,0<=fN (by':Int) (NR:Int) q/\fN (by':Int) (NR:Int) q<(NR:Int):=fun q => ⟨Int.emod_nonneg _ (by omega),Int.emod_lt_of_pos _ (by omega)⟩
   have bz1:=bz tz
   have bz2:=bz xa
   have bz3:=bz xb
   rw [hz1'] at bz1
   rw [hz2'] at bz2
   rw [hz3'] at bz3
   have Hz1:=Lib.hid hz1'
   have Hz2:=Lib.hid hz2'
   have Hz3:=Lib.hid hz3'
   have hNR0:¬ (NR=0):=by omega
   clear hx hn hd i0 i1 i2 i3 bz hz1' hz2' hz3' eNR
   obtain ⟨cz,c0,c1',c2',c3,c4,cf0,cf1,cf2,cf3,cf4⟩:=HC5.out
   go_upto_region 12 with fail
   obtain ⟨W1,aO⟩:∃ W1,wr.alloc (.cells #[.int .i64 op,.int .i64 tz,.int .i64 xa,.int .i64 xb,.bool ng,.slice a1 n1 c1,.slice a2 n2 c2] 49)=W1:=⟨_,rfl⟩
   have hX:X7 wr W1 op tz xa xb ng (.slice a1 n1 c1) (.slice a2 n2 c2):=by rw [<- aO];exact X7.new
   rw [aO]
   clear aO cz c0 c1' c2' c3 c4 cf0 cf1 cf2 cf3 cf4 s0 s1 s2 s3 s4 s5 s6
   have HX:=Lib.hid hX
   obtain ⟨gb,hsz,x0,x1,x2,x3,x4,x5,x6,y0,y1,y2,y3⟩:=hX
   obtain ⟨dz,d0,d1,d2,d3,d4,df0,df1,df2,df3,df4⟩:=HD5.out.to gb
   by_cases q1:op<=1
   ·have v10:(op != 10)=true:=by simp <;> omega
    have v1:decide (1<op)=false:=by exact decide_eq_false (by omega)
    have g2:decide (2<=op)=false:=by exact decide_eq_false (by omega)
    have e8:(op == 8)=false:=by simp <;> omega
    have e9:(op == 9)=false:=by simp <;> omega
    have Hy:Hid (ren (fN (by':Int) (NR:Int)) ⟨op,tz,xa,xb,⟨ng,ln,ld⟩⟩=⟨op,z1,xa,xb,⟨ng,ln,ld⟩⟩):=by
     show _=_
     unfold ren
     simp only
     rw [if_neg (show ¬ op=10 by omega),if_neg (show ¬ 1<op by omega),if_neg (fun h => by have:=zbs.1 h;omega),Hz1.out]
    try clear q10
    try clear q8
    try clear q9
    try clear q5
    try clear q1
    go_upto_region 18 with fail
    obtain ⟨W5,cX⟩:∃ W5,W1.setCell ⟨wr.heap.size,1,none⟩ (.int .i64 z1)=W5:=⟨_,rfl⟩
    have hX6:X7 wr W5 op z1 xa xb ng (.slice a1 n1 c1) (.slice a2 n2 c2):=by rw [<- cX];exact (HX.out.put1 _)
    rw [cX]
    clear cX gb hsz x0 x1 x2 x3 x4 x5 x6 y0 y1 y2 y3 dz d0 d1 d2 d3 d4 df0 df1 df2 df3 df4
    obtain ⟨gb5,eN,e0,e1,e2,e3,e4,e5,e6,_⟩:=hX6
    obtain ⟨dz,d0,d1,d2,d3,d4,df0,df1,df2,df3,df4⟩:=HD5.out.to gb5
    have HI:Hid (zdD (⟨op,z1,xa,xb,⟨ng,ln,ld⟩⟩:Ins)):=by
     refine ⟨?_,?_,?_,?_⟩ <;> (constructor <;> (simp only;omega))
    have Hdl:Hid (dn.length<=100000):=by show _<=_;have:=HL.out.2;omega
    go_wp2_with (at_builtin;refine zaW _ rfl (.tmp 109) (.tmp 111) rfl (w2.heap.size+2) vD dn _ ⟨op,z1,xa,xb,⟨ng,ln,ld⟩⟩ a1 n1 c1 a2 n2 c2 rfl rfl (HO.out.to (bS gb5 (bN _ _))) zan (Hn.out.to (bS gb5 (bN _ _))) (Hd.out.to (bS gb5 (bN _ _))) HF.out.1 HF.out.2 HI.out Hdl.out (by simp;omega) _ rfl ?_;intro g4 cj4 w4 hO4 hgrow4 hat4 hlt4;have hD4:=(HD5.out.to (bS gb5 (bN _ _))).grown hgrow4 HvD.out.1;obtain ⟨qz,q0,q1,q2,q3,q4,qf0,qf1,qf2,qf3,qf4⟩:=hD4)
    have b5:=bS gb5 (bN W5 (.cells (zar ⟨op,z1,xa,xb,⟨ng,ln,ld⟩⟩ (.slice a1 n1 c1) (.slice a2 n2 c2)).toArray 49))
    have b4:Below w2.heap.size w2 w4:=(bS gb0 b5).grown hgrow4 (Nat.le_trans hgs b5.size) (fun q hq => by have:=(HO.out.lt q hq).1;omega)
    have hg4:w2.heap.size+2<=g4:=by
     rcases hat4 with e|e
     ·exact (HO.out.lt g4 e).1
     ·rw [e];simp;omega
    have hC4:=(HC5.out.to b5).grown hgrow4 HvD.out.2.1
    have hD4:=(HD5.out.to b5).grown hgrow4 HvD.out.1
    have hO5:=hO4.setP (B:=w2.heap.size+1) (o:=4) (fun e => by have e:g4=w2.heap.size+1:=Option.some.inj e;omega) hD4.2.2.2.2.2.1 HvD4.out (.slice (some ⟨g4,0,none⟩) (dn.length+1) cj4)
    have hD6:=hD4.set4 (.slice (some ⟨g4,0,none⟩) (dn.length+1) cj4)
    have hC6:B5 (w4.setCell ⟨w2.heap.size+1,4,none⟩ (.slice (some ⟨g4,0,none⟩) (dn.length+1) cj4)) _ _ _ _ _ _:=hC4.other (by omega)
    have dr:=b4.setCell (p:=⟨w2.heap.size+1,4,none⟩) (by show _<=w2.heap.size+1;omega) (.slice (some ⟨g4,0,none⟩) (dn.length+1) cj4)
    have HLn:Hid (dn++[⟨op,z1,xa,xb,⟨ng,ln,ld⟩⟩]=(A.take (k+1)).map (ren (fN (by':Int) (NR:Int)))/\(dn++[(⟨op,z1,xa,xb,⟨ng,ln,ld⟩⟩:Ins)]).length=k+1):=by
     refine ⟨?_,by rw [List.length_append,HL.out.2];rfl⟩
     rw [List.take_succ_eq_append_getElem hkl,List.map_append,<- HL.out.1,Hx.out]
     show _=dn++[ren _ _]
     rw [Hy.out]
    go_roundw
    case rel => exact ⟨k+1,dn++[⟨op,z1,xa,xb,⟨ng,ln,ld⟩⟩],.slice (some ⟨g4,0,none⟩) (dn.length+1) cj4,by omega,by go_num,dr,Lib.hid hC6,Lib.hid hD6,Lib.hid hO5,HLn⟩
    case measure => simp [intOf] <;> omega
   ·by_cases q10:op=10
    ·have v10:(op != 10)=false:=by simp <;> omega
     have v1:decide (1<op)=true:=by exact decide_eq_true (by omega)
     have g2:decide (2<=op)=true:=by exact decide_eq_true (by omega)
     have l5:decide (op<=5)=false:=by exact decide_eq_false (by omega)
     have e8:(op == 8)=false:=by simp <;> omega
     have e9:(op == 9)=false:=by simp <;> omega
     have Hy:Hid (ren (fN (by':Int) (NR:Int)) ⟨op,tz,xa,xb,⟨ng,ln,ld⟩⟩=⟨op,tz,z2,xb,⟨ng,ln,ld⟩⟩):=by
      show _=_
      unfold ren
      simp only
      rw [if_pos (show op=10 by omega),if_pos (show 1<op by omega),if_neg (fun h => by have:=zbs.1 h;omega),Hz2.out]
     try clear q10
     try clear q8
     try clear q9
     try clear q5
     try clear q1
     go_upto_region 18 with fail
     obtain ⟨W5,cX⟩:∃ W5,W1.setCell ⟨wr.heap.size,2,none⟩ (.int .i64 z2)=W5:=⟨_,rfl⟩
     have hX6:X7 wr W5 op tz z2 xb ng (.slice a1 n1 c1) (.slice a2 n2 c2):=by rw [<- cX];exact (HX.out.put2 _)
     rw [cX]
     clear cX gb hsz x0 x1 x2 x3 x4 x5 x6 y0 y1 y2 y3 dz d0 d1 d2 d3 d4 df0 df1 df2 df3 df4
     obtain ⟨gb5,eN,e0,e1,e2,e3,e4,e5,e6,_⟩:=hX6
     obtain ⟨dz,d0,d1,d2,d3,d4,df0,df1,df2,df3,df4⟩:=HD5.out.to gb5
     have HI:Hid (zdD (⟨op,tz,z2,xb,⟨ng,ln,ld⟩⟩:Ins)):=by
      refine ⟨?_,?_,?_,?_⟩ <;> (constructor <;> (simp only;omega))
     have Hdl:Hid (dn.length<=100000):=by show _<=_;have:=HL.out.2;omega
     go_wp2_with (at_builtin;refine zaW _ rfl (.tmp 109) (.tmp 111) rfl (w2.heap.size+2) vD dn _ ⟨op,tz,z2,xb,⟨ng,ln,ld⟩⟩ a1 n1 c1 a2 n2 c2 rfl rfl (HO.out.to (bS gb5 (bN _ _))) zan (Hn.out.to (bS gb5 (bN _ _))) (Hd.out.to (bS gb5 (bN _ _))) HF.out.1 HF.out.2 HI.out Hdl.out (by simp;omega) _ rfl ?_;intro g4 cj4 w4 hO4 hgrow4 hat4 hlt4;have hD4:=(HD5.out.to (bS gb5 (bN _ _))).grown hgrow4 HvD.out.1;obtain ⟨qz,q0,q1,q2,q3,q4,qf0,qf1,qf2,qf3,qf4⟩:=hD4)
     have b5:=bS gb5 (bN W5 (.cells (zar ⟨op,tz,z2,xb,⟨ng,ln,ld⟩⟩ (.slice a1 n1 c1) (.slice a2 n2 c2)).toArray 49))
     have b4:Below w2.heap.size w2 w4:=(bS gb0 b5).grown hgrow4 (Nat.le_trans hgs b5.size) (fun q hq => by have:=(HO.out.lt q hq).1;omega)
     have hg4:w2.heap.size+2<=g4:=by
      rcases hat4 with e|e
      ·exact (HO.out.lt g4 e).1
      ·rw [e];simp;omega
     have hC4:=(HC5.out.to b5).grown hgrow4 HvD.out.2.1
     have hD4:=(HD5.out.to b5).grown hgrow4 HvD.out.1
     have hO5:=hO4.setP (B:=w2.heap.size+1) (o:=4) (fun e => by have e:g4=w2.heap.size+1:=Option.some.inj e;omega) hD4.2.2.2.2.2.1 HvD4.out (.slice (some ⟨g4,0,none⟩) (dn.length+1) cj4)
     have hD6:=hD4.set4 (.slice (some ⟨g4,0,none⟩) (dn.length+1) cj4)
     have hC6:B5 (w4.setCell ⟨w2.heap.size+1,4,none⟩ (.slice (some ⟨g4,0,none⟩) (dn.length+1) cj4)) _ _ _ _ _ _:=hC4.other (by omega)
     have dr:=b4.setCell (p:=⟨w2.heap.size+1,4,none⟩) (by show _<=w2.heap.size+1;omega) (.slice (some ⟨g4,0,none⟩) (dn.length+1) cj4)
     have HLn:Hid (dn++[⟨op,tz,z2,xb,⟨ng,ln,ld⟩⟩]=(A.take (k+1)).map (ren (fN (by':Int) (NR:Int)))/\(dn++[(⟨op,tz,z2,xb,⟨ng,ln,ld⟩⟩:Ins)]).length=k+1):=by
      refine ⟨?_,by rw [List.length_append,HL.out.2];rfl⟩
      rw [List.take_succ_eq_append_getElem hkl,List.map_append,<- HL.out.1,Hx.out]
      show _=dn++[ren _ _]
      rw [Hy.out]
     go_roundw
     case rel => exact ⟨k+1,dn++[⟨op,tz,z2,xb,⟨ng,ln,ld⟩⟩],.slice (some ⟨g4,0,none⟩) (dn.length+1) cj4,by omega,by go_num,dr,Lib.hid hC6,Lib.hid hD6,Lib.hid hO5,HLn⟩
     case measure => simp [intOf] <;> omega
    ·by_cases q5:op<=5
     ·have v10:(op != 10)=true:=by simp <;> omega
      have v1:decide (1<op)=true:=by exact decide_eq_true (by omega)
      have g2:decide (2<=op)=true:=by exact decide_eq_true (by omega)
      have l5:decide (op<=5)=true:=by exact decide_eq_true (by omega)
      have et3:(xb+(by':Int)).tmod (NR:Int)=z3:=by rw [zdK (by have:=T9 (by omega);omega)];exact Hz3.out
      have Hy:Hid (ren (fN (by':Int) (NR:Int)) ⟨op,tz,xa,xb,⟨ng,ln,ld⟩⟩=⟨op,z1,z2,z3,⟨ng,ln,ld⟩⟩):=by
       show _=_
       unfold ren
       simp only
       rw [if_neg (show ¬ op=10 by omega),if_pos (show 1<op by omega),if_pos (zbs.2 (by omega)),Hz1.out,Hz2.out,Hz3.out]
      try clear q10
      try clear q8
      try clear q9
      try clear q5
      try clear q1
      go_upto_region 18 with fail
      obtain ⟨W5,cX⟩:∃ W5,((W1.setCell ⟨wr.heap.size,1,none⟩ (.int .i64 z1)).setCell ⟨wr.heap.size,2,none⟩ (.int .i64 z2)).setCell ⟨wr.heap.size,3,none⟩ (.int .i64 z3)=W5:=⟨_,rfl⟩
      have hX6:X7 wr W5 op z1 z2 z3 ng (.slice a1 n1 c1) (.slice a2 n2 c2):=by rw [<- cX];exact (((HX.out.put1 _).put2 _).put3 _)
      rw [cX]
      clear cX gb hsz x0 x1 x2 x3 x4 x5 x6 y0 y1 y2 y3 dz d0 d1 d2 d3 d4 df0 df1 df2 df3 df4
      obtain ⟨gb5,eN,e0,e1,e2,e3,e4,e5,e6,_⟩:=hX6
      obtain ⟨dz,d0,d1,d2,d3,d4,df0,df1,df2,df3,df4⟩:=HD5.out.to gb5
      have HI:Hid (zdD (⟨op,z1,z2,z3,⟨ng,ln,ld⟩⟩:Ins)):=by
       refine ⟨?_,?_,?_,?_⟩ <;> (constructor <;> (simp only;omega))
      have Hdl:Hid (dn.length<=100000):=by show _<=_;have:=HL.out.2;omega
      go_wp2_with (at_builtin;refine zaW _ rfl (.tmp 109) (.tmp 111) rfl (w2.heap.size+2) vD dn _ ⟨op,z1,z2,z3,⟨ng,ln,ld⟩⟩ a1 n1 c1 a2 n2 c2 rfl rfl (HO.out.to (bS gb5 (bN _ _))) zan (Hn.out.to (bS gb5 (bN _ _))) (Hd.out.to (bS gb5 (bN _ _))) HF.out.1 HF.out.2 HI.out Hdl.out (by simp;omega) _ rfl ?_;intro g4 cj4 w4 hO4 hgrow4 hat4 hlt4;have hD4:=(HD5.out.to (bS gb5 (bN _ _))).grown hgrow4 HvD.out.1;obtain ⟨qz,q0,q1,q2,q3,q4,qf0,qf1,qf2,qf3,qf4⟩:=hD4)
      have b5:=bS gb5 (bN W5 (.cells (zar ⟨op,z1,z2,z3,⟨ng,ln,ld⟩⟩ (.slice a1 n1 c1) (.slice a2 n2 c2)).toArray 49))
      have b4:Below w2.heap.size w2 w4:=(bS gb0 b5).grown hgrow4 (Nat.le_trans hgs b5.size) (fun q hq => by have:=(HO.out.lt q hq).1;omega)
      have hg4:w2.heap.size+2<=g4:=by
       rcases hat4 with e|e
       ·exact (HO.out.lt g4 e).1
       ·rw [e];simp;omega
      have hC4:=(HC5.out.to b5).grown hgrow4 HvD.out.2.1
      have hD4:=(HD5.out.to b5).grown hgrow4 HvD.out.1
      have hO5:=hO4.setP (B:=w2.heap.size+1) (o:=4) (fun e => by have e:g4=w2.heap.size+1:=Option.some.inj e;omega) hD4.2.2.2.2.2.1 HvD4.out (.slice (some ⟨g4,0,none⟩) (dn.length+1) cj4)
      have hD6:=hD4.set4 (.slice (some ⟨g4,0,none⟩) (dn.length+1) cj4)
      have hC6:B5 (w4.setCell ⟨w2.heap.size+1,4,none⟩ (.slice (some ⟨g4,0,none⟩) (dn.length+1) cj4)) _ _ _ _ _ _:=hC4.other (by omega)
      have dr:=b4.setCell (p:=⟨w2.heap.size+1,4,none⟩) (by show _<=w2.heap.size+1;omega) (.slice (some ⟨g4,0,none⟩) (dn.length+1) cj4)
      have HLn:Hid (dn++[⟨op,z1,z2,z3,⟨ng,ln,ld⟩⟩]=(A.take (k+1)).map (ren (fN (by':Int) (NR:Int)))/\(dn++[(⟨op,z1,z2,z3,⟨ng,ln,ld⟩⟩:Ins)]).length=k+1):=by
       refine ⟨?_,by rw [List.length_append,HL.out.2];rfl⟩
       rw [List.take_succ_eq_append_getElem hkl,List.map_append,<- HL.out.1,Hx.out]
       show _=dn++[ren _ _]
       rw [Hy.out]
      go_roundw
      case rel => exact ⟨k+1,dn++[⟨op,z1,z2,z3,⟨ng,ln,ld⟩⟩],.slice (some ⟨g4,0,none⟩) (dn.length+1) cj4,by omega,by go_num,dr,Lib.hid hC6,Lib.hid hD6,Lib.hid hO5,HLn⟩
      case measure => simp [intOf] <;> omega
     ·by_cases q8:op=8
      ·have v10:(op != 10)=true:=by simp <;> omega
       have v1:decide (1<op)=true:=by exact decide_eq_true (by omega)
       have g2:decide (2<=op)=true:=by exact decide_eq_true (by omega)
       have l5:decide (op<=5)=false:=by exact decide_eq_false (by omega)
       have e8:(op == 8)=true:=by simp <;> omega
       have et3:(xb+(by':Int)).tmod (NR:Int)=z3:=by rw [zdK (by have:=T9 (by omega);omega)];exact Hz3.out
       have Hy:Hid (ren (fN (by':Int) (NR:Int)) ⟨op,tz,xa,xb,⟨ng,ln,ld⟩⟩=⟨op,z1,z2,z3,⟨ng,ln,ld⟩⟩):=by
        show _=_
        unfold ren
        simp only
        rw [if_neg (show ¬ op=10 by omega),if_pos (show 1<op by omega),if_pos (zbs.2 (by omega)),Hz1.out,Hz2.out,Hz3.out]
       try clear q10
       try clear q8
       try clear q9
       try clear q5
       try clear q1
       go_upto_region 18 with fail
       obtain ⟨W5,cX⟩:∃ W5,((W1.setCell ⟨wr.heap.size,1,none⟩ (.int .i64 z1)).setCell ⟨wr.heap.size,2,none⟩ (.int .i64 z2)).setCell ⟨wr.heap.size,3,none⟩ (.int .i64 z3)=W5:=⟨_,rfl⟩
       have hX6:X7 wr W5 op z1 z2 z3 ng (.slice a1 n1 c1) (.slice a2 n2 c2):=by rw [<- cX];exact (((HX.out.put1 _).put2 _).put3 _)
       rw [cX]
       clear cX gb hsz x0 x1 x2 x3 x4 x5 x6 y0 y1 y2 y3 dz d0 d1 d2 d3 d4 df0 df1 df2 df3 df4
       obtain ⟨gb5,eN,e0,e1,e2,e3,e4,e5,e6,_⟩:=hX6
       obtain ⟨dz,d0,d1,d2,d3,d4,df0,df1,df2,df3,df4⟩:=HD5.out.to gb5
       have HI:Hid (zdD (⟨op,z1,z2,z3,⟨ng,ln,ld⟩⟩:Ins)):=by
        refine ⟨?_,?_,?_,?_⟩ <;> (constructor <;> (simp only;omega))
       have Hdl:Hid (dn.length<=100000):=by show _<=_;have:=HL.out.2;omega
       go_wp2_with (at_builtin;refine zaW _ rfl (.tmp 109) (.tmp 111) rfl (w2.heap.size+2) vD dn _ ⟨op,z1,z2,z3,⟨ng,ln,ld⟩⟩ a1 n1 c1 a2 n2 c2 rfl rfl (HO.out.to (bS gb5 (bN _ _))) zan (Hn.out.to (bS gb5 (bN _ _))) (Hd.out.to (bS gb5 (bN _ _))) HF.out.1 HF.out.2 HI.out Hdl.out (by simp;omega) _ rfl ?_;intro g4 cj4 w4 hO4 hgrow4 hat4 hlt4;have hD4:=(HD5.out.to (bS gb5 (bN _ _))).grown hgrow4 HvD.out.1;obtain ⟨qz,q0,q1,q2,q3,q4,qf0,qf1,qf2,qf3,qf4⟩:=hD4)
       have b5:=bS gb5 (bN W5 (.cells (zar ⟨op,z1,z2,z3,⟨ng,ln,ld⟩⟩ (.slice a1 n1 c1) (.slice a2 n2 c2)).toArray 49))
       have b4:Below w2.heap.size w2 w4:=(bS gb0 b5).grown hgrow4 (Nat.le_trans hgs b5.size) (fun q hq => by have:=(HO.out.lt q hq).1;omega)
       have hg4:w2.heap.size+2<=g4:=by
        rcases hat4 with e|e
        ·exact (HO.out.lt g4 e).1
        ·rw [e];simp;omega
       have hC4:=(HC5.out.to b5).grown hgrow4 HvD.out.2.1
       have hD4:=(HD5.out.to b5).grown hgrow4 HvD.out.1
       have hO5:=hO4.setP (B:=w2.heap.size+1) (o:=4) (fun e => by have e:g4=w2.heap.size+1:=Option.some.inj e;omega) hD4.2.2.2.2.2.1 HvD4.out (.slice (some ⟨g4,0,none⟩) (dn.length+1) cj4)
       have hD6:=hD4.set4 (.slice (some ⟨g4,0,none⟩) (dn.length+1) cj4)
       have hC6:B5 (w4.setCell ⟨w2.heap.size+1,4,none⟩ (.slice (some ⟨g4,0,none⟩) (dn.length+1) cj4)) _ _ _ _ _ _:=hC4.other (by omega)
       have dr:=b4.setCell (p:=⟨w2.heap.size+1,4,none⟩) (by show _<=w2.heap.size+1;omega) (.slice (some ⟨g4,0,none⟩) (dn.length+1) cj4)
       have HLn:Hid (dn++[⟨op,z1,z2,z3,⟨ng,ln,ld⟩⟩]=(A.take (k+1)).map (ren (fN (by':Int) (NR:Int)))/\(dn++[(⟨op,z1,z2,z3,⟨ng,ln,ld⟩⟩:Ins)]).length=k+1):=by
        refine ⟨?_,by rw [List.length_append,HL.out.2];rfl⟩
        rw [List.take_succ_eq_append_getElem hkl,List.map_append,<- HL.out.1,Hx.out]
        show _=dn++[ren _ _]
        rw [Hy.out]
       go_roundw
       case rel => exact ⟨k+1,dn++[⟨op,z1,z2,z3,⟨ng,ln,ld⟩⟩],.slice (some ⟨g4,0,none⟩) (dn.length+1) cj4,by omega,by go_num,dr,Lib.hid hC6,Lib.hid hD6,Lib.hid hO5,HLn⟩
       case measure => simp [intOf] <;> omega
      ·by_cases q9:op=9
       ·have v10:(op != 10)=true:=by simp <;> omega
        have v1:decide (1<op)=true:=by exact decide_eq_true (by omega)
        have g2:decide (2<=op)=true:=by exact decide_eq_true (by omega)
        have l5:decide (op<=5)=false:=by exact decide_eq_false (by omega)
        have e8:(op == 8)=false:=by simp <;> omega
        have e9:(op == 9)=true:=by simp <;> omega
        have et3:(xb+(by':Int)).tmod (NR:Int)=z3:=by rw [zdK (by have:=T9 (by omega);omega)];exact Hz3.out
        have Hy:Hid (ren (fN (by':Int) (NR:Int)) ⟨op,tz,xa,xb,⟨ng,ln,ld⟩⟩=⟨op,z1,z2,z3,⟨ng,ln,ld⟩⟩):=by
         show _=_
         unfold ren
         simp only
         rw [if_neg (show ¬ op=10 by omega),if_pos (show 1<op by omega),if_pos (zbs.2 (by omega)),Hz1.out,Hz2.out,Hz3.out]
        try clear q10
        try clear q8
        try clear q9
        try clear q5
        try clear q1
        go_upto_region 18 with fail
        obtain ⟨W5,cX⟩:∃ W5,((W1.setCell ⟨wr.heap.size,1,none⟩ (.int .i64 z1)).setCell ⟨wr.heap.size,2,none⟩ (.int .i64 z2)).setCell ⟨wr.heap.size,3,none⟩ (.int .i64 z3)=W5:=⟨_,rfl⟩
        have hX6:X7 wr W5 op z1 z2 z3 ng (.slice a1 n1 c1) (.slice a2 n2 c2):=by rw [<- cX];exact (((HX.out.put1 _).put2 _).put3 _)
        rw [cX]
        clear cX gb hsz x0 x1 x2 x3 x4 x5 x6 y0 y1 y2 y3 dz d0 d1 d2 d3 d4 df0 df1 df2 df3 df4
        obtain ⟨gb5,eN,e0,e1,e2,e3,e4,e5,e6,_⟩:=hX6
        obtain ⟨dz,d0,d1,d2,d3,d4,df0,df1,df2,df3,df4⟩:=HD5.out.to gb5
        have HI:Hid (zdD (⟨op,z1,z2,z3,⟨ng,ln,ld⟩⟩:Ins)):=by
         refine ⟨?_,?_,?_,?_⟩ <;> (constructor <;> (simp only;omega))
        have Hdl:Hid (dn.length<=100000):=by show _<=_;have:=HL.out.2;omega
        go_wp2_with (at_builtin;refine zaW _ rfl (.tmp 109) (.tmp 111) rfl (w2.heap.size+2) vD dn _ ⟨op,z1,z2,z3,⟨ng,ln,ld⟩⟩ a1 n1 c1 a2 n2 c2 rfl rfl (HO.out.to (bS gb5 (bN _ _))) zan (Hn.out.to (bS gb5 (bN _ _))) (Hd.out.to (bS gb5 (bN _ _))) HF.out.1 HF.out.2 HI.out Hdl.out (by simp;omega) _ rfl ?_;intro g4 cj4 w4 hO4 hgrow4 hat4 hlt4;have hD4:=(HD5.out.to (bS gb5 (bN _ _))).grown hgrow4 HvD.out.1;obtain ⟨qz,q0,q1,q2,q3,q4,qf0,qf1,qf2,qf3,qf4⟩:=hD4)
        have b5:=bS gb5 (bN W5 (.cells (zar ⟨op,z1,z2,z3,⟨ng,ln,ld⟩⟩ (.slice a1 n1 c1) (.slice a2 n2 c2)).toArray 49))
        have b4:Below w2.heap.size w2 w4:=(bS gb0 b5).grown hgrow4 (Nat.le_trans hgs b5.size) (fun q hq => by have:=(HO.out.lt q hq).1;omega)
        have hg4:w2.heap.size+2<=g4:=by
         rcases hat4 with e|e
         ·exact (HO.out.lt g4 e).1
         ·rw [e];simp;omega
        have hC4:=(HC5.out.to b5).grown hgrow4 HvD.out.2.1
        have hD4:=(HD5.out.to b5).grown hgrow4 HvD.out.1
        have hO5:=hO4.setP (B:=w2.heap.size+1) (o:=4) (fun e => by have e:g4=w2.heap.size+1:=Option.some.inj e;omega) hD4.2.2.2.2.2.1 HvD4.out (.slice (some ⟨g4,0,none⟩) (dn.length+1) cj4)
        have hD6:=hD4.set4 (.slice (some ⟨g4,0,none⟩) (dn.length+1) cj4)
        have hC6:B5 (w4.setCell ⟨w2.heap.size+1,4,none⟩ (.slice (some ⟨g4,0,none⟩) (dn.length+1) cj4)) _ _ _ _ _ _:=hC4.other (by omega)
        have dr:=b4.setCell (p:=⟨w2.heap.size+1,4,none⟩) (by show _<=w2.heap.size+1;omega) (.slice (some ⟨g4,0,none⟩) (dn.length+1) cj4)
        have HLn:Hid (dn++[⟨op,z1,z2,z3,⟨ng,ln,ld⟩⟩]=(A.take (k+1)).map (ren (fN (by':Int) (NR:Int)))/\(dn++[(⟨op,z1,z2,z3,⟨ng,ln,ld⟩⟩:Ins)]).length=k+1):=by
         refine ⟨?_,by rw [List.length_append,HL.out.2];rfl⟩
         rw [List.take_succ_eq_append_getElem hkl,List.map_append,<- HL.out.1,Hx.out]
         show _=dn++[ren _ _]
         rw [Hy.out]
        go_roundw
        case rel => exact ⟨k+1,dn++[⟨op,z1,z2,z3,⟨ng,ln,ld⟩⟩],.slice (some ⟨g4,0,none⟩) (dn.length+1) cj4,by omega,by go_num,dr,Lib.hid hC6,Lib.hid hD6,Lib.hid hO5,HLn⟩
        case measure => simp [intOf] <;> omega
       ·have v10:(op != 10)=true:=by simp <;> omega
        have v1:decide (1<op)=true:=by exact decide_eq_true (by omega)
        have g2:decide (2<=op)=true:=by exact decide_eq_true (by omega)
        have l5:decide (op<=5)=false:=by exact decide_eq_false (by omega)
        have e8:(op == 8)=false:=by simp <;> omega
        have e9:(op == 9)=false:=by simp <;> omega
        have Hy:Hid (ren (fN (by':Int) (NR:Int)) ⟨op,tz,xa,xb,⟨ng,ln,ld⟩⟩=⟨op,z1,z2,xb,⟨ng,ln,ld⟩⟩):=by
         show _=_
         unfold ren
         simp only
         rw [if_neg (show ¬ op=10 by omega),if_pos (show 1<op by omega),if_neg (fun h => by have:=zbs.1 h;omega),Hz1.out,Hz2.out]
        try clear q10
        try clear q8
        try clear q9
        try clear q5
        try clear q1
        go_upto_region 18 with fail
        obtain ⟨W5,cX⟩:∃ W5,(W1.setCell ⟨wr.heap.size,1,none⟩ (.int .i64 z1)).setCell ⟨wr.heap.size,2,none⟩ (.int .i64 z2)=W5:=⟨_,rfl⟩
        have hX6:X7 wr W5 op z1 z2 xb ng (.slice a1 n1 c1) (.slice a2 n2 c2):=by rw [<- cX];exact ((HX.out.put1 _).put2 _)
        rw [cX]
        clear cX gb hsz x0 x1 x2 x3 x4 x5 x6 y0 y1 y2 y3 dz d0 d1 d2 d3 d4 df0 df1 df2 df3 df4
        obtain ⟨gb5,eN,e0,e1,e2,e3,e4,e5,e6,_⟩:=hX6
        obtain ⟨dz,d0,d1,d2,d3,d4,df0,df1,df2,df3,df4⟩:=HD5.out.to gb5
        have HI:Hid (zdD (⟨op,z1,z2,xb,⟨ng,ln,ld⟩⟩:Ins)):=by
         refine ⟨?_,?_,?_,?_⟩ <;> (constructor <;> (simp only;omega))
        have Hdl:Hid (dn.length<=100000):=by show _<=_;have:=HL.out.2;omega
        go_wp2_with (at_builtin;refine zaW _ rfl (.tmp 109) (.tmp 111) rfl (w2.heap.size+2) vD dn _ ⟨op,z1,z2,xb,⟨ng,ln,ld⟩⟩ a1 n1 c1 a2 n2 c2 rfl rfl (HO.out.to (bS gb5 (bN _ _))) zan (Hn.out.to (bS gb5 (bN _ _))) (Hd.out.to (bS gb5 (bN _ _))) HF.out.1 HF.out.2 HI.out Hdl.out (by simp;omega) _ rfl ?_;intro g4 cj4 w4 hO4 hgrow4 hat4 hlt4;have hD4:=(HD5.out.to (bS gb5 (bN _ _))).grown hgrow4 HvD.out.1;obtain ⟨qz,q0,q1,q2,q3,q4,qf0,qf1,qf2,qf3,qf4⟩:=hD4)
        have b5:=bS gb5 (bN W5 (.cells (zar ⟨op,z1,z2,xb,⟨ng,ln,ld⟩⟩ (.slice a1 n1 c1) (.slice a2 n2 c2)).toArray 49))
        have b4:Below w2.heap.size w2 w4:=(bS gb0 b5).grown hgrow4 (Nat.le_trans hgs b5.size) (fun q hq => by have:=(HO.out.lt q hq).1;omega)
        have hg4:w2.heap.size+2<=g4:=by
         rcases hat4 with e|e
         ·exact (HO.out.lt g4 e).1
         ·rw [e];simp;omega
        have hC4:=(HC5.out.to b5).grown hgrow4 HvD.out.2.1
        have hD4:=(HD5.out.to b5).grown hgrow4 HvD.out.1
        have hO5:=hO4.setP (B:=w2.heap.size+1) (o:=4) (fun e => by have e:g4=w2.heap.size+1:=Option.some.inj e;omega) hD4.2.2.2.2.2.1 HvD4.out (.slice (some ⟨g4,0,none⟩) (dn.length+1) cj4)
        have hD6:=hD4.set4 (.slice (some ⟨g4,0,none⟩) (dn.length+1) cj4)
        have hC6:B5 (w4.setCell ⟨w2.heap.size+1,4,none⟩ (.slice (some ⟨g4,0,none⟩) (dn.length+1) cj4)) _ _ _ _ _ _:=hC4.other (by omega)
        have dr:=b4.setCell (p:=⟨w2.heap.size+1,4,none⟩) (by show _<=w2.heap.size+1;omega) (.slice (some ⟨g4,0,none⟩) (dn.length+1) cj4)
        have HLn:Hid (dn++[⟨op,z1,z2,xb,⟨ng,ln,ld⟩⟩]=(A.take (k+1)).map (ren (fN (by':Int) (NR:Int)))/\(dn++[(⟨op,z1,z2,xb,⟨ng,ln,ld⟩⟩:Ins)]).length=k+1):=by
         refine ⟨?_,by rw [List.length_append,HL.out.2];rfl⟩
         rw [List.take_succ_eq_append_getElem hkl,List.map_append,<- HL.out.1,Hx.out]
         show _=dn++[ren _ _]
         rw [Hy.out]
        go_roundw
        case rel => exact ⟨k+1,dn++[⟨op,z1,z2,xb,⟨ng,ln,ld⟩⟩],.slice (some ⟨g4,0,none⟩) (dn.length+1) cj4,by omega,by go_num,dr,Lib.hid hC6,Lib.hid hD6,Lib.hid hO5,HLn⟩
        case measure => simp [intOf] <;> omega
  ·obtain rfl:k=nA:=by omega
   have hki:¬ ((k:Int)<(k:Int)):=by omega
   have HDA:Hid (dn=A.map (ren (fN (by':Int) (NR:Int)))):=by
    show _=_
    rw [HL.out.1,List.take_of_length_le (by rw [HnA.out];exact Nat.le_refl _)]
   obtain ⟨aD,cD,hvD,_⟩:=HO.out.form
   obtain ⟨nD,hnD⟩:∃ z,dn.length=z:=⟨_,rfl⟩
   rw [hnD] at hvD
   subst hvD
   have hcC:IsC wr ⟨(I:Int),(R:Int),(I:Int),(G:Int),A⟩ (.slice av k cv):=⟨HO2.out.to gb0,⟨by show _<=(I:Int);omega,by show (I:Int)<_;omega⟩,⟨by show _<=(R:Int);omega,by show (R:Int)<_;omega⟩,⟨by show _<=(I:Int);omega,by show (I:Int)<_;omega⟩,⟨by show _<=(G:Int);omega,by show (G:Int)<_;omega⟩⟩
   have hcD:IsC wr ⟨(I:Int),(R:Int),(I:Int),(NR:Int),A.map (ren (fN (by':Int) (NR:Int)))⟩ (.slice aD nD cD):=⟨by have h:=HO.out.rdC;rw [HDA.out] at h;exact h,⟨by show _<=(I:Int);omega,by show (I:Int)<_;omega⟩,⟨by show _<=(R:Int);omega,by show (R:Int)<_;omega⟩,⟨by show _<=(I:Int);omega,by show (I:Int)<_;omega⟩,⟨by show _<=(NR:Int);omega,by show (NR:Int)<_;omega⟩⟩
   have HcC:=Lib.hid hcC
   have HcD:=Lib.hid hcD
   have eP:=bS dp gb0
   clear hcC hcD hnD eNR
   obtain ⟨cz,c0,c1,c2,c3,c4,cf0,cf1,cf2,cf3,cf4⟩:=HC5.out
   go_wp2_with fail
   refine (HPt.out _ eP).mono ?_
   rintro e w3 ⟨a3_,c3_,rfl,g3,bZ⟩
   clear cz c0 c1 c2 c3 c4 cf0 cf1 cf2 cf3 cf4
   obtain ⟨cz,c0,c1,c2,c3,c4,cf0,cf1,cf2,cf3,cf4⟩:=HC5.out.to bZ
   go_wp2_with fail
   refine (HRun1.out _ _ _ (HcC.out.to bZ) g3).mono ?_
   rintro e w5 ⟨a5_,n5_,c5_,rfl,g5,hlo5,cQ⟩
   clear cz c0 c1 c2 c3 c4 cf0 cf1 cf2 cf3 cf4
   have fK:=bS bZ cQ
   obtain ⟨dz,d0,d1,d2,d3,d4,df0,df1,df2,df3,df4⟩:=HD5.out.to fK
   go_upto_region 21 with fail
   obtain ⟨W5,cX⟩:∃ W5,(w5.alloc (.cells #[.int .i64 rw',.int .i64 cl',.slice a5_ n5_ c5_] 32)).alloc (.cells #[.int .i64 k',.int .i64 t'] 34)=W5:=⟨_,rfl⟩
   have hb_W5:Below w5.heap.size w5 W5:=by rw [<- cX];exact bS (bN _ _) (bN _ _)
   have tJ:Tri W5 w5.heap.size (.int .i64 rw') (.int .i64 cl') (.slice a5_ n5_ c5_):=by rw [<- cX];exact (ze _ _ _ _ _).alloc _
   have tK:Duo W5 (w5.heap.size+1) (.int .i64 k') (.int .i64 t'):=by rw [<- cX];exact zaD _ _ _ _ _
   rw [cX]
   clear cX dz d0 d1 d2 d3 d4 df0 df1 df2 df3 df4
   have hbW:=bS fK hb_W5
   have g5':=g5.to hb_W5
   obtain ⟨dz,d0,d1,d2,d3,d4,df0,df1,df2,df3,df4⟩:=HD5.out.to hbW
   go_wp2_with fail
   refine (HRun2.out _ _ _ (HcD.out.to hbW) ((g3.to cQ).to hb_W5)).mono ?_
   rintro e w6 ⟨a6_,n6_,c6_,rfl,g6,hlo6,dr⟩
   clear dz d0 d1 d2 d3 d4 df0 df1 df2 df3 df4
   go_upto_region 22 with fail
   obtain ⟨W6,fl⟩:∃ W6,(w6.alloc (.cells #[.int .i64 rw',.int .i64 cl',.slice a6_ n6_ c6_] 32)).alloc (.cells #[.int .i64 k',.int .i64 t'] 34)=W6:=⟨_,rfl⟩
   have hb_W6:Below w6.heap.size w6 W6:=by rw [<- fl];exact bS (bN _ _) (bN _ _)
   have tJ2:Tri W6 w6.heap.size (.int .i64 rw') (.int .i64 cl') (.slice a6_ n6_ c6_):=by rw [<- fl];exact (ze _ _ _ _ _).alloc _
   have tK2:Duo W6 (w6.heap.size+1) (.int .i64 k') (.int .i64 t'):=by rw [<- fl];exact zaD _ _ _ _ _
   rw [fl]
   clear fl
   have hbX:=bS dr hb_W6
   have hbZ:=bS hbW hbX
   have tJ1:=tJ.to hbX
   have tK1:=tK.to hbX
   have HC6:=Lib.hid (HC5.out.to hbZ)
   have HD6:=Lib.hid (HD5.out.to hbZ)
   have g51:=g5'.to hbX
   have g61:=g6.to hb_W6
   have HcC6:=Lib.hid (HcC.out.to hbZ)
   have HcD6:=Lib.hid (HcD.out.to hbZ)
   have hbA:=bS eP hbZ
   have HS6:Hid (∀ W',Below W6.heap.size W6 W'->(W'.cell? ⟨w2.heap.size+1,0,none⟩=some (.int .i64 (I:Int))/\W'.cell? ⟨w2.heap.size+1,1,none⟩=some (.int .i64 (R:Int))/\W'.cell? ⟨w2.heap.size+1,2,none⟩=some (.int .i64 (I:Int))/\W'.cell? ⟨w2.heap.size+1,3,none⟩=some (.int .i64 (NR:Int))/\W'.cell? ⟨w2.heap.size+1,4,none⟩=some (.slice aD nD cD)/\W'.cell? ⟨w2.heap.size,0,none⟩=some (.int .i64 (I:Int))/\W'.cell? ⟨w2.heap.size,1,none⟩=some (.int .i64 (R:Int))/\W'.cell? ⟨w2.heap.size,2,none⟩=some (.int .i64 (I:Int))/\W'.cell? ⟨w2.heap.size,3,none⟩=some (.int .i64 (G:Int))/\W'.cell? ⟨w2.heap.size,4,none⟩=some (.slice av k cv)/\W'.cell? ⟨w5.heap.size,0,none⟩=some (.int .i64 rw')/\W'.cell? ⟨w5.heap.size,1,none⟩=some (.int .i64 cl')/\W'.cell? ⟨w5.heap.size,2,none⟩=some (.slice a5_ n5_ c5_)/\W'.cell? ⟨w5.heap.size+1,0,none⟩=some (.int .i64 k')/\W'.cell? ⟨w5.heap.size+1,1,none⟩=some (.int .i64 t')/\W'.cell? ⟨w6.heap.size,0,none⟩=some (.int .i64 rw')/\W'.cell? ⟨w6.heap.size,1,none⟩=some (.int .i64 cl')/\W'.cell? ⟨w6.heap.size,2,none⟩=some (.slice a6_ n6_ c6_)/\W'.cell? ⟨w6.heap.size+1,0,none⟩=some (.int .i64 k')/\W'.cell? ⟨w6.heap.size+1,1,none⟩=some (.int .i64 t'))):=fun W' hb => by
    obtain ⟨_,d0,d1,d2,d3,d4,_⟩:=HD6.out.to hb
    obtain ⟨_,c0,c1,c2,c3,c4,_⟩:=HC6.out.to hb
    obtain ⟨p0,p1,p2,_⟩:=tJ1.to hb
    obtain ⟨r0,r1,_⟩:=tK1.to hb
    obtain ⟨s0,s1,s2,_⟩:=tJ2.to hb
    obtain ⟨v0,v1,_⟩:=tK2.to hb
    exact ⟨d0,d1,d2,d3,d4,c0,c1,c2,c3,c4,p0,p1,p2,r0,r1,s0,s1,s2,v0,v1⟩
   have gb:Below W6.heap.size W6 W6:=Below.refl _ _
   obtain ⟨m0,m1,m2,m3,m4,m5,m6,m7,m8,m9,m10,m11,m12,m13,m14,m15,m16,m17,m18,m19⟩:=HS6.out _ gb
   go_region_held3 (fun W' => W'.cell? ⟨w2.heap.size+1,0,none⟩=some (.int .i64 (I:Int))/\W'.cell? ⟨w2.heap.size+1,1,none⟩=some (.int .i64 (R:Int))/\W'.cell? ⟨w2.heap.size+1,2,none⟩=some (.int .i64 (I:Int))/\W'.cell? ⟨w2.heap.size+1,3,none⟩=some (.int .i64 (NR:Int))/\W'.cell? ⟨w2.heap.size+1,4,none⟩=some (.slice aD nD cD)/\W'.cell? ⟨w2.heap.size,0,none⟩=some (.int .i64 (I:Int))/\W'.cell? ⟨w2.heap.size,1,none⟩=some (.int .i64 (R:Int))/\W'.cell? ⟨w2.heap.size,2,none⟩=some (.int .i64 (I:Int))/\W'.cell? ⟨w2.heap.size,3,none⟩=some (.int .i64 (G:Int))/\W'.cell? ⟨w2.heap.size,4,none⟩=some (.slice av k cv)/\W'.cell? ⟨w5.heap.size,0,none⟩=some (.int .i64 rw')/\W'.cell? ⟨w5.heap.size,1,none⟩=some (.int .i64 cl')/\W'.cell? ⟨w5.heap.size,2,none⟩=some (.slice a5_ n5_ c5_)/\W'.cell? ⟨w5.heap.size+1,0,none⟩=some (.int .i64 k')/\W'.cell? ⟨w5.heap.size+1,1,none⟩=some (.int .i64 t')/\W'.cell? ⟨w6.heap.size,0,none⟩=some (.int .i64 rw')/\W'.cell? ⟨w6.heap.size,1,none⟩=some (.int .i64 cl')/\W'.cell? ⟨w6.heap.size,2,none⟩=some (.slice a6_ n6_ c6_)/\W'.cell? ⟨w6.heap.size+1,0,none⟩=some (.int .i64 k')/\W'.cell? ⟨w6.heap.size+1,1,none⟩=some (.int .i64 t')) (first|(with_reducible exact HS6.out _ gb)|((with_reducible refine HS6.out _ ?_);repeat' (first|(with_reducible exact gb)|(with_reducible refine Below.drew ?_)|(with_reducible refine bS ?_ (bN _ _))|omega))) (first
    | (go_at_call 16;(refine zf w9 (by with_reducible first|exact Below.refl _ _|exact bN _ _) ?_);intro V10 jx fo;have gb:=bS gb fo;(with_reducible refine (zbZ _ _ _ (HcD6.out.to gb) (Hsd.out.upN (by decide)) gh Hgd.out).mono ?_);rintro e w10 ⟨rfl,fU⟩;have gb:=bS gb fU;obtain ⟨m0,m1,m2,m3,m4,m5,m6,m7,m8,m9,m10,m11,m12,m13,m14,m15,m16,m17,m18,m19⟩:=HS6.out _ gb)
    | (go_at_call 16;(refine zf w8 (by with_reducible first|exact Below.refl _ _|exact bN _ _) ?_);intro V9 kT fW;have gb:=bS gb fW;(with_reducible refine (zbZ _ _ _ (HcC6.out.to gb) (Hs6.out.upN (by decide)) gh Hgh.out).mono ?_);rintro e w9 ⟨rfl,fG⟩;have gb:=bS gb fG;obtain ⟨m0,m1,m2,m3,m4,m5,m6,m7,m8,m9,m10,m11,m12,m13,m14,m15,m16,m17,m18,m19⟩:=HS6.out _ gb)
    | (go_at_call 21;(refine zf w7 (by with_reducible first|exact Below.refl _ _|exact bN _ _) ?_);intro V8 kE fp;have gb:=bS gb fp;(with_reducible refine (zcI rw' cl' _ _ _ _ (g51.to gb) (g61.to gb) Hlen.out).mono ?_);rintro e w8 ⟨rfl,iS⟩;have gb:=bS gb iS;obtain ⟨m0,m1,m2,m3,m4,m5,m6,m7,m8,m9,m10,m11,m12,m13,m14,m15,m16,m17,m18,m19⟩:=HS6.out _ gb)
    | (go_at_call 14;(refine zf W6 (by with_reducible first|exact (Below.refl _ _).drew|exact (bN _ _).drew) ?_);intro V7 kD fI;have gb:=bS gb fI;(with_reducible refine (zaL _ _ _ (HcD6.out.to gb) (Hsd.out.upN (by decide)) true HRd.out).mono ?_);rintro e w7 ⟨rfl,fm⟩;have gb:=bS gb fm;obtain ⟨m0,m1,m2,m3,m4,m5,m6,m7,m8,m9,m10,m11,m12,m13,m14,m15,m16,m17,m18,m19⟩:=HS6.out _ gb))
   go_wp2_with fail
   go_ret
   exact ⟨rfl,bS hbA gb⟩
 ·have u16:decide ((16:Int)<(N:Int))=true:=decide_eq_true (by omega)
  clear hl hs
  go_enter Tryz.func6,Tryz.ntmps6
  go_wp2_with fail
  refine (zdE _).mono ?_
  rintro e w1 ⟨rfl,aX⟩
  go_wp2_with fail
  go_ret
  exact ⟨rfl,aX⟩

end Go.Proofs.YtkjcdnlpjldhaaaGreat

