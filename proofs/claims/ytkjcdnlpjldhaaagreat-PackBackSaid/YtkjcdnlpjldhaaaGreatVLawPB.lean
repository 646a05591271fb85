/-
  The walk of PackBack.
-/
import Derived.Test.YtkjcdnlpjldhaaaGreatK35
import Derived.Test.YtkjcdnlpjldhaaaGreatK21
import Derived.Test.YtkjcdnlpjldhaaaGreatK36
import Derived.Test.YtkjcdnlpjldhaaaGreatK30
import Derived.Test.YtkjcdnlpjldhaaaGreatK05
import Derived.Deep.RegionHeld3
import Derived.RegionTactic
set_option linter.unusedVariables false
set_option linter.unusedSimpArgs false
set_option maxRecDepth 100000
set_option maxHeartbeats 400000000
namespace Go.Proofs.YtkjcdnlpjldhaaaGreat
open Go.RowKit Tw
attribute [local go_sem ↓] Go.wp_at_zero Go.wp_at_succ

def Y7 (wr wx:World) (op tz a b:Int) (ng:Bool) (vn vd:Value):Prop :=
 Below wr.heap.size wr wx/\wr.heap.size<wx.heap.size /\
 wx.cell? ⟨wr.heap.size,0,none⟩=some (.int .i64 op)/\wx.cell? ⟨wr.heap.size,1,none⟩=some (.int .i64 tz)/\wx.cell? ⟨wr.heap.size,2,none⟩=some (.int .i64 a)/\wx.cell? ⟨wr.heap.size,3,none⟩=some (.int .i64 b) /\
 wx.cell? ⟨wr.heap.size,4,none⟩=some (.bool ng)/\wx.cell? ⟨wr.heap.size,5,none⟩=some vn/\wx.cell? ⟨wr.heap.size,6,none⟩=some vd /\
 wx.frozen? ⟨wr.heap.size,0,none⟩=false/\wx.frozen? ⟨wr.heap.size,1,none⟩=false/\wx.frozen? ⟨wr.heap.size,2,none⟩=false/\wx.frozen? ⟨wr.heap.size,3,none⟩=false

section

variable {w wr wx:World} {op tz a b:Int} {ng:Bool} {vn vd:Value} {t:TypeId}

theorem Y7.new:Y7 w (w.alloc (.cells #[.int .i64 op,.int .i64 tz,.int .i64 a,.int .i64 b,.bool ng,vn,vd] t)) op tz a b ng vn vd:=by
 refine ⟨bN _ _,by simp,?_,?_,?_,?_,?_,?_,?_,?_,?_,?_,?_⟩ <;> simp [go_sem]

theorem Y7.put (h:Y7 wr wx op tz a b ng vn vd) {o:Nat} (ho:o<4) (z:Int):Y7 wr (wx.setCell ⟨wr.heap.size,o,none⟩ (.int .i64 z)) (if o=0 then z else op) (if o=1 then z else tz) (if o=2 then z else a) (if o=3 then z else b) ng vn vd:=by
 obtain ⟨gb,hs,x0,x1,x2,x3,x4,x5,x6,y0,y1,y2,y3⟩:=h
 refine ⟨gb.setCell (Nat.le_refl _) _,by simp [go_sem];exact hs,?_,?_,?_,?_,cP x4 (.inr (by omega)) _,cP x5 (.inr (by omega)) _,cP x6 (.inr (by omega)) _,?_,?_,?_,?_⟩
 ·split
  ·rename_i e;subst e;exact zh x0 _
  ·rename_i e;exact cP x0 (.inr (fun k => e k.symm)) _
 ·split
  ·rename_i e;subst e;exact zh x1 _
  ·rename_i e;exact cP x1 (.inr (fun k => e k.symm)) _
 ·split
  ·rename_i e;subst e;exact zh x2 _
  ·rename_i e;exact cP x2 (.inr (fun k => e k.symm)) _
 ·split
  ·rename_i e;subst e;exact zh x3 _
  ·rename_i e;exact cP x3 (.inr (fun k => e k.symm)) _
 all_goals simp [go_sem,y0,y1,y2,y3]

theorem Y7.put1 (h:Y7 wr wx op tz a b ng vn vd) (z:Int):Y7 wr (wx.setCell ⟨wr.heap.size,1,none⟩ (.int .i64 z)) op z a b ng vn vd:=h.put (o:=1) (by decide) z

theorem Y7.put2 (h:Y7 wr wx op tz a b ng vn vd) (z:Int):Y7 wr (wx.setCell ⟨wr.heap.size,2,none⟩ (.int .i64 z)) op tz z b ng vn vd:=h.put (o:=2) (by decide) z

theorem Y7.put3 (h:Y7 wr wx op tz a b ng vn vd) (z:Int):Y7 wr (wx.setCell ⟨wr.heap.size,3,none⟩ (.int .i64 z)) op tz a z ng vn vd:=h.put (o:=3) (by decide) z

end

def zbg (A dn:List Ins) (b:Int) (k:Nat):Prop:=dn=(A.take k).map (sB b)++A.drop k

theorem zbg.next {A dn:List Ins} {b:Int} {k:Nat} (h:zbg A dn b k) (hk:k<A.length) {y:Ins} (hy:sB b A[k]=y):zbg A (dn.set k y) b (k+1):=by
 unfold zbg at h ⊢
 subst h hy
 have hl:((A.take k).map (sB b)).length=k:=by rw [List.length_map,List.length_take];omega
 rw [List.take_succ_eq_append_getElem hk,List.map_append,List.drop_eq_getElem_cons hk,List.set_append_right _ _ (by omega),hl,Nat.sub_self,List.set_cons_zero,List.append_assoc]
 rfl

theorem zbg.at {A dn:List Ins} {b:Int} {k:Nat} (h:zbg A dn b k) (hk:k<A.length):dn.length=A.length/\dn[k]?=some A[k]:=by
 unfold zbg at h
 subst h
 have hl:((A.take k).map (sB b)).length=k:=by rw [List.length_map,List.length_take];omega
 constructor
 ·rw [List.length_append,hl,List.length_drop];omega
 ·rw [List.getElem?_append_right (by omega),hl,Nat.sub_self,List.getElem?_drop,Nat.add_zero,List.getElem?_eq_getElem hk]

theorem zbg.len {A dn:List Ins} {b:Int} {k:Nat} (h:zbg A dn b k) (hk:k<=A.length):dn.length=A.length:=by
 unfold zbg at h
 subst h
 rw [List.length_append,List.length_map,List.length_take,List.length_drop];omega

theorem walk_PackBack (a0 a1 a2:Int) (v:Value) (l:List Tn) (a4:Int) (w:World) (h00:0<=a0) (h01:a0<256) (h10:0<=a1) (h11:a1<256) (h20:0<=a2) (h21:a2<256) (hl:RdTn w v l) (h40:0<=a4) (h41:a4<65536) :
  Calls Tryz.prog 9 #[.int .u8 a0,.int .u8 a1,.int .u8 a2,v,.int .u16 a4] w (Holds w):=by
 obtain ⟨i,rfl⟩:=Int.eq_ofNat_of_zero_le h00
 obtain ⟨r,rfl⟩:=Int.eq_ofNat_of_zero_le h10
 obtain ⟨g,rfl⟩:=Int.eq_ofNat_of_zero_le h20
 obtain ⟨by',rfl⟩:=Int.eq_ofNat_of_zero_le h40
 obtain ⟨a,N,cap,rfl,HN,hm'⟩:=hl.open
 have Hl:=Lib.hid hl
 by_cases h16:N<=16
 ·have u16:decide ((16:Int)<(N:Int))=false:=decide_eq_false (by omega)
  have hl16:l.length<=16:=by rw [HN.out];exact h16
  have hR:=(zjB i r g l hl16).1
  obtain ⟨I,hI⟩:∃ z,1+i % 3=z:=⟨_,rfl⟩
  obtain ⟨R,hRR⟩:∃ z,1+r % 3=z:=⟨_,rfl⟩
  obtain ⟨G,hG⟩:∃ z,1+g % 6=z:=⟨_,rfl⟩
  obtain ⟨A,hA⟩:∃ z,zaI I G (R*I) [] [] l=z:=⟨_,rfl⟩
  have bI:0<I/\I<=3:=by omega
  have bR:0<R/\R<=3:=by omega
  have bG:0<G/\G<=6:=by omega
  have hC:zdk i r g l=⟨(I:Int),(R:Int),(I:Int),(G:Int),A⟩:=by unfold zdk;rw [hI,hRR,hG,hA]
  rw [hC] at hR
  have hT:∀ x ∈ A,Tame x:=by rw [<- hA];exact zei bI bG ⟨Nat.mul_pos bR.1 bI.1,Nat.mul_le_mul bR.2 bI.2⟩ l [] [] (MI.nil _)
  have HAl:Hid (A.length<=16):=by show _<=_;rw [<- hA,zdI];exact hl16
  have hQ:∀ x ∈ A,(x.q.n.length<=1/\x.q.d.length<=1)/\Small x.q.n/\Small x.q.d:=by
   rw [<- hA]
   intro x hx
   have:=ziq l [] [] x hx
   exact ⟨⟨this.1,this.2.1⟩,this.2.2.2.2⟩
  have HMd:Hid (∀ W,Below w.heap.size w W->Calls Tryz.prog 22 #[.int .u8 (i:Int),.int .u8 (r:Int),.int .u8 (g:Int),.slice a N cap,.int .i64 16] W (fun e w' => ∃ v',e=.returned (aggC ⟨(I:Int),(R:Int),(I:Int),(G:Int),A⟩ v')/\zau W.heap.size w' v' A/\Below W.heap.size W w')):=fun W hb => by
   have h:=zkM i r g 16 _ l W (Hl.out.to hb) (by omega) (by omega) (by omega) (by decide)
   rw [List.take_of_length_le hl16,hC] at h
   exact h
  obtain ⟨NR,hNR⟩:∃ z,G+by'=z:=⟨_,rfl⟩
  have eNR:(G:Int)+(by':Int)=(NR:Int):=by omega
  have hNRl:NR<100000:=by omega
  have hdB:dB ⟨(I:Int),(R:Int),(I:Int),(G:Int),A⟩ (by':Int)=⟨(I:Int),(R:Int),(I:Int),(NR:Int),A.map (sB (by':Int))⟩:=by unfold dB;rw [eNR]
  have hRd:zF ⟨(I:Int),(R:Int),(I:Int),(NR:Int),A.map (sB (by':Int))⟩=true:=by
   rw [<- hdB]
   exact dB_right hR ⟨by omega,by omega⟩ (by show (1:Int)<=(G:Int)/\(G:Int)<=10;omega)
  have hqm:∀ x ∈ A.map (sB (by':Int)),(x.q.n.length<=1/\x.q.d.length<=1)/\Small x.q.n/\Small x.q.d:=fun x hx => by
   obtain ⟨y,hy,rfl⟩:=List.mem_map.1 hx
   exact hQ y hy
  have hWi:zfA ⟨(I:Int),(R:Int),(I:Int),(NR:Int),A.map (sB (by':Int))⟩:=zeo hRd fun x hx => by
   have k:=hqm x hx
   exact ⟨⟨by omega,k.2.1⟩,⟨by omega,k.2.2⟩⟩
  have hAl16:(A.map (sB (by':Int))).length<=16:=by rw [List.length_map];exact HAl.out
  have HDec:Hid (zC (zaX ⟨(I:Int),(R:Int),(I:Int),(NR:Int),A.map (sB (by':Int))⟩)=some ⟨(I:Int),(R:Int),(I:Int),(NR:Int),A.map (sB (by':Int))⟩):=zey hWi hRd
  have HFew:Hid ((zaX ⟨(I:Int),(R:Int),(I:Int),(NR:Int),A.map (sB (by':Int))⟩).length<=4000):=zkn hWi hAl16 (fun x hx => (hqm x hx).1)
  have HSh:Hid (zbo 1000 (A.map (sB (by':Int)))):=fun x hx => by have:=(hqm x hx).1;exact ⟨by omega,by omega⟩
  have HA16:Hid ((A.map (sB (by':Int))).length<=1000):=by show _<=_;omega
  have HRd:=Lib.hid hRd
  have HT:=Lib.hid hT
  have Hnr:=Lib.hid eNR
  clear hl hR hC hA hI hRR hG hT hQ hNR hdB hl16 hRd hqm hWi hAl16
  go_enter Tryz.func9,Tryz.ntmps9
  go_wp2_with fail
  refine (zib _).mono ?_
  rintro e w1 ⟨rfl,be⟩
  go_wp2_with fail
  refine (HMd.out _ be).mono ?_
  rintro e w2 ⟨v2,rfl,hO2,aZ⟩
  obtain ⟨av,cv,rfl,hpv⟩:=hO2.form
  obtain ⟨nA,hnA⟩:∃ z,A.length=z:=⟨_,rfl⟩
  have HnA:=Lib.hid hnA
  rw [hnA]
  rw [hnA] at hO2 hpv
  have HvC:Hid (∀ q,(Value.slice av nA cv).ownBlock=some q->w1.heap.size<=q/\q<w2.heap.size):=hO2.lt
  have HO2:=Lib.hid hO2
  have Hpv:=Lib.hid hpv
  have it:=aZ.size
  have hnA16:nA<=1000:=by have:=HAl.out;omega
  clear hpv hnA hO2 HMd
  have eNR:=Hnr.out
  have hby:IntKind.i64.wrap (by':Int)=(by':Int):=IntWalk.i64_in _ (by omega)
  have hNRw:IntKind.i64.wrap ((G:Int)+(by':Int))=(NR:Int):=by rw [eNR];exact IntWalk.i64_in _ (by omega)
  go_upto_region 6 with fail
  obtain ⟨W3,eJ⟩:∃ W3,w2.alloc (.cells #[.int .i64 (I:Int),.int .i64 (R:Int),.int .i64 (I:Int),.int .i64 (NR:Int),.slice av nA cv] 24)=W3:=⟨_,rfl⟩
  have cl:Below w2.heap.size w2 W3:=by rw [<- eJ];exact bN _ _
  have HC3:Hid (B5 W3 w2.heap.size (.int .i64 (I:Int)) (.int .i64 (R:Int)) (.int .i64 (I:Int)) (.int .i64 (NR:Int)) (.slice av nA cv)):=by
   show B5 _ _ _ _ _ _ _
   rw [<- eJ]
   unfold B5
   and_intros <;> first|(simp [go_sem];done)|(simp [go_sem];omega)
  rw [eJ]
  clear eJ
  have eb:=bS aZ cl
  go_wp2_with fail
  go_loopw [13] (fun i ww => ∃ (k:Nat) (dn:List Ins),k<=nA/\i=.int .i64 k/\Below w1.heap.size w1 ww/\Hid (B5 ww w2.heap.size (.int .i64 (I:Int)) (.int .i64 (R:Int)) (.int .i64 (I:Int)) (.int .i64 (NR:Int)) (.slice av nA cv))/\Hid (zau w1.heap.size ww (.slice av nA cv) dn)/\Hid (zbg A dn (by':Int) k)) (fun i _ => nA - (intOf i).toNat)
  case atStart => exact ⟨0,A,Nat.zero_le _,rfl,eb,HC3,Lib.hid (HO2.out.to cl),Lib.hid (by unfold zbg;simp)⟩
  case round =>
  clear HC3
  obtain ⟨k,dn,hk,rfl,gb0,HC5,HO,HL⟩:=hrel
  have hz2:w2.heap.size<wr.heap.size:=HC5.out.1
  have hne1:¬ (w2.heap.size=wr.heap.size):=by omega
  by_cases hkA:k<nA
  ·have hki:(k:Int)<(nA:Int):=by omega
   have hkl:k<A.length:=by rw [HnA.out];exact hkA
   obtain ⟨q,rfl,hq1,hq2⟩:=Hpv.out (by omega)
   have hdl:=HL.out.at hkl
   have hkd:k<dn.length:=by rw [hdl.1];exact hkl
   have hdk:dn[k]=A[k]:=by
    have:=hdl.2
    rw [List.getElem?_eq_getElem hkd] at this
    exact Option.some.inj this
   obtain ⟨a1,n1,c1,a2,n2,c2,s0,s1,s2,s3,s4,s5,s6,sf,hn,hd,hf1,hf2,_⟩:=HO.out.at hkd
   rw [hdk] at s0 s1 s2 s3 s4 hn hd
   have hTm:=HT.out _ (List.getElem_mem hkl)
   obtain ⟨x,hx⟩:∃ x,A[k]=x:=⟨_,rfl⟩
   rw [hx] at s0 s1 s2 s3 s4 hn hd hTm
   obtain ⟨op,tz,xa,xb,⟨ng,ln,ld⟩⟩:=x
   obtain ⟨T1,T2,T3,T4,T5,T6,T7,T8,T9⟩:=hTm
   simp only at s0 s1 s2 s3 s4 hn hd T1 T2 T3 T4 T5 T6 T7 T8 T9
   have Hx:=Lib.hid hx
   have HF:Hid (Far (.slice a1 n1 c1) (some q)/\Far (.slice a2 n2 c2) (some q)):=⟨hf1,hf2⟩
   have Hnd:Hid (Rd wr (.slice a1 n1 c1) ln/\Rd wr (.slice a2 n2 c2) ld):=⟨hn,hd⟩
   have Hsf:=Lib.hid sf
   have Hs:=Lib.hid (And.intro s0 (And.intro s1 (And.intro s2 (And.intro s3 (And.intro s4 (And.intro s5 s6))))))
   have Hkd:=Lib.hid hkd
   have hqr:q<wr.heap.size:=by omega
   have hnq:¬ (q=wr.heap.size):=by omega
   have w1':IntKind.i64.wrap (tz+(by':Int))=tz+(by':Int):=IntWalk.i64_in _ (by omega)
   have w2':IntKind.i64.wrap (xa+(by':Int))=xa+(by':Int):=IntWalk.i64_in _ (by omega)
   have w3':IntKind.i64.wrap (xb+(by':Int))=xb+(by':Int):=IntWalk.i64_in _ (by omega)
   clear hx hn hd hf1 hf2 sf eNR hNRw
   obtain ⟨cz,c0,c1',c2',c3,c4,cf0,cf1,cf2,cf3,cf4⟩:=HC5.out
   go_upto_region 10 with fail
   obtain ⟨W1,aO⟩:∃ W1,wr.alloc (.cells #[.int .i64 op,.int .i64 tz,.int .i64 xa,.int .i64 xb,.bool ng,.slice a1 n1 c1,.slice a2 n2 c2] 49)=W1:=⟨_,rfl⟩
   have hX:Y7 wr W1 op tz xa xb ng (.slice a1 n1 c1) (.slice a2 n2 c2):=by rw [<- aO];exact Y7.new
   rw [aO]
   clear aO cz c0 c1' c2' c3 c4 cf0 cf1 cf2 cf3 cf4 s0 s1 s2 s3 s4 s5 s6
   have HX:=Lib.hid hX
   obtain ⟨gb,hsz,x0,x1,x2,x3,x4,x5,x6,y0,y1,y2,y3⟩:=hX
   by_cases q1:op<=1
   ·have v10:(op != 10)=true:=by simp <;> omega
    have v1:decide (1<op)=false:=by exact decide_eq_false (by omega)
    have g2:decide (2<=op)=false:=by exact decide_eq_false (by omega)
    have e8:(op == 8)=false:=by simp <;> omega
    have e9:(op == 9)=false:=by simp <;> omega
    have Hy:Hid (sB (by':Int) ⟨op,tz,xa,xb,⟨ng,ln,ld⟩⟩=⟨op,tz+(by':Int),xa,xb,⟨ng,ln,ld⟩⟩):=by
     show _=_
     unfold sB ren
     simp only
     rw [if_neg (show ¬ op=10 by omega),if_neg (show ¬ 1<op by omega),if_neg (fun h => by have:=zbO.1 h;omega)]
    have HI:Hid (zbV (⟨op,tz+(by':Int),xa,xb,⟨ng,ln,ld⟩⟩:Ins)):=by
     refine ⟨?_,?_,?_,?_⟩ <;> (constructor <;> (simp only;omega))
    try clear q10
    try clear q8
    try clear q9
    try clear q5
    try clear q1
    go_upto_region 16 with fail
    obtain ⟨W5,dc⟩:∃ W5,W1.setCell ⟨wr.heap.size,1,none⟩ (.int .i64 (tz+(by':Int)))=W5:=⟨_,rfl⟩
    have hX6:Y7 wr W5 op (tz+(by':Int)) (xa) (xb) ng (.slice a1 n1 c1) (.slice a2 n2 c2):=by rw [<- dc];exact (HX.out.put1 _)
    rw [dc]
    clear dc gb hsz x0 x1 x2 x3 x4 x5 x6 y0 y1 y2 y3
    obtain ⟨gb5,eH,e0,e1,e2,e3,e4,e5,e6,_⟩:=hX6
    obtain ⟨s0,s1,s2,s3,s4,s5,s6⟩:=Hs.out
    replace s0:=(gb5.cell (p:=⟨q,k*7,none⟩) hqr).trans s0
    replace s1:=(gb5.cell (p:=⟨q,k*7+1,none⟩) hqr).trans s1
    replace s2:=(gb5.cell (p:=⟨q,k*7+2,none⟩) hqr).trans s2
    replace s3:=(gb5.cell (p:=⟨q,k*7+3,none⟩) hqr).trans s3
    replace s4:=(gb5.cell (p:=⟨q,k*7+4,none⟩) hqr).trans s4
    replace s5:=(gb5.cell (p:=⟨q,k*7+5,none⟩) hqr).trans s5
    replace s6:=(gb5.cell (p:=⟨q,k*7+6,none⟩) hqr).trans s6
    have t0:=(gb5.frozen (p:=⟨q,k*7,none⟩) hqr).trans (Hsf.out _)
    have t1:=(gb5.frozen (p:=⟨q,k*7+1,none⟩) hqr).trans (Hsf.out _)
    have t2:=(gb5.frozen (p:=⟨q,k*7+2,none⟩) hqr).trans (Hsf.out _)
    have t3:=(gb5.frozen (p:=⟨q,k*7+3,none⟩) hqr).trans (Hsf.out _)
    have t4:=(gb5.frozen (p:=⟨q,k*7+4,none⟩) hqr).trans (Hsf.out _)
    have t5:=(gb5.frozen (p:=⟨q,k*7+5,none⟩) hqr).trans (Hsf.out _)
    have t6:=(gb5.frozen (p:=⟨q,k*7+6,none⟩) hqr).trans (Hsf.out _)
    obtain ⟨dz,d0,d1,d2,d3,d4,df0,df1,df2,df3,df4⟩:=HC5.out.to gb5
    go_wp2_with fail
    have HO5:=HO.out.to gb5
    obtain ⟨hO6,hg6⟩:=HO5.set7 Hkd.out (y:=⟨op,tz+(by':Int),xa,xb,⟨ng,ln,ld⟩⟩) (Hnd.out.1.to gb5) (Hnd.out.2.to gb5) HF.out.1 HF.out.2 HI.out
    have hC6:=(HC5.out.to gb5).grown hg6 (fun e => by injection e with e;omega)
    have b6:Below w1.heap.size w1 _:=(bS gb0 gb5).trans (zbS (base:=w1.heap.size) (g:=q) (o:=k*7) (v0:=.int .i64 op) (v1:=.int .i64 (tz+(by':Int))) (v2:=.int .i64 (xa)) (v3:=.int .i64 (xb)) (v4:=.bool ng) (v5:=.slice a1 n1 c1) (v6:=.slice a2 n2 c2) hq1)
    go_roundw
    case rel => exact ⟨k+1,dn.set k ⟨op,tz+(by':Int),xa,xb,⟨ng,ln,ld⟩⟩,by omega,by go_num,b6,Lib.hid hC6,Lib.hid hO6,Lib.hid (HL.out.next hkl (by rw [Hx.out];exact Hy.out))⟩
    case measure => simp [intOf] <;> omega
   ·by_cases q10:op=10
    ·have v10:(op != 10)=false:=by simp <;> omega
     have v1:decide (1<op)=true:=by exact decide_eq_true (by omega)
     have g2:decide (2<=op)=true:=by exact decide_eq_true (by omega)
     have l5:decide (op<=5)=false:=by exact decide_eq_false (by omega)
     have e8:(op == 8)=false:=by simp <;> omega
     have e9:(op == 9)=false:=by simp <;> omega
     have Hy:Hid (sB (by':Int) ⟨op,tz,xa,xb,⟨ng,ln,ld⟩⟩=⟨op,tz,xa+(by':Int),xb,⟨ng,ln,ld⟩⟩):=by
      show _=_
      unfold sB ren
      simp only
      rw [if_pos (show op=10 by omega),if_pos (show 1<op by omega),if_neg (fun h => by have:=zbO.1 h;omega)]
     have HI:Hid (zbV (⟨op,tz,xa+(by':Int),xb,⟨ng,ln,ld⟩⟩:Ins)):=by
      refine ⟨?_,?_,?_,?_⟩ <;> (constructor <;> (simp only;omega))
     try clear q10
     try clear q8
     try clear q9
     try clear q5
     try clear q1
     go_upto_region 16 with fail
     obtain ⟨W5,dc⟩:∃ W5,W1.setCell ⟨wr.heap.size,2,none⟩ (.int .i64 (xa+(by':Int)))=W5:=⟨_,rfl⟩
     have hX6:Y7 wr W5 op (tz) (xa+(by':Int)) (xb) ng (.slice a1 n1 c1) (.slice a2 n2 c2):=by rw [<- dc];exact (HX.out.put2 _)
     rw [dc]
     clear dc gb hsz x0 x1 x2 x3 x4 x5 x6 y0 y1 y2 y3
     obtain ⟨gb5,eH,e0,e1,e2,e3,e4,e5,e6,_⟩:=hX6
     obtain ⟨s0,s1,s2,s3,s4,s5,s6⟩:=Hs.out
     replace s0:=(gb5.cell (p:=⟨q,k*7,none⟩) hqr).trans s0
     replace s1:=(gb5.cell (p:=⟨q,k*7+1,none⟩) hqr).trans s1
     replace s2:=(gb5.cell (p:=⟨q,k*7+2,none⟩) hqr).trans s2
     replace s3:=(gb5.cell (p:=⟨q,k*7+3,none⟩) hqr).trans s3
     replace s4:=(gb5.cell (p:=⟨q,k*7+4,none⟩) hqr).trans s4
     replace s5:=(gb5.cell (p:=⟨q,k*7+5,none⟩) hqr).trans s5
     replace s6:=(gb5.cell (p:=⟨q,k*7+6,none⟩) hqr).trans s6
     have t0:=(gb5.frozen (p:=⟨q,k*7,none⟩) hqr).trans (Hsf.out _)
     have t1:=(gb5.frozen (p:=⟨q,k*7+1,none⟩) hqr).trans (Hsf.out _)
     have t2:=(gb5.frozen (p:=⟨q,k*7+2,none⟩) hqr).trans (Hsf.out _)
     have t3:=(gb5.frozen (p:=⟨q,k*7+3,none⟩) hqr).trans (Hsf.out _)
     have t4:=(gb5.frozen (p:=⟨q,k*7+4,none⟩) hqr).trans (Hsf.out _)
     have t5:=(gb5.frozen (p:=⟨q,k*7+5,none⟩) hqr).trans (Hsf.out _)
     have t6:=(gb5.frozen (p:=⟨q,k*7+6,none⟩) hqr).trans (Hsf.out _)
     obtain ⟨dz,d0,d1,d2,d3,d4,df0,df1,df2,df3,df4⟩:=HC5.out.to gb5
     go_wp2_with fail
     have HO5:=HO.out.to gb5
     obtain ⟨hO6,hg6⟩:=HO5.set7 Hkd.out (y:=⟨op,tz,xa+(by':Int),xb,⟨ng,ln,ld⟩⟩) (Hnd.out.1.to gb5) (Hnd.out.2.to gb5) HF.out.1 HF.out.2 HI.out
     have hC6:=(HC5.out.to gb5).grown hg6 (fun e => by injection e with e;omega)
     have b6:Below w1.heap.size w1 _:=(bS gb0 gb5).trans (zbS (base:=w1.heap.size) (g:=q) (o:=k*7) (v0:=.int .i64 op) (v1:=.int .i64 (tz)) (v2:=.int .i64 (xa+(by':Int))) (v3:=.int .i64 (xb)) (v4:=.bool ng) (v5:=.slice a1 n1 c1) (v6:=.slice a2 n2 c2) hq1)
     go_roundw
     case rel => exact ⟨k+1,dn.set k ⟨op,tz,xa+(by':Int),xb,⟨ng,ln,ld⟩⟩,by omega,by go_num,b6,Lib.hid hC6,Lib.hid hO6,Lib.hid (HL.out.next hkl (by rw [Hx.out];exact Hy.out))⟩
     case measure => simp [intOf] <;> omega
    ·by_cases q5:op<=5
     ·have v10:(op != 10)=true:=by simp <;> omega
      have v1:decide (1<op)=true:=by exact decide_eq_true (by omega)
      have g2:decide (2<=op)=true:=by exact decide_eq_true (by omega)
      have l5:decide (op<=5)=true:=by exact decide_eq_true (by omega)
      have Hy:Hid (sB (by':Int) ⟨op,tz,xa,xb,⟨ng,ln,ld⟩⟩=⟨op,tz+(by':Int),xa+(by':Int),xb+(by':Int),⟨ng,ln,ld⟩⟩):=by
       show _=_
       unfold sB ren
       simp only
       rw [if_neg (show ¬ op=10 by omega),if_pos (show 1<op by omega),if_pos (zbO.2 (by omega))]
      have HI:Hid (zbV (⟨op,tz+(by':Int),xa+(by':Int),xb+(by':Int),⟨ng,ln,ld⟩⟩:Ins)):=by
       refine ⟨?_,?_,?_,?_⟩ <;> (constructor <;> (simp only;omega))
      try clear q10
      try clear q8
      try clear q9
      try clear q5
      try clear q1
      go_upto_region 16 with fail
      obtain ⟨W5,dc⟩:∃ W5,((W1.setCell ⟨wr.heap.size,1,none⟩ (.int .i64 (tz+(by':Int)))).setCell ⟨wr.heap.size,2,none⟩ (.int .i64 (xa+(by':Int)))).setCell ⟨wr.heap.size,3,none⟩ (.int .i64 (xb+(by':Int)))=W5:=⟨_,rfl⟩
      have hX6:Y7 wr W5 op (tz+(by':Int)) (xa+(by':Int)) (xb+(by':Int)) ng (.slice a1 n1 c1) (.slice a2 n2 c2):=by rw [<- dc];exact (((HX.out.put1 _).put2 _).put3 _)
      rw [dc]
      clear dc gb hsz x0 x1 x2 x3 x4 x5 x6 y0 y1 y2 y3
      obtain ⟨gb5,eH,e0,e1,e2,e3,e4,e5,e6,_⟩:=hX6
      obtain ⟨s0,s1,s2,s3,s4,s5,s6⟩:=Hs.out
      replace s0:=(gb5.cell (p:=⟨q,k*7,none⟩) hqr).trans s0
      replace s1:=(gb5.cell (p:=⟨q,k*7+1,none⟩) hqr).trans s1
      replace s2:=(gb5.cell (p:=⟨q,k*7+2,none⟩) hqr).trans s2
      replace s3:=(gb5.cell (p:=⟨q,k*7+3,none⟩) hqr).trans s3
      replace s4:=(gb5.cell (p:=⟨q,k*7+4,none⟩) hqr).trans s4
      replace s5:=(gb5.cell (p:=⟨q,k*7+5,none⟩) hqr).trans s5
      replace s6:=(gb5.cell (p:=⟨q,k*7+6,none⟩) hqr).trans s6
      have t0:=(gb5.frozen (p:=⟨q,k*7,none⟩) hqr).trans (Hsf.out _)
      have t1:=(gb5.frozen (p:=⟨q,k*7+1,none⟩) hqr).trans (Hsf.out _)
      have t2:=(gb5.frozen (p:=⟨q,k*7+2,none⟩) hqr).trans (Hsf.out _)
      have t3:=(gb5.frozen (p:=⟨q,k*7+3,none⟩) hqr).trans (Hsf.out _)
      have t4:=(gb5.frozen (p:=⟨q,k*7+4,none⟩) hqr).trans (Hsf.out _)
      have t5:=(gb5.frozen (p:=⟨q,k*7+5,none⟩) hqr).trans (Hsf.out _)
      have t6:=(gb5.frozen (p:=⟨q,k*7+6,none⟩) hqr).trans (Hsf.out _)
      obtain ⟨dz,d0,d1,d2,d3,d4,df0,df1,df2,df3,df4⟩:=HC5.out.to gb5
      go_wp2_with fail
      have HO5:=HO.out.to gb5
      obtain ⟨hO6,hg6⟩:=HO5.set7 Hkd.out (y:=⟨op,tz+(by':Int),xa+(by':Int),xb+(by':Int),⟨ng,ln,ld⟩⟩) (Hnd.out.1.to gb5) (Hnd.out.2.to gb5) HF.out.1 HF.out.2 HI.out
      have hC6:=(HC5.out.to gb5).grown hg6 (fun e => by injection e with e;omega)
      have b6:Below w1.heap.size w1 _:=(bS gb0 gb5).trans (zbS (base:=w1.heap.size) (g:=q) (o:=k*7) (v0:=.int .i64 op) (v1:=.int .i64 (tz+(by':Int))) (v2:=.int .i64 (xa+(by':Int))) (v3:=.int .i64 (xb+(by':Int))) (v4:=.bool ng) (v5:=.slice a1 n1 c1) (v6:=.slice a2 n2 c2) hq1)
      go_roundw
      case rel => exact ⟨k+1,dn.set k ⟨op,tz+(by':Int),xa+(by':Int),xb+(by':Int),⟨ng,ln,ld⟩⟩,by omega,by go_num,b6,Lib.hid hC6,Lib.hid hO6,Lib.hid (HL.out.next hkl (by rw [Hx.out];exact Hy.out))⟩
      case measure => simp [intOf] <;> omega
     ·by_cases q8:op=8
      ·have v10:(op != 10)=true:=by simp <;> omega
       have v1:decide (1<op)=true:=by exact decide_eq_true (by omega)
       have g2:decide (2<=op)=true:=by exact decide_eq_true (by omega)
       have l5:decide (op<=5)=false:=by exact decide_eq_false (by omega)
       have e8:(op == 8)=true:=by simp <;> omega
       have Hy:Hid (sB (by':Int) ⟨op,tz,xa,xb,⟨ng,ln,ld⟩⟩=⟨op,tz+(by':Int),xa+(by':Int),xb+(by':Int),⟨ng,ln,ld⟩⟩):=by
        show _=_
        unfold sB ren
        simp only
        rw [if_neg (show ¬ op=10 by omega),if_pos (show 1<op by omega),if_pos (zbO.2 (by omega))]
       have HI:Hid (zbV (⟨op,tz+(by':Int),xa+(by':Int),xb+(by':Int),⟨ng,ln,ld⟩⟩:Ins)):=by
        refine ⟨?_,?_,?_,?_⟩ <;> (constructor <;> (simp only;omega))
       try clear q10
       try clear q8
       try clear q9
       try clear q5
       try clear q1
       go_upto_region 16 with fail
       obtain ⟨W5,dc⟩:∃ W5,((W1.setCell ⟨wr.heap.size,1,none⟩ (.int .i64 (tz+(by':Int)))).setCell ⟨wr.heap.size,2,none⟩ (.int .i64 (xa+(by':Int)))).setCell ⟨wr.heap.size,3,none⟩ (.int .i64 (xb+(by':Int)))=W5:=⟨_,rfl⟩
       have hX6:Y7 wr W5 op (tz+(by':Int)) (xa+(by':Int)) (xb+(by':Int)) ng (.slice a1 n1 c1) (.slice a2 n2 c2):=by rw [<- dc];exact (((HX.out.put1 _).put2 _).put3 _)
       rw [dc]
       clear dc gb hsz x0 x1 x2 x3 x4 x5 x6 y0 y1 y2 y3
       obtain ⟨gb5,eH,e0,e1,e2,e3,e4,e5,e6,_⟩:=hX6
       obtain ⟨s0,s1,s2,s3,s4,s5,s6⟩:=Hs.out
       replace s0:=(gb5.cell (p:=⟨q,k*7,none⟩) hqr).trans s0
       replace s1:=(gb5.cell (p:=⟨q,k*7+1,none⟩) hqr).trans s1
       replace s2:=(gb5.cell (p:=⟨q,k*7+2,none⟩) hqr).trans s2
       replace s3:=(gb5.cell (p:=⟨q,k*7+3,none⟩) hqr).trans s3
       replace s4:=(gb5.cell (p:=⟨q,k*7+4,none⟩) hqr).trans s4
       replace s5:=(gb5.cell (p:=⟨q,k*7+5,none⟩) hqr).trans s5
       replace s6:=(gb5.cell (p:=⟨q,k*7+6,none⟩) hqr).trans s6
       have t0:=(gb5.frozen (p:=⟨q,k*7,none⟩) hqr).trans (Hsf.out _)
       have t1:=(gb5.frozen (p:=⟨q,k*7+1,none⟩) hqr).trans (Hsf.out _)
       have t2:=(gb5.frozen (p:=⟨q,k*7+2,none⟩) hqr).trans (Hsf.out _)
       have t3:=(gb5.frozen (p:=⟨q,k*7+3,none⟩) hqr).trans (Hsf.out _)
       have t4:=(gb5.frozen (p:=⟨q,k*7+4,none⟩) hqr).trans (Hsf.out _)
       have t5:=(gb5.frozen (p:=⟨q,k*7+5,none⟩) hqr).trans (Hsf.out _)
       have t6:=(gb5.frozen (p:=⟨q,k*7+6,none⟩) hqr).trans (Hsf.out _)
       obtain ⟨dz,d0,d1,d2,d3,d4,df0,df1,df2,df3,df4⟩:=HC5.out.to gb5
       go_wp2_with fail
       have HO5:=HO.out.to gb5
       obtain ⟨hO6,hg6⟩:=HO5.set7 Hkd.out (y:=⟨op,tz+(by':Int),xa+(by':Int),xb+(by':Int),⟨ng,ln,ld⟩⟩) (Hnd.out.1.to gb5) (Hnd.out.2.to gb5) HF.out.1 HF.out.2 HI.out
       have hC6:=(HC5.out.to gb5).grown hg6 (fun e => by injection e with e;omega)
       have b6:Below w1.heap.size w1 _:=(bS gb0 gb5).trans (zbS (base:=w1.heap.size) (g:=q) (o:=k*7) (v0:=.int .i64 op) (v1:=.int .i64 (tz+(by':Int))) (v2:=.int .i64 (xa+(by':Int))) (v3:=.int .i64 (xb+(by':Int))) (v4:=.bool ng) (v5:=.slice a1 n1 c1) (v6:=.slice a2 n2 c2) hq1)
       go_roundw
       case rel => exact ⟨k+1,dn.set k ⟨op,tz+(by':Int),xa+(by':Int),xb+(by':Int),⟨ng,ln,ld⟩⟩,by omega,by go_num,b6,Lib.hid hC6,Lib.hid hO6,Lib.hid (HL.out.next hkl (by rw [Hx.out];exact Hy.out))⟩
       case measure => simp [intOf] <;> omega
      ·by_cases q9:op=9
       ·have v10:(op != 10)=true:=by simp <;> omega
        have v1:decide (1<op)=true:=by exact decide_eq_true (by omega)
        have g2:decide (2<=op)=true:=by exact decide_eq_true (by omega)
        have l5:decide (op<=5)=false:=by exact decide_eq_false (by omega)
        have e8:(op == 8)=false:=by simp <;> omega
        have e9:(op == 9)=true:=by simp <;> omega
        have Hy:Hid (sB (by':Int) ⟨op,tz,xa,xb,⟨ng,ln,ld⟩⟩=⟨op,tz+(by':Int),xa+(by':Int),xb+(by':Int),⟨ng,ln,ld⟩⟩):=by
         show _=_
         unfold sB ren
         simp only
         rw [if_neg (show ¬ op=10 by omega),if_pos (show 1<op by omega),if_pos (zbO.2 (by omega))]
        have HI:Hid (zbV (⟨op,tz+(by':Int),xa+(by':Int),xb+(by':Int),⟨ng,ln,ld⟩⟩:Ins)):=by
         refine ⟨?_,?_,?_,?_⟩ <;> (constructor <;> (simp only;omega))
        try clear q10
        try clear q8
        try clear q9
        try clear q5
        try clear q1
        go_upto_region 16 with fail
        obtain ⟨W5,dc⟩:∃ W5,((W1.setCell ⟨wr.heap.size,1,none⟩ (.int .i64 (tz+(by':Int)))).setCell ⟨wr.heap.size,2,none⟩ (.int .i64 (xa+(by':Int)))).setCell ⟨wr.heap.size,3,none⟩ (.int .i64 (xb+(by':Int)))=W5:=⟨_,rfl⟩
        have hX6:Y7 wr W5 op (tz+(by':Int)) (xa+(by':Int)) (xb+(by':Int)) ng (.slice a1 n1 c1) (.slice a2 n2 c2):=by rw [<- dc];exact (((HX.out.put1 _).put2 _).put3 _)
        rw [dc]
        clear dc gb hsz x0 x1 x2 x3 x4 x5 x6 y0 y1 y2 y3
        obtain ⟨gb5,eH,e0,e1,e2,e3,e4,e5,e6,_⟩:=hX6
        obtain ⟨s0,s1,s2,s3,s4,s5,s6⟩:=Hs.out
        replace s0:=(gb5.cell (p:=⟨q,k*7,none⟩) hqr).trans s0
        replace s1:=(gb5.cell (p:=⟨q,k*7+1,none⟩) hqr).trans s1
        replace s2:=(gb5.cell (p:=⟨q,k*7+2,none⟩) hqr).trans s2
        replace s3:=(gb5.cell (p:=⟨q,k*7+3,none⟩) hqr).trans s3
        replace s4:=(gb5.cell (p:=⟨q,k*7+4,none⟩) hqr).trans s4
        replace s5:=(gb5.cell (p:=⟨q,k*7+5,none⟩) hqr).trans s5
        replace s6:=(gb5.cell (p:=⟨q,k*7+6,none⟩) hqr).trans s6
        have t0:=(gb5.frozen (p:=⟨q,k*7,none⟩) hqr).trans (Hsf.out _)
        have t1:=(gb5.frozen (p:=⟨q,k*7+1,none⟩) hqr).trans (Hsf.out _)
        have t2:=(gb5.frozen (p:=⟨q,k*7+2,none⟩) hqr).trans (Hsf.out _)
        have t3:=(gb5.frozen (p:=⟨q,k*7+3,none⟩) hqr).trans (Hsf.out _)
        have t4:=(gb5.frozen (p:=⟨q,k*7+4,none⟩) hqr).trans (Hsf.out _)
        have t5:=(gb5.frozen (p:=⟨q,k*7+5,none⟩) hqr).trans (Hsf.out _)
        have t6:=(gb5.frozen (p:=⟨q,k*7+6,none⟩) hqr).trans (Hsf.out _)
        obtain ⟨dz,d0,d1,d2,d3,d4,df0,df1,df2,df3,df4⟩:=HC5.out.to gb5
        go_wp2_with fail
        have HO5:=HO.out.to gb5
        obtain ⟨hO6,hg6⟩:=HO5.set7 Hkd.out (y:=⟨op,tz+(by':Int),xa+(by':Int),xb+(by':Int),⟨ng,ln,ld⟩⟩) (Hnd.out.1.to gb5) (Hnd.out.2.to gb5) HF.out.1 HF.out.2 HI.out
        have hC6:=(HC5.out.to gb5).grown hg6 (fun e => by injection e with e;omega)
        have b6:Below w1.heap.size w1 _:=(bS gb0 gb5).trans (zbS (base:=w1.heap.size) (g:=q) (o:=k*7) (v0:=.int .i64 op) (v1:=.int .i64 (tz+(by':Int))) (v2:=.int .i64 (xa+(by':Int))) (v3:=.int .i64 (xb+(by':Int))) (v4:=.bool ng) (v5:=.slice a1 n1 c1) (v6:=.slice a2 n2 c2) hq1)
        go_roundw
        case rel => exact ⟨k+1,dn.set k ⟨op,tz+(by':Int),xa+(by':Int),xb+(by':Int),⟨ng,ln,ld⟩⟩,by omega,by go_num,b6,Lib.hid hC6,Lib.hid hO6,Lib.hid (HL.out.next hkl (by rw [Hx.out];exact Hy.out))⟩
        case measure => simp [intOf] <;> omega
       ·have v10:(op != 10)=true:=by simp <;> omega
        have v1:decide (1<op)=true:=by exact decide_eq_true (by omega)
        have g2:decide (2<=op)=true:=by exact decide_eq_true (by omega)
        have l5:decide (op<=5)=false:=by exact decide_eq_false (by omega)
        have e8:(op == 8)=false:=by simp <;> omega
        have e9:(op == 9)=false:=by simp <;> omega
        have Hy:Hid (sB (by':Int) ⟨op,tz,xa,xb,⟨ng,ln,ld⟩⟩=⟨op,tz+(by':Int),xa+(by':Int),xb,⟨ng,ln,ld⟩⟩):=by
         show _=_
         unfold sB ren
         simp only
         rw [if_neg (show ¬ op=10 by omega),if_pos (show 1<op by omega),if_neg (fun h => by have:=zbO.1 h;omega)]
        have HI:Hid (zbV (⟨op,tz+(by':Int),xa+(by':Int),xb,⟨ng,ln,ld⟩⟩:Ins)):=by
         refine ⟨?_,?_,?_,?_⟩ <;> (constructor <;> (simp only;omega))
        try clear q10
        try clear q8
        try clear q9
        try clear q5
        try clear q1
        go_upto_region 16 with fail
        obtain ⟨W5,dc⟩:∃ W5,(W1.setCell ⟨wr.heap.size,1,none⟩ (.int .i64 (tz+(by':Int)))).setCell ⟨wr.heap.size,2,none⟩ (.int .i64 (xa+(by':Int)))=W5:=⟨_,rfl⟩
        have hX6:Y7 wr W5 op (tz+(by':Int)) (xa+(by':Int)) (xb) ng (.slice a1 n1 c1) (.slice a2 n2 c2):=by rw [<- dc];exact ((HX.out.put1 _).put2 _)
        rw [dc]
        clear dc gb hsz x0 x1 x2 x3 x4 x5 x6 y0 y1 y2 y3
        obtain ⟨gb5,eH,e0,e1,e2,e3,e4,e5,e6,_⟩:=hX6
        obtain ⟨s0,s1,s2,s3,s4,s5,s6⟩:=Hs.out
        replace s0:=(gb5.cell (p:=⟨q,k*7,none⟩) hqr).trans s0
        replace s1:=(gb5.cell (p:=⟨q,k*7+1,none⟩) hqr).trans s1
        replace s2:=(gb5.cell (p:=⟨q,k*7+2,none⟩) hqr).trans s2
        replace s3:=(gb5.cell (p:=⟨q,k*7+3,none⟩) hqr).trans s3
        replace s4:=(gb5.cell (p:=⟨q,k*7+4,none⟩) hqr).trans s4
        replace s5:=(gb5.cell (p:=⟨q,k*7+5,none⟩) hqr).trans s5
        replace s6:=(gb5.cell (p:=⟨q,k*7+6,none⟩) hqr).trans s6
        have t0:=(gb5.frozen (p:=⟨q,k*7,none⟩) hqr).trans (Hsf.out _)
        have t1:=(gb5.frozen (p:=⟨q,k*7+1,none⟩) hqr).trans (Hsf.out _)
        have t2:=(gb5.frozen (p:=⟨q,k*7+2,none⟩) hqr).trans (Hsf.out _)
        have t3:=(gb5.frozen (p:=⟨q,k*7+3,none⟩) hqr).trans (Hsf.out _)
        have t4:=(gb5.frozen (p:=⟨q,k*7+4,none⟩) hqr).trans (Hsf.out _)
        have t5:=(gb5.frozen (p:=⟨q,k*7+5,none⟩) hqr).trans (Hsf.out _)
        have t6:=(gb5.frozen (p:=⟨q,k*7+6,none⟩) hqr).trans (Hsf.out _)
        obtain ⟨dz,d0,d1,d2,d3,d4,df0,df1,df2,df3,df4⟩:=HC5.out.to gb5
        go_wp2_with fail
        have HO5:=HO.out.to gb5
        obtain ⟨hO6,hg6⟩:=HO5.set7 Hkd.out (y:=⟨op,tz+(by':Int),xa+(by':Int),xb,⟨ng,ln,ld⟩⟩) (Hnd.out.1.to gb5) (Hnd.out.2.to gb5) HF.out.1 HF.out.2 HI.out
        have hC6:=(HC5.out.to gb5).grown hg6 (fun e => by injection e with e;omega)
        have b6:Below w1.heap.size w1 _:=(bS gb0 gb5).trans (zbS (base:=w1.heap.size) (g:=q) (o:=k*7) (v0:=.int .i64 op) (v1:=.int .i64 (tz+(by':Int))) (v2:=.int .i64 (xa+(by':Int))) (v3:=.int .i64 (xb)) (v4:=.bool ng) (v5:=.slice a1 n1 c1) (v6:=.slice a2 n2 c2) hq1)
        go_roundw
        case rel => exact ⟨k+1,dn.set k ⟨op,tz+(by':Int),xa+(by':Int),xb,⟨ng,ln,ld⟩⟩,by omega,by go_num,b6,Lib.hid hC6,Lib.hid hO6,Lib.hid (HL.out.next hkl (by rw [Hx.out];exact Hy.out))⟩
        case measure => simp [intOf] <;> omega
  ·obtain rfl:k=nA:=by omega
   have hki:¬ ((k:Int)<(k:Int)):=by omega
   have HDA:Hid (dn=A.map (sB (by':Int))):=by
    have h:=HL.out
    unfold zbg at h
    rw [List.take_of_length_le (by rw [HnA.out];exact Nat.le_refl _),List.drop_eq_nil_of_le (by rw [HnA.out];exact Nat.le_refl _),List.append_nil] at h
    exact h
   have HcD:Hid (IsC wr ⟨(I:Int),(R:Int),(I:Int),(NR:Int),A.map (sB (by':Int))⟩ (.slice av k cv)):=⟨by have h:=HO.out.rdC;rw [HDA.out] at h;exact h,⟨by show _<=(I:Int);omega,by show (I:Int)<_;omega⟩,⟨by show _<=(R:Int);omega,by show (R:Int)<_;omega⟩,⟨by show _<=(I:Int);omega,by show (I:Int)<_;omega⟩,⟨by show _<=(NR:Int);omega,by show (NR:Int)<_;omega⟩⟩
   have dE:=bS be gb0
   clear eNR hNRw
   obtain ⟨cz,c0,c1,c2,c3,c4,cf0,cf1,cf2,cf3,cf4⟩:=HC5.out
   go_wp2_with fail
   clear cz c0 c1 c2 c3 c4 cf0 cf1 cf2 cf3 cf4
   refine (zdl ⟨(I:Int),(R:Int),(I:Int),(NR:Int),A.map (sB (by':Int))⟩ _ _ HcD.out HSh.out HA16.out HRd.out).mono ?_
   rintro e w3 ⟨gq,n,cp,rfl,hOB,hg1,hg2,hb3'⟩
   have HOB:=Lib.hid hOB
   clear hOB
   go_wp2_with fail
   refine (zcH _ (zaX ⟨(I:Int),(R:Int),(I:Int),(NR:Int),A.map (sB (by':Int))⟩) _ HOB.out.rdB HFew.out).mono ?_
   rintro e w4 ⟨dd,h4⟩
   rw [HDec.out] at h4
   obtain ⟨u,rfl,hO⟩:=h4
   obtain ⟨au,cu,hform,_⟩:=hO.form
   obtain ⟨nu,hnu⟩:∃ n,(A.map (sB (by':Int))).length=n:=⟨_,rfl⟩
   rw [hnu] at hform
   subst hform
   have HIC2:Hid (IsC w4 ⟨(I:Int),(R:Int),(I:Int),(NR:Int),A.map (sB (by':Int))⟩ (.slice au nu cu)):=⟨hO.rdC,⟨by show _<=(I:Int);omega,by show (I:Int)<_;omega⟩,⟨by show _<=(R:Int);omega,by show (R:Int)<_;omega⟩,⟨by show _<=(I:Int);omega,by show (I:Int)<_;omega⟩,⟨by show _<=(NR:Int);omega,by show (NR:Int)<_;omega⟩⟩
   clear hO hnu
   go_upto_region 19 with fail
   obtain ⟨W4,eX⟩:∃ W,w4.alloc (.cells #[.int .i64 (I:Int),.int .i64 (R:Int),.int .i64 (I:Int),.int .i64 (NR:Int),.slice au nu cu] 24)=W:=⟨_,rfl⟩
   have hbn4:Below w4.heap.size w4 W4:=by rw [<- eX];exact bN _ _
   have hC4:B5 W4 w4.heap.size (.int .i64 (I:Int)) (.int .i64 (R:Int)) (.int .i64 (I:Int)) (.int .i64 (NR:Int)) (.slice au nu cu):=by
    rw [<- eX]
    unfold B5
    and_intros <;> first|(simp [go_sem];done)|(simp [go_sem];omega)
   rw [eX]
   clear eX
   have gP:=bS hb3' (bS dd hbn4)
   obtain ⟨cz,c0_,c1_,c2_,c3_,c4_,cf0,cf1,cf2,cf3,cf4⟩:=HC5.out.to gP
   obtain ⟨dz,d0_,d1_,d2_,d3_,d4_,df0,df1,df2,df3,df4⟩:=id hC4
   go_wp2_with fail
   refine (zde ⟨(I:Int),(R:Int),(I:Int),(NR:Int),A.map (sB (by':Int))⟩ _ _ _ (HcD.out.to gP) (HIC2.out.to hbn4)).mono ?_
   rintro e w5 ⟨rfl,cU⟩
   go_wp2_with fail
   go_ret
   exact ⟨rfl,bS dE (bS gP cU)⟩
 ·have u16:decide ((16:Int)<(N:Int))=true:=decide_eq_true (by omega)
  clear hl
  go_enter Tryz.func9,Tryz.ntmps9
  go_wp2_with fail
  refine (zib _).mono ?_
  rintro e w1 ⟨rfl,be⟩
  go_wp2_with fail
  go_ret
  exact ⟨rfl,be⟩

end Go.Proofs.YtkjcdnlpjldhaaaGreat

