/-
  The texts MadeW, merged.
-/
import Derived.Test.YtkjcdnlpjldhaaaGreatK22
import Derived.Deep.RegionHeld3
import Derived.Deep.CutRange
import Derived.RegionTactic
import Derived.ChangeAlike
set_option linter.unusedVariables false
set_option linter.unusedSimpArgs false
set_option maxRecDepth 100000
set_option maxHeartbeats 400000000
namespace Go.Proofs.YtkjcdnlpjldhaaaGreat
open Go.RowKit Tw
attribute [local go_sem ↓] Go.wp_at_zero Go.wp_at_succ

theorem loadC (w:World) (b:Nat) (v0 v1 v2 v3 v4:Value) (c0:w.cell? ⟨b,0,none⟩=some v0) (c1:w.cell? ⟨b,1,none⟩=some v1) (c2:w.cell? ⟨b,2,none⟩=some v2) (c3:w.cell? ⟨b,3,none⟩=some v3) (c4:w.cell? ⟨b,4,none⟩=some v4) :
  (loadVar 24 ⟨b,0,none⟩).run Tryz.prog w=.ok (.agg #[v0,v1,v2,v3,v4]) w:=by
 simp [go_sem,c0,c1,c2,c3,c4]

theorem zhR {fn:Func} {k:Tmp} (h:fn.results=#[.cell k 24]) (tmps:Array Value) (w:World) (b:Nat) (v0 v1 v2 v3 v4:Value) (hk:tmps.getD k undef=.pointer (some ⟨b,0,none⟩))
  (t:B5 w b v0 v1 v2 v3 v4):(results fn tmps).run Tryz.prog w=.ok (.agg #[v0,v1,v2,v3,v4]) w:=by
 have hl:=loadC w b v0 v1 v2 v3 v4 t.2.1 t.2.2.1 t.2.2.2.1 t.2.2.2.2.1 t.2.2.2.2.2.1
 have hk':tmps[k]?.getD undef=.pointer (some ⟨b,0,none⟩):=by simpa using hk
 simp [results,h,asAddr,Sem.run_bind,hl,Result.andThen,hk']

theorem B5.put5 {w:World} {B:Nat} {v0 v1 v2 v3 v4:Value} (h:B5 w B v0 v1 v2 v3 v4) (u0 u1 u2 u3 u4:Value) :
  B5 (((((w.setCell ⟨B,0,none⟩ u0).setCell ⟨B,1,none⟩ u1).setCell ⟨B,2,none⟩ u2).setCell ⟨B,3,none⟩ u3).setCell ⟨B,4,none⟩ u4) B u0 u1 u2 u3 u4:=by
 obtain ⟨z,a0,a1,a2,a3,a4,f0,f1,f2,f3,f4⟩:=h
 have n01:(1:Nat)≠0:=by decide
 refine ⟨by simp [go_sem];exact z,?_,?_,?_,?_,?_,?_,?_,?_,?_,?_⟩
 ·exact cP (cP (cP (cP (zh a0 _) (.inr (by decide)) _) (.inr (by decide)) _) (.inr (by decide)) _) (.inr (by decide)) _
 ·exact cP (cP (cP (zh (cP a1 (.inr (by decide)) _) _) (.inr (by decide)) _) (.inr (by decide)) _) (.inr (by decide)) _
 ·exact cP (cP (zh (cP (cP a2 (.inr (by decide)) _) (.inr (by decide)) _) _) (.inr (by decide)) _) (.inr (by decide)) _
 ·exact cP (zh (cP (cP (cP a3 (.inr (by decide)) _) (.inr (by decide)) _) (.inr (by decide)) _) _) (.inr (by decide)) _
 ·exact zh (cP (cP (cP (cP a4 (.inr (by decide)) _) (.inr (by decide)) _) (.inr (by decide)) _) (.inr (by decide)) _) _
 all_goals simp [go_sem,f0,f1,f2,f3,f4]

theorem zbd (a n:Nat):(a:Int).tmod (n:Int)=((a % n:Nat):Int):=by
 rw [Int.tmod_eq_emod_of_nonneg (by omega)]
 exact (Int.natCast_emod a n).symm

theorem i8_wrap (a:Nat):IntKind.i8.wrap (a:Int)=i8 a:=by
 unfold i8 IntKind.wrap
 simp [IntKind.signed,IntKind.bits]
 split <;> split <;> omega

theorem zkM (ins rows regs m:Nat) (v:Value) (l:List Tn) (w:World) (h:RdTn w v l) (hi:ins<256) (hr:rows<256) (hg:regs<256) (hm:m<=1000) :
  Calls Tryz.prog 22 #[.int .u8 (ins:Int),.int .u8 (rows:Int),.int .u8 (regs:Int),v,.int .i64 (m:Int)] w (fun e w' => ∃ v',e=.returned (aggC (zdk ins rows regs (l.take m)) v')/\zau w.heap.size w' v' (zdk ins rows regs (l.take m)).all/\Below w.heap.size w w'):=by
 obtain ⟨a,N,cap,rfl,HN,hm'⟩:=h.open
 have H:=Lib.hid h
 obtain ⟨i0,hi0⟩:∃ z,ins % 3=z:=⟨_,rfl⟩
 obtain ⟨r0,hr0⟩:∃ z,rows % 3=z:=⟨_,rfl⟩
 obtain ⟨g0,hg0⟩:∃ z,regs % 6=z:=⟨_,rfl⟩
 have ti:(ins:Int).tmod 3=(i0:Int):=by rw [<- hi0];exact zbd ins 3
 have tr:(rows:Int).tmod 3=(r0:Int):=by rw [<- hr0];exact zbd rows 3
 have tg:(regs:Int).tmod 6=(g0:Int):=by rw [<- hg0];exact zbd regs 6
 have bi:i0<3:=by omega
 have br:r0<3:=by omega
 have bg:g0<6:=by omega
 obtain ⟨I,hI⟩:∃ z,1+i0=z:=⟨_,rfl⟩
 obtain ⟨R,hR⟩:∃ z,1+r0=z:=⟨_,rfl⟩
 obtain ⟨G,hG⟩:∃ z,1+g0=z:=⟨_,rfl⟩
 obtain ⟨RC,hRC⟩:∃ z,R*I=z:=⟨_,rfl⟩
 have eI:(1:Int)+(i0:Int)=(I:Int):=by omega
 have eR:(1:Int)+(r0:Int)=(R:Int):=by omega
 have eG:(1:Int)+(g0:Int)=(G:Int):=by omega
 have bI:0<I/\I<=3:=by omega
 have bR:0<R/\R<=3:=by omega
 have bG:0<G/\G<=6:=by omega
 have bRC:0<RC/\RC<=9:=by rw [<- hRC];exact ⟨Nat.mul_pos bR.1 bI.1,Nat.mul_le_mul bR.2 bI.2⟩
 have eRC:(R:Int)*(I:Int)=(RC:Int):=by rw [<- hRC];push_cast;rfl
 obtain ⟨M,hM⟩:∃ z,(l.take m).length=z:=⟨_,rfl⟩
 have HM:=Lib.hid hM
 have hMM:M<=N/\M<=m/\(M=N\/M=m):=by have:=HN.out;rw [List.length_take] at hM;omega
 have HMM:=Lib.hid hMM
 obtain ⟨A,hA⟩:∃ A,zaI I G RC [] [] (l.take m)=A:=⟨_,rfl⟩
 rw [show zdk ins rows regs (l.take m)=⟨(I:Int),(R:Int),(I:Int),(G:Int),A⟩ by unfold zdk;rw [hi0,hr0,hg0,hI,hR,hG,hRC,hA]]
 have HA:=Lib.hid hA
 have hMm:M<=1000:=by omega
 clear hA hM hMM hRC hI hR hG hi0 hr0 hg0 h
 go_enter Tryz.func22,Tryz.ntmps22
 go_wp2_with fail
 go_loopw [12,13,14] (fun s12 s13 s14 ww => ∃ (k:Nat) (rg sg:List Int) (dn:List Ins) (vC:Value),k<=M/\s14=.int .i64 k/\Below w.heap.size w ww/\Hid (B5 ww w.heap.size (.int .i64 0) (.int .i64 0) (.int .i64 0) (.int .i64 0) (.slice none 0 0))/\Hid (B5 ww (w.heap.size+1) (.int .i64 (I:Int)) (.int .i64 (R:Int)) (.int .i64 (I:Int)) (.int .i64 (G:Int)) vC)/\Hid (zau (w.heap.size+2) ww vC dn)/\Hid (zU 3 (w.heap.size+2) ww s12 (rg.map (Value.int .i64)))/\Hid (zU 3 (w.heap.size+2) ww s13 (sg.map (Value.int .i64)))/\Hid (rg.length=0->s12=.slice none 0 0/\s13=.slice none 0 0)/\Hid (MI G rg sg)/\Hid (sg.length=rg.length/\rg.length<=k/\dn.length=k)/\Hid (A=dn++zaI I G RC rg sg ((l.take m).drop k))) (fun _ _ i _ => M - (intOf i).toNat)
 case atStart =>
  refine ⟨0,[],[],[],.slice none 0 0,Nat.zero_le _,rfl,bS (bN _ _) (bN _ _),?_,?_,zau.nil _ _,⟨rfl,World.ownsRow_nil _ _ _ 1 |>.2⟩,⟨rfl,World.ownsRow_nil _ _ _ 1 |>.2⟩,(fun _ => ⟨rfl,rfl⟩),MI.nil _,⟨rfl,Nat.le_refl _,rfl⟩,HA.out.symm⟩
  ·show B5 _ _ _ _ _ _ _
   unfold B5
   and_intros <;> first|(simp [go_sem];done)|(simp [go_sem];omega)
  ·show B5 _ _ _ _ _ _ _
   unfold B5
   and_intros <;> first|(simp [go_sem];done)|(simp [go_sem];omega)
 case round =>
  obtain ⟨k,rg,sg,dn,vC,hk,rfl,gb0,HR5,HC5,HO,HW,HS,HZ,HMI,HL,HA2⟩:=hrel
  obtain ⟨NW,hNW⟩:∃ z,rg.length=z:=⟨_,rfl⟩
  have HNW:=Lib.hid hNW
  obtain ⟨aw,cw,hw12,hpw⟩:=HW.out.form
  obtain ⟨av,cs,hw13,hps⟩:=HS.out.form
  rw [List.length_map,hNW] at hw12 hpw
  rw [List.length_map,HL.out.1,hNW] at hw13 hps
  subst hw12 hw13
  have Hpw:=Lib.hid hpw
  have Hps:=Lib.hid hps
  have hNk:NW<=k:=by have:=HL.out.2.1;omega
  have HRC:=Lib.hid eRC
  clear hNW hpw hps ti tr tg eI eR eG eRC
  have hgs:=gb0.size
  have HvC:Hid (vC.ownBlock≠some (w.heap.size+1)/\vC.ownBlock≠some w.heap.size/\some ((⟨wr.heap.size+1,0,none⟩:Addr).block)≠vC.ownBlock):=⟨fun e => by have:=(HO.out.lt _ e).1;omega,fun e => by have:=(HO.out.lt _ e).1;omega,fun e => by have h2:=(HO.out.lt (wr.heap.size+1) e.symm).2;omega⟩
  have HvC4:Hid (∀ z,vC≠.int .u32 z):=fun z e => by
   obtain ⟨a,cap,hv,_⟩:=HO.out.form
   rw [hv] at e
   cases e
  by_cases hkM:k<M
  ·have hkN:(k:Int)<(N:Int):=by have:=HMM.out;omega
   have hkm:(k:Int)<(m:Int):=by have:=HMM.out;omega
   have hkt:k<(l.take m).length:=by rw [HM.out];exact hkM
   have hkl:k<l.length:=by rw [HN.out];have:=HMM.out;omega
   obtain ⟨b,off,rfl,s0,s1,s2,s3,b0,b1,b2,b3⟩:=(H.out.to gb0).nth hkl
   obtain ⟨t,ht⟩:∃ t,l[k]=t:=⟨_,rfl⟩
   rw [ht] at s0 s1 s2 s3 b0 b1 b2 b3
   have Ht:=Lib.hid (show (l.take m)[k]=t by rw [List.getElem_take];exact ht)
   clear ht
   obtain ⟨cz,c0,c1,c2,c3,c4,cf0,cf1,cf2,cf3,cf4⟩:=HC5.out
   obtain ⟨ro,hro⟩:∃ z,t.op % 11=z:=⟨_,rfl⟩
   have Hro:=Lib.hid hro
   have bro:ro<11:=by omega
   have tro:(t.op:Int).tmod 11=(ro:Int):=by rw [<- hro];exact zbd t.op 11
   obtain ⟨tq,htq⟩:∃ z,t.to % G=z:=⟨_,rfl⟩
   have Htq:=Lib.hid htq
   have btq:tq<G:=by rw [<- htq];exact Nat.mod_lt _ bG.1
   have ttq:(t.to:Int).tmod (G:Int)=(tq:Int):=by rw [<- htq];exact zbd t.to G
   clear hro htq
   have hG0:¬ (G=0):=by omega
   have hlt1:w.heap.size<wr.heap.size:=by omega
   have hlt2:w.heap.size<wr.heap.size+1:=by omega
   have wto:IntKind.i64.wrap (t.to:Int)=(t.to:Int):=by simp [IntKind.wrap,IntKind.signed,IntKind.bits];omega
   have hne1:¬ (w.heap.size=wr.heap.size):=by omega
   have hne2:¬ (w.heap.size+1=wr.heap.size):=by omega
   go_upto_region 9 with fail
   go_cut [16] from 35 to 185 (fun s16 wx => s16=.pointer (some ⟨wr.heap.size+1,0,none⟩)/\XB wr wx t (ro:Int) (tq:Int) 0 0)
   case first => as_aux_lemma =>
    go_region
    all_goals (go_wp2_with fail;go_meet)
    all_goals refine ⟨rfl,?_⟩
    all_goals unfold XB
    all_goals and_intros
    all_goals first|(with_reducible exact bS (bN _ _) (bN _ _))|(with_reducible exact (bS (bN _ _) (bN _ _)).drew)|(simp [go_sem,s0,s1,s2,s3];done)|(simp [go_sem];omega)
   case rest =>
   obtain ⟨rfl,hX⟩:=hcut
   have HX1:=Lib.hid hX
   obtain ⟨gb,hs,t0,t1,t2,t3,x0,x1,x2,x3,x4,x5,x6,y0,y1,y2,y3,y4,y5,y6⟩:=hX
   obtain ⟨O,hO⟩:∃ z,zaa rg t=z:=⟨_,rfl⟩
   have hOr:=zbN rg t
   rw [hO,HNW.out] at hOr
   have hOd:zaa rg t=if NW=0/\1<ro then 0 else (ro:Int):=by unfold zaa;rw [HNW.out,Hro.out]
   rw [hO] at hOd
   have HOd:=Lib.hid hOd
   have HOr:=Lib.hid hOr
   have HO1:=Lib.hid hO
   clear hO hOd hOr c0 c1 c2 c3 c4 cf0 cf1 cf2 cf3 cf4 s0 s1 s2 s3 tro ttq cz
   obtain ⟨bb,hbb⟩:∃ z,decide (NW=0/\1<ro)=z:=⟨_,rfl⟩
   have Hbb:=Lib.hid hbb
   clear hbb
   go_upto_region 10 with fail
   go_cut [68] from 35 to 185 (fun s68 wx => s68=.bool bb/\XB wr wx t (ro:Int) (tq:Int) 0 0)
   case first => as_aux_lemma =>
    by_cases hN:NW=0
    ·have tN:((NW:Int) == 0)=true:=by simp;exact hN
     have HN0:=Lib.hid hN
     clear hN
     by_cases h1:1<ro
     ·have t1':decide (1<(ro:Int))=true:=decide_eq_true (by omega)
      have HE:=Lib.hid (show bb=true by rw [<- Hbb.out];exact decide_eq_true ⟨HN0.out,h1⟩)
      go_wp2_with fail
      go_meet
      rw [HE.out]
      exact ⟨rfl,HX1.out⟩
     ·have t1':decide (1<(ro:Int))=false:=decide_eq_false (by omega)
      have HE:=Lib.hid (show bb=false by rw [<- Hbb.out];exact decide_eq_false (fun h => h1 h.2))
      go_wp2_with fail
      go_meet
      rw [HE.out]
      exact ⟨rfl,HX1.out⟩
    ·have tN:((NW:Int) == 0)=false:=by simp;exact hN
     have HE:=Lib.hid (show bb=false by rw [<- Hbb.out];exact decide_eq_false (fun h => hN h.1))
     go_wp2_with fail
     go_meet
     rw [HE.out]
     exact ⟨rfl,HX1.out⟩
   case rest =>
   obtain ⟨rfl,hX⟩:=hcut
   clear gb hs t0 t1 t2 t3 x0 x1 x2 x3 x4 x5 x6 y0 y1 y2 y3 y4 y5 y6
   have HX1':=Lib.hid hX
   obtain ⟨gb,hs,t0,t1,t2,t3,x0,x1,x2,x3,x4,x5,x6,y0,y1,y2,y3,y4,y5,y6⟩:=hX
   go_upto_if 68 with fail
   go_cut [] from 35 to 185 (fun wx => XB wr wx t O (tq:Int) 0 0)
   case first => as_aux_lemma =>
    cases bb with
    | true =>
     have HE:=Lib.hid (show O=0 by rw [HOd.out,if_pos (of_decide_eq_true Hbb.out)])
     go_wp2_with fail
     go_meet
     rw [HE.out]
     exact HX1'.out.put0 0
    | false =>
     have HE:=Lib.hid (show O=(ro:Int) by rw [HOd.out,if_neg (of_decide_eq_false Hbb.out)])
     go_wp2_with fail
     go_meet
     rw [HE.out]
     exact HX1'.out
   case rest =>
   clear gb hs t0 t1 t2 t3 x0 x1 x2 x3 x4 x5 x6 y0 y1 y2 y3 y4 y5 y6
   have hX:=hcut
   have HX2:=Lib.hid hX
   obtain ⟨gb,hs,t0,t1,t2,t3,x0,x1,x2,x3,x4,x5,x6,y0,y1,y2,y3,y4,y5,y6⟩:=hX
   obtain ⟨N2,hN2⟩:∃ z,zeD rg sg t=z:=⟨_,rfl⟩
   obtain ⟨A1,hA1⟩:∃ z,(if 1<O then rg.getD (t.a % rg.length) 0 else 0)=z:=⟨_,rfl⟩
   obtain ⟨B1,hB1⟩:∃ z,b1F rg sg t=z:=⟨_,rfl⟩
   have HN2:=Lib.hid hN2
   have HA1:=Lib.hid hA1
   have HB1:=Lib.hid hB1
   clear hN2 hA1 hB1
   have hOr:=HOr.out
   have hg3:wr.heap.size<wc.heap.size:=by omega
   -- a register's number and weight
   have HREG:Hid (∀ q,q<NW->∃ g g' r n,aw=some ⟨g,0,none⟩/\av=some ⟨g',0,none⟩/\g<wr.heap.size/\g'<wr.heap.size/\Hid (rg.getD q 0=r)/\Hid (sg.getD q 0=n)/\wr.cell? ⟨g,q,none⟩=some (.int .i64 r)/\wr.cell? ⟨g',q,none⟩=some (.int .i64 n)/\1<=n/\n<=12):=fun q hq => by
    obtain ⟨g,rfl,_,hg1⟩:=Hpw.out (by omega)
    obtain ⟨g',rfl,_,hg2⟩:=Hps.out (by omega)
    have hq1:q<rg.length:=by rw [HNW.out];exact hq
    have hq2:q<sg.length:=by rw [HL.out.1];exact hq1
    have ca:=HW.out.cell (i:=q) (by rw [List.length_map];exact hq1)
    have cb:=HS.out.cell (i:=q) (by rw [List.length_map];exact hq2)
    rw [List.getElem_map] at ca cb
    have hw:=HMI.out.wts hq1
    refine ⟨g,g',rg[q],sg[q],rfl,rfl,hg1,hg2,?_,?_,ca,cb,?_⟩
    ·show rg.getD q 0=_;simp [hq1]
    ·show sg.getD q 0=_;simp [hq2]
    ·have e:sg.getD q 0=sg[q]:=by simp [hq2]
     rw [e] at hw
     exact hw
   go_upto_if 72 with fail
   go_cut [17] from 35 to 185 (fun s17 wx => s17=.int .i64 N2/\XB wr wx t O (tq:Int) A1 B1)
   case first => as_aux_lemma =>
    by_cases h1:1<O
    ·have u1:decide (1<O)=true:=decide_eq_true h1
     obtain ⟨ka,hka⟩:∃ z,t.a % NW=z:=⟨_,rfl⟩
     have tka:(t.a:Int).tmod (NW:Int)=(ka:Int):=by rw [<- hka];exact zbd t.a NW
     have bka:ka<NW:=by rw [<- hka];exact Nat.mod_lt _ (hOr.2.2 h1)
     have bkb:(ka:Int)<(NW:Int):=by omega
     obtain ⟨g,g',r1,n1,rfl,rfl,hg1,hg2,hr1,hn1,ca,cb,bn1,bn2⟩:=HREG.out ka bka
     have hgA:¬ (g=wr.heap.size+1):=by omega
     have hgB:¬ (g'=wr.heap.size+1):=by omega
     have ca1:=(gb.cell (p:=⟨g,ka,none⟩) hg1).trans ca
     have cb1:=(gb.cell (p:=⟨g',ka,none⟩) hg2).trans cb
     have HA:=Lib.hid (show A1=r1 by rw [<- HA1.out,if_pos h1,HNW.out,hka,hr1.out])
     have HN1:=Lib.hid (show zgJ rg sg t=n1 by unfold zgJ;rw [HO1.out,if_pos h1,HNW.out,hka,hn1.out])
     clear ca cb hka
     by_cases h6:O=6
     ·have u6:(O != 6)=false:=by simp [h6]
      have HB:=Lib.hid (show B1=0 by rw [<- HB1.out];unfold b1F;rw [HO1.out,if_neg (fun k => k.2.1 h6)])
      have HN:=Lib.hid (show N2=n1 by rw [<- HN2.out,<- HN1.out];unfold zeD;rw [HO1.out,if_neg (fun k => k.2.1 h6)])
      clear h6
      go_wp2_with fail
      go_meet
      rw [HA.out,HB.out,HN.out]
      exact ⟨rfl,HX2.out.put2 _⟩
     ·have u6:(O != 6)=true:=by simp [h6]
      by_cases h7:O=7
      ·have u7:(O != 7)=false:=by simp [h7]
       have HB:=Lib.hid (show B1=0 by rw [<- HB1.out];unfold b1F;rw [HO1.out,if_neg (fun k => k.2.2.1 h7)])
       have HN:=Lib.hid (show N2=n1 by rw [<- HN2.out,<- HN1.out];unfold zeD;rw [HO1.out,if_neg (fun k => k.2.2.1 h7)])
       clear h6 h7
       go_wp2_with fail
       go_meet
       rw [HA.out,HB.out,HN.out]
       exact ⟨rfl,HX2.out.put2 _⟩
      ·have u7:(O != 7)=true:=by simp [h7]
       by_cases h10:O=10
       ·have u10:(O != 10)=false:=by simp [h10]
        have HB:=Lib.hid (show B1=0 by rw [<- HB1.out];unfold b1F;rw [HO1.out,if_neg (fun k => k.2.2.2 h10)])
        have HN:=Lib.hid (show N2=n1 by rw [<- HN2.out,<- HN1.out];unfold zeD;rw [HO1.out,if_neg (fun k => k.2.2.2 h10)])
        clear h6 h7 h10
        go_wp2_with fail
        go_meet
        rw [HA.out,HB.out,HN.out]
        exact ⟨rfl,HX2.out.put2 _⟩
       ·have u10:(O != 10)=true:=by simp [h10]
        have h2:zcb O:=⟨h1,h6,h7,h10⟩
        obtain ⟨kb,hkb⟩:∃ z,t.b % NW=z:=⟨_,rfl⟩
        have tkb:(t.b:Int).tmod (NW:Int)=(kb:Int):=by rw [<- hkb];exact zbd t.b NW
        have bkc:kb<NW:=by rw [<- hkb];exact Nat.mod_lt _ (hOr.2.2 h1)
        have bkd:(kb:Int)<(NW:Int):=by omega
        obtain ⟨g2,g3,r2,n2,e1,e2,_,_,hr2,hn2,ca,cb,bn3,bn4⟩:=HREG.out kb bkc
        injection e1 with e1
        injection e1 with e1 _
        injection e2 with e2
        injection e2 with e2 _
        subst e1 e2
        have ca2:=(gb.cell (p:=⟨g,kb,none⟩) hg1).trans ca
        have cb2:=(gb.cell (p:=⟨g',kb,none⟩) hg2).trans cb
        have HB:=Lib.hid (show B1=r2 by rw [<- HB1.out];unfold b1F;rw [HO1.out,if_pos h2,HNW.out,hkb,hr2.out])
        have HN:=Lib.hid (show N2=n1+n2 by rw [<- HN2.out,<- HN1.out];unfold zeD;rw [HO1.out,if_pos h2,HNW.out,hkb,hn2.out])
        clear h6 h7 h10 h2 ca cb hkb
        go_wp2_with fail
        go_meet
        rw [HA.out,HB.out,HN.out]
        exact ⟨rfl,(HX2.out.put2 _).put3 _⟩
    ·have u1:decide (1<O)=false:=decide_eq_false h1
     have HA:=Lib.hid (show A1=0 by rw [<- HA1.out,if_neg h1])
     have HB:=Lib.hid (show B1=0 by rw [<- HB1.out];unfold b1F;rw [HO1.out,if_neg (fun k => h1 k.1)])
     have HN:=Lib.hid (show N2=1 by rw [<- HN2.out];unfold zeD;rw [HO1.out,if_neg (fun k => h1 k.1)];unfold zgJ;rw [HO1.out,if_neg h1])
     go_wp2_with fail
     go_meet
     rw [HA.out,HB.out,HN.out]
     exact ⟨rfl,HX2.out⟩
   case rest =>
   obtain ⟨rfl,hX⟩:=hcut
   clear gb hs t0 t1 t2 t3 x0 x1 x2 x3 x4 x5 x6 y0 y1 y2 y3 y4 y5 y6
   have HX3:=Lib.hid hX
   obtain ⟨gb,hs,t0,t1,t2,t3,x0,x1,x2,x3,x4,x5,x6,y0,y1,y2,y3,y4,y5,y6⟩:=hX
   have hN2b:1<=N2/\N2<=24:=by
    have key:∀ q,1<O->1<=sg.getD (q % rg.length) 0/\sg.getD (q % rg.length) 0<=12:=fun q h => HMI.out.wts (Nat.mod_lt _ (by rw [HNW.out];exact hOr.2.2 h))
    have k1:1<=zgJ rg sg t/\zgJ rg sg t<=12:=by
     unfold zgJ
     rw [HO1.out]
     by_cases k:1<O
     ·rw [if_pos k];exact key t.a k
     ·rw [if_neg k];omega
    rw [<- HN2.out]
    unfold zeD
    rw [HO1.out]
    by_cases k:zcb O
    ·rw [if_pos k]
     have:=key t.b k.1
     omega
    ·rw [if_neg k]
     omega
   obtain ⟨N3,hN3⟩:∃ z,nOf rg sg t=z:=⟨_,rfl⟩
   obtain ⟨B2,hB2⟩:∃ z,b2F rg sg t=z:=⟨_,rfl⟩
   have hN3':N3=if O=7 then 4*N2 else N2:=by rw [<- hN3];unfold nOf;rw [HO1.out,HN2.out]
   have hB2':B2=if O=7 then ((t.b % 9:Nat):Int) - 4 else B1:=by rw [<- hB2];unfold b2F;rw [HO1.out,HB1.out]
   have HN3:=Lib.hid hN3
   have HB2:=Lib.hid hB2
   have HN3':=Lib.hid hN3'
   have HB2':=Lib.hid hB2'
   clear hN3 hB2 hN3' hB2'
   go_upto_if 120 with fail
   go_cut [17] from 35 to 185 (fun s17 wx => s17=.int .i64 N3/\XB wr wx t O (tq:Int) A1 B2)
   case first => as_aux_lemma =>
    by_cases h7:O=7
    ·have u7:(O == 7)=true:=by simp [h7]
     obtain ⟨b9,eW⟩:∃ z,t.b % 9=z:=⟨_,rfl⟩
     have tb9:(t.b:Int).tmod 9=(b9:Int):=by rw [<- eW];exact zbd t.b 9
     have bb9:b9<9:=by omega
     have HN:=Lib.hid (show N3=4*N2 by rw [HN3'.out,if_pos h7])
     have HB:=Lib.hid (show B2=(b9:Int) - 4 by rw [HB2'.out,if_pos h7,eW])
     clear h7 eW
     go_wp2_with fail
     go_meet
     rw [HB.out,HN.out]
     exact ⟨rfl,HX3.out.put3 _⟩
    ·have u7:(O == 7)=false:=by simp [h7]
     have HN:=Lib.hid (show N3=N2 by rw [HN3'.out,if_neg h7])
     have HB:=Lib.hid (show B2=B1 by rw [HB2'.out,if_neg h7])
     clear h7
     go_wp2_with fail
     go_meet
     rw [HB.out,HN.out]
     exact ⟨rfl,HX3.out⟩
   case rest =>
   obtain ⟨rfl,hX⟩:=hcut
   clear gb hs t0 t1 t2 t3 x0 x1 x2 x3 x4 x5 x6 y0 y1 y2 y3 y4 y5 y6
   have HX4:=Lib.hid hX
   obtain ⟨gb,hs,t0,t1,t2,t3,x0,x1,x2,x3,x4,x5,x6,y0,y1,y2,y3,y4,y5,y6⟩:=hX
   have hN3b:1<=N3/\N3<=96:=by rw [HN3'.out];split <;> omega
   obtain ⟨N4,hN4⟩:∃ z,zhh rg sg t=z:=⟨_,rfl⟩
   obtain ⟨O4,hO4⟩:∃ z,opF rg sg t=z:=⟨_,rfl⟩
   obtain ⟨A4,hA4⟩:∃ z,aF rg sg t=z:=⟨_,rfl⟩
   obtain ⟨B4,hB4⟩:∃ z,bF rg sg t=z:=⟨_,rfl⟩
   have hN4':N4=if 12<N3 then 1 else N3:=by rw [<- hN4];unfold zhh;rw [HN3.out]
   have hO4':O4=if 12<N3 then 1 else O:=by rw [<- hO4];unfold opF;rw [HN3.out,HO1.out]
   have hA4':A4=if 12<N3 then 0 else A1:=by rw [<- hA4];unfold aF;rw [HN3.out,HO1.out,HA1.out]
   have hB4':B4=if 12<N3 then 0 else B2:=by rw [<- hB4];unfold bF;rw [HN3.out,HB2.out]
   have HY:Hid (zG I G RC rg sg t=⟨O4,if O4=10 then ((t.to % RC:Nat):Int) else (tq:Int),if O4=0 then ((t.a % I:Nat):Int) else A4,B4,if O4=1 then qOf t else zS⟩):=by
    show _=_
    rw [insOf_eq,hO4,hA4,hB4,Htq.out]
   have HN4:=Lib.hid hN4
   have HQ:=Lib.hid (And.intro hN4' (And.intro hO4' (And.intro hA4' hB4')))
   clear hN4 hO4 hA4 hB4 hN4' hO4' hA4' hB4'
   go_upto_if 130 with fail
   go_cut [17] from 35 to 185 (fun s17 wx => s17=.int .i64 N4/\XB wr wx t O4 (tq:Int) A4 B4)
   case first => as_aux_lemma =>
    by_cases h12:12<N3
    ·have u12:decide (12<N3)=true:=decide_eq_true h12
     have K12:=Lib.hid h12
     have HE:=Lib.hid (show N4=1/\O4=1/\A4=0/\B4=0 by obtain ⟨q1,q2,q3,q4⟩:=HQ.out;rw [if_pos h12] at q1 q2 q3 q4;exact ⟨q1,q2,q3,q4⟩)
     clear h12
     go_wp2_with fail
     ·go_meet
      rw [HE.out.1,HE.out.2.1,HE.out.2.2.1,HE.out.2.2.2]
      exact ⟨rfl,HX4.out.put7⟩
     ·exfalso
      have:=K12.out
      omega
    ·have u12:decide (12<N3)=false:=decide_eq_false h12
     have HE:=Lib.hid (show N4=N3/\O4=O/\A4=A1/\B4=B2 by obtain ⟨q1,q2,q3,q4⟩:=HQ.out;rw [if_neg h12] at q1 q2 q3 q4;exact ⟨q1,q2,q3,q4⟩)
     have h12':N3<=12:=by omega
     go_wp2_with fail
     go_meet
     rw [HE.out.1,HE.out.2.1,HE.out.2.2.1,HE.out.2.2.2]
     exact ⟨rfl,HX4.out⟩
   case rest =>
   obtain ⟨rfl,hX⟩:=hcut
   clear gb hs t0 t1 t2 t3 x0 x1 x2 x3 x4 x5 x6 y0 y1 y2 y3 y4 y5 y6
   have HX5:=Lib.hid hX
   obtain ⟨gb,hs,t0,t1,t2,t3,x0,x1,x2,x3,x4,x5,x6,y0,y1,y2,y3,y4,y5,y6⟩:=hX
   have hg3c:wr.heap.size<wc.heap.size:=by omega
   by_cases h0:O4=0
   ·have v0:(O4 == 0)=true:=by simp [h0]
    have v1:(O4 == 1)=false:=by simp [h0]
    have v10:(O4 == 10)=false:=by simp [h0]
    have v11:(O4 != 10)=true:=by simp [h0]
    obtain ⟨ai,hai⟩:∃ z,t.a % I=z:=⟨_,rfl⟩
    have tai:(t.a:Int).tmod (I:Int)=(ai:Int):=by rw [<- hai];exact zbd t.a I
    have bai:ai<I:=by rw [<- hai];exact Nat.mod_lt _ bI.1
    have HY5:Hid (zG I G RC rg sg t=⟨O4,(tq:Int),(ai:Int),B4,zS⟩):=by
     show _=_
     rw [HY.out,if_neg (by omega),if_pos h0,if_neg (by omega),hai]
    clear hai
    have H10:=Lib.hid (show O4≠10 from by omega)
    clear h0
    obtain ⟨cz,c0,c1,c2,c3,c4,cf0,cf1,cf2,cf3,cf4⟩:=HC5.out.to gb
    go_upto_region 33 with fail
    obtain ⟨W5,dc⟩:∃ W5,wc.setCell ⟨wr.heap.size+1,2,none⟩ (.int .i64 (ai:Int))=W5:=⟨_,rfl⟩
    have hX6:XB wr W5 t O4 (tq:Int) (ai:Int) B4:=by
     rw [<- dc]
     exact HX5.out.put2 _
    obtain ⟨gb5,eH,_,_,_,_,e0,e1,e2,e3,e4,e5,e6,_⟩:=hX6
    have hn5:=zel W5
    have hd5:=zel W5
    have f1:Far (.slice none 0 0) vC.ownBlock:=zch
    have f2:Far (.slice none 0 0) vC.ownBlock:=zch
    clear cz c0 c1 c2 c3 c4 cf0 cf1 cf2 cf3 cf4
    clear gb hs t0 t1 t2 t3 x0 x1 x2 x3 x4 x5 x6 y0 y1 y2 y3 y4 y5 y6
    obtain ⟨cz,c0,c1,c2,c3,c4,cf0,cf1,cf2,cf3,cf4⟩:=HC5.out.to gb5
    rw [dc]
    clear dc
    have hI64:zbV ⟨O4,(tq:Int),(ai:Int),B4,zS⟩:=by
     rw [<- HY5.out]
     exact zdH bI bG bRC HMI.out
    have hdl:dn.length<=100000:=by have:=HL.out.2.2;omega
    have HI:=Lib.hid hI64
    have Hdl:=Lib.hid hdl
    clear hI64 hdl
    go_wp2_with (at_builtin;refine zeW _ rfl (.tmp 169) (.tmp 171) rfl (w.heap.size+2) vC dn _ ⟨O4,(tq:Int),(ai:Int),B4,zS⟩ none 0 0 none 0 0 rfl rfl (HO.out.to (bS gb5 (bN _ _))) zaS (hn5.to (bN _ _)) (hd5.to (bN _ _)) f1 f2 HI.out Hdl.out (by simp;omega) _ rfl ?_;intro g4 cj4 w4 hO4 hgrow4 hat4 hlt4;have hC4:=(HC5.out.to (bS gb5 (bN _ _))).grown hgrow4 HvC.out.1;obtain ⟨dz,d0,d1,d2,d3,d4c,df0,df1,df2,df3,df4⟩:=hC4;have q0:=hgrow4.cell (((bN W5 _).cell (p:=⟨wr.heap.size+1,0,none⟩) eH).trans e0) HvC.out.2.2;have q1:=hgrow4.cell (((bN W5 _).cell (p:=⟨wr.heap.size+1,1,none⟩) eH).trans e1) HvC.out.2.2)
    have b5:=bS gb5 (bN W5 (.cells (zal ⟨O4,(tq:Int),(ai:Int),B4,zS⟩ (.slice none 0 0) (.slice none 0 0)).toArray 49))
    have b4:Below w.heap.size w w4:=(bS gb0 b5).grown hgrow4 (Nat.le_trans hgs b5.size) (fun q hq => by have:=(HO.out.lt q hq).1;omega)
    have hg4:w.heap.size+2<=g4:=by
     rcases hat4 with e|e
     ·exact (HO.out.lt g4 e).1
     ·rw [e];simp;have:=HC5.out.1;omega
    have hR4:=(HR5.out.to b5).grown hgrow4 HvC.out.2.1
    have hC4:=(HC5.out.to b5).grown hgrow4 HvC.out.1
    have gK:=(HW.out.to b5).grown hgrow4 (zbC HW.out HO.out)
    have hS4:=(HS.out.to b5).grown hgrow4 (zbC HS.out HO.out)
    have hO5:=hO4.setP (B:=w.heap.size+1) (o:=4) (fun e => by have e:g4=w.heap.size+1:=Option.some.inj e;omega) hC4.2.2.2.2.2.1 HvC4.out (.slice (some ⟨g4,0,none⟩) (dn.length+1) cj4)
    have hC6:=hC4.set4 (.slice (some ⟨g4,0,none⟩) (dn.length+1) cj4)
    have hR6:B5 (w4.setCell ⟨w.heap.size+1,4,none⟩ (.slice (some ⟨g4,0,none⟩) (dn.length+1) cj4)) _ _ _ _ _ _:=hR4.other (by omega)
    have dF:=b4.setCell (p:=⟨w.heap.size+1,4,none⟩) (by show _<=w.heap.size+1;omega) (.slice (some ⟨g4,0,none⟩) (dn.length+1) cj4)
    have gL:=gK.setOther (B:=w.heap.size+1) (o:=4) (fun e => by have:=(World.ownsRow.lt HW.out) _ e;omega) (.slice (some ⟨g4,0,none⟩) (dn.length+1) cj4)
    have hS6:=hS4.setOther (B:=w.heap.size+1) (o:=4) (fun e => by have:=(World.ownsRow.lt HS.out) _ e;omega) (.slice (some ⟨g4,0,none⟩) (dn.length+1) cj4)
    have HAn:Hid (A=(dn++[(⟨O4,(tq:Int),(ai:Int),B4,zS⟩:Ins)])++zaI I G RC (zaN rg (tq:Int)) (zba rg sg (tq:Int) N4) ((l.take m).drop (k+1))):=by
     exact zej hkt HA2.out Ht.out HY5.out HN4.out H10.out
    refine (zdx _ _ rg sg (tq:Int) N4 (w.heap.size+2) _ gL hS6 HL.out.1 (by have:=HL.out.2.1;omega) (by have:=hC6.1;omega) (fun h => HZ.out h)).mono ?_
    rintro e w5 ⟨v',u',rfl,hv5,hU,cU⟩
    go_wp2_with fail
    go_roundw
    case rel =>
     have hMI:MI G (zaN rg (tq:Int)) (zba rg sg (tq:Int) N4):=by
      have hn:=HMI.out.note (I:=I) (RC:=RC) (t:=t) bG.1 (by rw [HY5.out];exact H10.out)
      rw [HY5.out,HN4.out] at hn
      exact hn
     have hlen:(zba rg sg (tq:Int) N4).length=(zaN rg (tq:Int)).length:=by obtain ⟨_,_,h⟩:=hMI;exact h.len
     have hl2:=zfh (rg:=rg) (r:=(tq:Int))
     exact ⟨k+1,zaN rg (tq:Int),zba rg sg (tq:Int) N4,dn++[⟨O4,(tq:Int),(ai:Int),B4,zS⟩],.slice (some ⟨g4,0,none⟩) (dn.length+1) cj4,by omega,by go_num,bS dF cU,Lib.hid (hR6.to cU),Lib.hid (hC6.to cU),Lib.hid (hO5.to cU),Lib.hid hv5,Lib.hid hU,Lib.hid (fun h => by omega),Lib.hid hMI,Lib.hid ⟨hlen,by have:=HL.out.2.1;omega,by rw [List.length_append,HL.out.2.2];rfl⟩,HAn⟩
    case measure => simp [intOf] <;> omega
   ·by_cases h1:O4=1
    ·have v0:(O4 == 0)=false:=by simp [h1]
     have v1:(O4 == 1)=true:=by simp [h1]
     have v10:(O4 == 10)=false:=by simp [h1]
     have v11:(O4 != 10)=true:=by simp [h1]
     have H10:=Lib.hid (show O4≠10 from by omega)
     clear h1 h0
     obtain ⟨cz,c0,c1,c2,c3,c4,cf0,cf1,cf2,cf3,cf4⟩:=HC5.out.to gb
     have sw:=i8_wrap t.a
     have Hs8:=Lib.hid (zjo t.a)
     obtain ⟨s8,iv⟩:∃ z,i8 t.a=z:=⟨_,rfl⟩
     rw [iv] at sw Hs8
     obtain ⟨d4,hd4⟩:∃ z,t.b % 4=z:=⟨_,rfl⟩
     have td4:(t.b:Int).tmod 4=(d4:Int):=by rw [<- hd4];exact zbd t.b 4
     have bd4:d4<4:=by omega
     have bs8:=Hs8.out
     have HQT:=Lib.hid (show qOf t=zak (zT s8 d4) by unfold qOf;rw [iv,hd4])
     clear iv hd4
     go_wp2_with fail
     refine (zkP s8 d4 _ (by omega) bd4).mono ?_
     rintro e w2 ⟨ng2,a2_,n2_,c2_,p2_,m2_,k2_,rfl,g2,aZ⟩
     clear cz c0 c1 c2 c3 c4 cf0 cf1 cf2 cf3 cf4
     clear gb hs t0 t1 t2 t3 x0 x1 x2 x3 x4 x5 x6 y0 y1 y2 y3 y4 y5 y6
     have hX:=HX5.out.to aZ
     obtain ⟨gb,hs,t0,t1,t2,t3,x0,x1,x2,x3,x4,x5,x6,y0,y1,y2,y3,y4,y5,y6⟩:=hX
     obtain ⟨cz,c0,c1,c2,c3,c4,cf0,cf1,cf2,cf3,cf4⟩:=HC5.out.to gb
     have HY5:Hid (zG I G RC rg sg t=⟨O4,(tq:Int),A4,B4,⟨ng2,za (zT s8 d4).num.natAbs,za (zT s8 d4).den⟩⟩):=by
      show _=_
      have k0:=H10.out
      have k1:O4=1:=by simpa using v1
      rw [HY.out,if_neg k0,if_neg (by omega),if_pos k1,HQT.out,<- g2.2.2.1]
      rfl
     go_upto_region 33 with fail
     obtain ⟨W5,dc⟩:∃ W5,((w2.setCell ⟨wr.heap.size+1,4,none⟩ (.bool ng2)).setCell ⟨wr.heap.size+1,5,none⟩ (.slice a2_ n2_ c2_)).setCell ⟨wr.heap.size+1,6,none⟩ (.slice p2_ m2_ k2_)=W5:=⟨_,rfl⟩
     have gb5:Below wr.heap.size wr W5:=by
      rw [<- dc]
      exact ((gb.setCell (by show _<=wr.heap.size+1;omega) _).setCell (by show _<=wr.heap.size+1;omega) _).setCell (by show _<=wr.heap.size+1;omega) _
     have eH:wr.heap.size+1<W5.heap.size:=by rw [<- dc];simp [go_sem];exact hs
     have e0:W5.cell? ⟨wr.heap.size+1,0,none⟩=some (.int .i64 O4):=by rw [<- dc];exact cP (cP (cP x0 (.inr (by decide)) _) (.inr (by decide)) _) (.inr (by decide)) _
     have e1:W5.cell? ⟨wr.heap.size+1,1,none⟩=some (.int .i64 (tq:Int)):=by rw [<- dc];exact cP (cP (cP x1 (.inr (by decide)) _) (.inr (by decide)) _) (.inr (by decide)) _
     have e2:W5.cell? ⟨wr.heap.size+1,2,none⟩=some (.int .i64 A4):=by rw [<- dc];exact cP (cP (cP x2 (.inr (by decide)) _) (.inr (by decide)) _) (.inr (by decide)) _
     have e3:W5.cell? ⟨wr.heap.size+1,3,none⟩=some (.int .i64 B4):=by rw [<- dc];exact cP (cP (cP x3 (.inr (by decide)) _) (.inr (by decide)) _) (.inr (by decide)) _
     have e4:W5.cell? ⟨wr.heap.size+1,4,none⟩=some (.bool ng2):=by rw [<- dc];exact cP (cP (zh x4 _) (.inr (by decide)) _) (.inr (by decide)) _
     have e5:W5.cell? ⟨wr.heap.size+1,5,none⟩=some (.slice a2_ n2_ c2_):=by rw [<- dc];exact cP (zh (cP x5 (.inr (by decide)) _) _) (.inr (by decide)) _
     have e6:W5.cell? ⟨wr.heap.size+1,6,none⟩=some (.slice p2_ m2_ k2_):=by rw [<- dc];exact zh (cP (cP x6 (.inr (by decide)) _) (.inr (by decide)) _) _
     have ho3:zai w2 (wr.heap.size+1) 4 (.bool false) (.slice none 0 0) (.slice none 0 0):=⟨x4,x5,x6,y4,y5,y6⟩
     have hn5:Rd W5 (.slice a2_ n2_ c2_) (za (zT s8 d4).num.natAbs):=by rw [<- dc];exact g2.1.rd.put3 ho3 _ _ _
     have hd5:Rd W5 (.slice p2_ m2_ k2_) (za (zT s8 d4).den):=by rw [<- dc];exact g2.2.1.rd.put3 ho3 _ _ _
     have hvl:∀ q,vC.ownBlock=some q->q<wc.heap.size:=fun q hq => Nat.lt_trans (HO.out.lt q hq).2 hg3c
     have f1:Far (.slice a2_ n2_ c2_) vC.ownBlock:=Far.of_lt g2.1 hvl
     have f2:Far (.slice p2_ m2_ k2_) vC.ownBlock:=Far.of_lt g2.2.1 hvl
     clear cz c0 c1 c2 c3 c4 cf0 cf1 cf2 cf3 cf4
     clear gb hs t0 t1 t2 t3 x0 x1 x2 x3 x4 x5 x6 y0 y1 y2 y3 y4 y5 y6
     obtain ⟨cz,c0,c1,c2,c3,c4,cf0,cf1,cf2,cf3,cf4⟩:=HC5.out.to gb5
     rw [dc]
     clear dc
     have hI64:zbV ⟨O4,(tq:Int),A4,B4,⟨ng2,za (zT s8 d4).num.natAbs,za (zT s8 d4).den⟩⟩:=by
      rw [<- HY5.out]
      exact zdH bI bG bRC HMI.out
     have hdl:dn.length<=100000:=by have:=HL.out.2.2;omega
     have HI:=Lib.hid hI64
     have Hdl:=Lib.hid hdl
     clear hI64 hdl
     go_wp2_with (at_builtin;refine zeW _ rfl (.tmp 169) (.tmp 171) rfl (w.heap.size+2) vC dn _ ⟨O4,(tq:Int),A4,B4,⟨ng2,za (zT s8 d4).num.natAbs,za (zT s8 d4).den⟩⟩ a2_ n2_ c2_ p2_ m2_ k2_ rfl rfl (HO.out.to (bS gb5 (bN _ _))) zaS (hn5.to (bN _ _)) (hd5.to (bN _ _)) f1 f2 HI.out Hdl.out (by simp;omega) _ rfl ?_;intro g4 cj4 w4 hO4 hgrow4 hat4 hlt4;have hC4:=(HC5.out.to (bS gb5 (bN _ _))).grown hgrow4 HvC.out.1;obtain ⟨dz,d0,d1,d2,d3,d4c,df0,df1,df2,df3,df4⟩:=hC4;have q0:=hgrow4.cell (((bN W5 _).cell (p:=⟨wr.heap.size+1,0,none⟩) eH).trans e0) HvC.out.2.2;have q1:=hgrow4.cell (((bN W5 _).cell (p:=⟨wr.heap.size+1,1,none⟩) eH).trans e1) HvC.out.2.2)
     have b5:=bS gb5 (bN W5 (.cells (zal ⟨O4,(tq:Int),A4,B4,⟨ng2,za (zT s8 d4).num.natAbs,za (zT s8 d4).den⟩⟩ (.slice a2_ n2_ c2_) (.slice p2_ m2_ k2_)).toArray 49))
     have b4:Below w.heap.size w w4:=(bS gb0 b5).grown hgrow4 (Nat.le_trans hgs b5.size) (fun q hq => by have:=(HO.out.lt q hq).1;omega)
     have hg4:w.heap.size+2<=g4:=by
      rcases hat4 with e|e
      ·exact (HO.out.lt g4 e).1
      ·rw [e];simp;have:=HC5.out.1;omega
     have hR4:=(HR5.out.to b5).grown hgrow4 HvC.out.2.1
     have hC4:=(HC5.out.to b5).grown hgrow4 HvC.out.1
     have gK:=(HW.out.to b5).grown hgrow4 (zbC HW.out HO.out)
     have hS4:=(HS.out.to b5).grown hgrow4 (zbC HS.out HO.out)
     have hO5:=hO4.setP (B:=w.heap.size+1) (o:=4) (fun e => by have e:g4=w.heap.size+1:=Option.some.inj e;omega) hC4.2.2.2.2.2.1 HvC4.out (.slice (some ⟨g4,0,none⟩) (dn.length+1) cj4)
     have hC6:=hC4.set4 (.slice (some ⟨g4,0,none⟩) (dn.length+1) cj4)
     have hR6:B5 (w4.setCell ⟨w.heap.size+1,4,none⟩ (.slice (some ⟨g4,0,none⟩) (dn.length+1) cj4)) _ _ _ _ _ _:=hR4.other (by omega)
     have dF:=b4.setCell (p:=⟨w.heap.size+1,4,none⟩) (by show _<=w.heap.size+1;omega) (.slice (some ⟨g4,0,none⟩) (dn.length+1) cj4)
     have gL:=gK.setOther (B:=w.heap.size+1) (o:=4) (fun e => by have:=(World.ownsRow.lt HW.out) _ e;omega) (.slice (some ⟨g4,0,none⟩) (dn.length+1) cj4)
     have hS6:=hS4.setOther (B:=w.heap.size+1) (o:=4) (fun e => by have:=(World.ownsRow.lt HS.out) _ e;omega) (.slice (some ⟨g4,0,none⟩) (dn.length+1) cj4)
     have HAn:Hid (A=(dn++[(⟨O4,(tq:Int),A4,B4,⟨ng2,za (zT s8 d4).num.natAbs,za (zT s8 d4).den⟩⟩:Ins)])++zaI I G RC (zaN rg (tq:Int)) (zba rg sg (tq:Int) N4) ((l.take m).drop (k+1))):=by
      exact zej hkt HA2.out Ht.out HY5.out HN4.out H10.out
     refine (zdx _ _ rg sg (tq:Int) N4 (w.heap.size+2) _ gL hS6 HL.out.1 (by have:=HL.out.2.1;omega) (by have:=hC6.1;omega) (fun h => HZ.out h)).mono ?_
     rintro e w5 ⟨v',u',rfl,hv5,hU,cU⟩
     go_wp2_with fail
     go_roundw
     case rel =>
      have hMI:MI G (zaN rg (tq:Int)) (zba rg sg (tq:Int) N4):=by
       have hn:=HMI.out.note (I:=I) (RC:=RC) (t:=t) bG.1 (by rw [HY5.out];exact H10.out)
       rw [HY5.out,HN4.out] at hn
       exact hn
      have hlen:(zba rg sg (tq:Int) N4).length=(zaN rg (tq:Int)).length:=by obtain ⟨_,_,h⟩:=hMI;exact h.len
      have hl2:=zfh (rg:=rg) (r:=(tq:Int))
      exact ⟨k+1,zaN rg (tq:Int),zba rg sg (tq:Int) N4,dn++[⟨O4,(tq:Int),A4,B4,⟨ng2,za (zT s8 d4).num.natAbs,za (zT s8 d4).den⟩⟩],.slice (some ⟨g4,0,none⟩) (dn.length+1) cj4,by omega,by go_num,bS dF cU,Lib.hid (hR6.to cU),Lib.hid (hC6.to cU),Lib.hid (hO5.to cU),Lib.hid hv5,Lib.hid hU,Lib.hid (fun h => by omega),Lib.hid hMI,Lib.hid ⟨hlen,by have:=HL.out.2.1;omega,by rw [List.length_append,HL.out.2.2];rfl⟩,HAn⟩
     case measure => simp [intOf] <;> omega
    ·by_cases h10:O4=10
     ·have v0:(O4 == 0)=false:=by simp [h10]
      have v1:(O4 == 1)=false:=by simp [h10]
      have v10:(O4 == 10)=true:=by simp [h10]
      have v11:(O4 != 10)=false:=by simp [h10]
      obtain ⟨aq,haq⟩:∃ z,t.to % RC=z:=⟨_,rfl⟩
      have taq:(t.to:Int).tmod (RC:Int)=(aq:Int):=by rw [<- haq];exact zbd t.to RC
      have baq:aq<RC:=by rw [<- haq];exact Nat.mod_lt _ bRC.1
      have eRC:=HRC.out
      have HY5:Hid (zG I G RC rg sg t=⟨O4,(aq:Int),A4,B4,zS⟩):=by
       show _=_
       rw [HY.out,if_pos h10,if_neg (by omega),if_neg (by omega),haq]
      clear haq
      have H10:=Lib.hid (show O4=10 from h10)
      clear h10 h1 h0
      obtain ⟨cz,c0,c1,c2,c3,c4,cf0,cf1,cf2,cf3,cf4⟩:=HC5.out.to gb
      go_upto_region 33 with fail
      obtain ⟨W5,dc⟩:∃ W5,wc.setCell ⟨wr.heap.size+1,1,none⟩ (.int .i64 (aq:Int))=W5:=⟨_,rfl⟩
      have hX6:XB wr W5 t O4 (aq:Int) A4 B4:=by
       rw [<- dc]
       exact HX5.out.put1 _
      obtain ⟨gb5,eH,_,_,_,_,e0,e1,e2,e3,e4,e5,e6,_⟩:=hX6
      have hn5:=zel W5
      have hd5:=zel W5
      have f1:Far (.slice none 0 0) vC.ownBlock:=zch
      have f2:Far (.slice none 0 0) vC.ownBlock:=zch
      clear cz c0 c1 c2 c3 c4 cf0 cf1 cf2 cf3 cf4
      clear gb hs t0 t1 t2 t3 x0 x1 x2 x3 x4 x5 x6 y0 y1 y2 y3 y4 y5 y6
      obtain ⟨cz,c0,c1,c2,c3,c4,cf0,cf1,cf2,cf3,cf4⟩:=HC5.out.to gb5
      rw [dc]
      clear dc
      have hI64:zbV ⟨O4,(aq:Int),A4,B4,zS⟩:=by
       rw [<- HY5.out]
       exact zdH bI bG bRC HMI.out
      have hdl:dn.length<=100000:=by have:=HL.out.2.2;omega
      have HI:=Lib.hid hI64
      have Hdl:=Lib.hid hdl
      clear hI64 hdl
      go_wp2_with (at_builtin;refine zeW _ rfl (.tmp 169) (.tmp 171) rfl (w.heap.size+2) vC dn _ ⟨O4,(aq:Int),A4,B4,zS⟩ none 0 0 none 0 0 rfl rfl (HO.out.to (bS gb5 (bN _ _))) zaS (hn5.to (bN _ _)) (hd5.to (bN _ _)) f1 f2 HI.out Hdl.out (by simp;omega) _ rfl ?_;intro g4 cj4 w4 hO4 hgrow4 hat4 hlt4;have hC4:=(HC5.out.to (bS gb5 (bN _ _))).grown hgrow4 HvC.out.1;obtain ⟨dz,d0,d1,d2,d3,d4c,df0,df1,df2,df3,df4⟩:=hC4;have q0:=hgrow4.cell (((bN W5 _).cell (p:=⟨wr.heap.size+1,0,none⟩) eH).trans e0) HvC.out.2.2;have q1:=hgrow4.cell (((bN W5 _).cell (p:=⟨wr.heap.size+1,1,none⟩) eH).trans e1) HvC.out.2.2)
      have b5:=bS gb5 (bN W5 (.cells (zal ⟨O4,(aq:Int),A4,B4,zS⟩ (.slice none 0 0) (.slice none 0 0)).toArray 49))
      have b4:Below w.heap.size w w4:=(bS gb0 b5).grown hgrow4 (Nat.le_trans hgs b5.size) (fun q hq => by have:=(HO.out.lt q hq).1;omega)
      have hg4:w.heap.size+2<=g4:=by
       rcases hat4 with e|e
       ·exact (HO.out.lt g4 e).1
       ·rw [e];simp;have:=HC5.out.1;omega
      have hR4:=(HR5.out.to b5).grown hgrow4 HvC.out.2.1
      have hC4:=(HC5.out.to b5).grown hgrow4 HvC.out.1
      have gK:=(HW.out.to b5).grown hgrow4 (zbC HW.out HO.out)
      have hS4:=(HS.out.to b5).grown hgrow4 (zbC HS.out HO.out)
      have hO5:=hO4.setP (B:=w.heap.size+1) (o:=4) (fun e => by have e:g4=w.heap.size+1:=Option.some.inj e;omega) hC4.2.2.2.2.2.1 HvC4.out (.slice (some ⟨g4,0,none⟩) (dn.length+1) cj4)
      have hC6:=hC4.set4 (.slice (some ⟨g4,0,none⟩) (dn.length+1) cj4)
      have hR6:B5 (w4.setCell ⟨w.heap.size+1,4,none⟩ (.slice (some ⟨g4,0,none⟩) (dn.length+1) cj4)) _ _ _ _ _ _:=hR4.other (by omega)
      have dF:=b4.setCell (p:=⟨w.heap.size+1,4,none⟩) (by show _<=w.heap.size+1;omega) (.slice (some ⟨g4,0,none⟩) (dn.length+1) cj4)
      have gL:=gK.setOther (B:=w.heap.size+1) (o:=4) (fun e => by have:=(World.ownsRow.lt HW.out) _ e;omega) (.slice (some ⟨g4,0,none⟩) (dn.length+1) cj4)
      have hS6:=hS4.setOther (B:=w.heap.size+1) (o:=4) (fun e => by have:=(World.ownsRow.lt HS.out) _ e;omega) (.slice (some ⟨g4,0,none⟩) (dn.length+1) cj4)
      have HAn:Hid (A=(dn++[(⟨O4,(aq:Int),A4,B4,zS⟩:Ins)])++zaI I G RC rg sg ((l.take m).drop (k+1))):=by
       exact zkE hkt HA2.out Ht.out HY5.out H10.out
      go_roundw
      case rel => exact ⟨k+1,rg,sg,dn++[⟨O4,(aq:Int),A4,B4,zS⟩],.slice (some ⟨g4,0,none⟩) (dn.length+1) cj4,by omega,by go_num,dF,Lib.hid hR6,Lib.hid hC6,Lib.hid hO5,Lib.hid gL,Lib.hid hS6,HZ,HMI,Lib.hid ⟨HL.out.1,by have:=HL.out.2.1;omega,by rw [List.length_append,HL.out.2.2];rfl⟩,HAn⟩
      case measure => simp [intOf] <;> omega
     ·have v0:(O4 == 0)=false:=by simp [h0]
      have v1:(O4 == 1)=false:=by simp [h1]
      have v10:(O4 == 10)=false:=by simp [h10]
      have v11:(O4 != 10)=true:=by simp [h10]
      have HY5:Hid (zG I G RC rg sg t=⟨O4,(tq:Int),A4,B4,zS⟩):=by
       show _=_
       rw [HY.out,if_neg h10,if_neg h0,if_neg h1]
      have H10:=Lib.hid (show O4≠10 from h10)
      clear h10 h1 h0
      obtain ⟨cz,c0,c1,c2,c3,c4,cf0,cf1,cf2,cf3,cf4⟩:=HC5.out.to gb
      go_upto_region 33 with fail
      obtain ⟨W5,dc⟩:∃ W5,wc=W5:=⟨_,rfl⟩
      have hX6:XB wr W5 t O4 (tq:Int) A4 B4:=by
       rw [<- dc]
       exact HX5.out
      obtain ⟨gb5,eH,_,_,_,_,e0,e1,e2,e3,e4,e5,e6,_⟩:=hX6
      have hn5:=zel W5
      have hd5:=zel W5
      have f1:Far (.slice none 0 0) vC.ownBlock:=zch
      have f2:Far (.slice none 0 0) vC.ownBlock:=zch
      clear cz c0 c1 c2 c3 c4 cf0 cf1 cf2 cf3 cf4
      clear gb hs t0 t1 t2 t3 x0 x1 x2 x3 x4 x5 x6 y0 y1 y2 y3 y4 y5 y6
      obtain ⟨cz,c0,c1,c2,c3,c4,cf0,cf1,cf2,cf3,cf4⟩:=HC5.out.to gb5
      subst dc
      have hI64:zbV ⟨O4,(tq:Int),A4,B4,zS⟩:=by
       rw [<- HY5.out]
       exact zdH bI bG bRC HMI.out
      have hdl:dn.length<=100000:=by have:=HL.out.2.2;omega
      have HI:=Lib.hid hI64
      have Hdl:=Lib.hid hdl
      clear hI64 hdl
      go_wp2_with (at_builtin;refine zeW _ rfl (.tmp 169) (.tmp 171) rfl (w.heap.size+2) vC dn _ ⟨O4,(tq:Int),A4,B4,zS⟩ none 0 0 none 0 0 rfl rfl (HO.out.to (bS gb5 (bN _ _))) zaS (hn5.to (bN _ _)) (hd5.to (bN _ _)) f1 f2 HI.out Hdl.out (by simp;omega) _ rfl ?_;intro g4 cj4 w4 hO4 hgrow4 hat4 hlt4;have hC4:=(HC5.out.to (bS gb5 (bN _ _))).grown hgrow4 HvC.out.1;obtain ⟨dz,d0,d1,d2,d3,d4c,df0,df1,df2,df3,df4⟩:=hC4;have q0:=hgrow4.cell (((bN wc _).cell (p:=⟨wr.heap.size+1,0,none⟩) eH).trans e0) HvC.out.2.2;have q1:=hgrow4.cell (((bN wc _).cell (p:=⟨wr.heap.size+1,1,none⟩) eH).trans e1) HvC.out.2.2)
      have b5:=bS gb5 (bN wc (.cells (zal ⟨O4,(tq:Int),A4,B4,zS⟩ (.slice none 0 0) (.slice none 0 0)).toArray 49))
      have b4:Below w.heap.size w w4:=(bS gb0 b5).grown hgrow4 (Nat.le_trans hgs b5.size) (fun q hq => by have:=(HO.out.lt q hq).1;omega)
      have hg4:w.heap.size+2<=g4:=by
       rcases hat4 with e|e
       ·exact (HO.out.lt g4 e).1
       ·rw [e];simp;have:=HC5.out.1;omega
      have hR4:=(HR5.out.to b5).grown hgrow4 HvC.out.2.1
      have hC4:=(HC5.out.to b5).grown hgrow4 HvC.out.1
      have gK:=(HW.out.to b5).grown hgrow4 (zbC HW.out HO.out)
      have hS4:=(HS.out.to b5).grown hgrow4 (zbC HS.out HO.out)
      have hO5:=hO4.setP (B:=w.heap.size+1) (o:=4) (fun e => by have e:g4=w.heap.size+1:=Option.some.inj e;omega) hC4.2.2.2.2.2.1 HvC4.out (.slice (some ⟨g4,0,none⟩) (dn.length+1) cj4)
      have hC6:=hC4.set4 (.slice (some ⟨g4,0,none⟩) (dn.length+1) cj4)
      have hR6:B5 (w4.setCell ⟨w.heap.size+1,4,none⟩ (.slice (some ⟨g4,0,none⟩) (dn.length+1) cj4)) _ _ _ _ _ _:=hR4.other (by omega)
      have dF:=b4.setCell (p:=⟨w.heap.size+1,4,none⟩) (by show _<=w.heap.size+1;omega) (.slice (some ⟨g4,0,none⟩) (dn.length+1) cj4)
      have gL:=gK.setOther (B:=w.heap.size+1) (o:=4) (fun e => by have:=(World.ownsRow.lt HW.out) _ e;omega) (.slice (some ⟨g4,0,none⟩) (dn.length+1) cj4)
      have hS6:=hS4.setOther (B:=w.heap.size+1) (o:=4) (fun e => by have:=(World.ownsRow.lt HS.out) _ e;omega) (.slice (some ⟨g4,0,none⟩) (dn.length+1) cj4)
      have HAn:Hid (A=(dn++[(⟨O4,(tq:Int),A4,B4,zS⟩:Ins)])++zaI I G RC (zaN rg (tq:Int)) (zba rg sg (tq:Int) N4) ((l.take m).drop (k+1))):=by
       exact zej hkt HA2.out Ht.out HY5.out HN4.out H10.out
      refine (zdx _ _ rg sg (tq:Int) N4 (w.heap.size+2) _ gL hS6 HL.out.1 (by have:=HL.out.2.1;omega) (by have:=hC6.1;omega) (fun h => HZ.out h)).mono ?_
      rintro e w5 ⟨v',u',rfl,hv5,hU,cU⟩
      go_wp2_with fail
      go_roundw
      case rel =>
       have hMI:MI G (zaN rg (tq:Int)) (zba rg sg (tq:Int) N4):=by
        have hn:=HMI.out.note (I:=I) (RC:=RC) (t:=t) bG.1 (by rw [HY5.out];exact H10.out)
        rw [HY5.out,HN4.out] at hn
        exact hn
       have hlen:(zba rg sg (tq:Int) N4).length=(zaN rg (tq:Int)).length:=by obtain ⟨_,_,h⟩:=hMI;exact h.len
       have hl2:=zfh (rg:=rg) (r:=(tq:Int))
       exact ⟨k+1,zaN rg (tq:Int),zba rg sg (tq:Int) N4,dn++[⟨O4,(tq:Int),A4,B4,zS⟩],.slice (some ⟨g4,0,none⟩) (dn.length+1) cj4,by omega,by go_num,bS dF cU,Lib.hid (hR6.to cU),Lib.hid (hC6.to cU),Lib.hid (hO5.to cU),Lib.hid hv5,Lib.hid hU,Lib.hid (fun h => by omega),Lib.hid hMI,Lib.hid ⟨hlen,by have:=HL.out.2.1;omega,by rw [List.length_append,HL.out.2.2];rfl⟩,HAn⟩
      case measure => simp [intOf] <;> omega
  ·as_aux_lemma =>
   obtain rfl:k=M:=by omega
   obtain ⟨aC,cC,hvC,_⟩:=HO.out.form
   obtain ⟨nC,hnC⟩:∃ z,dn.length=z:=⟨_,rfl⟩
   rw [hnC] at hvC
   subst hvC
   clear hnC
   have HAe:=Lib.hid (show A=dn by rw [HA2.out,List.drop_of_length_le (by rw [HM.out];exact Nat.le_refl _)];exact List.append_nil _)
   obtain ⟨rz,r0,r1,r2,r3,r4,rf0,rf1,rf2,rf3,rf4⟩:=HR5.out
   obtain ⟨cz,c0,c1,c2,c3,c4,cf0,cf1,cf2,cf3,cf4⟩:=HC5.out
   have cU:∀ u0 u1 u2 u3 u4,Below w.heap.size w (((((wr.setCell ⟨w.heap.size,0,none⟩ u0).setCell ⟨w.heap.size,1,none⟩ u1).setCell ⟨w.heap.size,2,none⟩ u2).setCell ⟨w.heap.size,3,none⟩ u3).setCell ⟨w.heap.size,4,none⟩ u4):=fun u0 u1 u2 u3 u4 => ((((gb0.setCell (Nat.le_refl _) _).setCell (Nat.le_refl _) _).setCell (Nat.le_refl _) _).setCell (Nat.le_refl _) _).setCell (Nat.le_refl _) _
   have HB5':=Lib.hid cU
   have HO6:=Lib.hid (HR5.out.own5 HO.out HvC.out.2.1)
   clear cU
   by_cases hkN:k<N
   ·have hkn:(k:Int)<(N:Int):=by omega
    have hkm:¬ ((k:Int)<(m:Int)):=by have:=HMM.out;omega
    go_wp2_with fail
    refine bodyPost_ret (zhR Tryz.results22 _ _ _ _ _ _ _ _ rfl (HR5.out.put5 _ _ _ _ _)) rfl ⟨_,rfl,?_,HB5'.out _ _ _ _ _⟩
    show zau _ _ _ A
    rw [HAe.out]
    exact (HO6.out _ _ _ _ _).mono (by omega)
   ·have hkn:¬ ((k:Int)<(N:Int)):=by omega
    go_wp2_with fail
    refine bodyPost_ret (zhR Tryz.results22 _ _ _ _ _ _ _ _ rfl (HR5.out.put5 _ _ _ _ _)) rfl ⟨_,rfl,?_,HB5'.out _ _ _ _ _⟩
    show zau _ _ _ A
    rw [HAe.out]
    exact (HO6.out _ _ _ _ _).mono (by omega)

end Go.Proofs.YtkjcdnlpjldhaaaGreat

