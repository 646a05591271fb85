/-
  The texts Ref25r, RefRunJ, merged.
-/
import Derived.Test.YtkjcdnlpjldhaaaGreatG26
import Derived.Test.YtkjcdnlpjldhaaaGreatG10
import Derived.Deep.RegionHeld3
import Derived.Deep.CutRange
import Derived.Test.YtkjcdnlpjldhaaaGreatG23
set_option linter.unusedVariables false
set_option linter.unusedSimpArgs false
set_option maxRecDepth 100000
set_option maxHeartbeats 400000000
namespace Go.Proofs.YtkjcdnlpjldhaaaGreat
open Go.RowKit Tw
attribute [local go_sem ↓] Go.wp_at_zero Go.wp_at_succ

theorem zgh (c:Cd) (v u:Value) (xs:List Rt) (w:World) (hc:IsC w c v) (hs:zW 1000 c.all) (hx:RdR w u xs) (h0:zF c=false) :
  Calls Tryz.prog 20 #[aggC c v,u] w (NoJ w 11):=by
 have Hs:=Lib.hid hs
 have Hr0:=Lib.hid h0
 clear hs h0
 obtain ⟨a0,n0,c0,rfl,H0,hm0⟩:=hc.1.open
 obtain ⟨a1,n1,c1,rfl,H1,hm1⟩:=hx.open
 go_enter Tryz.func20,Tryz.ntmps20
 go_wp2_with fail
 obtain ⟨W0,az⟩:∃ W0,((w.alloc (.cells #[.int .i64 c.ins,.int .i64 c.rows,.int .i64 c.cols,.int .i64 c.regs,.slice a0 n0 c0] 24)).alloc (.cells #[.int .i64 0,.int .i64 0,.slice none 0 0] 32)).alloc (.cells #[.int .i64 0,.int .i64 0] 34)=W0:=⟨_,rfl⟩
 have am:=Lib.hid (show ∀ W',Below W0.heap.size W0 W'->(Bx5 W' w.heap.size (.int .i64 c.ins) (.int .i64 c.rows) (.int .i64 c.cols) (.int .i64 c.regs) (.slice a0 n0 c0)/\Bx3 W' (w.heap.size+1) (.int .i64 0) (.int .i64 0) (.slice none 0 0)/\Bx2 W' (w.heap.size+1+1) (.int .i64 0) (.int .i64 0)) from fun W' hb => by
   refine ⟨bx5 hb ?_ ?_ ?_ ?_ ?_ ?_ ?_ ?_ ?_ ?_,bx3 hb ?_ ?_ ?_ ?_ ?_ ?_,bx2 hb ?_ ?_ ?_ ?_⟩
   all_goals first|assumption|(rw [<- az];simp [go_sem]))
 have zb:Below w.heap.size w W0:=by rw [<- az];exact bS (bS (bN _ _) (bN _ _)) (bN _ _)
 rw [az]
 clear az
 have i0:=hc.to zb
 have i1:=hx.to zb
 have gb:Below W0.heap.size W0 W0:=Below.refl _ _
 obtain ⟨⟨z0,ac,ae,af,aw,ay,ag,ah,ai,aB,aC⟩,⟨z1,ak,al,au,ap,aq,aA⟩,⟨z2,aH,aI,aK,aL⟩⟩:=am.out _ gb
 go_wp2_with fail
 refine (zbH c _ _ (i0.to gb) Hs.out false Hr0.out).mono ?_
 clear ac ag ae ah af ai aw aB ay aC ak ap al aq au aA aH aK aI aL
 rintro e w1 ⟨rfl,bd⟩
 replace gb:=bS gb bd
 obtain ⟨⟨z0,ac,ae,af,aw,ay,ag,ah,ai,aB,aC⟩,⟨z1,ak,al,au,ap,aq,aA⟩,⟨z2,aH,aI,aK,aL⟩⟩:=am.out _ gb
 go_wp2_with fail
 have rt:=zcT ⟨ak,al,au,ap,aq,aA⟩ ⟨aH,aI,aK,aL⟩ (show w.heap.size+1≠w.heap.size+1+1 by omega) (.int .i64 0) (.int .i64 0) (.slice none 0 0) (.int .i64 0) (.int .i64 0)
 exact bodyPost_ret (zaL Tryz.results20 _ _ _ _ _ _ _ _ _ rfl rfl rt.1 rt.2) rfl ⟨rfl,bD (bT (bS zb gb) (by omega) _ _ _) (by omega) _ _⟩

theorem zfj (c:Cd) (v u:Value) (xs:List Rt) (w:World) (hc:IsC w c v) (hs:zW 1000 c.all) (hx:RdR w u xs) (h1:zF c=true) (hl:(xs.length:Int)≠c.ins) :
  Calls Tryz.prog 20 #[aggC c v,u] w (NoJ w 8):=by
 have Hs:=Lib.hid hs
 have Hr0:=Lib.hid h1
 clear hs h1
 obtain ⟨a0,n0,c0,rfl,H0,hm0⟩:=hc.1.open
 obtain ⟨a1,n1,c1,rfl,H1,hm1⟩:=hx.open
 have hl1:(n1:Int)≠c.ins:=by rw [<- H1.out];exact hl
 have t0:((n1:Int) != c.ins)=true:=by simp;exact hl1
 clear hl hl1
 go_enter Tryz.func20,Tryz.ntmps20
 go_wp2_with fail
 obtain ⟨W0,az⟩:∃ W0,((w.alloc (.cells #[.int .i64 c.ins,.int .i64 c.rows,.int .i64 c.cols,.int .i64 c.regs,.slice a0 n0 c0] 24)).alloc (.cells #[.int .i64 0,.int .i64 0,.slice none 0 0] 32)).alloc (.cells #[.int .i64 0,.int .i64 0] 34)=W0:=⟨_,rfl⟩
 have am:=Lib.hid (show ∀ W',Below W0.heap.size W0 W'->(Bx5 W' w.heap.size (.int .i64 c.ins) (.int .i64 c.rows) (.int .i64 c.cols) (.int .i64 c.regs) (.slice a0 n0 c0)/\Bx3 W' (w.heap.size+1) (.int .i64 0) (.int .i64 0) (.slice none 0 0)/\Bx2 W' (w.heap.size+1+1) (.int .i64 0) (.int .i64 0)) from fun W' hb => by
   refine ⟨bx5 hb ?_ ?_ ?_ ?_ ?_ ?_ ?_ ?_ ?_ ?_,bx3 hb ?_ ?_ ?_ ?_ ?_ ?_,bx2 hb ?_ ?_ ?_ ?_⟩
   all_goals first|assumption|(rw [<- az];simp [go_sem]))
 have zb:Below w.heap.size w W0:=by rw [<- az];exact bS (bS (bN _ _) (bN _ _)) (bN _ _)
 rw [az]
 clear az
 have i0:=hc.to zb
 have i1:=hx.to zb
 have gb:Below W0.heap.size W0 W0:=Below.refl _ _
 obtain ⟨⟨z0,ac,ae,af,aw,ay,ag,ah,ai,aB,aC⟩,⟨z1,ak,al,au,ap,aq,aA⟩,⟨z2,aH,aI,aK,aL⟩⟩:=am.out _ gb
 go_wp2_with fail
 refine (zbH c _ _ (i0.to gb) Hs.out true Hr0.out).mono ?_
 clear ac ag ae ah af ai aw aB ay aC ak ap al aq au aA aH aK aI aL
 rintro e w1 ⟨rfl,bd⟩
 replace gb:=bS gb bd
 obtain ⟨⟨z0,ac,ae,af,aw,ay,ag,ah,ai,aB,aC⟩,⟨z1,ak,al,au,ap,aq,aA⟩,⟨z2,aH,aI,aK,aL⟩⟩:=am.out _ gb
 go_wp2_with fail
 have rt:=zcT ⟨ak,al,au,ap,aq,aA⟩ ⟨aH,aI,aK,aL⟩ (show w.heap.size+1≠w.heap.size+1+1 by omega) (.int .i64 0) (.int .i64 0) (.slice none 0 0) (.int .i64 0) (.int .i64 0)
 exact bodyPost_ret (zaL Tryz.results20 _ _ _ _ _ _ _ _ _ rfl rfl rt.1 rt.2) rfl ⟨rfl,bD (bT (bS zb gb) (by omega) _ _ _) (by omega) _ _⟩

theorem zlh (c:Cd) (v u:Value) (xs:List Rt) (w:World) (hc:IsC w c v) (hs:zW 1000 c.all) (hx:RdR w u xs) (hxs:∀ x ∈ xs,x.n.length<=1000/\x.d.length<=1000) (h1:zF c=true) (hl:(xs.length:Int)=c.ins) (hf:zbv 1000 (xs.map Rt.num) St.zero c.all) (o:Int) (ho:zfn (xs.map Rt.num) St.zero c.all=o) :
  Calls Tryz.prog 20 #[aggC c v,u] w (zdm w c (xs.map Rt.num) o):=by
 obtain ⟨ins,rows,cols,regs,all⟩:=c
 have h0:zaT ⟨ins,rows,cols,regs,all⟩=true:=by unfold zF at h1;simp only [Bool.and_eq_true] at h1;exact h1.1
 have ha:zaq ⟨ins,rows,cols,regs,all⟩ [] all=true:=by unfold zF at h1;simp only [Bool.and_eq_true] at h1;exact h1.2
 have hh:=h0
 unfold zaT at hh
 simp only [decide_eq_true_eq] at hh
 obtain ⟨N,rfl⟩:=Int.eq_ofNat_of_zero_le hh.2.2.2.2.2.1
 have hin:xs.length<=40:=by have:(xs.length:Int)=ins:=hl;omega
 have hr:1<=rows/\rows<=40:=by omega
 have hcl:1<=cols/\cols<=40:=by omega
 have hlen:all.length<=100000:=hh.2.2.2.2.2.2.2
 have pb:=zU hr hcl
 obtain ⟨M,hM⟩:=Int.eq_ofNat_of_zero_le (show 0<=rows*cols by omega)
 have hM1:1<=M/\M<=1600:=by omega
 have HM:IntKind.i64.wrap (rows*cols)=(M:Int):=by rw [IntWalk.i64_in _ (by omega),hM]
 obtain ⟨a1,n1,c1,rfl,H1,hm1⟩:=hx.open
 obtain rfl:ins=(n1:Int):=by rw [<- H1.out];exact hl.symm
 have hn1:n1<=40:=by have:=H1.out;omega
 obtain ⟨a0,n0,c0,rfl,H0,hm0⟩:=hc.1.open
 have hn0:n0<=100000:=by have:all.length=n0:=H0.out;omega
 have Hs:Hid (zW 1000 all):=hs
 have Hxs:=Lib.hid hxs
 have Ho:Hid (zfn (xs.map Rt.num) St.zero all=o):=ho
 have Hf:Hid (zbv 1000 (xs.map Rt.num) St.zero all):=hf
 have Ha:=Lib.hid ha
 have Hrt:=Lib.hid h1
 have HMM:=Lib.hid hM
 have Hlen:=Lib.hid hlen
 clear hs hxs ho hf ha h1 h0 hh hl hM hlen pb
 go_enter Tryz.func20,Tryz.ntmps20
 go_wp2_with fail
 obtain ⟨W0,az⟩:∃ W0,((w.alloc (.cells #[.int .i64 (n1:Int),.int .i64 rows,.int .i64 cols,.int .i64 (N:Int),.slice a0 n0 c0] 24)).alloc (.cells #[.int .i64 0,.int .i64 0,.slice none 0 0] 32)).alloc (.cells #[.int .i64 0,.int .i64 0] 34)=W0:=⟨_,rfl⟩
 have am:=Lib.hid (show ∀ W',Below W0.heap.size W0 W'->(Bx5 W' w.heap.size (.int .i64 (n1:Int)) (.int .i64 rows) (.int .i64 cols) (.int .i64 (N:Int)) (.slice a0 n0 c0)/\Bx3 W' (w.heap.size+1) (.int .i64 0) (.int .i64 0) (.slice none 0 0)/\Bx2 W' (w.heap.size+1+1) (.int .i64 0) (.int .i64 0)) from fun W' hb => by
   refine ⟨bx5 hb ?_ ?_ ?_ ?_ ?_ ?_ ?_ ?_ ?_ ?_,bx3 hb ?_ ?_ ?_ ?_ ?_ ?_,bx2 hb ?_ ?_ ?_ ?_⟩
   all_goals first|assumption|(rw [<- az];simp [go_sem]))
 have zb:Below w.heap.size w W0:=by rw [<- az];exact bS (bS (bN _ _) (bN _ _)) (bN _ _)
 rw [az]
 clear az
 have i0:=hc.to zb
 have i1:=hx.to zb
 have gb:Below W0.heap.size W0 W0:=Below.refl _ _
 obtain ⟨⟨z0,ac,ae,af,aw,ay,ag,ah,ai,aB,aC⟩,⟨z1,ak,al,au,ap,aq,aA⟩,⟨z2,aH,aI,aK,aL⟩⟩:=am.out _ gb
 have HZW:=z2
 go_wp2_with fail
 refine (zbH _ _ _ (i0.to gb) Hs.out true Hrt.out).mono ?_
 clear ac ag ae ah af ai aw aB ay aC ak ap al aq au aA aH aK aI aL
 rintro e w1 ⟨rfl,bd⟩
 replace gb:=bS gb bd
 obtain ⟨⟨z0,ac,ae,af,aw,ay,ag,ah,ai,aB,aC⟩,⟨z1,ak,al,au,ap,aq,aA⟩,⟨z2,aH,aI,aK,aL⟩⟩:=am.out _ gb
 go_wp2_with fail
 obtain ⟨jB,hjB⟩:∃ jB,w1.heap.size=jB:=⟨_,rfl⟩
 obtain ⟨W1,aO⟩:∃ W1,w1.alloc (.cells #[.int .i64 rows,.int .i64 cols,.slice none 0 0] 32)=W1:=⟨_,rfl⟩
 have hbW:Below w1.heap.size w1 W1:=by rw [<- aO];exact bN _ _
 have hT0:Tri W1 jB (.int .i64 rows) (.int .i64 cols) (.slice none 0 0):=by rw [<- aO,<- hjB];exact zd _ _ _ _ _
 have hgw:W0.heap.size<=jB:=by rw [<- hjB];exact gb.size
 rw [aO,hjB]
 clear aO
 clear ac ag ae ah af ai aw aB ay aC ak ap al aq au aA aH aK aI aL
 have gb:=bS gb hbW
 clear hbW hjB
 obtain ⟨⟨z0,ac,ae,af,aw,ay,ag,ah,ai,aB,aC⟩,⟨z1,ak,al,au,ap,aq,aA⟩,⟨z2,aH,aI,aK,aL⟩⟩:=am.out _ gb
 go_loopw [9] (fun i ww => ∃ (k:Nat) (vJ:Value),k<=M/\i=.int .i64 k/\Below jB W1 ww/\Tri ww jB (.int .i64 rows) (.int .i64 cols) vJ/\zap (jB+1) ww vJ (List.replicate k 0)) (fun i _ => M - (intOf i).toNat)
 case atStart => exact ⟨0,.slice none 0 0,Nat.zero_le _,rfl,Below.refl _ _,hT0,zap.nil _ _⟩
 case round =>
  clear ac ag ae ah af ai aw aB ay aC ak ap al aq au aA aH aK aI aL
  clear hT0
  obtain ⟨k,vJ,hk,rfl,hbk,hMk,hOk⟩:=hrel
  have gbw:=gb.trans (hbk.mono (show W0.heap.size<=jB by omega))
  obtain ⟨aj,cj,hvj,hvo⟩:=hOk.form
  rw [List.length_replicate] at hvj
  subst hvj
  have hlk:=hMk.lt
  have hne:(Value.slice aj k cj).ownBlock≠some jB:=fun e => by have:=(hOk.lt _ e).1;omega
  obtain ⟨⟨z0,ac,ae,af,aw,ay,ag,ah,ai,aB,aC⟩,⟨z1,ak,al,au,ap,aq,aA⟩,⟨z2,aH,aI,aK,aL⟩⟩:=am.out _ gbw
  obtain ⟨e0,e1,e2,e3,e4,e5⟩:=hMk
  by_cases hkM:k<M
  ·have hki:(k:Int)<(M:Int):=by omega
   have HMk:=Lib.hid (show Tri wr jB (.int .i64 rows) (.int .i64 cols) (.slice aj k cj) from ⟨e0,e1,e2,e3,e4,e5⟩)
   obtain ⟨xs9,hxs⟩:=hOk.drew.len
   rw [List.length_replicate] at hxs
   obtain ⟨i0',hi0,hq0,hq1,hq2⟩:=info_parts (show (Tryz.prog.info? 47).map (fun i => (i.zero,i.size,i.bytes))=some (some (.agg #[.bool false,.slice none 0 0,.slice none 0 0]),3,56) by kernel_rfl)
   go_wp2_with fail
   go_region_law (first|(go_simp;go_at_call 25;(with_reducible refine (zcS 0 0 _ rfl (by decide) (by decide)).mono ?_);rintro e w2 ⟨ng2,a2_,n2_,c2_,p2_,m2_,k2_,rfl,g2,aN⟩;have hM2:=HMk.out.drew.to aN;obtain ⟨e0,e1,e2,e3,e4,e5⟩:=hM2;have HMa:=Lib.hid (HMk.out.drew.to (bS aN (bN w2 (.cells #[.bool ng2,.slice a2_ n2_ c2_,.slice p2_ m2_ k2_] 47))));obtain ⟨f0,f1,f2,f3,f4,f5⟩:=HMa.out;have hz2:wr.heap.size<=w2.heap.size:=aN.size)|(refine step_append_lies _ rfl (.tmp 43) (.tmp 45) 29 rfl (jB+1) 47 i0' (.agg #[.bool false,.slice none 0 0,.slice none 0 0]) 3 56 Tryz.underlying29 hi0 hq0 hq1 hq2 (by rfl) (by decide) (.slice aj k cj) k xs9 rfl (zaN (zaN hxs aN) (bN _ _)) ⟨w2.heap.size,0,none⟩ 1 1 _ rfl rfl zey zfM (by decide) (by simp [maxLen];omega) (by omega) (by simp;omega) _ rfl ?_;intro g4 cj4 w4 hown4 hgrow4 hat4 hlt4;have HM4:=Lib.hid (HMa.out.grown hgrow4 hne);obtain ⟨e0,e1,e2,e3,e4,e5⟩:=HM4.out))
   all_goals
    have hp:=zgF (List.length_replicate ..) hOk.drew hxs aN g2 (show jB+1<=wr.heap.size by omega) hown4 hgrow4 hat4
    have hne4:(Value.slice (some ⟨g4,0,none⟩) (k+1) cj4).ownBlock≠some jB:=fun e => by have:=(World.ownsRow.lt hown4 _ e).1;omega
    have hO5:=hp.1.setB hne4 HM4.out.2.2.1 (.slice (some ⟨g4,0,none⟩) (k+1) cj4)
    have cK:Below jB W1 (w4.setCell ⟨jB,2,none⟩ (.slice (some ⟨g4,0,none⟩) (k+1) cj4)):=(hbk.drew.trans (hp.2.mono (by omega))).setCell (Nat.le_refl _) _
    have hM5:=HM4.out.setZ (.slice (some ⟨g4,0,none⟩) (k+1) cj4)
    have hO6:zap (jB+1) (w4.setCell ⟨jB,2,none⟩ (.slice (some ⟨g4,0,none⟩) (k+1) cj4)) (.slice (some ⟨g4,0,none⟩) (k+1) cj4) (List.replicate (k+1) 0):=by rw [List.replicate_succ'];exact hO5
    clear e0 e1 e2 e3 e4 e5 f0 f1 f2 f3 f4 f5
    clear ac ag ae ah af ai aw aB ay aC ak ap al aq au aA aH aK aI aL
    obtain ⟨w5,hw5⟩:∃ w5,w4.setCell ⟨jB,2,none⟩ (.slice (some ⟨g4,0,none⟩) (k+1) cj4)=w5:=⟨_,rfl⟩
    rw [hw5] at cK hM5 hO6
    rw [hw5]
    clear hw5 hO5 hp
    go_wp2_with fail
    go_roundw
    case rel => exact ⟨k+1,_,by omega,by go_num,cK,hM5,hO6⟩
    case measure => simp [intOf] <;> omega
  ·obtain rfl:k=M:=by omega
   have hki:¬ ((k:Int)<(k:Int)):=by omega
   obtain ⟨h,rfl,hgh,hhs⟩:=hvo (by rw [List.length_replicate];omega)
   obtain ⟨nB,hnB⟩:∃ nB,wr.heap.size=nB:=⟨_,rfl⟩
   have hOl:(List.replicate k (0:Rat)).length=k:=List.length_replicate
   have hrowJ:zV wr h k (fun _ => True) (fun i => St.zero.J i):=by
    have hO':zap (jB+1) wr (.slice (some ⟨h,0,none⟩) (List.replicate k (0:Rat)).length cj) (List.replicate k 0):=by rw [hOl];exact hOk
    have:=hO'.row3
    rw [hOl] at this
    exact this.cast (fun r hr _ => ⟨trivial,by simp [hr,St.zero]⟩)
   have hcjm:k<=cj/\cj<=maxLen:=by
    obtain ⟨xs9,h9,_⟩:=hOk
    rcases h9.2 with ⟨h9,_⟩|⟨_,_,_,h9,_,_,q1,q2,_⟩
    ·cases h9
    ·injection h9 with q3 q4 q5
     subst q5
     rw [hOl] at q1
     exact ⟨q1,q2⟩
   have hMW:Tri wr jB (.int .i64 rows) (.int .i64 cols) (.slice (some ⟨h,0,none⟩) k cj):=⟨e0,e1,e2,e3,e4,e5⟩
   have hn2:Below wr.heap.size wr (wr.alloc (.cells #[.int .i64 0,.int .i64 0] 34)):=bN _ _
   have REL0:zbu W0 (wr.alloc (.cells #[.int .i64 0,.int .i64 0] 34)) jB h nB k cj rows cols St.zero (.slice none 0 0) [] :=
    ⟨bS gbw hn2,hMW.to hn2,hrowJ.far0.to hn2,by rw [<- hnB];exact zJ _ _ _ _,zap.nil _ _,hgw,by omega,by omega⟩
   have HnB:=Lib.hid hnB
   have Hcjm:=Lib.hid hcjm
   clear hvo hrowJ hMW hne hbk hki hnB hcjm hOk hOl
   go_wp2_with fail
   obtain ⟨W2,cO⟩:∃ W2,wr.alloc (.cells #[.int .i64 0,.int .i64 0] 34)=W2:=⟨_,rfl⟩
   rw [cO] at REL0 hn2
   rw [HnB.out,cO]
   clear cO e0 e1 e2 e3 e4 e5
   go_loopw [11,12] (fun vD i ww => ∃ (m:Nat) (L:List Int) (s:St) (qs:List Rat),m<=n0/\i=.int .i64 m/\zbu W0 ww jB h nB k cj rows cols s vD qs/\Hid (qs.length=m)/\Hid (∀ r,zam all qs 0 r m=s.R r)/\Hid (∀ q ∈ qs,szq q<=1000) /\
     Hid (zaq ⟨(n1:Int),rows,cols,(N:Int),all⟩ L (all.drop m)=true)/\Hid (zfn (xs.map Rt.num) s (all.drop m)=o) /\
     Hid (zcQ (xs.map Rt.num) s (all.drop m)=zcQ (xs.map Rt.num) St.zero all)/\Hid (zbv 1000 (xs.map Rt.num) s (all.drop m))/\Hid (0<=s.t/\s.t<=(m:Int)/\s.k=(m:Int))) (fun _ i _ => n0 - (intOf i).toNat)
   case atStart => exact ⟨0,[],St.zero,[],Nat.zero_le _,rfl,REL0,rfl,fun r => rfl,(fun q h => by cases h),by rw [List.drop_zero];exact Ha.out,by rw [List.drop_zero];exact Ho.out,by rw [List.drop_zero];rfl,by rw [List.drop_zero];exact Hf.out,⟨by decide,by decide,rfl⟩⟩
   case round =>
    clear ac ag ae ah af ai aw aB ay aC ak ap al aq au aA aH aK aI aL
    clear REL0 hn2 gbw
    obtain ⟨m,L,s,qs,hm,rfl,REL,HQL,HLI,HQZ,HA,HE,HS,HF,HT⟩:=hrel
    have gbw:=REL.1
    obtain ⟨⟨z0,ac,ae,af,aw,ay,ag,ah,ai,aB,aC⟩,⟨z1,ak,al,au,ap,aq,aA⟩,⟨z2,aH,aI,aK,aL⟩⟩:=am.out _ gbw
    obtain ⟨aD,cD,hvD,hvo⟩:=REL.2.2.2.2.1.form
    rw [HQL.out] at hvD
    subst hvD
    by_cases hmn:m<n0
    ·have hmi:(m:Int)<(n0:Int):=by omega
     have hml:m<all.length:=by have:all.length=n0:=H0.out;omega
     obtain ⟨b,off,rfl,h7⟩:=(i0.to gbw).1.nth hml
     have hbl:b<W0.heap.size:=by
      obtain ⟨b',off',e',h7'⟩:=i0.1.nth hml
      injection e' with e'
      injection e' with e1 e2
      rw [e1]
      exact zm h7'.1
     have HA1:=HA.out
     rw [zbw hml] at HA1
     have HE1:=HE.out
     rw [zgD hml] at HE1
     have HS1:=HS.out
     rw [zgN hml] at HS1
     have HF1:=zfU hml HF.out
     have HN1:=fun (y:Rat) (r:Int) => zfO (l:=all) (xs:=qs) (d:=0) (y:=y) (r:=r) hml HQL.out
     have hsx:=Hs.out _ (List.getElem_mem hml)
     simp only at h7
     obtain ⟨x,hx9⟩:∃ x,all[m]=x:=⟨_,rfl⟩
     rw [hx9] at HA1 HE1 HS1 HF1 hsx h7
     simp only [hx9] at HN1
     obtain ⟨hok,hA1⟩:=(Bool.and_eq_true _ _).mp HA1
     obtain ⟨vn,vd,s0,s1,s2,s3,s4,s5,s6,hX⟩:=h7.isX hsx.1 hsx.2
     obtain ⟨a5,n5,c5,rfl,H5,hm5⟩:=hX.1.1.open
     obtain ⟨a6,n6,c6,rfl,H6,hm6⟩:=hX.1.2.1.open
     have zb9:b<wr.heap.size:=zm s0
     have HX1:=Lib.hid hX
     have Hok:=Lib.hid hok
     have HA2:=Lib.hid hA1
     have HE2:=Lib.hid HE1
     have HS2:=Lib.hid HS1
     have HF2:=Lib.hid HF1
     have HN2:=Lib.hid HN1
     have HREL:=Lib.hid REL
     have hql:qs.length<=all.length:=by rw [HQL.out];omega
     have Hql:=Lib.hid hql
     have hqm:qs.length<=100000:=by rw [HQL.out];omega
     have Hqm:=Lib.hid hqm
     have HLA:Hid (zam all qs 0 x.a qs.length=s.R x.a):=by show _=_;rw [HQL.out];exact HLI.out _
     have HLB:Hid (zam all qs 0 x.b qs.length=s.R x.b):=by show _=_;rw [HQL.out];exact HLI.out _
     have gu:RdR wr (.slice aD m cD) (qs.map zB):=by have:=REL.2.2.2.2.1.rdR;exact this
     obtain ⟨z,hz9⟩:∃ z,zM (xs.map Rt.num) s.R x=z:=⟨_,rfl⟩
     have htri:=REL.2.1
     have hduo:=REL.2.2.2.1
     have hsk:s.k=(m:Int):=HT.out.2.2
     rw [hsk] at hduo
     obtain ⟨tt,htt⟩:∃ tt,s.t=tt:=⟨_,rfl⟩
     rw [htt] at hduo
     have hrl:=REL.2.2.2.2.2
     have zj:=htri.lt
     have zn:=hduo.lt
     obtain ⟨eI,eK,fB,eL,eN,fC⟩:=htri
     obtain ⟨bk,bl,bo,bq⟩:=hduo
     have z4:=zj
     have z5:=zn
     have Hz9:=Lib.hid hz9
     have Htt:=Lib.hid htt
     have Hsk:=Lib.hid hsk
     have htb:=HT.out.1
     have htc:=HT.out.2.1
     rw [htt] at htb htc
     have hsum:IntKind.i64.wrap (tt+1)=tt+1:=IntWalk.i64_in _ (by omega)
     clear HA HA1 HE HE1 HS HS1 HF HF1 HN1 hok hA1 h7 hsx hx9 hX REL hql hqm hz9 zj zn htt hsk htb htc
     have fD:=s0
     have eX:=s1
     have fE:=s2
     have fF:=s3
     have fG:=s4
     have fH:=s5
     have fI:=s6
     have z9:=zb9
     clear s0 s1 s2 s3 s4 s5 s6 zb9
     have gb:=gbw
     replace i0:=i0.to gb
     replace i1:=i1.to gb
     replace zb:=bS zb gb
     have HXwr:=Lib.hid (show ∀ W',Below wr.heap.size wr W'->(W'.cell? ⟨w.heap.size,0,none⟩=some (.int .i64 (n1:Int))/\W'.cell? ⟨w.heap.size,1,none⟩=some (.int .i64 rows)/\W'.cell? ⟨w.heap.size,2,none⟩=some (.int .i64 cols)/\W'.cell? ⟨w.heap.size,3,none⟩=some (.int .i64 (N:Int))/\W'.cell? ⟨w.heap.size,4,none⟩=some (.slice (some ⟨b,off,none⟩) n0 c0)/\W'.cell? ⟨w.heap.size+1,0,none⟩=some (.int .i64 0)/\W'.cell? ⟨w.heap.size+1,1,none⟩=some (.int .i64 0)/\W'.cell? ⟨w.heap.size+1,2,none⟩=some (.slice none 0 0)/\W'.cell? ⟨w.heap.size+1+1,0,none⟩=some (.int .i64 0)/\W'.cell? ⟨w.heap.size+1+1,1,none⟩=some (.int .i64 0)/\W'.cell? ⟨jB,0,none⟩=some (.int .i64 rows)/\W'.cell? ⟨jB,1,none⟩=some (.int .i64 cols)/\W'.cell? ⟨jB,2,none⟩=some (.slice (some ⟨h,0,none⟩) k cj)/\W'.cell? ⟨nB,0,none⟩=some (.int .i64 (m:Int))/\W'.cell? ⟨nB,1,none⟩=some (.int .i64 tt)/\W'.cell? ⟨b,off+m*7,none⟩=some (.int .i64 x.op)/\W'.cell? ⟨b,off+m*7+1,none⟩=some (.int .i64 x.to)/\W'.cell? ⟨b,off+m*7+2,none⟩=some (.int .i64 x.a)/\W'.cell? ⟨b,off+m*7+3,none⟩=some (.int .i64 x.b)/\W'.cell? ⟨b,off+m*7+4,none⟩=some (.bool x.q.ng)/\W'.cell? ⟨b,off+m*7+5,none⟩=some (.slice a5 n5 c5)/\W'.cell? ⟨b,off+m*7+6,none⟩=some (.slice a6 n6 c6)) from fun W' hb =>
      by and_intros <;> exact kc hb (by first|assumption|assumption))
     have HYwr:=Lib.hid (show ∀ W',Below wr.heap.size wr W'->(W'.frozen? ⟨w.heap.size,0,none⟩=false/\W'.frozen? ⟨w.heap.size,1,none⟩=false/\W'.frozen? ⟨w.heap.size,2,none⟩=false/\W'.frozen? ⟨w.heap.size,3,none⟩=false/\W'.frozen? ⟨w.heap.size,4,none⟩=false/\W'.frozen? ⟨w.heap.size+1,0,none⟩=false/\W'.frozen? ⟨w.heap.size+1,1,none⟩=false/\W'.frozen? ⟨w.heap.size+1,2,none⟩=false/\W'.frozen? ⟨w.heap.size+1+1,0,none⟩=false/\W'.frozen? ⟨w.heap.size+1+1,1,none⟩=false/\W'.frozen? ⟨jB,0,none⟩=false/\W'.frozen? ⟨jB,1,none⟩=false/\W'.frozen? ⟨jB,2,none⟩=false/\W'.frozen? ⟨nB,0,none⟩=false/\W'.frozen? ⟨nB,1,none⟩=false) from fun W' hb =>
      by and_intros <;> refine (hb.frozen ?_).trans ?_ <;> first|assumption|assumption)
     have HZwr:=Lib.hid (show ∀ W',Below wr.heap.size wr W'->(w.heap.size<W'.heap.size/\w.heap.size+1<W'.heap.size/\w.heap.size+1+1<W'.heap.size/\jB<W'.heap.size/\nB<W'.heap.size/\b<W'.heap.size) from fun W' hb =>
      by and_intros <;> refine Nat.lt_of_lt_of_le ?_ hb.size <;> first|assumption)
     replace gb:=Below.refl wr.heap.size wr
     go_wp2_with fail
     by_cases hz0:z=0
     ·have ly:=HZW
      clear ly
      have HZ0:Hid (zM (xs.map Rt.num) s.R x=0):=by show _=_;rw [Hz9.out];exact hz0
      clear hz0
      obtain ⟨q,hq9⟩:∃ q,opV (xs.map Rt.num) s.R x=q:=⟨_,rfl⟩
      have Hq9:=Lib.hid hq9
      clear hq9
      have hgb:=gb
      go_upto_region 16 with fail
      go_cut [13,14] from 54 to 131 (fun s13 s14 wx => BoxQL wr (q) s13 wx/\s14=.int .i64 0)
      case first =>
       go_region_held3 (fun W' => W'.cell? ⟨w.heap.size,0,none⟩=some (.int .i64 (n1:Int))/\W'.cell? ⟨w.heap.size,1,none⟩=some (.int .i64 rows)/\W'.cell? ⟨w.heap.size,2,none⟩=some (.int .i64 cols)/\W'.cell? ⟨w.heap.size,3,none⟩=some (.int .i64 (N:Int))/\W'.cell? ⟨w.heap.size,4,none⟩=some (.slice (some ⟨b,off,none⟩) n0 c0)/\W'.cell? ⟨w.heap.size+1,0,none⟩=some (.int .i64 0)/\W'.cell? ⟨w.heap.size+1,1,none⟩=some (.int .i64 0)/\W'.cell? ⟨w.heap.size+1,2,none⟩=some (.slice none 0 0)/\W'.cell? ⟨w.heap.size+1+1,0,none⟩=some (.int .i64 0)/\W'.cell? ⟨w.heap.size+1+1,1,none⟩=some (.int .i64 0)/\W'.cell? ⟨jB,0,none⟩=some (.int .i64 rows)/\W'.cell? ⟨jB,1,none⟩=some (.int .i64 cols)/\W'.cell? ⟨jB,2,none⟩=some (.slice (some ⟨h,0,none⟩) k cj)/\W'.cell? ⟨nB,0,none⟩=some (.int .i64 (m:Int))/\W'.cell? ⟨nB,1,none⟩=some (.int .i64 tt)/\W'.cell? ⟨b,off+m*7,none⟩=some (.int .i64 x.op)/\W'.cell? ⟨b,off+m*7+1,none⟩=some (.int .i64 x.to)/\W'.cell? ⟨b,off+m*7+2,none⟩=some (.int .i64 x.a)/\W'.cell? ⟨b,off+m*7+3,none⟩=some (.int .i64 x.b)/\W'.cell? ⟨b,off+m*7+4,none⟩=some (.bool x.q.ng)/\W'.cell? ⟨b,off+m*7+5,none⟩=some (.slice a5 n5 c5)/\W'.cell? ⟨b,off+m*7+6,none⟩=some (.slice a6 n6 c6)) (first|(with_reducible exact HXwr.out _ gb)|((with_reducible refine HXwr.out _ ?_);repeat' (first|(with_reducible exact gb)|(with_reducible refine Below.drew ?_)|(with_reducible refine bS ?_ (bN _ _))|(with_reducible refine bT ?_ ?_ _ _ _)|(with_reducible exact eu)|(with_reducible exact ew)|(with_reducible exact ex)|omega))) (first
        | (go_at_call 40;(refine zk w4 (by with_reducible first|exact Below.refl _ _|exact bN _ _) ?_);intro V5 kT eh;have kP:=eh.size;have kW:=gb.size;have g3:=g3.to eh;have g4:=g4.to eh;have gb:=bS gb eh;have hlo5:=Nat.le_trans kW kP;(try have bY:=bY.to eh);(try have ck:=ck.to eh);(try have c7:Tri V5 (w4.heap.size) (.bool false) (.slice none 0 0) (.slice none 0 0):=(by rw [kT];with_reducible first|exact zd _ (.bool false) (.slice none 0 0) (.slice none 0 0) _|exact (zd _ (.bool false) (.slice none 0 0) (.slice none 0 0) _).alloc _));have ex:wr.heap.size<=w4.heap.size:=(kW);(try have fm:=bY.lt);(try have fo:=ck.lt);(try have fp:=c7.lt);(with_reducible refine (does_ok (zge ⟨(n1:Int),rows,cols,(N:Int),all⟩ L s.R x.op x.to x.a x.b x.q.ng _ _ x.q.n x.q.d n1 c1 a1 xs ng3 _ _ ng4 _ _ _ (HX1.out.to gb) Hok.out rfl (i1.to gb) H1.out hm1 Hxs.out g3 g4 HF2.out.1) HZ0.out Hq9.out).mono ?_);rintro e w5 ⟨ng5,a5_,n5_,c5_,p5_,m5_,k5_,rfl,g5,cK⟩;have g3:=g3.to cK;have g4:=g4.to cK;have gb:=bS gb cK;have jo:=cK.size;(try have bY:=bY.to cK);(try have ck:=ck.to cK);(try have c7:=c7.to cK);(try have gk:=bY.lt);(try have gm:=ck.lt);(try have gn:=c7.lt);(try (have cT:=bY;obtain ⟨dM,dN,dO,dP,dQ,dR⟩:=cT));(try (have dt:=ck;obtain ⟨eQ,eR,eS,eT,eU,eV⟩:=dt));(try (have fJ:=c7;obtain ⟨ic,ie,ig,ii,ij,ik⟩:=fJ)))
        | (go_at_call 41;(refine zk w3 (by with_reducible first|exact Below.refl _ _|exact bN _ _) ?_);intro V4 fl eH;have kQ:=eH.size;have kX:=gb.size;have g3:=g3.to eH;have gb:=bS gb eH;have hlo4:=Nat.le_trans kX kQ;(try have bY:=bY.to eH);(try have ck:Tri V4 (w3.heap.size) (.bool false) (.slice none 0 0) (.slice none 0 0):=(by rw [fl];with_reducible first|exact zd _ (.bool false) (.slice none 0 0) (.slice none 0 0) _|exact (zd _ (.bool false) (.slice none 0 0) (.slice none 0 0) _).alloc _));have ew:wr.heap.size<=w3.heap.size:=(kX);(try have gp:=bY.lt);(try have gq:=ck.lt);(with_reducible refine (zcO ⟨(n1:Int),rows,cols,(N:Int),all⟩ _ _ qs x.b _ (i0.to gb) (gu.to gb) HQZ.out Hql.out Hqm.out (s.R x.b) HLB.out).mono ?_);rintro e w4 ⟨ng4,a4_,n4_,c4_,p4_,m4_,k4_,rfl,g4,cG⟩;have g3:=g3.to cG;have gb:=bS gb cG;have lA:=cG.size;(try have bY:=bY.to cG);(try have ck:=ck.to cG);(try have gr:=bY.lt);(try have gs:=ck.lt);(try (have cT:=bY;obtain ⟨dM,dN,dO,dP,dQ,dR⟩:=cT));(try (have dt:=ck;obtain ⟨eQ,eR,eS,eT,eU,eV⟩:=dt)))
        | (go_at_call 41;(refine zk wr (by with_reducible first|exact (Below.refl _ _).drew|exact (bN _ _).drew) ?_);intro V3 kU fZ;have kR:=fZ.size;have kY:=gb.size;have gb:=bS gb fZ;have hlo3:=Nat.le_trans kY kR;(try have bY:Tri V3 (wr.heap.size) (.bool false) (.slice none 0 0) (.slice none 0 0):=(by rw [kU];with_reducible first|exact (zd _ (.bool false) (.slice none 0 0) (.slice none 0 0) _).drew|exact ((zd _ (.bool false) (.slice none 0 0) (.slice none 0 0) _).alloc _).drew));have eu:wr.heap.size<=wr.heap.size:=(kY);(try have gt:=bY.lt);(with_reducible refine (zcO ⟨(n1:Int),rows,cols,(N:Int),all⟩ _ _ qs x.a _ (i0.to gb) (gu.to gb) HQZ.out Hql.out Hqm.out (s.R x.a) HLA.out).mono ?_);rintro e w3 ⟨ng3,a3_,n3_,c3_,p3_,m3_,k3_,rfl,g3,bs⟩;have gb:=bS gb bs;have il:=bs.size;(try have bY:=bY.to bs);(try have gv:=bY.lt);(try (have cT:=bY;obtain ⟨dM,dN,dO,dP,dQ,dR⟩:=cT))))
       all_goals (go_wp2_with fail;go_meet)
       all_goals refine ⟨?_,rfl⟩
       all_goals first
        | (with_reducible exact zeD bY g5 (.inl fm) gb eu hlo5)
        | (with_reducible exact zeD ck g5 (.inl fo) gb ew hlo5)
        | (with_reducible exact zeD c7 g5 (.inl fp) gb ex hlo5)
        | (with_reducible exact zkS g5 gb hlo5)
      case rest =>
      obtain ⟨⟨B6,ng5,a5_,n5_,c5_,p5_,m5_,k5_,lo6,hi6,rfl,hB6,T6,g5,hc6,hlo5⟩,rfl⟩:=hcut
      clear ac ag ae ah af ai aw aB ay aC ak ap al aq au aA aH aK aI aL eI eL eK eN fB fC bk bo bl bq fD eX fE fF fG fH fI
      have gb:=hc6
      obtain ⟨ac,ae,af,aw,ay,ak,al,au,aH,aI,eI,eK,fB,bk,bl,fD,eX,fE,fF,fG,fH,fI⟩:=HXwr.out _ gb
      obtain ⟨ag,ah,ai,aB,aC,ap,aq,aA,aK,aL,eL,eN,fC,bo,bq⟩:=HYwr.out _ gb
      obtain ⟨z0,z1,z2,z4,z5,z9⟩:=HZwr.out _ gb
      have z6:=T6.lt
      obtain ⟨b6,b7,b8,ce,cf,ci⟩:=T6
      clear hgb
      obtain ⟨W5,fK⟩:∃ W,wc=W:=⟨_,rfl⟩
      subst fK
      replace i0:=i0.to gb
      replace i1:=i1.to gb
      replace gu:=gu.to gb
      replace zb:=bS zb gb
      have HXwc:=Lib.hid (show ∀ W',Below wc.heap.size wc W'->(W'.cell? ⟨w.heap.size,0,none⟩=some (.int .i64 (n1:Int))/\W'.cell? ⟨w.heap.size,1,none⟩=some (.int .i64 rows)/\W'.cell? ⟨w.heap.size,2,none⟩=some (.int .i64 cols)/\W'.cell? ⟨w.heap.size,3,none⟩=some (.int .i64 (N:Int))/\W'.cell? ⟨w.heap.size,4,none⟩=some (.slice (some ⟨b,off,none⟩) n0 c0)/\W'.cell? ⟨w.heap.size+1,0,none⟩=some (.int .i64 0)/\W'.cell? ⟨w.heap.size+1,1,none⟩=some (.int .i64 0)/\W'.cell? ⟨w.heap.size+1,2,none⟩=some (.slice none 0 0)/\W'.cell? ⟨w.heap.size+1+1,0,none⟩=some (.int .i64 0)/\W'.cell? ⟨w.heap.size+1+1,1,none⟩=some (.int .i64 0)/\W'.cell? ⟨jB,0,none⟩=some (.int .i64 rows)/\W'.cell? ⟨jB,1,none⟩=some (.int .i64 cols)/\W'.cell? ⟨jB,2,none⟩=some (.slice (some ⟨h,0,none⟩) k cj)/\W'.cell? ⟨nB,0,none⟩=some (.int .i64 (m:Int))/\W'.cell? ⟨nB,1,none⟩=some (.int .i64 tt)/\W'.cell? ⟨b,off+m*7,none⟩=some (.int .i64 x.op)/\W'.cell? ⟨b,off+m*7+1,none⟩=some (.int .i64 x.to)/\W'.cell? ⟨b,off+m*7+2,none⟩=some (.int .i64 x.a)/\W'.cell? ⟨b,off+m*7+3,none⟩=some (.int .i64 x.b)/\W'.cell? ⟨b,off+m*7+4,none⟩=some (.bool x.q.ng)/\W'.cell? ⟨b,off+m*7+5,none⟩=some (.slice a5 n5 c5)/\W'.cell? ⟨b,off+m*7+6,none⟩=some (.slice a6 n6 c6)/\W'.cell? ⟨B6,0,none⟩=some (.bool ng5)/\W'.cell? ⟨B6,1,none⟩=some (.slice a5_ n5_ c5_)/\W'.cell? ⟨B6,2,none⟩=some (.slice p5_ m5_ k5_)) from fun W' hb =>
       by and_intros <;> exact kc hb (by first|assumption|assumption))
      have HYwc:=Lib.hid (show ∀ W',Below wc.heap.size wc W'->(W'.frozen? ⟨w.heap.size,0,none⟩=false/\W'.frozen? ⟨w.heap.size,1,none⟩=false/\W'.frozen? ⟨w.heap.size,2,none⟩=false/\W'.frozen? ⟨w.heap.size,3,none⟩=false/\W'.frozen? ⟨w.heap.size,4,none⟩=false/\W'.frozen? ⟨w.heap.size+1,0,none⟩=false/\W'.frozen? ⟨w.heap.size+1,1,none⟩=false/\W'.frozen? ⟨w.heap.size+1,2,none⟩=false/\W'.frozen? ⟨w.heap.size+1+1,0,none⟩=false/\W'.frozen? ⟨w.heap.size+1+1,1,none⟩=false/\W'.frozen? ⟨jB,0,none⟩=false/\W'.frozen? ⟨jB,1,none⟩=false/\W'.frozen? ⟨jB,2,none⟩=false/\W'.frozen? ⟨nB,0,none⟩=false/\W'.frozen? ⟨nB,1,none⟩=false/\W'.frozen? ⟨B6,0,none⟩=false/\W'.frozen? ⟨B6,1,none⟩=false/\W'.frozen? ⟨B6,2,none⟩=false) from fun W' hb =>
       by and_intros <;> refine (hb.frozen ?_).trans ?_ <;> first|assumption|assumption)
      have HZwc:=Lib.hid (show ∀ W',Below wc.heap.size wc W'->(w.heap.size<W'.heap.size/\w.heap.size+1<W'.heap.size/\w.heap.size+1+1<W'.heap.size/\jB<W'.heap.size/\nB<W'.heap.size/\b<W'.heap.size/\B6<W'.heap.size) from fun W' hb =>
       by and_intros <;> refine Nat.lt_of_lt_of_le ?_ hb.size <;> first|assumption)
      replace gb:=Below.refl wc.heap.size wc
      go_wp2_with fail
      obtain ⟨m9,hm9⟩:∃ m:Nat,((max (zc q.num.natAbs).length (zc q.den).length:Nat))=m:=⟨_,rfl⟩
      have HM9:=Lib.hid (show ((max (zc q.num.natAbs).length (zc q.den).length:Nat):Int)=(m9:Int) by rw [hm9])
      have hqz:szq q<=1000:=g5.2.2.2.1
      have hm4:m9<=4096:=by have:=hqz;unfold szq at this;rw [ze,ze] at hm9;omega
      have t4:decide (4096<m9)=false:=decide_eq_false (by omega)
      have t5:decide ((4096:Int)<(m9:Int))=false:=decide_eq_false (by omega)
      have HQZ2:Hid (∀ y ∈ qs++[q],szq y<=1000):=fun y hy => by
       rcases List.mem_append.1 hy with hy|hy
       ·exact HQZ.out y hy
       ·rw [List.mem_singleton.1 hy];exact hqz
      clear hm9 hm4 hqz
      go_wp2_with fail
      refine (zaK ng5 _ _ _ _ _ (g5.to gb).isF (m9:Int) HM9.out).mono ?_
      clear ac ag ae ah af ai aw aB ay aC ak ap al aq au aA aH aK aI aL eI eL eK eN fB fC bk bo bl bq fD eX fE fF fG fH fI b6 ce b7 cf b8 ci
      rintro e w6 ⟨rfl,eW⟩
      replace gb:=bS gb eW
      obtain ⟨ac,ae,af,aw,ay,ak,al,au,aH,aI,eI,eK,fB,bk,bl,fD,eX,fE,fF,fG,fH,fI,b6,b7,b8⟩:=HXwc.out _ gb
      obtain ⟨ag,ah,ai,aB,aC,ap,aq,aA,aK,aL,eL,eN,fC,bo,bq,ce,cf,ci⟩:=HYwc.out _ gb
      obtain ⟨z0,z1,z2,z4,z5,z9,z6⟩:=HZwc.out _ gb
      have hk6:IsK w6 ng5 (.slice a5_ n5_ c5_) (.slice p5_ m5_ k5_) q:=(g5.to gb).isK
      have f51:=HREL.out.far g5.1 hlo5
      have f52:=HREL.out.far g5.2.1 hlo5
      have gR6:=(HREL.out.to hc6).to gb
      obtain ⟨xs9,hxs9⟩:=gR6.2.2.2.2.1.len
      have Hxs9:Hid (w6.ownsRow (nB+1) 47 3 (.slice aD m cD) m xs9):=by show World.ownsRow _ _ _ _ _ _ _;rw [HQL.out] at hxs9;exact hxs9
      have hn6:nB+1<=w6.heap.size:=gR6.2.2.2.1.lt
      have hmB:(m+1)*56<=140737488355328:=by omega
      have hmL:m+1<=maxLen:=by show m+1<=9223372036854775807;omega
      have hDlt:=HREL.out.2.2.2.2.1.lt
      clear hxs9
      obtain ⟨i0',hi0,hq0,hq1,hq2⟩:=info_parts (show (Tryz.prog.info? 47).map (fun i => (i.zero,i.size,i.bytes))=some (some (.agg #[.bool false,.slice none 0 0,.slice none 0 0]),3,56) by kernel_rfl)
      have nd0:(Value.slice aD m cD).ownBlock≠some (w.heap.size):=fun e => by have:=hDlt _ e;omega
      have nd1:(Value.slice aD m cD).ownBlock≠some (w.heap.size+1):=fun e => by have:=hDlt _ e;omega
      have nd2:(Value.slice aD m cD).ownBlock≠some (w.heap.size+1+1):=fun e => by have:=hDlt _ e;omega
      have nd4:(Value.slice aD m cD).ownBlock≠some (jB):=fun e => by have:=hDlt _ e;omega
      have nd5:(Value.slice aD m cD).ownBlock≠some (nB):=fun e => by have:=hDlt _ e;omega
      have nd9:(Value.slice aD m cD).ownBlock≠some (b):=fun e => by have:=hDlt _ e;omega
      have nd6:(Value.slice aD m cD).ownBlock≠some (B6):=fun e => by have:=hDlt _ e;omega
      have HK4:Hid (∀ w4,(w6.alloc (.cells #[.bool ng5,.slice a5_ n5_ c5_,.slice p5_ m5_ k5_] 47)).grownBy w4 (Value.slice aD m cD).ownBlock->(w4.cell? ⟨w.heap.size,0,none⟩=some (.int .i64 (n1:Int))/\w4.cell? ⟨w.heap.size,1,none⟩=some (.int .i64 rows)/\w4.cell? ⟨w.heap.size,2,none⟩=some (.int .i64 cols)/\w4.cell? ⟨w.heap.size,3,none⟩=some (.int .i64 (N:Int))/\w4.cell? ⟨w.heap.size,4,none⟩=some (.slice (some ⟨b,off,none⟩) n0 c0)/\w4.cell? ⟨w.heap.size+1,0,none⟩=some (.int .i64 0)/\w4.cell? ⟨w.heap.size+1,1,none⟩=some (.int .i64 0)/\w4.cell? ⟨w.heap.size+1,2,none⟩=some (.slice none 0 0)/\w4.cell? ⟨w.heap.size+1+1,0,none⟩=some (.int .i64 0)/\w4.cell? ⟨w.heap.size+1+1,1,none⟩=some (.int .i64 0)/\w4.cell? ⟨jB,0,none⟩=some (.int .i64 rows)/\w4.cell? ⟨jB,1,none⟩=some (.int .i64 cols)/\w4.cell? ⟨jB,2,none⟩=some (.slice (some ⟨h,0,none⟩) k cj)/\w4.cell? ⟨nB,0,none⟩=some (.int .i64 (m:Int))/\w4.cell? ⟨nB,1,none⟩=some (.int .i64 tt)/\w4.cell? ⟨b,off+m*7,none⟩=some (.int .i64 x.op)/\w4.cell? ⟨b,off+m*7+1,none⟩=some (.int .i64 x.to)/\w4.cell? ⟨b,off+m*7+2,none⟩=some (.int .i64 x.a)/\w4.cell? ⟨b,off+m*7+3,none⟩=some (.int .i64 x.b)/\w4.cell? ⟨b,off+m*7+4,none⟩=some (.bool x.q.ng)/\w4.cell? ⟨b,off+m*7+5,none⟩=some (.slice a5 n5 c5)/\w4.cell? ⟨b,off+m*7+6,none⟩=some (.slice a6 n6 c6)/\w4.cell? ⟨B6,0,none⟩=some (.bool ng5)/\w4.cell? ⟨B6,1,none⟩=some (.slice a5_ n5_ c5_)/\w4.cell? ⟨B6,2,none⟩=some (.slice p5_ m5_ k5_)/\w4.frozen? ⟨w.heap.size,0,none⟩=false/\w4.frozen? ⟨w.heap.size,1,none⟩=false/\w4.frozen? ⟨w.heap.size,2,none⟩=false/\w4.frozen? ⟨w.heap.size,3,none⟩=false/\w4.frozen? ⟨w.heap.size,4,none⟩=false/\w4.frozen? ⟨w.heap.size+1,0,none⟩=false/\w4.frozen? ⟨w.heap.size+1,1,none⟩=false/\w4.frozen? ⟨w.heap.size+1,2,none⟩=false/\w4.frozen? ⟨w.heap.size+1+1,0,none⟩=false/\w4.frozen? ⟨w.heap.size+1+1,1,none⟩=false/\w4.frozen? ⟨jB,0,none⟩=false/\w4.frozen? ⟨jB,1,none⟩=false/\w4.frozen? ⟨jB,2,none⟩=false/\w4.frozen? ⟨nB,0,none⟩=false/\w4.frozen? ⟨nB,1,none⟩=false/\w4.frozen? ⟨B6,0,none⟩=false/\w4.frozen? ⟨B6,1,none⟩=false/\w4.frozen? ⟨B6,2,none⟩=false)):=fun w4 hg => by
       have hsz:(w6.alloc (.cells #[.bool ng5,.slice a5_ n5_ c5_,.slice p5_ m5_ k5_] 47)).heap.size=w6.heap.size+1:=by simp
       exact ⟨(hg.cell_far ⟨w.heap.size,0,none⟩ (by rw [hsz];exact Nat.lt_succ_of_lt z0) (fun e => nd0 e.symm)).trans (((bN w6 (.cells #[.bool ng5,.slice a5_ n5_ c5_,.slice p5_ m5_ k5_] 47)).cell (p:=⟨w.heap.size,0,none⟩) z0).trans ac),(hg.cell_far ⟨w.heap.size,1,none⟩ (by rw [hsz];exact Nat.lt_succ_of_lt z0) (fun e => nd0 e.symm)).trans (((bN w6 (.cells #[.bool ng5,.slice a5_ n5_ c5_,.slice p5_ m5_ k5_] 47)).cell (p:=⟨w.heap.size,1,none⟩) z0).trans ae),(hg.cell_far ⟨w.heap.size,2,none⟩ (by rw [hsz];exact Nat.lt_succ_of_lt z0) (fun e => nd0 e.symm)).trans (((bN w6 (.cells #[.bool ng5,.slice a5_ n5_ c5_,.slice p5_ m5_ k5_] 47)).cell (p:=⟨w.heap.size,2,none⟩) z0).trans af),(hg.cell_far ⟨w.heap.size,3,none⟩ (by rw [hsz];exact Nat.lt_succ_of_lt z0) (fun e => nd0 e.symm)).trans (((bN w6 (.cells #[.bool ng5,.slice a5_ n5_ c5_,.slice p5_ m5_ k5_] 47)).cell (p:=⟨w.heap.size,3,none⟩) z0).trans aw),(hg.cell_far ⟨w.heap.size,4,none⟩ (by rw [hsz];exact Nat.lt_succ_of_lt z0) (fun e => nd0 e.symm)).trans (((bN w6 (.cells #[.bool ng5,.slice a5_ n5_ c5_,.slice p5_ m5_ k5_] 47)).cell (p:=⟨w.heap.size,4,none⟩) z0).trans ay),(hg.cell_far ⟨w.heap.size+1,0,none⟩ (by rw [hsz];exact Nat.lt_succ_of_lt z1) (fun e => nd1 e.symm)).trans (((bN w6 (.cells #[.bool ng5,.slice a5_ n5_ c5_,.slice p5_ m5_ k5_] 47)).cell (p:=⟨w.heap.size+1,0,none⟩) z1).trans ak),(hg.cell_far ⟨w.heap.size+1,1,none⟩ (by rw [hsz];exact Nat.lt_succ_of_lt z1) (fun e => nd1 e.symm)).trans (((bN w6 (.cells #[.bool ng5,.slice a5_ n5_ c5_,.slice p5_ m5_ k5_] 47)).cell (p:=⟨w.heap.size+1,1,none⟩) z1).trans al),(hg.cell_far ⟨w.heap.size+1,2,none⟩ (by rw [hsz];exact Nat.lt_succ_of_lt z1) (fun e => nd1 e.symm)).trans (((bN w6 (.cells #[.bool ng5,.slice a5_ n5_ c5_,.slice p5_ m5_ k5_] 47)).cell (p:=⟨w.heap.size+1,2,none⟩) z1).trans au),(hg.cell_far ⟨w.heap.size+1+1,0,none⟩ (by rw [hsz];exact Nat.lt_succ_of_lt z2) (fun e => nd2 e.symm)).trans (((bN w6 (.cells #[.bool ng5,.slice a5_ n5_ c5_,.slice p5_ m5_ k5_] 47)).cell (p:=⟨w.heap.size+1+1,0,none⟩) z2).trans aH),(hg.cell_far ⟨w.heap.size+1+1,1,none⟩ (by rw [hsz];exact Nat.lt_succ_of_lt z2) (fun e => nd2 e.symm)).trans (((bN w6 (.cells #[.bool ng5,.slice a5_ n5_ c5_,.slice p5_ m5_ k5_] 47)).cell (p:=⟨w.heap.size+1+1,1,none⟩) z2).trans aI),(hg.cell_far ⟨jB,0,none⟩ (by rw [hsz];exact Nat.lt_succ_of_lt z4) (fun e => nd4 e.symm)).trans (((bN w6 (.cells #[.bool ng5,.slice a5_ n5_ c5_,.slice p5_ m5_ k5_] 47)).cell (p:=⟨jB,0,none⟩) z4).trans eI),(hg.cell_far ⟨jB,1,none⟩ (by rw [hsz];exact Nat.lt_succ_of_lt z4) (fun e => nd4 e.symm)).trans (((bN w6 (.cells #[.bool ng5,.slice a5_ n5_ c5_,.slice p5_ m5_ k5_] 47)).cell (p:=⟨jB,1,none⟩) z4).trans eK),(hg.cell_far ⟨jB,2,none⟩ (by rw [hsz];exact Nat.lt_succ_of_lt z4) (fun e => nd4 e.symm)).trans (((bN w6 (.cells #[.bool ng5,.slice a5_ n5_ c5_,.slice p5_ m5_ k5_] 47)).cell (p:=⟨jB,2,none⟩) z4).trans fB),(hg.cell_far ⟨nB,0,none⟩ (by rw [hsz];exact Nat.lt_succ_of_lt z5) (fun e => nd5 e.symm)).trans (((bN w6 (.cells #[.bool ng5,.slice a5_ n5_ c5_,.slice p5_ m5_ k5_] 47)).cell (p:=⟨nB,0,none⟩) z5).trans bk),(hg.cell_far ⟨nB,1,none⟩ (by rw [hsz];exact Nat.lt_succ_of_lt z5) (fun e => nd5 e.symm)).trans (((bN w6 (.cells #[.bool ng5,.slice a5_ n5_ c5_,.slice p5_ m5_ k5_] 47)).cell (p:=⟨nB,1,none⟩) z5).trans bl),(hg.cell_far ⟨b,off+m*7,none⟩ (by rw [hsz];exact Nat.lt_succ_of_lt z9) (fun e => nd9 e.symm)).trans (((bN w6 (.cells #[.bool ng5,.slice a5_ n5_ c5_,.slice p5_ m5_ k5_] 47)).cell (p:=⟨b,off+m*7,none⟩) z9).trans fD),(hg.cell_far ⟨b,off+m*7+1,none⟩ (by rw [hsz];exact Nat.lt_succ_of_lt z9) (fun e => nd9 e.symm)).trans (((bN w6 (.cells #[.bool ng5,.slice a5_ n5_ c5_,.slice p5_ m5_ k5_] 47)).cell (p:=⟨b,off+m*7+1,none⟩) z9).trans eX),(hg.cell_far ⟨b,off+m*7+2,none⟩ (by rw [hsz];exact Nat.lt_succ_of_lt z9) (fun e => nd9 e.symm)).trans (((bN w6 (.cells #[.bool ng5,.slice a5_ n5_ c5_,.slice p5_ m5_ k5_] 47)).cell (p:=⟨b,off+m*7+2,none⟩) z9).trans fE),(hg.cell_far ⟨b,off+m*7+3,none⟩ (by rw [hsz];exact Nat.lt_succ_of_lt z9) (fun e => nd9 e.symm)).trans (((bN w6 (.cells #[.bool ng5,.slice a5_ n5_ c5_,.slice p5_ m5_ k5_] 47)).cell (p:=⟨b,off+m*7+3,none⟩) z9).trans fF),(hg.cell_far ⟨b,off+m*7+4,none⟩ (by rw [hsz];exact Nat.lt_succ_of_lt z9) (fun e => nd9 e.symm)).trans (((bN w6 (.cells #[.bool ng5,.slice a5_ n5_ c5_,.slice p5_ m5_ k5_] 47)).cell (p:=⟨b,off+m*7+4,none⟩) z9).trans fG),(hg.cell_far ⟨b,off+m*7+5,none⟩ (by rw [hsz];exact Nat.lt_succ_of_lt z9) (fun e => nd9 e.symm)).trans (((bN w6 (.cells #[.bool ng5,.slice a5_ n5_ c5_,.slice p5_ m5_ k5_] 47)).cell (p:=⟨b,off+m*7+5,none⟩) z9).trans fH),(hg.cell_far ⟨b,off+m*7+6,none⟩ (by rw [hsz];exact Nat.lt_succ_of_lt z9) (fun e => nd9 e.symm)).trans (((bN w6 (.cells #[.bool ng5,.slice a5_ n5_ c5_,.slice p5_ m5_ k5_] 47)).cell (p:=⟨b,off+m*7+6,none⟩) z9).trans fI),(hg.cell_far ⟨B6,0,none⟩ (by rw [hsz];exact Nat.lt_succ_of_lt z6) (fun e => nd6 e.symm)).trans (((bN w6 (.cells #[.bool ng5,.slice a5_ n5_ c5_,.slice p5_ m5_ k5_] 47)).cell (p:=⟨B6,0,none⟩) z6).trans b6),(hg.cell_far ⟨B6,1,none⟩ (by rw [hsz];exact Nat.lt_succ_of_lt z6) (fun e => nd6 e.symm)).trans (((bN w6 (.cells #[.bool ng5,.slice a5_ n5_ c5_,.slice p5_ m5_ k5_] 47)).cell (p:=⟨B6,1,none⟩) z6).trans b7),(hg.cell_far ⟨B6,2,none⟩ (by rw [hsz];exact Nat.lt_succ_of_lt z6) (fun e => nd6 e.symm)).trans (((bN w6 (.cells #[.bool ng5,.slice a5_ n5_ c5_,.slice p5_ m5_ k5_] 47)).cell (p:=⟨B6,2,none⟩) z6).trans b8),(hg.frozen_far ⟨w.heap.size,0,none⟩ (by rw [hsz];exact Nat.lt_succ_of_lt z0) (fun e => nd0 e.symm)).trans (((bN w6 (.cells #[.bool ng5,.slice a5_ n5_ c5_,.slice p5_ m5_ k5_] 47)).frozen (p:=⟨w.heap.size,0,none⟩) z0).trans ag),(hg.frozen_far ⟨w.heap.size,1,none⟩ (by rw [hsz];exact Nat.lt_succ_of_lt z0) (fun e => nd0 e.symm)).trans (((bN w6 (.cells #[.bool ng5,.slice a5_ n5_ c5_,.slice p5_ m5_ k5_] 47)).frozen (p:=⟨w.heap.size,1,none⟩) z0).trans ah),(hg.frozen_far ⟨w.heap.size,2,none⟩ (by rw [hsz];exact Nat.lt_succ_of_lt z0) (fun e => nd0 e.symm)).trans (((bN w6 (.cells #[.bool ng5,.slice a5_ n5_ c5_,.slice p5_ m5_ k5_] 47)).frozen (p:=⟨w.heap.size,2,none⟩) z0).trans ai),(hg.frozen_far ⟨w.heap.size,3,none⟩ (by rw [hsz];exact Nat.lt_succ_of_lt z0) (fun e => nd0 e.symm)).trans (((bN w6 (.cells #[.bool ng5,.slice a5_ n5_ c5_,.slice p5_ m5_ k5_] 47)).frozen (p:=⟨w.heap.size,3,none⟩) z0).trans aB),(hg.frozen_far ⟨w.heap.size,4,none⟩ (by rw [hsz];exact Nat.lt_succ_of_lt z0) (fun e => nd0 e.symm)).trans (((bN w6 (.cells #[.bool ng5,.slice a5_ n5_ c5_,.slice p5_ m5_ k5_] 47)).frozen (p:=⟨w.heap.size,4,none⟩) z0).trans aC),(hg.frozen_far ⟨w.heap.size+1,0,none⟩ (by rw [hsz];exact Nat.lt_succ_of_lt z1) (fun e => nd1 e.symm)).trans (((bN w6 (.cells #[.bool ng5,.slice a5_ n5_ c5_,.slice p5_ m5_ k5_] 47)).frozen (p:=⟨w.heap.size+1,0,none⟩) z1).trans ap),(hg.frozen_far ⟨w.heap.size+1,1,none⟩ (by rw [hsz];exact Nat.lt_succ_of_lt z1) (fun e => nd1 e.symm)).trans (((bN w6 (.cells #[.bool ng5,.slice a5_ n5_ c5_,.slice p5_ m5_ k5_] 47)).frozen (p:=⟨w.heap.size+1,1,none⟩) z1).trans aq),(hg.frozen_far ⟨w.heap.size+1,2,none⟩ (by rw [hsz];exact Nat.lt_succ_of_lt z1) (fun e => nd1 e.symm)).trans (((bN w6 (.cells #[.bool ng5,.slice a5_ n5_ c5_,.slice p5_ m5_ k5_] 47)).frozen (p:=⟨w.heap.size+1,2,none⟩) z1).trans aA),(hg.frozen_far ⟨w.heap.size+1+1,0,none⟩ (by rw [hsz];exact Nat.lt_succ_of_lt z2) (fun e => nd2 e.symm)).trans (((bN w6 (.cells #[.bool ng5,.slice a5_ n5_ c5_,.slice p5_ m5_ k5_] 47)).frozen (p:=⟨w.heap.size+1+1,0,none⟩) z2).trans aK),(hg.frozen_far ⟨w.heap.size+1+1,1,none⟩ (by rw [hsz];exact Nat.lt_succ_of_lt z2) (fun e => nd2 e.symm)).trans (((bN w6 (.cells #[.bool ng5,.slice a5_ n5_ c5_,.slice p5_ m5_ k5_] 47)).frozen (p:=⟨w.heap.size+1+1,1,none⟩) z2).trans aL),(hg.frozen_far ⟨jB,0,none⟩ (by rw [hsz];exact Nat.lt_succ_of_lt z4) (fun e => nd4 e.symm)).trans (((bN w6 (.cells #[.bool ng5,.slice a5_ n5_ c5_,.slice p5_ m5_ k5_] 47)).frozen (p:=⟨jB,0,none⟩) z4).trans eL),(hg.frozen_far ⟨jB,1,none⟩ (by rw [hsz];exact Nat.lt_succ_of_lt z4) (fun e => nd4 e.symm)).trans (((bN w6 (.cells #[.bool ng5,.slice a5_ n5_ c5_,.slice p5_ m5_ k5_] 47)).frozen (p:=⟨jB,1,none⟩) z4).trans eN),(hg.frozen_far ⟨jB,2,none⟩ (by rw [hsz];exact Nat.lt_succ_of_lt z4) (fun e => nd4 e.symm)).trans (((bN w6 (.cells #[.bool ng5,.slice a5_ n5_ c5_,.slice p5_ m5_ k5_] 47)).frozen (p:=⟨jB,2,none⟩) z4).trans fC),(hg.frozen_far ⟨nB,0,none⟩ (by rw [hsz];exact Nat.lt_succ_of_lt z5) (fun e => nd5 e.symm)).trans (((bN w6 (.cells #[.bool ng5,.slice a5_ n5_ c5_,.slice p5_ m5_ k5_] 47)).frozen (p:=⟨nB,0,none⟩) z5).trans bo),(hg.frozen_far ⟨nB,1,none⟩ (by rw [hsz];exact Nat.lt_succ_of_lt z5) (fun e => nd5 e.symm)).trans (((bN w6 (.cells #[.bool ng5,.slice a5_ n5_ c5_,.slice p5_ m5_ k5_] 47)).frozen (p:=⟨nB,1,none⟩) z5).trans bq),(hg.frozen_far ⟨B6,0,none⟩ (by rw [hsz];exact Nat.lt_succ_of_lt z6) (fun e => nd6 e.symm)).trans (((bN w6 (.cells #[.bool ng5,.slice a5_ n5_ c5_,.slice p5_ m5_ k5_] 47)).frozen (p:=⟨B6,0,none⟩) z6).trans ce),(hg.frozen_far ⟨B6,1,none⟩ (by rw [hsz];exact Nat.lt_succ_of_lt z6) (fun e => nd6 e.symm)).trans (((bN w6 (.cells #[.bool ng5,.slice a5_ n5_ c5_,.slice p5_ m5_ k5_] 47)).frozen (p:=⟨B6,1,none⟩) z6).trans cf),(hg.frozen_far ⟨B6,2,none⟩ (by rw [hsz];exact Nat.lt_succ_of_lt z6) (fun e => nd6 e.symm)).trans (((bN w6 (.cells #[.bool ng5,.slice a5_ n5_ c5_,.slice p5_ m5_ k5_] 47)).frozen (p:=⟨B6,2,none⟩) z6).trans ci)⟩
      have hn7:nB+1<=(w6.alloc (.cells #[.bool ng5,.slice a5_ n5_ c5_,.slice p5_ m5_ k5_] 47)).heap.size:=by simp;omega
      clear nd0 nd1 nd2 nd4 nd5 nd9 nd6
      go_upto_region 22 with (at_builtin;refine wpList_append_lies _ rfl (.tmp 96) (.tmp 98) 29 rfl (nB+1) 47 i0' (.agg #[.bool false,.slice none 0 0,.slice none 0 0]) 3 56 Tryz.underlying29 hi0 hq0 hq1 hq2 (by rfl) (by decide) (.slice aD m cD) m xs9 rfl (zaN Hxs9.out (bN _ _)) ⟨w6.heap.size,0,none⟩ 1 1 _ rfl rfl zey zfM (by decide) hmL hmB hn7 _ rfl ?_;intro g4 cj4 w4 hown4 hgrow4 hat4 hlt4;clear ac ag ae ah af ai aw aB ay aC ak ap al aq au aA aH aK aI aL eI eL eK eN fB fC bk bo bl bq fD eX fE fF fG fH fI b6 ce b7 cf b8 ci;obtain ⟨ac,ae,af,aw,ay,ak,al,au,aH,aI,eI,eK,fB,bk,bl,fD,eX,fE,fF,fG,fH,fI,b6,b7,b8,ag,ah,ai,aB,aC,ap,aq,aA,aK,aL,eL,eN,fC,bo,bq,ce,cf,ci⟩:=HK4.out w4 hgrow4)
      have ne0:w.heap.size≠nB:=by omega
      have en0:nB≠w.heap.size:=by omega
      have ne1:w.heap.size+1≠nB:=by omega
      have en1:nB≠w.heap.size+1:=by omega
      have ne2:w.heap.size+1+1≠nB:=by omega
      have en2:nB≠w.heap.size+1+1:=by omega
      have ne4:jB≠nB:=by omega
      have en4:nB≠jB:=by omega
      have ne9:b≠nB:=by omega
      have en9:nB≠b:=by omega
      have ne6:B6≠nB:=by omega
      have en6:nB≠B6:=by omega
      obtain ⟨hp1,hp2,hp3,hp4,hp5⟩:=gR6.push HQL.out Hxs9.out hn6 hk6 f51 f52 hown4 hgrow4 hat4
      have HP1:=Lib.hid hp1
      have HP2:=Lib.hid hp2
      have HP3:=Lib.hid (And.intro hp3 hp4)
      have hHT:=HT.out
      have HT3:Hid (0<=(s.next (xs.map Rt.num) x).t/\(s.next (xs.map Rt.num) x).t<=((m+1:Nat):Int)/\(s.next (xs.map Rt.num) x).k=((m+1:Nat):Int)):=by
       show _/\_/\_
       rw [zaF.1,zaF.2]
       split <;> omega
      have HE3:Hid (zfn (xs.map Rt.num) (s.next (xs.map Rt.num) x) (all.drop (m+1))=o):=by have:=HE2.out;rw [if_neg (by rw [HZ0.out];decide)] at this;exact this
      have HF3:Hid (zbv 1000 (xs.map Rt.num) (s.next (xs.map Rt.num) x) (all.drop (m+1))):=HF2.out.2 HZ0.out
      have HQL3:Hid ((qs++[q]).length=m+1):=by show _=_;rw [List.length_append,HQL.out];rfl
      have HLI3:Hid (∀ r,zam all (qs++[q]) 0 r (m+1)=(s.next (xs.map Rt.num) x).R r):=fun r => by rw [HN2.out,HLI.out,<- next_R,Hq9.out]
      have Hto:=Lib.hid (zai Hok.out)
      clear hp1 hp2 hp3 hp4 hp5 hHT hown4 hgrow4 hat4 hlt4 hk6 f51 f52 gR6 hDlt hi0 hq0 hq1 hq2 hmB hmL hn7 hn6
      by_cases h10:x.op=10
      ·have t10:(x.op == 10)=true:=by simp;exact h10
       have t8:(x.op == 8)=false:=by simp;omega
       have H10:=Lib.hid h10
       obtain ⟨Tn,hTn⟩:=Int.eq_ofNat_of_zero_le Hto.out.1
       have hTk:Tn<k:=by
        have h1:=Hto.out.2
        unfold zK at h1
        rw [if_pos h10,HMM.out,hTn] at h1
        omega
       have HTn:=Lib.hid hTn
       rw [hTn] at eX
       have hTi:(Tn:Int)<(k:Int):=by omega
       obtain ⟨b0,a70,n70,c70,a71,n71,c71,o0⟩:=HP1.out.2.2.1.open3 hTk
       have nh1:h≠nB:=by omega
       have nh2:nB≠h:=by omega
       obtain ⟨o0_0,o0_1,o0_2,o0_3,o0_4,o0_5⟩:=o0
       clear h10 hTn Hto
       go_wp2_with fail
       go_region
       go_wp2_with fail
       go_roundw
       case rel => exact ⟨m+1,more L x,s.next (xs.map Rt.num) x,qs++[q],by omega,by go_num,(((HP1.out.count ((m:Int)+1)).tell hTk ⟨⟨(HP2.out.1.1.put bk (fun z e => by cases e) _),(HP2.out.1.2.1.put bk (fun z e => by cases e) _),HP2.out.1.2.2⟩,HP2.out.2⟩ HP3.out.1 HP3.out.2).drew.cast (by rw [next_J10 H10.out,HTn.out,Hq9.out]) (by rw [zaF.1,Hsk.out]) (by rw [zaF.2,if_neg (by rw [H10.out];decide)])),HQL3,HLI3,HQZ2,HA2,HE3,HS2,HF3,HT3⟩
       case measure => simp [intOf] <;> omega
      ·have t10:(x.op == 10)=false:=by simp;exact h10
       have H10:=Lib.hid h10
       clear h10
       by_cases h8:x.op=8
       ·have t8:(x.op == 8)=true:=by simp;exact h8
        have H8:=Lib.hid h8
        clear h8
        go_wp2_with fail
        go_roundw
        case rel => exact ⟨m+1,more L x,s.next (xs.map Rt.num) x,qs++[q],by omega,by go_num,(((HP1.out.count ((m:Int)+1)).times (tt+1)).cast (next_J H10.out) (by rw [zaF.1,Hsk.out]) (by rw [zaF.2,if_pos H8.out,Htt.out])),HQL3,HLI3,HQZ2,HA2,HE3,HS2,HF3,HT3⟩
        case measure => simp [intOf] <;> omega
       ·have t8:(x.op == 8)=false:=by simp;exact h8
        have H8:=Lib.hid h8
        clear h8
        go_wp2_with fail
        go_roundw
        case rel => exact ⟨m+1,more L x,s.next (xs.map Rt.num) x,qs++[q],by omega,by go_num,((HP1.out.count ((m:Int)+1)).cast (next_J H10.out) (by rw [zaF.1,Hsk.out]) (by rw [zaF.2,if_neg H8.out])),HQL3,HLI3,HQZ2,HA2,HE3,HS2,HF3,HT3⟩
        case measure => simp [intOf] <;> omega
     ·have t:(z == 0)=false:=by simp;exact hz0
      have t':(z != 0)=true:=by simp;exact hz0
      have Hz0:=Lib.hid hz0
      clear hz0
      have HE3:=HE2.out
      rw [Hz9.out,if_pos Hz0.out] at HE3
      have HE4:=Lib.hid HE3
      clear HE3
      have hgb:=gb
      go_upto_region 16 with fail
      go_cut [13,14] from 54 to 131 (fun s13 s14 wx => Below wr.heap.size wr wx/\s14=.int .i64 (z))
      case first =>
       go_region_held3 (fun W' => W'.cell? ⟨w.heap.size,0,none⟩=some (.int .i64 (n1:Int))/\W'.cell? ⟨w.heap.size,1,none⟩=some (.int .i64 rows)/\W'.cell? ⟨w.heap.size,2,none⟩=some (.int .i64 cols)/\W'.cell? ⟨w.heap.size,3,none⟩=some (.int .i64 (N:Int))/\W'.cell? ⟨w.heap.size,4,none⟩=some (.slice (some ⟨b,off,none⟩) n0 c0)/\W'.cell? ⟨w.heap.size+1,0,none⟩=some (.int .i64 0)/\W'.cell? ⟨w.heap.size+1,1,none⟩=some (.int .i64 0)/\W'.cell? ⟨w.heap.size+1,2,none⟩=some (.slice none 0 0)/\W'.cell? ⟨w.heap.size+1+1,0,none⟩=some (.int .i64 0)/\W'.cell? ⟨w.heap.size+1+1,1,none⟩=some (.int .i64 0)/\W'.cell? ⟨jB,0,none⟩=some (.int .i64 rows)/\W'.cell? ⟨jB,1,none⟩=some (.int .i64 cols)/\W'.cell? ⟨jB,2,none⟩=some (.slice (some ⟨h,0,none⟩) k cj)/\W'.cell? ⟨nB,0,none⟩=some (.int .i64 (m:Int))/\W'.cell? ⟨nB,1,none⟩=some (.int .i64 tt)/\W'.cell? ⟨b,off+m*7,none⟩=some (.int .i64 x.op)/\W'.cell? ⟨b,off+m*7+1,none⟩=some (.int .i64 x.to)/\W'.cell? ⟨b,off+m*7+2,none⟩=some (.int .i64 x.a)/\W'.cell? ⟨b,off+m*7+3,none⟩=some (.int .i64 x.b)/\W'.cell? ⟨b,off+m*7+4,none⟩=some (.bool x.q.ng)/\W'.cell? ⟨b,off+m*7+5,none⟩=some (.slice a5 n5 c5)/\W'.cell? ⟨b,off+m*7+6,none⟩=some (.slice a6 n6 c6)) (first|(with_reducible exact HXwr.out _ gb)|((with_reducible refine HXwr.out _ ?_);repeat' (first|(with_reducible exact gb)|(with_reducible refine Below.drew ?_)|(with_reducible refine bS ?_ (bN _ _))|(with_reducible refine bT ?_ ?_ _ _ _)|(with_reducible exact eu)|(with_reducible exact ew)|(with_reducible exact ex)|omega))) (first
        | (go_at_call 40;(refine zk w4 (by with_reducible first|exact Below.refl _ _|exact bN _ _) ?_);intro V5 kT eh;have kP:=eh.size;have kW:=gb.size;have g3:=g3.to eh;have g4:=g4.to eh;have gb:=bS gb eh;(try have bY:=bY.to eh);(try have ck:=ck.to eh);(try have c7:Tri V5 (w4.heap.size) (.bool false) (.slice none 0 0) (.slice none 0 0):=(by rw [kT];with_reducible first|exact zd _ (.bool false) (.slice none 0 0) (.slice none 0 0) _|exact (zd _ (.bool false) (.slice none 0 0) (.slice none 0 0) _).alloc _));have ex:wr.heap.size<=w4.heap.size:=(kW);(try have fm:=bY.lt);(try have fo:=ck.lt);(try have fp:=c7.lt);(with_reducible refine (does_err (zge ⟨(n1:Int),rows,cols,(N:Int),all⟩ L s.R x.op x.to x.a x.b x.q.ng _ _ x.q.n x.q.d n1 c1 a1 xs ng3 _ _ ng4 _ _ _ (HX1.out.to gb) Hok.out rfl (i1.to gb) H1.out hm1 Hxs.out g3 g4 HF2.out.1) Hz9.out Hz0.out).mono ?_);rintro e w5 ⟨rfl,cK⟩;have g3:=g3.to cK;have g4:=g4.to cK;have gb:=bS gb cK;have jo:=cK.size;(try have bY:=bY.to cK);(try have ck:=ck.to cK);(try have c7:=c7.to cK);(try have gk:=bY.lt);(try have gm:=ck.lt);(try have gn:=c7.lt);(try (have cT:=bY;obtain ⟨dM,dN,dO,dP,dQ,dR⟩:=cT));(try (have dt:=ck;obtain ⟨eQ,eR,eS,eT,eU,eV⟩:=dt));(try (have fJ:=c7;obtain ⟨ic,ie,ig,ii,ij,ik⟩:=fJ)))
        | (go_at_call 41;(refine zk w3 (by with_reducible first|exact Below.refl _ _|exact bN _ _) ?_);intro V4 fl eH;have kQ:=eH.size;have kX:=gb.size;have g3:=g3.to eH;have gb:=bS gb eH;(try have bY:=bY.to eH);(try have ck:Tri V4 (w3.heap.size) (.bool false) (.slice none 0 0) (.slice none 0 0):=(by rw [fl];with_reducible first|exact zd _ (.bool false) (.slice none 0 0) (.slice none 0 0) _|exact (zd _ (.bool false) (.slice none 0 0) (.slice none 0 0) _).alloc _));have ew:wr.heap.size<=w3.heap.size:=(kX);(try have gp:=bY.lt);(try have gq:=ck.lt);(with_reducible refine (zcO ⟨(n1:Int),rows,cols,(N:Int),all⟩ _ _ qs x.b _ (i0.to gb) (gu.to gb) HQZ.out Hql.out Hqm.out (s.R x.b) HLB.out).mono ?_);rintro e w4 ⟨ng4,a4_,n4_,c4_,p4_,m4_,k4_,rfl,g4,cG⟩;have g3:=g3.to cG;have gb:=bS gb cG;have lA:=cG.size;(try have bY:=bY.to cG);(try have ck:=ck.to cG);(try have gr:=bY.lt);(try have gs:=ck.lt);(try (have cT:=bY;obtain ⟨dM,dN,dO,dP,dQ,dR⟩:=cT));(try (have dt:=ck;obtain ⟨eQ,eR,eS,eT,eU,eV⟩:=dt)))
        | (go_at_call 41;(refine zk wr (by with_reducible first|exact (Below.refl _ _).drew|exact (bN _ _).drew) ?_);intro V3 kU fZ;have kR:=fZ.size;have kY:=gb.size;have gb:=bS gb fZ;(try have bY:Tri V3 (wr.heap.size) (.bool false) (.slice none 0 0) (.slice none 0 0):=(by rw [kU];with_reducible first|exact (zd _ (.bool false) (.slice none 0 0) (.slice none 0 0) _).drew|exact ((zd _ (.bool false) (.slice none 0 0) (.slice none 0 0) _).alloc _).drew));have eu:wr.heap.size<=wr.heap.size:=(kY);(try have gt:=bY.lt);(with_reducible refine (zcO ⟨(n1:Int),rows,cols,(N:Int),all⟩ _ _ qs x.a _ (i0.to gb) (gu.to gb) HQZ.out Hql.out Hqm.out (s.R x.a) HLA.out).mono ?_);rintro e w3 ⟨ng3,a3_,n3_,c3_,p3_,m3_,k3_,rfl,g3,bs⟩;have gb:=bS gb bs;have il:=bs.size;(try have bY:=bY.to bs);(try have gv:=bY.lt);(try (have cT:=bY;obtain ⟨dM,dN,dO,dP,dQ,dR⟩:=cT))))
       all_goals (go_wp2_with fail;go_meet)
       all_goals refine ⟨?_,rfl⟩
       all_goals first
        | (repeat' (first|(with_reducible exact gb)|(with_reducible refine Below.drew ?_)|(with_reducible refine bS ?_ (bN _ _))|(with_reducible refine bT ?_ ?_ _ _ _)|(with_reducible exact eu)|(with_reducible exact ew)|(with_reducible exact ex)|omega))
      case rest =>
      obtain ⟨hc0,rfl⟩:=hcut
      clear ac ag ae ah af ai aw aB ay aC ak ap al aq au aA aH aK aI aL eI eL eK eN fB fC bk bo bl bq fD eX fE fF fG fH fI
      have gb:=hc0
      obtain ⟨ac,ae,af,aw,ay,ak,al,au,aH,aI,eI,eK,fB,bk,bl,fD,eX,fE,fF,fG,fH,fI⟩:=HXwr.out _ gb
      obtain ⟨ag,ah,ai,aB,aC,ap,aq,aA,aK,aL,eL,eN,fC,bo,bq⟩:=HYwr.out _ gb
      obtain ⟨z0,z1,z2,z4,z5,z9⟩:=HZwr.out _ gb
      clear hgb
      obtain ⟨W5,fK⟩:∃ W,wc=W:=⟨_,rfl⟩
      subst fK
      replace i0:=i0.to gb
      replace i1:=i1.to gb
      replace gu:=gu.to gb
      replace zb:=bS zb gb
      have HXwc:=Lib.hid (show ∀ W',Below wc.heap.size wc W'->(W'.cell? ⟨w.heap.size,0,none⟩=some (.int .i64 (n1:Int))/\W'.cell? ⟨w.heap.size,1,none⟩=some (.int .i64 rows)/\W'.cell? ⟨w.heap.size,2,none⟩=some (.int .i64 cols)/\W'.cell? ⟨w.heap.size,3,none⟩=some (.int .i64 (N:Int))/\W'.cell? ⟨w.heap.size,4,none⟩=some (.slice (some ⟨b,off,none⟩) n0 c0)/\W'.cell? ⟨w.heap.size+1,0,none⟩=some (.int .i64 0)/\W'.cell? ⟨w.heap.size+1,1,none⟩=some (.int .i64 0)/\W'.cell? ⟨w.heap.size+1,2,none⟩=some (.slice none 0 0)/\W'.cell? ⟨w.heap.size+1+1,0,none⟩=some (.int .i64 0)/\W'.cell? ⟨w.heap.size+1+1,1,none⟩=some (.int .i64 0)/\W'.cell? ⟨jB,0,none⟩=some (.int .i64 rows)/\W'.cell? ⟨jB,1,none⟩=some (.int .i64 cols)/\W'.cell? ⟨jB,2,none⟩=some (.slice (some ⟨h,0,none⟩) k cj)/\W'.cell? ⟨nB,0,none⟩=some (.int .i64 (m:Int))/\W'.cell? ⟨nB,1,none⟩=some (.int .i64 tt)/\W'.cell? ⟨b,off+m*7,none⟩=some (.int .i64 x.op)/\W'.cell? ⟨b,off+m*7+1,none⟩=some (.int .i64 x.to)/\W'.cell? ⟨b,off+m*7+2,none⟩=some (.int .i64 x.a)/\W'.cell? ⟨b,off+m*7+3,none⟩=some (.int .i64 x.b)/\W'.cell? ⟨b,off+m*7+4,none⟩=some (.bool x.q.ng)/\W'.cell? ⟨b,off+m*7+5,none⟩=some (.slice a5 n5 c5)/\W'.cell? ⟨b,off+m*7+6,none⟩=some (.slice a6 n6 c6)) from fun W' hb =>
       by and_intros <;> exact kc hb (by first|assumption|assumption))
      have HYwc:=Lib.hid (show ∀ W',Below wc.heap.size wc W'->(W'.frozen? ⟨w.heap.size,0,none⟩=false/\W'.frozen? ⟨w.heap.size,1,none⟩=false/\W'.frozen? ⟨w.heap.size,2,none⟩=false/\W'.frozen? ⟨w.heap.size,3,none⟩=false/\W'.frozen? ⟨w.heap.size,4,none⟩=false/\W'.frozen? ⟨w.heap.size+1,0,none⟩=false/\W'.frozen? ⟨w.heap.size+1,1,none⟩=false/\W'.frozen? ⟨w.heap.size+1,2,none⟩=false/\W'.frozen? ⟨w.heap.size+1+1,0,none⟩=false/\W'.frozen? ⟨w.heap.size+1+1,1,none⟩=false/\W'.frozen? ⟨jB,0,none⟩=false/\W'.frozen? ⟨jB,1,none⟩=false/\W'.frozen? ⟨jB,2,none⟩=false/\W'.frozen? ⟨nB,0,none⟩=false/\W'.frozen? ⟨nB,1,none⟩=false) from fun W' hb =>
       by and_intros <;> refine (hb.frozen ?_).trans ?_ <;> first|assumption|assumption)
      have HZwc:=Lib.hid (show ∀ W',Below wc.heap.size wc W'->(w.heap.size<W'.heap.size/\w.heap.size+1<W'.heap.size/\w.heap.size+1+1<W'.heap.size/\jB<W'.heap.size/\nB<W'.heap.size/\b<W'.heap.size) from fun W' hb =>
       by and_intros <;> refine Nat.lt_of_lt_of_le ?_ hb.size <;> first|assumption)
      replace gb:=Below.refl wc.heap.size wc
      go_wp2_with fail
      go_wp2_with fail
      have HE5:=HE4.out
      subst HE5
      have rt:=zcT ⟨ak,al,au,ap,aq,aA⟩ ⟨aH,aI,aK,aL⟩ (show w.heap.size+1≠w.heap.size+1+1 by omega) (.int .i64 0) (.int .i64 0) (.slice none 0 0) (.int .i64 0) (.int .i64 0)
      exact bodyPost_ret (zaL Tryz.results20 _ _ _ _ _ _ _ _ _ rfl rfl rt.1 rt.2) rfl (.inl ⟨Hz0.out,⟨rfl,bD (bT (bS zb gb) (by omega) _ _ _) (by omega) _ _⟩⟩)
    ·obtain rfl:m=n0:=by omega
     have hmi:¬ ((m:Int)<(m:Int)):=by omega
     have ho:0=o:=by
      have:=HE.out
      rw [<- show all.length=m from H0.out,List.drop_length] at this
      exact this
     subst ho
     have hS:s=zcQ (xs.map Rt.num) St.zero all:=by
      have:=HS.out
      rw [<- show all.length=m from H0.out,List.drop_length] at this
      exact this
     have HREL:=Lib.hid REL
     have HSS:=Lib.hid hS
     obtain ⟨_,⟨e0,e1,e2,e3,e4,e5⟩,_,⟨d0,d1,d2,d3⟩,_⟩:=REL
     obtain ⟨sk,hsk⟩:∃ z,s.k=z:=⟨_,rfl⟩
     obtain ⟨st,hst⟩:∃ z,s.t=z:=⟨_,rfl⟩
     rw [hsk] at d0
     rw [hst] at d1
     have Hsk:=Lib.hid hsk
     have Hst:=Lib.hid hst
     clear hS hsk hst
     have HR9:=Lib.hid (show zdm w ⟨(n1:Int),rows,cols,(N:Int),all⟩ (xs.map Rt.num) 0 (.returned (.tuple #[.agg #[.int .i64 rows,.int .i64 cols,.slice (some ⟨h,0,none⟩) k cj],.agg #[.int .i64 sk,.int .i64 st],.int .i64 0]))
       (zeK (zbP wr (w.heap.size+1) (.int .i64 rows) (.int .i64 cols) (.slice (some ⟨h,0,none⟩) k cj)) (w.heap.size+1+1) (.int .i64 sk) (.int .i64 st)).drew from by
      refine .inr ⟨rfl,_,_,_,by rw [<- Hsk.out,<- Hst.out,HSS.out],?_,(fun b o e => by have hrl:=HREL.out.2.2.2.2.2;have hz:=zb.size;injection e with e;injection e with e1 e2;omega),(bD (bT (bS zb gbw) (by omega) _ _ _) (by omega) _ _).drew⟩
      have hrl:=HREL.out.2.2.2.2.2
      have r1:=HREL.out.2.2.1.row3
      have r2:=(((r1.setP (B:=w.heap.size+1) (by omega) ak (fun z e => by cases e) (.int .i64 rows)).setP (B:=w.heap.size+1) (by omega) (cP al (.inr (by decide)) _) (fun z e => by cases e) (.int .i64 cols)).setP (B:=w.heap.size+1) (by omega) (cP (cP au (.inr (by decide)) _) (.inr (by decide)) _) (fun z e => by cases e) (.slice (some ⟨h,0,none⟩) k cj))
      have r3:=((r2.setP (B:=w.heap.size+1+1) (by omega) (cP (cP (cP aH (.inl (by omega)) _) (.inl (by omega)) _) (.inl (by omega)) _) (fun z e => by cases e) (.int .i64 sk)).setP (B:=w.heap.size+1+1) (by omega) (cP (cP (cP (cP aI (.inl (by omega)) _) (.inl (by omega)) _) (.inl (by omega)) _) (.inr (by decide)) _) (fun z e => by cases e) (.int .i64 st))
      have r4:=zfT (r3.to (Below.refl _ _).drew) HMM.out Hcjm.out.1 Hcjm.out.2
      have e9:(zcQ (xs.map Rt.num) St.zero all).J=s.J:=by rw [<- HSS.out]
      show RdR _ _ ((zdK rows cols (zcQ (xs.map Rt.num) St.zero all).J).map zB)
      rw [e9]
      exact r4)
     have rt:=zcT ⟨ak,al,au,ap,aq,aA⟩ ⟨aH,aI,aK,aL⟩ (show w.heap.size+1≠w.heap.size+1+1 by omega) (.int .i64 rows) (.int .i64 cols) (.slice (some ⟨h,0,none⟩) k cj) (.int .i64 sk) (.int .i64 st)
     have nj1:jB≠w.heap.size+1:=by omega
     have nj2:jB≠w.heap.size+1+1:=by omega
     have nn1:nB≠w.heap.size+1:=by omega
     have nn2:nB≠w.heap.size+1+1:=by omega
     go_wp2_with fail
     go_region
     go_wp2_with fail
     exact bodyPost_ret (zaL Tryz.results20 _ _ _ _ _ _ _ _ _ rfl rfl (rt.1.drew) (rt.2.drew)) rfl HR9.out

end Go.Proofs.YtkjcdnlpjldhaaaGreat


namespace Go.Proofs.YtkjcdnlpjldhaaaGreat
open Go.RowKit Tw
attribute [local go_sem ↓] Go.wp_at_zero Go.wp_at_succ

theorem zjZ (c:Cd) (v u:Value) (xs:List Rt) (w:World) (hc:IsC w c v) (hs:zW 1000 c.all) (hx:RdR w u xs)
  (hf:zF c=true->(xs.length:Int)=c.ins->(∀ x ∈ xs,x.n.length<=1000/\x.d.length<=1000)/\zbv 1000 (xs.map Rt.num) St.zero c.all) (o:Int) (ho:runO c (xs.map Rt.num) xs.length=o) :
  Calls Tryz.prog 20 #[aggC c v,u] w (zeP w c (xs.map Rt.num) o):=by
 unfold runO at ho
 cases h0:zF c with
 | false =>
  rw [if_pos h0] at ho
  subst ho
  exact (zgh c v u xs w hc hs hx h0).mono fun e w' h => h.runOf (by decide)
 | true =>
  rw [if_neg (by rw [h0];decide)] at ho
  by_cases hl:(xs.length:Int)=c.ins
  ·rw [if_neg (fun k => k hl)] at ho
   have:=hf h0 hl
   exact (zlh c v u xs w hc hs hx this.1 h0 hl this.2 o ho).mono fun e w' h => h.runOf
  ·rw [if_pos hl] at ho
   subst ho
   exact (zfj c v u xs w hc hs hx h0 hl).mono fun e w' h => h.runOf (by decide)

end Go.Proofs.YtkjcdnlpjldhaaaGreat

