/-
  The walk of VmRuns.
-/
import Derived.Test.YtkjcdnlpjldhaaaGreatG28
import Derived.Test.YtkjcdnlpjldhaaaGreatG22
import Derived.Test.YtkjcdnlpjldhaaaGreatG29
import Derived.Test.YtkjcdnlpjldhaaaGreatG10
import Derived.Deep.RegionHeld3
set_option linter.unusedVariables false
set_option linter.unusedSimpArgs false
set_option maxRecDepth 100000
set_option maxHeartbeats 400000000
namespace Go.Proofs.YtkjcdnlpjldhaaaGreat
open Go.RowKit Tw
attribute [local go_sem ↓] Go.wp_at_zero Go.wp_at_succ

theorem RdR.small {w:World} {v:Value} {l:List Rt} (h:RdR w v l):∀ x ∈ l,zx x.n/\zx x.d:=by
 intro x hx
 obtain ⟨i,hi,rfl⟩:=List.mem_iff_getElem.1 hx
 obtain ⟨a,cap,hv,h1,h2,h3⟩:=h
 obtain ⟨b,off,e,vn,vd,_,_,_,k1,k2⟩:=h3 i hi
 exact ⟨k1.1,k2.1⟩

theorem RdC.small {w:World} {v:Value} {l:List Ins} (h:RdC w v l):∀ x ∈ l,zx x.q.n/\zx x.q.d:=by
 intro x hx
 obtain ⟨i,hi,rfl⟩:=List.mem_iff_getElem.1 hx
 obtain ⟨a,cap,hv,h1,h2,h3⟩:=h
 obtain ⟨b,off,e,_,_,_,_,⟨vn,vd,_,_,_,k1,k2⟩,_⟩:=h3 i hi
 exact ⟨k1.1,k2.1⟩

theorem ziA {w:World} {c:Cd} {v u:Value} {xs:List Rt} (hc:IsC w c v) (hx:RdR w u xs) (h6:zW 6 c.all) (h2:∀ x ∈ xs,x.n.length<=6/\x.d.length<=6) (hh:zcv c<=20) :
  zF c=true->(xs.length:Int)=c.ins->(∀ x ∈ xs,x.n.length<=1000/\x.d.length<=1000)/\zbv 1000 (xs.map Rt.num) St.zero c.all:=by
 intro hr _
 refine ⟨fun x hx => by have:=h2 x hx;omega,zgQ (fun q hq => ?_) (fun x hxx => ?_) hr hh⟩
 ·obtain ⟨x,hx1,rfl⟩:=List.mem_map.1 hq
  have s:=hx.small x hx1
  have:=h2 x hx1
  exact zfJ (by decide) (by omega) (by omega) s.1 s.2
 ·have s:=hc.1.small x hxx
  have:=h6 x hxx
  exact zfJ (by decide) (by omega) (by omega) s.1 s.2

theorem jAll_len {c:Cd} {p:List Rat} {o:Int} (hr:zF c=true):((jAll c p o).map zB).length<=100000:=by
 unfold jAll
 split
 ·unfold zdK
  rw [List.length_map,List.length_map,List.length_range]
  have h0:zaT c=true:=by unfold zF at hr;simp only [Bool.and_eq_true] at hr;exact hr.1
  unfold zaT at h0
  simp only [decide_eq_true_eq] at h0
  have:=zU (show 1<=c.rows/\c.rows<=40 by omega) (show 1<=c.cols/\c.cols<=40 by omega)
  omega
 ·exact Nat.zero_le _

theorem zlo {c:Cd} {p:List Rat} {o:Int} {n:Nat} (ho:runO c p n=o):((jAll c p o).map zB).length<=100000:=by
 cases h:zF c with
 | true => exact jAll_len h
 | false =>
  unfold runO at ho
  rw [if_pos h] at ho
  subst ho
  exact Nat.zero_le _

theorem walk_VmRuns (c:Cd) (v:Value) (u:Value) (xs:List Rt) (w:World) (hc:IsC w c v) (hx:RdR w u xs) :
  Calls Tryz.prog 4 #[aggC c v,u] w (Holds w):=by
 obtain ⟨a0,n0,c0,rfl,H0,hm0⟩:=hc.1.open
 obtain ⟨a1,n1,c1,rfl,H1,hm1⟩:=hx.open
 cases hf:fewC 16 c
 case false =>
  have Hf:=Lib.hid hf
  clear hf
  go_enter Tryz.func4,Tryz.ntmps4
  go_wp2_with fail
  obtain ⟨W0,az⟩:∃ W0,w.alloc (.cells #[.int .i64 c.ins,.int .i64 c.rows,.int .i64 c.cols,.int .i64 c.regs,.slice a0 n0 c0] 24)=W0:=⟨_,rfl⟩
  have am:=Lib.hid (show ∀ W',Below W0.heap.size W0 W'->(Bx5 W' w.heap.size (.int .i64 c.ins) (.int .i64 c.rows) (.int .i64 c.cols) (.int .i64 c.regs) (.slice a0 n0 c0)) from fun W' hb => by
    apply bx5 hb
    all_goals first|assumption|(rw [<- az];simp [go_sem]))
  have zb:Below w.heap.size w W0:=by rw [<- az];exact bN _ _
  rw [az]
  clear az
  have i0:=hc.to zb
  have i1:=hx.to zb
  have gb:Below W0.heap.size W0 W0:=Below.refl _ _
  obtain ⟨z0,ac,ae,af,aw,ay,ag,ah,ai,aB,aC⟩:=am.out _ gb
  go_wp2_with fail
  refine (zdM _).mono ?_
  clear ac ag ae ah af ai aw aB ay aC
  rintro e w1 ⟨rfl,bd⟩
  replace gb:=bS gb bd
  obtain ⟨z0,ac,ae,af,aw,ay,ag,ah,ai,aB,aC⟩:=am.out _ gb
  go_wp2_with fail
  refine (zcD c _ 16 _ (i0.to gb) false Hf.out (by decide)).mono ?_
  clear ac ag ae ah af ai aw aB ay aC
  rintro e w2 ⟨rfl,aN⟩
  replace gb:=bS gb aN
  obtain ⟨z0,ac,ae,af,aw,ay,ag,ah,ai,aB,aC⟩:=am.out _ gb
  go_wp2_with fail
  go_ret
  exact ⟨rfl,bS zb gb⟩
 case true =>
  have H6:=Lib.hid (zgI hf).1
  have Hs:=Lib.hid ((zgI hf).1.up (show 6<=1000 by decide))
  have Hf:=Lib.hid hf
  clear hf
  cases hg:zdz 2 xs
  case false =>
   have Hg:=Lib.hid hg
   clear hg
   go_enter Tryz.func4,Tryz.ntmps4
   go_wp2_with fail
   obtain ⟨W0,az⟩:∃ W0,w.alloc (.cells #[.int .i64 c.ins,.int .i64 c.rows,.int .i64 c.cols,.int .i64 c.regs,.slice a0 n0 c0] 24)=W0:=⟨_,rfl⟩
   have am:=Lib.hid (show ∀ W',Below W0.heap.size W0 W'->(Bx5 W' w.heap.size (.int .i64 c.ins) (.int .i64 c.rows) (.int .i64 c.cols) (.int .i64 c.regs) (.slice a0 n0 c0)) from fun W' hb => by
     apply bx5 hb
     all_goals first|assumption|(rw [<- az];simp [go_sem]))
   have zb:Below w.heap.size w W0:=by rw [<- az];exact bN _ _
   rw [az]
   clear az
   have i0:=hc.to zb
   have i1:=hx.to zb
   have gb:Below W0.heap.size W0 W0:=Below.refl _ _
   obtain ⟨z0,ac,ae,af,aw,ay,ag,ah,ai,aB,aC⟩:=am.out _ gb
   go_wp2_with fail
   refine (zdM _).mono ?_
   clear ac ag ae ah af ai aw aB ay aC
   rintro e w1 ⟨rfl,bd⟩
   replace gb:=bS gb bd
   obtain ⟨z0,ac,ae,af,aw,ay,ag,ah,ai,aB,aC⟩:=am.out _ gb
   go_wp2_with fail
   refine (zcD c _ 16 _ (i0.to gb) true Hf.out (by decide)).mono ?_
   clear ac ag ae ah af ai aw aB ay aC
   rintro e w2 ⟨rfl,aN⟩
   replace gb:=bS gb aN
   obtain ⟨z0,ac,ae,af,aw,ay,ag,ah,ai,aB,aC⟩:=am.out _ gb
   go_wp2_with fail
   refine (zbx _ xs 2 _ (i1.to gb) false Hg.out).mono ?_
   rintro e w3 ⟨rfl,rfl⟩
   go_wp2_with fail
   go_ret
   exact ⟨rfl,bS zb gb⟩
  case true =>
   have H2:=Lib.hid (show ∀ x ∈ xs,x.n.length<=6/\x.d.length<=6 from fun x hx => by have:=of_decide_eq_true hg x hx;omega)
   have Hg:=Lib.hid hg
   clear hg
   by_cases hl:(41:Int)<(n1:Int)
   ·have tl:decide ((41:Int)<(n1:Int))=true:=decide_eq_true hl
    go_enter Tryz.func4,Tryz.ntmps4
    go_wp2_with fail
    obtain ⟨W0,az⟩:∃ W0,w.alloc (.cells #[.int .i64 c.ins,.int .i64 c.rows,.int .i64 c.cols,.int .i64 c.regs,.slice a0 n0 c0] 24)=W0:=⟨_,rfl⟩
    have am:=Lib.hid (show ∀ W',Below W0.heap.size W0 W'->(Bx5 W' w.heap.size (.int .i64 c.ins) (.int .i64 c.rows) (.int .i64 c.cols) (.int .i64 c.regs) (.slice a0 n0 c0)) from fun W' hb => by
      apply bx5 hb
      all_goals first|assumption|(rw [<- az];simp [go_sem]))
    have zb:Below w.heap.size w W0:=by rw [<- az];exact bN _ _
    rw [az]
    clear az
    have i0:=hc.to zb
    have i1:=hx.to zb
    have gb:Below W0.heap.size W0 W0:=Below.refl _ _
    obtain ⟨z0,ac,ae,af,aw,ay,ag,ah,ai,aB,aC⟩:=am.out _ gb
    go_wp2_with fail
    refine (zdM _).mono ?_
    clear ac ag ae ah af ai aw aB ay aC
    rintro e w1 ⟨rfl,bd⟩
    replace gb:=bS gb bd
    obtain ⟨z0,ac,ae,af,aw,ay,ag,ah,ai,aB,aC⟩:=am.out _ gb
    go_wp2_with fail
    refine (zcD c _ 16 _ (i0.to gb) true Hf.out (by decide)).mono ?_
    clear ac ag ae ah af ai aw aB ay aC
    rintro e w2 ⟨rfl,aN⟩
    replace gb:=bS gb aN
    obtain ⟨z0,ac,ae,af,aw,ay,ag,ah,ai,aB,aC⟩:=am.out _ gb
    go_wp2_with fail
    refine (zbx _ xs 2 _ (i1.to gb) true Hg.out).mono ?_
    rintro e w3 ⟨rfl,rfl⟩
    go_wp2_with fail
    go_ret
    exact ⟨rfl,bS zb gb⟩
   ·have tl:decide ((41:Int)<(n1:Int))=false:=decide_eq_false hl
    obtain ⟨g,hg⟩:∃ g,zcv c=g:=⟨_,rfl⟩
    have Hv:=Lib.hid hg
    by_cases h20:20<g
    ·have tg:decide (20<g)=true:=decide_eq_true h20
     clear hg
     go_enter Tryz.func4,Tryz.ntmps4
     go_wp2_with fail
     obtain ⟨W0,az⟩:∃ W0,w.alloc (.cells #[.int .i64 c.ins,.int .i64 c.rows,.int .i64 c.cols,.int .i64 c.regs,.slice a0 n0 c0] 24)=W0:=⟨_,rfl⟩
     have am:=Lib.hid (show ∀ W',Below W0.heap.size W0 W'->(Bx5 W' w.heap.size (.int .i64 c.ins) (.int .i64 c.rows) (.int .i64 c.cols) (.int .i64 c.regs) (.slice a0 n0 c0)) from fun W' hb => by
       apply bx5 hb
       all_goals first|assumption|(rw [<- az];simp [go_sem]))
     have zb:Below w.heap.size w W0:=by rw [<- az];exact bN _ _
     rw [az]
     clear az
     have i0:=hc.to zb
     have i1:=hx.to zb
     have gb:Below W0.heap.size W0 W0:=Below.refl _ _
     obtain ⟨z0,ac,ae,af,aw,ay,ag,ah,ai,aB,aC⟩:=am.out _ gb
     go_wp2_with fail
     refine (zdM _).mono ?_
     clear ac ag ae ah af ai aw aB ay aC
     rintro e w1 ⟨rfl,bd⟩
     replace gb:=bS gb bd
     obtain ⟨z0,ac,ae,af,aw,ay,ag,ah,ai,aB,aC⟩:=am.out _ gb
     go_wp2_with fail
     refine (zcD c _ 16 _ (i0.to gb) true Hf.out (by decide)).mono ?_
     clear ac ag ae ah af ai aw aB ay aC
     rintro e w2 ⟨rfl,aN⟩
     replace gb:=bS gb aN
     obtain ⟨z0,ac,ae,af,aw,ay,ag,ah,ai,aB,aC⟩:=am.out _ gb
     go_wp2_with fail
     refine (zbx _ xs 2 _ (i1.to gb) true Hg.out).mono ?_
     rintro e w3 ⟨rfl,rfl⟩
     go_wp2_with fail
     refine (zeU c _ _ (i0.to gb) Hs.out g Hv.out).mono ?_
     clear ac ag ae ah af ai aw aB ay aC
     rintro e w4 ⟨rfl,cG⟩
     replace gb:=bS gb cG
     obtain ⟨z0,ac,ae,af,aw,ay,ag,ah,ai,aB,aC⟩:=am.out _ gb
     go_wp2_with fail
     go_ret
     exact ⟨rfl,bS zb gb⟩
    ·have tg:decide (20<g)=false:=decide_eq_false h20
     have H20:=Lib.hid (show zcv c<=20 by omega)
     clear hg
     obtain ⟨o,ho⟩:∃ o,runO c (xs.map Rt.num) xs.length=o:=⟨_,rfl⟩
     have Ho:=Lib.hid ho
     clear ho
     obtain ⟨rw',hrw⟩:∃ z,jRows c o=z:=⟨_,rfl⟩
     obtain ⟨cl',hcl⟩:∃ z,jCols c o=z:=⟨_,rfl⟩
     obtain ⟨k',hk'⟩:∃ z,jK c (xs.map Rt.num) o=z:=⟨_,rfl⟩
     obtain ⟨t',ht'⟩:∃ z,jT c (xs.map Rt.num) o=z:=⟨_,rfl⟩
     obtain ⟨qs',hqs⟩:∃ z,jAll c (xs.map Rt.num) o=z:=⟨_,rfl⟩
     have Hlen:=Lib.hid (zlo Ho.out)
     rw [hqs] at Hlen
     have HR:Hid (∀ (F:Nat) (ar:Array Value) (W:World),Calls Tryz.prog F ar W (zeP W c (xs.map Rt.num) o)->Calls Tryz.prog F ar W (RunJ W rw' cl' qs' k' t' o)):=fun F ar W h => by unfold zeP at h;rw [hrw,hcl,hk',ht',hqs] at h;exact h
     clear hrw hcl hk' ht' hqs
     go_enter Tryz.func4,Tryz.ntmps4
     go_wp2_with fail
     obtain ⟨W0,az⟩:∃ W0,w.alloc (.cells #[.int .i64 c.ins,.int .i64 c.rows,.int .i64 c.cols,.int .i64 c.regs,.slice a0 n0 c0] 24)=W0:=⟨_,rfl⟩
     have am:=Lib.hid (show ∀ W',Below W0.heap.size W0 W'->(Bx5 W' w.heap.size (.int .i64 c.ins) (.int .i64 c.rows) (.int .i64 c.cols) (.int .i64 c.regs) (.slice a0 n0 c0)) from fun W' hb => by
       apply bx5 hb
       all_goals first|assumption|(rw [<- az];simp [go_sem]))
     have zb:Below w.heap.size w W0:=by rw [<- az];exact bN _ _
     rw [az]
     clear az
     have i0:=hc.to zb
     have i1:=hx.to zb
     have gb:Below W0.heap.size W0 W0:=Below.refl _ _
     obtain ⟨z0,ac,ae,af,aw,ay,ag,ah,ai,aB,aC⟩:=am.out _ gb
     go_wp2_with fail
     refine (zdM _).mono ?_
     clear ac ag ae ah af ai aw aB ay aC
     rintro e w1 ⟨rfl,bd⟩
     replace gb:=bS gb bd
     obtain ⟨z0,ac,ae,af,aw,ay,ag,ah,ai,aB,aC⟩:=am.out _ gb
     go_wp2_with fail
     refine (zcD c _ 16 _ (i0.to gb) true Hf.out (by decide)).mono ?_
     clear ac ag ae ah af ai aw aB ay aC
     rintro e w2 ⟨rfl,aN⟩
     replace gb:=bS gb aN
     obtain ⟨z0,ac,ae,af,aw,ay,ag,ah,ai,aB,aC⟩:=am.out _ gb
     go_wp2_with fail
     refine (zbx _ xs 2 _ (i1.to gb) true Hg.out).mono ?_
     rintro e w3 ⟨rfl,rfl⟩
     go_wp2_with fail
     refine (zeU c _ _ (i0.to gb) Hs.out g Hv.out).mono ?_
     clear ac ag ae ah af ai aw aB ay aC
     rintro e w4 ⟨rfl,cG⟩
     replace gb:=bS gb cG
     obtain ⟨z0,ac,ae,af,aw,ay,ag,ah,ai,aB,aC⟩:=am.out _ gb
     go_wp2_with fail
     refine (HR.out _ _ _ (zkz c _ _ xs _ (i0.to gb) Hs.out (i1.to gb) (ziA (i0.to gb) (i1.to gb) H6.out H2.out H20.out) o Ho.out)).mono ?_
     clear ac ag ae ah af ai aw aB ay aC
     rintro e w5 ⟨a5_,n5_,c5_,rfl,g5,hlo5,cK⟩
     replace gb:=bS gb cK
     obtain ⟨z0,ac,ae,af,aw,ay,ag,ah,ai,aB,aC⟩:=am.out _ gb
     go_wp2_with fail
     obtain ⟨W5,fK⟩:∃ W5,(w5.alloc (.cells #[.int .i64 rw',.int .i64 cl',.slice a5_ n5_ c5_] 32)).alloc (.cells #[.int .i64 k',.int .i64 t'] 34)=W5:=⟨_,rfl⟩
     have hb_W5:Below w5.heap.size w5 W5:=by rw [<- fK];exact bS (bN _ _) (bN _ _)
     clear ac ag ae ah af ai aw aB ay aC
     replace g5:=g5.to hb_W5
     replace gb:=bS gb hb_W5
     obtain ⟨z0,ac,ae,af,aw,ay,ag,ah,ai,aB,aC⟩:=am.out _ gb
     have ak:W5.cell? ⟨w5.heap.size,0,none⟩=some (.int .i64 rw'):=by rw [<- fK];simp [go_sem]
     have ap:W5.frozen? ⟨w5.heap.size,0,none⟩=false:=by rw [<- fK];simp [go_sem]
     have al:W5.cell? ⟨w5.heap.size,1,none⟩=some (.int .i64 cl'):=by rw [<- fK];simp [go_sem]
     have aq:W5.frozen? ⟨w5.heap.size,1,none⟩=false:=by rw [<- fK];simp [go_sem]
     have au:W5.cell? ⟨w5.heap.size,2,none⟩=some (.slice a5_ n5_ c5_):=by rw [<- fK];simp [go_sem]
     have aA:W5.frozen? ⟨w5.heap.size,2,none⟩=false:=by rw [<- fK];simp [go_sem]
     have z1:w5.heap.size<W5.heap.size:=by rw [<- fK];simp <;> omega
     have aH:W5.cell? ⟨w5.heap.size+1,0,none⟩=some (.int .i64 k'):=by rw [<- fK];simp [go_sem]
     have aK:W5.frozen? ⟨w5.heap.size+1,0,none⟩=false:=by rw [<- fK];simp [go_sem]
     have aI:W5.cell? ⟨w5.heap.size+1,1,none⟩=some (.int .i64 t'):=by rw [<- fK];simp [go_sem]
     have aL:W5.frozen? ⟨w5.heap.size+1,1,none⟩=false:=by rw [<- fK];simp [go_sem]
     have z2:w5.heap.size+1<W5.heap.size:=by rw [<- fK];simp <;> omega
     rw [fK]
     clear fK
     replace i0:=i0.to gb
     replace i1:=i1.to gb
     replace zb:=bS zb gb
     have kS:=Lib.hid (show ∀ W',Below W5.heap.size W5 W'->(Bx5 W' w.heap.size (.int .i64 c.ins) (.int .i64 c.rows) (.int .i64 c.cols) (.int .i64 c.regs) (.slice a0 n0 c0)/\Bx3 W' w5.heap.size (.int .i64 rw') (.int .i64 cl') (.slice a5_ n5_ c5_)/\Bx2 W' (w5.heap.size+1) (.int .i64 k') (.int .i64 t')) from fun W' hb => by
       refine ⟨bx5 hb ?_ ?_ ?_ ?_ ?_ ?_ ?_ ?_ ?_ ?_,bx3 hb ?_ ?_ ?_ ?_ ?_ ?_,bx2 hb ?_ ?_ ?_ ?_⟩
       all_goals first|assumption|assumption)
     replace gb:=Below.refl W5.heap.size W5
     refine (HR.out _ _ _ (zjZ c _ _ xs _ (i0.to gb) Hs.out (i1.to gb) (ziA (i0.to gb) (i1.to gb) H6.out H2.out H20.out) o Ho.out)).mono ?_
     clear ac ag ae ah af ai aw aB ay aC ak ap al aq au aA aH aK aI aL
     rintro e w6 ⟨a6_,n6_,c6_,rfl,g6,hlo6,eW⟩
     replace gb:=bS gb eW
     obtain ⟨⟨z0,ac,ae,af,aw,ay,ag,ah,ai,aB,aC⟩,⟨z1,ak,al,au,ap,aq,aA⟩,⟨z2,aH,aI,aK,aL⟩⟩:=kS.out _ gb
     go_wp2_with fail
     obtain ⟨W6,f8⟩:∃ W6,(w6.alloc (.cells #[.int .i64 rw',.int .i64 cl',.slice a6_ n6_ c6_] 32)).alloc (.cells #[.int .i64 k',.int .i64 t'] 34)=W6:=⟨_,rfl⟩
     have hb_W6:Below w6.heap.size w6 W6:=by rw [<- f8];exact bS (bN _ _) (bN _ _)
     clear ac ag ae ah af ai aw aB ay aC ak ap al aq au aA aH aK aI aL
     replace g6:=g6.to hb_W6
     replace gb:=bS gb hb_W6
     obtain ⟨⟨z0,ac,ae,af,aw,ay,ag,ah,ai,aB,aC⟩,⟨z1,ak,al,au,ap,aq,aA⟩,⟨z2,aH,aI,aK,aL⟩⟩:=kS.out _ gb
     have bt:W6.cell? ⟨w6.heap.size,0,none⟩=some (.int .i64 rw'):=by rw [<- f8];simp [go_sem]
     have bx:W6.frozen? ⟨w6.heap.size,0,none⟩=false:=by rw [<- f8];simp [go_sem]
     have bu:W6.cell? ⟨w6.heap.size,1,none⟩=some (.int .i64 cl'):=by rw [<- f8];simp [go_sem]
     have bz:W6.frozen? ⟨w6.heap.size,1,none⟩=false:=by rw [<- f8];simp [go_sem]
     have bA:W6.cell? ⟨w6.heap.size,2,none⟩=some (.slice a6_ n6_ c6_):=by rw [<- f8];simp [go_sem]
     have bB:W6.frozen? ⟨w6.heap.size,2,none⟩=false:=by rw [<- f8];simp [go_sem]
     have z3:w6.heap.size<W6.heap.size:=by rw [<- f8];simp <;> omega
     have eI:W6.cell? ⟨w6.heap.size+1,0,none⟩=some (.int .i64 k'):=by rw [<- f8];simp [go_sem]
     have eL:W6.frozen? ⟨w6.heap.size+1,0,none⟩=false:=by rw [<- f8];simp [go_sem]
     have eK:W6.cell? ⟨w6.heap.size+1,1,none⟩=some (.int .i64 t'):=by rw [<- f8];simp [go_sem]
     have eN:W6.frozen? ⟨w6.heap.size+1,1,none⟩=false:=by rw [<- f8];simp [go_sem]
     have z4:w6.heap.size+1<W6.heap.size:=by rw [<- f8];simp <;> omega
     rw [f8]
     clear f8
     replace i0:=i0.to gb
     replace i1:=i1.to gb
     replace g5:=g5.to gb
     replace zb:=bS zb gb
     have lz:=Lib.hid (show ∀ W',Below W6.heap.size W6 W'->(Bx5 W' w.heap.size (.int .i64 c.ins) (.int .i64 c.rows) (.int .i64 c.cols) (.int .i64 c.regs) (.slice a0 n0 c0)/\Bx3 W' w5.heap.size (.int .i64 rw') (.int .i64 cl') (.slice a5_ n5_ c5_)/\Bx2 W' (w5.heap.size+1) (.int .i64 k') (.int .i64 t')/\Bx3 W' w6.heap.size (.int .i64 rw') (.int .i64 cl') (.slice a6_ n6_ c6_)/\Bx2 W' (w6.heap.size+1) (.int .i64 k') (.int .i64 t')) from fun W' hb => by
       refine ⟨bx5 hb ?_ ?_ ?_ ?_ ?_ ?_ ?_ ?_ ?_ ?_,bx3 hb ?_ ?_ ?_ ?_ ?_ ?_,bx2 hb ?_ ?_ ?_ ?_,bx3 hb ?_ ?_ ?_ ?_ ?_ ?_,bx2 hb ?_ ?_ ?_ ?_⟩
       all_goals first|assumption|assumption)
     replace gb:=Below.refl W6.heap.size W6
     go_wp2_with fail
     refine (zcW rw' cl' _ _ _ _ (g5.to gb) (g6.to gb) Hlen.out).mono ?_
     clear ac ag ae ah af ai aw aB ay aC ak ap al aq au aA aH aK aI aL bt bx bu bz bA bB eI eL eK eN
     rintro e w7 ⟨rfl,ej⟩
     replace gb:=bS gb ej
     obtain ⟨⟨z0,ac,ae,af,aw,ay,ag,ah,ai,aB,aC⟩,⟨z1,ak,al,au,ap,aq,aA⟩,⟨z2,aH,aI,aK,aL⟩,⟨z3,bt,bu,bA,bx,bz,bB⟩,⟨z4,eI,eK,eL,eN⟩⟩:=lz.out _ gb
     go_wp2_with fail
     go_ret
     exact ⟨rfl,bS zb gb⟩

end Go.Proofs.YtkjcdnlpjldhaaaGreat

