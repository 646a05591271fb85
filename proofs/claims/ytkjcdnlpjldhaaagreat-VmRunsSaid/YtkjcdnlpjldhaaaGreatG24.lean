/-
  The texts Ref25, VmRow2, Ref25h, Vm4, Vm6, Does0, Does1, merged.
-/
import Derived.Test.YtkjcdnlpjldhaaaGreatG22
import Derived.Test.YtkjcdnlpjldhaaaGreatG10
import Derived.Deep.RegionHeld3
import Derived.Test.YtkjcdnlpjldhaaaGreatG19
import Derived.Test.YtkjcdnlpjldhaaaGreatG16
import Derived.Test.YtkjcdnlpjldhaaaGreatG18
set_option linter.unusedVariables false
set_option linter.unusedSimpArgs false
set_option maxRecDepth 100000
set_option maxHeartbeats 400000000
namespace Go.Proofs.YtkjcdnlpjldhaaaGreat
open Go.RowKit Tw
attribute [local go_sem ↓] Go.wp_at_zero Go.wp_at_succ

theorem zff (c:Cd) (v:Value) (w:World) (hc:IsC w c v) (hs:zW 1000 c.all) (h0:zaT c=false) :
  Calls Tryz.prog 15 #[aggC c v] w (fun e w' => e=.returned (.bool false)/\Below w.heap.size w w'):=by
 clear hs
 obtain ⟨a0,n0,c0,rfl,H0,hm0⟩:=hc.1.open
 obtain ⟨e0,te0⟩:∃ b,decide (c.ins<1)=b:=⟨_,rfl⟩
 obtain ⟨e1,te1⟩:∃ b,decide (40<c.ins)=b:=⟨_,rfl⟩
 obtain ⟨e2,te2⟩:∃ b,decide (c.rows<1)=b:=⟨_,rfl⟩
 obtain ⟨e3,te3⟩:∃ b,decide (40<c.rows)=b:=⟨_,rfl⟩
 obtain ⟨e4,te4⟩:∃ b,(c.cols != c.ins)=b:=⟨_,rfl⟩
 obtain ⟨e5,te5⟩:∃ b,decide (c.regs<0)=b:=⟨_,rfl⟩
 obtain ⟨e6,te6⟩:∃ b,decide (100000<c.regs)=b:=⟨_,rfl⟩
 obtain ⟨e7,te7⟩:∃ b,decide ((100000:Int)<(n0:Int))=b:=⟨_,rfl⟩
 rw [zem c n0 H0.out,te0,te1,te2,te3,te4,te5,te6,te7] at h0
 cases e0
 case true =>
  clear h0
  go_enter Tryz.func15,Tryz.ntmps15
  go_wp2_with fail
  obtain ⟨W0,az⟩:∃ W0,w.alloc (.cells #[.int .i64 c.ins,.int .i64 c.rows,.int .i64 c.cols,.int .i64 c.regs,.slice a0 n0 c0] 24)=W0:=⟨_,rfl⟩
  have am:=Lib.hid (show ∀ W',Below W0.heap.size W0 W'->(Bx5 W' w.heap.size (.int .i64 c.ins) (.int .i64 c.rows) (.int .i64 c.cols) (.int .i64 c.regs) (.slice a0 n0 c0)) from fun W' hb => by
    apply bx5 hb
    all_goals first|assumption|(rw [<- az];simp [go_sem]))
  have zb:Below w.heap.size w W0:=by rw [<- az];exact bN _ _
  rw [az]
  clear az
  have i0:=hc.to zb
  have gb:Below W0.heap.size W0 W0:=Below.refl _ _
  obtain ⟨z0,ac,ae,af,aw,ay,ag,ah,ai,aB,aC⟩:=am.out _ gb
  go_wp2_with fail
  go_ret
  exact ⟨rfl,bS zb gb⟩
 case false =>
  cases e1
  case true =>
   clear h0
   go_enter Tryz.func15,Tryz.ntmps15
   go_wp2_with fail
   obtain ⟨W0,az⟩:∃ W0,w.alloc (.cells #[.int .i64 c.ins,.int .i64 c.rows,.int .i64 c.cols,.int .i64 c.regs,.slice a0 n0 c0] 24)=W0:=⟨_,rfl⟩
   have am:=Lib.hid (show ∀ W',Below W0.heap.size W0 W'->(Bx5 W' w.heap.size (.int .i64 c.ins) (.int .i64 c.rows) (.int .i64 c.cols) (.int .i64 c.regs) (.slice a0 n0 c0)) from fun W' hb => by
     apply bx5 hb
     all_goals first|assumption|(rw [<- az];simp [go_sem]))
   have zb:Below w.heap.size w W0:=by rw [<- az];exact bN _ _
   rw [az]
   clear az
   have i0:=hc.to zb
   have gb:Below W0.heap.size W0 W0:=Below.refl _ _
   obtain ⟨z0,ac,ae,af,aw,ay,ag,ah,ai,aB,aC⟩:=am.out _ gb
   go_wp2_with fail
   go_ret
   exact ⟨rfl,bS zb gb⟩
  case false =>
   cases e2
   case true =>
    clear h0
    go_enter Tryz.func15,Tryz.ntmps15
    go_wp2_with fail
    obtain ⟨W0,az⟩:∃ W0,w.alloc (.cells #[.int .i64 c.ins,.int .i64 c.rows,.int .i64 c.cols,.int .i64 c.regs,.slice a0 n0 c0] 24)=W0:=⟨_,rfl⟩
    have am:=Lib.hid (show ∀ W',Below W0.heap.size W0 W'->(Bx5 W' w.heap.size (.int .i64 c.ins) (.int .i64 c.rows) (.int .i64 c.cols) (.int .i64 c.regs) (.slice a0 n0 c0)) from fun W' hb => by
      apply bx5 hb
      all_goals first|assumption|(rw [<- az];simp [go_sem]))
    have zb:Below w.heap.size w W0:=by rw [<- az];exact bN _ _
    rw [az]
    clear az
    have i0:=hc.to zb
    have gb:Below W0.heap.size W0 W0:=Below.refl _ _
    obtain ⟨z0,ac,ae,af,aw,ay,ag,ah,ai,aB,aC⟩:=am.out _ gb
    go_wp2_with fail
    go_ret
    exact ⟨rfl,bS zb gb⟩
   case false =>
    cases e3
    case true =>
     clear h0
     go_enter Tryz.func15,Tryz.ntmps15
     go_wp2_with fail
     obtain ⟨W0,az⟩:∃ W0,w.alloc (.cells #[.int .i64 c.ins,.int .i64 c.rows,.int .i64 c.cols,.int .i64 c.regs,.slice a0 n0 c0] 24)=W0:=⟨_,rfl⟩
     have am:=Lib.hid (show ∀ W',Below W0.heap.size W0 W'->(Bx5 W' w.heap.size (.int .i64 c.ins) (.int .i64 c.rows) (.int .i64 c.cols) (.int .i64 c.regs) (.slice a0 n0 c0)) from fun W' hb => by
       apply bx5 hb
       all_goals first|assumption|(rw [<- az];simp [go_sem]))
     have zb:Below w.heap.size w W0:=by rw [<- az];exact bN _ _
     rw [az]
     clear az
     have i0:=hc.to zb
     have gb:Below W0.heap.size W0 W0:=Below.refl _ _
     obtain ⟨z0,ac,ae,af,aw,ay,ag,ah,ai,aB,aC⟩:=am.out _ gb
     go_wp2_with fail
     go_ret
     exact ⟨rfl,bS zb gb⟩
    case false =>
     cases e4
     case true =>
      clear h0
      go_enter Tryz.func15,Tryz.ntmps15
      go_wp2_with fail
      obtain ⟨W0,az⟩:∃ W0,w.alloc (.cells #[.int .i64 c.ins,.int .i64 c.rows,.int .i64 c.cols,.int .i64 c.regs,.slice a0 n0 c0] 24)=W0:=⟨_,rfl⟩
      have am:=Lib.hid (show ∀ W',Below W0.heap.size W0 W'->(Bx5 W' w.heap.size (.int .i64 c.ins) (.int .i64 c.rows) (.int .i64 c.cols) (.int .i64 c.regs) (.slice a0 n0 c0)) from fun W' hb => by
        apply bx5 hb
        all_goals first|assumption|(rw [<- az];simp [go_sem]))
      have zb:Below w.heap.size w W0:=by rw [<- az];exact bN _ _
      rw [az]
      clear az
      have i0:=hc.to zb
      have gb:Below W0.heap.size W0 W0:=Below.refl _ _
      obtain ⟨z0,ac,ae,af,aw,ay,ag,ah,ai,aB,aC⟩:=am.out _ gb
      go_wp2_with fail
      go_ret
      exact ⟨rfl,bS zb gb⟩
     case false =>
      cases e5
      case true =>
       clear h0
       go_enter Tryz.func15,Tryz.ntmps15
       go_wp2_with fail
       obtain ⟨W0,az⟩:∃ W0,w.alloc (.cells #[.int .i64 c.ins,.int .i64 c.rows,.int .i64 c.cols,.int .i64 c.regs,.slice a0 n0 c0] 24)=W0:=⟨_,rfl⟩
       have am:=Lib.hid (show ∀ W',Below W0.heap.size W0 W'->(Bx5 W' w.heap.size (.int .i64 c.ins) (.int .i64 c.rows) (.int .i64 c.cols) (.int .i64 c.regs) (.slice a0 n0 c0)) from fun W' hb => by
         apply bx5 hb
         all_goals first|assumption|(rw [<- az];simp [go_sem]))
       have zb:Below w.heap.size w W0:=by rw [<- az];exact bN _ _
       rw [az]
       clear az
       have i0:=hc.to zb
       have gb:Below W0.heap.size W0 W0:=Below.refl _ _
       obtain ⟨z0,ac,ae,af,aw,ay,ag,ah,ai,aB,aC⟩:=am.out _ gb
       go_wp2_with fail
       go_ret
       exact ⟨rfl,bS zb gb⟩
      case false =>
       cases e6
       case true =>
        clear h0
        go_enter Tryz.func15,Tryz.ntmps15
        go_wp2_with fail
        obtain ⟨W0,az⟩:∃ W0,w.alloc (.cells #[.int .i64 c.ins,.int .i64 c.rows,.int .i64 c.cols,.int .i64 c.regs,.slice a0 n0 c0] 24)=W0:=⟨_,rfl⟩
        have am:=Lib.hid (show ∀ W',Below W0.heap.size W0 W'->(Bx5 W' w.heap.size (.int .i64 c.ins) (.int .i64 c.rows) (.int .i64 c.cols) (.int .i64 c.regs) (.slice a0 n0 c0)) from fun W' hb => by
          apply bx5 hb
          all_goals first|assumption|(rw [<- az];simp [go_sem]))
        have zb:Below w.heap.size w W0:=by rw [<- az];exact bN _ _
        rw [az]
        clear az
        have i0:=hc.to zb
        have gb:Below W0.heap.size W0 W0:=Below.refl _ _
        obtain ⟨z0,ac,ae,af,aw,ay,ag,ah,ai,aB,aC⟩:=am.out _ gb
        go_wp2_with fail
        go_ret
        exact ⟨rfl,bS zb gb⟩
       case false =>
        cases e7
        case true =>
         clear h0
         go_enter Tryz.func15,Tryz.ntmps15
         go_wp2_with fail
         obtain ⟨W0,az⟩:∃ W0,w.alloc (.cells #[.int .i64 c.ins,.int .i64 c.rows,.int .i64 c.cols,.int .i64 c.regs,.slice a0 n0 c0] 24)=W0:=⟨_,rfl⟩
         have am:=Lib.hid (show ∀ W',Below W0.heap.size W0 W'->(Bx5 W' w.heap.size (.int .i64 c.ins) (.int .i64 c.rows) (.int .i64 c.cols) (.int .i64 c.regs) (.slice a0 n0 c0)) from fun W' hb => by
           apply bx5 hb
           all_goals first|assumption|(rw [<- az];simp [go_sem]))
         have zb:Below w.heap.size w W0:=by rw [<- az];exact bN _ _
         rw [az]
         clear az
         have i0:=hc.to zb
         have gb:Below W0.heap.size W0 W0:=Below.refl _ _
         obtain ⟨z0,ac,ae,af,aw,ay,ag,ah,ai,aB,aC⟩:=am.out _ gb
         go_wp2_with fail
         go_ret
         exact ⟨rfl,bS zb gb⟩
        case false =>
         exact absurd h0 (by decide)

theorem zfh (c:Cd) (v:Value) (w:World) (hc:IsC w c v) (hs:zW 1000 c.all) (h0:zaT c=true) (o:Bool) (ho:zaq c [] c.all=o) :
  Calls Tryz.prog 15 #[aggC c v] w (fun e w' => e=.returned (.bool o)/\Below w.heap.size w w'):=by
 have hh:=h0
 unfold zaT at hh
 simp only [decide_eq_true_eq] at hh
 have Hr:=Lib.hid (show 1<=c.rows/\c.rows<=40 by omega)
 have Hcl:=Lib.hid (show 1<=c.cols/\c.cols<=40 by omega)
 clear hh
 have Hs:=Lib.hid hs
 have Ho:=Lib.hid ho
 clear hs ho
 obtain ⟨a0,n0,c0,rfl,H0,hm0⟩:=hc.1.open
 obtain ⟨e0,te0⟩:∃ b,decide (c.ins<1)=b:=⟨_,rfl⟩
 obtain ⟨e1,te1⟩:∃ b,decide (40<c.ins)=b:=⟨_,rfl⟩
 obtain ⟨e2,te2⟩:∃ b,decide (c.rows<1)=b:=⟨_,rfl⟩
 obtain ⟨e3,te3⟩:∃ b,decide (40<c.rows)=b:=⟨_,rfl⟩
 obtain ⟨e4,te4⟩:∃ b,(c.cols != c.ins)=b:=⟨_,rfl⟩
 obtain ⟨e5,te5⟩:∃ b,decide (c.regs<0)=b:=⟨_,rfl⟩
 obtain ⟨e6,te6⟩:∃ b,decide (100000<c.regs)=b:=⟨_,rfl⟩
 obtain ⟨e7,te7⟩:∃ b,decide ((100000:Int)<(n0:Int))=b:=⟨_,rfl⟩
 rw [zem c n0 H0.out,te0,te1,te2,te3,te4,te5,te6,te7] at h0
 simp only [Bool.and_eq_true,Bool.not_eq_true'] at h0
 obtain ⟨⟨⟨⟨⟨⟨⟨rfl,rfl⟩,rfl⟩,rfl⟩,rfl⟩,rfl⟩,rfl⟩,rfl⟩:=h0
 have hn0:n0<=100000:=by have:=of_decide_eq_false te7;omega
 go_enter Tryz.func15,Tryz.ntmps15
 go_wp2_with fail
 obtain ⟨W0,az⟩:∃ W0,w.alloc (.cells #[.int .i64 c.ins,.int .i64 c.rows,.int .i64 c.cols,.int .i64 c.regs,.slice a0 n0 c0] 24)=W0:=⟨_,rfl⟩
 have am:=Lib.hid (show ∀ W',Below W0.heap.size W0 W'->(Bx5 W' w.heap.size (.int .i64 c.ins) (.int .i64 c.rows) (.int .i64 c.cols) (.int .i64 c.regs) (.slice a0 n0 c0)) from fun W' hb => by
   apply bx5 hb
   all_goals first|assumption|(rw [<- az];simp [go_sem]))
 have zb:Below w.heap.size w W0:=by rw [<- az];exact bN _ _
 rw [az]
 clear az
 have i0:=hc.to zb
 have gb:Below W0.heap.size W0 W0:=Below.refl _ _
 obtain ⟨z0,ac,ae,af,aw,ay,ag,ah,ai,aB,aC⟩:=am.out _ gb
 go_wp2_with fail
 go_loopw [3,4] (fun u i ww => ∃ (k:Nat) (L:List Int),k<=n0/\i=.int .i64 k/\Below W0.heap.size W0 ww/\zaJ 3 W0.heap.size ww u (L.map (Value.int .i64))/\Hid (zaq c L (c.all.drop k)=o)/\L.length<=k) (fun _ i _ => n0 - (intOf i).toNat)
 case atStart => exact ⟨0,[],Nat.zero_le _,rfl,gb,zaJ.nil _ _ _,by rw [List.drop_zero];exact Ho.out,Nat.zero_le _⟩
 case round =>
  clear ac ag ae ah af ai aw aB ay aC
  clear gb
  obtain ⟨k,L,hk,rfl,gb,hO,HA,hL⟩:=hrel
  obtain ⟨z0,ac,ae,af,aw,ay,ag,ah,ai,aB,aC⟩:=am.out _ gb
  by_cases hkn:k<n0
  ·have hki:(k:Int)<(n0:Int):=by omega
   have hkl:k<c.all.length:=by rw [H0.out];exact hkn
   obtain ⟨b,off,rfl,h7⟩:=i0.1.nth hkl
   have HA1:=HA.out
   rw [zbw hkl] at HA1
   have hsx:=Hs.out _ (List.getElem_mem hkl)
   obtain ⟨x,hx⟩:∃ x,c.all[k]=x:=⟨_,rfl⟩
   rw [hx] at HA1 h7 hsx
   obtain ⟨vn,vd,s0,s1,s2,s3,s4,s5,s6,hX⟩:=h7.isX hsx.1 hsx.2
   obtain ⟨a1,n1,c1,rfl,H1,hm1⟩:=hX.1.1.open
   obtain ⟨a2,n2,c2,rfl,H2,hm2⟩:=hX.1.2.1.open
   have HX1:=Lib.hid hX
   have HT:Hid (∀ W',Below W0.heap.size W0 W'->W'.cell? ⟨b,off+k*7,none⟩=some (.int .i64 x.op)/\W'.cell? ⟨b,off+k*7+1,none⟩=some (.int .i64 x.to)/\W'.cell? ⟨b,off+k*7+2,none⟩=some (.int .i64 x.a)/\W'.cell? ⟨b,off+k*7+3,none⟩=some (.int .i64 x.b)/\W'.cell? ⟨b,off+k*7+4,none⟩=some (.bool x.q.ng)/\W'.cell? ⟨b,off+k*7+5,none⟩=some (.slice a1 n1 c1)/\W'.cell? ⟨b,off+k*7+6,none⟩=some (.slice a2 n2 c2)):=fun W' hb => by
    refine ⟨(hb.cell (p:=⟨b,off+k*7,none⟩) (zm s0)).trans s0,(hb.cell (p:=⟨b,off+k*7+1,none⟩) (zm s1)).trans s1,(hb.cell (p:=⟨b,off+k*7+2,none⟩) (zm s2)).trans s2,(hb.cell (p:=⟨b,off+k*7+3,none⟩) (zm s3)).trans s3,(hb.cell (p:=⟨b,off+k*7+4,none⟩) (zm s4)).trans s4,(hb.cell (p:=⟨b,off+k*7+5,none⟩) (zm s5)).trans s5,(hb.cell (p:=⟨b,off+k*7+6,none⟩) (zm s6)).trans s6⟩
   clear s0 s1 s2 s3 s4 s5 s6 h7 hsx hX
   clear hx
   have HA2:=Lib.hid HA1
   clear HA HA1
   clear ac ag ae ah af ai aw aB ay aC
   obtain ⟨s0,s1,s2,s3,s4,s5,s6⟩:=HT.out _ gb
   obtain ⟨z0,ac,ae,af,aw,ay,ag,ah,ai,aB,aC⟩:=am.out _ gb
   go_wp2_with fail
   have hL2:L.length<=100000:=by omega
   have HL2:=Lib.hid hL2
   cases hio:zu c L x
   case false =>
    have Hio:=Lib.hid hio
    clear hio
    go_region_held3 (fun W' => W'.cell? ⟨w.heap.size,0,none⟩=some (.int .i64 c.ins)/\W'.cell? ⟨w.heap.size,1,none⟩=some (.int .i64 c.rows)/\W'.cell? ⟨w.heap.size,2,none⟩=some (.int .i64 c.cols)/\W'.cell? ⟨w.heap.size,3,none⟩=some (.int .i64 c.regs)/\W'.cell? ⟨w.heap.size,4,none⟩=some (.slice (some ⟨b,off,none⟩) n0 c0)/\W'.cell? ⟨b,off+k*7,none⟩=some (.int .i64 x.op)/\W'.cell? ⟨b,off+k*7+1,none⟩=some (.int .i64 x.to)/\W'.cell? ⟨b,off+k*7+2,none⟩=some (.int .i64 x.a)/\W'.cell? ⟨b,off+k*7+3,none⟩=some (.int .i64 x.b)/\W'.cell? ⟨b,off+k*7+4,none⟩=some (.bool x.q.ng)/\W'.cell? ⟨b,off+k*7+5,none⟩=some (.slice a1 n1 c1)/\W'.cell? ⟨b,off+k*7+6,none⟩=some (.slice a2 n2 c2)) (exact ⟨ac,ae,af,aw,ay,s0,s1,s2,s3,s4,s5,s6⟩) (first
     | (go_at_call 34;have gb:=gb.drew;(with_reducible refine (zeg c _ x.op x.to x.a x.b x.q.ng _ _ x.q.n x.q.d _ L _ (i0.to gb) (HX1.out.to gb) hO.drew.rdI HL2.out Hr.out Hcl.out false Hio.out).mono ?_);rintro e w3 ⟨rfl,bs⟩;have gb:=bS gb bs;obtain ⟨s0,s1,s2,s3,s4,s5,s6⟩:=HT.out _ gb;obtain ⟨z0,ac,ae,af,aw,ay,ag,ah,ai,aB,aC⟩:=am.out _ gb))
    have ho:false=o:=by rw [<- HA2.out,Hio.out,Bool.false_and]
    subst ho
    go_wp2_with fail
    go_ret
    exact ⟨rfl,bS zb gb⟩
   case true =>
    have Hio:=Lib.hid hio
    clear hio
    go_region_held3 (fun W' => W'.cell? ⟨w.heap.size,0,none⟩=some (.int .i64 c.ins)/\W'.cell? ⟨w.heap.size,1,none⟩=some (.int .i64 c.rows)/\W'.cell? ⟨w.heap.size,2,none⟩=some (.int .i64 c.cols)/\W'.cell? ⟨w.heap.size,3,none⟩=some (.int .i64 c.regs)/\W'.cell? ⟨w.heap.size,4,none⟩=some (.slice (some ⟨b,off,none⟩) n0 c0)/\W'.cell? ⟨b,off+k*7,none⟩=some (.int .i64 x.op)/\W'.cell? ⟨b,off+k*7+1,none⟩=some (.int .i64 x.to)/\W'.cell? ⟨b,off+k*7+2,none⟩=some (.int .i64 x.a)/\W'.cell? ⟨b,off+k*7+3,none⟩=some (.int .i64 x.b)/\W'.cell? ⟨b,off+k*7+4,none⟩=some (.bool x.q.ng)/\W'.cell? ⟨b,off+k*7+5,none⟩=some (.slice a1 n1 c1)/\W'.cell? ⟨b,off+k*7+6,none⟩=some (.slice a2 n2 c2)) (exact ⟨ac,ae,af,aw,ay,s0,s1,s2,s3,s4,s5,s6⟩) (first
     | (go_at_call 34;have gb:=gb.drew;(with_reducible refine (zeg c _ x.op x.to x.a x.b x.q.ng _ _ x.q.n x.q.d _ L _ (i0.to gb) (HX1.out.to gb) hO.drew.rdI HL2.out Hr.out Hcl.out true Hio.out).mono ?_);rintro e w3 ⟨rfl,bs⟩;have gb:=bS gb bs;obtain ⟨s0,s1,s2,s3,s4,s5,s6⟩:=HT.out _ gb;obtain ⟨z0,ac,ae,af,aw,ay,ag,ah,ai,aB,aC⟩:=am.out _ gb))
    have HA3:Hid (zaq c (more L x) (c.all.drop (k+1))=o):=by show _=_;rw [<- HA2.out,Hio.out,Bool.true_and]
    have hO3:=hO.drew.to bs
    have hgs:=gb.size
    clear HA2 hO
    by_cases h10:x.op=10
    ·have t:(x.op != 10)=false:=by simp;exact h10
     have em:more L x=L:=by unfold more;rw [if_pos h10]
     have HA4:Hid (zaq c L (c.all.drop (k+1))=o):=by show _=_;rw [<- HA3.out,em]
     clear h10 em HA3
     go_wp2_with fail
     go_roundw
     case rel => exact ⟨k+1,L,by omega,by go_num,gb,hO3,HA4,by omega⟩
     case measure => simp [intOf] <;> omega
    ·have t:(x.op != 10)=true:=by simp;exact h10
     have em:more L x=L++[x.to]:=by unfold more;rw [if_neg h10]
     have HA4:Hid (zaq c (L++[x.to]) (c.all.drop (k+1))=o):=by show _=_;rw [<- HA3.out,em]
     clear h10 em HA3
     go_wp2_with (at_builtin;refine zjC _ rfl (.tmp 71) (.tmp 78) 67 3 rfl Tryz.underlying67 (.int .i64 0) 8 (by kernel_rfl) (by decide) (by decide) W0.heap.size _ (L.map (Value.int .i64)) (.int .i64 x.to) w3.heap.size 1 rfl rfl (hO3.alloc _) (by simp [go_sem]) rfl (by simp;omega) (by simp;omega) ?_;intro v4 w4 hO4 cG)
     have gb4:Below W0.heap.size W0 w4:=(gb.alloc hgs _).trans cG
     have hO5:zaJ 3 W0.heap.size w4 v4 ((L++[x.to]).map (Value.int .i64)):=by rw [List.map_append];exact hO4
     go_wp2_with fail
     go_roundw
     case rel => exact ⟨k+1,L++[x.to],by omega,by go_num,gb4,hO5,HA4,by simp;omega⟩
     case measure => simp [intOf] <;> omega
  ·obtain rfl:k=n0:=by omega
   have ho:true=o:=by
    have:=HA.out
    rw [<- H0.out,List.drop_length] at this
    exact this
   subst ho
   go_wp2_with fail
   go_ret
   exact ⟨rfl,bS zb gb⟩

theorem zbH (c:Cd) (v:Value) (w:World) (hc:IsC w c v) (hs:zW 1000 c.all) (o:Bool) (ho:zF c=o) :
  Calls Tryz.prog 15 #[aggC c v] w (fun e w' => e=.returned (.bool o)/\Below w.heap.size w w'):=by
 unfold zF at ho
 cases h0:zaT c with
 | false => rw [h0] at ho;obtain rfl:false=o:=ho;exact zff c v w hc hs h0
 | true => rw [h0,Bool.true_and] at ho;exact zfh c v w hc hs h0 o ho

end Go.Proofs.YtkjcdnlpjldhaaaGreat


namespace Go.Proofs.YtkjcdnlpjldhaaaGreat
open Go.RowKit Tw

theorem zbh (w:World) {ops:Array Oper} {rest:List Oper} {o:Oper} {a:Act} {Q:Exit->Act->World->Prop} (hg:o.guard=none)
  (s x:Operand) (t e:TypeId) (ho:o.op=Op.call { callee:=Callee.builtin Builtin.append,args:=#[s,x],argTypes:=#[t,t] })
  (hu:Tryz.prog.underlying t=some (.slice e)) (z:Value) (bytes:Nat) (hi:(Tryz.prog.info? e).map (fun i => (i.zero,i.size,i.bytes))=some (some z,1,bytes)) (hz:z.cells.size=1) (hB:bytes<=100)
  (base:Nat) (v:Value) (xs:List Value) (u:Value) (b c:Nat) (hs:a.eval s=v) (hx:a.eval x=.slice (some ⟨b,0,none⟩) 1 c) (hown:zaJ e base w v xs) (cR:w.cell? ⟨b,0,none⟩=some u) (h1:u.oneCell'=true) (hbase:base<=w.heap.size)
  (hn:xs.length<=1000000)
  (hK:∀ v' w',zaJ e base w' v' (xs++[u])->Below base w w'->w.grownBy w' v.ownBlock->wpList Tryz.prog ops Q rest (a.put o.dst v') w') :
  wpList Tryz.prog ops Q (o :: rest) a w:=by
 obtain ⟨i0,hi0,hz0,hz1,hz2⟩:=info_parts hi
 refine wpList_append_own w hg s x t ho base e i0 z 1 bytes hu hi0 hz0 hz1 hz2 hz (by decide) v xs.length xs hs hown ⟨b,0,none⟩ 1 c [u] hx rfl ?_ ?_ (by simp [maxLen];omega) ?_ hbase ?_
 ·intro j q hj
  rcases j with _|j
  ·simp only [List.getElem?_cons_zero,Option.some.injEq] at hj
   subst hj;exact cR
  ·simp at hj
 ·intro q hq;rw [List.mem_singleton.1 hq];exact h1
 ·exact Nat.le_trans (Nat.mul_le_mul (show xs.length+1<=1000001 by omega) hB) (by omega)
 ·intro v' w' ho' hg' _
  refine hK v' w' ?_ ((Below.refl _ _).grown hg' hbase (fun k hk => (hown.lt k hk).1)) hg'
  have:(xs++[u]).length=xs.length+1:=by simp
  unfold zaJ;rw [this];exact ho'

theorem zci (w:World) (x:Value) (t:TypeId):(w.alloc (.cells #[x] t)).cell? ⟨w.heap.size,0,none⟩=some x:=by simp [go_sem]

theorem zcj {w w':World} {row:Option Nat} {o:Obj} {b k:Nat} {v:Value} (hg:(w.alloc o).grownBy w' row) (hc:w.cell? ⟨b,k,none⟩=some v) (hne:row≠some b):w'.cell? ⟨b,k,none⟩=some v:=by
 have hl:=World.block_lt_of_cell? w ⟨b,k,none⟩ hc
 have h1:=(bN w o).cell (p:=⟨b,k,none⟩) hl
 rw [World.cell?_of_block (w:=w.alloc o) (hg.block b (by simp;exact Nat.lt_succ_of_lt hl) (fun e => hne e.symm))]
 exact h1.trans hc

end Go.Proofs.YtkjcdnlpjldhaaaGreat


namespace Go.Proofs.YtkjcdnlpjldhaaaGreat
open Go.RowKit Tw
attribute [local go_sem ↓] Go.wp_at_zero Go.wp_at_succ

theorem zcF {wt:Int->Int} {x:Ins} {v r:Int} (h:x.op≠10):(if x.op≠10/\x.to=r then v else wt r)=upd wt x.to v r:=by
 unfold upd
 by_cases e:x.to=r
 ·rw [if_pos ⟨h,e⟩,if_pos e.symm]
 ·rw [if_neg (fun k => e k.2),if_neg (fun k => e k.symm)]

theorem last_ten {wt:Int->Int} {x:Ins} {v r:Int} (h:x.op=10):(if x.op≠10/\x.to=r then v else wt r)=wt r:=if_neg (fun k => k.1 h)

theorem zgj (c:Cd) (v:Value) (w:World) (hc:IsC w c v) (hs:zW 1000 c.all) (h0:zF c=false) :
  Calls Tryz.prog 17 #[aggC c v] w (fun e w' => e=.returned (.int .i64 0)/\Below w.heap.size w w'):=by
 have Hs:=Lib.hid hs
 have Hr0:=Lib.hid h0
 clear hs h0
 obtain ⟨a0,n0,c0,rfl,H0,hm0⟩:=hc.1.open
 go_enter Tryz.func17,Tryz.ntmps17
 go_wp2_with fail
 obtain ⟨W0,az⟩:∃ W0,w.alloc (.cells #[.int .i64 c.ins,.int .i64 c.rows,.int .i64 c.cols,.int .i64 c.regs,.slice a0 n0 c0] 24)=W0:=⟨_,rfl⟩
 have am:=Lib.hid (show ∀ W',Below W0.heap.size W0 W'->(Bx5 W' w.heap.size (.int .i64 c.ins) (.int .i64 c.rows) (.int .i64 c.cols) (.int .i64 c.regs) (.slice a0 n0 c0)) from fun W' hb => by
   apply bx5 hb
   all_goals first|assumption|(rw [<- az];simp [go_sem]))
 have zb:Below w.heap.size w W0:=by rw [<- az];exact bN _ _
 rw [az]
 clear az
 have i0:=hc.to zb
 have gb:Below W0.heap.size W0 W0:=Below.refl _ _
 obtain ⟨z0,ac,ae,af,aw,ay,ag,ah,ai,aB,aC⟩:=am.out _ gb
 go_wp2_with fail
 refine (zbH c _ _ (i0.to gb) Hs.out false Hr0.out).mono ?_
 clear ac ag ae ah af ai aw aB ay aC
 rintro e w1 ⟨rfl,bd⟩
 replace gb:=bS gb bd
 obtain ⟨z0,ac,ae,af,aw,ay,ag,ah,ai,aB,aC⟩:=am.out _ gb
 go_wp2_with fail
 go_ret
 exact ⟨rfl,bS zb gb⟩

theorem zfm (c:Cd) (v:Value) (w:World) (hc:IsC w c v) (hs:zW 1000 c.all) (h1:zF c=true) (o:Int) (ho:zax (fun _ => 0) 0 c.all=o) :
  Calls Tryz.prog 17 #[aggC c v] w (fun e w' => e=.returned (.int .i64 o)/\Below w.heap.size w w'):=by
 have h0:zaT c=true:=by unfold zF at h1;simp only [Bool.and_eq_true] at h1;exact h1.1
 have ha:zaq c [] c.all=true:=by unfold zF at h1;simp only [Bool.and_eq_true] at h1;exact h1.2
 have hlen:c.all.length<=100000:=by unfold zaT at h0;simp only [decide_eq_true_eq] at h0;exact h0.2.2.2.2.2.2.2
 clear h0
 have Hs:=Lib.hid hs
 have Ho:=Lib.hid ho
 have Ha:=Lib.hid ha
 have Hrt:=Lib.hid h1
 have Hlen:=Lib.hid hlen
 clear hs ho ha h1 hlen
 obtain ⟨a0,n0,c0,rfl,H0,hm0⟩:=hc.1.open
 have hn0:n0<=100000:=by have:=H0.out;have:=Hlen.out;omega
 go_enter Tryz.func17,Tryz.ntmps17
 go_wp2_with fail
 obtain ⟨W0,az⟩:∃ W0,w.alloc (.cells #[.int .i64 c.ins,.int .i64 c.rows,.int .i64 c.cols,.int .i64 c.regs,.slice a0 n0 c0] 24)=W0:=⟨_,rfl⟩
 have am:=Lib.hid (show ∀ W',Below W0.heap.size W0 W'->(Bx5 W' w.heap.size (.int .i64 c.ins) (.int .i64 c.rows) (.int .i64 c.cols) (.int .i64 c.regs) (.slice a0 n0 c0)) from fun W' hb => by
   apply bx5 hb
   all_goals first|assumption|(rw [<- az];simp [go_sem]))
 have zb:Below w.heap.size w W0:=by rw [<- az];exact bN _ _
 rw [az]
 clear az
 have i0:=hc.to zb
 have gb:Below W0.heap.size W0 W0:=Below.refl _ _
 obtain ⟨z0,ac,ae,af,aw,ay,ag,ah,ai,aB,aC⟩:=am.out _ gb
 go_wp2_with fail
 refine (zbH c _ _ (i0.to gb) Hs.out true Hrt.out).mono ?_
 clear ac ag ae ah af ai aw aB ay aC
 rintro e w0 ⟨rfl,fq⟩
 replace gb:=bS gb fq
 obtain ⟨z0,ac,ae,af,aw,ay,ag,ah,ai,aB,aC⟩:=am.out _ gb
 go_wp2_with fail
 go_loopw [4,5,6] (fun s u i ww => ∃ (k:Nat) (L:List Int) (wt:Int->Int) (ws:List Int) (m:Int),k<=n0/\i=.int .i64 k/\s=.int .i64 m/\Below W0.heap.size W0 ww/\zaJ 3 W0.heap.size ww u (ws.map (Value.int .i64))/\Hid (ws.length=k)/\Hid (∀ r,zam c.all ws 0 r k=wt r)/\Hid (zaq c L (c.all.drop k)=true)/\Hid (zax wt m (c.all.drop k)=o)/\Hid (zbL wt)/\Hid (0<=m/\m<=1000000)) (fun _ _ i _ => n0 - (intOf i).toNat)
 case atStart => exact ⟨0,[],fun _ => 0,[],0,Nat.zero_le _,rfl,rfl,gb,zaJ.nil _ _ _,rfl,fun r => rfl,by rw [List.drop_zero];exact Ha.out,by rw [List.drop_zero];exact Ho.out,fun r => ⟨Int.le_refl _,by show (0:Int)<=1000000;decide⟩,⟨by decide,by decide⟩⟩
 case round =>
  clear ac ag ae ah af ai aw aB ay aC
  clear gb
  obtain ⟨k,L,wt,ws,m,hk,rfl,rfl,gb,hO,HWL,HLI,HA,HV,HW,Hm⟩:=hrel
  obtain ⟨z0,ac,ae,af,aw,ay,ag,ah,ai,aB,aC⟩:=am.out _ gb
  by_cases hkn:k<n0
  ·have hki:(k:Int)<(n0:Int):=by omega
   have hkl:k<c.all.length:=by rw [H0.out];exact hkn
   have HV1:=HV.out
   rw [zeV hkl] at HV1
   have HN1:=fun (y r:Int) => zfO (l:=c.all) (xs:=ws) (d:=0) (y:=y) (r:=r) hkl HWL.out
   obtain ⟨b,off,rfl,h7⟩:=i0.1.nth hkl
   have HA1:=HA.out
   rw [zbw hkl] at HA1
   have hsx:=Hs.out _ (List.getElem_mem hkl)
   obtain ⟨x,hx⟩:∃ x,c.all[k]=x:=⟨_,rfl⟩
   rw [hx] at HA1 h7 hsx HV1
   simp only [hx] at HN1
   obtain ⟨vn,vd,s0,s1,s2,s3,s4,s5,s6,hX⟩:=h7.isX hsx.1 hsx.2
   obtain ⟨a1,n1,c1,rfl,H1,hm1⟩:=hX.1.1.open
   obtain ⟨a2,n2,c2,rfl,H2,hm2⟩:=hX.1.2.1.open
   have HX1:=Lib.hid hX
   have HT:Hid (∀ W',Below W0.heap.size W0 W'->W'.cell? ⟨b,off+k*7,none⟩=some (.int .i64 x.op)/\W'.cell? ⟨b,off+k*7+1,none⟩=some (.int .i64 x.to)/\W'.cell? ⟨b,off+k*7+2,none⟩=some (.int .i64 x.a)/\W'.cell? ⟨b,off+k*7+3,none⟩=some (.int .i64 x.b)/\W'.cell? ⟨b,off+k*7+4,none⟩=some (.bool x.q.ng)/\W'.cell? ⟨b,off+k*7+5,none⟩=some (.slice a1 n1 c1)/\W'.cell? ⟨b,off+k*7+6,none⟩=some (.slice a2 n2 c2)):=fun W' hb => by
    refine ⟨(hb.cell (p:=⟨b,off+k*7,none⟩) (zm s0)).trans s0,(hb.cell (p:=⟨b,off+k*7+1,none⟩) (zm s1)).trans s1,(hb.cell (p:=⟨b,off+k*7+2,none⟩) (zm s2)).trans s2,(hb.cell (p:=⟨b,off+k*7+3,none⟩) (zm s3)).trans s3,(hb.cell (p:=⟨b,off+k*7+4,none⟩) (zm s4)).trans s4,(hb.cell (p:=⟨b,off+k*7+5,none⟩) (zm s5)).trans s5,(hb.cell (p:=⟨b,off+k*7+6,none⟩) (zm s6)).trans s6⟩
   clear s0 s1 s2 s3 s4 s5 s6 h7 hsx hX
   obtain ⟨hok,hA1⟩:=(Bool.and_eq_true _ _).mp HA1
   have Hok:=Lib.hid hok
   have HA2:=Lib.hid hA1
   have HV2:=Lib.hid HV1
   have HN2:=Lib.hid HN1
   clear hx HA HA1 HV HV1 hok hA1 HN1
   have hws:ws.length<=c.all.length:=by rw [HWL.out];omega
   have Hws:=Lib.hid hws
   have hws2:ws.length<=100000:=by rw [HWL.out];omega
   have Hws2:=Lib.hid hws2
   clear hws hws2
   clear ac ag ae ah af ai aw aB ay aC
   obtain ⟨s0,s1,s2,s3,s4,s5,s6⟩:=HT.out _ gb
   obtain ⟨z0,ac,ae,af,aw,ay,ag,ah,ai,aB,aC⟩:=am.out _ gb
   go_wp2_with fail
   clear s0 s1 s2 s3 s4 s5 s6
   clear ac ag ae ah af ai aw aB ay aC
   obtain ⟨W2,cO⟩:∃ W2,wr.alloc (.cells #[.int .i64 x.op,.int .i64 x.to,.int .i64 x.a,.int .i64 x.b,.bool x.q.ng,.slice a1 n1 c1,.slice a2 n2 c2] 49)=W2:=⟨_,rfl⟩
   have aN:Below wr.heap.size wr W2:=by rw [<- cO];exact bN _ _
   obtain ⟨xB,hxB⟩:∃ xB,wr.heap.size=xB:=⟨_,rfl⟩
   have hneX:=hO.lt
   rw [hxB] at hneX
   have HX9:Hid (∀ W',Below W2.heap.size W2 W'->W'.cell? ⟨xB,0,none⟩=some (.int .i64 x.op)/\W'.cell? ⟨xB,2,none⟩=some (.int .i64 x.a)/\W'.cell? ⟨xB,3,none⟩=some (.int .i64 x.b)):=fun W' hb => by
    have hl:xB<W2.heap.size:=by rw [<- cO,<- hxB];simp
    refine ⟨(hb.cell (p:=⟨xB,0,none⟩) hl).trans (by rw [<- cO,<- hxB];simp [go_sem]),(hb.cell (p:=⟨xB,2,none⟩) hl).trans (by rw [<- cO,<- hxB];simp [go_sem]),(hb.cell (p:=⟨xB,3,none⟩) hl).trans (by rw [<- cO,<- hxB];simp [go_sem])⟩
   have hxl:xB<W2.heap.size:=by rw [<- cO,<- hxB];simp
   have gb2:=bS gb aN
   have hO2:=hO.to aN
   have hgW:=gb2.size
   rw [cO,hxB]
   clear cO hxB hO
   obtain ⟨p0,p2,p3⟩:=HX9.out _ (Below.refl _ _)
   obtain ⟨z0,ac,ae,af,aw,ay,ag,ah,ai,aB,aC⟩:=am.out _ gb2
   go_wp2_with fail
   rcases zdW (zaW Hok.out) with hso|hso|hso|hso|hso
   ·
    have HSO:=Lib.hid hso
    have Hk:Hid (zf x.op=0):=by show _=_;rcases HSO.out with e|e <;> rw [e] <;> decide
    have n10:x.op≠10:=by rcases HSO.out with e|e <;> rw [e] <;> decide
    have n7:x.op≠7:=by rcases HSO.out with e|e <;> rw [e] <;> decide
    have t10:(x.op != 10)=true:=by simp;exact n10
    have t7:(x.op == 7)=false:=by simp;exact n7
    clear n7
    clear hso
    have hV:=HV2.out
    rw [if_neg n10] at hV
    have HV3:=Lib.hid hV
    clear hV
    have HN10:=Lib.hid n10
    clear n10
    have HW4:Hid (zbL (upd wt x.to (wOf wt x))):=HW.out.upd x
    have hwl:=zbp HW.out x
    have Hwl:=Lib.hid hwl
    clear hwl
    have Hm4:Hid (0<=max m (wOf wt x)/\max m (wOf wt x)<=1000000):=by show _/\_;have:=Hm.out;have:=Hwl.out;omega
    refine (zh x.op (0) _ Hk.out).mono ?_
    rintro e w3 ⟨rfl,rfl⟩
    have hgs:=gb2.size
    have hwsl:=Hws2.out
    go_wp2_with (at_builtin;refine zbh _ rfl (.tmp 72) (.tmp 74) 67 3 rfl Tryz.underlying67 (.int .i64 0) 8 (by kernel_rfl) (by decide) (by decide) W0.heap.size _ (ws.map (Value.int .i64)) _ W2.heap.size 1 rfl rfl (hO2.alloc _) (zci _ _ _) rfl (by simp;omega) (by rw [List.length_map];omega) ?_;intro v4 w4 hO4 cG hgr4;have q0:=zcj hgr4 p0 (fun e => by have:=(hneX _ e).2;omega))
    have gb4:Below W0.heap.size W0 w4:=(gb2.alloc hgs _).trans cG
    have hO5:zaJ 3 W0.heap.size w4 v4 ((ws++[min 1 1000000]).map (Value.int .i64)):=by rw [List.map_append];exact hO4
    have HWL4:Hid ((ws++[min 1 1000000]).length=k+1):=by show _=_;rw [List.length_append,HWL.out];rfl
    have HVAL:Hid (wOf wt x=min 1 1000000):=by show _=_;rw [zga HSO.out];decide
    have HLI4:Hid (∀ r,zam c.all (ws++[min 1 1000000]) 0 r (k+1)=upd wt x.to (min 1 1000000) r):=fun r => by rw [HN2.out,HLI.out];exact zcF HN10.out
    have HV4:Hid (zax (upd wt x.to (min 1 1000000)) (max m (min 1 1000000)) (c.all.drop (k+1))=o):=by show _=_;rw [<- HVAL.out];exact HV3.out
    have HW5:Hid (zbL (upd wt x.to (min 1 1000000))):=by show zbL _;rw [<- HVAL.out];exact HW4.out
    have Hm5:Hid (0<=max m (min 1 1000000)/\max m (min 1 1000000)<=1000000):=by show _/\_;rw [<- HVAL.out];exact Hm4.out
    clear hwsl hgs p0 p2 p3
    clear ac ag ae ah af ai aw aB ay aC
    go_wp2_with fail
    go_roundw
    case rel => exact ⟨k+1,more L x,upd wt x.to (min 1 1000000),ws++[min 1 1000000],max m (min 1 1000000),by omega,by go_num,rfl,gb4,hO5,HWL4,HLI4,HA2,HV4,HW5,Hm5⟩
    case measure => simp [intOf] <;> omega
   ·
    have HSO:=Lib.hid hso
    have Hk:Hid (zf x.op=2):=HSO.out
    have n10:x.op≠10:=fun e => by rw [e] at hso;exact absurd hso (by decide)
    have n7:x.op≠7:=fun e => by rw [e] at hso;exact absurd hso (by decide)
    have t10:(x.op != 10)=true:=by simp;exact n10
    have t7:(x.op == 7)=false:=by simp;exact n7
    clear n7
    clear hso
    obtain ⟨za,hza⟩:∃ z,wt x.a=z:=⟨_,rfl⟩
    have la:=HW.out x.a
    rw [hza] at la
    have Hza:=Lib.hid hza
    have HLa:Hid (zam c.all ws 0 x.a ws.length=za):=by show _=_;rw [HWL.out,HLI.out,Hza.out]
    clear hza
    obtain ⟨zb,hzb⟩:∃ z,wt x.b=z:=⟨_,rfl⟩
    have lb:=HW.out x.b
    rw [hzb] at lb
    have Hzb:=Lib.hid hzb
    have HLb:Hid (zam c.all ws 0 x.b ws.length=zb):=by show _=_;rw [HWL.out,HLI.out,Hzb.out]
    clear hzb
    have hV:=HV2.out
    rw [if_neg n10] at hV
    have HV3:=Lib.hid hV
    clear hV
    have HN10:=Lib.hid n10
    clear n10
    have HW4:Hid (zbL (upd wt x.to (wOf wt x))):=HW.out.upd x
    have hwl:=zbp HW.out x
    have Hwl:=Lib.hid hwl
    clear hwl
    have Hm4:Hid (0<=max m (wOf wt x)/\max m (wOf wt x)<=1000000):=by show _/\_;have:=Hm.out;have:=Hwl.out;omega
    refine (zh x.op (2) _ Hk.out).mono ?_
    rintro e w3 ⟨rfl,rfl⟩
    have hsum:IntKind.i64.wrap (za+zb)=za+zb:=IntWalk.i64_in _ (by omega)
    go_wp2_with fail
    refine (zaC c _ _ ws x.a _ (i0.to gb2) hO2.rdI Hws.out Hws2.out za HLa.out).mono ?_
    rintro e w5 ⟨rfl,cX⟩
    clear p0 p2 p3
    clear ac ag ae ah af ai aw aB ay aC
    have HXw5:=Lib.hid (fun W' (hb:Below w5.heap.size w5 W') => HX9.out W' (bS cX hb))
    replace hO2:=hO2.to cX
    have gw5:=bS gb2 cX
    obtain ⟨p0,p2,p3⟩:=HXw5.out _ (Below.refl _ _)
    obtain ⟨z0,ac,ae,af,aw,ay,ag,ah,ai,aB,aC⟩:=am.out _ gw5
    go_wp2_with fail
    refine (zaC c _ _ ws x.b _ (i0.to gw5) hO2.rdI Hws.out Hws2.out zb HLb.out).mono ?_
    rintro e w6 ⟨rfl,jq⟩
    clear p0 p2 p3
    clear ac ag ae ah af ai aw aB ay aC
    have HXw6:=Lib.hid (fun W' (hb:Below w6.heap.size w6 W') => HXw5.out W' (bS jq hb))
    replace hO2:=hO2.to jq
    have gw6:=bS gw5 jq
    obtain ⟨p0,p2,p3⟩:=HXw6.out _ (Below.refl _ _)
    obtain ⟨z0,ac,ae,af,aw,ay,ag,ah,ai,aB,aC⟩:=am.out _ gw6
    have hgs:=gw6.size
    have hwsl:=Hws2.out
    go_wp2_with (at_builtin;refine zbh _ rfl (.tmp 72) (.tmp 74) 67 3 rfl Tryz.underlying67 (.int .i64 0) 8 (by kernel_rfl) (by decide) (by decide) W0.heap.size _ (ws.map (Value.int .i64)) _ w6.heap.size 1 rfl rfl (hO2.alloc _) (zci _ _ _) rfl (by simp;omega) (by rw [List.length_map];omega) ?_;intro v4 w4 hO4 cG hgr4;have q0:=zcj hgr4 p0 (fun e => by have:=(hneX _ e).2;omega))
    have gb4:Below W0.heap.size W0 w4:=(gw6.alloc hgs _).trans cG
    have hO5:zaJ 3 W0.heap.size w4 v4 ((ws++[min (za+zb) 1000000]).map (Value.int .i64)):=by rw [List.map_append];exact hO4
    have HWL4:Hid ((ws++[min (za+zb) 1000000]).length=k+1):=by show _=_;rw [List.length_append,HWL.out];rfl
    have HVAL:Hid (wOf wt x=min (za+zb) 1000000):=by show _=_;rw [zhQ HSO.out,Hza.out,Hzb.out]
    have HLI4:Hid (∀ r,zam c.all (ws++[min (za+zb) 1000000]) 0 r (k+1)=upd wt x.to (min (za+zb) 1000000) r):=fun r => by rw [HN2.out,HLI.out];exact zcF HN10.out
    have HV4:Hid (zax (upd wt x.to (min (za+zb) 1000000)) (max m (min (za+zb) 1000000)) (c.all.drop (k+1))=o):=by show _=_;rw [<- HVAL.out];exact HV3.out
    have HW5:Hid (zbL (upd wt x.to (min (za+zb) 1000000))):=by show zbL _;rw [<- HVAL.out];exact HW4.out
    have Hm5:Hid (0<=max m (min (za+zb) 1000000)/\max m (min (za+zb) 1000000)<=1000000):=by show _/\_;rw [<- HVAL.out];exact Hm4.out
    clear hwsl hgs p0 p2 p3
    clear ac ag ae ah af ai aw aB ay aC
    go_wp2_with fail
    go_roundw
    case rel => exact ⟨k+1,more L x,upd wt x.to (min (za+zb) 1000000),ws++[min (za+zb) 1000000],max m (min (za+zb) 1000000),by omega,by go_num,rfl,gb4,hO5,HWL4,HLI4,HA2,HV4,HW5,Hm5⟩
    case measure => simp [intOf] <;> omega
   ·
    have HSO:=Lib.hid hso
    have Hk:Hid (zf x.op=1):=by show _=_;rw [HSO.out];decide
    have n10:x.op≠10:=by rw [HSO.out];decide
    have n7:x.op≠7:=by rw [HSO.out];decide
    have t10:(x.op != 10)=true:=by simp;exact n10
    have t7:(x.op == 7)=false:=by simp;exact n7
    clear n7
    clear hso
    obtain ⟨za,hza⟩:∃ z,wt x.a=z:=⟨_,rfl⟩
    have la:=HW.out x.a
    rw [hza] at la
    have Hza:=Lib.hid hza
    have HLa:Hid (zam c.all ws 0 x.a ws.length=za):=by show _=_;rw [HWL.out,HLI.out,Hza.out]
    clear hza
    have hV:=HV2.out
    rw [if_neg n10] at hV
    have HV3:=Lib.hid hV
    clear hV
    have HN10:=Lib.hid n10
    clear n10
    have HW4:Hid (zbL (upd wt x.to (wOf wt x))):=HW.out.upd x
    have hwl:=zbp HW.out x
    have Hwl:=Lib.hid hwl
    clear hwl
    have Hm4:Hid (0<=max m (wOf wt x)/\max m (wOf wt x)<=1000000):=by show _/\_;have:=Hm.out;have:=Hwl.out;omega
    refine (zh x.op (1) _ Hk.out).mono ?_
    rintro e w3 ⟨rfl,rfl⟩
    go_wp2_with fail
    refine (zaC c _ _ ws x.a _ (i0.to gb2) hO2.rdI Hws.out Hws2.out za HLa.out).mono ?_
    rintro e w5 ⟨rfl,cX⟩
    clear p0 p2 p3
    clear ac ag ae ah af ai aw aB ay aC
    have HXw5:=Lib.hid (fun W' (hb:Below w5.heap.size w5 W') => HX9.out W' (bS cX hb))
    replace hO2:=hO2.to cX
    have gw5:=bS gb2 cX
    obtain ⟨p0,p2,p3⟩:=HXw5.out _ (Below.refl _ _)
    obtain ⟨z0,ac,ae,af,aw,ay,ag,ah,ai,aB,aC⟩:=am.out _ gw5
    have hgs:=gw5.size
    have hwsl:=Hws2.out
    go_wp2_with (at_builtin;refine zbh _ rfl (.tmp 72) (.tmp 74) 67 3 rfl Tryz.underlying67 (.int .i64 0) 8 (by kernel_rfl) (by decide) (by decide) W0.heap.size _ (ws.map (Value.int .i64)) _ w5.heap.size 1 rfl rfl (hO2.alloc _) (zci _ _ _) rfl (by simp;omega) (by rw [List.length_map];omega) ?_;intro v4 w4 hO4 cG hgr4;have q0:=zcj hgr4 p0 (fun e => by have:=(hneX _ e).2;omega))
    have gb4:Below W0.heap.size W0 w4:=(gw5.alloc hgs _).trans cG
    have hO5:zaJ 3 W0.heap.size w4 v4 ((ws++[min za 1000000]).map (Value.int .i64)):=by rw [List.map_append];exact hO4
    have HWL4:Hid ((ws++[min za 1000000]).length=k+1):=by show _=_;rw [List.length_append,HWL.out];rfl
    have HVAL:Hid (wOf wt x=min za 1000000):=by show _=_;rw [zid HSO.out,Hza.out]
    have HLI4:Hid (∀ r,zam c.all (ws++[min za 1000000]) 0 r (k+1)=upd wt x.to (min za 1000000) r):=fun r => by rw [HN2.out,HLI.out];exact zcF HN10.out
    have HV4:Hid (zax (upd wt x.to (min za 1000000)) (max m (min za 1000000)) (c.all.drop (k+1))=o):=by show _=_;rw [<- HVAL.out];exact HV3.out
    have HW5:Hid (zbL (upd wt x.to (min za 1000000))):=by show zbL _;rw [<- HVAL.out];exact HW4.out
    have Hm5:Hid (0<=max m (min za 1000000)/\max m (min za 1000000)<=1000000):=by show _/\_;rw [<- HVAL.out];exact Hm4.out
    clear hwsl hgs p0 p2 p3
    clear ac ag ae ah af ai aw aB ay aC
    go_wp2_with fail
    go_roundw
    case rel => exact ⟨k+1,more L x,upd wt x.to (min za 1000000),ws++[min za 1000000],max m (min za 1000000),by omega,by go_num,rfl,gb4,hO5,HWL4,HLI4,HA2,HV4,HW5,Hm5⟩
    case measure => simp [intOf] <;> omega
   ·
    have HSO:=Lib.hid hso
    have Hk:Hid (zf x.op=1):=by show _=_;rw [HSO.out];decide
    have n10:x.op≠10:=by rw [HSO.out];decide
    have y7:x.op=7:=hso
    have t10:(x.op != 10)=true:=by simp;exact n10
    clear hso
    obtain ⟨za,hza⟩:∃ z,wt x.a=z:=⟨_,rfl⟩
    have la:=HW.out x.a
    rw [hza] at la
    have Hza:=Lib.hid hza
    have HLa:Hid (zam c.all ws 0 x.a ws.length=za):=by show _=_;rw [HWL.out,HLI.out,Hza.out]
    clear hza
    have hV:=HV2.out
    rw [if_neg n10] at hV
    have HV3:=Lib.hid hV
    clear hV
    have HN10:=Lib.hid n10
    clear n10
    have HW4:Hid (zbL (upd wt x.to (wOf wt x))):=HW.out.upd x
    have hwl:=zbp HW.out x
    have Hwl:=Lib.hid hwl
    clear hwl
    have Hm4:Hid (0<=max m (wOf wt x)/\max m (wOf wt x)<=1000000):=by show _/\_;have:=Hm.out;have:=Hwl.out;omega
    refine (zh x.op (1) _ Hk.out).mono ?_
    rintro e w3 ⟨rfl,rfl⟩
    have ej:=zcG Hok.out y7
    have HY7:=Lib.hid y7
    obtain ⟨xb,hxb⟩:∃ z,x.b=z:=⟨_,rfl⟩
    rw [hxb] at ej p3
    have Hxb:=Lib.hid hxb
    clear hxb
    have hneg:IntKind.i64.wrap (-xb)=-xb:=IntWalk.i64_in _ (by omega)
    have t7:(x.op == 7)=true:=by simp;exact HY7.out
    clear y7
    by_cases hbg:1<xb
    ·have tg:decide (1<xb)=true:=decide_eq_true hbg
     have tl:decide (xb < -1)=false:=decide_eq_false (by omega)
     have hpr:=zfz la (show 1<=xb/\xb<=21 by omega)
     obtain ⟨pr,hpr'⟩:∃ z,za*(xb)=z:=⟨_,rfl⟩
     rw [hpr'] at hpr
     have hmul:IntKind.i64.wrap pr=pr:=IntWalk.i64_in _ (by omega)
     have HPR:=Lib.hid hpr'
     have HMX:=Lib.hid (show max 1 (max xb (-xb))=xb by omega)
     go_wp2_with fail
     refine (zaC c _ _ ws x.a _ (i0.to gb2) hO2.rdI Hws.out Hws2.out za HLa.out).mono ?_
     rintro e w5 ⟨rfl,cX⟩
     clear p0 p2 p3
     clear ac ag ae ah af ai aw aB ay aC
     have HXw5:=Lib.hid (fun W' (hb:Below w5.heap.size w5 W') => HX9.out W' (bS cX hb))
     replace hO2:=hO2.to cX
     have gw5:=bS gb2 cX
     obtain ⟨p0,p2,p3⟩:=HXw5.out _ (Below.refl _ _)
     rw [Hxb.out] at p3
     obtain ⟨z0,ac,ae,af,aw,ay,ag,ah,ai,aB,aC⟩:=am.out _ gw5
     have hgs:=gw5.size
     have hwsl:=Hws2.out
     go_wp2_with (at_builtin;refine zbh _ rfl (.tmp 72) (.tmp 74) 67 3 rfl Tryz.underlying67 (.int .i64 0) 8 (by kernel_rfl) (by decide) (by decide) W0.heap.size _ (ws.map (Value.int .i64)) _ w5.heap.size 1 rfl rfl (hO2.alloc _) (zci _ _ _) rfl (by simp;omega) (by rw [List.length_map];omega) ?_;intro v4 w4 hO4 cG hgr4;have q0:=zcj hgr4 p0 (fun e => by have:=(hneX _ e).2;omega))
     have gb4:Below W0.heap.size W0 w4:=(gw5.alloc hgs _).trans cG
     have hO5:zaJ 3 W0.heap.size w4 v4 ((ws++[min pr 1000000]).map (Value.int .i64)):=by rw [List.map_append];exact hO4
     have HWL4:Hid ((ws++[min pr 1000000]).length=k+1):=by show _=_;rw [List.length_append,HWL.out];rfl
     have HVAL:Hid (wOf wt x=min pr 1000000):=by show _=_;rw [zdP HY7.out,Hza.out,Hxb.out,HMX.out,HPR.out]
     have HLI4:Hid (∀ r,zam c.all (ws++[min pr 1000000]) 0 r (k+1)=upd wt x.to (min pr 1000000) r):=fun r => by rw [HN2.out,HLI.out];exact zcF HN10.out
     have HV4:Hid (zax (upd wt x.to (min pr 1000000)) (max m (min pr 1000000)) (c.all.drop (k+1))=o):=by show _=_;rw [<- HVAL.out];exact HV3.out
     have HW5:Hid (zbL (upd wt x.to (min pr 1000000))):=by show zbL _;rw [<- HVAL.out];exact HW4.out
     have Hm5:Hid (0<=max m (min pr 1000000)/\max m (min pr 1000000)<=1000000):=by show _/\_;rw [<- HVAL.out];exact Hm4.out
     clear hwsl hgs p0 p2 p3
     clear ac ag ae ah af ai aw aB ay aC
     go_wp2_with fail
     go_roundw
     case rel => exact ⟨k+1,more L x,upd wt x.to (min pr 1000000),ws++[min pr 1000000],max m (min pr 1000000),by omega,by go_num,rfl,gb4,hO5,HWL4,HLI4,HA2,HV4,HW5,Hm5⟩
     case measure => simp [intOf] <;> omega
    by_cases hbl:xb < -1
    ·have tg:decide (1<xb)=false:=decide_eq_false hbg
     have tl:decide (xb < -1)=true:=decide_eq_true hbl
     have hpr:=zfz la (show 1<=-xb/\-xb<=21 by omega)
     obtain ⟨pr,hpr'⟩:∃ z,za*(-xb)=z:=⟨_,rfl⟩
     rw [hpr'] at hpr
     have hmul:IntKind.i64.wrap pr=pr:=IntWalk.i64_in _ (by omega)
     have HPR:=Lib.hid hpr'
     have HMX:=Lib.hid (show max 1 (max xb (-xb))=-xb by omega)
     go_wp2_with fail
     refine (zaC c _ _ ws x.a _ (i0.to gb2) hO2.rdI Hws.out Hws2.out za HLa.out).mono ?_
     rintro e w5 ⟨rfl,cX⟩
     clear p0 p2 p3
     clear ac ag ae ah af ai aw aB ay aC
     have HXw5:=Lib.hid (fun W' (hb:Below w5.heap.size w5 W') => HX9.out W' (bS cX hb))
     replace hO2:=hO2.to cX
     have gw5:=bS gb2 cX
     obtain ⟨p0,p2,p3⟩:=HXw5.out _ (Below.refl _ _)
     rw [Hxb.out] at p3
     obtain ⟨z0,ac,ae,af,aw,ay,ag,ah,ai,aB,aC⟩:=am.out _ gw5
     have hgs:=gw5.size
     have hwsl:=Hws2.out
     go_wp2_with (at_builtin;refine zbh _ rfl (.tmp 72) (.tmp 74) 67 3 rfl Tryz.underlying67 (.int .i64 0) 8 (by kernel_rfl) (by decide) (by decide) W0.heap.size _ (ws.map (Value.int .i64)) _ w5.heap.size 1 rfl rfl (hO2.alloc _) (zci _ _ _) rfl (by simp;omega) (by rw [List.length_map];omega) ?_;intro v4 w4 hO4 cG hgr4;have q0:=zcj hgr4 p0 (fun e => by have:=(hneX _ e).2;omega))
     have gb4:Below W0.heap.size W0 w4:=(gw5.alloc hgs _).trans cG
     have hO5:zaJ 3 W0.heap.size w4 v4 ((ws++[min pr 1000000]).map (Value.int .i64)):=by rw [List.map_append];exact hO4
     have HWL4:Hid ((ws++[min pr 1000000]).length=k+1):=by show _=_;rw [List.length_append,HWL.out];rfl
     have HVAL:Hid (wOf wt x=min pr 1000000):=by show _=_;rw [zdP HY7.out,Hza.out,Hxb.out,HMX.out,HPR.out]
     have HLI4:Hid (∀ r,zam c.all (ws++[min pr 1000000]) 0 r (k+1)=upd wt x.to (min pr 1000000) r):=fun r => by rw [HN2.out,HLI.out];exact zcF HN10.out
     have HV4:Hid (zax (upd wt x.to (min pr 1000000)) (max m (min pr 1000000)) (c.all.drop (k+1))=o):=by show _=_;rw [<- HVAL.out];exact HV3.out
     have HW5:Hid (zbL (upd wt x.to (min pr 1000000))):=by show zbL _;rw [<- HVAL.out];exact HW4.out
     have Hm5:Hid (0<=max m (min pr 1000000)/\max m (min pr 1000000)<=1000000):=by show _/\_;rw [<- HVAL.out];exact Hm4.out
     clear hwsl hgs p0 p2 p3
     clear ac ag ae ah af ai aw aB ay aC
     go_wp2_with fail
     go_roundw
     case rel => exact ⟨k+1,more L x,upd wt x.to (min pr 1000000),ws++[min pr 1000000],max m (min pr 1000000),by omega,by go_num,rfl,gb4,hO5,HWL4,HLI4,HA2,HV4,HW5,Hm5⟩
     case measure => simp [intOf] <;> omega
    ·have tg:decide (1<xb)=false:=decide_eq_false hbg
     have tl:decide (xb < -1)=false:=decide_eq_false hbl
     have HMX:=Lib.hid (show max 1 (max xb (-xb))=1 by omega)
     go_wp2_with fail
     refine (zaC c _ _ ws x.a _ (i0.to gb2) hO2.rdI Hws.out Hws2.out za HLa.out).mono ?_
     rintro e w5 ⟨rfl,cX⟩
     clear p0 p2 p3
     clear ac ag ae ah af ai aw aB ay aC
     have HXw5:=Lib.hid (fun W' (hb:Below w5.heap.size w5 W') => HX9.out W' (bS cX hb))
     replace hO2:=hO2.to cX
     have gw5:=bS gb2 cX
     obtain ⟨p0,p2,p3⟩:=HXw5.out _ (Below.refl _ _)
     rw [Hxb.out] at p3
     obtain ⟨z0,ac,ae,af,aw,ay,ag,ah,ai,aB,aC⟩:=am.out _ gw5
     have hgs:=gw5.size
     have hwsl:=Hws2.out
     go_wp2_with (at_builtin;refine zbh _ rfl (.tmp 72) (.tmp 74) 67 3 rfl Tryz.underlying67 (.int .i64 0) 8 (by kernel_rfl) (by decide) (by decide) W0.heap.size _ (ws.map (Value.int .i64)) _ w5.heap.size 1 rfl rfl (hO2.alloc _) (zci _ _ _) rfl (by simp;omega) (by rw [List.length_map];omega) ?_;intro v4 w4 hO4 cG hgr4;have q0:=zcj hgr4 p0 (fun e => by have:=(hneX _ e).2;omega))
     have gb4:Below W0.heap.size W0 w4:=(gw5.alloc hgs _).trans cG
     have hO5:zaJ 3 W0.heap.size w4 v4 ((ws++[min za 1000000]).map (Value.int .i64)):=by rw [List.map_append];exact hO4
     have HWL4:Hid ((ws++[min za 1000000]).length=k+1):=by show _=_;rw [List.length_append,HWL.out];rfl
     have HVAL:Hid (wOf wt x=min za 1000000):=by show _=_;rw [zdP HY7.out,Hza.out,Hxb.out,HMX.out,Int.mul_one]
     have HLI4:Hid (∀ r,zam c.all (ws++[min za 1000000]) 0 r (k+1)=upd wt x.to (min za 1000000) r):=fun r => by rw [HN2.out,HLI.out];exact zcF HN10.out
     have HV4:Hid (zax (upd wt x.to (min za 1000000)) (max m (min za 1000000)) (c.all.drop (k+1))=o):=by show _=_;rw [<- HVAL.out];exact HV3.out
     have HW5:Hid (zbL (upd wt x.to (min za 1000000))):=by show zbL _;rw [<- HVAL.out];exact HW4.out
     have Hm5:Hid (0<=max m (min za 1000000)/\max m (min za 1000000)<=1000000):=by show _/\_;rw [<- HVAL.out];exact Hm4.out
     clear hwsl hgs p0 p2 p3
     clear ac ag ae ah af ai aw aB ay aC
     go_wp2_with fail
     go_roundw
     case rel => exact ⟨k+1,more L x,upd wt x.to (min za 1000000),ws++[min za 1000000],max m (min za 1000000),by omega,by go_num,rfl,gb4,hO5,HWL4,HLI4,HA2,HV4,HW5,Hm5⟩
     case measure => simp [intOf] <;> omega
   ·
    have HSO:=Lib.hid hso
    have Hk:Hid (zf x.op=1):=by show _=_;rw [HSO.out];decide
    have n7:x.op≠7:=by rw [HSO.out];decide
    have y10:x.op=10:=hso
    have t10:(x.op != 10)=false:=by simp;exact y10
    have t7:(x.op == 7)=false:=by simp;exact n7
    clear n7
    clear hso
    obtain ⟨za,hza⟩:∃ z,wt x.a=z:=⟨_,rfl⟩
    have la:=HW.out x.a
    rw [hza] at la
    have Hza:=Lib.hid hza
    have HLa:Hid (zam c.all ws 0 x.a ws.length=za):=by show _=_;rw [HWL.out,HLI.out,Hza.out]
    clear hza
    have hV:=HV2.out
    rw [if_pos y10] at hV
    have HV3:=Lib.hid hV
    clear hV
    have HY10:=Lib.hid y10
    clear y10
    refine (zh x.op (1) _ Hk.out).mono ?_
    rintro e w3 ⟨rfl,rfl⟩
    go_wp2_with fail
    refine (zaC c _ _ ws x.a _ (i0.to gb2) hO2.rdI Hws.out Hws2.out za HLa.out).mono ?_
    rintro e w5 ⟨rfl,cX⟩
    clear p0 p2 p3
    clear ac ag ae ah af ai aw aB ay aC
    have HXw5:=Lib.hid (fun W' (hb:Below w5.heap.size w5 W') => HX9.out W' (bS cX hb))
    replace hO2:=hO2.to cX
    have gw5:=bS gb2 cX
    obtain ⟨p0,p2,p3⟩:=HXw5.out _ (Below.refl _ _)
    obtain ⟨z0,ac,ae,af,aw,ay,ag,ah,ai,aB,aC⟩:=am.out _ gw5
    have hgs:=gw5.size
    have hwsl:=Hws2.out
    go_wp2_with (at_builtin;refine zbh _ rfl (.tmp 72) (.tmp 74) 67 3 rfl Tryz.underlying67 (.int .i64 0) 8 (by kernel_rfl) (by decide) (by decide) W0.heap.size _ (ws.map (Value.int .i64)) _ w5.heap.size 1 rfl rfl (hO2.alloc _) (zci _ _ _) rfl (by simp;omega) (by rw [List.length_map];omega) ?_;intro v4 w4 hO4 cG hgr4;have q0:=zcj hgr4 p0 (fun e => by have:=(hneX _ e).2;omega))
    have gb4:Below W0.heap.size W0 w4:=(gw5.alloc hgs _).trans cG
    have hO5:zaJ 3 W0.heap.size w4 v4 ((ws++[min za 1000000]).map (Value.int .i64)):=by rw [List.map_append];exact hO4
    have HWL4:Hid ((ws++[min za 1000000]).length=k+1):=by show _=_;rw [List.length_append,HWL.out];rfl
    have HLI4:Hid (∀ r,zam c.all (ws++[min za 1000000]) 0 r (k+1)=wt r):=fun r => by rw [HN2.out,HLI.out];exact last_ten HY10.out
    clear hwsl hgs p0 p2 p3
    clear ac ag ae ah af ai aw aB ay aC
    go_wp2_with fail
    go_roundw
    case rel => exact ⟨k+1,more L x,wt,ws++[min za 1000000],m,by omega,by go_num,rfl,gb4,hO5,HWL4,HLI4,HA2,HV3,HW,Hm⟩
    case measure => simp [intOf] <;> omega
  ·obtain rfl:k=n0:=by omega
   have ho:m=o:=by
    have:=HV.out
    rw [<- H0.out,List.drop_length] at this
    exact this
   subst ho
   go_wp2_with fail
   go_ret
   exact ⟨rfl,bS zb gb⟩

theorem zeU (c:Cd) (v:Value) (w:World) (hc:IsC w c v) (hs:zW 1000 c.all) (o:Int) (ho:zcv c=o) :
  Calls Tryz.prog 17 #[aggC c v] w (fun e w' => e=.returned (.int .i64 o)/\Below w.heap.size w w'):=by
 unfold zcv at ho
 cases h1:zF c with
 | false => rw [h1] at ho;obtain rfl:0=o:=ho;exact zgj c v w hc hs h1
 | true => rw [h1,if_pos rfl] at ho;exact zfm c v w hc hs h1 o ho

end Go.Proofs.YtkjcdnlpjldhaaaGreat


namespace Go.Proofs.YtkjcdnlpjldhaaaGreat
open Go.RowKit Tw
attribute [local go_sem ↓] Go.wp_at_zero Go.wp_at_succ

theorem zjg (c:Cd) (v:Value) (w:World) (hc:IsC w c v) (hs:zW 1000 c.all) (h0:zF c=false) :
  Calls Tryz.prog 16 #[aggC c v] w (fun e w' => e=.returned (.int .i64 0)/\Below w.heap.size w w'):=by
 have Hs:=Lib.hid hs
 have Hr0:=Lib.hid h0
 clear hs h0
 obtain ⟨a0,n0,c0,rfl,H0,hm0⟩:=hc.1.open
 go_enter Tryz.func16,Tryz.ntmps16
 go_wp2_with fail
 obtain ⟨W0,az⟩:∃ W0,w.alloc (.cells #[.int .i64 c.ins,.int .i64 c.rows,.int .i64 c.cols,.int .i64 c.regs,.slice a0 n0 c0] 24)=W0:=⟨_,rfl⟩
 have am:=Lib.hid (show ∀ W',Below W0.heap.size W0 W'->(Bx5 W' w.heap.size (.int .i64 c.ins) (.int .i64 c.rows) (.int .i64 c.cols) (.int .i64 c.regs) (.slice a0 n0 c0)) from fun W' hb => by
   apply bx5 hb
   all_goals first|assumption|(rw [<- az];simp [go_sem]))
 have zb:Below w.heap.size w W0:=by rw [<- az];exact bN _ _
 rw [az]
 clear az
 have i0:=hc.to zb
 have gb:Below W0.heap.size W0 W0:=Below.refl _ _
 obtain ⟨z0,ac,ae,af,aw,ay,ag,ah,ai,aB,aC⟩:=am.out _ gb
 go_wp2_with fail
 refine (zcA c _ _ (i0.to gb) Hs.out false Hr0.out).mono ?_
 clear ac ag ae ah af ai aw aB ay aC
 rintro e w1 ⟨rfl,bd⟩
 replace gb:=bS gb bd
 obtain ⟨z0,ac,ae,af,aw,ay,ag,ah,ai,aB,aC⟩:=am.out _ gb
 go_wp2_with fail
 go_ret
 exact ⟨rfl,bS zb gb⟩

theorem zhH (c:Cd) (v:Value) (w:World) (hc:IsC w c v) (hs:zW 1000 c.all) (h1:zF c=true) (o:Int) (ho:zax (fun _ => 0) 0 c.all=o) :
  Calls Tryz.prog 16 #[aggC c v] w (fun e w' => e=.returned (.int .i64 o)/\Below w.heap.size w w'):=by
 have h0:zaT c=true:=by unfold zF at h1;simp only [Bool.and_eq_true] at h1;exact h1.1
 have hh:=h0
 unfold zaT at hh
 simp only [decide_eq_true_eq] at hh
 obtain ⟨N,hN⟩:=Int.eq_ofNat_of_zero_le hh.2.2.2.2.2.1
 have hN1:N<=100000:=by omega
 have Hr:=Lib.hid (show 1<=c.rows/\c.rows<=40 by omega)
 have Hcl:=Lib.hid (show 1<=c.cols/\c.cols<=40 by omega)
 have HN:=Lib.hid hN
 clear hh
 have ha:zaq c [] c.all=true:=by unfold zF at h1;simp only [Bool.and_eq_true] at h1;exact h1.2
 have hlen:c.all.length<=100000:=by unfold zaT at h0;simp only [decide_eq_true_eq] at h0;exact h0.2.2.2.2.2.2.2
 clear hN h0
 have Hs:=Lib.hid hs
 have Ho:=Lib.hid ho
 have Ha:=Lib.hid ha
 have Hrt:=Lib.hid h1
 have Hlen:=Lib.hid hlen
 clear hs ho ha h1 hlen
 obtain ⟨a0,n0,c0,rfl,H0,hm0⟩:=hc.1.open
 have hn0:n0<=100000:=by have:=H0.out;have:=Hlen.out;omega
 go_enter Tryz.func16,Tryz.ntmps16
 go_wp2_with fail
 obtain ⟨W0,az⟩:∃ W0,w.alloc (.cells #[.int .i64 c.ins,.int .i64 c.rows,.int .i64 c.cols,.int .i64 c.regs,.slice a0 n0 c0] 24)=W0:=⟨_,rfl⟩
 have am:=Lib.hid (show ∀ W',Below W0.heap.size W0 W'->(Bx5 W' w.heap.size (.int .i64 c.ins) (.int .i64 c.rows) (.int .i64 c.cols) (.int .i64 c.regs) (.slice a0 n0 c0)) from fun W' hb => by
   apply bx5 hb
   all_goals first|assumption|(rw [<- az];simp [go_sem]))
 have zb:Below w.heap.size w W0:=by rw [<- az];exact bN _ _
 rw [az]
 clear az
 have i0:=hc.to zb
 have gb:Below W0.heap.size W0 W0:=Below.refl _ _
 obtain ⟨z0,ac,ae,af,aw,ay,ag,ah,ai,aB,aC⟩:=am.out _ gb
 go_wp2_with fail
 refine (zcA c _ _ (i0.to gb) Hs.out true Hrt.out).mono ?_
 clear ac ag ae ah af ai aw aB ay aC
 rintro e w0 ⟨rfl,fq⟩
 replace gb:=bS gb fq
 obtain ⟨z0,ac,ae,af,aw,ay,ag,ah,ai,aB,aC⟩:=am.out _ gb
 have hgs:=gb.size
 go_wp2_with (
  at_make
  refine zir _ rfl _ _ 67 3 rfl Tryz.underlying67 (.int .i64 0) 1 8 (by kernel_rfl) rfl (by decide) _ _ _ _ N rfl rfl HN.out HN.out (by omega) ?_
  intro w1 hr1 bd
  clear ac ag ae ah af ai aw aB ay aC
  replace gb:=bS gb bd
  obtain ⟨z0,ac,ae,af,aw,ay,ag,ah,ai,aB,aC⟩:=am.out _ gb
  rw [Nat.mul_one] at hr1
  replace hr1:zaV w1 w0.heap.size N (fun i => .int .i64 ((fun _ => 0:Int->Int) i)):=hr1.cast (fun i _ => by simp [Nat.mod_one,Value.cells]))
 obtain ⟨g,hg⟩:∃ g,w0.heap.size=g:=⟨_,rfl⟩
 have hgW:W0.heap.size<=g:=by rw [<- hg];exact hgs
 rw [hg] at hr1
 rw [hg]
 clear hg
 go_loopw [4,19] (fun s i ww => ∃ (k:Nat) (L:List Int) (wt:Int->Int) (m:Int),k<=n0/\i=.int .i64 k/\s=.int .i64 m/\Below W0.heap.size W0 ww/\zaV ww g N (fun i => .int .i64 (wt i))/\Hid (zaq c L (c.all.drop k)=true)/\Hid (zax wt m (c.all.drop k)=o)/\Hid (∀ x ∈ L,0<=x/\x<(N:Int))/\Hid (zbL wt)/\Hid (0<=m/\m<=1000000)) (fun _ i _ => n0 - (intOf i).toNat)
 case atStart => exact ⟨0,[],fun _ => 0,0,Nat.zero_le _,rfl,rfl,gb,hr1,by rw [List.drop_zero];exact Ha.out,by rw [List.drop_zero];exact Ho.out,fun x hx => (by cases hx),fun r => ⟨Int.le_refl _,by show (0:Int)<=1000000;decide⟩,⟨by decide,by decide⟩⟩
 case round =>
  clear gb hr1 ac ag ae ah af ai aw aB ay aC
  obtain ⟨k,L,wt,m,hk,rfl,rfl,gb,hrow,HA,HV,HL,HW,Hm⟩:=hrel
  obtain ⟨z0,ac,ae,af,aw,ay,ag,ah,ai,aB,aC⟩:=am.out _ gb
  by_cases hkn:k<n0
  ·have hki:(k:Int)<(n0:Int):=by omega
   have hkl:k<c.all.length:=by rw [H0.out];exact hkn
   obtain ⟨b,off,rfl,h7⟩:=(i0.to gb).1.nth hkl
   have HA1:=HA.out
   rw [zbw hkl] at HA1
   have HV1:=HV.out
   rw [zeV hkl] at HV1
   have hsx:=Hs.out _ (List.getElem_mem hkl)
   obtain ⟨x,hx⟩:∃ x,c.all[k]=x:=⟨_,rfl⟩
   rw [hx] at HA1 HV1 h7 hsx
   obtain ⟨hok,hA1⟩:=(Bool.and_eq_true _ _).mp HA1
   obtain ⟨vn,vd,s0,s1,s2,s3,s4,s5,s6,hX⟩:=h7.isX hsx.1 hsx.2
   obtain ⟨a1,n1,c1,rfl,H1,hm1⟩:=hX.1.1.open
   obtain ⟨a2,n2,c2,rfl,H2,hm2⟩:=hX.1.2.1.open
   have Hok:=Lib.hid hok
   have HA2:=Lib.hid hA1
   have HV2:=Lib.hid HV1
   clear HA HA1 HV HV1 hok hA1 h7 hsx hx hX hki
   have hki:(k:Int)<(n0:Int):=by omega
   go_wp2_with fail
   clear s0 s1 s2 s3 s4 s5 s6
   obtain ⟨W2,cO⟩:∃ W2,wr.alloc (.cells #[.int .i64 x.op,.int .i64 x.to,.int .i64 x.a,.int .i64 x.b,.bool x.q.ng,.slice a1 n1 c1,.slice a2 n2 c2] 49)=W2:=⟨_,rfl⟩
   have aN:Below wr.heap.size wr W2:=by rw [<- cO];exact bN _ _
   have HT:Hid (∀ W',Below W2.heap.size W2 W'->W'.cell? ⟨wr.heap.size,0,none⟩=some (.int .i64 x.op)/\W'.cell? ⟨wr.heap.size,1,none⟩=some (.int .i64 x.to)/\W'.cell? ⟨wr.heap.size,2,none⟩=some (.int .i64 x.a)/\W'.cell? ⟨wr.heap.size,3,none⟩=some (.int .i64 x.b)/\W'.cell? ⟨wr.heap.size,4,none⟩=some (.bool x.q.ng)/\W'.cell? ⟨wr.heap.size,5,none⟩=some (.slice a1 n1 c1)/\W'.cell? ⟨wr.heap.size,6,none⟩=some (.slice a2 n2 c2)):=fun W' hb => by
    have hl:wr.heap.size<W2.heap.size:=by rw [<- cO];simp
    refine ⟨(hb.cell (p:=⟨wr.heap.size,0,none⟩) hl).trans (by rw [<- cO];simp [go_sem]),(hb.cell (p:=⟨wr.heap.size,1,none⟩) hl).trans (by rw [<- cO];simp [go_sem]),(hb.cell (p:=⟨wr.heap.size,2,none⟩) hl).trans (by rw [<- cO];simp [go_sem]),(hb.cell (p:=⟨wr.heap.size,3,none⟩) hl).trans (by rw [<- cO];simp [go_sem]),(hb.cell (p:=⟨wr.heap.size,4,none⟩) hl).trans (by rw [<- cO];simp [go_sem]),(hb.cell (p:=⟨wr.heap.size,5,none⟩) hl).trans (by rw [<- cO];simp [go_sem]),(hb.cell (p:=⟨wr.heap.size,6,none⟩) hl).trans (by rw [<- cO];simp [go_sem])⟩
   have hgx0:=hrow.lt
   have hgx1:g≠wr.heap.size:=by omega
   have hgx2:wr.heap.size≠g:=by omega
   have hW2s:wr.heap.size<W2.heap.size:=by rw [<- cO];simp
   rw [cO]
   clear cO
   have hrow2:=hrow.to aN
   clear hrow
   clear ac ag ae ah af ai aw aB ay aC
   have gb2:=bS gb aN
   obtain ⟨z0,ac,ae,af,aw,ay,ag,ah,ai,aB,aC⟩:=am.out _ gb2
   obtain ⟨s0,s1,s2,s3,s4,s5,s6⟩:=HT.out _ (Below.refl _ _)
   go_wp2_with fail
   rcases zdW (zaW Hok.out) with hso|hso|hso|hso|hso
   ·
    have K1:Hid (decide (1<=zf x.op)=false):=by show _=_;rcases hso with e|e <;> rw [e] <;> decide
    have K2:Hid (decide (zf x.op=2)=false):=by show _=_;rcases hso with e|e <;> rw [e] <;> decide
    have K3:Hid (decide (x.op=7)=false):=by show _=_;rcases hso with e|e <;> rw [e] <;> decide
    have h10:x.op≠10:=by rcases hso with e|e <;> rw [e] <;> decide
    have t10:(x.op != 10)=true:=by simp;exact h10
    have hto:=zdj Hok.out h10
    obtain ⟨T,hT⟩:=Int.eq_ofNat_of_zero_le hto.1
    have hTN:T<N:=by have:=HN.out;omega
    rw [hT] at s1
    have em:more L x=L++[(T:Int)]:=by unfold more;rw [if_neg h10,hT]
    have HA4:Hid (zaq c (L++[(T:Int)]) (c.all.drop (k+1))=true):=by show _=_;rw [<- em];exact HA2.out
    have HL4:Hid (∀ x ∈ L++[(T:Int)],0<=x/\x<(N:Int)):=fun y hy => by
     rcases List.mem_append.1 hy with hy|hy
     ·exact HL.out y hy
     ·rw [List.mem_singleton.1 hy];omega
    have hV:=HV2.out
    rw [if_neg h10] at hV
    have HW4:Hid (zbL (upd wt x.to (wOf wt x))):=HW.out.upd x
    have hwl:=zbp HW.out x
    have Hm4:Hid (0<=max m (wOf wt x)/\max m (wOf wt x)<=1000000):=by show _/\_;have:=Hm.out;omega
    have hwo:wOf wt x=1:=by rw [zga hso]
    obtain ⟨z,hz⟩:∃ z,wOf wt x=z:=⟨_,rfl⟩
    rw [hz] at hwo hwl Hm4 HW4 hV
    rw [hT] at HW4 hV
    have HZ:=Lib.hid hwo
    have HV4:=Lib.hid hV
    clear hV hwo hz em hto h10
    clear hso
    refine (zr x.op false false false true _ K1.out K2.out K3.out (decide_eq_true (zaW Hok.out))).mono ?_
    rintro e w3 ⟨rfl,bs⟩
    have q1:=s1
    clear s0 s1 s2 s3 s4 s5 s6
    clear ac ag ae ah af ai aw aB ay aC
    have gb3:=bS gb2 bs
    have hrow3:=hrow2.to bs
    have gl:=hrow3.lt
    have hxl:wr.heap.size<w3.heap.size:=Nat.lt_of_lt_of_le hW2s bs.size
    obtain ⟨s0,s1,s2,s3,s4,s5,s6⟩:=HT.out _ bs
    obtain ⟨z0,ac,ae,af,aw,ay,ag,ah,ai,aB,aC⟩:=am.out _ gb3
    rw [hT] at s1
    obtain ⟨rT,fT⟩:=hrow3.2 T hTN
    have hTi:(T:Int)<(N:Int):=by omega
    have HTT:=Lib.hid hT
    clear hrow2 hT
    obtain ⟨j0,j1,j2,j3,j4,j5,j6⟩:=HT.out _ (bS bs (bN w3 (.cells #[.bool false,.bool false,.bool false] 70)))
    have hrow4:=hrow3.alloc (.cells #[.bool false,.bool false,.bool false] 70)
    rw [HTT.out] at j1
    obtain ⟨rT4,fT4⟩:=hrow4.2 T hTN
    go_wp2_with fail
    go_roundw
    case rel =>
     obtain rfl:=HZ.out
     exact ⟨k+1,L++[(T:Int)],upd wt (T:Int) _,max m _,by omega,by go_num,rfl,(gb3.setCell hgW _).alloc (by simp;omega) _,((hrow3.set T _).cast (fun i _ => zfr (N:=N) i)).alloc _,HA4,HV4,HL4,HW4,Hm4⟩
    case measure => simp [intOf] <;> omega
   ·
    have K1:Hid (decide (1<=zf x.op)=true):=by show _=_;rw [hso];decide
    have K2:Hid (decide (zf x.op=2)=true):=by show _=_;rw [hso];decide
    have K3:Hid (decide (x.op=7)=false):=by show _=_;refine decide_eq_false (fun e => ?_);rw [e] at hso;exact absurd hso (by decide)
    have h10:x.op≠10:=fun e => by rw [e] at hso;exact absurd hso (by decide)
    have t10:(x.op != 10)=true:=by simp;exact h10
    have hto:=zdj Hok.out h10
    obtain ⟨T,hT⟩:=Int.eq_ofNat_of_zero_le hto.1
    have hTN:T<N:=by have:=HN.out;omega
    rw [hT] at s1
    have em:more L x=L++[(T:Int)]:=by unfold more;rw [if_neg h10,hT]
    have HA4:Hid (zaq c (L++[(T:Int)]) (c.all.drop (k+1))=true):=by show _=_;rw [<- em];exact HA2.out
    have HL4:Hid (∀ x ∈ L++[(T:Int)],0<=x/\x<(N:Int)):=fun y hy => by
     rcases List.mem_append.1 hy with hy|hy
     ·exact HL.out y hy
     ·rw [List.mem_singleton.1 hy];omega
    have hV:=HV2.out
    rw [if_neg h10] at hV
    have HW4:Hid (zbL (upd wt x.to (wOf wt x))):=HW.out.upd x
    have hwl:=zbp HW.out x
    have Hm4:Hid (0<=max m (wOf wt x)/\max m (wOf wt x)<=1000000):=by show _/\_;have:=Hm.out;omega
    have ha:=HL.out _ (zag Hok.out (by omega))
    obtain ⟨A,hA⟩:=Int.eq_ofNat_of_zero_le ha.1
    have hAN:A<N:=by omega
    rw [hA] at s2
    have hAi:(A:Int)<(N:Int):=by omega
    obtain ⟨za,hza⟩:∃ z,wt (A:Int)=z:=⟨_,rfl⟩
    have la:=HW.out (A:Int)
    rw [hza] at la
    have hb:=HL.out _ (zbc Hok.out hso)
    obtain ⟨Bb,hB⟩:=Int.eq_ofNat_of_zero_le hb.1
    have hBN:Bb<N:=by omega
    rw [hB] at s3
    have hBi:(Bb:Int)<(N:Int):=by omega
    obtain ⟨zb',hzb⟩:∃ z,wt (Bb:Int)=z:=⟨_,rfl⟩
    have lb:=HW.out (Bb:Int)
    rw [hzb] at lb
    have hsum:IntKind.i64.wrap (za+zb')=za+zb':=IntWalk.i64_in _ (by omega)
    have hwo:wOf wt x=min (za+zb') 1000000:=by rw [zhQ hso,hA,hB,hza,hzb]
    obtain ⟨z,hz⟩:∃ z,wOf wt x=z:=⟨_,rfl⟩
    rw [hz] at hwo hwl Hm4 HW4 hV
    rw [hT] at HW4 hV
    have HZ:=Lib.hid hwo
    have HV4:=Lib.hid hV
    clear hV hwo hz em hto h10
    clear hso
    refine (zr x.op true true false true _ K1.out K2.out K3.out (decide_eq_true (zaW Hok.out))).mono ?_
    rintro e w3 ⟨rfl,bs⟩
    have q1:=s1
    clear s0 s1 s2 s3 s4 s5 s6
    clear ac ag ae ah af ai aw aB ay aC
    have gb3:=bS gb2 bs
    have hrow3:=hrow2.to bs
    have gl:=hrow3.lt
    have hxl:wr.heap.size<w3.heap.size:=Nat.lt_of_lt_of_le hW2s bs.size
    obtain ⟨s0,s1,s2,s3,s4,s5,s6⟩:=HT.out _ bs
    obtain ⟨z0,ac,ae,af,aw,ay,ag,ah,ai,aB,aC⟩:=am.out _ gb3
    rw [hT] at s1
    obtain ⟨rT,fT⟩:=hrow3.2 T hTN
    have hTi:(T:Int)<(N:Int):=by omega
    rw [hA] at s2
    have qa:w3.cell? ⟨g,A,none⟩=some (.int .i64 za):=by rw [<- hza];exact (hrow3.2 A hAN).1
    rw [hB] at s3
    have qb:w3.cell? ⟨g,Bb,none⟩=some (.int .i64 zb'):=by rw [<- hzb];exact (hrow3.2 Bb hBN).1
    have HTT:=Lib.hid hT
    have HAA:=Lib.hid hA
    have HZA:=Lib.hid hza
    have HBB:=Lib.hid hB
    have HZB:=Lib.hid hzb
    clear hrow2 hA hza ha hB hzb hb hT
    obtain ⟨j0,j1,j2,j3,j4,j5,j6⟩:=HT.out _ (bS bs (bN w3 (.cells #[.bool true,.bool true,.bool false] 70)))
    have hrow4:=hrow3.alloc (.cells #[.bool true,.bool true,.bool false] 70)
    rw [HTT.out] at j1
    obtain ⟨rT4,fT4⟩:=hrow4.2 T hTN
    rw [HAA.out] at j2
    have qa4:(w3.alloc (.cells #[.bool true,.bool true,.bool false] 70)).cell? ⟨g,A,none⟩=some (.int .i64 za):=by rw [<- HZA.out];exact (hrow4.2 A hAN).1
    rw [HBB.out] at j3
    have qb4:(w3.alloc (.cells #[.bool true,.bool true,.bool false] 70)).cell? ⟨g,Bb,none⟩=some (.int .i64 zb'):=by rw [<- HZB.out];exact (hrow4.2 Bb hBN).1
    go_wp2_with fail
    go_roundw
    case rel =>
     obtain rfl:=HZ.out
     exact ⟨k+1,L++[(T:Int)],upd wt (T:Int) _,max m _,by omega,by go_num,rfl,(gb3.setCell hgW _).alloc (by simp;omega) _,((hrow3.set T _).cast (fun i _ => zfr (N:=N) i)).alloc _,HA4,HV4,HL4,HW4,Hm4⟩
    case measure => simp [intOf] <;> omega
   ·
    have K1:Hid (decide (1<=zf x.op)=true):=by show _=_;rw [hso];decide
    have K2:Hid (decide (zf x.op=2)=false):=by show _=_;rw [hso];decide
    have K3:Hid (decide (x.op=7)=false):=by show _=_;rw [hso];decide
    have h10:x.op≠10:=by rw [hso];decide
    have t10:(x.op != 10)=true:=by simp;exact h10
    have hto:=zdj Hok.out h10
    obtain ⟨T,hT⟩:=Int.eq_ofNat_of_zero_le hto.1
    have hTN:T<N:=by have:=HN.out;omega
    rw [hT] at s1
    have em:more L x=L++[(T:Int)]:=by unfold more;rw [if_neg h10,hT]
    have HA4:Hid (zaq c (L++[(T:Int)]) (c.all.drop (k+1))=true):=by show _=_;rw [<- em];exact HA2.out
    have HL4:Hid (∀ x ∈ L++[(T:Int)],0<=x/\x<(N:Int)):=fun y hy => by
     rcases List.mem_append.1 hy with hy|hy
     ·exact HL.out y hy
     ·rw [List.mem_singleton.1 hy];omega
    have hV:=HV2.out
    rw [if_neg h10] at hV
    have HW4:Hid (zbL (upd wt x.to (wOf wt x))):=HW.out.upd x
    have hwl:=zbp HW.out x
    have Hm4:Hid (0<=max m (wOf wt x)/\max m (wOf wt x)<=1000000):=by show _/\_;have:=Hm.out;omega
    have ha:=HL.out _ (zag Hok.out (by rw [hso];decide))
    obtain ⟨A,hA⟩:=Int.eq_ofNat_of_zero_le ha.1
    have hAN:A<N:=by omega
    rw [hA] at s2
    have hAi:(A:Int)<(N:Int):=by omega
    obtain ⟨za,hza⟩:∃ z,wt (A:Int)=z:=⟨_,rfl⟩
    have la:=HW.out (A:Int)
    rw [hza] at la
    have hwo:wOf wt x=min za 1000000:=by rw [zid hso,hA,hza]
    obtain ⟨z,hz⟩:∃ z,wOf wt x=z:=⟨_,rfl⟩
    rw [hz] at hwo hwl Hm4 HW4 hV
    rw [hT] at HW4 hV
    have HZ:=Lib.hid hwo
    have HV4:=Lib.hid hV
    clear hV hwo hz em hto h10
    clear hso
    refine (zr x.op true false false true _ K1.out K2.out K3.out (decide_eq_true (zaW Hok.out))).mono ?_
    rintro e w3 ⟨rfl,bs⟩
    have q1:=s1
    clear s0 s1 s2 s3 s4 s5 s6
    clear ac ag ae ah af ai aw aB ay aC
    have gb3:=bS gb2 bs
    have hrow3:=hrow2.to bs
    have gl:=hrow3.lt
    have hxl:wr.heap.size<w3.heap.size:=Nat.lt_of_lt_of_le hW2s bs.size
    obtain ⟨s0,s1,s2,s3,s4,s5,s6⟩:=HT.out _ bs
    obtain ⟨z0,ac,ae,af,aw,ay,ag,ah,ai,aB,aC⟩:=am.out _ gb3
    rw [hT] at s1
    obtain ⟨rT,fT⟩:=hrow3.2 T hTN
    have hTi:(T:Int)<(N:Int):=by omega
    rw [hA] at s2
    have qa:w3.cell? ⟨g,A,none⟩=some (.int .i64 za):=by rw [<- hza];exact (hrow3.2 A hAN).1
    have HTT:=Lib.hid hT
    have HAA:=Lib.hid hA
    have HZA:=Lib.hid hza
    clear hrow2 hA hza ha hT
    obtain ⟨j0,j1,j2,j3,j4,j5,j6⟩:=HT.out _ (bS bs (bN w3 (.cells #[.bool true,.bool false,.bool false] 70)))
    have hrow4:=hrow3.alloc (.cells #[.bool true,.bool false,.bool false] 70)
    rw [HTT.out] at j1
    obtain ⟨rT4,fT4⟩:=hrow4.2 T hTN
    rw [HAA.out] at j2
    have qa4:(w3.alloc (.cells #[.bool true,.bool false,.bool false] 70)).cell? ⟨g,A,none⟩=some (.int .i64 za):=by rw [<- HZA.out];exact (hrow4.2 A hAN).1
    go_wp2_with fail
    go_roundw
    case rel =>
     obtain rfl:=HZ.out
     exact ⟨k+1,L++[(T:Int)],upd wt (T:Int) _,max m _,by omega,by go_num,rfl,(gb3.setCell hgW _).alloc (by simp;omega) _,((hrow3.set T _).cast (fun i _ => zfr (N:=N) i)).alloc _,HA4,HV4,HL4,HW4,Hm4⟩
    case measure => simp [intOf] <;> omega
   ·
    have K1:Hid (decide (1<=zf x.op)=true):=by show _=_;rw [hso];decide
    have K2:Hid (decide (zf x.op=2)=false):=by show _=_;rw [hso];decide
    have K3:Hid (decide (x.op=7)=true):=by show _=_;rw [hso];decide
    have h10:x.op≠10:=by rw [hso];decide
    have t10:(x.op != 10)=true:=by simp;exact h10
    have hto:=zdj Hok.out h10
    obtain ⟨T,hT⟩:=Int.eq_ofNat_of_zero_le hto.1
    have hTN:T<N:=by have:=HN.out;omega
    rw [hT] at s1
    have em:more L x=L++[(T:Int)]:=by unfold more;rw [if_neg h10,hT]
    have HA4:Hid (zaq c (L++[(T:Int)]) (c.all.drop (k+1))=true):=by show _=_;rw [<- em];exact HA2.out
    have HL4:Hid (∀ x ∈ L++[(T:Int)],0<=x/\x<(N:Int)):=fun y hy => by
     rcases List.mem_append.1 hy with hy|hy
     ·exact HL.out y hy
     ·rw [List.mem_singleton.1 hy];omega
    have hV:=HV2.out
    rw [if_neg h10] at hV
    have HW4:Hid (zbL (upd wt x.to (wOf wt x))):=HW.out.upd x
    have hwl:=zbp HW.out x
    have Hm4:Hid (0<=max m (wOf wt x)/\max m (wOf wt x)<=1000000):=by show _/\_;have:=Hm.out;omega
    have ha:=HL.out _ (zag Hok.out (by rw [hso];decide))
    obtain ⟨A,hA⟩:=Int.eq_ofNat_of_zero_le ha.1
    have hAN:A<N:=by omega
    rw [hA] at s2
    have hAi:(A:Int)<(N:Int):=by omega
    obtain ⟨za,hza⟩:∃ z,wt (A:Int)=z:=⟨_,rfl⟩
    have la:=HW.out (A:Int)
    rw [hza] at la
    have hb:=zcG Hok.out hso
    obtain ⟨xb,hxb⟩:∃ z,x.b=z:=⟨_,rfl⟩
    rw [hxb] at hb s3
    have hneg:IntKind.i64.wrap (-xb)=-xb:=IntWalk.i64_in _ (by omega)
    obtain ⟨mx,hmx⟩:∃ z,max 1 (max xb (-xb))=z:=⟨_,rfl⟩
    have hmb:1<=mx/\mx<=21:=by omega
    have hpr:=zfz la hmb
    obtain ⟨pr,hpr'⟩:∃ z,za*mx=z:=⟨_,rfl⟩
    rw [hpr'] at hpr
    have hmul:IntKind.i64.wrap pr=pr:=IntWalk.i64_in _ (by omega)
    have hwo:wOf wt x=min pr 1000000:=by rw [zdP hso,hA,hza,hxb,hmx,hpr']
    obtain ⟨z,hz⟩:∃ z,wOf wt x=z:=⟨_,rfl⟩
    rw [hz] at hwo hwl Hm4 HW4 hV
    rw [hT] at HW4 hV
    have HZ:=Lib.hid hwo
    have HV4:=Lib.hid hV
    clear hV hwo hz em hto h10
    clear hso
    refine (zr x.op true false true true _ K1.out K2.out K3.out (decide_eq_true (zaW Hok.out))).mono ?_
    rintro e w3 ⟨rfl,bs⟩
    have q1:=s1
    clear s0 s1 s2 s3 s4 s5 s6
    clear ac ag ae ah af ai aw aB ay aC
    have gb3:=bS gb2 bs
    have hrow3:=hrow2.to bs
    have gl:=hrow3.lt
    have hxl:wr.heap.size<w3.heap.size:=Nat.lt_of_lt_of_le hW2s bs.size
    obtain ⟨s0,s1,s2,s3,s4,s5,s6⟩:=HT.out _ bs
    obtain ⟨z0,ac,ae,af,aw,ay,ag,ah,ai,aB,aC⟩:=am.out _ gb3
    rw [hT] at s1
    obtain ⟨rT,fT⟩:=hrow3.2 T hTN
    have hTi:(T:Int)<(N:Int):=by omega
    rw [hA] at s2
    have qa:w3.cell? ⟨g,A,none⟩=some (.int .i64 za):=by rw [<- hza];exact (hrow3.2 A hAN).1
    rw [hxb] at s3
    have HTT:=Lib.hid hT
    have HAA:=Lib.hid hA
    have HZA:=Lib.hid hza
    have HXB:=Lib.hid hxb
    clear hrow2 hA hza ha hxb hb hT
    have hmx':(if (if 1<xb then xb else 1) < -xb then -xb else if 1<xb then xb else 1)=mx:=by rw [<- hmx];split <;> split <;> omega
    clear hmx
    obtain ⟨j0,j1,j2,j3,j4,j5,j6⟩:=HT.out _ (bS bs (bN w3 (.cells #[.bool true,.bool false,.bool true] 70)))
    have hrow4:=hrow3.alloc (.cells #[.bool true,.bool false,.bool true] 70)
    rw [HTT.out] at j1
    obtain ⟨rT4,fT4⟩:=hrow4.2 T hTN
    rw [HAA.out] at j2
    have qa4:(w3.alloc (.cells #[.bool true,.bool false,.bool true] 70)).cell? ⟨g,A,none⟩=some (.int .i64 za):=by rw [<- HZA.out];exact (hrow4.2 A hAN).1
    rw [HXB.out] at j3
    go_wp2_with fail
    go_roundw
    case rel =>
     obtain rfl:=HZ.out
     exact ⟨k+1,L++[(T:Int)],upd wt (T:Int) _,max m _,by omega,by go_num,rfl,(gb3.setCell hgW _).alloc (by simp;omega) _,((hrow3.set T _).cast (fun i _ => zfr (N:=N) i)).alloc _,HA4,HV4,HL4,HW4,Hm4⟩
    case measure => simp [intOf] <;> omega
   ·
    have K1:Hid (decide (1<=zf x.op)=true):=by show _=_;rw [hso];decide
    have K2:Hid (decide (zf x.op=2)=false):=by show _=_;rw [hso];decide
    have K3:Hid (decide (x.op=7)=false):=by show _=_;rw [hso];decide
    have t10:(x.op != 10)=false:=by simp;exact hso
    have em:more L x=L:=by unfold more;rw [if_pos hso]
    have HA4:Hid (zaq c L (c.all.drop (k+1))=true):=by show _=_;rw [<- em];exact HA2.out
    have hV:=HV2.out
    rw [if_pos hso] at hV
    have HV4:=Lib.hid hV
    clear hV
    have ha:=HL.out _ (zag Hok.out (by rw [hso];decide))
    obtain ⟨A,hA⟩:=Int.eq_ofNat_of_zero_le ha.1
    have hAN:A<N:=by omega
    rw [hA] at s2
    have hAi:(A:Int)<(N:Int):=by omega
    obtain ⟨za,hza⟩:∃ z,wt (A:Int)=z:=⟨_,rfl⟩
    have la:=HW.out (A:Int)
    rw [hza] at la
    clear hso
    refine (zr x.op true false false true _ K1.out K2.out K3.out (decide_eq_true (zaW Hok.out))).mono ?_
    rintro e w3 ⟨rfl,bs⟩
    have q1:=s1
    clear s0 s1 s2 s3 s4 s5 s6
    clear ac ag ae ah af ai aw aB ay aC
    have gb3:=bS gb2 bs
    have hrow3:=hrow2.to bs
    have gl:=hrow3.lt
    have hxl:wr.heap.size<w3.heap.size:=Nat.lt_of_lt_of_le hW2s bs.size
    obtain ⟨s0,s1,s2,s3,s4,s5,s6⟩:=HT.out _ bs
    obtain ⟨z0,ac,ae,af,aw,ay,ag,ah,ai,aB,aC⟩:=am.out _ gb3
    rw [hA] at s2
    have qa:w3.cell? ⟨g,A,none⟩=some (.int .i64 za):=by rw [<- hza];exact (hrow3.2 A hAN).1
    have HAA:=Lib.hid hA
    have HZA:=Lib.hid hza
    clear hrow2 hA hza ha em
    obtain ⟨j0,j1,j2,j3,j4,j5,j6⟩:=HT.out _ (bS bs (bN w3 (.cells #[.bool true,.bool false,.bool false] 70)))
    have hrow4:=hrow3.alloc (.cells #[.bool true,.bool false,.bool false] 70)
    rw [HAA.out] at j2
    have qa4:(w3.alloc (.cells #[.bool true,.bool false,.bool false] 70)).cell? ⟨g,A,none⟩=some (.int .i64 za):=by rw [<- HZA.out];exact (hrow4.2 A hAN).1
    go_wp2_with fail
    go_roundw
    case rel => exact ⟨k+1,L,wt,m,by omega,by go_num,rfl,gb3.alloc (Nat.le_trans hgW (Nat.le_of_lt gl)) _,hrow3.alloc _,HA4,HV4,HL,HW,Hm⟩
    case measure => simp [intOf] <;> omega
  ·obtain rfl:k=n0:=by omega
   have ho:m=o:=by
    have:=HV.out
    rw [<- H0.out,List.drop_length] at this
    exact this
   subst ho
   go_wp2_with fail
   go_ret
   exact ⟨rfl,bS zb gb⟩

theorem vm_heavy (c:Cd) (v:Value) (w:World) (hc:IsC w c v) (hs:zW 1000 c.all) (o:Int) (ho:zcv c=o) :
  Calls Tryz.prog 16 #[aggC c v] w (fun e w' => e=.returned (.int .i64 o)/\Below w.heap.size w w'):=by
 unfold zcv at ho
 cases h1:zF c with
 | false => rw [h1] at ho;obtain rfl:0=o:=ho;exact zjg c v w hc hs h1
 | true => rw [h1,if_pos rfl] at ho;exact zhH c v w hc hs h1 o ho

end Go.Proofs.YtkjcdnlpjldhaaaGreat


namespace Go.Proofs.YtkjcdnlpjldhaaaGreat
open Go.RowKit Tw
attribute [local go_sem ↓] Go.wp_at_zero Go.wp_at_succ

def zdz (m:Nat) (l:List Rt):Bool:=decide (∀ x ∈ l,x.n.length<=m/\x.d.length<=m)

def fewC (m:Nat) (c:Cd):Bool:=decide (c.all.length<=m) && decide (c.regs<=1000) && zdz 6 (c.all.map Ins.q)

theorem zll:maxLen=9223372036854775807:=by unfold maxLen;rfl

theorem ziL {α:Type} {p:α->Prop} {l:List α} {k:Nat} (hk:k<l.length) (h:∀ x ∈ l.take k,p x) (h':p l[k]):∀ x ∈ l.take (k+1),p x:=by
 intro x hx
 rw [List.take_succ_eq_append_getElem hk,List.mem_append] at hx
 rcases hx with hx|hx
 ·exact h x hx
 ·rw [List.mem_singleton.1 hx];exact h'

theorem zbx (v:Value) (l:List Rt) (m:Nat) (w:World) (h:RdR w v l) (o:Bool) (ho:zdz m l=o) :
  Calls Tryz.prog 18 #[v,.int .i64 m] w (fun e w' => e=.returned (.bool o)/\w=w'):=by
 obtain ⟨a,n,cap,rfl,H0,hm⟩:=h.open
 have Ho:=Lib.hid ho
 unfold maxLen at hm
 clear ho
 go_enter Tryz.func18,Tryz.ntmps18
 go_wp2_with fail
 go_loopw [5] (fun i ww => ∃ k:Nat,k<=n/\i=.int .i64 k/\ww=w/\Hid (∀ x ∈ l.take k,x.n.length<=m/\x.d.length<=m)) (fun i _ => n - (intOf i).toNat)
 case atStart => exact ⟨0,Nat.zero_le _,rfl,rfl,by intro x hx;simp at hx⟩
 case round =>
  obtain ⟨k,hk,rfl,rfl,HN⟩:=hrel
  by_cases hkn:k<n
  ·have hki:(k:Int)<(n:Int):=by omega
   have hkl:k<l.length:=by rw [H0.out];exact hkn
   obtain ⟨b,off,rfl,h3⟩:=h.nth hkl
   obtain ⟨x,hx⟩:∃ x,l[k]=x:=⟨_,rfl⟩
   rw [hx] at h3
   obtain ⟨vn,vd,-,s1,s2,hn,hd⟩:=h3
   obtain ⟨a1,n1,c1,rfl,H1,hm1⟩:=hn.open
   obtain ⟨a2,n2,c2,rfl,H2,hm2⟩:=hd.open
   clear hn hd hm1 hm2
   by_cases g1:n1<=m
   ·have t1:decide (m<n1)=false:=decide_eq_false (by omega)
    by_cases g2:n2<=m
    ·have t2:decide (m<n2)=false:=decide_eq_false (by omega)
     have HN2:Hid (∀ x ∈ l.take (k+1),x.n.length<=m/\x.d.length<=m):=ziL hkl HN.out (by rw [hx,H1.out,H2.out];exact ⟨g1,g2⟩)
     clear hx h g1 g2 H1 H2
     go_wp2_with fail
     go_roundw
     case rel => exact ⟨k+1,by omega,by go_num,by first|exact rfl|trivial,HN2⟩
     case measure => simp [intOf] <;> omega
    ·have t2:decide (m<n2)=true:=decide_eq_true (by omega)
     have:o=false:=by
      rw [<- Ho.out]
      refine decide_eq_false (fun k => g2 ?_)
      have:=(k _ (List.getElem_mem hkl)).2
      rw [hx,H2.out] at this
      exact this
     subst this
     clear hx h g1 g2 H1 H2
     go_wp2_with fail
     go_ret
     exact ⟨rfl,rfl⟩
   ·have t1:decide (m<n1)=true:=decide_eq_true (by omega)
    have:o=false:=by
     rw [<- Ho.out]
     refine decide_eq_false (fun k => g1 ?_)
     have:=(k _ (List.getElem_mem hkl)).1
     rw [hx,H1.out] at this
     exact this
    subst this
    clear hx h g1 H1 H2
    go_wp2_with fail
    go_ret
    exact ⟨rfl,rfl⟩
  ·obtain rfl:k=n:=by omega
   have:o=true:=by
    rw [<- Ho.out]
    have:=HN.out
    rw [<- H0.out,List.take_length] at this
    exact decide_eq_true this
   subst this
   go_wp2_with fail
   go_ret
   exact ⟨rfl,rfl⟩

theorem zcD (c:Cd) (v:Value) (m:Nat) (w:World) (hc:IsC w c v) (o:Bool) (ho:fewC m c=o) (hm:m<=100000)  :
  Calls Tryz.prog 13 #[aggC c v,.int .i64 m] w (fun e w' => e=.returned (.bool o)/\Below w.heap.size w w'):=by
 obtain ⟨a0,n0,c0,rfl,H0,hm0⟩:=hc.1.open
 have Ho:=Lib.hid ho
 clear ho
 by_cases g1:c.all.length<=m
 case neg =>
  have t1:decide (m<n0)=true:=decide_eq_true (by have:=H0.out;omega)
  have:false=o:=by rw [<- Ho.out];unfold fewC;rw [decide_eq_false g1];rfl
  subst this
  clear g1
  go_enter Tryz.func13,Tryz.ntmps13
  go_wp2_with fail
  obtain ⟨W0,az⟩:∃ W0,w.alloc (.cells #[.int .i64 c.ins,.int .i64 c.rows,.int .i64 c.cols,.int .i64 c.regs,.slice a0 n0 c0] 24)=W0:=⟨_,rfl⟩
  have am:=Lib.hid (show ∀ W',Below W0.heap.size W0 W'->(Bx5 W' w.heap.size (.int .i64 c.ins) (.int .i64 c.rows) (.int .i64 c.cols) (.int .i64 c.regs) (.slice a0 n0 c0)) from fun W' hb => by
    apply bx5 hb
    all_goals first|assumption|(rw [<- az];simp [go_sem]))
  have zb:Below w.heap.size w W0:=by rw [<- az];exact bN _ _
  rw [az]
  clear az
  have i0:=hc.to zb
  have gb:Below W0.heap.size W0 W0:=Below.refl _ _
  obtain ⟨z0,ac,ae,af,aw,ay,ag,ah,ai,aB,aC⟩:=am.out _ gb
  go_wp2_with fail
  go_ret
  exact ⟨rfl,bS zb gb⟩
 have t1:decide (m<n0)=false:=decide_eq_false (by have:=H0.out;omega)
 have hn0:n0<=100000:=by have:=H0.out;omega
 by_cases g2:c.regs<=1000
 case neg =>
  have t2:decide (1000<c.regs)=true:=decide_eq_true (by omega)
  have:false=o:=by rw [<- Ho.out];unfold fewC;rw [decide_eq_false g2,Bool.and_false];rfl
  subst this
  clear g1 g2
  go_enter Tryz.func13,Tryz.ntmps13
  go_wp2_with fail
  obtain ⟨W0,az⟩:∃ W0,w.alloc (.cells #[.int .i64 c.ins,.int .i64 c.rows,.int .i64 c.cols,.int .i64 c.regs,.slice a0 n0 c0] 24)=W0:=⟨_,rfl⟩
  have am:=Lib.hid (show ∀ W',Below W0.heap.size W0 W'->(Bx5 W' w.heap.size (.int .i64 c.ins) (.int .i64 c.rows) (.int .i64 c.cols) (.int .i64 c.regs) (.slice a0 n0 c0)) from fun W' hb => by
    apply bx5 hb
    all_goals first|assumption|(rw [<- az];simp [go_sem]))
  have zb:Below w.heap.size w W0:=by rw [<- az];exact bN _ _
  rw [az]
  clear az
  have i0:=hc.to zb
  have gb:Below W0.heap.size W0 W0:=Below.refl _ _
  obtain ⟨z0,ac,ae,af,aw,ay,ag,ah,ai,aB,aC⟩:=am.out _ gb
  go_wp2_with fail
  go_ret
  exact ⟨rfl,bS zb gb⟩
 have t2:decide (1000<c.regs)=false:=decide_eq_false (by omega)
 have Ho1:Hid (zdz 6 (c.all.map Ins.q)=o):=by show _=_;rw [<- Ho.out];unfold fewC;rw [decide_eq_true g1,decide_eq_true g2];rfl
 clear g1 g2 Ho
 go_enter Tryz.func13,Tryz.ntmps13
 go_wp2_with fail
 obtain ⟨W0,az⟩:∃ W0,w.alloc (.cells #[.int .i64 c.ins,.int .i64 c.rows,.int .i64 c.cols,.int .i64 c.regs,.slice a0 n0 c0] 24)=W0:=⟨_,rfl⟩
 have am:=Lib.hid (show ∀ W',Below W0.heap.size W0 W'->(Bx5 W' w.heap.size (.int .i64 c.ins) (.int .i64 c.rows) (.int .i64 c.cols) (.int .i64 c.regs) (.slice a0 n0 c0)) from fun W' hb => by
   apply bx5 hb
   all_goals first|assumption|(rw [<- az];simp [go_sem]))
 have zb:Below w.heap.size w W0:=by rw [<- az];exact bN _ _
 rw [az]
 clear az
 have i0:=hc.to zb
 have gb:Below W0.heap.size W0 W0:=Below.refl _ _
 obtain ⟨z0,ac,ae,af,aw,ay,ag,ah,ai,aB,aC⟩:=am.out _ gb
 go_wp2_with fail
 go_loopw [5] (fun i ww => ∃ k:Nat,k<=n0/\i=.int .i64 k/\Below W0.heap.size W0 ww/\Hid (∀ x ∈ (c.all.map Ins.q).take k,x.n.length<=6/\x.d.length<=6)) (fun i _ => n0 - (intOf i).toNat)
 case atStart => exact ⟨0,Nat.zero_le _,rfl,gb,by intro x hx;simp at hx⟩
 case round =>
  clear gb ac ag ae ah af ai aw aB ay aC
  obtain ⟨k,hk,rfl,gb,HN⟩:=hrel
  obtain ⟨z0,ac,ae,af,aw,ay,ag,ah,ai,aB,aC⟩:=am.out _ gb
  by_cases hkn:k<n0
  ·have hki:(k:Int)<(n0:Int):=by omega
   have hkl:k<c.all.length:=by rw [H0.out];exact hkn
   have hkm:k<(c.all.map Ins.q).length:=by rw [List.length_map];exact hkl
   obtain ⟨b,off,rfl,h7⟩:=(i0.to gb).1.nth hkl
   obtain ⟨x,hx⟩:∃ x,c.all[k]=x:=⟨_,rfl⟩
   have hxq:(c.all.map Ins.q)[k]=x.q:=by rw [List.getElem_map,hx]
   rw [hx] at h7
   obtain ⟨s0,s1,s2,s3,⟨vn,vd,s4,s5,s6,hn,hd⟩,-⟩:=h7
   obtain ⟨a1,n1,c1,rfl,H1,hm1⟩:=hn.open
   obtain ⟨a2,n2,c2,rfl,H2,hm2⟩:=hd.open
   have hl3:RdR (wr.alloc (.cells #[.bool x.q.ng,.slice a1 n1 c1,.slice a2 n2 c2] 47)) (.slice (some ⟨wr.heap.size,0,none⟩) 1 1) [x.q]:=by
    refine ⟨_,1,rfl,Nat.le_refl _,by rw [zll];decide,fun i hi => ?_⟩
    have:i=0:=by simpa using hi
    subst this
    exact ⟨_,0,rfl,_,_,by simp [go_sem],by simp [go_sem],by simp [go_sem],hn.alloc _,hd.alloc _⟩
   have Hl3:=Lib.hid hl3
   clear hn hd hm1 hm2 hx hl3
   have gb2:=bS gb (bN wr (.cells #[.bool x.q.ng,.slice a1 n1 c1,.slice a2 n2 c2] 47))
   by_cases g:x.q.n.length<=6/\x.q.d.length<=6
   ·have HN2:Hid (∀ x ∈ (c.all.map Ins.q).take (k+1),x.n.length<=6/\x.d.length<=6):=ziL hkm HN.out (by rw [hxq];exact g)
    have HS:Hid (zdz 6 [x.q]=true):=decide_eq_true (by intro y hy;rw [List.mem_singleton.1 hy];exact g)
    clear g hxq
    go_wp2_with fail
    refine (zbx _ [x.q] 6 _ Hl3.out true HS.out).mono ?_
    rintro e w3 ⟨rfl,rfl⟩
    go_wp2_with fail
    go_roundw
    case rel => exact ⟨k+1,by omega,by go_num,gb2,HN2⟩
    case measure => simp [intOf] <;> omega
   ·have HS:Hid (zdz 6 [x.q]=false):=decide_eq_false (fun k => g (k _ (List.mem_singleton.2 rfl)))
    have:false=o:=by
     rw [<- Ho1.out]
     refine (decide_eq_false (fun k => g ?_)).symm
     have:=k _ (List.getElem_mem hkm)
     rw [hxq] at this
     exact this
    subst this
    clear g hxq
    go_wp2_with fail
    refine (zbx _ [x.q] 6 _ Hl3.out false HS.out).mono ?_
    rintro e w3 ⟨rfl,rfl⟩
    go_wp2_with fail
    go_ret
    exact ⟨rfl,bS zb gb2⟩
  ·obtain rfl:k=n0:=by omega
   have:true=o:=by
    rw [<- Ho1.out]
    have:=HN.out
    rw [show k=(c.all.map Ins.q).length by rw [List.length_map,H0.out],List.take_length] at this
    exact (decide_eq_true this).symm
   subst this
   go_wp2_with fail
   go_ret
   exact ⟨rfl,bS zb gb⟩

end Go.Proofs.YtkjcdnlpjldhaaaGreat


namespace Go.Proofs.YtkjcdnlpjldhaaaGreat
open Go.RowKit Tw
attribute [local go_sem ↓] Go.wp_at_zero Go.wp_at_succ

theorem ziS {x:Rat} (b:Bool) (v u:Value) (ln ld:List Nat) (n:Int) (w:World) (h:IsQ w b v u ln ld x) (hn:0<=n) (hn':n<=64) (hs:szq x*n.toNat<=999) :
  Calls Tryz.prog 74 #[aggR b v u,.int .i64 n] w (zq w (x ^ n.toNat)):=by
 by_cases h0:x=0
 ·exact zgp b v u ln ld n w h hn hn' h0 hs
 ·exact zhF b v u ln ld n w h hn hn' h0 hs

theorem zaK (b:Bool) (v u:Value) (ln ld:List Nat)  (w:World) (h:IsF w v u ln ld) (o:Int) (ho:((max ln.length ld.length:Nat):Int)=o)  :
  Calls Tryz.prog 42 #[aggR b v u] w (fun e w' => e=.returned (.int .i64 o)/\Below w.heap.size w w'):=by
 have Ho:=Lib.hid ho
 clear ho
 obtain ⟨a0,n0,c0,rfl,H0,hm0⟩:=h.1.open
 obtain ⟨a1,n1,c1,rfl,H1,hm1⟩:=h.2.open
 obtain ⟨m,hm⟩:∃ m:Nat,max n0 n1=m:=⟨_,rfl⟩
 have HM:max (n0:Int) (n1:Int)=(m:Int):=by omega
 have ho:(m:Int)=o:=by rw [<- Ho.out,H0.out,H1.out,hm]
 clear Ho hm
 subst ho
 go_enter Tryz.func42,Tryz.ntmps42
 go_wp2_with fail
 obtain ⟨W0,az⟩:∃ W0,w.alloc (.cells #[.bool b,.slice a0 n0 c0,.slice a1 n1 c1] 47)=W0:=⟨_,rfl⟩
 have am:=Lib.hid (show ∀ W',Below W0.heap.size W0 W'->(Bx3 W' w.heap.size (.bool b) (.slice a0 n0 c0) (.slice a1 n1 c1)) from fun W' hb => by
   apply bx3 hb
   all_goals first|assumption|(rw [<- az];simp [go_sem]))
 have zb:Below w.heap.size w W0:=by rw [<- az];exact bN _ _
 rw [az]
 clear az
 have i0:=h.to zb
 have gb:Below W0.heap.size W0 W0:=Below.refl _ _
 obtain ⟨z0,ac,ae,af,ag,ah,ai⟩:=am.out _ gb
 go_wp2_with fail
 go_ret
 exact ⟨rfl,bS zb gb⟩

end Go.Proofs.YtkjcdnlpjldhaaaGreat


namespace Go.Proofs.YtkjcdnlpjldhaaaGreat
open Go.RowKit Tw
attribute [local go_sem ↓] Go.wp_at_zero Go.wp_at_succ

theorem zjp (to xa xb:Int) (ng:Bool) (vn vd:Value) (lw1 lw2:List Nat) (pv:Value) (na:Bool) (va ua:Value) (la ka:List Nat) (nb:Bool) (vb ub:Value) (lb kb:List Nat) {x y:Rat}  (w:World) (hw:IsF w vn vd lw1 lw2) (ha:IsQ w na va ua la ka x) (hb:IsQ w nb vb ub lb kb y) (q:Rat) (hq:x+y=q) (hs:Hid (szq q<=1000))  :
  Calls Tryz.prog 40 #[.agg #[.int .i64 2,.int .i64 to,.int .i64 xa,.int .i64 xb,.bool ng,vn,vd],pv,aggR na va ua,aggR nb vb ub] w (zq w q):=by
 have Hq:=Lib.hid hq
 clear hq
 obtain ⟨a0,n0,c0,rfl,H0,hm0⟩:=hw.1.open
 obtain ⟨a1,n1,c1,rfl,H1,hm1⟩:=hw.2.open
 obtain ⟨a2,n2,c2,rfl,H2,hm2⟩:=ha.1.open
 obtain ⟨a3,n3,c3,rfl,H3,hm3⟩:=ha.2.1.open
 obtain ⟨a4,n4,c4,rfl,H4,hm4⟩:=hb.1.open
 obtain ⟨a5,n5,c5,rfl,H5,hm5⟩:=hb.2.1.open
 go_enter Tryz.func40,Tryz.ntmps40
 go_upto_region 1 with fail
 obtain ⟨W0,az⟩:∃ W0,(((w.alloc (.cells #[.int .i64 2,.int .i64 to,.int .i64 xa,.int .i64 xb,.bool ng,.slice a0 n0 c0,.slice a1 n1 c1] 49)).alloc (.cells #[.bool na,.slice a2 n2 c2,.slice a3 n3 c3] 47)).alloc (.cells #[.bool nb,.slice a4 n4 c4,.slice a5 n5 c5] 47)).alloc (.cells #[.bool false,.slice none 0 0,.slice none 0 0] 47)=W0:=⟨_,rfl⟩
 have am:=Lib.hid (show ∀ W',Below W0.heap.size W0 W'->(Bx7 W' w.heap.size (.int .i64 2) (.int .i64 to) (.int .i64 xa) (.int .i64 xb) (.bool ng) (.slice a0 n0 c0) (.slice a1 n1 c1)/\Bx3 W' (w.heap.size+1) (.bool na) (.slice a2 n2 c2) (.slice a3 n3 c3)/\Bx3 W' (w.heap.size+1+1) (.bool nb) (.slice a4 n4 c4) (.slice a5 n5 c5)/\Bx3 W' (w.heap.size+1+1+1) (.bool false) (.slice none 0 0) (.slice none 0 0)) from fun W' hb => by
   refine ⟨bx7 hb ?_ ?_ ?_ ?_ ?_ ?_ ?_ ?_ ?_ ?_ ?_ ?_ ?_ ?_,bx3 hb ?_ ?_ ?_ ?_ ?_ ?_,bx3 hb ?_ ?_ ?_ ?_ ?_ ?_,bx3 hb ?_ ?_ ?_ ?_ ?_ ?_⟩
   all_goals first|assumption|(rw [<- az];simp [go_sem]))
 have zb:Below w.heap.size w W0:=by rw [<- az];exact bS (bS (bS (bN _ _) (bN _ _)) (bN _ _)) (bN _ _)
 rw [az]
 clear az
 have i0:=hw.to zb
 have i1:=ha.to zb
 have i2:=hb.to zb
 have gb:Below W0.heap.size W0 W0:=Below.refl _ _
 obtain ⟨⟨z0,ac,ae,af,aw,ay,aP,aQ,ag,ah,ai,aB,aC,a8,bc⟩,⟨z1,ak,al,au,ap,aq,aA⟩,⟨z2,aH,aI,be,aK,aL,bf⟩,⟨z3,bt,bu,bA,bx,bz,bB⟩⟩:=am.out _ gb
 go_wp2_with fail
 refine (zgc na _ _ la ka nb _ _ lb kb _ (i1.to gb) (i2.to gb) q Hq.out hs).mono ?_
 clear ac ag ae ah af ai aw aB ay aC aP a8 aQ bc ak ap al aq au aA aH aK aI aL be bf bt bx bu bz bA bB
 rintro e w1 ⟨ng1,a1_,n1_,c1_,p1_,m1_,k1_,rfl,g1,bd⟩
 replace gb:=bS gb bd
 obtain ⟨⟨z0,ac,ae,af,aw,ay,aP,aQ,ag,ah,ai,aB,aC,a8,bc⟩,⟨z1,ak,al,au,ap,aq,aA⟩,⟨z2,aH,aI,be,aK,aL,bf⟩,⟨z3,bt,bu,bA,bx,bz,bB⟩⟩:=am.out _ gb
 go_wp2_with fail
 refine bodyPost_ret (zi Tryz.results40 _ _ _ _ _ _ rfl (Tri.set (x0:=.bool false) (y0:=.slice none 0 0) (z0:=.slice none 0 0) ⟨bt,bu,bA,bx,bz,bB⟩ _ _ _)) rfl (zae (bS zb gb) (by omega) ?_ g1)
 first|omega|(simp;omega)

theorem zjv (to xa xb:Int) (ng:Bool) (vn vd:Value) (lw1 lw2:List Nat) (pv:Value) (na:Bool) (va ua:Value) (la ka:List Nat) (nb:Bool) (vb ub:Value) (lb kb:List Nat) {x y:Rat}  (w:World) (hw:IsF w vn vd lw1 lw2) (ha:IsQ w na va ua la ka x) (hb:IsQ w nb vb ub lb kb y) (q:Rat) (hq:x+y=q) (hs:Hid (szq q<=1000))  :
  Calls Tryz.prog 40 #[.agg #[.int .i64 9,.int .i64 to,.int .i64 xa,.int .i64 xb,.bool ng,vn,vd],pv,aggR na va ua,aggR nb vb ub] w (zq w q):=by
 have Hq:=Lib.hid hq
 clear hq
 obtain ⟨a0,n0,c0,rfl,H0,hm0⟩:=hw.1.open
 obtain ⟨a1,n1,c1,rfl,H1,hm1⟩:=hw.2.open
 obtain ⟨a2,n2,c2,rfl,H2,hm2⟩:=ha.1.open
 obtain ⟨a3,n3,c3,rfl,H3,hm3⟩:=ha.2.1.open
 obtain ⟨a4,n4,c4,rfl,H4,hm4⟩:=hb.1.open
 obtain ⟨a5,n5,c5,rfl,H5,hm5⟩:=hb.2.1.open
 go_enter Tryz.func40,Tryz.ntmps40
 go_upto_region 1 with fail
 obtain ⟨W0,az⟩:∃ W0,(((w.alloc (.cells #[.int .i64 9,.int .i64 to,.int .i64 xa,.int .i64 xb,.bool ng,.slice a0 n0 c0,.slice a1 n1 c1] 49)).alloc (.cells #[.bool na,.slice a2 n2 c2,.slice a3 n3 c3] 47)).alloc (.cells #[.bool nb,.slice a4 n4 c4,.slice a5 n5 c5] 47)).alloc (.cells #[.bool false,.slice none 0 0,.slice none 0 0] 47)=W0:=⟨_,rfl⟩
 have am:=Lib.hid (show ∀ W',Below W0.heap.size W0 W'->(Bx7 W' w.heap.size (.int .i64 9) (.int .i64 to) (.int .i64 xa) (.int .i64 xb) (.bool ng) (.slice a0 n0 c0) (.slice a1 n1 c1)/\Bx3 W' (w.heap.size+1) (.bool na) (.slice a2 n2 c2) (.slice a3 n3 c3)/\Bx3 W' (w.heap.size+1+1) (.bool nb) (.slice a4 n4 c4) (.slice a5 n5 c5)/\Bx3 W' (w.heap.size+1+1+1) (.bool false) (.slice none 0 0) (.slice none 0 0)) from fun W' hb => by
   refine ⟨bx7 hb ?_ ?_ ?_ ?_ ?_ ?_ ?_ ?_ ?_ ?_ ?_ ?_ ?_ ?_,bx3 hb ?_ ?_ ?_ ?_ ?_ ?_,bx3 hb ?_ ?_ ?_ ?_ ?_ ?_,bx3 hb ?_ ?_ ?_ ?_ ?_ ?_⟩
   all_goals first|assumption|(rw [<- az];simp [go_sem]))
 have zb:Below w.heap.size w W0:=by rw [<- az];exact bS (bS (bS (bN _ _) (bN _ _)) (bN _ _)) (bN _ _)
 rw [az]
 clear az
 have i0:=hw.to zb
 have i1:=ha.to zb
 have i2:=hb.to zb
 have gb:Below W0.heap.size W0 W0:=Below.refl _ _
 obtain ⟨⟨z0,ac,ae,af,aw,ay,aP,aQ,ag,ah,ai,aB,aC,a8,bc⟩,⟨z1,ak,al,au,ap,aq,aA⟩,⟨z2,aH,aI,be,aK,aL,bf⟩,⟨z3,bt,bu,bA,bx,bz,bB⟩⟩:=am.out _ gb
 go_wp2_with fail
 refine (zgc na _ _ la ka nb _ _ lb kb _ (i1.to gb) (i2.to gb) q Hq.out hs).mono ?_
 clear ac ag ae ah af ai aw aB ay aC aP a8 aQ bc ak ap al aq au aA aH aK aI aL be bf bt bx bu bz bA bB
 rintro e w1 ⟨ng1,a1_,n1_,c1_,p1_,m1_,k1_,rfl,g1,bd⟩
 replace gb:=bS gb bd
 obtain ⟨⟨z0,ac,ae,af,aw,ay,aP,aQ,ag,ah,ai,aB,aC,a8,bc⟩,⟨z1,ak,al,au,ap,aq,aA⟩,⟨z2,aH,aI,be,aK,aL,bf⟩,⟨z3,bt,bu,bA,bx,bz,bB⟩⟩:=am.out _ gb
 go_wp2_with fail
 refine bodyPost_ret (zi Tryz.results40 _ _ _ _ _ _ rfl (Tri.set (x0:=.bool false) (y0:=.slice none 0 0) (z0:=.slice none 0 0) ⟨bt,bu,bA,bx,bz,bB⟩ _ _ _)) rfl (zae (bS zb gb) (by omega) ?_ g1)
 first|omega|(simp;omega)

theorem does_sub (to xa xb:Int) (ng:Bool) (vn vd:Value) (lw1 lw2:List Nat) (pv:Value) (na:Bool) (va ua:Value) (la ka:List Nat) (nb:Bool) (vb ub:Value) (lb kb:List Nat) {x y:Rat}  (w:World) (hw:IsF w vn vd lw1 lw2) (ha:IsQ w na va ua la ka x) (hb:IsQ w nb vb ub lb kb y) (q:Rat) (hq:x - y=q) (hs:Hid (szq q<=1000))  :
  Calls Tryz.prog 40 #[.agg #[.int .i64 3,.int .i64 to,.int .i64 xa,.int .i64 xb,.bool ng,vn,vd],pv,aggR na va ua,aggR nb vb ub] w (zq w q):=by
 have Hq:=Lib.hid hq
 clear hq
 obtain ⟨a0,n0,c0,rfl,H0,hm0⟩:=hw.1.open
 obtain ⟨a1,n1,c1,rfl,H1,hm1⟩:=hw.2.open
 obtain ⟨a2,n2,c2,rfl,H2,hm2⟩:=ha.1.open
 obtain ⟨a3,n3,c3,rfl,H3,hm3⟩:=ha.2.1.open
 obtain ⟨a4,n4,c4,rfl,H4,hm4⟩:=hb.1.open
 obtain ⟨a5,n5,c5,rfl,H5,hm5⟩:=hb.2.1.open
 go_enter Tryz.func40,Tryz.ntmps40
 go_upto_region 1 with fail
 obtain ⟨W0,az⟩:∃ W0,(((w.alloc (.cells #[.int .i64 3,.int .i64 to,.int .i64 xa,.int .i64 xb,.bool ng,.slice a0 n0 c0,.slice a1 n1 c1] 49)).alloc (.cells #[.bool na,.slice a2 n2 c2,.slice a3 n3 c3] 47)).alloc (.cells #[.bool nb,.slice a4 n4 c4,.slice a5 n5 c5] 47)).alloc (.cells #[.bool false,.slice none 0 0,.slice none 0 0] 47)=W0:=⟨_,rfl⟩
 have am:=Lib.hid (show ∀ W',Below W0.heap.size W0 W'->(Bx7 W' w.heap.size (.int .i64 3) (.int .i64 to) (.int .i64 xa) (.int .i64 xb) (.bool ng) (.slice a0 n0 c0) (.slice a1 n1 c1)/\Bx3 W' (w.heap.size+1) (.bool na) (.slice a2 n2 c2) (.slice a3 n3 c3)/\Bx3 W' (w.heap.size+1+1) (.bool nb) (.slice a4 n4 c4) (.slice a5 n5 c5)/\Bx3 W' (w.heap.size+1+1+1) (.bool false) (.slice none 0 0) (.slice none 0 0)) from fun W' hb => by
   refine ⟨bx7 hb ?_ ?_ ?_ ?_ ?_ ?_ ?_ ?_ ?_ ?_ ?_ ?_ ?_ ?_,bx3 hb ?_ ?_ ?_ ?_ ?_ ?_,bx3 hb ?_ ?_ ?_ ?_ ?_ ?_,bx3 hb ?_ ?_ ?_ ?_ ?_ ?_⟩
   all_goals first|assumption|(rw [<- az];simp [go_sem]))
 have zb:Below w.heap.size w W0:=by rw [<- az];exact bS (bS (bS (bN _ _) (bN _ _)) (bN _ _)) (bN _ _)
 rw [az]
 clear az
 have i0:=hw.to zb
 have i1:=ha.to zb
 have i2:=hb.to zb
 have gb:Below W0.heap.size W0 W0:=Below.refl _ _
 obtain ⟨⟨z0,ac,ae,af,aw,ay,aP,aQ,ag,ah,ai,aB,aC,a8,bc⟩,⟨z1,ak,al,au,ap,aq,aA⟩,⟨z2,aH,aI,be,aK,aL,bf⟩,⟨z3,bt,bu,bA,bx,bz,bB⟩⟩:=am.out _ gb
 go_wp2_with fail
 refine (ref8_sub na _ _ la ka nb _ _ lb kb _ (i1.to gb) (i2.to gb) q Hq.out hs).mono ?_
 clear ac ag ae ah af ai aw aB ay aC aP a8 aQ bc ak ap al aq au aA aH aK aI aL be bf bt bx bu bz bA bB
 rintro e w1 ⟨ng1,a1_,n1_,c1_,p1_,m1_,k1_,rfl,g1,bd⟩
 replace gb:=bS gb bd
 obtain ⟨⟨z0,ac,ae,af,aw,ay,aP,aQ,ag,ah,ai,aB,aC,a8,bc⟩,⟨z1,ak,al,au,ap,aq,aA⟩,⟨z2,aH,aI,be,aK,aL,bf⟩,⟨z3,bt,bu,bA,bx,bz,bB⟩⟩:=am.out _ gb
 go_wp2_with fail
 refine bodyPost_ret (zi Tryz.results40 _ _ _ _ _ _ rfl (Tri.set (x0:=.bool false) (y0:=.slice none 0 0) (z0:=.slice none 0 0) ⟨bt,bu,bA,bx,bz,bB⟩ _ _ _)) rfl (zae (bS zb gb) (by omega) ?_ g1)
 first|omega|(simp;omega)

theorem zjk (to xa xb:Int) (ng:Bool) (vn vd:Value) (lw1 lw2:List Nat) (pv:Value) (na:Bool) (va ua:Value) (la ka:List Nat) (nb:Bool) (vb ub:Value) (lb kb:List Nat) {x y:Rat}  (w:World) (hw:IsF w vn vd lw1 lw2) (ha:IsQ w na va ua la ka x) (hb:IsQ w nb vb ub lb kb y) (q:Rat) (hq:x*y=q) (hs:Hid (szq q<=1000))  :
  Calls Tryz.prog 40 #[.agg #[.int .i64 4,.int .i64 to,.int .i64 xa,.int .i64 xb,.bool ng,vn,vd],pv,aggR na va ua,aggR nb vb ub] w (zq w q):=by
 have Hq:=Lib.hid hq
 clear hq
 obtain ⟨a0,n0,c0,rfl,H0,hm0⟩:=hw.1.open
 obtain ⟨a1,n1,c1,rfl,H1,hm1⟩:=hw.2.open
 obtain ⟨a2,n2,c2,rfl,H2,hm2⟩:=ha.1.open
 obtain ⟨a3,n3,c3,rfl,H3,hm3⟩:=ha.2.1.open
 obtain ⟨a4,n4,c4,rfl,H4,hm4⟩:=hb.1.open
 obtain ⟨a5,n5,c5,rfl,H5,hm5⟩:=hb.2.1.open
 go_enter Tryz.func40,Tryz.ntmps40
 go_upto_region 1 with fail
 obtain ⟨W0,az⟩:∃ W0,(((w.alloc (.cells #[.int .i64 4,.int .i64 to,.int .i64 xa,.int .i64 xb,.bool ng,.slice a0 n0 c0,.slice a1 n1 c1] 49)).alloc (.cells #[.bool na,.slice a2 n2 c2,.slice a3 n3 c3] 47)).alloc (.cells #[.bool nb,.slice a4 n4 c4,.slice a5 n5 c5] 47)).alloc (.cells #[.bool false,.slice none 0 0,.slice none 0 0] 47)=W0:=⟨_,rfl⟩
 have am:=Lib.hid (show ∀ W',Below W0.heap.size W0 W'->(Bx7 W' w.heap.size (.int .i64 4) (.int .i64 to) (.int .i64 xa) (.int .i64 xb) (.bool ng) (.slice a0 n0 c0) (.slice a1 n1 c1)/\Bx3 W' (w.heap.size+1) (.bool na) (.slice a2 n2 c2) (.slice a3 n3 c3)/\Bx3 W' (w.heap.size+1+1) (.bool nb) (.slice a4 n4 c4) (.slice a5 n5 c5)/\Bx3 W' (w.heap.size+1+1+1) (.bool false) (.slice none 0 0) (.slice none 0 0)) from fun W' hb => by
   refine ⟨bx7 hb ?_ ?_ ?_ ?_ ?_ ?_ ?_ ?_ ?_ ?_ ?_ ?_ ?_ ?_,bx3 hb ?_ ?_ ?_ ?_ ?_ ?_,bx3 hb ?_ ?_ ?_ ?_ ?_ ?_,bx3 hb ?_ ?_ ?_ ?_ ?_ ?_⟩
   all_goals first|assumption|(rw [<- az];simp [go_sem]))
 have zb:Below w.heap.size w W0:=by rw [<- az];exact bS (bS (bS (bN _ _) (bN _ _)) (bN _ _)) (bN _ _)
 rw [az]
 clear az
 have i0:=hw.to zb
 have i1:=ha.to zb
 have i2:=hb.to zb
 have gb:Below W0.heap.size W0 W0:=Below.refl _ _
 obtain ⟨⟨z0,ac,ae,af,aw,ay,aP,aQ,ag,ah,ai,aB,aC,a8,bc⟩,⟨z1,ak,al,au,ap,aq,aA⟩,⟨z2,aH,aI,be,aK,aL,bf⟩,⟨z3,bt,bu,bA,bx,bz,bB⟩⟩:=am.out _ gb
 go_wp2_with fail
 refine (zcI na _ _ la ka nb _ _ lb kb _ (i1.to gb) (i2.to gb) q Hq.out hs).mono ?_
 clear ac ag ae ah af ai aw aB ay aC aP a8 aQ bc ak ap al aq au aA aH aK aI aL be bf bt bx bu bz bA bB
 rintro e w1 ⟨ng1,a1_,n1_,c1_,p1_,m1_,k1_,rfl,g1,bd⟩
 replace gb:=bS gb bd
 obtain ⟨⟨z0,ac,ae,af,aw,ay,aP,aQ,ag,ah,ai,aB,aC,a8,bc⟩,⟨z1,ak,al,au,ap,aq,aA⟩,⟨z2,aH,aI,be,aK,aL,bf⟩,⟨z3,bt,bu,bA,bx,bz,bB⟩⟩:=am.out _ gb
 go_wp2_with fail
 refine bodyPost_ret (zi Tryz.results40 _ _ _ _ _ _ rfl (Tri.set (x0:=.bool false) (y0:=.slice none 0 0) (z0:=.slice none 0 0) ⟨bt,bu,bA,bx,bz,bB⟩ _ _ _)) rfl (zae (bS zb gb) (by omega) ?_ g1)
 first|omega|(simp;omega)

theorem zjJ (to xa xb:Int) (ng:Bool) (vn vd:Value) (lw1 lw2:List Nat) (pv:Value) (na:Bool) (va ua:Value) (la ka:List Nat) (nb:Bool) (vb ub:Value) (lb kb:List Nat) {x y:Rat}  (w:World) (hw:IsF w vn vd lw1 lw2) (ha:IsQ w na va ua la ka x) (hb:IsQ w nb vb ub lb kb y) (q:Rat) (hq:x*y=q) (hs:Hid (szq q<=1000))  :
  Calls Tryz.prog 40 #[.agg #[.int .i64 8,.int .i64 to,.int .i64 xa,.int .i64 xb,.bool ng,vn,vd],pv,aggR na va ua,aggR nb vb ub] w (zq w q):=by
 have Hq:=Lib.hid hq
 clear hq
 obtain ⟨a0,n0,c0,rfl,H0,hm0⟩:=hw.1.open
 obtain ⟨a1,n1,c1,rfl,H1,hm1⟩:=hw.2.open
 obtain ⟨a2,n2,c2,rfl,H2,hm2⟩:=ha.1.open
 obtain ⟨a3,n3,c3,rfl,H3,hm3⟩:=ha.2.1.open
 obtain ⟨a4,n4,c4,rfl,H4,hm4⟩:=hb.1.open
 obtain ⟨a5,n5,c5,rfl,H5,hm5⟩:=hb.2.1.open
 go_enter Tryz.func40,Tryz.ntmps40
 go_upto_region 1 with fail
 obtain ⟨W0,az⟩:∃ W0,(((w.alloc (.cells #[.int .i64 8,.int .i64 to,.int .i64 xa,.int .i64 xb,.bool ng,.slice a0 n0 c0,.slice a1 n1 c1] 49)).alloc (.cells #[.bool na,.slice a2 n2 c2,.slice a3 n3 c3] 47)).alloc (.cells #[.bool nb,.slice a4 n4 c4,.slice a5 n5 c5] 47)).alloc (.cells #[.bool false,.slice none 0 0,.slice none 0 0] 47)=W0:=⟨_,rfl⟩
 have am:=Lib.hid (show ∀ W',Below W0.heap.size W0 W'->(Bx7 W' w.heap.size (.int .i64 8) (.int .i64 to) (.int .i64 xa) (.int .i64 xb) (.bool ng) (.slice a0 n0 c0) (.slice a1 n1 c1)/\Bx3 W' (w.heap.size+1) (.bool na) (.slice a2 n2 c2) (.slice a3 n3 c3)/\Bx3 W' (w.heap.size+1+1) (.bool nb) (.slice a4 n4 c4) (.slice a5 n5 c5)/\Bx3 W' (w.heap.size+1+1+1) (.bool false) (.slice none 0 0) (.slice none 0 0)) from fun W' hb => by
   refine ⟨bx7 hb ?_ ?_ ?_ ?_ ?_ ?_ ?_ ?_ ?_ ?_ ?_ ?_ ?_ ?_,bx3 hb ?_ ?_ ?_ ?_ ?_ ?_,bx3 hb ?_ ?_ ?_ ?_ ?_ ?_,bx3 hb ?_ ?_ ?_ ?_ ?_ ?_⟩
   all_goals first|assumption|(rw [<- az];simp [go_sem]))
 have zb:Below w.heap.size w W0:=by rw [<- az];exact bS (bS (bS (bN _ _) (bN _ _)) (bN _ _)) (bN _ _)
 rw [az]
 clear az
 have i0:=hw.to zb
 have i1:=ha.to zb
 have i2:=hb.to zb
 have gb:Below W0.heap.size W0 W0:=Below.refl _ _
 obtain ⟨⟨z0,ac,ae,af,aw,ay,aP,aQ,ag,ah,ai,aB,aC,a8,bc⟩,⟨z1,ak,al,au,ap,aq,aA⟩,⟨z2,aH,aI,be,aK,aL,bf⟩,⟨z3,bt,bu,bA,bx,bz,bB⟩⟩:=am.out _ gb
 go_wp2_with fail
 refine (zcI na _ _ la ka nb _ _ lb kb _ (i1.to gb) (i2.to gb) q Hq.out hs).mono ?_
 clear ac ag ae ah af ai aw aB ay aC aP a8 aQ bc ak ap al aq au aA aH aK aI aL be bf bt bx bu bz bA bB
 rintro e w1 ⟨ng1,a1_,n1_,c1_,p1_,m1_,k1_,rfl,g1,bd⟩
 replace gb:=bS gb bd
 obtain ⟨⟨z0,ac,ae,af,aw,ay,aP,aQ,ag,ah,ai,aB,aC,a8,bc⟩,⟨z1,ak,al,au,ap,aq,aA⟩,⟨z2,aH,aI,be,aK,aL,bf⟩,⟨z3,bt,bu,bA,bx,bz,bB⟩⟩:=am.out _ gb
 go_wp2_with fail
 refine bodyPost_ret (zi Tryz.results40 _ _ _ _ _ _ rfl (Tri.set (x0:=.bool false) (y0:=.slice none 0 0) (z0:=.slice none 0 0) ⟨bt,bu,bA,bx,bz,bB⟩ _ _ _)) rfl (zae (bS zb gb) (by omega) ?_ g1)
 first|omega|(simp;omega)

theorem does_div (to xa xb:Int) (ng:Bool) (vn vd:Value) (lw1 lw2:List Nat) (pv:Value) (na:Bool) (va ua:Value) (la ka:List Nat) (nb:Bool) (vb ub:Value) (lb kb:List Nat) {x y:Rat}  (w:World) (hw:IsF w vn vd lw1 lw2) (ha:IsQ w na va ua la ka x) (hb:IsQ w nb vb ub lb kb y) (q:Rat) (hq:x / y=q) (hs:Hid (szq q<=1000)) (h0:y≠0)  :
  Calls Tryz.prog 40 #[.agg #[.int .i64 5,.int .i64 to,.int .i64 xa,.int .i64 xb,.bool ng,vn,vd],pv,aggR na va ua,aggR nb vb ub] w (zq w q):=by
 have Hq:=Lib.hid hq
 clear hq
 have H00:=Lib.hid h0
 clear h0
 obtain ⟨a0,n0,c0,rfl,H0,hm0⟩:=hw.1.open
 obtain ⟨a1,n1,c1,rfl,H1,hm1⟩:=hw.2.open
 obtain ⟨a2,n2,c2,rfl,H2,hm2⟩:=ha.1.open
 obtain ⟨a3,n3,c3,rfl,H3,hm3⟩:=ha.2.1.open
 obtain ⟨a4,n4,c4,rfl,H4,hm4⟩:=hb.1.open
 obtain ⟨a5,n5,c5,rfl,H5,hm5⟩:=hb.2.1.open
 go_enter Tryz.func40,Tryz.ntmps40
 go_upto_region 1 with fail
 obtain ⟨W0,az⟩:∃ W0,(((w.alloc (.cells #[.int .i64 5,.int .i64 to,.int .i64 xa,.int .i64 xb,.bool ng,.slice a0 n0 c0,.slice a1 n1 c1] 49)).alloc (.cells #[.bool na,.slice a2 n2 c2,.slice a3 n3 c3] 47)).alloc (.cells #[.bool nb,.slice a4 n4 c4,.slice a5 n5 c5] 47)).alloc (.cells #[.bool false,.slice none 0 0,.slice none 0 0] 47)=W0:=⟨_,rfl⟩
 have am:=Lib.hid (show ∀ W',Below W0.heap.size W0 W'->(Bx7 W' w.heap.size (.int .i64 5) (.int .i64 to) (.int .i64 xa) (.int .i64 xb) (.bool ng) (.slice a0 n0 c0) (.slice a1 n1 c1)/\Bx3 W' (w.heap.size+1) (.bool na) (.slice a2 n2 c2) (.slice a3 n3 c3)/\Bx3 W' (w.heap.size+1+1) (.bool nb) (.slice a4 n4 c4) (.slice a5 n5 c5)/\Bx3 W' (w.heap.size+1+1+1) (.bool false) (.slice none 0 0) (.slice none 0 0)) from fun W' hb => by
   refine ⟨bx7 hb ?_ ?_ ?_ ?_ ?_ ?_ ?_ ?_ ?_ ?_ ?_ ?_ ?_ ?_,bx3 hb ?_ ?_ ?_ ?_ ?_ ?_,bx3 hb ?_ ?_ ?_ ?_ ?_ ?_,bx3 hb ?_ ?_ ?_ ?_ ?_ ?_⟩
   all_goals first|assumption|(rw [<- az];simp [go_sem]))
 have zb:Below w.heap.size w W0:=by rw [<- az];exact bS (bS (bS (bN _ _) (bN _ _)) (bN _ _)) (bN _ _)
 rw [az]
 clear az
 have i0:=hw.to zb
 have i1:=ha.to zb
 have i2:=hb.to zb
 have gb:Below W0.heap.size W0 W0:=Below.refl _ _
 obtain ⟨⟨z0,ac,ae,af,aw,ay,aP,aQ,ag,ah,ai,aB,aC,a8,bc⟩,⟨z1,ak,al,au,ap,aq,aA⟩,⟨z2,aH,aI,be,aK,aL,bf⟩,⟨z3,bt,bu,bA,bx,bz,bB⟩⟩:=am.out _ gb
 go_wp2_with fail
 refine (ref8_div na _ _ la ka nb _ _ lb kb _ (i1.to gb) (i2.to gb) H00.out q Hq.out hs).mono ?_
 clear ac ag ae ah af ai aw aB ay aC aP a8 aQ bc ak ap al aq au aA aH aK aI aL be bf bt bx bu bz bA bB
 rintro e w1 ⟨ng1,a1_,n1_,c1_,p1_,m1_,k1_,rfl,g1,bd⟩
 replace gb:=bS gb bd
 obtain ⟨⟨z0,ac,ae,af,aw,ay,aP,aQ,ag,ah,ai,aB,aC,a8,bc⟩,⟨z1,ak,al,au,ap,aq,aA⟩,⟨z2,aH,aI,be,aK,aL,bf⟩,⟨z3,bt,bu,bA,bx,bz,bB⟩⟩:=am.out _ gb
 go_wp2_with fail
 refine bodyPost_ret (zi Tryz.results40 _ _ _ _ _ _ rfl (Tri.set (x0:=.bool false) (y0:=.slice none 0 0) (z0:=.slice none 0 0) ⟨bt,bu,bA,bx,bz,bB⟩ _ _ _)) rfl (zae (bS zb gb) (by omega) ?_ g1)
 first|omega|(simp;omega)

theorem ziu (to xa xb:Int) (ng:Bool) (vn vd:Value) (lw1 lw2:List Nat) (pv:Value) (na:Bool) (va ua:Value) (la ka:List Nat) (nb:Bool) (vb ub:Value) (lb kb:List Nat) {x y:Rat}  (w:World) (hw:IsF w vn vd lw1 lw2) (ha:IsQ w na va ua la ka x) (hb:IsQ w nb vb ub lb kb y) (h0:y=0)  :
  Calls Tryz.prog 40 #[.agg #[.int .i64 5,.int .i64 to,.int .i64 xa,.int .i64 xb,.bool ng,vn,vd],pv,aggR na va ua,aggR nb vb ub] w (fun e w' => e=.returned (.tuple #[aggR false (.slice none 0 0) (.slice none 0 0),.int .i64 3])/\Below w.heap.size w w'):=by
 have H00:=Lib.hid h0
 clear h0
 obtain ⟨a0,n0,c0,rfl,H0,hm0⟩:=hw.1.open
 obtain ⟨a1,n1,c1,rfl,H1,hm1⟩:=hw.2.open
 obtain ⟨a2,n2,c2,rfl,H2,hm2⟩:=ha.1.open
 obtain ⟨a3,n3,c3,rfl,H3,hm3⟩:=ha.2.1.open
 obtain ⟨a4,n4,c4,rfl,H4,hm4⟩:=hb.1.open
 obtain ⟨a5,n5,c5,rfl,H5,hm5⟩:=hb.2.1.open
 go_enter Tryz.func40,Tryz.ntmps40
 go_upto_region 1 with fail
 obtain ⟨W0,az⟩:∃ W0,(((w.alloc (.cells #[.int .i64 5,.int .i64 to,.int .i64 xa,.int .i64 xb,.bool ng,.slice a0 n0 c0,.slice a1 n1 c1] 49)).alloc (.cells #[.bool na,.slice a2 n2 c2,.slice a3 n3 c3] 47)).alloc (.cells #[.bool nb,.slice a4 n4 c4,.slice a5 n5 c5] 47)).alloc (.cells #[.bool false,.slice none 0 0,.slice none 0 0] 47)=W0:=⟨_,rfl⟩
 have am:=Lib.hid (show ∀ W',Below W0.heap.size W0 W'->(Bx7 W' w.heap.size (.int .i64 5) (.int .i64 to) (.int .i64 xa) (.int .i64 xb) (.bool ng) (.slice a0 n0 c0) (.slice a1 n1 c1)/\Bx3 W' (w.heap.size+1) (.bool na) (.slice a2 n2 c2) (.slice a3 n3 c3)/\Bx3 W' (w.heap.size+1+1) (.bool nb) (.slice a4 n4 c4) (.slice a5 n5 c5)/\Bx3 W' (w.heap.size+1+1+1) (.bool false) (.slice none 0 0) (.slice none 0 0)) from fun W' hb => by
   refine ⟨bx7 hb ?_ ?_ ?_ ?_ ?_ ?_ ?_ ?_ ?_ ?_ ?_ ?_ ?_ ?_,bx3 hb ?_ ?_ ?_ ?_ ?_ ?_,bx3 hb ?_ ?_ ?_ ?_ ?_ ?_,bx3 hb ?_ ?_ ?_ ?_ ?_ ?_⟩
   all_goals first|assumption|(rw [<- az];simp [go_sem]))
 have zb:Below w.heap.size w W0:=by rw [<- az];exact bS (bS (bS (bN _ _) (bN _ _)) (bN _ _)) (bN _ _)
 rw [az]
 clear az
 have i0:=hw.to zb
 have i1:=ha.to zb
 have i2:=hb.to zb
 have gb:Below W0.heap.size W0 W0:=Below.refl _ _
 obtain ⟨⟨z0,ac,ae,af,aw,ay,aP,aQ,ag,ah,ai,aB,aC,a8,bc⟩,⟨z1,ak,al,au,ap,aq,aA⟩,⟨z2,aH,aI,be,aK,aL,bf⟩,⟨z3,bt,bu,bA,bx,bz,bB⟩⟩:=am.out _ gb
 go_wp2_with fail
 refine (zif na _ _ la ka nb _ _ lb kb _ (i1.to gb) (i2.to gb) H00.out).mono ?_
 clear ac ag ae ah af ai aw aB ay aC aP a8 aQ bc ak ap al aq au aA aH aK aI aL be bf bt bx bu bz bA bB
 rintro e w1 ⟨rfl,bd⟩
 replace gb:=bS gb bd
 obtain ⟨⟨z0,ac,ae,af,aw,ay,aP,aQ,ag,ah,ai,aB,aC,a8,bc⟩,⟨z1,ak,al,au,ap,aq,aA⟩,⟨z2,aH,aI,be,aK,aL,bf⟩,⟨z3,bt,bu,bA,bx,bz,bB⟩⟩:=am.out _ gb
 go_wp2_with fail
 exact bodyPost_ret (zi Tryz.results40 _ _ _ _ _ _ rfl (Tri.set (x0:=.bool false) (y0:=.slice none 0 0) (z0:=.slice none 0 0) ⟨bt,bu,bA,bx,bz,bB⟩ _ _ _)) rfl ⟨rfl,bT (bS zb gb) (by omega) _ _ _⟩

theorem does_neg (to xa xb:Int) (ng:Bool) (vn vd:Value) (lw1 lw2:List Nat) (pv:Value) (na:Bool) (va ua:Value) (la ka:List Nat) (nb:Bool) (vb ub:Value) (lb kb:List Nat) {x y:Rat}  (w:World) (hw:IsF w vn vd lw1 lw2) (ha:IsQ w na va ua la ka x) (hb:IsQ w nb vb ub lb kb y)  :
  Calls Tryz.prog 40 #[.agg #[.int .i64 6,.int .i64 to,.int .i64 xa,.int .i64 xb,.bool ng,vn,vd],pv,aggR na va ua,aggR nb vb ub] w (zq w (-x)):=by
 obtain ⟨a0,n0,c0,rfl,H0,hm0⟩:=hw.1.open
 obtain ⟨a1,n1,c1,rfl,H1,hm1⟩:=hw.2.open
 obtain ⟨a2,n2,c2,rfl,H2,hm2⟩:=ha.1.open
 obtain ⟨a3,n3,c3,rfl,H3,hm3⟩:=ha.2.1.open
 obtain ⟨a4,n4,c4,rfl,H4,hm4⟩:=hb.1.open
 obtain ⟨a5,n5,c5,rfl,H5,hm5⟩:=hb.2.1.open
 go_enter Tryz.func40,Tryz.ntmps40
 go_upto_region 1 with fail
 obtain ⟨W0,az⟩:∃ W0,(((w.alloc (.cells #[.int .i64 6,.int .i64 to,.int .i64 xa,.int .i64 xb,.bool ng,.slice a0 n0 c0,.slice a1 n1 c1] 49)).alloc (.cells #[.bool na,.slice a2 n2 c2,.slice a3 n3 c3] 47)).alloc (.cells #[.bool nb,.slice a4 n4 c4,.slice a5 n5 c5] 47)).alloc (.cells #[.bool false,.slice none 0 0,.slice none 0 0] 47)=W0:=⟨_,rfl⟩
 have am:=Lib.hid (show ∀ W',Below W0.heap.size W0 W'->(Bx7 W' w.heap.size (.int .i64 6) (.int .i64 to) (.int .i64 xa) (.int .i64 xb) (.bool ng) (.slice a0 n0 c0) (.slice a1 n1 c1)/\Bx3 W' (w.heap.size+1) (.bool na) (.slice a2 n2 c2) (.slice a3 n3 c3)/\Bx3 W' (w.heap.size+1+1) (.bool nb) (.slice a4 n4 c4) (.slice a5 n5 c5)/\Bx3 W' (w.heap.size+1+1+1) (.bool false) (.slice none 0 0) (.slice none 0 0)) from fun W' hb => by
   refine ⟨bx7 hb ?_ ?_ ?_ ?_ ?_ ?_ ?_ ?_ ?_ ?_ ?_ ?_ ?_ ?_,bx3 hb ?_ ?_ ?_ ?_ ?_ ?_,bx3 hb ?_ ?_ ?_ ?_ ?_ ?_,bx3 hb ?_ ?_ ?_ ?_ ?_ ?_⟩
   all_goals first|assumption|(rw [<- az];simp [go_sem]))
 have zb:Below w.heap.size w W0:=by rw [<- az];exact bS (bS (bS (bN _ _) (bN _ _)) (bN _ _)) (bN _ _)
 rw [az]
 clear az
 have i0:=hw.to zb
 have i1:=ha.to zb
 have i2:=hb.to zb
 have gb:Below W0.heap.size W0 W0:=Below.refl _ _
 obtain ⟨⟨z0,ac,ae,af,aw,ay,aP,aQ,ag,ah,ai,aB,aC,a8,bc⟩,⟨z1,ak,al,au,ap,aq,aA⟩,⟨z2,aH,aI,be,aK,aL,bf⟩,⟨z3,bt,bu,bA,bx,bz,bB⟩⟩:=am.out _ gb
 go_wp2_with fail
 refine (ziC na _ _ la ka _ (i1.to gb)).mono ?_
 clear ac ag ae ah af ai aw aB ay aC aP a8 aQ bc ak ap al aq au aA aH aK aI aL be bf bt bx bu bz bA bB
 rintro e w1 ⟨ng1,a1_,n1_,c1_,p1_,m1_,k1_,rfl,g1,bd⟩
 replace gb:=bS gb bd
 obtain ⟨⟨z0,ac,ae,af,aw,ay,aP,aQ,ag,ah,ai,aB,aC,a8,bc⟩,⟨z1,ak,al,au,ap,aq,aA⟩,⟨z2,aH,aI,be,aK,aL,bf⟩,⟨z3,bt,bu,bA,bx,bz,bB⟩⟩:=am.out _ gb
 go_wp2_with fail
 refine bodyPost_ret (zi Tryz.results40 _ _ _ _ _ _ rfl (Tri.set (x0:=.bool false) (y0:=.slice none 0 0) (z0:=.slice none 0 0) ⟨bt,bu,bA,bx,bz,bB⟩ _ _ _)) rfl (zae (bS zb gb) (by omega) ?_ g1)
 first|omega|(simp;omega)

theorem zlp (to xa xb:Int) (ng:Bool) (vn vd:Value) (lw1 lw2:List Nat) (pv:Value) (na:Bool) (va ua:Value) (la ka:List Nat) (nb:Bool) (vb ub:Value) (lb kb:List Nat) {x y:Rat}  (w:World) (hw:IsF w vn vd lw1 lw2) (ha:IsQ w na va ua la ka x) (hb:IsQ w nb vb ub lb kb y)  :
  Calls Tryz.prog 40 #[.agg #[.int .i64 10,.int .i64 to,.int .i64 xa,.int .i64 xb,.bool ng,vn,vd],pv,aggR na va ua,aggR nb vb ub] w (zq w x):=by
 have Hx1:=zG ha
 obtain ⟨a0,n0,c0,rfl,H0,hm0⟩:=hw.1.open
 obtain ⟨a1,n1,c1,rfl,H1,hm1⟩:=hw.2.open
 obtain ⟨a2,n2,c2,rfl,H2,hm2⟩:=ha.1.open
 obtain ⟨a3,n3,c3,rfl,H3,hm3⟩:=ha.2.1.open
 obtain ⟨a4,n4,c4,rfl,H4,hm4⟩:=hb.1.open
 obtain ⟨a5,n5,c5,rfl,H5,hm5⟩:=hb.2.1.open
 go_enter Tryz.func40,Tryz.ntmps40
 go_upto_region 1 with fail
 obtain ⟨W0,az⟩:∃ W0,(((w.alloc (.cells #[.int .i64 10,.int .i64 to,.int .i64 xa,.int .i64 xb,.bool ng,.slice a0 n0 c0,.slice a1 n1 c1] 49)).alloc (.cells #[.bool na,.slice a2 n2 c2,.slice a3 n3 c3] 47)).alloc (.cells #[.bool nb,.slice a4 n4 c4,.slice a5 n5 c5] 47)).alloc (.cells #[.bool false,.slice none 0 0,.slice none 0 0] 47)=W0:=⟨_,rfl⟩
 have am:=Lib.hid (show ∀ W',Below W0.heap.size W0 W'->(Bx7 W' w.heap.size (.int .i64 10) (.int .i64 to) (.int .i64 xa) (.int .i64 xb) (.bool ng) (.slice a0 n0 c0) (.slice a1 n1 c1)/\Bx3 W' (w.heap.size+1) (.bool na) (.slice a2 n2 c2) (.slice a3 n3 c3)/\Bx3 W' (w.heap.size+1+1) (.bool nb) (.slice a4 n4 c4) (.slice a5 n5 c5)/\Bx3 W' (w.heap.size+1+1+1) (.bool false) (.slice none 0 0) (.slice none 0 0)) from fun W' hb => by
   refine ⟨bx7 hb ?_ ?_ ?_ ?_ ?_ ?_ ?_ ?_ ?_ ?_ ?_ ?_ ?_ ?_,bx3 hb ?_ ?_ ?_ ?_ ?_ ?_,bx3 hb ?_ ?_ ?_ ?_ ?_ ?_,bx3 hb ?_ ?_ ?_ ?_ ?_ ?_⟩
   all_goals first|assumption|(rw [<- az];simp [go_sem]))
 have zb:Below w.heap.size w W0:=by rw [<- az];exact bS (bS (bS (bN _ _) (bN _ _)) (bN _ _)) (bN _ _)
 rw [az]
 clear az
 have i0:=hw.to zb
 have i1:=ha.to zb
 have i2:=hb.to zb
 have gb:Below W0.heap.size W0 W0:=Below.refl _ _
 obtain ⟨⟨z0,ac,ae,af,aw,ay,aP,aQ,ag,ah,ai,aB,aC,a8,bc⟩,⟨z1,ak,al,au,ap,aq,aA⟩,⟨z2,aH,aI,be,aK,aL,bf⟩,⟨z3,bt,bu,bA,bx,bz,bB⟩⟩:=am.out _ gb
 go_wp2_with fail
 refine (zas na _ _ la ka _ (i1.to gb) x rfl Hx1).mono ?_
 clear ac ag ae ah af ai aw aB ay aC aP a8 aQ bc ak ap al aq au aA aH aK aI aL be bf bt bx bu bz bA bB
 rintro e w1 ⟨ng1,a1_,n1_,c1_,p1_,m1_,k1_,rfl,g1,bd⟩
 replace gb:=bS gb bd
 obtain ⟨⟨z0,ac,ae,af,aw,ay,aP,aQ,ag,ah,ai,aB,aC,a8,bc⟩,⟨z1,ak,al,au,ap,aq,aA⟩,⟨z2,aH,aI,be,aK,aL,bf⟩,⟨z3,bt,bu,bA,bx,bz,bB⟩⟩:=am.out _ gb
 go_wp2_with fail
 refine bodyPost_ret (zi Tryz.results40 _ _ _ _ _ _ rfl (Tri.set (x0:=.bool false) (y0:=.slice none 0 0) (z0:=.slice none 0 0) ⟨bt,bu,bA,bx,bz,bB⟩ _ _ _)) rfl (zae (bS zb gb) (by omega) ?_ g1)
 first|omega|(simp;omega)

theorem zjB (to xa xb:Int) (ng:Bool) (vn vd:Value) (lw1 lw2:List Nat) (pv:Value) (na:Bool) (va ua:Value) (la ka:List Nat) (nb:Bool) (vb ub:Value) (lb kb:List Nat) {x y z:Rat}  (w:World) (hw:IsQ w ng vn vd lw1 lw2 z) (ha:IsQ w na va ua la ka x) (hb:IsQ w nb vb ub lb kb y) (hs:Hid (szq z<=1000))  :
  Calls Tryz.prog 40 #[.agg #[.int .i64 1,.int .i64 to,.int .i64 xa,.int .i64 xb,.bool ng,vn,vd],pv,aggR na va ua,aggR nb vb ub] w (zq w z):=by
 obtain ⟨a0,n0,c0,rfl,H0,hm0⟩:=hw.1.open
 obtain ⟨a1,n1,c1,rfl,H1,hm1⟩:=hw.2.1.open
 obtain ⟨a2,n2,c2,rfl,H2,hm2⟩:=ha.1.open
 obtain ⟨a3,n3,c3,rfl,H3,hm3⟩:=ha.2.1.open
 obtain ⟨a4,n4,c4,rfl,H4,hm4⟩:=hb.1.open
 obtain ⟨a5,n5,c5,rfl,H5,hm5⟩:=hb.2.1.open
 go_enter Tryz.func40,Tryz.ntmps40
 go_upto_region 1 with fail
 obtain ⟨W0,az⟩:∃ W0,(((w.alloc (.cells #[.int .i64 1,.int .i64 to,.int .i64 xa,.int .i64 xb,.bool ng,.slice a0 n0 c0,.slice a1 n1 c1] 49)).alloc (.cells #[.bool na,.slice a2 n2 c2,.slice a3 n3 c3] 47)).alloc (.cells #[.bool nb,.slice a4 n4 c4,.slice a5 n5 c5] 47)).alloc (.cells #[.bool false,.slice none 0 0,.slice none 0 0] 47)=W0:=⟨_,rfl⟩
 have am:=Lib.hid (show ∀ W',Below W0.heap.size W0 W'->(Bx7 W' w.heap.size (.int .i64 1) (.int .i64 to) (.int .i64 xa) (.int .i64 xb) (.bool ng) (.slice a0 n0 c0) (.slice a1 n1 c1)/\Bx3 W' (w.heap.size+1) (.bool na) (.slice a2 n2 c2) (.slice a3 n3 c3)/\Bx3 W' (w.heap.size+1+1) (.bool nb) (.slice a4 n4 c4) (.slice a5 n5 c5)/\Bx3 W' (w.heap.size+1+1+1) (.bool false) (.slice none 0 0) (.slice none 0 0)) from fun W' hb => by
   refine ⟨bx7 hb ?_ ?_ ?_ ?_ ?_ ?_ ?_ ?_ ?_ ?_ ?_ ?_ ?_ ?_,bx3 hb ?_ ?_ ?_ ?_ ?_ ?_,bx3 hb ?_ ?_ ?_ ?_ ?_ ?_,bx3 hb ?_ ?_ ?_ ?_ ?_ ?_⟩
   all_goals first|assumption|(rw [<- az];simp [go_sem]))
 have zb:Below w.heap.size w W0:=by rw [<- az];exact bS (bS (bS (bN _ _) (bN _ _)) (bN _ _)) (bN _ _)
 rw [az]
 clear az
 have i0:=hw.to zb
 have i1:=ha.to zb
 have i2:=hb.to zb
 have gb:Below W0.heap.size W0 W0:=Below.refl _ _
 obtain ⟨⟨z0,ac,ae,af,aw,ay,aP,aQ,ag,ah,ai,aB,aC,a8,bc⟩,⟨z1,ak,al,au,ap,aq,aA⟩,⟨z2,aH,aI,be,aK,aL,bf⟩,⟨z3,bt,bu,bA,bx,bz,bB⟩⟩:=am.out _ gb
 go_wp2_with fail
 refine (zas ng _ _ lw1 lw2 _ (i0.to gb) z rfl hs).mono ?_
 clear ac ag ae ah af ai aw aB ay aC aP a8 aQ bc ak ap al aq au aA aH aK aI aL be bf bt bx bu bz bA bB
 rintro e w1 ⟨ng1,a1_,n1_,c1_,p1_,m1_,k1_,rfl,g1,bd⟩
 replace gb:=bS gb bd
 obtain ⟨⟨z0,ac,ae,af,aw,ay,aP,aQ,ag,ah,ai,aB,aC,a8,bc⟩,⟨z1,ak,al,au,ap,aq,aA⟩,⟨z2,aH,aI,be,aK,aL,bf⟩,⟨z3,bt,bu,bA,bx,bz,bB⟩⟩:=am.out _ gb
 go_wp2_with fail
 refine bodyPost_ret (zi Tryz.results40 _ _ _ _ _ _ rfl (Tri.set (x0:=.bool false) (y0:=.slice none 0 0) (z0:=.slice none 0 0) ⟨bt,bu,bA,bx,bz,bB⟩ _ _ _)) rfl (zae (bS zb gb) (by omega) ?_ g1)
 first|omega|(simp;omega)

theorem zjs (to xb:Int) (ng:Bool) (vn vd:Value) (lw1 lw2:List Nat) (na:Bool) (va ua:Value) (la ka:List Nat) (nb:Bool) (vb ub:Value) (lb kb:List Nat) (b off n cap A:Nat) (nr1:Bool) (vr1 ur1:Value) (lr1 kr1:List Nat) {x y z:Rat}  (w:World) (hw:IsF w vn vd lw1 lw2) (ha:IsQ w na va ua la ka x) (hb:IsQ w nb vb ub lb kb y) (hn:n<=maxLen) (hA:A<n) (tr1:zbA w b (off+A*3) (.bool nr1) vr1 ur1) (qr1:IsQ w nr1 vr1 ur1 lr1 kr1 z) (hs:Hid (szq z<=1000))  :
  Calls Tryz.prog 40 #[.agg #[.int .i64 0,.int .i64 to,.int .i64 (A:Int),.int .i64 xb,.bool ng,vn,vd],.slice (some ⟨b,off,none⟩) n cap,aggR na va ua,aggR nb vb ub] w (zq w z):=by
 unfold maxLen at hn
 obtain ⟨a0,n0,c0,rfl,H0,hm0⟩:=hw.1.open
 obtain ⟨a1,n1,c1,rfl,H1,hm1⟩:=hw.2.open
 obtain ⟨a2,n2,c2,rfl,H2,hm2⟩:=ha.1.open
 obtain ⟨a3,n3,c3,rfl,H3,hm3⟩:=ha.2.1.open
 obtain ⟨a4,n4,c4,rfl,H4,hm4⟩:=hb.1.open
 obtain ⟨a5,n5,c5,rfl,H5,hm5⟩:=hb.2.1.open
 obtain ⟨ra1,rn1,rc1,rfl,RH1,rm1⟩:=qr1.1.open
 obtain ⟨sa1,sn1,sc1,rfl,SH1,sm1⟩:=qr1.2.1.open
 have hi1:(A:Int)<(n:Int):=by omega
 have lt1:=tr1.lt
 go_enter Tryz.func40,Tryz.ntmps40
 go_upto_region 1 with fail
 obtain ⟨W0,az⟩:∃ W0,(((w.alloc (.cells #[.int .i64 0,.int .i64 to,.int .i64 (A:Int),.int .i64 xb,.bool ng,.slice a0 n0 c0,.slice a1 n1 c1] 49)).alloc (.cells #[.bool na,.slice a2 n2 c2,.slice a3 n3 c3] 47)).alloc (.cells #[.bool nb,.slice a4 n4 c4,.slice a5 n5 c5] 47)).alloc (.cells #[.bool false,.slice none 0 0,.slice none 0 0] 47)=W0:=⟨_,rfl⟩
 have am:=Lib.hid (show ∀ W',Below W0.heap.size W0 W'->(Bx7 W' w.heap.size (.int .i64 0) (.int .i64 to) (.int .i64 (A:Int)) (.int .i64 xb) (.bool ng) (.slice a0 n0 c0) (.slice a1 n1 c1)/\Bx3 W' (w.heap.size+1) (.bool na) (.slice a2 n2 c2) (.slice a3 n3 c3)/\Bx3 W' (w.heap.size+1+1) (.bool nb) (.slice a4 n4 c4) (.slice a5 n5 c5)/\Bx3 W' (w.heap.size+1+1+1) (.bool false) (.slice none 0 0) (.slice none 0 0)) from fun W' hb => by
   refine ⟨bx7 hb ?_ ?_ ?_ ?_ ?_ ?_ ?_ ?_ ?_ ?_ ?_ ?_ ?_ ?_,bx3 hb ?_ ?_ ?_ ?_ ?_ ?_,bx3 hb ?_ ?_ ?_ ?_ ?_ ?_,bx3 hb ?_ ?_ ?_ ?_ ?_ ?_⟩
   all_goals first|assumption|(rw [<- az];simp [go_sem]))
 have zb:Below w.heap.size w W0:=by rw [<- az];exact bS (bS (bS (bN _ _) (bN _ _)) (bN _ _)) (bN _ _)
 rw [az]
 clear az
 have i0:=hw.to zb
 have i1:=ha.to zb
 have i2:=hb.to zb
 have i3:=tr1.to zb
 have i4:=qr1.to zb
 have gb:Below W0.heap.size W0 W0:=Below.refl _ _
 obtain ⟨⟨z0,ac,ae,af,aw,ay,aP,aQ,ag,ah,ai,aB,aC,a8,bc⟩,⟨z1,ak,al,au,ap,aq,aA⟩,⟨z2,aH,aI,be,aK,aL,bf⟩,⟨z3,bt,bu,bA,bx,bz,bB⟩⟩:=am.out _ gb
 obtain ⟨t10,t11,t12⟩:=(i3.to gb)
 go_wp2_with fail
 refine (zas nr1 _ _ lr1 kr1 _ (i4.to gb) z rfl hs).mono ?_
 clear ac ag ae ah af ai aw aB ay aC aP a8 aQ bc ak ap al aq au aA aH aK aI aL be bf bt bx bu bz bA bB t10 t11 t12
 rintro e w1 ⟨ng1,a1_,n1_,c1_,p1_,m1_,k1_,rfl,g1,bd⟩
 replace gb:=bS gb bd
 obtain ⟨⟨z0,ac,ae,af,aw,ay,aP,aQ,ag,ah,ai,aB,aC,a8,bc⟩,⟨z1,ak,al,au,ap,aq,aA⟩,⟨z2,aH,aI,be,aK,aL,bf⟩,⟨z3,bt,bu,bA,bx,bz,bB⟩⟩:=am.out _ gb
 obtain ⟨t10,t11,t12⟩:=(i3.to gb)
 go_wp2_with fail
 refine bodyPost_ret (zi Tryz.results40 _ _ _ _ _ _ rfl (Tri.set (x0:=.bool false) (y0:=.slice none 0 0) (z0:=.slice none 0 0) ⟨bt,bu,bA,bx,bz,bB⟩ _ _ _)) rfl (zae (bS zb gb) (by omega) ?_ g1)
 first|omega|(simp;omega)

end Go.Proofs.YtkjcdnlpjldhaaaGreat

