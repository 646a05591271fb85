/-
  The texts Vm3, VmMath2, VmLaw, VmLaw2, VmK, VmCells, Made, VmPush, InsRow, Vm5, Small, Vm8, merged.
-/
import Derived.Test.YtkjcdnlpjldhaaaGreatK19
import Derived.Test.YtkjcdnlpjldhaaaGreatK11
import Derived.Deep.RegionHeld3
import Derived.Deep.AppendLies
import Derived.Test.YtkjcdnlpjldhaaaGreatK18
import Derived.Test.YtkjcdnlpjldhaaaGreatK16
set_option linter.unusedVariables false
set_option linter.unusedSimpArgs false
set_option maxRecDepth 100000
set_option maxHeartbeats 400000000
namespace Go.Proofs.YtkjcdnlpjldhaaaGreat
open Go.RowKit Tw
attribute [local go_sem ↓] Go.wp_at_zero Go.wp_at_succ

theorem zeA (c:Cd) (n:Nat) (h:c.all.length=n):zbX c=(!(decide (c.ins<1)) && !(decide (40<c.ins)) && !(decide (c.rows<1)) && !(decide (40<c.rows)) && !(c.cols != c.ins) && !(decide (c.regs<0)) && !(decide (100000<c.regs)) && !(decide ((100000:Int)<(n:Int)))):=by
 subst h
 unfold zbX
 rw [Bool.eq_iff_iff]
 simp only [Bool.and_eq_true,Bool.not_eq_true',decide_eq_false_iff_not,decide_eq_true_eq,bne_eq_false_iff_eq]
 omega

theorem zed {c:Cd} {L:List Int} {l:List Ins} {k:Nat} (h:k<l.length):zaq c L (l.drop k)=(zp c L l[k] && zaq c (more L l[k]) (l.drop (k+1))):=by
 rw [List.drop_eq_getElem_cons h];rfl

theorem zmd {N T:Nat} {L:List Int} (i:Nat):(if i=T then Value.bool true else Value.bool (decide ((i:Int) ∈ L)))=.bool (decide ((i:Int) ∈ L++[(T:Int)])):=by
 by_cases h:i=T
 ·rw [if_pos h,h];simp
 ·rw [if_neg h]
  congr 1
  have:¬ (i:Int)=(T:Int):=by omega
  simp [this]

theorem insOk_to {c:Cd} {L:List Int} {x:Ins} (h:zp c L x=true) (h10:x.op≠10):0<=x.to/\x.to<c.regs:=by
 unfold zp zD at h
 rw [if_neg h10] at h
 simp only [Bool.and_eq_true,decide_eq_true_eq] at h
 exact h.2

theorem ziT (c:Cd) (v:Value) (w:World) (hc:IsC w c v) (hs:zbo 1000 c.all) (h0:zbX c=false) :
  Calls Tryz.prog 14 #[aggC c v] w (fun e w' => e=.returned (.bool false)/\Below w.heap.size w w'):=by
 clear hs
 obtain ⟨a0,n0,c0,rfl,H0,hm0⟩:=hc.1.open
 obtain ⟨e0,te0⟩:∃ b,decide (c.ins<1)=b:=⟨_,rfl⟩
 obtain ⟨e1,te1⟩:∃ b,decide (40<c.ins)=b:=⟨_,rfl⟩
 obtain ⟨e2,te2⟩:∃ b,decide (c.rows<1)=b:=⟨_,rfl⟩
 obtain ⟨e3,te3⟩:∃ b,decide (40<c.rows)=b:=⟨_,rfl⟩
 obtain ⟨e4,te4⟩:∃ b,(c.cols != c.ins)=b:=⟨_,rfl⟩
 obtain ⟨e5,te5⟩:∃ b,decide (c.regs<0)=b:=⟨_,rfl⟩
 obtain ⟨e6,te6⟩:∃ b,decide (100000<c.regs)=b:=⟨_,rfl⟩
 obtain ⟨e7,te7⟩:∃ b,decide ((100000:Int)<(n0:Int))=b:=⟨_,rfl⟩
 rw [zeA c n0 H0.out,te0,te1,te2,te3,te4,te5,te6,te7] at h0
 cases e0
 case true =>
  clear h0
  go_enter Tryz.func14,Tryz.ntmps14
  go_wp2_with fail
  obtain ⟨W0,an⟩:∃ W0,w.alloc (.cells #[.int .i64 c.ins,.int .i64 c.rows,.int .i64 c.cols,.int .i64 c.regs,.slice a0 n0 c0] 24)=W0:=⟨_,rfl⟩
  have ap:=Lib.hid (show ∀ W',Below W0.heap.size W0 W'->(Bx5 W' w.heap.size (.int .i64 c.ins) (.int .i64 c.rows) (.int .i64 c.cols) (.int .i64 c.regs) (.slice a0 n0 c0)) from fun W' hb => by
    apply bx5 hb
    all_goals first|assumption|(rw [<- an];simp [go_sem]))
  have zb:Below w.heap.size w W0:=by rw [<- an];exact bN _ _
  rw [an]
  clear an
  have i0:=hc.to zb
  have gb:Below W0.heap.size W0 W0:=Below.refl _ _
  obtain ⟨z0,ae,af,ag,az,aA,ah,ak,al,aJ,aK⟩:=ap.out _ gb
  go_wp2_with fail
  go_ret
  exact ⟨rfl,bS zb gb⟩
 case false =>
  cases e1
  case true =>
   clear h0
   go_enter Tryz.func14,Tryz.ntmps14
   go_wp2_with fail
   obtain ⟨W0,an⟩:∃ W0,w.alloc (.cells #[.int .i64 c.ins,.int .i64 c.rows,.int .i64 c.cols,.int .i64 c.regs,.slice a0 n0 c0] 24)=W0:=⟨_,rfl⟩
   have ap:=Lib.hid (show ∀ W',Below W0.heap.size W0 W'->(Bx5 W' w.heap.size (.int .i64 c.ins) (.int .i64 c.rows) (.int .i64 c.cols) (.int .i64 c.regs) (.slice a0 n0 c0)) from fun W' hb => by
     apply bx5 hb
     all_goals first|assumption|(rw [<- an];simp [go_sem]))
   have zb:Below w.heap.size w W0:=by rw [<- an];exact bN _ _
   rw [an]
   clear an
   have i0:=hc.to zb
   have gb:Below W0.heap.size W0 W0:=Below.refl _ _
   obtain ⟨z0,ae,af,ag,az,aA,ah,ak,al,aJ,aK⟩:=ap.out _ gb
   go_wp2_with fail
   go_ret
   exact ⟨rfl,bS zb gb⟩
  case false =>
   cases e2
   case true =>
    clear h0
    go_enter Tryz.func14,Tryz.ntmps14
    go_wp2_with fail
    obtain ⟨W0,an⟩:∃ W0,w.alloc (.cells #[.int .i64 c.ins,.int .i64 c.rows,.int .i64 c.cols,.int .i64 c.regs,.slice a0 n0 c0] 24)=W0:=⟨_,rfl⟩
    have ap:=Lib.hid (show ∀ W',Below W0.heap.size W0 W'->(Bx5 W' w.heap.size (.int .i64 c.ins) (.int .i64 c.rows) (.int .i64 c.cols) (.int .i64 c.regs) (.slice a0 n0 c0)) from fun W' hb => by
      apply bx5 hb
      all_goals first|assumption|(rw [<- an];simp [go_sem]))
    have zb:Below w.heap.size w W0:=by rw [<- an];exact bN _ _
    rw [an]
    clear an
    have i0:=hc.to zb
    have gb:Below W0.heap.size W0 W0:=Below.refl _ _
    obtain ⟨z0,ae,af,ag,az,aA,ah,ak,al,aJ,aK⟩:=ap.out _ gb
    go_wp2_with fail
    go_ret
    exact ⟨rfl,bS zb gb⟩
   case false =>
    cases e3
    case true =>
     clear h0
     go_enter Tryz.func14,Tryz.ntmps14
     go_wp2_with fail
     obtain ⟨W0,an⟩:∃ W0,w.alloc (.cells #[.int .i64 c.ins,.int .i64 c.rows,.int .i64 c.cols,.int .i64 c.regs,.slice a0 n0 c0] 24)=W0:=⟨_,rfl⟩
     have ap:=Lib.hid (show ∀ W',Below W0.heap.size W0 W'->(Bx5 W' w.heap.size (.int .i64 c.ins) (.int .i64 c.rows) (.int .i64 c.cols) (.int .i64 c.regs) (.slice a0 n0 c0)) from fun W' hb => by
       apply bx5 hb
       all_goals first|assumption|(rw [<- an];simp [go_sem]))
     have zb:Below w.heap.size w W0:=by rw [<- an];exact bN _ _
     rw [an]
     clear an
     have i0:=hc.to zb
     have gb:Below W0.heap.size W0 W0:=Below.refl _ _
     obtain ⟨z0,ae,af,ag,az,aA,ah,ak,al,aJ,aK⟩:=ap.out _ gb
     go_wp2_with fail
     go_ret
     exact ⟨rfl,bS zb gb⟩
    case false =>
     cases e4
     case true =>
      clear h0
      go_enter Tryz.func14,Tryz.ntmps14
      go_wp2_with fail
      obtain ⟨W0,an⟩:∃ W0,w.alloc (.cells #[.int .i64 c.ins,.int .i64 c.rows,.int .i64 c.cols,.int .i64 c.regs,.slice a0 n0 c0] 24)=W0:=⟨_,rfl⟩
      have ap:=Lib.hid (show ∀ W',Below W0.heap.size W0 W'->(Bx5 W' w.heap.size (.int .i64 c.ins) (.int .i64 c.rows) (.int .i64 c.cols) (.int .i64 c.regs) (.slice a0 n0 c0)) from fun W' hb => by
        apply bx5 hb
        all_goals first|assumption|(rw [<- an];simp [go_sem]))
      have zb:Below w.heap.size w W0:=by rw [<- an];exact bN _ _
      rw [an]
      clear an
      have i0:=hc.to zb
      have gb:Below W0.heap.size W0 W0:=Below.refl _ _
      obtain ⟨z0,ae,af,ag,az,aA,ah,ak,al,aJ,aK⟩:=ap.out _ gb
      go_wp2_with fail
      go_ret
      exact ⟨rfl,bS zb gb⟩
     case false =>
      cases e5
      case true =>
       clear h0
       go_enter Tryz.func14,Tryz.ntmps14
       go_wp2_with fail
       obtain ⟨W0,an⟩:∃ W0,w.alloc (.cells #[.int .i64 c.ins,.int .i64 c.rows,.int .i64 c.cols,.int .i64 c.regs,.slice a0 n0 c0] 24)=W0:=⟨_,rfl⟩
       have ap:=Lib.hid (show ∀ W',Below W0.heap.size W0 W'->(Bx5 W' w.heap.size (.int .i64 c.ins) (.int .i64 c.rows) (.int .i64 c.cols) (.int .i64 c.regs) (.slice a0 n0 c0)) from fun W' hb => by
         apply bx5 hb
         all_goals first|assumption|(rw [<- an];simp [go_sem]))
       have zb:Below w.heap.size w W0:=by rw [<- an];exact bN _ _
       rw [an]
       clear an
       have i0:=hc.to zb
       have gb:Below W0.heap.size W0 W0:=Below.refl _ _
       obtain ⟨z0,ae,af,ag,az,aA,ah,ak,al,aJ,aK⟩:=ap.out _ gb
       go_wp2_with fail
       go_ret
       exact ⟨rfl,bS zb gb⟩
      case false =>
       cases e6
       case true =>
        clear h0
        go_enter Tryz.func14,Tryz.ntmps14
        go_wp2_with fail
        obtain ⟨W0,an⟩:∃ W0,w.alloc (.cells #[.int .i64 c.ins,.int .i64 c.rows,.int .i64 c.cols,.int .i64 c.regs,.slice a0 n0 c0] 24)=W0:=⟨_,rfl⟩
        have ap:=Lib.hid (show ∀ W',Below W0.heap.size W0 W'->(Bx5 W' w.heap.size (.int .i64 c.ins) (.int .i64 c.rows) (.int .i64 c.cols) (.int .i64 c.regs) (.slice a0 n0 c0)) from fun W' hb => by
          apply bx5 hb
          all_goals first|assumption|(rw [<- an];simp [go_sem]))
        have zb:Below w.heap.size w W0:=by rw [<- an];exact bN _ _
        rw [an]
        clear an
        have i0:=hc.to zb
        have gb:Below W0.heap.size W0 W0:=Below.refl _ _
        obtain ⟨z0,ae,af,ag,az,aA,ah,ak,al,aJ,aK⟩:=ap.out _ gb
        go_wp2_with fail
        go_ret
        exact ⟨rfl,bS zb gb⟩
       case false =>
        cases e7
        case true =>
         clear h0
         go_enter Tryz.func14,Tryz.ntmps14
         go_wp2_with fail
         obtain ⟨W0,an⟩:∃ W0,w.alloc (.cells #[.int .i64 c.ins,.int .i64 c.rows,.int .i64 c.cols,.int .i64 c.regs,.slice a0 n0 c0] 24)=W0:=⟨_,rfl⟩
         have ap:=Lib.hid (show ∀ W',Below W0.heap.size W0 W'->(Bx5 W' w.heap.size (.int .i64 c.ins) (.int .i64 c.rows) (.int .i64 c.cols) (.int .i64 c.regs) (.slice a0 n0 c0)) from fun W' hb => by
           apply bx5 hb
           all_goals first|assumption|(rw [<- an];simp [go_sem]))
         have zb:Below w.heap.size w W0:=by rw [<- an];exact bN _ _
         rw [an]
         clear an
         have i0:=hc.to zb
         have gb:Below W0.heap.size W0 W0:=Below.refl _ _
         obtain ⟨z0,ae,af,ag,az,aA,ah,ak,al,aJ,aK⟩:=ap.out _ gb
         go_wp2_with fail
         go_ret
         exact ⟨rfl,bS zb gb⟩
        case false =>
         exact absurd h0 (by decide)

theorem ziS (c:Cd) (v:Value) (w:World) (hc:IsC w c v) (hs:zbo 1000 c.all) (h0:zbX c=true) (o:Bool) (ho:zaq c [] c.all=o) :
  Calls Tryz.prog 14 #[aggC c v] w (fun e w' => e=.returned (.bool o)/\Below w.heap.size w w'):=by
 have hh:=h0
 unfold zbX at hh
 simp only [decide_eq_true_eq] at hh
 obtain ⟨N,hN⟩:=Int.eq_ofNat_of_zero_le hh.2.2.2.2.2.1
 have hN1:N<=100000:=by omega
 have Hr:=Lib.hid (show 1<=c.rows/\c.rows<=40 by omega)
 have Hcl:=Lib.hid (show 1<=c.cols/\c.cols<=40 by omega)
 have HN:=Lib.hid hN
 clear hh
 clear hN
 have Hs:=Lib.hid hs
 have Ho:=Lib.hid ho
 clear hs ho
 obtain ⟨a0,n0,c0,rfl,H0,hm0⟩:=hc.1.open
 obtain ⟨e0,te0⟩:∃ b,decide (c.ins<1)=b:=⟨_,rfl⟩
 obtain ⟨e1,te1⟩:∃ b,decide (40<c.ins)=b:=⟨_,rfl⟩
 obtain ⟨e2,te2⟩:∃ b,decide (c.rows<1)=b:=⟨_,rfl⟩
 obtain ⟨e3,te3⟩:∃ b,decide (40<c.rows)=b:=⟨_,rfl⟩
 obtain ⟨e4,te4⟩:∃ b,(c.cols != c.ins)=b:=⟨_,rfl⟩
 obtain ⟨e5,te5⟩:∃ b,decide (c.regs<0)=b:=⟨_,rfl⟩
 obtain ⟨e6,te6⟩:∃ b,decide (100000<c.regs)=b:=⟨_,rfl⟩
 obtain ⟨e7,te7⟩:∃ b,decide ((100000:Int)<(n0:Int))=b:=⟨_,rfl⟩
 rw [zeA c n0 H0.out,te0,te1,te2,te3,te4,te5,te6,te7] at h0
 simp only [Bool.and_eq_true,Bool.not_eq_true'] at h0
 obtain ⟨⟨⟨⟨⟨⟨⟨rfl,rfl⟩,rfl⟩,rfl⟩,rfl⟩,rfl⟩,rfl⟩,rfl⟩:=h0
 have hn0:n0<=100000:=by have:=of_decide_eq_false te7;omega
 go_enter Tryz.func14,Tryz.ntmps14
 go_wp2_with (
  at_make
  obtain ⟨W0,an⟩:∃ W0,w.alloc (.cells #[.int .i64 c.ins,.int .i64 c.rows,.int .i64 c.cols,.int .i64 c.regs,.slice a0 n0 c0] 24)=W0:=⟨_,rfl⟩
  have ap:=Lib.hid (show ∀ W',Below W0.heap.size W0 W'->(Bx5 W' w.heap.size (.int .i64 c.ins) (.int .i64 c.rows) (.int .i64 c.cols) (.int .i64 c.regs) (.slice a0 n0 c0)) from fun W' hb => by
    apply bx5 hb
    all_goals first|assumption|(rw [<- an];simp [go_sem]))
  have zb:Below w.heap.size w W0:=by rw [<- an];exact bN _ _
  rw [an]
  clear an
  have i0:=hc.to zb
  have gb:Below W0.heap.size W0 W0:=Below.refl _ _
  obtain ⟨z0,ae,af,ag,az,aA,ah,ak,al,aJ,aK⟩:=ap.out _ gb
  refine wp_makeF _ rfl _ _ 44 4 rfl Tryz.underlying44 (.bool false) 1 1 (by kernel_rfl) rfl (by decide) _ _ _ _ N rfl rfl HN.out HN.out (by omega) ?_
  intro w1 hr1 be
  clear ae ah af ak ag al az aJ aA aK
  replace gb:=bS gb be
  obtain ⟨z0,ae,af,ag,az,aA,ah,ak,al,aJ,aK⟩:=ap.out _ gb
  rw [Nat.mul_one] at hr1
  replace hr1:zbu w1 W0.heap.size N (fun i => .bool (decide ((i:Int) ∈ ([]:List Int)))):=hr1.cast (fun i _ => by simp [Nat.mod_one,Value.cells]))
 go_loopw [53] (fun i ww => ∃ (k:Nat) (L:List Int),k<=n0/\i=.int .i64 k/\Below W0.heap.size W0 ww/\zbu ww W0.heap.size N (fun i => .bool (decide ((i:Int) ∈ L)))/\Hid (zaq c L (c.all.drop k)=o)/\Hid (∀ x ∈ L,0<=x/\x<(N:Int))) (fun i _ => n0 - (intOf i).toNat)
 case atStart => exact ⟨0,[],Nat.zero_le _,rfl,gb,hr1,by rw [List.drop_zero];exact Ho.out,fun x hx => by cases hx⟩
 case round =>
  clear gb hr1 ae ah af ak ag al az aJ aA aK
  obtain ⟨k,L,hk,rfl,gb,hrow,HA,HL⟩:=hrel
  obtain ⟨z0,ae,af,ag,az,aA,ah,ak,al,aJ,aK⟩:=ap.out _ gb
  by_cases hkn:k<n0
  ·have hki:(k:Int)<(n0:Int):=by omega
   have hkl:k<c.all.length:=by rw [H0.out];exact hkn
   obtain ⟨b,off,rfl,h7⟩:=(i0.to gb).1.nth hkl
   have HA1:=HA.out
   rw [zed hkl] at HA1
   have hsx:=Hs.out _ (List.getElem_mem hkl)
   obtain ⟨x,hx⟩:∃ x,c.all[k]=x:=⟨_,rfl⟩
   rw [hx] at HA1 h7 hsx
   obtain ⟨vn,vd,s0,s1,s2,s3,s4,s5,s6,hX⟩:=h7.isX hsx.1 hsx.2
   obtain ⟨a1,n1,c1,rfl,H1,hm1⟩:=hX.1.1.open
   obtain ⟨a2,n2,c2,rfl,H2,hm2⟩:=hX.1.2.1.open
   have HX1:=Lib.hid hX
   have HA2:=Lib.hid HA1
   clear HA HA1 h7 hsx hx hX hki
   have hki:(k:Int)<(n0:Int):=by omega
   go_wp2_with fail
   clear s0 s1 s2 s3 s4 s5 s6
   obtain ⟨W2,dp⟩:∃ W2,wr.alloc (.cells #[.int .i64 x.op,.int .i64 x.to,.int .i64 x.a,.int .i64 x.b,.bool x.q.ng,.slice a1 n1 c1,.slice a2 n2 c2] 49)=W2:=⟨_,rfl⟩
   have aZ:Below wr.heap.size wr W2:=by rw [<- dp];exact bN _ _
   have HT:Hid (∀ W',Below W2.heap.size W2 W'->W'.cell? ⟨wr.heap.size,0,none⟩=some (.int .i64 x.op)/\W'.cell? ⟨wr.heap.size,1,none⟩=some (.int .i64 x.to)/\W'.cell? ⟨wr.heap.size,2,none⟩=some (.int .i64 x.a)/\W'.cell? ⟨wr.heap.size,3,none⟩=some (.int .i64 x.b)/\W'.cell? ⟨wr.heap.size,4,none⟩=some (.bool x.q.ng)/\W'.cell? ⟨wr.heap.size,5,none⟩=some (.slice a1 n1 c1)/\W'.cell? ⟨wr.heap.size,6,none⟩=some (.slice a2 n2 c2)):=fun W' hb => by
    have hl:wr.heap.size<W2.heap.size:=by rw [<- dp];simp
    refine ⟨(hb.cell (p:=⟨wr.heap.size,0,none⟩) hl).trans (by rw [<- dp];simp [go_sem]),(hb.cell (p:=⟨wr.heap.size,1,none⟩) hl).trans (by rw [<- dp];simp [go_sem]),(hb.cell (p:=⟨wr.heap.size,2,none⟩) hl).trans (by rw [<- dp];simp [go_sem]),(hb.cell (p:=⟨wr.heap.size,3,none⟩) hl).trans (by rw [<- dp];simp [go_sem]),(hb.cell (p:=⟨wr.heap.size,4,none⟩) hl).trans (by rw [<- dp];simp [go_sem]),(hb.cell (p:=⟨wr.heap.size,5,none⟩) hl).trans (by rw [<- dp];simp [go_sem]),(hb.cell (p:=⟨wr.heap.size,6,none⟩) hl).trans (by rw [<- dp];simp [go_sem])⟩
   rw [dp]
   clear dp
   have hrow2:=hrow.to aZ
   have HX2:=HX1.out.to aZ
   clear hrow
   clear ae ah af ak ag al az aJ aA aK
   have gb2:=bS gb aZ
   obtain ⟨z0,ae,af,ag,az,aA,ah,ak,al,aJ,aK⟩:=ap.out _ gb2
   obtain ⟨s0,s1,s2,s3,s4,s5,s6⟩:=HT.out _ (Below.refl _ _)
   go_wp2_with fail
   cases hio:zp c L x
   case false =>
    refine (zka c _ x.op x.to x.a x.b x.q.ng _ _ x.q.n x.q.d W0.heap.size N L _ (i0.to gb2) HX2 hrow2 HL.out (by omega) HN.out.symm Hr.out Hcl.out false hio).mono ?_
    rintro e w3 ⟨rfl,cl⟩
    clear s0 s1 s2 s3 s4 s5 s6
    clear ae ah af ak ag al az aJ aA aK
    have ho:false=o:=by rw [<- HA2.out,hio,Bool.false_and]
    subst ho
    clear hio
    go_wp2_with fail
    go_ret
    exact ⟨rfl,bS zb (bS gb2 cl)⟩
   case true =>
    refine (zka c _ x.op x.to x.a x.b x.q.ng _ _ x.q.n x.q.d W0.heap.size N L _ (i0.to gb2) HX2 hrow2 HL.out (by omega) HN.out.symm Hr.out Hcl.out true hio).mono ?_
    rintro e w3 ⟨rfl,cl⟩
    clear s0 s1 s2 s3 s4 s5 s6
    clear ae ah af ak ag al az aJ aA aK
    have gb3:=bS gb2 cl
    have hrow3:=hrow2.to cl
    obtain ⟨s0,s1,s2,s3,s4,s5,s6⟩:=HT.out _ cl
    obtain ⟨z0,ae,af,ag,az,aA,ah,ak,al,aJ,aK⟩:=ap.out _ gb3
    have HA3:Hid (zaq c (more L x) (c.all.drop (k+1))=o):=by show _=_;rw [<- HA2.out,hio,Bool.true_and]
    clear hrow2 gb2
    by_cases h10:x.op=10
    ·have t:(x.op != 10)=false:=by simp;exact h10
     have em:more L x=L:=by unfold more;rw [if_pos h10]
     have HA4:Hid (zaq c L (c.all.drop (k+1))=o):=by show _=_;rw [<- HA3.out,em]
     clear h10 em hio
     go_wp2_with fail
     go_roundw
     case rel => exact ⟨k+1,L,by omega,by go_num,gb3,hrow3,HA4,HL⟩
     case measure => simp [intOf];omega
    ·have t:(x.op != 10)=true:=by simp;exact h10
     have hto:=insOk_to hio h10
     obtain ⟨T,hT⟩:=Int.eq_ofNat_of_zero_le hto.1
     have hTN:T<N:=by have:=HN.out;omega
     have em:more L x=L++[(T:Int)]:=by unfold more;rw [if_neg h10,hT]
     have HA4:Hid (zaq c (L++[(T:Int)]) (c.all.drop (k+1))=o):=by show _=_;rw [<- HA3.out,em]
     have HL4:Hid (∀ x ∈ L++[(T:Int)],0<=x/\x<(N:Int)):=fun y hy => by
      rcases List.mem_append.1 hy with hy|hy
      ·exact HL.out y hy
      ·rw [List.mem_singleton.1 hy];omega
     rw [hT] at s1
     obtain ⟨r1,r2⟩:=hrow3.2 T hTN
     have hTi:(T:Int)<(N:Int):=by omega
     clear h10 em hio hto hT HA3
     go_wp2_with fail
     go_roundw
     case rel => exact ⟨k+1,L++[(T:Int)],by omega,by go_num,gb3.setCell (Nat.le_refl _) _,(hrow3.set T (.bool true)).cast (fun i _ => zmd i (N:=N)),HA4,HL4⟩
     case measure => simp [intOf];omega
  ·obtain rfl:k=n0:=by omega
   have ho:true=o:=by
    have:=HA.out
    rw [<- H0.out,List.drop_length] at this
    exact this
   subst ho
   go_wp2_with fail
   go_ret
   exact ⟨rfl,bS zb gb⟩

theorem zdF (c:Cd) (v:Value) (w:World) (hc:IsC w c v) (hs:zbo 1000 c.all) (o:Bool) (ho:zF c=o) :
  Calls Tryz.prog 14 #[aggC c v] w (fun e w' => e=.returned (.bool o)/\Below w.heap.size w w'):=by
 unfold zF at ho
 cases h0:zbX c with
 | false => rw [h0] at ho;obtain rfl:false=o:=ho;exact ziT c v w hc hs h0
 | true => rw [h0,Bool.true_and] at ho;exact ziS c v w hc hs h0 o ho

end Go.Proofs.YtkjcdnlpjldhaaaGreat


namespace Go.Proofs.YtkjcdnlpjldhaaaGreat
open Go.RowKit Tw

def Lite (wt:Int->Int):Prop:=∀ r,0<=wt r/\wt r<=1000000

theorem wOf_lite {wt:Int->Int} (h:Lite wt) (x:Ins):0<=wOf wt x/\wOf wt x<=1000000:=by
 have ha:=h x.a
 have hb:=h x.b
 have h1:0<=(if 1<=zd x.op then wt x.a else 1):=by split <;> omega
 have h2:0<=(if zd x.op=2 then (if 1<=zd x.op then wt x.a else 1)+wt x.b else (if 1<=zd x.op then wt x.a else 1)):=by
  by_cases h:zd x.op=2
  ·rw [if_pos h];omega
  ·rw [if_neg h];exact h1
 have h3:0<=(if x.op=7 then (if zd x.op=2 then (if 1<=zd x.op then wt x.a else 1)+wt x.b else (if 1<=zd x.op then wt x.a else 1))*max 1 (max x.b (-x.b)) else (if zd x.op=2 then (if 1<=zd x.op then wt x.a else 1)+wt x.b else (if 1<=zd x.op then wt x.a else 1))):=by
  by_cases h:x.op=7
  ·rw [if_pos h];exact Int.mul_nonneg h2 (by omega)
  ·rw [if_neg h];exact h2
 unfold wOf
 constructor
 ·exact Int.le_min.2 ⟨h3,by decide⟩
 ·exact Int.min_le_right _ _

theorem Lite.upd {wt:Int->Int} (h:Lite wt) (x:Ins):Lite (upd wt x.to (wOf wt x)):=by
 intro r
 unfold Go.Proofs.YtkjcdnlpjldhaaaGreat.upd
 split
 ·exact wOf_lite h x
 ·exact h r

theorem zhf {wt:Int->Int} {x:Ins} (h:x.op=0\/x.op=1):wOf wt x=1:=by
 unfold wOf
 rcases h with h|h <;> rw [h] <;> simp [zd] <;> decide

theorem zlT {wt:Int->Int} {x:Ins} (h:zd x.op=2):wOf wt x=min (wt x.a+wt x.b) 1000000:=by
 have h7:x.op≠7:=fun e => by rw [e] at h;exact absurd h (by decide)
 unfold wOf
 simp only [if_pos h,if_pos (show 1<=zd x.op by omega),if_neg h7]

theorem zlR {wt:Int->Int} {x:Ins} (h:x.op=6):wOf wt x=min (wt x.a) 1000000:=by
 unfold wOf;rw [h];simp [zd]

theorem zlS {wt:Int->Int} {x:Ins} (h:x.op=7):wOf wt x=min (wt x.a*max 1 (max x.b (-x.b))) 1000000:=by
 unfold wOf;rw [h];simp [zd]

theorem zaz {c:Cd} {L:List Int} {x:Ins} (h:zp c L x=true) (h1:1<=zd x.op):x.a ∈ L:=by
 unfold zp aOk at h
 rw [if_neg (fun e => by rw [e] at h1;exact absurd h1 (by decide)),if_neg (fun e => by rw [e] at h1;exact absurd h1 (by decide))] at h
 simp only [Bool.and_eq_true,decide_eq_true_eq] at h
 exact h.1.1.2

theorem zbh {c:Cd} {L:List Int} {x:Ins} (h:zp c L x=true) (h1:zd x.op=2):x.b ∈ L:=by
 unfold zp bOk at h
 rw [if_neg (fun e => by rw [e] at h1;exact absurd h1 (by decide)),if_pos h1] at h
 simp only [Bool.and_eq_true,decide_eq_true_eq] at h
 exact h.1.2

theorem zhD {c:Cd} {L:List Int} {x:Ins} (h:zp c L x=true) (h1:x.op=7):-21<=x.b/\x.b<=21:=by
 unfold zp bOk at h
 rw [if_pos h1] at h
 simp only [Bool.and_eq_true,decide_eq_true_eq] at h
 exact h.1.2

theorem zgC {c:Cd} {L:List Int} {x:Ins} (h:zp c L x=true):0<=zd x.op:=by
 unfold zp at h
 simp only [Bool.and_eq_true,decide_eq_true_eq] at h
 exact h.1.1.1.1

theorem zjG {op:Int} (h:0<=zd op):(op=0\/op=1)\/zd op=2\/op=6\/op=7\/op=10:=by
 rcases zbj _ h with e|e|e|e|e|e|e|e|e|e|e <;> rw [e] <;> decide

theorem prod_le {a b:Int} (ha:0<=a/\a<=1000000) (hb:1<=b/\b<=21):0<=a*b/\a*b<=21000000:=by
 have h:=Int.mul_le_mul ha.2 hb.2 (by omega) (by decide)
 exact ⟨Int.mul_nonneg ha.1 (by omega),by simpa using h⟩

end Go.Proofs.YtkjcdnlpjldhaaaGreat


namespace Go.Proofs.YtkjcdnlpjldhaaaGreat
open Go.RowKit Tw

theorem zjY (x:Rat):∀ n:Nat,szq (x ^ n)<=max 1 (szq x*n)
 | 0 => by
  rw [Rat.pow_zero]
  have:szq 1<=1:=by decide +kernel
  omega
 | n+1 => by
  have h1:=ziL (x ^ n) x
  have h2:=zjY x n
  have h3:=zdT x
  rw [Rat.pow_succ,Nat.mul_succ]
  rcases Nat.eq_zero_or_pos n with h|h
  ·subst h
   rw [Rat.pow_zero,Rat.one_mul]
   omega
  ·have h4:1<=szq x*n:=Nat.mul_pos h3 h
   omega

theorem zfc:∀ (l:List Ins) (wt:Int->Int) (m:Int),m<=zcM wt m l
 | [],_,_ => Int.le_refl _
 | x :: t,wt,m => by
  unfold zcM
  split
  ·exact zfc t wt m
  ·have:=zfc t (upd wt x.to (wOf wt x)) (max m (wOf wt x))
   omega

theorem zmT:szq 0<=1:=by decide +kernel

theorem szq_two {p:List Rat} {R:Int->Rat} {x:Ins} (h:zd x.op=2):szq (opV p R x)<=szq (R x.a)+szq (R x.b)+1:=by
 have h1:=zlM (R x.a) (R x.b)
 have h2:=szq_sub (R x.a) (R x.b)
 have h3:=ziL (R x.a) (R x.b)
 have h4:=szq_div (R x.a) (R x.b)
 unfold opV
 rcases zbj x.op (by omega) with e|e|e|e|e|e|e|e|e|e|e <;> rw [e] at h ⊢ <;>
  first
  | exact absurd h (by decide)
  | (simp;omega)

theorem szq_pow7 {p:List Rat} {R:Int->Rat} {x:Ins} (h:x.op=7):szq (opV p R x)<=max 1 (szq (R x.a)*x.b.natAbs):=by
 have h1:=zjY (R x.a) x.b.natAbs
 have h2:=ziK (R x.a ^ x.b.natAbs)
 unfold opV
 rw [h]
 simp
 split <;> omega

theorem zlx {p:List Rat} {R:Int->Rat} {x:Ins} (h:x.op=6):opV p R x=-R x.a:=by unfold opV;rw [h];simp

theorem zly {p:List Rat} {R:Int->Rat} {x:Ins} (h:x.op=10):opV p R x=R x.a:=by unfold opV;rw [h];simp

theorem zjF {p:List Rat} {R:Int->Rat} {x:Ins} (h:x.op=0):opV p R x=p.getD x.a.toNat 0:=by unfold opV;rw [h];simp

theorem zlw {p:List Rat} {R:Int->Rat} {x:Ins} (h:x.op=1):opV p R x=x.q.num:=by unfold opV;rw [h];simp

theorem zku {p:List Rat} {K:Nat} (hK:1<=K) (h:∀ q ∈ p,szq q<=K) (i:Nat):szq (p.getD i 0)<=K:=by
 rcases Nat.lt_or_ge i p.length with k|k
 ·rw [show p.getD i 0=p[i] by simp [k]]
  exact h _ (List.getElem_mem k)
 ·rw [show p.getD i 0=0 by simp [k]]
  exact Nat.le_trans zmT hK

def Thin (L:List Int) (wt:Int->Int) (R:Int->Rat):Prop:=∀ r ∈ L,1<=wt r/\wt r<=20/\(szq (R r):Int)+1<=8*wt r

theorem zmW {c:Cd} {L:List Int} {wt:Int->Int} {R:Int->Rat} {p:List Rat} {x:Ins} (hx:zp c L x=true) (h:Thin L wt R) (hp:∀ q ∈ p,szq q<=7)
  (hq:szq x.q.num<=7) (h10:x.op≠10) (hw:wOf wt x<=20):1<=wOf wt x/\(szq (opV p R x):Int)+1<=8*wOf wt x/\(x.op=7->szq (R x.a)*x.b.natAbs<1000):=by
 rcases zjG (zgC hx) with e|e|e|e|e
 ·rw [zhf e]
  rcases e with e|e
  ·rw [zjF e]
   have:=zku (by omega) hp x.a.toNat
   exact ⟨by omega,by omega,fun k => by omega⟩
  ·rw [zlw e]
   exact ⟨by omega,by omega,fun k => by omega⟩
 ·have ha:=h _ (zaz hx (by omega))
  have hb:=h _ (zbh hx e)
  have hs:=szq_two (p:=p) (R:=R) e
  rw [zlT e] at hw ⊢
  exact ⟨by omega,by omega,fun k => by rw [k] at e;exact absurd e (by decide)⟩
 ·have ha:=h _ (zaz hx (by rw [e];decide))
  rw [zlR e] at hw ⊢
  rw [zlx e,ziM]
  exact ⟨by omega,by omega,fun k => by omega⟩
 ·have ha:=h _ (zaz hx (by rw [e];decide))
  have hb:=zhD hx e
  have hs:=szq_pow7 (p:=p) (R:=R) e
  rw [zlS e] at hw ⊢
  obtain ⟨k,hk⟩:∃ k:Nat,x.b.natAbs=k:=⟨_,rfl⟩
  have hm:max 1 (max x.b (-x.b))=((max 1 k:Nat):Int):=by omega
  have hk2:k<=21:=by omega
  rw [hk] at hs
  rw [hm] at hw ⊢
  have hle:wt x.a*((max 1 k:Nat):Int)<=20:=by
   have:=(prod_le (a:=wt x.a) (b:=((max 1 k:Nat):Int)) (by omega) (by omega)).2
   omega
  have hmin:min (wt x.a*((max 1 k:Nat):Int)) 1000000=wt x.a*((max 1 k:Nat):Int):=by omega
  rw [hmin]
  have h1:1*1<=wt x.a*((max 1 k:Nat):Int):=Int.mul_le_mul ha.1 (by omega) (by decide) (by omega)
  have h2:((szq (R x.a):Int)+1)*((max 1 k:Nat):Int)<=8*wt x.a*((max 1 k:Nat):Int):=Int.mul_le_mul_of_nonneg_right ha.2.2 (by omega)
  rw [Int.add_mul,Int.one_mul,Int.mul_assoc] at h2
  have h3:szq (R x.a)*k<=szq (R x.a)*max 1 k:=Nat.mul_le_mul_left _ (Nat.le_max_right _ _)
  have h4:((szq (R x.a)*max 1 k:Nat):Int)=(szq (R x.a):Int)*((max 1 k:Nat):Int):=by push_cast;rfl
  have h5:1<=szq (R x.a)*max 1 k:=Nat.mul_pos (zdT _) (by omega)
  rw [<- h4] at h2
  generalize wt x.a*((max 1 k:Nat):Int)=P at *
  generalize szq (R x.a)*max 1 k=Q at *
  rw [hk]
  generalize szq (R x.a)*k=T at *
  exact ⟨by omega,by omega,fun _ => by omega⟩
 ·exact absurd e h10

theorem Thin.next {c:Cd} {L:List Int} {wt:Int->Int} {R:Int->Rat} {x:Ins} {v:Rat} (h:Thin L wt R) (h10:x.op≠10) (hw:wOf wt x<=20) (h1:1<=wOf wt x/\(szq v:Int)+1<=8*wOf wt x) :
  Thin (more L x) (upd wt x.to (wOf wt x)) (upd R x.to v):=by
 intro r hr
 unfold more at hr
 rw [if_neg h10,List.mem_append] at hr
 by_cases e:r=x.to
 ·subst e
  rw [zcc,zcc]
  exact ⟨h1.1,hw,h1.2⟩
 ·rw [zbG _ _ e,zbG _ _ e]
  rcases hr with hr|hr
  ·exact h r hr
  ·exact absurd (List.mem_singleton.1 hr) e

theorem zeg {c:Cd} {p:List Rat} (hp:∀ q ∈ p,szq q<=7):∀ (l:List Ins) (L:List Int) (wt:Int->Int) (m:Int) (s:St),(∀ x ∈ l,szq x.q.num<=7)->zaq c L l=true->Thin L wt s.R->zcM wt m l<=20->zdj 1000 p s l
 | [],_,_,_,_,_,_,_,_ => trivial
 | x :: t,L,wt,m,s,hl,ha,hT,hh => by
  unfold zaq at ha
  rw [Bool.and_eq_true] at ha
  have hlt:∀ y ∈ t,szq y.q.num<=7:=fun y hy => hl y (List.mem_cons_of_mem _ hy)
  unfold zcM at hh
  unfold zdj
  by_cases h10:x.op=10
  ·rw [if_pos h10] at hh
   have hm:more L x=L:=by unfold more;rw [if_pos h10]
   refine ⟨fun _ => ⟨?_,fun k => by omega⟩,fun _ => ?_⟩
   ·rw [zly h10]
    have:=hT _ (zaz ha.1 (by rw [h10];decide))
    omega
   ·refine zeg hp t L wt m _ hlt (by rw [<- hm];exact ha.2) ?_ hh
    unfold St.next
    rw [if_pos h10]
    exact hT
  ·rw [if_neg h10] at hh
   have hw:wOf wt x<=20:=by have:=zfc t (upd wt x.to (wOf wt x)) (max m (wOf wt x));omega
   have hs:=zmW (p:=p) ha.1 hT hp (hl x (List.mem_cons_self ..)) h10 hw
   refine ⟨fun _ => ⟨by omega,hs.2.2⟩,fun _ => ?_⟩
   refine zeg hp t (more L x) _ _ _ hlt ha.2 ?_ hh
   unfold St.next
   rw [if_neg h10]
   exact hT.next (c:=c) h10 hw ⟨hs.1,hs.2.1⟩

theorem zmc {c:Cd} {p:List Rat} (hp:∀ q ∈ p,szq q<=7) (hl:∀ x ∈ c.all,szq x.q.num<=7) (hr:zF c=true) (hh:zgB c<=20):zdj 1000 p St.zero c.all:=by
 unfold zgB at hh
 rw [if_pos hr] at hh
 unfold zF at hr
 rw [Bool.and_eq_true] at hr
 exact zeg hp c.all [] (fun _ => 0) 0 St.zero hl hr.2 (fun r h => by cases h) hh

end Go.Proofs.YtkjcdnlpjldhaaaGreat


namespace Go.Proofs.YtkjcdnlpjldhaaaGreat
open Go.RowKit Tw

def ren (f:Int->Int) (x:Ins):Ins:=⟨x.op,if x.op=10 then x.to else f x.to,if 1<x.op then f x.a else x.a,if zd x.op=2 then f x.b else x.b,x.q⟩

def zja (f:Int->Int) (n N:Int):Prop:=(∀ r s,0<=r->r<n->0<=s->s<n->f r=f s->r=s)/\∀ r,0<=f r/\f r<N

def Like (c d:Cd):Prop:=d.ins=c.ins/\d.rows=c.rows/\d.cols=c.cols

theorem lt_one {op:Int} (h:0<=zd op) (h1:1<op):1<=zd op:=by
 rcases zbj op h with e|e|e|e|e|e|e|e|e|e|e <;> rw [e] at h1 ⊢ <;> first|(exfalso;omega)|decide

theorem zag {c:Cd} {L:List Int} {x:Ins} (h:zp c L x=true):0<=x.to/\x.to<zD c x:=by
 unfold zp at h
 simp only [Bool.and_eq_true,decide_eq_true_eq] at h
 exact h.2

theorem zmh {c d:Cd} {f:Int->Int} {L L':List Int} {x:Ins} (hd:Like c d) (hf:zja f c.regs d.regs) (hL:∀ r ∈ L,f r ∈ L') (h:zp c L x=true):zp d L' (ren f x)=true:=by
 have hop:=zgC h
 have hto:=zag h
 have ha:=fun h1 => zaz (x:=x) h h1
 have hb:=fun h1 => zbh (x:=x) h h1
 unfold zp at h ⊢
 simp only [Bool.and_eq_true,decide_eq_true_eq] at h ⊢
 obtain ⟨⟨⟨⟨h1,h2⟩,h3⟩,h4⟩,h5⟩:=h
 refine ⟨⟨⟨⟨h1,h2⟩,?_⟩,?_⟩,?_⟩
 ·unfold aOk at h3 ⊢
  show (if x.op=0 then _ else _)=true
  by_cases e0:x.op=0
  ·rw [if_pos e0] at h3 ⊢
   have:(ren f x).a=x.a:=if_neg (by rw [e0];decide)
   rw [this,hd.1];exact h3
  ·rw [if_neg e0] at h3 ⊢
   by_cases e1:x.op=1
   ·rw [if_pos e1] at h3
    rw [if_pos (show (ren f x).op=1 from e1)]
    have:(ren f x).a=x.a:=if_neg (by rw [e1];decide)
    rw [this];exact h3
   ·rw [if_neg (show ¬ (ren f x).op=1 from e1)]
    have h9:1<x.op:=by rcases zbj _ h1 with e|e|e|e|e|e|e|e|e|e|e <;> omega
    have:(ren f x).a=f x.a:=if_pos h9
    rw [this]
    exact decide_eq_true (hL _ (ha (lt_one h1 h9)))
 ·unfold bOk at h4 ⊢
  show (if x.op=7 then _ else _)=true
  by_cases e7:x.op=7
  ·rw [if_pos e7] at h4 ⊢
   have:(ren f x).b=x.b:=if_neg (by rw [e7];decide)
   rw [this];exact h4
  ·rw [if_neg e7] at h4 ⊢
   by_cases e2:zd x.op=2
   ·rw [if_pos (show zd (ren f x).op=2 from e2)]
    have:(ren f x).b=f x.b:=if_pos e2
    rw [this]
    exact decide_eq_true (hL _ (hb e2))
   ·rw [if_neg e2] at h4
    rw [if_neg (show ¬ zd (ren f x).op=2 from e2)]
    have:(ren f x).b=x.b:=if_neg e2
    rw [this];exact h4
 ·unfold zD at hto ⊢
  show _/\_<(if x.op=10 then _ else _)
  by_cases e:x.op=10
  ·rw [if_pos e] at hto ⊢
   have:(ren f x).to=x.to:=if_pos e
   rw [this,hd.2.1,hd.2.2];exact hto
  ·rw [if_neg e]
   have:(ren f x).to=f x.to:=if_neg e
   rw [this];exact hf.2 _

theorem more_ren {f:Int->Int} {L L':List Int} {x:Ins} (hL:∀ r ∈ L,f r ∈ L'):∀ r ∈ more L x,f r ∈ more L' (ren f x):=by
 intro r hr
 unfold more at hr ⊢
 by_cases e:x.op=10
 ·rw [if_pos e] at hr
  rw [if_pos (show (ren f x).op=10 from e)]
  exact hL r hr
 ·rw [if_neg e] at hr
  rw [if_neg (show ¬ (ren f x).op=10 from e)]
  have:(ren f x).to=f x.to:=if_neg e
  rw [this]
  rcases List.mem_append.1 hr with hr|hr
  ·exact List.mem_append_left _ (hL r hr)
  ·rw [List.mem_singleton.1 hr]
   exact List.mem_append_right _ (List.mem_singleton.2 rfl)

theorem zhx {c d:Cd} {f:Int->Int} (hd:Like c d) (hf:zja f c.regs d.regs):∀ (l:List Ins) (L L':List Int),(∀ r ∈ L,f r ∈ L')->zaq c L l=true->zaq d L' (l.map (ren f))=true
 | [],_,_,_,_ => rfl
 | x :: t,L,L',hL,h => by
  unfold zaq at h
  rw [Bool.and_eq_true] at h
  show (zp d L' (ren f x) && zaq d (more L' (ren f x)) (t.map (ren f)))=true
  rw [zmh hd hf hL h.1,Bool.true_and]
  exact zhx hd hf t _ _ (more_ren hL) h.2

def Agree {α:Type} (f:Int->Int) (L:List Int) (u v:Int->α):Prop:=∀ r ∈ L,v (f r)=u r

theorem Agree.upd {α:Type} {f:Int->Int} {L:List Int} {u v:Int->α} {n N:Int} (hf:zja f n N) (hL:∀ r ∈ L,0<=r/\r<n) {i:Int} (hi:0<=i/\i<n) (h:Agree f L u v) (z:α) :
  Agree f (L++[i]) (upd u i z) (upd v (f i) z):=by
 intro r hr
 by_cases e:r=i
 ·subst e
  rw [zcc,zcc]
 ·rcases List.mem_append.1 hr with hr|hr
  ·have:=hL r hr
   rw [zbG _ _ e,zbG _ _ (fun k => e (hf.1 _ _ this.1 this.2 hi.1 hi.2 k))]
   exact h r hr
  ·exact absurd (List.mem_singleton.1 hr) e

end Go.Proofs.YtkjcdnlpjldhaaaGreat


namespace Go.Proofs.YtkjcdnlpjldhaaaGreat
open Go.RowKit Tw

def IsK (w:World) (ng:Bool) (v u:Value) (q:Rat):Prop:=IsQ w ng v u (za q.num.natAbs) (za q.den) q/\decide (q<0)=ng

theorem IsK.to {w w':World} {ng:Bool} {v u:Value} {q:Rat} (h:IsK w ng v u q) (hb:Below w.heap.size w w'):IsK w' ng v u q:=⟨h.1.to hb,h.2⟩

theorem zat.isK {lo hi:Nat} {w:World} {ng:Bool} {v u:Value} {q:Rat} (h:zat lo hi w ng v u q):IsK w ng v u q:=⟨h.isQ,h.2.2.1⟩

theorem zz {x:Rat} {n:Nat} (h:(za x.num.natAbs).length=n):n=0 ↔ x=0:=by
 rw [ze] at h
 rw [<- h,zA,Int.natAbs_eq_zero,Rat.num_eq_zero]

theorem zdS {x:Rat} {n m:Nat} (h:(za x.num.natAbs).length=n) (h':(za x.den).length=m):szq x=max n m:=by
 rw [ze] at h h'
 unfold szq
 rw [h,h']

abbrev put3 (w:World) (b o:Nat) (x y z:Value):World:=((w.setCell ⟨b,o,none⟩ x).setCell ⟨b,o+1,none⟩ y).setCell ⟨b,o+2,none⟩ z

def zai (w:World) (b o:Nat) (c0 c1 c2:Value):Prop:=w.cell? ⟨b,o,none⟩=some c0/\w.cell? ⟨b,o+1,none⟩=some c1/\w.cell? ⟨b,o+2,none⟩=some c2 /\
 w.frozen? ⟨b,o,none⟩=false/\w.frozen? ⟨b,o+1,none⟩=false/\w.frozen? ⟨b,o+2,none⟩=false

theorem zai.lt {w:World} {b o:Nat} {x y z:Value} (h:zai w b o x y z):b<w.heap.size:=zm h.1

theorem zai.to {w w':World} {b o:Nat} {x y z:Value} (h:zai w b o x y z) (hb:Below w.heap.size w w'):zai w' b o x y z :=
 ⟨(hb.cell (p:=⟨b,o,none⟩) h.lt).trans h.1,(hb.cell (p:=⟨b,o+1,none⟩) h.lt).trans h.2.1,(hb.cell (p:=⟨b,o+2,none⟩) h.lt).trans h.2.2.1,
  (hb.frozen (p:=⟨b,o,none⟩) h.lt).trans h.2.2.2.1,(hb.frozen (p:=⟨b,o+1,none⟩) h.lt).trans h.2.2.2.2.1,(hb.frozen (p:=⟨b,o+2,none⟩) h.lt).trans h.2.2.2.2.2⟩

end Go.Proofs.YtkjcdnlpjldhaaaGreat


namespace Go.Proofs.YtkjcdnlpjldhaaaGreat
open Go.RowKit Tw

section

variable {w w':World} {ng:Bool} {v u x y z:Value} {l:List Nat} {q:Rat}

theorem Rd.put (h:Rd w v l) {p:Addr} {c:Value} (hc:w.cell? p=some c) (hn:∀ z,c≠.int .u32 z) (x:Value):Rd (w.setCell p x) v l:=by
 refine ⟨h.1,?_⟩
 rcases h.2 with h|⟨b,off,cap,hv,hl,hc',hm,hcell⟩
 ·exact .inl h
 ·refine .inr ⟨b,off,cap,hv,hl,hc',hm,fun i hi => ?_⟩
  have h1:=hcell i hi
  have hne:p≠⟨b,off+i,none⟩:=fun e => by
   subst e
   rw [h1] at hc
   injection hc with hc
   exact hn _ hc.symm
  rw [World.cell?_setCell_other (h:=by first|exact hne|exact hne.symm),h1]

theorem zai.put_self {b o:Nat} {c0 c1 c2:Value} (h:zai w b o c0 c1 c2) (x y z:Value):zai (put3 w b o x y z) b o x y z :=
 ⟨cP (cP (zh h.1 _) (.inr (by omega)) _) (.inr (by omega)) _,cP (zh (cP h.2.1 (.inr (by omega)) _) _) (.inr (by omega)) _,
  zh (cP (cP h.2.2.1 (.inr (by omega)) _) (.inr (by omega)) _) _,by simp [go_sem,h.2.2.2.1],by simp [go_sem,h.2.2.2.2.1],by simp [go_sem,h.2.2.2.2.2]⟩

theorem zcm {b o b' o':Nat} {c:Value} (h:w.cell? ⟨b,o,none⟩=some c) (hne:b≠b'\/o<o'\/o'+2<o) (x y z:Value):(put3 w b' o' x y z).cell? ⟨b,o,none⟩=some c:=by
 have h0:b≠b'\/o≠o':=by omega
 have h1:b≠b'\/o≠o'+1:=by omega
 have h2:b≠b'\/o≠o'+2:=by omega
 exact cP (cP (cP h h0 _) h1 _) h2 _

theorem zbZ {b o b' o':Nat} {f:Bool} (h:w.frozen? ⟨b,o,none⟩=f) (x y z:Value):(put3 w b' o' x y z).frozen? ⟨b,o,none⟩=f:=by simp [go_sem,h]

theorem zai.put {b o b' o':Nat} {c0 c1 c2:Value} (h:zai w b o c0 c1 c2) (hne:b≠b'\/o+2<o'\/o'+2<o) (x y z:Value):zai (put3 w b' o' x y z) b o c0 c1 c2 :=
 ⟨zcm h.1 (by omega) _ _ _,zcm h.2.1 (by omega) _ _ _,zcm h.2.2.1 (by omega) _ _ _,zbZ h.2.2.2.1 _ _ _,zbZ h.2.2.2.2.1 _ _ _,zbZ h.2.2.2.2.2 _ _ _⟩

theorem Rd.put3 (h:Rd w v l) {b o:Nat} {b0:Bool} {a a':Option Addr} {n c n' c':Nat} (ho:zai w b o (.bool b0) (.slice a n c) (.slice a' n' c')) (x y z:Value):Rd (put3 w b o x y z) v l:=by
 have h1:=h.put ho.1 (fun z e => by cases e) x
 have h2:=h1.put (cP ho.2.1 (.inr (by omega)) x) (fun z e => by cases e) y
 exact h2.put (cP (cP ho.2.2.1 (.inr (by omega)) x) (.inr (by omega)) y) (fun z e => by cases e) z

theorem IsK.put3 (h:IsK w ng v u q) {b o:Nat} {b0:Bool} {a a':Option Addr} {n c n' c':Nat} (ho:zai w b o (.bool b0) (.slice a n c) (.slice a' n' c')) (x y z:Value):IsK (put3 w b o x y z) ng v u q :=
 ⟨⟨h.1.1.put3 ho x y z,h.1.2.1.put3 ho x y z,h.1.2.2⟩,h.2⟩

def zV (w:World) (g N:Nat) (P:Nat->Prop) (R:Nat->Rat):Prop :=
 ∀ r,r<N->∃ b a n c a' n' c',zai w g (r*3) (.bool b) (.slice a n c) (.slice a' n' c')/\(P r->IsK w b (.slice a n c) (.slice a' n' c') (R r))

theorem zV.to {g N:Nat} {P:Nat->Prop} {R:Nat->Rat} (h:zV w g N P R) (hb:Below w.heap.size w w'):zV w' g N P R:=fun r hr =>
 let ⟨b,a,n,c,a',n',c',h1,h2⟩:=h r hr
 ⟨b,a,n,c,a',n',c',h1.to hb,fun hp => (h2 hp).to hb⟩

theorem zV.cast {g N:Nat} {P P':Nat->Prop} {R R':Nat->Rat} (h:zV w g N P R) (hP:∀ r,r<N->P' r->P r/\R r=R' r):zV w g N P' R':=fun r hr =>
 let ⟨b,a,n,c,a',n',c',h1,h2⟩:=h r hr
 ⟨b,a,n,c,a',n',c',h1,fun hp => by have:=hP r hr hp;rw [<- this.2];exact h2 this.1⟩

theorem zV.put {g N T:Nat} {P:Nat->Prop} {R:Nat->Rat} (h:zV w g N P R) (hT:T<N) {a a':Option Addr} {n c n' c':Nat} (hk:IsK w ng (.slice a n c) (.slice a' n' c') q) :
  zV (put3 w g (T*3) (.bool ng) (.slice a n c) (.slice a' n' c')) g N (fun r => r=T\/P r) (fun r => if r=T then q else R r):=by
 obtain ⟨b0,a0,n0,c0,a0',n0',c0',o0,_⟩:=h T hT
 intro r hr
 by_cases e:r=T
 ·subst e
  exact ⟨ng,a,n,c,a',n',c',o0.put_self _ _ _,fun _ => by show IsK _ _ _ _ (if r=r then q else R r);rw [if_pos rfl];exact hk.put3 o0 _ _ _⟩
 ·obtain ⟨b1,a1,n1,c1,a1',n1',c1',o1,k1⟩:=h r hr
  refine ⟨b1,a1,n1,c1,a1',n1',c1',o1.put (.inr (by omega)) _ _ _,fun hp => ?_⟩
  show IsK _ _ _ _ (if r=T then q else R r)
  rw [if_neg e]
  rcases hp with hp|hp
  ·exact absurd hp e
  ·exact (k1 hp).put3 o0 _ _ _

theorem zV.other {g N b o:Nat} {P:Nat->Prop} {R:Nat->Rat} (h:zV w g N P R) (hne:g≠b) {b0:Bool} {a a':Option Addr} {n c n' c':Nat} (ho:zai w b o (.bool b0) (.slice a n c) (.slice a' n' c')) (x y z:Value) :
  zV (put3 w b o x y z) g N P R:=fun r hr =>
 let ⟨b1,a1,n1,c1,a1',n1',c1',o1,k1⟩:=h r hr
 ⟨b1,a1,n1,c1,a1',n1',c1',o1.put (.inl hne) _ _ _,fun hp => (k1 hp).put3 ho _ _ _⟩

theorem row3_new {g N:Nat} {t:TypeId} {cs:Array Value} (hh:w.heap[g]?=some (.cells cs t (0,0))) (hs:∀ r,r<N->cs[r*3]?=some (.bool false)/\cs[r*3+1]?=some (.slice none 0 0)/\cs[r*3+2]?=some (.slice none 0 0)) (R:Nat->Rat) :
  zV w g N (fun _ => False) R:=fun r hr => by
 obtain ⟨s0,s1,s2⟩:=hs r hr
 refine ⟨false,none,0,0,none,0,0,⟨?_,?_,?_,frozen_of_row w g _ cs t hh,frozen_of_row w g _ cs t hh,frozen_of_row w g _ cs t hh⟩,fun h => h.elim⟩
 ·rw [cell_of_row w g _ cs t (0,0) hh,s0]
 ·rw [cell_of_row w g _ cs t (0,0) hh,s1]
 ·rw [cell_of_row w g _ cs t (0,0) hh,s2]

theorem made3 {N r:Nat} (hr:r<N) (z0 z1 z2:Value) :
  (madeCells #[z0,z1,z2] (N*3))[r*3]?=some z0/\(madeCells #[z0,z1,z2] (N*3))[r*3+1]?=some z1/\(madeCells #[z0,z1,z2] (N*3))[r*3+2]?=some z2:=by
 have h0:r*3<N*3:=by omega
 have h1:r*3+1<N*3:=by omega
 have h2:r*3+2<N*3:=by omega
 unfold madeCells
 refine ⟨?_,?_,?_⟩ <;> simp [h0,h1,h2]

def Far (v:Value) (row:Option Nat):Prop:=∀ b o n c,v=.slice (some ⟨b,o,none⟩) n c->0<n->row≠some b

theorem Rd.grown {row:Option Nat} (h:Rd w v l) (hg:w.grownBy w' row) (hf:Far v row):Rd w' v l:=by
 refine ⟨h.1,?_⟩
 rcases h.2 with h|⟨b,off,cap,hv,hl,hc,hm,hcell⟩
 ·exact .inl h
 ·refine .inr ⟨b,off,cap,hv,hl,hc,hm,fun i hi => ?_⟩
  have h1:=hcell i hi
  rw [hg.cell_far ⟨b,off+i,none⟩ (zm h1) (fun e => hf _ _ _ _ hv hl e.symm)]
  exact h1

theorem IsK.grown {row:Option Nat} (h:IsK w ng v u q) (hg:w.grownBy w' row) (hf:Far v row) (hf':Far u row):IsK w' ng v u q :=
 ⟨⟨h.1.1.grown hg hf,h.1.2.1.grown hg hf',h.1.2.2⟩,h.2⟩

theorem Rd.far_new (h:Rd w v l) {g:Nat} (hg:w.heap.size<=g):Far v (some g):=by
 intro b o n c e hn
 rcases h.2 with ⟨_,a,cap,hv,_⟩|⟨b',off,cap,hv,hl,hc,hm,hcell⟩
 ·rw [hv] at e
  injection e with e1 e2 e3
  omega
 ·rw [hv] at e
  injection e with e1 e2 e3
  injection e1 with e1
  injection e1 with e1 e4
  have h1:=zm (hcell 0 hl)
  intro k
  injection k with k
  omega

theorem Own.far {lo g:Nat} (h:Own lo w v l) (hg:g<lo):Far v (some g):=by
 intro b o n c e hn k
 injection k with k
 have:=(h.lt b (by rw [e];rfl)).1
 omega

def zbt (base:Nat) (w:World) (v:Value) (qs:List Rat):Prop :=
 ∃ xs,w.ownsRow base 47 3 v qs.length xs/\∀ k (h:k<qs.length),∃ b a n c a' n' c',xs[k*3]?=some (.bool b)/\xs[k*3+1]?=some (.slice a n c)/\xs[k*3+2]?=some (.slice a' n' c') /\
  IsK w b (.slice a n c) (.slice a' n' c') qs[k]/\Far (.slice a n c) v.ownBlock/\Far (.slice a' n' c') v.ownBlock

theorem zbt.nil (base:Nat) (w:World):zbt base w (.slice none 0 0) []:=⟨[],World.ownsRow_nil w base _ 3,fun k h => absurd h (by simp)⟩

theorem zbQ {base:Nat} {e:TypeId} {s n:Nat} {xs:List Value} (h:w.ownsRow base e s v n xs) (hb:Below w.heap.size w w'):w'.ownsRow base e s v n xs:=by
 refine ⟨h.1,?_⟩
 rcases h.2 with h2|⟨g,cap,cur,hv,hg,hh,r⟩
 ·exact .inl h2
 ·refine .inr ⟨g,cap,cur,hv,hg,?_,r⟩
  have hlt:g<w.heap.size:=by
   rcases Nat.lt_or_ge g w.heap.size with h|h
   ·exact h
   ·rw [Array.getElem?_eq_none h] at hh;cases hh
  rw [hb.block g hlt];exact hh

theorem zbt.to {base:Nat} {qs:List Rat} (h:zbt base w v qs) (hb:Below w.heap.size w w'):zbt base w' v qs:=by
 obtain ⟨xs,h1,h2⟩:=h
 refine ⟨xs,zbQ h1 hb,fun k hk => ?_⟩
 obtain ⟨b,a,n,c,a',n',c',s0,s1,s2,k1,f1,f2⟩:=h2 k hk
 exact ⟨b,a,n,c,a',n',c',s0,s1,s2,k1.to hb,f1,f2⟩

theorem zbt.len {base:Nat} {qs:List Rat} (h:zbt base w v qs):∃ xs,w.ownsRow base 47 3 v qs.length xs:=⟨_,h.choose_spec.1⟩

theorem zbt.lt {base:Nat} {qs:List Rat} (h:zbt base w v qs):∀ k,v.ownBlock=some k->base<=k/\k<w.heap.size:=by
 obtain ⟨xs,h1,_⟩:=h
 exact World.ownsRow.lt h1

theorem zbt.form {base:Nat} {qs:List Rat} (h:zbt base w v qs):∃ a cap,v=.slice a qs.length cap/\(0<qs.length->∃ g,a=some ⟨g,0,none⟩/\base<=g/\g<w.heap.size):=by
 obtain ⟨xs,h1,_⟩:=h
 rcases h1.2 with ⟨hv,h0⟩|⟨g,cap,cur,hv,hg,hh,r⟩
 ·exact ⟨none,0,by rw [hv,h0],fun h => by omega⟩
 ·exact ⟨_,cap,hv,fun _ => ⟨g,rfl,hg,(Array.getElem?_eq_some_iff.1 hh).1⟩⟩

theorem zbt.push {base:Nat} {qs:List Rat} (h:zbt base w v qs) {xs:List Value} (hx:w.ownsRow base 47 3 v qs.length xs) {g cap:Nat} {b:Bool} {a a':Option Addr} {n c n' c':Nat}
  (hown:w'.ownsRow base 47 3 (.slice (some ⟨g,0,none⟩) (qs.length+1) cap) (qs.length+1) (xs++[.bool b,.slice a n c,.slice a' n' c'])) (hgrow:w.grownBy w' v.ownBlock) (hat:v.ownBlock=some g\/g=w.heap.size)
  (hk:IsK w b (.slice a n c) (.slice a' n' c') q) (f1:Far (.slice a n c) v.ownBlock) (f2:Far (.slice a' n' c') v.ownBlock):zbt base w' (.slice (some ⟨g,0,none⟩) (qs.length+1) cap) (qs++[q]):=by
 have hl:(qs++[q]).length=qs.length+1:=by simp
 obtain ⟨ys,hy,h2⟩:=h
 have hxy:xs=ys:=by
  rcases hx.2 with ⟨hv,h0⟩|⟨g1,cap1,cur1,hv1,hg1,hh1,a1,a2,a3,a4⟩
  ·have l1:=hx.1
   have l2:=hy.1
   rw [h0] at l1 l2
   rw [List.eq_nil_of_length_eq_zero (by omega:xs.length=0),List.eq_nil_of_length_eq_zero (by omega:ys.length=0)]
  ·rcases hy.2 with ⟨hv2,_⟩|⟨g2,cap2,cur2,hv2,hg2,hh2,b1,b2,b3,b4⟩
   ·rw [hv1] at hv2;cases hv2
   ·rw [hv1] at hv2
    injection hv2 with e1 e2 e3
    injection e1 with e1
    injection e1 with e1 _
    subst e1
    rw [hh1] at hh2
    injection hh2 with hh2
    injection hh2 with hh2
    subst hh2
    rw [<- a4,<- b4]
 subst hxy
 have hlen:xs.length=qs.length*3:=hx.1
 have far:∀ {s:Value} {l:List Nat},Rd w s l->Far s v.ownBlock->Far s (some g):=fun hr hf => by
  rcases hat with e|e
  ·rw [<- e];exact hf
  ·exact hr.far_new (by omega)
 refine ⟨_,by rw [hl];exact hown,fun k hk' => ?_⟩
 rcases Nat.lt_or_ge k qs.length with hlt|hge
 ·obtain ⟨b1,a1,n1,c1,a1',n1',c1',s0,s1,s2,k1,g1,g2⟩:=h2 k hlt
  refine ⟨b1,a1,n1,c1,a1',n1',c1',?_,?_,?_,?_,far k1.1.1 g1,far k1.1.2.1 g2⟩
  ·rw [List.getElem?_append_left (by omega)];exact s0
  ·rw [List.getElem?_append_left (by omega)];exact s1
  ·rw [List.getElem?_append_left (by omega)];exact s2
  ·rw [List.getElem_append_left hlt]
   exact k1.grown hgrow g1 g2
 ·have e:k=qs.length:=by omega
  subst e
  refine ⟨b,a,n,c,a',n',c',?_,?_,?_,?_,far hk.1.1 f1,far hk.1.2.1 f2⟩
  ·rw [List.getElem?_append_right (by omega),hlen];simp
  ·rw [List.getElem?_append_right (by omega),hlen];simp
  ·rw [List.getElem?_append_right (by omega),hlen];simp
  ·simp only [List.getElem_append_right (Nat.le_refl _),Nat.sub_self,List.getElem_cons_zero]
   exact hk.grown hgrow f1 f2

theorem zbt.row3 {base g cap:Nat} {qs:List Rat} (h:zbt base w (.slice (some ⟨g,0,none⟩) qs.length cap) qs):zV w g qs.length (fun _ => True) (fun r => qs.getD r 0):=by
 obtain ⟨xs,h1,h2⟩:=h
 intro r hr
 obtain ⟨b,a,n,c,a',n',c',s0,s1,s2,k1,f1,f2⟩:=h2 r hr
 refine ⟨b,a,n,c,a',n',c',⟨?_,?_,?_,World.ownsRow.frozenAt h1 _,World.ownsRow.frozenAt h1 _,World.ownsRow.frozenAt h1 _⟩,fun _ => ?_⟩
 ·rw [World.ownsRow.cellAt h1 _ (by omega)];exact s0
 ·rw [World.ownsRow.cellAt h1 _ (by omega)];exact s1
 ·rw [World.ownsRow.cellAt h1 _ (by omega)];exact s2
 ·show IsK _ _ _ _ (qs.getD r 0)
  rw [show qs.getD r 0=qs[r] by simp [hr]]
  exact k1

def zak (q:Rat):Rt:=⟨decide (q<0),za q.num.natAbs,za q.den⟩

theorem zV.rdR {g N cap:Nat} {P:Nat->Prop} {R:Nat->Rat} (h:zV w g N P R) (hP:∀ r,r<N->P r) (h1:N<=cap) (h2:cap<=maxLen):RdR w (.slice (some ⟨g,0,none⟩) N cap) ((List.range N).map fun r => zak (R r)):=by
 refine ⟨some ⟨g,0,none⟩,cap,by simp,by simp;exact h1,h2,fun i hi => ?_⟩
 have hi':i<N:=by simpa using hi
 obtain ⟨b,a,n,c,a',n',c',o1,k1⟩:=h i hi'
 have hk:=k1 (hP i hi')
 refine ⟨g,0,rfl,?_⟩
 rw [List.getElem_map,List.getElem_range]
 refine ⟨.slice a n c,.slice a' n' c',?_,?_,?_,hk.1.1,hk.1.2.1⟩
 ·rw [show (zak (R i)).ng=b from hk.2,Nat.zero_add];exact o1.1
 ·rw [Nat.zero_add];exact o1.2.1
 ·rw [Nat.zero_add];exact o1.2.2.1

theorem zbt.rdR {base:Nat} {qs:List Rat} (h:zbt base w v qs):RdR w v (qs.map zak):=by
 obtain ⟨xs,h1,h2⟩:=h
 rcases h1.2 with ⟨hv,h0⟩|⟨g,cap,cur,hv,hg,hh,hn,hm,r⟩
 ·refine ⟨none,0,by rw [hv,List.length_map,h0],by rw [List.length_map,h0];exact Nat.le_refl _,Nat.zero_le _,fun i hi => ?_⟩
  rw [List.length_map,h0] at hi
  exact absurd hi (by omega)
 ·refine ⟨_,cap,by rw [hv,List.length_map],by rw [List.length_map];exact hn,hm,fun i hi => ?_⟩
  have hi':i<qs.length:=by simpa using hi
  subst hv
  obtain ⟨b,a,n,c,a',n',c',s0,s1,s2,k1,f1,f2⟩:=h2 i hi'
  refine ⟨g,0,rfl,?_⟩
  rw [List.getElem_map]
  refine ⟨.slice a n c,.slice a' n' c',?_,?_,?_,k1.1.1,k1.1.2.1⟩
  ·rw [show (zak qs[i]).ng=b from k1.2,Nat.zero_add,World.ownsRow.cellAt h1 _ (by omega)];exact s0
  ·rw [Nat.zero_add,World.ownsRow.cellAt h1 _ (by omega)];exact s1
  ·rw [Nat.zero_add,World.ownsRow.cellAt h1 _ (by omega)];exact s2

end

theorem zeY (q:Rat):(zak q).num=q:=by
 unfold zak Rt.num
 simp only
 rw [vL,vL,zcV]

end Go.Proofs.YtkjcdnlpjldhaaaGreat


namespace Go.Proofs.YtkjcdnlpjldhaaaGreat
open Go.RowKit Tw

structure Tn where
 op:Nat
 to:Nat
 a:Nat
 b:Nat

def i8 (a:Nat):Int:=if a % 256<128 then ((a % 256:Nat):Int) else ((a % 256:Nat):Int) - 256

def zT (n:Int) (d:Nat):Rat:=rat (decide (n<0)) n.natAbs (d+1)

def zS:Rt:=⟨false,[],[]⟩

def zaa (wr:List Int) (t:Tn):Int:=if wr.length=0/\1<t.op % 11 then 0 else ((t.op % 11:Nat):Int)

def zcb (op:Int):Prop:=1<op/\op≠6/\op≠7/\op≠10

instance (op:Int):Decidable (zcb op):=by unfold zcb;exact inferInstance

def zgJ (wr ws:List Int) (t:Tn):Int:=if 1<zaa wr t then ws.getD (t.a % wr.length) 0 else 1

def zeD (wr ws:List Int) (t:Tn):Int:=if zcb (zaa wr t) then zgJ wr ws t+ws.getD (t.b % wr.length) 0 else zgJ wr ws t

def nOf (wr ws:List Int) (t:Tn):Int:=if zaa wr t=7 then 4*zeD wr ws t else zeD wr ws t

def qOf (t:Tn):Rt:=zak (zT (i8 t.a) (t.b % 4))

def zG (I G RC:Nat) (wr ws:List Int) (t:Tn):Ins :=
 if 12<nOf wr ws t then ⟨1,((t.to % G:Nat):Int),0,0,qOf t⟩
 else ⟨zaa wr t,if zaa wr t=10 then ((t.to % RC:Nat):Int) else ((t.to % G:Nat):Int),
  if zaa wr t=0 then ((t.a % I:Nat):Int) else if 1<zaa wr t then wr.getD (t.a % wr.length) 0 else 0,
  if zaa wr t=7 then ((t.b % 9:Nat):Int) - 4 else if zcb (zaa wr t) then wr.getD (t.b % wr.length) 0 else 0,
  if zaa wr t=1 then qOf t else zS⟩

def zhh (wr ws:List Int) (t:Tn):Int:=if 12<nOf wr ws t then 1 else nOf wr ws t

def zaN (wr:List Int) (r:Int):List Int:=if r ∈ wr then wr else wr++[r]

def zba (wr ws:List Int) (r n:Int):List Int:=if r ∈ wr then ws.set (wr.idxOf r) n else ws++[n]

def zaI (I G RC:Nat):List Int->List Int->List Tn->List Ins
 | _,_,[] => []
 | wr,ws,t :: l => zG I G RC wr ws t :: (if (zG I G RC wr ws t).op=10 then zaI I G RC wr ws l else zaI I G RC (zaN wr (zG I G RC wr ws t).to) (zba wr ws (zG I G RC wr ws t).to (zhh wr ws t)) l)

def zdk (ins rows regs:Nat) (l:List Tn):Cd :=
 ⟨((1+ins % 3:Nat):Int),((1+rows % 3:Nat):Int),((1+ins % 3:Nat):Int),((1+regs % 6:Nat):Int),zaI (1+ins % 3) (1+regs % 6) ((1+rows % 3)*(1+ins % 3)) [] [] l⟩

theorem zjo (a:Nat):-128<=i8 a/\i8 a<=127:=by unfold i8;split <;> omega

theorem zhU {n:Int} {d:Nat} (h:-128<=n/\n<=128) (hd:d<4):szq (zT n d)<=1:=by
 unfold zT
 have h1:=zeR (decide (n<0)) n.natAbs (d+1)
 have h2:sz n.natAbs<=1:=zdC (by rw [Nat.pow_one];unfold B;omega)
 have h3:sz (d+1)<=1:=zdC (by rw [Nat.pow_one];unfold B;omega)
 omega

theorem qOf_sz (t:Tn):szq (zT (i8 t.a) (t.b % 4))<=1:=zhU (by have:=zjo t.a;omega) (Nat.mod_lt _ (by decide))

theorem qOf_ok (t:Tn):zcy (qOf t).ng (qOf t).n (qOf t).d (qOf t).num=true/\(zaP (val (qOf t).n)).length<=40/\(zaP (val (qOf t).d)).length<=40:=by
 have h:=qOf_sz t
 have h1:=zaF (zT (i8 t.a) (t.b % 4))
 have h2:=zam (zT (i8 t.a) (t.b % 4))
 refine ⟨?_,?_,?_⟩
 ·unfold qOf
  rw [zeY]
  unfold zcy zak
  simp
 ·show (zaP (val (za _))).length<=40
  rw [vL]
  have:=zhz (show sz _<=1 from Nat.le_trans h1 h)
  omega
 ·show (zaP (val (za _))).length<=40
  rw [vL]
  have:=zhz (show sz _<=1 from Nat.le_trans h2 h)
  omega

theorem zbN (wr:List Int) (t:Tn):0<=zaa wr t/\zaa wr t<=10/\(1<zaa wr t->0<wr.length):=by
 unfold zaa
 have:=Nat.mod_lt t.op (show 0<11 by decide)
 split
 ·omega
 ·refine ⟨by omega,by omega,fun h => ?_⟩
  rename_i k
  rcases Nat.eq_zero_or_pos wr.length with e|e
  ·exact absurd ⟨e,by omega⟩ k
  ·exact e

theorem zez {l:List Int} {i:Nat} (h:i<l.length):l.getD i 0 ∈ l:=by
 rw [show l.getD i 0=l[i] by simp [h]]
 exact List.getElem_mem h

structure zfO (G:Nat) (wr ws L:List Int) (wt:Int->Int):Prop where
 len:ws.length=wr.length
 nd:wr.Nodup
 rng:∀ r ∈ wr,0<=r/\r<(G:Int)
 sub:∀ r ∈ wr,r ∈ L
 wts:∀ i,i<wr.length->1<=wt (wr.getD i 0)/\wt (wr.getD i 0)<=ws.getD i 0/\ws.getD i 0<=12

section

variable {I G RC:Nat} {wr ws L:List Int} {wt:Int->Int} {t:Tn} {c:Cd}

theorem zfO.nil (G:Nat) (wt:Int->Int):zfO G [] [] [] wt:=⟨rfl,List.nodup_nil,(fun _ h => by cases h),(fun _ h => by cases h),(fun i h => by cases h)⟩

theorem zfO.note (h:zfO G wr ws L wt) {r n z:Int} (hr:0<=r/\r<(G:Int)) (hz:1<=z/\z<=n) (hn:n<=12):zfO G (zaN wr r) (zba wr ws r n) (L++[r]) (upd wt r z):=by
 unfold zaN zba
 by_cases k:r ∈ wr
 ·rw [if_pos k,if_pos k]
  have hi:=List.idxOf_lt_length_of_mem k
  have hg:wr.getD (wr.idxOf r) 0=r:=by simp [hi]
  refine ⟨by rw [List.length_set];exact h.len,h.nd,h.rng,fun x hx => List.mem_append_left _ (h.sub x hx),fun i hil => ?_⟩
  by_cases e:i=wr.idxOf r
  ·subst e
   rw [hg,zcc]
   have:(ws.set (wr.idxOf r) n).getD (wr.idxOf r) 0=n:=by simp [h.len,hi]
   rw [this]
   omega
  ·have hne:wr.getD i 0≠r:=fun e2 => e (by
    have e3:wr[i]=wr[wr.idxOf r]:=by
     have a1:wr.getD i 0=wr[i]:=by simp [hil]
     have a2:wr.getD (wr.idxOf r) 0=wr[wr.idxOf r]:=by simp [hi]
     rw [<- a1,<- a2,hg,e2]
    exact (List.getElem_inj h.nd).1 e3)
   rw [zbG _ _ hne]
   have:(ws.set (wr.idxOf r) n).getD i 0=ws.getD i 0:=by
    simp only [List.getD_eq_getElem?_getD,List.getElem?_set]
    rw [if_neg (fun k => e k.symm)]
   rw [this]
   exact h.wts i hil
 ·rw [if_neg k,if_neg k]
  refine ⟨by simp [h.len],?_,fun x hx => ?_,fun x hx => ?_,fun i hil => ?_⟩
  ·rw [List.nodup_append]
   exact ⟨h.nd,by simp,fun a ha b hb => by rw [List.mem_singleton.1 hb];exact fun e => k (e ▸ ha)⟩
  ·rcases List.mem_append.1 hx with hx|hx
   ·exact h.rng x hx
   ·rw [List.mem_singleton.1 hx];exact hr
  ·rcases List.mem_append.1 hx with hx|hx
   ·exact List.mem_append_left _ (h.sub x hx)
   ·exact List.mem_append_right _ hx
  ·rcases Nat.lt_or_ge i wr.length with hlt|hge
   ·have a1:(wr++[r]).getD i 0=wr.getD i 0:=by simp [List.getElem?_append_left hlt]
    have a2:(ws++[n]).getD i 0=ws.getD i 0:=by simp [List.getElem?_append_left (show i<ws.length by rw [h.len];exact hlt)]
    have hne:wr.getD i 0≠r:=fun e => k (e ▸ zez hlt)
    rw [a1,a2,zbG _ _ hne]
    exact h.wts i hlt
   ·have e:i=wr.length:=by simp at hil;omega
    subst e
    have a1:(wr++[r]).getD wr.length 0=r:=by simp
    have a2:(ws++[n]).getD wr.length 0=n:=by rw [<- h.len];simp
    rw [a1,a2,zcc]
    omega

theorem zea {op:Int} (h0:0<=op/\op<=10) (h:zcb op):zd op=2:=by
 unfold zcb at h
 unfold zd
 rw [if_neg (by omega),if_pos (by omega)]

theorem zhl {op:Int} (h0:0<=op/\op<=10) (h:¬ zcb op):zd op≠2:=by
 unfold zcb at h
 unfold zd
 split
 ·decide
 ·rw [if_neg (by omega)]
  split <;> decide

theorem zmw {op:Int} (h0:0<=op/\op<=10):0<=zd op:=by
 unfold zd
 split
 ·decide
 ·split
  ·decide
  ·rw [if_pos (by omega)];decide

theorem zms (hI:0<I) (hG:0<G) (hRC:0<RC) (hc:c.ins=(I:Int)) (hg:c.regs=(G:Int)) (hm:c.rows*c.cols=(RC:Int)) (h:zfO G wr ws L wt):zp c L (zG I G RC wr ws t)=true:=by
 have hq:=qOf_ok t
 obtain ⟨o1,o2,o3⟩:=zbN wr t
 unfold zG
 by_cases hb:12<nOf wr ws t
 ·rw [if_pos hb]
  unfold zp zaJ aOk bOk zD
  have:t.to % G<G:=Nat.mod_lt _ hG
  have e:zd 1=0:=by decide
  simp [e,hq,hg]
  omega
 ·rw [if_neg hb]
  unfold zp
  simp only [Bool.and_eq_true,decide_eq_true_eq]
  refine ⟨⟨⟨⟨zmw ⟨o1,o2⟩,?_⟩,?_⟩,?_⟩,?_⟩
  ·unfold zaJ
   by_cases e1:zaa wr t=1
   ·simp [e1,hq]
   ·simp [e1,zS]
  ·unfold aOk
   simp only
   by_cases e0:zaa wr t=0
   ·have:=Nat.mod_lt t.a hI
    simp [e0,hc]
    omega
   ·by_cases e1:zaa wr t=1
    ·simp [e1]
    ·have h1:1<zaa wr t:=by omega
     rw [if_neg e0,if_neg e1,if_neg e0,if_pos h1]
     exact decide_eq_true (h.sub _ (zez (Nat.mod_lt _ (o3 h1))))
  ·unfold bOk
   simp only
   by_cases e7:zaa wr t=7
   ·rw [if_pos e7,if_pos e7]
    have:=Nat.mod_lt t.b (show 0<9 by decide)
    exact decide_eq_true (by omega)
   ·rw [if_neg e7,if_neg e7]
    by_cases e2:zcb (zaa wr t)
    ·rw [if_pos e2,if_pos (zea ⟨o1,o2⟩ e2)]
     exact decide_eq_true (h.sub _ (zez (Nat.mod_lt _ (o3 e2.1))))
    ·rw [if_neg e2,if_neg (zhl ⟨o1,o2⟩ e2)]
     exact decide_eq_true rfl
  ·unfold zD
   simp only
   by_cases e:zaa wr t=10
   ·have:=Nat.mod_lt t.to hRC
    rw [if_pos e,if_pos e,hm]
    omega
   ·have:=Nat.mod_lt t.to hG
    rw [if_neg e,if_neg e,hg]
    omega

theorem nOf_pos (h:zfO G wr ws L wt):1<=nOf wr ws t:=by
 obtain ⟨o1,o2,o3⟩:=zbN wr t
 have h1:1<=zgJ wr ws t:=by
  unfold zgJ
  split
  ·rename_i k
   have:=h.wts _ (Nat.mod_lt t.a (o3 k))
   omega
  ·omega
 have h2:1<=zeD wr ws t:=by
  unfold zeD
  split
  ·rename_i k
   have:=h.wts _ (Nat.mod_lt t.b (o3 k.1))
   omega
  ·exact h1
 unfold nOf
 split <;> omega

theorem zfF (h:zfO G wr ws L wt) (h10:(zG I G RC wr ws t).op≠10):1<=wOf wt (zG I G RC wr ws t)/\wOf wt (zG I G RC wr ws t)<=zhh wr ws t/\zhh wr ws t<=12:=by
 obtain ⟨o1,o2,o3⟩:=zbN wr t
 have hp:=nOf_pos (t:=t) h
 unfold zhh
 unfold zG at h10 ⊢
 by_cases hb:12<nOf wr ws t
 ·rw [if_pos hb,if_pos hb,zhf (.inr rfl)]
  omega
 ·rw [if_neg hb] at h10 ⊢
  rw [if_neg hb]
  simp only at h10
  refine (fun (k:1<=_/\_<=nOf wr ws t) => ⟨k.1,k.2,by omega⟩) ?_
  by_cases e0:zaa wr t=0\/zaa wr t=1
  ·rw [zhf e0]
   exact ⟨by omega,hp⟩
  ·have h1:1<zaa wr t:=by omega
   have wa:=h.wts _ (Nat.mod_lt t.a (o3 h1))
   have hn1:zgJ wr ws t=ws.getD (t.a % wr.length) 0:=if_pos h1
   by_cases e2:zcb (zaa wr t)
   ·have wb:=h.wts _ (Nat.mod_lt t.b (o3 h1))
    have e7:zaa wr t≠7:=e2.2.2.1
    have hn:nOf wr ws t=ws.getD (t.a % wr.length) 0+ws.getD (t.b % wr.length) 0:=by
     unfold nOf zeD
     rw [if_neg e7,if_pos e2,hn1]
    rw [zlT (zea ⟨o1,o2⟩ e2),hn]
    simp only
    rw [if_neg (by omega),if_pos h1,if_neg e7,if_pos e2]
    omega
   ·have hn2:zeD wr ws t=ws.getD (t.a % wr.length) 0:=by unfold zeD;rw [if_neg e2,hn1]
    by_cases e7:zaa wr t=7
    ·have hn:nOf wr ws t=4*ws.getD (t.a % wr.length) 0:=by unfold nOf;rw [if_pos e7,hn2]
     rw [zlS e7,hn]
     simp only
     rw [if_neg (by omega),if_pos h1,if_pos e7]
     have eW:=Nat.mod_lt t.b (show 0<9 by decide)
     obtain ⟨m,hm⟩:∃ m,max 1 (max (((t.b % 9:Nat):Int) - 4) (-(((t.b % 9:Nat):Int) - 4)))=m:=⟨_,rfl⟩
     rw [hm]
     have hm1:1<=m/\m<=4:=by omega
     obtain ⟨x,hx⟩:∃ x,wt (wr.getD (t.a % wr.length) 0)=x:=⟨_,rfl⟩
     rw [hx] at wa ⊢
     have a1:1*1<=x*m:=Int.mul_le_mul wa.1 hm1.1 (by decide) (by omega)
     have a2:x*m<=ws.getD (t.a % wr.length) 0*4:=Int.mul_le_mul wa.2.1 hm1.2 (by omega) (by omega)
     omega
    ·have e6:zaa wr t=6:=by unfold zcb at e2;omega
     have hn:nOf wr ws t=ws.getD (t.a % wr.length) 0:=by unfold nOf;rw [if_neg e7,hn2]
     rw [zlR e6,hn]
     simp only
     rw [if_neg (by omega),if_pos h1]
     omega

theorem zjq (hG:0<G) (h10:(zG I G RC wr ws t).op≠10):0<=(zG I G RC wr ws t).to/\(zG I G RC wr ws t).to<(G:Int):=by
 have:=Nat.mod_lt t.to hG
 unfold zG at h10 ⊢
 by_cases hb:12<nOf wr ws t
 ·rw [if_pos hb];simp only;omega
 ·rw [if_neg hb] at h10 ⊢
  simp only at h10 ⊢
  rw [if_neg h10]
  omega

theorem zgI (hI:0<I) (hG:0<G) (hRC:0<RC) (hc:c.ins=(I:Int)) (hg:c.regs=(G:Int)) (hm:c.rows*c.cols=(RC:Int)):∀ (l:List Tn) (wr ws L:List Int) (wt:Int->Int) (m:Int),zfO G wr ws L wt->m<=12 ->
  zaq c L (zaI I G RC wr ws l)=true/\zcM wt m (zaI I G RC wr ws l)<=12
 | [],_,_,_,_,m,_,h12 => ⟨rfl,h12⟩
 | t :: l,wr,ws,L,wt,m,h,h12 => by
  have hs:=zms (t:=t) hI hG hRC hc hg hm h
  unfold zaI
  by_cases h10:(zG I G RC wr ws t).op=10
  ·rw [if_pos h10]
   have ih:=zgI hI hG hRC hc hg hm l wr ws L wt m h h12
   constructor
   ·show (zp c L _ && zaq c (more L _) _)=true
    rw [hs,Bool.true_and,show more L (zG I G RC wr ws t)=L from if_pos h10]
    exact ih.1
   ·unfold zcM
    rw [if_pos h10]
    exact ih.2
  ·rw [if_neg h10]
   have hw:=zfF (I:=I) (RC:=RC) (t:=t) h h10
   have ih:=zgI hI hG hRC hc hg hm l _ _ _ _ (max m (wOf wt (zG I G RC wr ws t))) (h.note (r:=(zG I G RC wr ws t).to) (n:=zhh wr ws t) (z:=wOf wt (zG I G RC wr ws t)) (zjq hG h10) ⟨hw.1,hw.2.1⟩ hw.2.2) (by omega)
   constructor
   ·show (zp c L _ && zaq c (more L _) _)=true
    rw [hs,Bool.true_and,show more L (zG I G RC wr ws t)=L++[(zG I G RC wr ws t).to] from if_neg h10]
    exact ih.1
   ·unfold zcM
    rw [if_neg h10]
    exact ih.2

theorem zdI:∀ (l:List Tn) (wr ws:List Int),(zaI I G RC wr ws l).length=l.length
 | [],_,_ => rfl
 | t :: l,wr,ws => by
  unfold zaI
  rw [List.length_cons,List.length_cons]
  split
  ·rw [zdI l]
  ·rw [zdI l]

theorem insOf_q (x:Ins) (h:x=zG I G RC wr ws t):x.q.n.length<=1/\x.q.d.length<=1/\szq x.q.num<=1/\(x.op≠1->x.q=zS)/\Small x.q.n/\Small x.q.d:=by
 have hq:=qOf_sz t
 have h1:=zaF (zT (i8 t.a) (t.b % 4))
 have h2:=zam (zT (i8 t.a) (t.b % 4))
 have key:(qOf t).n.length<=1/\(qOf t).d.length<=1/\szq (qOf t).num<=1/\Small (qOf t).n/\Small (qOf t).d:=by
  refine ⟨?_,?_,?_,zI _,zI _⟩
  ·show (za _).length<=1
   rw [ze];omega
  ·show (za _).length<=1
   rw [ze];omega
  ·unfold qOf
   rw [zeY]
   exact hq
 have zkey:zS.n.length<=1/\zS.d.length<=1/\szq zS.num<=1/\Small zS.n/\Small zS.d:=by
  refine ⟨Nat.zero_le _,Nat.zero_le _,?_,(fun x h => by cases h),(fun x h => by cases h)⟩
  show szq (rat false (val []) (val []))<=1
  have:=zeR false (val []) (val [])
  have e:sz (val [])<=1:=by decide
  omega
 subst h
 unfold zG
 split
 ·exact ⟨key.1,key.2.1,key.2.2.1,fun k => absurd rfl k,key.2.2.2⟩
 ·simp only
  by_cases e:zaa wr t=1
  ·rw [if_pos e]
   exact ⟨key.1,key.2.1,key.2.2.1,fun k => absurd e k,key.2.2.2⟩
  ·rw [if_neg e]
   exact ⟨zkey.1,zkey.2.1,zkey.2.2.1,fun _ => rfl,zkey.2.2.2⟩

theorem ziq:∀ (l:List Tn) (wr ws:List Int) (x:Ins),x ∈ zaI I G RC wr ws l->x.q.n.length<=1/\x.q.d.length<=1/\szq x.q.num<=1/\(x.op≠1->x.q=zS)/\Small x.q.n/\Small x.q.d
 | [],_,_,_,h => by cases h
 | t :: l,wr,ws,x,h => by
  unfold zaI at h
  rcases List.mem_cons.1 h with h|h
  ·exact insOf_q x h
  ·split at h
   ·exact ziq l _ _ x h
   ·exact ziq l _ _ x h

end

theorem madeC_rc (ins rows regs:Nat) (l:List Tn):(zdk ins rows regs l).rows*(zdk ins rows regs l).cols=(((1+rows % 3)*(1+ins % 3):Nat):Int):=by
 show ((1+rows % 3:Nat):Int)*((1+ins % 3:Nat):Int)=_
 push_cast
 rfl

theorem zjB (ins rows regs:Nat) (l:List Tn) (hl:l.length<=16):zF (zdk ins rows regs l)=true/\zgB (zdk ins rows regs l)<=12:=by
 have h:=zgI (I:=1+ins % 3) (G:=1+regs % 6) (RC:=(1+rows % 3)*(1+ins % 3)) (c:=zdk ins rows regs l) (by omega) (by omega) (Nat.mul_pos (by omega) (by omega)) rfl rfl (madeC_rc ins rows regs l) l [] [] [] (fun _ => 0) 0 (zfO.nil _ _) (by decide)
 have hlen:=zdI (I:=1+ins % 3) (G:=1+regs % 6) (RC:=(1+rows % 3)*(1+ins % 3)) l [] []
 have h1:=Nat.mod_lt ins (show 0<3 by decide)
 have h2:=Nat.mod_lt rows (show 0<3 by decide)
 have h3:=Nat.mod_lt regs (show 0<6 by decide)
 have hr:zF (zdk ins rows regs l)=true:=by
  unfold zF
  rw [Bool.and_eq_true]
  refine ⟨?_,h.1⟩
  unfold zbX
  refine decide_eq_true ⟨?_,?_,?_,?_,rfl,?_,?_,?_⟩
  ·show (1:Int)<=((1+ins % 3:Nat):Int);omega
  ·show ((1+ins % 3:Nat):Int)<=40;omega
  ·show (1:Int)<=((1+rows % 3:Nat):Int);omega
  ·show ((1+rows % 3:Nat):Int)<=40;omega
  ·show (0:Int)<=((1+regs % 6:Nat):Int);omega
  ·show ((1+regs % 6:Nat):Int)<=100000;omega
  ·show (zaI _ _ _ [] [] l).length<=100000;omega
 refine ⟨hr,?_⟩
 unfold zgB
 rw [if_pos hr]
 exact h.2

end Go.Proofs.YtkjcdnlpjldhaaaGreat


namespace Go.Proofs.YtkjcdnlpjldhaaaGreat
open Go.RowKit Tw

section

variable {w w' wr w2 w4:World} {v u:Value} {base hi g cap:Nat} {qs:List Rat} {q:Rat} {xs:List Value} {ng:Bool} {a a':Option Addr} {n c n' c':Nat} {t:TypeId}

theorem zbt.drew (h:zbt base w v qs):zbt base w.drew v qs:=h.to (Below.refl _ _).drew

theorem Far.of_lt {lo:Nat} {s:Value} {l:List Nat} (h:Own lo w s l) (hv:∀ k,v.ownBlock=some k->k<lo):Far s v.ownBlock:=by
 intro b o n c e hn k
 have h1:=(h.lt b (by rw [e];rfl)).1
 have h2:=hv b k
 omega

theorem zmA {K:Nat} (hK:qs.length=K) (hO:zbt base wr v qs) (hx:wr.ownsRow base 47 3 v K xs) (aZ:Below wr.heap.size wr w2) (g2:zat wr.heap.size hi w2 ng (.slice a n c) (.slice a' n' c') q) (hbase:base<=wr.heap.size)
  (hown:w4.ownsRow base 47 3 (.slice (some ⟨g,0,none⟩) (K+1) cap) (K+1) (xs++[.bool ng,.slice a n c,.slice a' n' c']))
  (hgrow:(w2.alloc (.cells #[.bool ng,.slice a n c,.slice a' n' c'] t)).grownBy w4 v.ownBlock) (hat:v.ownBlock=some g\/g=(w2.alloc (.cells #[.bool ng,.slice a n c,.slice a' n' c'] t)).heap.size) :
  zbt base w4 (.slice (some ⟨g,0,none⟩) (K+1) cap) (qs++[q])/\Below base wr w4:=by
 subst hK
 have cl:=bS aZ (bN w2 (.cells #[.bool ng,.slice a n c,.slice a' n' c'] t))
 refine ⟨zbt.push (hO.to cl) (zbQ hx cl) hown hgrow hat (g2.isK.to (bN _ _)) (Far.of_lt g2.1 (fun k e => (hO.lt k e).2)) (Far.of_lt g2.2.1 (fun k e => (hO.lt k e).2)),?_⟩
 exact (cl.mono hbase).grown hgrow (Nat.le_trans hbase cl.size) (fun k e => (hO.lt k e).1)

theorem zmB:∀ j u,[Value.bool ng,.slice a n c,.slice a' n' c'][j]?=some u->(w2.alloc (.cells #[.bool ng,.slice a n c,.slice a' n' c'] t)).cell? ((⟨w2.heap.size,0,none⟩:Addr).add j)=some u:=by
 intro j u hu
 exact World.news_of_block (w:=w2.alloc (.cells #[.bool ng,.slice a n c,.slice a' n' c'] t)) (B:=w2.heap.size) (cs:=#[.bool ng,.slice a n c,.slice a' n' c']) (t:=t) (fr:=(0,0)) (heap_alloc_new _ _) j u (by simpa using hu)

theorem push_one:∀ u ∈ [Value.bool ng,.slice a n c,.slice a' n' c'],u.oneCell'=true:=by
 intro u hu
 simp only [List.mem_cons,List.not_mem_nil,or_false] at hu
 rcases hu with rfl|rfl|rfl <;> rfl

theorem zbt.setB (h:zbt base w v qs) {B o:Nat} (hne:v.ownBlock≠some B) {a:Option Addr} {n c:Nat} (hc:w.cell? ⟨B,o,none⟩=some (.slice a n c)) (x:Value):zbt base (w.setCell ⟨B,o,none⟩ x) v qs:=by
 obtain ⟨xs,h1,h2⟩:=h
 refine ⟨xs,Go.ownsRow_setCell_other h1 (fun e => hne e) x,fun k hk => ?_⟩
 obtain ⟨b,a1,n1,c1,a2,n2,c2,s0,s1,s2,k1,f1,f2⟩:=h2 k hk
 exact ⟨b,a1,n1,c1,a2,n2,c2,s0,s1,s2,⟨⟨k1.1.1.put hc (fun z e => by cases e) x,k1.1.2.1.put hc (fun z e => by cases e) x,k1.1.2.2⟩,k1.2⟩,f1,f2⟩

end

end Go.Proofs.YtkjcdnlpjldhaaaGreat


namespace Go.Proofs.YtkjcdnlpjldhaaaGreat
open Go.RowKit Tw

section

variable {w w':World} {base:Nat} {v u:Value} {l:List Ins} {xs:List Value} {x:Ins} {g cap:Nat} {a a':Option Addr} {n c n' c':Nat} {row:Option Nat}

abbrev zal (x:Ins) (vn vd:Value):List Value:=[.int .i64 x.op,.int .i64 x.to,.int .i64 x.a,.int .i64 x.b,.bool x.q.ng,vn,vd]

def zbV (x:Ins):Prop:=I64 x.op/\I64 x.to/\I64 x.a/\I64 x.b

def zau (base:Nat) (w:World) (v:Value) (l:List Ins):Prop :=
 ∃ xs,w.ownsRow base 49 7 v l.length xs/\∀ k (h:k<l.length),∃ a n c a' n' c',(∀ j,j<7->xs[k*7+j]?=(zal l[k] (.slice a n c) (.slice a' n' c'))[j]?) /\
  Rd w (.slice a n c) l[k].q.n/\Rd w (.slice a' n' c') l[k].q.d/\Far (.slice a n c) v.ownBlock/\Far (.slice a' n' c') v.ownBlock/\zbV l[k]

theorem zau.nil (base:Nat) (w:World):zau base w (.slice none 0 0) []:=⟨[],World.ownsRow_nil w base _ 7,fun k h => absurd h (by simp)⟩

theorem zau.to (h:zau base w v l) (hb:Below w.heap.size w w'):zau base w' v l:=by
 obtain ⟨xs,h1,h2⟩:=h
 refine ⟨xs,zbQ h1 hb,fun k hk => ?_⟩
 obtain ⟨a,n,c,a',n',c',s,k1,k2,f1,f2,i⟩:=h2 k hk
 exact ⟨a,n,c,a',n',c',s,k1.to hb,k2.to hb,f1,f2,i⟩

theorem zau.drew (h:zau base w v l):zau base w.drew v l:=h.to (Below.refl _ _).drew

theorem zau.len (h:zau base w v l):∃ xs,w.ownsRow base 49 7 v l.length xs:=⟨_,h.choose_spec.1⟩

theorem zau.lt (h:zau base w v l):∀ k,v.ownBlock=some k->base<=k/\k<w.heap.size:=by
 obtain ⟨xs,h1,_⟩:=h
 exact World.ownsRow.lt h1

theorem zau.form (h:zau base w v l):∃ a cap,v=.slice a l.length cap/\(0<l.length->∃ g,a=some ⟨g,0,none⟩/\base<=g/\g<w.heap.size):=by
 obtain ⟨xs,h1,_⟩:=h
 rcases h1.2 with ⟨hv,h0⟩|⟨g,cap,cur,hv,hg,hh,r⟩
 ·exact ⟨none,0,by rw [hv,h0],fun h => by omega⟩
 ·exact ⟨_,cap,hv,fun _ => ⟨g,rfl,hg,(Array.getElem?_eq_some_iff.1 hh).1⟩⟩

theorem zeH {e:TypeId} {s m:Nat} {ys:List Value} (hx:w.ownsRow base e s v m xs) (hy:w.ownsRow base e s v m ys):xs=ys:=by
 rcases hx.2 with ⟨hv,h0⟩|⟨g1,cap1,cur1,hv1,hg1,hh1,a1,a2,a3,a4⟩
 ·have l1:=hx.1
  have l2:=hy.1
  rw [h0,Nat.zero_mul] at l1 l2
  rw [List.eq_nil_of_length_eq_zero l1,List.eq_nil_of_length_eq_zero l2]
 ·rcases hy.2 with ⟨hv2,_⟩|⟨g2,cap2,cur2,hv2,hg2,hh2,b1,b2,b3,b4⟩
  ·rw [hv1] at hv2;cases hv2
  ·rw [hv1] at hv2
   injection hv2 with e1 e2 e3
   injection e1 with e1
   injection e1 with e1 _
   subst e1
   rw [hh1] at hh2
   injection hh2 with hh2
   injection hh2 with hh2
   subst hh2
   rw [<- a4,<- b4]

theorem zau.push (h:zau base w v l) (hx:w.ownsRow base 49 7 v l.length xs)
  (hown:w'.ownsRow base 49 7 (.slice (some ⟨g,0,none⟩) (l.length+1) cap) (l.length+1) (xs++zal x (.slice a n c) (.slice a' n' c'))) (hgrow:w.grownBy w' v.ownBlock) (hat:v.ownBlock=some g\/g=w.heap.size)
  (hn:Rd w (.slice a n c) x.q.n) (hd:Rd w (.slice a' n' c') x.q.d) (f1:Far (.slice a n c) v.ownBlock) (f2:Far (.slice a' n' c') v.ownBlock) (hi:zbV x):zau base w' (.slice (some ⟨g,0,none⟩) (l.length+1) cap) (l++[x]):=by
 have hl:(l++[x]).length=l.length+1:=by simp
 obtain ⟨ys,hy,h2⟩:=h
 obtain rfl:=zeH hx hy
 have hlen:xs.length=l.length*7:=hx.1
 have far:∀ {s:Value} {l:List Nat},Rd w s l->Far s v.ownBlock->Far s (some g):=fun hr hf => by
  rcases hat with e|e
  ·rw [<- e];exact hf
  ·exact hr.far_new (by omega)
 refine ⟨_,by rw [hl];exact hown,fun k hk' => ?_⟩
 rcases Nat.lt_or_ge k l.length with hlt|hge
 ·obtain ⟨a1,n1,c1,a1',n1',c1',s,k1,k2,g1,g2,i⟩:=h2 k hlt
  rw [List.getElem_append_left hlt]
  exact ⟨a1,n1,c1,a1',n1',c1',fun j hj => by rw [List.getElem?_append_left (by omega)];exact s j hj,k1.grown hgrow g1,k2.grown hgrow g2,far k1 g1,far k2 g2,i⟩
 ·have e:k=l.length:=by omega
  subst e
  have ex:(l++[x])[l.length]=x:=by simp
  rw [ex]
  exact ⟨a,n,c,a',n',c',fun j hj => by rw [List.getElem?_append_right (by omega),hlen,Nat.add_sub_cancel_left],hn.grown hgrow f1,hd.grown hgrow f2,far hn f1,far hd f2,hi⟩

theorem zau.rdC (h:zau base w v l):RdC w v l:=by
 obtain ⟨xs,h1,h2⟩:=h
 rcases h1.2 with ⟨hv,h0⟩|⟨g,cap,cur,hv,hg,hh,hn,hm,r⟩
 ·exact ⟨none,0,by rw [hv,h0],by rw [h0];exact Nat.le_refl _,Nat.zero_le _,fun i hi => by omega⟩
 ·refine ⟨_,cap,hv,hn,hm,fun i hi => ?_⟩
  subst hv
  obtain ⟨a,n,c,a',n',c',s,k1,k2,f1,f2,hi64⟩:=h2 i hi
  have key:∀ j,j<7->w.cell? ⟨g,i*7+j,none⟩=(zal l[i] (.slice a n c) (.slice a' n' c'))[j]?:=fun j hj => by
   rw [World.ownsRow.cellAt h1 _ (by omega)];exact s j hj
  refine ⟨g,0,rfl,?_⟩
  rw [Nat.zero_add]
  exact ⟨key 0 (by decide),key 1 (by decide),key 2 (by decide),key 3 (by decide),⟨_,_,key 4 (by decide),key 5 (by decide),key 6 (by decide),k1,k2⟩,hi64⟩

theorem zau.setP {B o:Nat} (k:zau base w v l) (hne:v.ownBlock≠some B) {c0:Value} (hc:w.cell? ⟨B,o,none⟩=some c0) (hn:∀ z,c0≠.int .u32 z) (x:Value):zau base (w.setCell ⟨B,o,none⟩ x) v l:=by
 obtain ⟨xs,h1,h2⟩:=k
 refine ⟨xs,Go.ownsRow_setCell_other h1 (fun e => hne e) x,fun k hk => ?_⟩
 obtain ⟨a,n,c,a',n',c',s,k1,k2,f1,f2,i⟩:=h2 k hk
 exact ⟨a,n,c,a',n',c',s,k1.put hc hn x,k2.put hc hn x,f1,f2,i⟩

theorem zaS {x:Ins} {vn vd:Value} {t:TypeId} {w2:World}:∀ j u,(zal x vn vd)[j]?=some u->(w2.alloc (.cells (zal x vn vd).toArray t)).cell? ((⟨w2.heap.size,0,none⟩:Addr).add j)=some u:=by
 intro j u hu
 exact World.news_of_block (w:=w2.alloc (.cells (zal x vn vd).toArray t)) (B:=w2.heap.size) (cs:=(zal x vn vd).toArray) (t:=t) (fr:=(0,0)) (heap_alloc_new _ _) j u (by simpa using hu)

theorem zfk {x:Ins} {a a':Option Addr} {n c n' c':Nat}:∀ u ∈ zal x (.slice a n c) (.slice a' n' c'),u.oneCell'=true:=by
 intro u hu
 simp only [List.mem_cons,List.not_mem_nil,or_false] at hu
 rcases hu with rfl|rfl|rfl|rfl|rfl|rfl|rfl <;> rfl

end

end Go.Proofs.YtkjcdnlpjldhaaaGreat


namespace Go.Proofs.YtkjcdnlpjldhaaaGreat
open Go.RowKit Tw
attribute [local go_sem ↓] Go.wp_at_zero Go.wp_at_succ

def RdI (w:World) (v:Value) (l:List Int):Prop :=
 ∃ a cap,v=.slice a l.length cap/\l.length<=maxLen/\∀ i (h:i<l.length),∃ b,a=some ⟨b,0,none⟩/\w.cell? ⟨b,i,none⟩=some (.int .i64 l[i])

theorem RdI.to {w w':World} {v:Value} {l:List Int} (h:RdI w v l) (hb:Below w.heap.size w w'):RdI w' v l:=by
 obtain ⟨a,cap,hv,h1,h2⟩:=h
 exact ⟨a,cap,hv,h1,fun i hi => let ⟨b,e,k⟩:=h2 i hi;⟨b,e,(hb.cell (p:=⟨b,i,none⟩) (zm k)).trans k⟩⟩

theorem RdI.drew {w:World} {v:Value} {l:List Int} (h:RdI w v l):RdI w.drew v l:=h.to (Below.refl _ _).drew

theorem RdI.open {w:World} {v:Value} {l:List Int} (h:RdI w v l):∃ a n cap,v=.slice a n cap/\Hid (l.length=n)/\n<=maxLen:=by
 obtain ⟨a,cap,hv,h1,_⟩:=h
 exact ⟨a,_,cap,hv,rfl,h1⟩

theorem RdI.nth {w:World} {a:Option Addr} {n cap:Nat} {l:List Int} (h:RdI w (.slice a n cap) l) {i:Nat} (hi:i<l.length):∃ b,a=some ⟨b,0,none⟩/\w.cell? ⟨b,i,none⟩=some (.int .i64 l[i]):=by
 obtain ⟨a',cap',hv,_,h2⟩:=h
 injection hv with e1 e2 e3
 subst e1
 exact h2 i hi

theorem zU.rdI {e:TypeId} {base:Nat} {w:World} {v:Value} {l:List Int} (h:zU e base w v (l.map (Value.int .i64))):RdI w v l:=by
 obtain ⟨a,cap,hv,h1,h2⟩:=h.open
 rw [List.length_map] at hv h1
 refine ⟨a,cap,hv,h1,fun i hi => ?_⟩
 obtain ⟨b,e1,e2,_⟩:=h2 i (by rw [List.length_map];exact hi)
 refine ⟨b,e1,?_⟩
 rw [e2,List.getElem?_map,List.getElem?_eq_getElem hi];rfl

theorem zkN (op:Int) (w:World):Calls Tryz.prog 36 #[.int .i64 op] w (fun e w' => e=.returned (.int .i64 (zd op))/\w=w'):=by
 by_cases h:0<=op/\op<=10
 ·have h':op=0\/op=1\/op=2\/op=3\/op=4\/op=5\/op=6\/op=7\/op=8\/op=9\/op=10:=by omega
  clear h
  rcases h' with rfl|rfl|rfl|rfl|rfl|rfl|rfl|rfl|rfl|rfl|rfl
  all_goals
   go_enter Tryz.func36,Tryz.ntmps36
   go_wp2_with fail
   go_ret
   exact ⟨rfl,rfl⟩
 ·rw [zhI h]
  have t0:(op == 0)=false:=by simp;omega
  have t1:(op == 1)=false:=by simp;omega
  have t6:(op == 6)=false:=by simp;omega
  have t7:(op == 7)=false:=by simp;omega
  have t8:(op == 8)=false:=by simp;omega
  have t9:(op == 9)=false:=by simp;omega
  have t10:(op == 10)=false:=by simp;omega
  by_cases h2:2<=op
  ·have q2:decide (2<=op)=true:=decide_eq_true h2
   have q5:decide (op<=5)=false:=decide_eq_false (by omega)
   clear h h2
   go_enter Tryz.func36,Tryz.ntmps36
   go_wp2_with fail
   go_ret
   exact ⟨rfl,rfl⟩
  ·have q2:decide (2<=op)=false:=decide_eq_false h2
   clear h h2
   go_enter Tryz.func36,Tryz.ntmps36
   go_wp2_with fail
   go_ret
   exact ⟨rfl,rfl⟩

theorem zf (v:Value) (xs:List Int) (z:Int) (w:World) (h:RdI w v xs) (hs:xs.length<=100000) (o:Bool) (ho:decide (z ∈ xs)=o) :
  Calls Tryz.prog 58 #[v,.int .i64 z] w (fun e w' => e=.returned (.bool o)/\w=w'):=by
 obtain ⟨a,n,cap,rfl,H0,hm⟩:=h.open
 have hn:n<=100000:=by have:=H0.out;omega
 have Ho:=Lib.hid ho
 clear ho hs
 go_enter Tryz.func58,Tryz.ntmps58
 go_wp2_with fail
 go_loopw [5] (fun i ww => ∃ k:Nat,k<=n/\i=.int .i64 k/\ww=w/\Hid (z ∉ xs.take k)) (fun i _ => n - (intOf i).toNat)
 case atStart => exact ⟨0,Nat.zero_le _,rfl,rfl,by show z ∉ _;simp⟩
 case round =>
  obtain ⟨k,hk,rfl,rfl,HN⟩:=hrel
  by_cases hkn:k<n
  ·have hki:(k:Int)<(n:Int):=by omega
   have hkl:k<xs.length:=by rw [H0.out];exact hkn
   obtain ⟨b,rfl,hc⟩:=h.nth hkl
   obtain ⟨y,hy⟩:∃ y,xs[k]=y:=⟨_,rfl⟩
   rw [hy] at hc
   by_cases hz:y=z
   ·have t:(y == z)=true:=by simp;exact hz
    have:o=true:=by rw [<- Ho.out,<- hz,<- hy];exact decide_eq_true (List.getElem_mem hkl)
    subst this
    clear hz h
    go_wp2_with fail
    go_ret
    exact ⟨rfl,rfl⟩
   ·have t:(y == z)=false:=by simp;exact hz
    have HN2:Hid (z ∉ xs.take (k+1)):=by
     show z ∉ _
     rw [List.take_succ_eq_append_getElem hkl,List.mem_append,hy]
     rintro (g|g)
     ·exact HN.out g
     ·exact hz (List.mem_singleton.1 g).symm
    clear hz h
    go_wp2_with fail
    go_roundw
    case rel => exact ⟨k+1,by omega,by go_num,by first|exact rfl|trivial,HN2⟩
    case measure => simp [intOf] <;> omega
  ·obtain rfl:k=n:=by omega
   have:o=false:=by
    rw [<- Ho.out]
    have:=HN.out
    rw [<- H0.out,List.take_length] at this
    exact decide_eq_false this
   subst this
   go_wp2_with fail
   go_ret
   exact ⟨rfl,rfl⟩

end Go.Proofs.YtkjcdnlpjldhaaaGreat


namespace Go.Proofs.YtkjcdnlpjldhaaaGreat
open Go.RowKit Tw
attribute [local go_sem ↓] Go.wp_at_zero Go.wp_at_succ

theorem zkP (n:Int) (d:Nat) (w:World) (hn:-128<=n/\n<=127) (hd:d<4) :
  Calls Tryz.prog 44 #[.int .i8 n,.int .u8 ((d:Nat):Int)] w (zap w (zT n d)):=by
 have S1:=Lib.hid (zdR (z:=n) (by omega) (by omega))
 have S2:=Lib.hid (show szq (zT n d)<=1000 from Nat.le_trans (zhU (by omega) hd) (by decide))
 have H9:=Lib.hid (show ∀ ng,decide (n<0)=ng->rat ng (val (za n.natAbs)) (val [d+1])=zT n d from fun ng e => by rw [<- e,vL];unfold zT;congr 1)
 have e1:IntKind.u32.wrap ((d:Int)+1)=((d+1:Nat):Int):=by
  unfold IntKind.wrap
  simp [IntKind.signed,IntKind.bits]
  omega
 have hdB:d+1<4294967296:=by omega
 go_enter Tryz.func44,Tryz.ntmps44
 go_wp2_with fail
 obtain ⟨W0,an⟩:∃ W0,w.alloc (.cells #[.bool false,.slice none 0 0,.slice none 0 0] 47)=W0:=⟨_,rfl⟩
 have ap:=Lib.hid (show ∀ W',Below W0.heap.size W0 W'->(Bx3 W' w.heap.size (.bool false) (.slice none 0 0) (.slice none 0 0)) from fun W' hb => by
   apply bx3 hb
   all_goals first|assumption|(rw [<- an];simp [go_sem]))
 have zb:Below w.heap.size w W0:=by rw [<- an];exact bN _ _
 rw [an]
 clear an
 have gb:Below W0.heap.size W0 W0:=Below.refl _ _
 obtain ⟨z0,ae,af,ag,ah,ak,al⟩:=ap.out _ gb
 refine (rof_c n n _ rfl (by omega) (by omega)).mono ?_
 clear ae ah af ak ag al
 rintro e w1 ⟨ng1,a1_,n1_,c1_,rfl,g1,be⟩
 replace gb:=bS gb be
 obtain ⟨z0,ae,af,ag,ah,ak,al⟩:=ap.out _ gb
 go_wp2_with fail
 have H8:=Lib.hid (H9.out ng1 (by have k:=g1.2.1;exact k))
 obtain ⟨W1,aO⟩:∃ W1,w1.alloc (.cells #[.int .u32 ((d:Int)+1)] 97)=W1:=⟨_,rfl⟩
 have hb_W1:Below w1.heap.size w1 W1:=by rw [<- aO];exact bN _ _
 have d_W1:Rd W1 (.slice (some ⟨w1.heap.size,0,none⟩) 1 1) [d+1]:=by
  have h:=lit1 (a:=d+1) w1 hdB
  have e:zbe (d+1)=.int .u32 ((d:Int)+1):=by show Value.int .u32 _=_;rw [Int.natCast_add];rfl
  rw [e] at h
  rw [<- aO];exact h
 clear ae ah af ak ag al
 replace g1:=g1.to hb_W1
 replace gb:=bS gb hb_W1
 obtain ⟨z0,ae,af,ag,ah,ak,al⟩:=ap.out _ gb
 rw [aO]
 clear aO
 refine (zdy ng1 _ _ _ _ _ g1.isI.up d_W1 (Nat.le_trans S1.out (by omega)) (by simp) (zT n d) H8.out S2).mono ?_
 clear ae ah af ak ag al
 rintro e w2 ⟨ng2,a2_,n2_,c2_,p2_,m2_,k2_,rfl,g2,aZ⟩
 replace g1:=g1.to aZ
 replace d_W1:=d_W1.to aZ
 replace gb:=bS gb aZ
 obtain ⟨z0,ae,af,ag,ah,ak,al⟩:=ap.out _ gb
 go_wp2_with fail
 refine bodyPost_ret (zY Tryz.results44 _ _ _ _ _ _ rfl (Tri.set (x0:=.bool false) (y0:=.slice none 0 0) (z0:=.slice none 0 0) ⟨ae,af,ag,ah,ak,al⟩ _ _ _)) rfl (zef (bS zb gb) (by omega) ?_ g2)
 first|omega|(simp;omega)

structure Sn where
 n:Int
 d:Nat

def AtSn (w:World) (b o:Nat) (x:Sn):Prop:=w.cell? ⟨b,o,none⟩=some (.int .i8 x.n)/\w.cell? ⟨b,o+1,none⟩=some (.int .u8 (x.d:Int))/\(-128<=x.n/\x.n<=127)/\x.d<256

theorem AtSn.to {w w':World} {b o:Nat} {x:Sn} (h:AtSn w b o x) (hb:Below w.heap.size w w'):AtSn w' b o x :=
 ⟨(hb.cell (p:=⟨b,o,none⟩) (zm h.1)).trans h.1,(hb.cell (p:=⟨b,o+1,none⟩) (zm h.1)).trans h.2.1,h.2.2⟩

def RdSn (w:World) (v:Value) (l:List Sn):Prop :=
 ∃ a cap,v=.slice a l.length cap/\l.length<=cap/\cap<=maxLen/\∀ i (h:i<l.length),∃ b off,a=some ⟨b,off,none⟩/\AtSn w b (off+i*2) l[i]

theorem RdSn.to {w w':World} {v:Value} {l:List Sn} (h:RdSn w v l) (hb:Below w.heap.size w w'):RdSn w' v l:=by
 obtain ⟨a,cap,hv,h1,h2,h3⟩:=h
 exact ⟨a,cap,hv,h1,h2,fun i hi => let ⟨b,off,e,k⟩:=h3 i hi;⟨b,off,e,k.to hb⟩⟩

theorem RdSn.open {w:World} {v:Value} {l:List Sn} (h:RdSn w v l):∃ a n cap,v=.slice a n cap/\Hid (l.length=n)/\n<=maxLen:=by
 obtain ⟨a,cap,hv,h1,h2,_⟩:=h
 exact ⟨a,_,cap,hv,rfl,by omega⟩

theorem RdSn.nth {w:World} {a:Option Addr} {n cap:Nat} {l:List Sn} (h:RdSn w (.slice a n cap) l) {i:Nat} (hi:i<l.length):∃ b off,a=some ⟨b,off,none⟩/\AtSn w b (off+i*2) l[i]:=by
 obtain ⟨a',cap',hv,_,_,h3⟩:=h
 injection hv with e1 e2 e3
 subst e1
 exact h3 i hi

end Go.Proofs.YtkjcdnlpjldhaaaGreat


namespace Go.Proofs.YtkjcdnlpjldhaaaGreat
open Go.RowKit Tw
attribute [local go_sem ↓] Go.wp_at_zero Go.wp_at_succ

def zM (w:World) (B g N:Nat) (u vJ:Value) (rows cols:Int):Prop :=
 w.cell? ⟨B,0,none⟩=some u/\w.cell? ⟨B,1,none⟩=some (.slice (some ⟨g,0,none⟩) N N)/\w.cell? ⟨B,2,none⟩=some (.int .i64 rows)/\w.cell? ⟨B,3,none⟩=some (.int .i64 cols)/\w.cell? ⟨B,4,none⟩=some vJ

theorem zM.lt {w:World} {B g N:Nat} {u vJ:Value} {rows cols:Int} (h:zM w B g N u vJ rows cols):B<w.heap.size:=zm h.1

theorem zM.to {w w':World} {B g N:Nat} {u vJ:Value} {rows cols:Int} (h:zM w B g N u vJ rows cols) (hb:Below w.heap.size w w'):zM w' B g N u vJ rows cols :=
 ⟨(hb.cell (p:=⟨B,0,none⟩) h.lt).trans h.1,(hb.cell (p:=⟨B,1,none⟩) h.lt).trans h.2.1,(hb.cell (p:=⟨B,2,none⟩) h.lt).trans h.2.2.1,(hb.cell (p:=⟨B,3,none⟩) h.lt).trans h.2.2.2.1,(hb.cell (p:=⟨B,4,none⟩) h.lt).trans h.2.2.2.2⟩

def zbW (w:World) (b o:Nat) (x y z:Value):Prop:=w.cell? ⟨b,o,none⟩=some x/\w.cell? ⟨b,o+1,none⟩=some y/\w.cell? ⟨b,o+2,none⟩=some z

theorem zbW.lt {w:World} {b o:Nat} {x y z:Value} (h:zbW w b o x y z):b<w.heap.size:=zm h.1

theorem zbW.to {w w':World} {b o:Nat} {x y z:Value} (h:zbW w b o x y z) (hb:Below w.heap.size w w'):zbW w' b o x y z :=
 ⟨(hb.cell (p:=⟨b,o,none⟩) h.lt).trans h.1,(hb.cell (p:=⟨b,o+1,none⟩) h.lt).trans h.2.1,(hb.cell (p:=⟨b,o+2,none⟩) h.lt).trans h.2.2⟩

theorem zjy (mB g N:Nat) (u vJ:Value) (rows cols:Int) (op to:Int) (ng:Bool) (vn vd:Value) (lw1 lw2:List Nat) (R1:Nat) (nr1:Bool) (vr1 ur1:Value) (lr1 kr1:List Nat) (R2:Nat) (nr2:Bool) (vr2 ur2:Value) (lr2 kr2:List Nat) {x y:Rat}  (w:World) (hw:IsF w vn vd lw1 lw2) (hm:zM w mB g N u vJ rows cols) (hN:N<=100000) (hr1:R1<N) (tr1:zbW w g (R1*3) (.bool nr1) vr1 ur1) (qr1:IsQ w nr1 vr1 ur1 lr1 kr1 x) (hr2:R2<N) (tr2:zbW w g (R2*3) (.bool nr2) vr2 ur2) (qr2:IsQ w nr2 vr2 ur2 lr2 kr2 y) (q:Rat) (hq:x+y=q) (hs:Hid (szq q<=1000))  :
  Calls Tryz.prog 93 #[.pointer (some ⟨mB,0,none⟩),.agg #[.int .i64 op,.int .i64 to,.int .i64 (R1:Int),.int .i64 (R2:Int),.bool ng,vn,vd]] w (zL w q):=by
 have Hq:=Lib.hid hq
 clear hq
 obtain ⟨a0,n0,c0,rfl,H0,hm0⟩:=hw.1.open
 obtain ⟨a1,n1,c1,rfl,H1,hm1⟩:=hw.2.open
 obtain ⟨ra1,rn1,rc1,rfl,RH1,rm1⟩:=qr1.1.open
 obtain ⟨sa1,sn1,sc1,rfl,SH1,sm1⟩:=qr1.2.1.open
 have ri1:(R1:Int)<(N:Int):=by omega
 obtain ⟨ra2,rn2,rc2,rfl,RH2,rm2⟩:=qr2.1.open
 obtain ⟨sa2,sn2,sc2,rfl,SH2,sm2⟩:=qr2.2.1.open
 have ri2:(R2:Int)<(N:Int):=by omega
 have lm:=hm.lt
 have lt1:=tr1.lt
 have lt2:=tr2.lt
 go_enter Tryz.func93,Tryz.ntmps93
 go_wp2_with fail
 obtain ⟨W0,an⟩:∃ W0,(w.alloc (.cells #[.int .i64 op,.int .i64 to,.int .i64 (R1:Int),.int .i64 (R2:Int),.bool ng,.slice a0 n0 c0,.slice a1 n1 c1] 49)).alloc (.cells #[.bool false,.slice none 0 0,.slice none 0 0] 47)=W0:=⟨_,rfl⟩
 have ap:=Lib.hid (show ∀ W',Below W0.heap.size W0 W'->(Bx7 W' w.heap.size (.int .i64 op) (.int .i64 to) (.int .i64 (R1:Int)) (.int .i64 (R2:Int)) (.bool ng) (.slice a0 n0 c0) (.slice a1 n1 c1)/\Bx3 W' (w.heap.size+1) (.bool false) (.slice none 0 0) (.slice none 0 0)) from fun W' hb => by
   refine ⟨bx7 hb ?_ ?_ ?_ ?_ ?_ ?_ ?_ ?_ ?_ ?_ ?_ ?_ ?_ ?_,bx3 hb ?_ ?_ ?_ ?_ ?_ ?_⟩
   all_goals first|assumption|(rw [<- an];simp [go_sem]))
 have zb:Below w.heap.size w W0:=by rw [<- an];exact bS (bN _ _) (bN _ _)
 rw [an]
 clear an
 have i0:=hw.to zb
 have i1:=hm.to zb
 have i2:=tr1.to zb
 have i3:=tr2.to zb
 have i4:=qr1.to zb
 have i5:=qr2.to zb
 have gb:Below W0.heap.size W0 W0:=Below.refl _ _
 obtain ⟨⟨z0,ae,af,ag,az,aA,bf,bh,ah,ak,al,aJ,aK,bm,bn⟩,⟨z1,aB,aD,aE,aG,aH,aI⟩⟩:=ap.out _ gb
 obtain ⟨e0,e1,e2,e3,e4⟩:=(i1.to gb)
 obtain ⟨t10,t11,t12⟩:=(i2.to gb)
 obtain ⟨t20,t21,t22⟩:=(i3.to gb)
 go_wp2_with fail
 have nzx_e0:mB≠w.heap.size+1:=by omega
 have nzx_e1:mB≠w.heap.size+1:=by omega
 have nzx_t10:g≠w.heap.size+1:=by omega
 have nzx_t11:g≠w.heap.size+1:=by omega
 have nzx_t12:g≠w.heap.size+1:=by omega
 have nzx_t20:g≠w.heap.size+1:=by omega
 have nzx_t21:g≠w.heap.size+1:=by omega
 have nzx_t22:g≠w.heap.size+1:=by omega
 have nz0:w.heap.size≠w.heap.size+1:=by omega
 go_region_held3 (fun W' => W'.cell? ⟨w.heap.size,0,none⟩=some (.int .i64 op)/\W'.cell? ⟨w.heap.size,1,none⟩=some (.int .i64 to)/\W'.cell? ⟨w.heap.size,2,none⟩=some (.int .i64 (R1:Int))/\W'.cell? ⟨w.heap.size,3,none⟩=some (.int .i64 (R2:Int))/\W'.cell? ⟨w.heap.size,4,none⟩=some (.bool ng)/\W'.cell? ⟨w.heap.size,5,none⟩=some (.slice a0 n0 c0)/\W'.cell? ⟨w.heap.size,6,none⟩=some (.slice a1 n1 c1)/\W'.cell? ⟨mB,0,none⟩=some (u)/\W'.cell? ⟨mB,1,none⟩=some (.slice (some ⟨g,0,none⟩) N N)/\W'.cell? ⟨g,R1*3,none⟩=some (.bool nr1)/\W'.cell? ⟨g,R1*3+1,none⟩=some (.slice ra1 rn1 rc1)/\W'.cell? ⟨g,R1*3+2,none⟩=some (.slice sa1 sn1 sc1)/\W'.cell? ⟨g,R2*3,none⟩=some (.bool nr2)/\W'.cell? ⟨g,R2*3+1,none⟩=some (.slice ra2 rn2 rc2)/\W'.cell? ⟨g,R2*3+2,none⟩=some (.slice sa2 sn2 sc2)) (first|(with_reducible exact ⟨ae,af,ag,az,aA,bf,bh,e0,e1,t10,t11,t12,t20,t21,t22⟩)|(with_reducible exact ⟨cP (cP (cP (ae) (.inl nz0) _) (.inl nz0) _) (.inl nz0) _,cP (cP (cP (af) (.inl nz0) _) (.inl nz0) _) (.inl nz0) _,cP (cP (cP (ag) (.inl nz0) _) (.inl nz0) _) (.inl nz0) _,cP (cP (cP (az) (.inl nz0) _) (.inl nz0) _) (.inl nz0) _,cP (cP (cP (aA) (.inl nz0) _) (.inl nz0) _) (.inl nz0) _,cP (cP (cP (bf) (.inl nz0) _) (.inl nz0) _) (.inl nz0) _,cP (cP (cP (bh) (.inl nz0) _) (.inl nz0) _) (.inl nz0) _,cP (cP (cP (e0) (.inl nzx_e0) _) (.inl nzx_e0) _) (.inl nzx_e0) _,cP (cP (cP (e1) (.inl nzx_e1) _) (.inl nzx_e1) _) (.inl nzx_e1) _,cP (cP (cP (t10) (.inl nzx_t10) _) (.inl nzx_t10) _) (.inl nzx_t10) _,cP (cP (cP (t11) (.inl nzx_t11) _) (.inl nzx_t11) _) (.inl nzx_t11) _,cP (cP (cP (t12) (.inl nzx_t12) _) (.inl nzx_t12) _) (.inl nzx_t12) _,cP (cP (cP (t20) (.inl nzx_t20) _) (.inl nzx_t20) _) (.inl nzx_t20) _,cP (cP (cP (t21) (.inl nzx_t21) _) (.inl nzx_t21) _) (.inl nzx_t21) _,cP (cP (cP (t22) (.inl nzx_t22) _) (.inl nzx_t22) _) (.inl nzx_t22) _⟩)|exact ⟨ae,af,ag,az,aA,bf,bh,e0,e1,t10,t11,t12,t20,t21,t22⟩) (first
  | (go_at_call 117;have gb:=gb.drew;(with_reducible refine (zhL nr1 _ _ lr1 kr1 nr2 _ _ lr2 kr2 _ (i4.to gb) (i5.to gb) q Hq.out hs).mono ?_);rintro e w1 ⟨ng1,a1_,n1_,c1_,p1_,m1_,k1_,rfl,g1,be⟩;have gb:=bS gb be;obtain ⟨⟨z0,ae,af,ag,az,aA,bf,bh,ah,ak,al,aJ,aK,bm,bn⟩,⟨z1,aB,aD,aE,aG,aH,aI⟩⟩:=ap.out _ gb;obtain ⟨e0,e1,e2,e3,e4⟩:=(i1.to gb);obtain ⟨t10,t11,t12⟩:=(i2.to gb);obtain ⟨t20,t21,t22⟩:=(i3.to gb)))
 go_wp2_with fail
 refine bodyPost_ret (zt Tryz.results93 _ _ _ _ _ _ rfl (Tri.set (x0:=.bool false) (y0:=.slice none 0 0) (z0:=.slice none 0 0) ⟨aB,aD,aE,aG,aH,aI⟩ _ _ _)) rfl (zcf (bS zb gb) (by omega) ?_ g1)
 first|omega|(simp;omega)

theorem mach_sub (mB g N:Nat) (u vJ:Value) (rows cols:Int) (op to:Int) (ng:Bool) (vn vd:Value) (lw1 lw2:List Nat) (R1:Nat) (nr1:Bool) (vr1 ur1:Value) (lr1 kr1:List Nat) (R2:Nat) (nr2:Bool) (vr2 ur2:Value) (lr2 kr2:List Nat) {x y:Rat}  (w:World) (hw:IsF w vn vd lw1 lw2) (hm:zM w mB g N u vJ rows cols) (hN:N<=100000) (hr1:R1<N) (tr1:zbW w g (R1*3) (.bool nr1) vr1 ur1) (qr1:IsQ w nr1 vr1 ur1 lr1 kr1 x) (hr2:R2<N) (tr2:zbW w g (R2*3) (.bool nr2) vr2 ur2) (qr2:IsQ w nr2 vr2 ur2 lr2 kr2 y) (q:Rat) (hq:x - y=q) (hs:Hid (szq q<=1000))  :
  Calls Tryz.prog 94 #[.pointer (some ⟨mB,0,none⟩),.agg #[.int .i64 op,.int .i64 to,.int .i64 (R1:Int),.int .i64 (R2:Int),.bool ng,vn,vd]] w (zL w q):=by
 have Hq:=Lib.hid hq
 clear hq
 obtain ⟨a0,n0,c0,rfl,H0,hm0⟩:=hw.1.open
 obtain ⟨a1,n1,c1,rfl,H1,hm1⟩:=hw.2.open
 obtain ⟨ra1,rn1,rc1,rfl,RH1,rm1⟩:=qr1.1.open
 obtain ⟨sa1,sn1,sc1,rfl,SH1,sm1⟩:=qr1.2.1.open
 have ri1:(R1:Int)<(N:Int):=by omega
 obtain ⟨ra2,rn2,rc2,rfl,RH2,rm2⟩:=qr2.1.open
 obtain ⟨sa2,sn2,sc2,rfl,SH2,sm2⟩:=qr2.2.1.open
 have ri2:(R2:Int)<(N:Int):=by omega
 have lm:=hm.lt
 have lt1:=tr1.lt
 have lt2:=tr2.lt
 go_enter Tryz.func94,Tryz.ntmps94
 go_wp2_with fail
 obtain ⟨W0,an⟩:∃ W0,(w.alloc (.cells #[.int .i64 op,.int .i64 to,.int .i64 (R1:Int),.int .i64 (R2:Int),.bool ng,.slice a0 n0 c0,.slice a1 n1 c1] 49)).alloc (.cells #[.bool false,.slice none 0 0,.slice none 0 0] 47)=W0:=⟨_,rfl⟩
 have ap:=Lib.hid (show ∀ W',Below W0.heap.size W0 W'->(Bx7 W' w.heap.size (.int .i64 op) (.int .i64 to) (.int .i64 (R1:Int)) (.int .i64 (R2:Int)) (.bool ng) (.slice a0 n0 c0) (.slice a1 n1 c1)/\Bx3 W' (w.heap.size+1) (.bool false) (.slice none 0 0) (.slice none 0 0)) from fun W' hb => by
   refine ⟨bx7 hb ?_ ?_ ?_ ?_ ?_ ?_ ?_ ?_ ?_ ?_ ?_ ?_ ?_ ?_,bx3 hb ?_ ?_ ?_ ?_ ?_ ?_⟩
   all_goals first|assumption|(rw [<- an];simp [go_sem]))
 have zb:Below w.heap.size w W0:=by rw [<- an];exact bS (bN _ _) (bN _ _)
 rw [an]
 clear an
 have i0:=hw.to zb
 have i1:=hm.to zb
 have i2:=tr1.to zb
 have i3:=tr2.to zb
 have i4:=qr1.to zb
 have i5:=qr2.to zb
 have gb:Below W0.heap.size W0 W0:=Below.refl _ _
 obtain ⟨⟨z0,ae,af,ag,az,aA,bf,bh,ah,ak,al,aJ,aK,bm,bn⟩,⟨z1,aB,aD,aE,aG,aH,aI⟩⟩:=ap.out _ gb
 obtain ⟨e0,e1,e2,e3,e4⟩:=(i1.to gb)
 obtain ⟨t10,t11,t12⟩:=(i2.to gb)
 obtain ⟨t20,t21,t22⟩:=(i3.to gb)
 go_wp2_with fail
 have nzx_e0:mB≠w.heap.size+1:=by omega
 have nzx_e1:mB≠w.heap.size+1:=by omega
 have nzx_t10:g≠w.heap.size+1:=by omega
 have nzx_t11:g≠w.heap.size+1:=by omega
 have nzx_t12:g≠w.heap.size+1:=by omega
 have nzx_t20:g≠w.heap.size+1:=by omega
 have nzx_t21:g≠w.heap.size+1:=by omega
 have nzx_t22:g≠w.heap.size+1:=by omega
 have nz0:w.heap.size≠w.heap.size+1:=by omega
 go_region_held3 (fun W' => W'.cell? ⟨w.heap.size,0,none⟩=some (.int .i64 op)/\W'.cell? ⟨w.heap.size,1,none⟩=some (.int .i64 to)/\W'.cell? ⟨w.heap.size,2,none⟩=some (.int .i64 (R1:Int))/\W'.cell? ⟨w.heap.size,3,none⟩=some (.int .i64 (R2:Int))/\W'.cell? ⟨w.heap.size,4,none⟩=some (.bool ng)/\W'.cell? ⟨w.heap.size,5,none⟩=some (.slice a0 n0 c0)/\W'.cell? ⟨w.heap.size,6,none⟩=some (.slice a1 n1 c1)/\W'.cell? ⟨mB,0,none⟩=some (u)/\W'.cell? ⟨mB,1,none⟩=some (.slice (some ⟨g,0,none⟩) N N)/\W'.cell? ⟨g,R1*3,none⟩=some (.bool nr1)/\W'.cell? ⟨g,R1*3+1,none⟩=some (.slice ra1 rn1 rc1)/\W'.cell? ⟨g,R1*3+2,none⟩=some (.slice sa1 sn1 sc1)/\W'.cell? ⟨g,R2*3,none⟩=some (.bool nr2)/\W'.cell? ⟨g,R2*3+1,none⟩=some (.slice ra2 rn2 rc2)/\W'.cell? ⟨g,R2*3+2,none⟩=some (.slice sa2 sn2 sc2)) (first|(with_reducible exact ⟨ae,af,ag,az,aA,bf,bh,e0,e1,t10,t11,t12,t20,t21,t22⟩)|(with_reducible exact ⟨cP (cP (cP (ae) (.inl nz0) _) (.inl nz0) _) (.inl nz0) _,cP (cP (cP (af) (.inl nz0) _) (.inl nz0) _) (.inl nz0) _,cP (cP (cP (ag) (.inl nz0) _) (.inl nz0) _) (.inl nz0) _,cP (cP (cP (az) (.inl nz0) _) (.inl nz0) _) (.inl nz0) _,cP (cP (cP (aA) (.inl nz0) _) (.inl nz0) _) (.inl nz0) _,cP (cP (cP (bf) (.inl nz0) _) (.inl nz0) _) (.inl nz0) _,cP (cP (cP (bh) (.inl nz0) _) (.inl nz0) _) (.inl nz0) _,cP (cP (cP (e0) (.inl nzx_e0) _) (.inl nzx_e0) _) (.inl nzx_e0) _,cP (cP (cP (e1) (.inl nzx_e1) _) (.inl nzx_e1) _) (.inl nzx_e1) _,cP (cP (cP (t10) (.inl nzx_t10) _) (.inl nzx_t10) _) (.inl nzx_t10) _,cP (cP (cP (t11) (.inl nzx_t11) _) (.inl nzx_t11) _) (.inl nzx_t11) _,cP (cP (cP (t12) (.inl nzx_t12) _) (.inl nzx_t12) _) (.inl nzx_t12) _,cP (cP (cP (t20) (.inl nzx_t20) _) (.inl nzx_t20) _) (.inl nzx_t20) _,cP (cP (cP (t21) (.inl nzx_t21) _) (.inl nzx_t21) _) (.inl nzx_t21) _,cP (cP (cP (t22) (.inl nzx_t22) _) (.inl nzx_t22) _) (.inl nzx_t22) _⟩)|exact ⟨ae,af,ag,az,aA,bf,bh,e0,e1,t10,t11,t12,t20,t21,t22⟩) (first
  | (go_at_call 118;have gb:=gb.drew;(with_reducible refine (zmF nr1 _ _ lr1 kr1 nr2 _ _ lr2 kr2 _ (i4.to gb) (i5.to gb) q Hq.out hs).mono ?_);rintro e w1 ⟨ng1,a1_,n1_,c1_,p1_,m1_,k1_,rfl,g1,be⟩;have gb:=bS gb be;obtain ⟨⟨z0,ae,af,ag,az,aA,bf,bh,ah,ak,al,aJ,aK,bm,bn⟩,⟨z1,aB,aD,aE,aG,aH,aI⟩⟩:=ap.out _ gb;obtain ⟨e0,e1,e2,e3,e4⟩:=(i1.to gb);obtain ⟨t10,t11,t12⟩:=(i2.to gb);obtain ⟨t20,t21,t22⟩:=(i3.to gb)))
 go_wp2_with fail
 refine bodyPost_ret (zt Tryz.results94 _ _ _ _ _ _ rfl (Tri.set (x0:=.bool false) (y0:=.slice none 0 0) (z0:=.slice none 0 0) ⟨aB,aD,aE,aG,aH,aI⟩ _ _ _)) rfl (zcf (bS zb gb) (by omega) ?_ g1)
 first|omega|(simp;omega)

theorem zjA (mB g N:Nat) (u vJ:Value) (rows cols:Int) (op to:Int) (ng:Bool) (vn vd:Value) (lw1 lw2:List Nat) (R1:Nat) (nr1:Bool) (vr1 ur1:Value) (lr1 kr1:List Nat) (R2:Nat) (nr2:Bool) (vr2 ur2:Value) (lr2 kr2:List Nat) {x y:Rat}  (w:World) (hw:IsF w vn vd lw1 lw2) (hm:zM w mB g N u vJ rows cols) (hN:N<=100000) (hr1:R1<N) (tr1:zbW w g (R1*3) (.bool nr1) vr1 ur1) (qr1:IsQ w nr1 vr1 ur1 lr1 kr1 x) (hr2:R2<N) (tr2:zbW w g (R2*3) (.bool nr2) vr2 ur2) (qr2:IsQ w nr2 vr2 ur2 lr2 kr2 y) (q:Rat) (hq:x*y=q) (hs:Hid (szq q<=1000))  :
  Calls Tryz.prog 95 #[.pointer (some ⟨mB,0,none⟩),.agg #[.int .i64 op,.int .i64 to,.int .i64 (R1:Int),.int .i64 (R2:Int),.bool ng,vn,vd]] w (zL w q):=by
 have Hq:=Lib.hid hq
 clear hq
 obtain ⟨a0,n0,c0,rfl,H0,hm0⟩:=hw.1.open
 obtain ⟨a1,n1,c1,rfl,H1,hm1⟩:=hw.2.open
 obtain ⟨ra1,rn1,rc1,rfl,RH1,rm1⟩:=qr1.1.open
 obtain ⟨sa1,sn1,sc1,rfl,SH1,sm1⟩:=qr1.2.1.open
 have ri1:(R1:Int)<(N:Int):=by omega
 obtain ⟨ra2,rn2,rc2,rfl,RH2,rm2⟩:=qr2.1.open
 obtain ⟨sa2,sn2,sc2,rfl,SH2,sm2⟩:=qr2.2.1.open
 have ri2:(R2:Int)<(N:Int):=by omega
 have lm:=hm.lt
 have lt1:=tr1.lt
 have lt2:=tr2.lt
 go_enter Tryz.func95,Tryz.ntmps95
 go_wp2_with fail
 obtain ⟨W0,an⟩:∃ W0,(w.alloc (.cells #[.int .i64 op,.int .i64 to,.int .i64 (R1:Int),.int .i64 (R2:Int),.bool ng,.slice a0 n0 c0,.slice a1 n1 c1] 49)).alloc (.cells #[.bool false,.slice none 0 0,.slice none 0 0] 47)=W0:=⟨_,rfl⟩
 have ap:=Lib.hid (show ∀ W',Below W0.heap.size W0 W'->(Bx7 W' w.heap.size (.int .i64 op) (.int .i64 to) (.int .i64 (R1:Int)) (.int .i64 (R2:Int)) (.bool ng) (.slice a0 n0 c0) (.slice a1 n1 c1)/\Bx3 W' (w.heap.size+1) (.bool false) (.slice none 0 0) (.slice none 0 0)) from fun W' hb => by
   refine ⟨bx7 hb ?_ ?_ ?_ ?_ ?_ ?_ ?_ ?_ ?_ ?_ ?_ ?_ ?_ ?_,bx3 hb ?_ ?_ ?_ ?_ ?_ ?_⟩
   all_goals first|assumption|(rw [<- an];simp [go_sem]))
 have zb:Below w.heap.size w W0:=by rw [<- an];exact bS (bN _ _) (bN _ _)
 rw [an]
 clear an
 have i0:=hw.to zb
 have i1:=hm.to zb
 have i2:=tr1.to zb
 have i3:=tr2.to zb
 have i4:=qr1.to zb
 have i5:=qr2.to zb
 have gb:Below W0.heap.size W0 W0:=Below.refl _ _
 obtain ⟨⟨z0,ae,af,ag,az,aA,bf,bh,ah,ak,al,aJ,aK,bm,bn⟩,⟨z1,aB,aD,aE,aG,aH,aI⟩⟩:=ap.out _ gb
 obtain ⟨e0,e1,e2,e3,e4⟩:=(i1.to gb)
 obtain ⟨t10,t11,t12⟩:=(i2.to gb)
 obtain ⟨t20,t21,t22⟩:=(i3.to gb)
 go_wp2_with fail
 have nzx_e0:mB≠w.heap.size+1:=by omega
 have nzx_e1:mB≠w.heap.size+1:=by omega
 have nzx_t10:g≠w.heap.size+1:=by omega
 have nzx_t11:g≠w.heap.size+1:=by omega
 have nzx_t12:g≠w.heap.size+1:=by omega
 have nzx_t20:g≠w.heap.size+1:=by omega
 have nzx_t21:g≠w.heap.size+1:=by omega
 have nzx_t22:g≠w.heap.size+1:=by omega
 have nz0:w.heap.size≠w.heap.size+1:=by omega
 go_region_held3 (fun W' => W'.cell? ⟨w.heap.size,0,none⟩=some (.int .i64 op)/\W'.cell? ⟨w.heap.size,1,none⟩=some (.int .i64 to)/\W'.cell? ⟨w.heap.size,2,none⟩=some (.int .i64 (R1:Int))/\W'.cell? ⟨w.heap.size,3,none⟩=some (.int .i64 (R2:Int))/\W'.cell? ⟨w.heap.size,4,none⟩=some (.bool ng)/\W'.cell? ⟨w.heap.size,5,none⟩=some (.slice a0 n0 c0)/\W'.cell? ⟨w.heap.size,6,none⟩=some (.slice a1 n1 c1)/\W'.cell? ⟨mB,0,none⟩=some (u)/\W'.cell? ⟨mB,1,none⟩=some (.slice (some ⟨g,0,none⟩) N N)/\W'.cell? ⟨g,R1*3,none⟩=some (.bool nr1)/\W'.cell? ⟨g,R1*3+1,none⟩=some (.slice ra1 rn1 rc1)/\W'.cell? ⟨g,R1*3+2,none⟩=some (.slice sa1 sn1 sc1)/\W'.cell? ⟨g,R2*3,none⟩=some (.bool nr2)/\W'.cell? ⟨g,R2*3+1,none⟩=some (.slice ra2 rn2 rc2)/\W'.cell? ⟨g,R2*3+2,none⟩=some (.slice sa2 sn2 sc2)) (first|(with_reducible exact ⟨ae,af,ag,az,aA,bf,bh,e0,e1,t10,t11,t12,t20,t21,t22⟩)|(with_reducible exact ⟨cP (cP (cP (ae) (.inl nz0) _) (.inl nz0) _) (.inl nz0) _,cP (cP (cP (af) (.inl nz0) _) (.inl nz0) _) (.inl nz0) _,cP (cP (cP (ag) (.inl nz0) _) (.inl nz0) _) (.inl nz0) _,cP (cP (cP (az) (.inl nz0) _) (.inl nz0) _) (.inl nz0) _,cP (cP (cP (aA) (.inl nz0) _) (.inl nz0) _) (.inl nz0) _,cP (cP (cP (bf) (.inl nz0) _) (.inl nz0) _) (.inl nz0) _,cP (cP (cP (bh) (.inl nz0) _) (.inl nz0) _) (.inl nz0) _,cP (cP (cP (e0) (.inl nzx_e0) _) (.inl nzx_e0) _) (.inl nzx_e0) _,cP (cP (cP (e1) (.inl nzx_e1) _) (.inl nzx_e1) _) (.inl nzx_e1) _,cP (cP (cP (t10) (.inl nzx_t10) _) (.inl nzx_t10) _) (.inl nzx_t10) _,cP (cP (cP (t11) (.inl nzx_t11) _) (.inl nzx_t11) _) (.inl nzx_t11) _,cP (cP (cP (t12) (.inl nzx_t12) _) (.inl nzx_t12) _) (.inl nzx_t12) _,cP (cP (cP (t20) (.inl nzx_t20) _) (.inl nzx_t20) _) (.inl nzx_t20) _,cP (cP (cP (t21) (.inl nzx_t21) _) (.inl nzx_t21) _) (.inl nzx_t21) _,cP (cP (cP (t22) (.inl nzx_t22) _) (.inl nzx_t22) _) (.inl nzx_t22) _⟩)|exact ⟨ae,af,ag,az,aA,bf,bh,e0,e1,t10,t11,t12,t20,t21,t22⟩) (first
  | (go_at_call 119;have gb:=gb.drew;(with_reducible refine (zmE nr1 _ _ lr1 kr1 nr2 _ _ lr2 kr2 _ (i4.to gb) (i5.to gb) q Hq.out hs).mono ?_);rintro e w1 ⟨ng1,a1_,n1_,c1_,p1_,m1_,k1_,rfl,g1,be⟩;have gb:=bS gb be;obtain ⟨⟨z0,ae,af,ag,az,aA,bf,bh,ah,ak,al,aJ,aK,bm,bn⟩,⟨z1,aB,aD,aE,aG,aH,aI⟩⟩:=ap.out _ gb;obtain ⟨e0,e1,e2,e3,e4⟩:=(i1.to gb);obtain ⟨t10,t11,t12⟩:=(i2.to gb);obtain ⟨t20,t21,t22⟩:=(i3.to gb)))
 go_wp2_with fail
 refine bodyPost_ret (zt Tryz.results95 _ _ _ _ _ _ rfl (Tri.set (x0:=.bool false) (y0:=.slice none 0 0) (z0:=.slice none 0 0) ⟨aB,aD,aE,aG,aH,aI⟩ _ _ _)) rfl (zcf (bS zb gb) (by omega) ?_ g1)
 first|omega|(simp;omega)

theorem mach_div (mB g N:Nat) (u vJ:Value) (rows cols:Int) (op to:Int) (ng:Bool) (vn vd:Value) (lw1 lw2:List Nat) (R1:Nat) (nr1:Bool) (vr1 ur1:Value) (lr1 kr1:List Nat) (R2:Nat) (nr2:Bool) (vr2 ur2:Value) (lr2 kr2:List Nat) {x y:Rat}  (w:World) (hw:IsF w vn vd lw1 lw2) (hm:zM w mB g N u vJ rows cols) (hN:N<=100000) (hr1:R1<N) (tr1:zbW w g (R1*3) (.bool nr1) vr1 ur1) (qr1:IsQ w nr1 vr1 ur1 lr1 kr1 x) (hr2:R2<N) (tr2:zbW w g (R2*3) (.bool nr2) vr2 ur2) (qr2:IsQ w nr2 vr2 ur2 lr2 kr2 y) (q:Rat) (hq:x / y=q) (hs:Hid (szq q<=1000)) (h0:y≠0)  :
  Calls Tryz.prog 96 #[.pointer (some ⟨mB,0,none⟩),.agg #[.int .i64 op,.int .i64 to,.int .i64 (R1:Int),.int .i64 (R2:Int),.bool ng,vn,vd]] w (zL w q):=by
 have Hq:=Lib.hid hq
 have H00:=Lib.hid h0
 clear hq h0
 obtain ⟨a0,n0,c0,rfl,H0,hm0⟩:=hw.1.open
 obtain ⟨a1,n1,c1,rfl,H1,hm1⟩:=hw.2.open
 obtain ⟨ra1,rn1,rc1,rfl,RH1,rm1⟩:=qr1.1.open
 obtain ⟨sa1,sn1,sc1,rfl,SH1,sm1⟩:=qr1.2.1.open
 have ri1:(R1:Int)<(N:Int):=by omega
 obtain ⟨ra2,rn2,rc2,rfl,RH2,rm2⟩:=qr2.1.open
 obtain ⟨sa2,sn2,sc2,rfl,SH2,sm2⟩:=qr2.2.1.open
 have ri2:(R2:Int)<(N:Int):=by omega
 have lm:=hm.lt
 have lt1:=tr1.lt
 have lt2:=tr2.lt
 go_enter Tryz.func96,Tryz.ntmps96
 go_wp2_with fail
 obtain ⟨W0,an⟩:∃ W0,(w.alloc (.cells #[.int .i64 op,.int .i64 to,.int .i64 (R1:Int),.int .i64 (R2:Int),.bool ng,.slice a0 n0 c0,.slice a1 n1 c1] 49)).alloc (.cells #[.bool false,.slice none 0 0,.slice none 0 0] 47)=W0:=⟨_,rfl⟩
 have ap:=Lib.hid (show ∀ W',Below W0.heap.size W0 W'->(Bx7 W' w.heap.size (.int .i64 op) (.int .i64 to) (.int .i64 (R1:Int)) (.int .i64 (R2:Int)) (.bool ng) (.slice a0 n0 c0) (.slice a1 n1 c1)/\Bx3 W' (w.heap.size+1) (.bool false) (.slice none 0 0) (.slice none 0 0)) from fun W' hb => by
   refine ⟨bx7 hb ?_ ?_ ?_ ?_ ?_ ?_ ?_ ?_ ?_ ?_ ?_ ?_ ?_ ?_,bx3 hb ?_ ?_ ?_ ?_ ?_ ?_⟩
   all_goals first|assumption|(rw [<- an];simp [go_sem]))
 have zb:Below w.heap.size w W0:=by rw [<- an];exact bS (bN _ _) (bN _ _)
 rw [an]
 clear an
 have i0:=hw.to zb
 have i1:=hm.to zb
 have i2:=tr1.to zb
 have i3:=tr2.to zb
 have i4:=qr1.to zb
 have i5:=qr2.to zb
 have gb:Below W0.heap.size W0 W0:=Below.refl _ _
 obtain ⟨⟨z0,ae,af,ag,az,aA,bf,bh,ah,ak,al,aJ,aK,bm,bn⟩,⟨z1,aB,aD,aE,aG,aH,aI⟩⟩:=ap.out _ gb
 obtain ⟨e0,e1,e2,e3,e4⟩:=(i1.to gb)
 obtain ⟨t10,t11,t12⟩:=(i2.to gb)
 obtain ⟨t20,t21,t22⟩:=(i3.to gb)
 go_wp2_with fail
 have nzx_e0:mB≠w.heap.size+1:=by omega
 have nzx_e1:mB≠w.heap.size+1:=by omega
 have nzx_t10:g≠w.heap.size+1:=by omega
 have nzx_t11:g≠w.heap.size+1:=by omega
 have nzx_t12:g≠w.heap.size+1:=by omega
 have nzx_t20:g≠w.heap.size+1:=by omega
 have nzx_t21:g≠w.heap.size+1:=by omega
 have nzx_t22:g≠w.heap.size+1:=by omega
 have nz0:w.heap.size≠w.heap.size+1:=by omega
 go_region_held3 (fun W' => W'.cell? ⟨w.heap.size,0,none⟩=some (.int .i64 op)/\W'.cell? ⟨w.heap.size,1,none⟩=some (.int .i64 to)/\W'.cell? ⟨w.heap.size,2,none⟩=some (.int .i64 (R1:Int))/\W'.cell? ⟨w.heap.size,3,none⟩=some (.int .i64 (R2:Int))/\W'.cell? ⟨w.heap.size,4,none⟩=some (.bool ng)/\W'.cell? ⟨w.heap.size,5,none⟩=some (.slice a0 n0 c0)/\W'.cell? ⟨w.heap.size,6,none⟩=some (.slice a1 n1 c1)/\W'.cell? ⟨mB,0,none⟩=some (u)/\W'.cell? ⟨mB,1,none⟩=some (.slice (some ⟨g,0,none⟩) N N)/\W'.cell? ⟨g,R1*3,none⟩=some (.bool nr1)/\W'.cell? ⟨g,R1*3+1,none⟩=some (.slice ra1 rn1 rc1)/\W'.cell? ⟨g,R1*3+2,none⟩=some (.slice sa1 sn1 sc1)/\W'.cell? ⟨g,R2*3,none⟩=some (.bool nr2)/\W'.cell? ⟨g,R2*3+1,none⟩=some (.slice ra2 rn2 rc2)/\W'.cell? ⟨g,R2*3+2,none⟩=some (.slice sa2 sn2 sc2)) (first|(with_reducible exact ⟨ae,af,ag,az,aA,bf,bh,e0,e1,t10,t11,t12,t20,t21,t22⟩)|(with_reducible exact ⟨cP (cP (cP (ae) (.inl nz0) _) (.inl nz0) _) (.inl nz0) _,cP (cP (cP (af) (.inl nz0) _) (.inl nz0) _) (.inl nz0) _,cP (cP (cP (ag) (.inl nz0) _) (.inl nz0) _) (.inl nz0) _,cP (cP (cP (az) (.inl nz0) _) (.inl nz0) _) (.inl nz0) _,cP (cP (cP (aA) (.inl nz0) _) (.inl nz0) _) (.inl nz0) _,cP (cP (cP (bf) (.inl nz0) _) (.inl nz0) _) (.inl nz0) _,cP (cP (cP (bh) (.inl nz0) _) (.inl nz0) _) (.inl nz0) _,cP (cP (cP (e0) (.inl nzx_e0) _) (.inl nzx_e0) _) (.inl nzx_e0) _,cP (cP (cP (e1) (.inl nzx_e1) _) (.inl nzx_e1) _) (.inl nzx_e1) _,cP (cP (cP (t10) (.inl nzx_t10) _) (.inl nzx_t10) _) (.inl nzx_t10) _,cP (cP (cP (t11) (.inl nzx_t11) _) (.inl nzx_t11) _) (.inl nzx_t11) _,cP (cP (cP (t12) (.inl nzx_t12) _) (.inl nzx_t12) _) (.inl nzx_t12) _,cP (cP (cP (t20) (.inl nzx_t20) _) (.inl nzx_t20) _) (.inl nzx_t20) _,cP (cP (cP (t21) (.inl nzx_t21) _) (.inl nzx_t21) _) (.inl nzx_t21) _,cP (cP (cP (t22) (.inl nzx_t22) _) (.inl nzx_t22) _) (.inl nzx_t22) _⟩)|exact ⟨ae,af,ag,az,aA,bf,bh,e0,e1,t10,t11,t12,t20,t21,t22⟩) (first
  | (go_at_call 120;have gb:=gb.drew;(with_reducible refine (zmD nr1 _ _ lr1 kr1 nr2 _ _ lr2 kr2 _ (i4.to gb) (i5.to gb) H00.out q Hq.out hs).mono ?_);rintro e w1 ⟨ng1,a1_,n1_,c1_,p1_,m1_,k1_,rfl,g1,be⟩;have gb:=bS gb be;obtain ⟨⟨z0,ae,af,ag,az,aA,bf,bh,ah,ak,al,aJ,aK,bm,bn⟩,⟨z1,aB,aD,aE,aG,aH,aI⟩⟩:=ap.out _ gb;obtain ⟨e0,e1,e2,e3,e4⟩:=(i1.to gb);obtain ⟨t10,t11,t12⟩:=(i2.to gb);obtain ⟨t20,t21,t22⟩:=(i3.to gb)))
 go_wp2_with fail
 refine bodyPost_ret (zt Tryz.results96 _ _ _ _ _ _ rfl (Tri.set (x0:=.bool false) (y0:=.slice none 0 0) (z0:=.slice none 0 0) ⟨aB,aD,aE,aG,aH,aI⟩ _ _ _)) rfl (zcf (bS zb gb) (by omega) ?_ g1)
 first|omega|(simp;omega)

theorem zjz (mB g N:Nat) (u vJ:Value) (rows cols:Int) (op to:Int) (ng:Bool) (vn vd:Value) (lw1 lw2:List Nat) (R1:Nat) (nr1:Bool) (vr1 ur1:Value) (lr1 kr1:List Nat) (R2:Nat) (nr2:Bool) (vr2 ur2:Value) (lr2 kr2:List Nat) {x y:Rat}  (w:World) (hw:IsF w vn vd lw1 lw2) (hm:zM w mB g N u vJ rows cols) (hN:N<=100000) (hr1:R1<N) (tr1:zbW w g (R1*3) (.bool nr1) vr1 ur1) (qr1:IsQ w nr1 vr1 ur1 lr1 kr1 x) (hr2:R2<N) (tr2:zbW w g (R2*3) (.bool nr2) vr2 ur2) (qr2:IsQ w nr2 vr2 ur2 lr2 kr2 y) (h0:y=0)  :
  Calls Tryz.prog 96 #[.pointer (some ⟨mB,0,none⟩),.agg #[.int .i64 op,.int .i64 to,.int .i64 (R1:Int),.int .i64 (R2:Int),.bool ng,vn,vd]] w (fun e w' => e=.returned (.tuple #[aggR false (.slice none 0 0) (.slice none 0 0),.int .i64 3])/\Below w.heap.size w w'):=by
 have H00:=Lib.hid h0
 clear h0
 obtain ⟨a0,n0,c0,rfl,H0,hm0⟩:=hw.1.open
 obtain ⟨a1,n1,c1,rfl,H1,hm1⟩:=hw.2.open
 obtain ⟨ra1,rn1,rc1,rfl,RH1,rm1⟩:=qr1.1.open
 obtain ⟨sa1,sn1,sc1,rfl,SH1,sm1⟩:=qr1.2.1.open
 have ri1:(R1:Int)<(N:Int):=by omega
 obtain ⟨ra2,rn2,rc2,rfl,RH2,rm2⟩:=qr2.1.open
 obtain ⟨sa2,sn2,sc2,rfl,SH2,sm2⟩:=qr2.2.1.open
 have ri2:(R2:Int)<(N:Int):=by omega
 have lm:=hm.lt
 have lt1:=tr1.lt
 have lt2:=tr2.lt
 go_enter Tryz.func96,Tryz.ntmps96
 go_wp2_with fail
 obtain ⟨W0,an⟩:∃ W0,(w.alloc (.cells #[.int .i64 op,.int .i64 to,.int .i64 (R1:Int),.int .i64 (R2:Int),.bool ng,.slice a0 n0 c0,.slice a1 n1 c1] 49)).alloc (.cells #[.bool false,.slice none 0 0,.slice none 0 0] 47)=W0:=⟨_,rfl⟩
 have ap:=Lib.hid (show ∀ W',Below W0.heap.size W0 W'->(Bx7 W' w.heap.size (.int .i64 op) (.int .i64 to) (.int .i64 (R1:Int)) (.int .i64 (R2:Int)) (.bool ng) (.slice a0 n0 c0) (.slice a1 n1 c1)/\Bx3 W' (w.heap.size+1) (.bool false) (.slice none 0 0) (.slice none 0 0)) from fun W' hb => by
   refine ⟨bx7 hb ?_ ?_ ?_ ?_ ?_ ?_ ?_ ?_ ?_ ?_ ?_ ?_ ?_ ?_,bx3 hb ?_ ?_ ?_ ?_ ?_ ?_⟩
   all_goals first|assumption|(rw [<- an];simp [go_sem]))
 have zb:Below w.heap.size w W0:=by rw [<- an];exact bS (bN _ _) (bN _ _)
 rw [an]
 clear an
 have i0:=hw.to zb
 have i1:=hm.to zb
 have i2:=tr1.to zb
 have i3:=tr2.to zb
 have i4:=qr1.to zb
 have i5:=qr2.to zb
 have gb:Below W0.heap.size W0 W0:=Below.refl _ _
 obtain ⟨⟨z0,ae,af,ag,az,aA,bf,bh,ah,ak,al,aJ,aK,bm,bn⟩,⟨z1,aB,aD,aE,aG,aH,aI⟩⟩:=ap.out _ gb
 obtain ⟨e0,e1,e2,e3,e4⟩:=(i1.to gb)
 obtain ⟨t10,t11,t12⟩:=(i2.to gb)
 obtain ⟨t20,t21,t22⟩:=(i3.to gb)
 go_wp2_with fail
 have nzx_e0:mB≠w.heap.size+1:=by omega
 have nzx_e1:mB≠w.heap.size+1:=by omega
 have nzx_t10:g≠w.heap.size+1:=by omega
 have nzx_t11:g≠w.heap.size+1:=by omega
 have nzx_t12:g≠w.heap.size+1:=by omega
 have nzx_t20:g≠w.heap.size+1:=by omega
 have nzx_t21:g≠w.heap.size+1:=by omega
 have nzx_t22:g≠w.heap.size+1:=by omega
 have nz0:w.heap.size≠w.heap.size+1:=by omega
 go_region_held3 (fun W' => W'.cell? ⟨w.heap.size,0,none⟩=some (.int .i64 op)/\W'.cell? ⟨w.heap.size,1,none⟩=some (.int .i64 to)/\W'.cell? ⟨w.heap.size,2,none⟩=some (.int .i64 (R1:Int))/\W'.cell? ⟨w.heap.size,3,none⟩=some (.int .i64 (R2:Int))/\W'.cell? ⟨w.heap.size,4,none⟩=some (.bool ng)/\W'.cell? ⟨w.heap.size,5,none⟩=some (.slice a0 n0 c0)/\W'.cell? ⟨w.heap.size,6,none⟩=some (.slice a1 n1 c1)/\W'.cell? ⟨mB,0,none⟩=some (u)/\W'.cell? ⟨mB,1,none⟩=some (.slice (some ⟨g,0,none⟩) N N)/\W'.cell? ⟨g,R1*3,none⟩=some (.bool nr1)/\W'.cell? ⟨g,R1*3+1,none⟩=some (.slice ra1 rn1 rc1)/\W'.cell? ⟨g,R1*3+2,none⟩=some (.slice sa1 sn1 sc1)/\W'.cell? ⟨g,R2*3,none⟩=some (.bool nr2)/\W'.cell? ⟨g,R2*3+1,none⟩=some (.slice ra2 rn2 rc2)/\W'.cell? ⟨g,R2*3+2,none⟩=some (.slice sa2 sn2 sc2)) (first|(with_reducible exact ⟨ae,af,ag,az,aA,bf,bh,e0,e1,t10,t11,t12,t20,t21,t22⟩)|(with_reducible exact ⟨cP (cP (cP (ae) (.inl nz0) _) (.inl nz0) _) (.inl nz0) _,cP (cP (cP (af) (.inl nz0) _) (.inl nz0) _) (.inl nz0) _,cP (cP (cP (ag) (.inl nz0) _) (.inl nz0) _) (.inl nz0) _,cP (cP (cP (az) (.inl nz0) _) (.inl nz0) _) (.inl nz0) _,cP (cP (cP (aA) (.inl nz0) _) (.inl nz0) _) (.inl nz0) _,cP (cP (cP (bf) (.inl nz0) _) (.inl nz0) _) (.inl nz0) _,cP (cP (cP (bh) (.inl nz0) _) (.inl nz0) _) (.inl nz0) _,cP (cP (cP (e0) (.inl nzx_e0) _) (.inl nzx_e0) _) (.inl nzx_e0) _,cP (cP (cP (e1) (.inl nzx_e1) _) (.inl nzx_e1) _) (.inl nzx_e1) _,cP (cP (cP (t10) (.inl nzx_t10) _) (.inl nzx_t10) _) (.inl nzx_t10) _,cP (cP (cP (t11) (.inl nzx_t11) _) (.inl nzx_t11) _) (.inl nzx_t11) _,cP (cP (cP (t12) (.inl nzx_t12) _) (.inl nzx_t12) _) (.inl nzx_t12) _,cP (cP (cP (t20) (.inl nzx_t20) _) (.inl nzx_t20) _) (.inl nzx_t20) _,cP (cP (cP (t21) (.inl nzx_t21) _) (.inl nzx_t21) _) (.inl nzx_t21) _,cP (cP (cP (t22) (.inl nzx_t22) _) (.inl nzx_t22) _) (.inl nzx_t22) _⟩)|exact ⟨ae,af,ag,az,aA,bf,bh,e0,e1,t10,t11,t12,t20,t21,t22⟩) (first
  | (go_at_call 120;have gb:=gb.drew;(with_reducible refine (ziA nr1 _ _ lr1 kr1 nr2 _ _ lr2 kr2 _ (i4.to gb) (i5.to gb) H00.out).mono ?_);rintro e w1 ⟨rfl,be⟩;have gb:=bS gb be;obtain ⟨⟨z0,ae,af,ag,az,aA,bf,bh,ah,ak,al,aJ,aK,bm,bn⟩,⟨z1,aB,aD,aE,aG,aH,aI⟩⟩:=ap.out _ gb;obtain ⟨e0,e1,e2,e3,e4⟩:=(i1.to gb);obtain ⟨t10,t11,t12⟩:=(i2.to gb);obtain ⟨t20,t21,t22⟩:=(i3.to gb)))
 go_wp2_with fail
 exact bodyPost_ret (zt Tryz.results96 _ _ _ _ _ _ rfl (Tri.set (x0:=.bool false) (y0:=.slice none 0 0) (z0:=.slice none 0 0) ⟨aB,aD,aE,aG,aH,aI⟩ _ _ _)) rfl ⟨rfl,bT (bS zb gb) (by omega) _ _ _⟩

theorem mach_neg (mB g N:Nat) (u vJ:Value) (rows cols:Int) (op to xb:Int) (ng:Bool) (vn vd:Value) (lw1 lw2:List Nat) (R1:Nat) (nr1:Bool) (vr1 ur1:Value) (lr1 kr1:List Nat) {x:Rat}  (w:World) (hw:IsF w vn vd lw1 lw2) (hm:zM w mB g N u vJ rows cols) (hN:N<=100000) (hr1:R1<N) (tr1:zbW w g (R1*3) (.bool nr1) vr1 ur1) (qr1:IsQ w nr1 vr1 ur1 lr1 kr1 x) (q:Rat) (hq:-x=q) (hs:Hid (szq q<=1000)) :
  Calls Tryz.prog 97 #[.pointer (some ⟨mB,0,none⟩),.agg #[.int .i64 op,.int .i64 to,.int .i64 (R1:Int),.int .i64 xb,.bool ng,vn,vd]] w (zL w q):=by
 have Hq:=Lib.hid hq
 clear hq
 obtain ⟨a0,n0,c0,rfl,H0,hm0⟩:=hw.1.open
 obtain ⟨a1,n1,c1,rfl,H1,hm1⟩:=hw.2.open
 obtain ⟨ra1,rn1,rc1,rfl,RH1,rm1⟩:=qr1.1.open
 obtain ⟨sa1,sn1,sc1,rfl,SH1,sm1⟩:=qr1.2.1.open
 have ri1:(R1:Int)<(N:Int):=by omega
 have lm:=hm.lt
 have lt1:=tr1.lt
 go_enter Tryz.func97,Tryz.ntmps97
 go_wp2_with fail
 obtain ⟨W0,an⟩:∃ W0,(w.alloc (.cells #[.int .i64 op,.int .i64 to,.int .i64 (R1:Int),.int .i64 xb,.bool ng,.slice a0 n0 c0,.slice a1 n1 c1] 49)).alloc (.cells #[.bool false,.slice none 0 0,.slice none 0 0] 47)=W0:=⟨_,rfl⟩
 have ap:=Lib.hid (show ∀ W',Below W0.heap.size W0 W'->(Bx7 W' w.heap.size (.int .i64 op) (.int .i64 to) (.int .i64 (R1:Int)) (.int .i64 xb) (.bool ng) (.slice a0 n0 c0) (.slice a1 n1 c1)/\Bx3 W' (w.heap.size+1) (.bool false) (.slice none 0 0) (.slice none 0 0)) from fun W' hb => by
   refine ⟨bx7 hb ?_ ?_ ?_ ?_ ?_ ?_ ?_ ?_ ?_ ?_ ?_ ?_ ?_ ?_,bx3 hb ?_ ?_ ?_ ?_ ?_ ?_⟩
   all_goals first|assumption|(rw [<- an];simp [go_sem]))
 have zb:Below w.heap.size w W0:=by rw [<- an];exact bS (bN _ _) (bN _ _)
 rw [an]
 clear an
 have i0:=hw.to zb
 have i1:=hm.to zb
 have i2:=tr1.to zb
 have i3:=qr1.to zb
 have gb:Below W0.heap.size W0 W0:=Below.refl _ _
 obtain ⟨⟨z0,ae,af,ag,az,aA,bf,bh,ah,ak,al,aJ,aK,bm,bn⟩,⟨z1,aB,aD,aE,aG,aH,aI⟩⟩:=ap.out _ gb
 obtain ⟨e0,e1,e2,e3,e4⟩:=(i1.to gb)
 obtain ⟨t10,t11,t12⟩:=(i2.to gb)
 go_wp2_with fail
 have nzx_e0:mB≠w.heap.size+1:=by omega
 have nzx_e1:mB≠w.heap.size+1:=by omega
 have nzx_t10:g≠w.heap.size+1:=by omega
 have nzx_t11:g≠w.heap.size+1:=by omega
 have nzx_t12:g≠w.heap.size+1:=by omega
 have nz0:w.heap.size≠w.heap.size+1:=by omega
 go_region_held3 (fun W' => W'.cell? ⟨w.heap.size,0,none⟩=some (.int .i64 op)/\W'.cell? ⟨w.heap.size,1,none⟩=some (.int .i64 to)/\W'.cell? ⟨w.heap.size,2,none⟩=some (.int .i64 (R1:Int))/\W'.cell? ⟨w.heap.size,3,none⟩=some (.int .i64 xb)/\W'.cell? ⟨w.heap.size,4,none⟩=some (.bool ng)/\W'.cell? ⟨w.heap.size,5,none⟩=some (.slice a0 n0 c0)/\W'.cell? ⟨w.heap.size,6,none⟩=some (.slice a1 n1 c1)/\W'.cell? ⟨mB,0,none⟩=some (u)/\W'.cell? ⟨mB,1,none⟩=some (.slice (some ⟨g,0,none⟩) N N)/\W'.cell? ⟨g,R1*3,none⟩=some (.bool nr1)/\W'.cell? ⟨g,R1*3+1,none⟩=some (.slice ra1 rn1 rc1)/\W'.cell? ⟨g,R1*3+2,none⟩=some (.slice sa1 sn1 sc1)) (first|(with_reducible exact ⟨ae,af,ag,az,aA,bf,bh,e0,e1,t10,t11,t12⟩)|(with_reducible exact ⟨cP (cP (cP (ae) (.inl nz0) _) (.inl nz0) _) (.inl nz0) _,cP (cP (cP (af) (.inl nz0) _) (.inl nz0) _) (.inl nz0) _,cP (cP (cP (ag) (.inl nz0) _) (.inl nz0) _) (.inl nz0) _,cP (cP (cP (az) (.inl nz0) _) (.inl nz0) _) (.inl nz0) _,cP (cP (cP (aA) (.inl nz0) _) (.inl nz0) _) (.inl nz0) _,cP (cP (cP (bf) (.inl nz0) _) (.inl nz0) _) (.inl nz0) _,cP (cP (cP (bh) (.inl nz0) _) (.inl nz0) _) (.inl nz0) _,cP (cP (cP (e0) (.inl nzx_e0) _) (.inl nzx_e0) _) (.inl nzx_e0) _,cP (cP (cP (e1) (.inl nzx_e1) _) (.inl nzx_e1) _) (.inl nzx_e1) _,cP (cP (cP (t10) (.inl nzx_t10) _) (.inl nzx_t10) _) (.inl nzx_t10) _,cP (cP (cP (t11) (.inl nzx_t11) _) (.inl nzx_t11) _) (.inl nzx_t11) _,cP (cP (cP (t12) (.inl nzx_t12) _) (.inl nzx_t12) _) (.inl nzx_t12) _⟩)|exact ⟨ae,af,ag,az,aA,bf,bh,e0,e1,t10,t11,t12⟩) (first
  | (go_at_call 121;have gb:=gb.drew;(with_reducible refine (zhM nr1 _ _ lr1 kr1 _ (i3.to gb) q Hq.out hs).mono ?_);rintro e w1 ⟨ng1,a1_,n1_,c1_,p1_,m1_,k1_,rfl,g1,be⟩;have gb:=bS gb be;obtain ⟨⟨z0,ae,af,ag,az,aA,bf,bh,ah,ak,al,aJ,aK,bm,bn⟩,⟨z1,aB,aD,aE,aG,aH,aI⟩⟩:=ap.out _ gb;obtain ⟨e0,e1,e2,e3,e4⟩:=(i1.to gb);obtain ⟨t10,t11,t12⟩:=(i2.to gb)))
 go_wp2_with fail
 refine bodyPost_ret (zt Tryz.results97 _ _ _ _ _ _ rfl (Tri.set (x0:=.bool false) (y0:=.slice none 0 0) (z0:=.slice none 0 0) ⟨aB,aD,aE,aG,aH,aI⟩ _ _ _)) rfl (zcf (bS zb gb) (by omega) ?_ g1)
 first|omega|(simp;omega)

theorem zkC (p0:Value) (op to xa xb:Int) (ng:Bool) (vn vd:Value) (lw1 lw2:List Nat) {x:Rat}  (w:World) (hw:IsQ w ng vn vd lw1 lw2 x) (hs:Hid (szq x<=1000)) :
  Calls Tryz.prog 92 #[p0,.agg #[.int .i64 op,.int .i64 to,.int .i64 xa,.int .i64 xb,.bool ng,vn,vd]] w (zL w x):=by
 obtain ⟨a0,n0,c0,rfl,H0,hm0⟩:=hw.1.open
 obtain ⟨a1,n1,c1,rfl,H1,hm1⟩:=hw.2.1.open
 go_enter Tryz.func92,Tryz.ntmps92
 go_wp2_with fail
 obtain ⟨W0,an⟩:∃ W0,(w.alloc (.cells #[.int .i64 op,.int .i64 to,.int .i64 xa,.int .i64 xb,.bool ng,.slice a0 n0 c0,.slice a1 n1 c1] 49)).alloc (.cells #[.bool false,.slice none 0 0,.slice none 0 0] 47)=W0:=⟨_,rfl⟩
 have ap:=Lib.hid (show ∀ W',Below W0.heap.size W0 W'->(Bx7 W' w.heap.size (.int .i64 op) (.int .i64 to) (.int .i64 xa) (.int .i64 xb) (.bool ng) (.slice a0 n0 c0) (.slice a1 n1 c1)/\Bx3 W' (w.heap.size+1) (.bool false) (.slice none 0 0) (.slice none 0 0)) from fun W' hb => by
   refine ⟨bx7 hb ?_ ?_ ?_ ?_ ?_ ?_ ?_ ?_ ?_ ?_ ?_ ?_ ?_ ?_,bx3 hb ?_ ?_ ?_ ?_ ?_ ?_⟩
   all_goals first|assumption|(rw [<- an];simp [go_sem]))
 have zb:Below w.heap.size w W0:=by rw [<- an];exact bS (bN _ _) (bN _ _)
 rw [an]
 clear an
 have i0:=hw.to zb
 have gb:Below W0.heap.size W0 W0:=Below.refl _ _
 obtain ⟨⟨z0,ae,af,ag,az,aA,bf,bh,ah,ak,al,aJ,aK,bm,bn⟩,⟨z1,aB,aD,aE,aG,aH,aI⟩⟩:=ap.out _ gb
 go_wp2_with fail
 refine (zdO ng _ _ lw1 lw2 _ (i0.to gb) x rfl hs).mono ?_
 clear ae ah af ak ag al az aJ aA aK bf bm bh bn aB aG aD aH aE aI
 rintro e w1 ⟨ng1,a1_,n1_,c1_,p1_,m1_,k1_,rfl,g1,be⟩
 replace gb:=bS gb be
 obtain ⟨⟨z0,ae,af,ag,az,aA,bf,bh,ah,ak,al,aJ,aK,bm,bn⟩,⟨z1,aB,aD,aE,aG,aH,aI⟩⟩:=ap.out _ gb
 go_wp2_with fail
 refine bodyPost_ret (zt Tryz.results92 _ _ _ _ _ _ rfl (Tri.set (x0:=.bool false) (y0:=.slice none 0 0) (z0:=.slice none 0 0) ⟨aB,aD,aE,aG,aH,aI⟩ _ _ _)) rfl (zcf (bS zb gb) (by omega) ?_ g1)
 first|omega|(simp;omega)

theorem zkD (mB g N:Nat) (vJ:Value) (rows cols:Int) (b off n cap A:Nat) (op to xb:Int) (ng:Bool) (vn vd:Value) (lw1 lw2:List Nat) (nr1:Bool) (vr1 ur1:Value) (lr1 kr1:List Nat) {x:Rat}  (w:World) (hw:IsF w vn vd lw1 lw2) (hm:zM w mB g N (.slice (some ⟨b,off,none⟩) n cap) vJ rows cols) (hn:n<=maxLen) (hA:A<n) (tr1:zbW w b (off+A*3) (.bool nr1) vr1 ur1) (qr1:IsQ w nr1 vr1 ur1 lr1 kr1 x) (hs:Hid (szq x<=1000)) :
  Calls Tryz.prog 91 #[.pointer (some ⟨mB,0,none⟩),.agg #[.int .i64 op,.int .i64 to,.int .i64 (A:Int),.int .i64 xb,.bool ng,vn,vd]] w (zL w x):=by
 unfold maxLen at hn
 obtain ⟨a0,n0,c0,rfl,H0,hm0⟩:=hw.1.open
 obtain ⟨a1,n1,c1,rfl,H1,hm1⟩:=hw.2.open
 obtain ⟨ra1,rn1,rc1,rfl,RH1,rm1⟩:=qr1.1.open
 obtain ⟨sa1,sn1,sc1,rfl,SH1,sm1⟩:=qr1.2.1.open
 have hi1:(A:Int)<(n:Int):=by omega
 have lm:=hm.lt
 have lt1:=tr1.lt
 go_enter Tryz.func91,Tryz.ntmps91
 go_wp2_with fail
 obtain ⟨W0,an⟩:∃ W0,(w.alloc (.cells #[.int .i64 op,.int .i64 to,.int .i64 (A:Int),.int .i64 xb,.bool ng,.slice a0 n0 c0,.slice a1 n1 c1] 49)).alloc (.cells #[.bool false,.slice none 0 0,.slice none 0 0] 47)=W0:=⟨_,rfl⟩
 have ap:=Lib.hid (show ∀ W',Below W0.heap.size W0 W'->(Bx7 W' w.heap.size (.int .i64 op) (.int .i64 to) (.int .i64 (A:Int)) (.int .i64 xb) (.bool ng) (.slice a0 n0 c0) (.slice a1 n1 c1)/\Bx3 W' (w.heap.size+1) (.bool false) (.slice none 0 0) (.slice none 0 0)) from fun W' hb => by
   refine ⟨bx7 hb ?_ ?_ ?_ ?_ ?_ ?_ ?_ ?_ ?_ ?_ ?_ ?_ ?_ ?_,bx3 hb ?_ ?_ ?_ ?_ ?_ ?_⟩
   all_goals first|assumption|(rw [<- an];simp [go_sem]))
 have zb:Below w.heap.size w W0:=by rw [<- an];exact bS (bN _ _) (bN _ _)
 rw [an]
 clear an
 have i0:=hw.to zb
 have i1:=hm.to zb
 have i2:=tr1.to zb
 have i3:=qr1.to zb
 have gb:Below W0.heap.size W0 W0:=Below.refl _ _
 obtain ⟨⟨z0,ae,af,ag,az,aA,bf,bh,ah,ak,al,aJ,aK,bm,bn⟩,⟨z1,aB,aD,aE,aG,aH,aI⟩⟩:=ap.out _ gb
 obtain ⟨e0,e1,e2,e3,e4⟩:=(i1.to gb)
 obtain ⟨t10,t11,t12⟩:=(i2.to gb)
 go_wp2_with fail
 have nzx_e0:mB≠w.heap.size+1:=by omega
 have nzx_e1:mB≠w.heap.size+1:=by omega
 have nzx_t10:b≠w.heap.size+1:=by omega
 have nzx_t11:b≠w.heap.size+1:=by omega
 have nzx_t12:b≠w.heap.size+1:=by omega
 have nz0:w.heap.size≠w.heap.size+1:=by omega
 go_region_held3 (fun W' => W'.cell? ⟨w.heap.size,0,none⟩=some (.int .i64 op)/\W'.cell? ⟨w.heap.size,1,none⟩=some (.int .i64 to)/\W'.cell? ⟨w.heap.size,2,none⟩=some (.int .i64 (A:Int))/\W'.cell? ⟨w.heap.size,3,none⟩=some (.int .i64 xb)/\W'.cell? ⟨w.heap.size,4,none⟩=some (.bool ng)/\W'.cell? ⟨w.heap.size,5,none⟩=some (.slice a0 n0 c0)/\W'.cell? ⟨w.heap.size,6,none⟩=some (.slice a1 n1 c1)/\W'.cell? ⟨mB,0,none⟩=some (.slice (some ⟨b,off,none⟩) n cap)/\W'.cell? ⟨mB,1,none⟩=some (.slice (some ⟨g,0,none⟩) N N)/\W'.cell? ⟨b,off+A*3,none⟩=some (.bool nr1)/\W'.cell? ⟨b,off+A*3+1,none⟩=some (.slice ra1 rn1 rc1)/\W'.cell? ⟨b,off+A*3+2,none⟩=some (.slice sa1 sn1 sc1)) (first|(with_reducible exact ⟨ae,af,ag,az,aA,bf,bh,e0,e1,t10,t11,t12⟩)|(with_reducible exact ⟨cP (cP (cP (ae) (.inl nz0) _) (.inl nz0) _) (.inl nz0) _,cP (cP (cP (af) (.inl nz0) _) (.inl nz0) _) (.inl nz0) _,cP (cP (cP (ag) (.inl nz0) _) (.inl nz0) _) (.inl nz0) _,cP (cP (cP (az) (.inl nz0) _) (.inl nz0) _) (.inl nz0) _,cP (cP (cP (aA) (.inl nz0) _) (.inl nz0) _) (.inl nz0) _,cP (cP (cP (bf) (.inl nz0) _) (.inl nz0) _) (.inl nz0) _,cP (cP (cP (bh) (.inl nz0) _) (.inl nz0) _) (.inl nz0) _,cP (cP (cP (e0) (.inl nzx_e0) _) (.inl nzx_e0) _) (.inl nzx_e0) _,cP (cP (cP (e1) (.inl nzx_e1) _) (.inl nzx_e1) _) (.inl nzx_e1) _,cP (cP (cP (t10) (.inl nzx_t10) _) (.inl nzx_t10) _) (.inl nzx_t10) _,cP (cP (cP (t11) (.inl nzx_t11) _) (.inl nzx_t11) _) (.inl nzx_t11) _,cP (cP (cP (t12) (.inl nzx_t12) _) (.inl nzx_t12) _) (.inl nzx_t12) _⟩)|exact ⟨ae,af,ag,az,aA,bf,bh,e0,e1,t10,t11,t12⟩) (first
  | (go_at_call 64;have gb:=gb.drew;(with_reducible refine (zdO nr1 _ _ lr1 kr1 _ (i3.to gb) x rfl hs).mono ?_);rintro e w1 ⟨ng1,a1_,n1_,c1_,p1_,m1_,k1_,rfl,g1,be⟩;have gb:=bS gb be;obtain ⟨⟨z0,ae,af,ag,az,aA,bf,bh,ah,ak,al,aJ,aK,bm,bn⟩,⟨z1,aB,aD,aE,aG,aH,aI⟩⟩:=ap.out _ gb;obtain ⟨e0,e1,e2,e3,e4⟩:=(i1.to gb);obtain ⟨t10,t11,t12⟩:=(i2.to gb)))
 go_wp2_with fail
 refine bodyPost_ret (zt Tryz.results91 _ _ _ _ _ _ rfl (Tri.set (x0:=.bool false) (y0:=.slice none 0 0) (z0:=.slice none 0 0) ⟨aB,aD,aE,aG,aH,aI⟩ _ _ _)) rfl (zcf (bS zb gb) (by omega) ?_ g1)
 first|omega|(simp;omega)

theorem zar (b:Bool) (v u:Value) (ln ld:List Nat)  (w:World) (h:IsF w v u ln ld) (o:Int) (ho:((max ln.length ld.length:Nat):Int)=o)  :
  Calls Tryz.prog 66 #[aggR b v u] w (fun e w' => e=.returned (.int .i64 o)/\Below w.heap.size w w'):=by
 have Ho:=Lib.hid ho
 clear ho
 obtain ⟨a0,n0,c0,rfl,H0,hm0⟩:=h.1.open
 obtain ⟨a1,n1,c1,rfl,H1,hm1⟩:=h.2.open
 obtain ⟨m,hm⟩:∃ m:Nat,max n0 n1=m:=⟨_,rfl⟩
 have HM:max (n0:Int) (n1:Int)=(m:Int):=by omega
 have ho:(m:Int)=o:=by rw [<- Ho.out,H0.out,H1.out,hm]
 clear Ho hm
 subst ho
 go_enter Tryz.func66,Tryz.ntmps66
 go_wp2_with fail
 obtain ⟨W0,an⟩:∃ W0,w.alloc (.cells #[.bool b,.slice a0 n0 c0,.slice a1 n1 c1] 47)=W0:=⟨_,rfl⟩
 have ap:=Lib.hid (show ∀ W',Below W0.heap.size W0 W'->(Bx3 W' w.heap.size (.bool b) (.slice a0 n0 c0) (.slice a1 n1 c1)) from fun W' hb => by
   apply bx3 hb
   all_goals first|assumption|(rw [<- an];simp [go_sem]))
 have zb:Below w.heap.size w W0:=by rw [<- an];exact bN _ _
 rw [an]
 clear an
 have i0:=h.to zb
 have gb:Below W0.heap.size W0 W0:=Below.refl _ _
 obtain ⟨z0,ae,af,ag,ah,ak,al⟩:=ap.out _ gb
 go_wp2_with fail
 go_ret
 exact ⟨rfl,bS zb gb⟩

end Go.Proofs.YtkjcdnlpjldhaaaGreat

