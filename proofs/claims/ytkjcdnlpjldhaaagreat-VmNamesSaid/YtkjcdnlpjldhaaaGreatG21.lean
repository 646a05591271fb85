/-
  The texts Vm3, VmMath2, VmLaw, VmLaw2, Vm5, Vm7, Ref25, VmRow2, Ref25h, Vm4, Vm6, Made, InsRow, Small, Point, merged.
-/
import Derived.Test.YtkjcdnlpjldhaaaGreatG20
import Derived.Test.YtkjcdnlpjldhaaaGreatG10
import Derived.Deep.RegionHeld3
import Derived.Test.YtkjcdnlpjldhaaaGreatG18
import Derived.Test.YtkjcdnlpjldhaaaGreatG17
import Derived.Test.YtkjcdnlpjldhaaaGreatG15
import Derived.Deep.AppendLies
set_option linter.unusedVariables false
set_option linter.unusedSimpArgs false
set_option maxRecDepth 100000
set_option maxHeartbeats 400000000
namespace Go.Proofs.YtkjcdnlpjldhaaaGreat
open Go.RowKit Tw
attribute [local go_sem ↓] Go.wp_at_zero Go.wp_at_succ

theorem zhY (c:Cd) (n:Nat) (h:c.all.length=n):zbo c=(!(decide (c.ins<1)) && !(decide (40<c.ins)) && !(decide (c.rows<1)) && !(decide (40<c.rows)) && !(c.cols != c.ins) && !(decide (c.regs<0)) && !(decide (100000<c.regs)) && !(decide ((100000:Int)<(n:Int)))):=by
 subst h
 unfold zbo
 rw [Bool.eq_iff_iff]
 simp only [Bool.and_eq_true,Bool.not_eq_true',decide_eq_false_iff_not,decide_eq_true_eq,bne_eq_false_iff_eq]
 omega

theorem zdt {c:Cd} {L:List Int} {l:List Ins} {k:Nat} (h:k<l.length):zA c L (l.drop k)=(zq c L l[k] && zA c (more L l[k]) (l.drop (k+1))):=by
 rw [List.drop_eq_getElem_cons h];rfl

theorem zkp {N T:Nat} {L:List Int} (i:Nat):(if i=T then Value.bool true else Value.bool (decide ((i:Int) ∈ L)))=.bool (decide ((i:Int) ∈ L++[(T:Int)])):=by
 by_cases h:i=T
 ·rw [if_pos h,h];simp
 ·rw [if_neg h]
  congr 1
  have:¬ (i:Int)=(T:Int):=by omega
  simp [this]

theorem zcN {c:Cd} {L:List Int} {x:Ins} (h:zq c L x=true) (h10:x.op≠10):0<=x.to/\x.to<c.regs:=by
 unfold zq zE at h
 rw [if_neg h10] at h
 simp only [Bool.and_eq_true,decide_eq_true_eq] at h
 exact h.2

theorem zhJ (c:Cd) (v:Value) (w:World) (hc:IsC w c v) (hs:zac 1000 c.all) (h0:zbo c=false) :
  Calls Tryz.prog 14 #[aggC c v] w (fun e w' => e=.returned (.bool false)/\Below w.heap.size w w'):=by
 clear hs
 obtain ⟨a0,n0,c0,rfl,H0,hm0⟩:=hc.1.open
 obtain ⟨e0,te0⟩:∃ b,decide (c.ins<1)=b:=⟨_,rfl⟩
 obtain ⟨e1,te1⟩:∃ b,decide (40<c.ins)=b:=⟨_,rfl⟩
 obtain ⟨e2,te2⟩:∃ b,decide (c.rows<1)=b:=⟨_,rfl⟩
 obtain ⟨e3,te3⟩:∃ b,decide (40<c.rows)=b:=⟨_,rfl⟩
 obtain ⟨e4,te4⟩:∃ b,(c.cols != c.ins)=b:=⟨_,rfl⟩
 obtain ⟨e5,te5⟩:∃ b,decide (c.regs<0)=b:=⟨_,rfl⟩
 obtain ⟨e6,te6⟩:∃ b,decide (100000<c.regs)=b:=⟨_,rfl⟩
 obtain ⟨e7,te7⟩:∃ b,decide ((100000:Int)<(n0:Int))=b:=⟨_,rfl⟩
 rw [zhY c n0 H0.out,te0,te1,te2,te3,te4,te5,te6,te7] at h0
 cases e0
 case true =>
  clear h0
  go_enter Tryz.func14,Tryz.ntmps14
  go_wp2_with fail
  obtain ⟨W0,aG⟩:∃ W0,w.alloc (.cells #[.int .i64 c.ins,.int .i64 c.rows,.int .i64 c.cols,.int .i64 c.regs,.slice a0 n0 c0] 24)=W0:=⟨_,rfl⟩
  have am:=Lib.hid (show ∀ W',Below W0.heap.size W0 W'->(Bx5 W' w.heap.size (.int .i64 c.ins) (.int .i64 c.rows) (.int .i64 c.cols) (.int .i64 c.regs) (.slice a0 n0 c0)) from fun W' hb => by
    apply bx5 hb
    all_goals first|assumption|(rw [<- aG];simp [go_sem]))
  have zb:Below w.heap.size w W0:=by rw [<- aG];exact bN _ _
  rw [aG]
  clear aG
  have i0:=hc.to zb
  have gb:Below W0.heap.size W0 W0:=Below.refl _ _
  obtain ⟨z0,ac,ae,af,an,ap,ag,ah,al,aI,aK⟩:=am.out _ gb
  go_wp2_with fail
  go_ret
  exact ⟨rfl,bS zb gb⟩
 case false =>
  cases e1
  case true =>
   clear h0
   go_enter Tryz.func14,Tryz.ntmps14
   go_wp2_with fail
   obtain ⟨W0,aG⟩:∃ W0,w.alloc (.cells #[.int .i64 c.ins,.int .i64 c.rows,.int .i64 c.cols,.int .i64 c.regs,.slice a0 n0 c0] 24)=W0:=⟨_,rfl⟩
   have am:=Lib.hid (show ∀ W',Below W0.heap.size W0 W'->(Bx5 W' w.heap.size (.int .i64 c.ins) (.int .i64 c.rows) (.int .i64 c.cols) (.int .i64 c.regs) (.slice a0 n0 c0)) from fun W' hb => by
     apply bx5 hb
     all_goals first|assumption|(rw [<- aG];simp [go_sem]))
   have zb:Below w.heap.size w W0:=by rw [<- aG];exact bN _ _
   rw [aG]
   clear aG
   have i0:=hc.to zb
   have gb:Below W0.heap.size W0 W0:=Below.refl _ _
   obtain ⟨z0,ac,ae,af,an,ap,ag,ah,al,aI,aK⟩:=am.out _ gb
   go_wp2_with fail
   go_ret
   exact ⟨rfl,bS zb gb⟩
  case false =>
   cases e2
   case true =>
    clear h0
    go_enter Tryz.func14,Tryz.ntmps14
    go_wp2_with fail
    obtain ⟨W0,aG⟩:∃ W0,w.alloc (.cells #[.int .i64 c.ins,.int .i64 c.rows,.int .i64 c.cols,.int .i64 c.regs,.slice a0 n0 c0] 24)=W0:=⟨_,rfl⟩
    have am:=Lib.hid (show ∀ W',Below W0.heap.size W0 W'->(Bx5 W' w.heap.size (.int .i64 c.ins) (.int .i64 c.rows) (.int .i64 c.cols) (.int .i64 c.regs) (.slice a0 n0 c0)) from fun W' hb => by
      apply bx5 hb
      all_goals first|assumption|(rw [<- aG];simp [go_sem]))
    have zb:Below w.heap.size w W0:=by rw [<- aG];exact bN _ _
    rw [aG]
    clear aG
    have i0:=hc.to zb
    have gb:Below W0.heap.size W0 W0:=Below.refl _ _
    obtain ⟨z0,ac,ae,af,an,ap,ag,ah,al,aI,aK⟩:=am.out _ gb
    go_wp2_with fail
    go_ret
    exact ⟨rfl,bS zb gb⟩
   case false =>
    cases e3
    case true =>
     clear h0
     go_enter Tryz.func14,Tryz.ntmps14
     go_wp2_with fail
     obtain ⟨W0,aG⟩:∃ W0,w.alloc (.cells #[.int .i64 c.ins,.int .i64 c.rows,.int .i64 c.cols,.int .i64 c.regs,.slice a0 n0 c0] 24)=W0:=⟨_,rfl⟩
     have am:=Lib.hid (show ∀ W',Below W0.heap.size W0 W'->(Bx5 W' w.heap.size (.int .i64 c.ins) (.int .i64 c.rows) (.int .i64 c.cols) (.int .i64 c.regs) (.slice a0 n0 c0)) from fun W' hb => by
       apply bx5 hb
       all_goals first|assumption|(rw [<- aG];simp [go_sem]))
     have zb:Below w.heap.size w W0:=by rw [<- aG];exact bN _ _
     rw [aG]
     clear aG
     have i0:=hc.to zb
     have gb:Below W0.heap.size W0 W0:=Below.refl _ _
     obtain ⟨z0,ac,ae,af,an,ap,ag,ah,al,aI,aK⟩:=am.out _ gb
     go_wp2_with fail
     go_ret
     exact ⟨rfl,bS zb gb⟩
    case false =>
     cases e4
     case true =>
      clear h0
      go_enter Tryz.func14,Tryz.ntmps14
      go_wp2_with fail
      obtain ⟨W0,aG⟩:∃ W0,w.alloc (.cells #[.int .i64 c.ins,.int .i64 c.rows,.int .i64 c.cols,.int .i64 c.regs,.slice a0 n0 c0] 24)=W0:=⟨_,rfl⟩
      have am:=Lib.hid (show ∀ W',Below W0.heap.size W0 W'->(Bx5 W' w.heap.size (.int .i64 c.ins) (.int .i64 c.rows) (.int .i64 c.cols) (.int .i64 c.regs) (.slice a0 n0 c0)) from fun W' hb => by
        apply bx5 hb
        all_goals first|assumption|(rw [<- aG];simp [go_sem]))
      have zb:Below w.heap.size w W0:=by rw [<- aG];exact bN _ _
      rw [aG]
      clear aG
      have i0:=hc.to zb
      have gb:Below W0.heap.size W0 W0:=Below.refl _ _
      obtain ⟨z0,ac,ae,af,an,ap,ag,ah,al,aI,aK⟩:=am.out _ gb
      go_wp2_with fail
      go_ret
      exact ⟨rfl,bS zb gb⟩
     case false =>
      cases e5
      case true =>
       clear h0
       go_enter Tryz.func14,Tryz.ntmps14
       go_wp2_with fail
       obtain ⟨W0,aG⟩:∃ W0,w.alloc (.cells #[.int .i64 c.ins,.int .i64 c.rows,.int .i64 c.cols,.int .i64 c.regs,.slice a0 n0 c0] 24)=W0:=⟨_,rfl⟩
       have am:=Lib.hid (show ∀ W',Below W0.heap.size W0 W'->(Bx5 W' w.heap.size (.int .i64 c.ins) (.int .i64 c.rows) (.int .i64 c.cols) (.int .i64 c.regs) (.slice a0 n0 c0)) from fun W' hb => by
         apply bx5 hb
         all_goals first|assumption|(rw [<- aG];simp [go_sem]))
       have zb:Below w.heap.size w W0:=by rw [<- aG];exact bN _ _
       rw [aG]
       clear aG
       have i0:=hc.to zb
       have gb:Below W0.heap.size W0 W0:=Below.refl _ _
       obtain ⟨z0,ac,ae,af,an,ap,ag,ah,al,aI,aK⟩:=am.out _ gb
       go_wp2_with fail
       go_ret
       exact ⟨rfl,bS zb gb⟩
      case false =>
       cases e6
       case true =>
        clear h0
        go_enter Tryz.func14,Tryz.ntmps14
        go_wp2_with fail
        obtain ⟨W0,aG⟩:∃ W0,w.alloc (.cells #[.int .i64 c.ins,.int .i64 c.rows,.int .i64 c.cols,.int .i64 c.regs,.slice a0 n0 c0] 24)=W0:=⟨_,rfl⟩
        have am:=Lib.hid (show ∀ W',Below W0.heap.size W0 W'->(Bx5 W' w.heap.size (.int .i64 c.ins) (.int .i64 c.rows) (.int .i64 c.cols) (.int .i64 c.regs) (.slice a0 n0 c0)) from fun W' hb => by
          apply bx5 hb
          all_goals first|assumption|(rw [<- aG];simp [go_sem]))
        have zb:Below w.heap.size w W0:=by rw [<- aG];exact bN _ _
        rw [aG]
        clear aG
        have i0:=hc.to zb
        have gb:Below W0.heap.size W0 W0:=Below.refl _ _
        obtain ⟨z0,ac,ae,af,an,ap,ag,ah,al,aI,aK⟩:=am.out _ gb
        go_wp2_with fail
        go_ret
        exact ⟨rfl,bS zb gb⟩
       case false =>
        cases e7
        case true =>
         clear h0
         go_enter Tryz.func14,Tryz.ntmps14
         go_wp2_with fail
         obtain ⟨W0,aG⟩:∃ W0,w.alloc (.cells #[.int .i64 c.ins,.int .i64 c.rows,.int .i64 c.cols,.int .i64 c.regs,.slice a0 n0 c0] 24)=W0:=⟨_,rfl⟩
         have am:=Lib.hid (show ∀ W',Below W0.heap.size W0 W'->(Bx5 W' w.heap.size (.int .i64 c.ins) (.int .i64 c.rows) (.int .i64 c.cols) (.int .i64 c.regs) (.slice a0 n0 c0)) from fun W' hb => by
           apply bx5 hb
           all_goals first|assumption|(rw [<- aG];simp [go_sem]))
         have zb:Below w.heap.size w W0:=by rw [<- aG];exact bN _ _
         rw [aG]
         clear aG
         have i0:=hc.to zb
         have gb:Below W0.heap.size W0 W0:=Below.refl _ _
         obtain ⟨z0,ac,ae,af,an,ap,ag,ah,al,aI,aK⟩:=am.out _ gb
         go_wp2_with fail
         go_ret
         exact ⟨rfl,bS zb gb⟩
        case false =>
         exact absurd h0 (by decide)

theorem zhI (c:Cd) (v:Value) (w:World) (hc:IsC w c v) (hs:zac 1000 c.all) (h0:zbo c=true) (o:Bool) (ho:zA c [] c.all=o) :
  Calls Tryz.prog 14 #[aggC c v] w (fun e w' => e=.returned (.bool o)/\Below w.heap.size w w'):=by
 have hh:=h0
 unfold zbo at hh
 simp only [decide_eq_true_eq] at hh
 obtain ⟨N,hN⟩:=Int.eq_ofNat_of_zero_le hh.2.2.2.2.2.1
 have hN1:N<=100000:=by omega
 have Hr:=Lib.hid (show 1<=c.rows/\c.rows<=40 by omega)
 have Hcl:=Lib.hid (show 1<=c.cols/\c.cols<=40 by omega)
 have HN:=Lib.hid hN
 clear hh
 clear hN
 have Hs:=Lib.hid hs
 have Ho:=Lib.hid ho
 clear hs ho
 obtain ⟨a0,n0,c0,rfl,H0,hm0⟩:=hc.1.open
 obtain ⟨e0,te0⟩:∃ b,decide (c.ins<1)=b:=⟨_,rfl⟩
 obtain ⟨e1,te1⟩:∃ b,decide (40<c.ins)=b:=⟨_,rfl⟩
 obtain ⟨e2,te2⟩:∃ b,decide (c.rows<1)=b:=⟨_,rfl⟩
 obtain ⟨e3,te3⟩:∃ b,decide (40<c.rows)=b:=⟨_,rfl⟩
 obtain ⟨e4,te4⟩:∃ b,(c.cols != c.ins)=b:=⟨_,rfl⟩
 obtain ⟨e5,te5⟩:∃ b,decide (c.regs<0)=b:=⟨_,rfl⟩
 obtain ⟨e6,te6⟩:∃ b,decide (100000<c.regs)=b:=⟨_,rfl⟩
 obtain ⟨e7,te7⟩:∃ b,decide ((100000:Int)<(n0:Int))=b:=⟨_,rfl⟩
 rw [zhY c n0 H0.out,te0,te1,te2,te3,te4,te5,te6,te7] at h0
 simp only [Bool.and_eq_true,Bool.not_eq_true'] at h0
 obtain ⟨⟨⟨⟨⟨⟨⟨rfl,rfl⟩,rfl⟩,rfl⟩,rfl⟩,rfl⟩,rfl⟩,rfl⟩:=h0
 have hn0:n0<=100000:=by have:=of_decide_eq_false te7;omega
 go_enter Tryz.func14,Tryz.ntmps14
 go_wp2_with (
  at_make
  obtain ⟨W0,aG⟩:∃ W0,w.alloc (.cells #[.int .i64 c.ins,.int .i64 c.rows,.int .i64 c.cols,.int .i64 c.regs,.slice a0 n0 c0] 24)=W0:=⟨_,rfl⟩
  have am:=Lib.hid (show ∀ W',Below W0.heap.size W0 W'->(Bx5 W' w.heap.size (.int .i64 c.ins) (.int .i64 c.rows) (.int .i64 c.cols) (.int .i64 c.regs) (.slice a0 n0 c0)) from fun W' hb => by
    apply bx5 hb
    all_goals first|assumption|(rw [<- aG];simp [go_sem]))
  have zb:Below w.heap.size w W0:=by rw [<- aG];exact bN _ _
  rw [aG]
  clear aG
  have i0:=hc.to zb
  have gb:Below W0.heap.size W0 W0:=Below.refl _ _
  obtain ⟨z0,ac,ae,af,an,ap,ag,ah,al,aI,aK⟩:=am.out _ gb
  refine ziL _ rfl _ _ 44 4 rfl Tryz.underlying44 (.bool false) 1 1 (by kernel_rfl) rfl (by decide) _ _ _ _ N rfl rfl HN.out HN.out (by omega) ?_
  intro w1 hr1 aX
  clear ac ag ae ah af al an aI ap aK
  replace gb:=bS gb aX
  obtain ⟨z0,ac,ae,af,an,ap,ag,ah,al,aI,aK⟩:=am.out _ gb
  rw [Nat.mul_one] at hr1
  replace hr1:zaC w1 W0.heap.size N (fun i => .bool (decide ((i:Int) ∈ ([]:List Int)))):=hr1.cast (fun i _ => by simp [Nat.mod_one,Value.cells]))
 go_loopw [53] (fun i ww => ∃ (k:Nat) (L:List Int),k<=n0/\i=.int .i64 k/\Below W0.heap.size W0 ww/\zaC ww W0.heap.size N (fun i => .bool (decide ((i:Int) ∈ L)))/\Hid (zA c L (c.all.drop k)=o)/\Hid (∀ x ∈ L,0<=x/\x<(N:Int))) (fun i _ => n0 - (intOf i).toNat)
 case atStart => exact ⟨0,[],Nat.zero_le _,rfl,gb,hr1,by rw [List.drop_zero];exact Ho.out,fun x hx => by cases hx⟩
 case round =>
  clear gb hr1 ac ag ae ah af al an aI ap aK
  obtain ⟨k,L,hk,rfl,gb,hrow,HA,HL⟩:=hrel
  obtain ⟨z0,ac,ae,af,an,ap,ag,ah,al,aI,aK⟩:=am.out _ gb
  by_cases hkn:k<n0
  ·have hki:(k:Int)<(n0:Int):=by omega
   have hkl:k<c.all.length:=by rw [H0.out];exact hkn
   obtain ⟨b,off,rfl,h7⟩:=(i0.to gb).1.nth hkl
   have HA1:=HA.out
   rw [zdt hkl] at HA1
   have hsx:=Hs.out _ (List.getElem_mem hkl)
   obtain ⟨x,hx⟩:∃ x,c.all[k]=x:=⟨_,rfl⟩
   rw [hx] at HA1 h7 hsx
   obtain ⟨vn,vd,s0,s1,s2,s3,s4,s5,s6,hX⟩:=h7.isX hsx.1 hsx.2
   obtain ⟨a1,n1,c1,rfl,H1,hm1⟩:=hX.1.1.open
   obtain ⟨a2,n2,c2,rfl,H2,hm2⟩:=hX.1.2.1.open
   have HX1:=Lib.hid hX
   have HA2:=Lib.hid HA1
   clear HA HA1 h7 hsx hx hX hki
   have hki:(k:Int)<(n0:Int):=by omega
   go_wp2_with fail
   clear s0 s1 s2 s3 s4 s5 s6
   obtain ⟨W2,ds⟩:∃ W2,wr.alloc (.cells #[.int .i64 x.op,.int .i64 x.to,.int .i64 x.a,.int .i64 x.b,.bool x.q.ng,.slice a1 n1 c1,.slice a2 n2 c2] 49)=W2:=⟨_,rfl⟩
   have aR:Below wr.heap.size wr W2:=by rw [<- ds];exact bN _ _
   have HT:Hid (∀ W',Below W2.heap.size W2 W'->W'.cell? ⟨wr.heap.size,0,none⟩=some (.int .i64 x.op)/\W'.cell? ⟨wr.heap.size,1,none⟩=some (.int .i64 x.to)/\W'.cell? ⟨wr.heap.size,2,none⟩=some (.int .i64 x.a)/\W'.cell? ⟨wr.heap.size,3,none⟩=some (.int .i64 x.b)/\W'.cell? ⟨wr.heap.size,4,none⟩=some (.bool x.q.ng)/\W'.cell? ⟨wr.heap.size,5,none⟩=some (.slice a1 n1 c1)/\W'.cell? ⟨wr.heap.size,6,none⟩=some (.slice a2 n2 c2)):=fun W' hb => by
    have hl:wr.heap.size<W2.heap.size:=by rw [<- ds];simp
    refine ⟨(hb.cell (p:=⟨wr.heap.size,0,none⟩) hl).trans (by rw [<- ds];simp [go_sem]),(hb.cell (p:=⟨wr.heap.size,1,none⟩) hl).trans (by rw [<- ds];simp [go_sem]),(hb.cell (p:=⟨wr.heap.size,2,none⟩) hl).trans (by rw [<- ds];simp [go_sem]),(hb.cell (p:=⟨wr.heap.size,3,none⟩) hl).trans (by rw [<- ds];simp [go_sem]),(hb.cell (p:=⟨wr.heap.size,4,none⟩) hl).trans (by rw [<- ds];simp [go_sem]),(hb.cell (p:=⟨wr.heap.size,5,none⟩) hl).trans (by rw [<- ds];simp [go_sem]),(hb.cell (p:=⟨wr.heap.size,6,none⟩) hl).trans (by rw [<- ds];simp [go_sem])⟩
   rw [ds]
   clear ds
   have hrow2:=hrow.to aR
   have HX2:=HX1.out.to aR
   clear hrow
   clear ac ag ae ah af al an aI ap aK
   have gb2:=bS gb aR
   obtain ⟨z0,ac,ae,af,an,ap,ag,ah,al,aI,aK⟩:=am.out _ gb2
   obtain ⟨s0,s1,s2,s3,s4,s5,s6⟩:=HT.out _ (Below.refl _ _)
   go_wp2_with fail
   cases hio:zq c L x
   case false =>
    refine (ziz c _ x.op x.to x.a x.b x.q.ng _ _ x.q.n x.q.d W0.heap.size N L _ (i0.to gb2) HX2 hrow2 HL.out (by omega) HN.out.symm Hr.out Hcl.out false hio).mono ?_
    rintro e w3 ⟨rfl,bZ⟩
    clear s0 s1 s2 s3 s4 s5 s6
    clear ac ag ae ah af al an aI ap aK
    have ho:false=o:=by rw [<- HA2.out,hio,Bool.false_and]
    subst ho
    clear hio
    go_wp2_with fail
    go_ret
    exact ⟨rfl,bS zb (bS gb2 bZ)⟩
   case true =>
    refine (ziz c _ x.op x.to x.a x.b x.q.ng _ _ x.q.n x.q.d W0.heap.size N L _ (i0.to gb2) HX2 hrow2 HL.out (by omega) HN.out.symm Hr.out Hcl.out true hio).mono ?_
    rintro e w3 ⟨rfl,bZ⟩
    clear s0 s1 s2 s3 s4 s5 s6
    clear ac ag ae ah af al an aI ap aK
    have gb3:=bS gb2 bZ
    have hrow3:=hrow2.to bZ
    obtain ⟨s0,s1,s2,s3,s4,s5,s6⟩:=HT.out _ bZ
    obtain ⟨z0,ac,ae,af,an,ap,ag,ah,al,aI,aK⟩:=am.out _ gb3
    have HA3:Hid (zA c (more L x) (c.all.drop (k+1))=o):=by show _=_;rw [<- HA2.out,hio,Bool.true_and]
    clear hrow2 gb2
    by_cases h10:x.op=10
    ·have t:(x.op != 10)=false:=by simp;exact h10
     have em:more L x=L:=by unfold more;rw [if_pos h10]
     have HA4:Hid (zA c L (c.all.drop (k+1))=o):=by show _=_;rw [<- HA3.out,em]
     clear h10 em hio
     go_wp2_with fail
     go_roundw
     case rel => exact ⟨k+1,L,by omega,by go_num,gb3,hrow3,HA4,HL⟩
     case measure => simp [intOf];omega
    ·have t:(x.op != 10)=true:=by simp;exact h10
     have hto:=zcN hio h10
     obtain ⟨T,hT⟩:=Int.eq_ofNat_of_zero_le hto.1
     have hTN:T<N:=by have:=HN.out;omega
     have em:more L x=L++[(T:Int)]:=by unfold more;rw [if_neg h10,hT]
     have HA4:Hid (zA c (L++[(T:Int)]) (c.all.drop (k+1))=o):=by show _=_;rw [<- HA3.out,em]
     have HL4:Hid (∀ x ∈ L++[(T:Int)],0<=x/\x<(N:Int)):=fun y hy => by
      rcases List.mem_append.1 hy with hy|hy
      ·exact HL.out y hy
      ·rw [List.mem_singleton.1 hy];omega
     rw [hT] at s1
     obtain ⟨r1,r2⟩:=hrow3.2 T hTN
     have hTi:(T:Int)<(N:Int):=by omega
     clear h10 em hio hto hT HA3
     go_wp2_with fail
     go_roundw
     case rel => exact ⟨k+1,L++[(T:Int)],by omega,by go_num,gb3.setCell (Nat.le_refl _) _,(hrow3.set T (.bool true)).cast (fun i _ => zkp i (N:=N)),HA4,HL4⟩
     case measure => simp [intOf];omega
  ·obtain rfl:k=n0:=by omega
   have ho:true=o:=by
    have:=HA.out
    rw [<- H0.out,List.drop_length] at this
    exact this
   subst ho
   go_wp2_with fail
   go_ret
   exact ⟨rfl,bS zb gb⟩

theorem zaL (c:Cd) (v:Value) (w:World) (hc:IsC w c v) (hs:zac 1000 c.all) (o:Bool) (ho:zr c=o) :
  Calls Tryz.prog 14 #[aggC c v] w (fun e w' => e=.returned (.bool o)/\Below w.heap.size w w'):=by
 unfold zr at ho
 cases h0:zbo c with
 | false => rw [h0] at ho;obtain rfl:false=o:=ho;exact zhJ c v w hc hs h0
 | true => rw [h0,Bool.true_and] at ho;exact zhI c v w hc hs h0 o ho

end Go.Proofs.YtkjcdnlpjldhaaaGreat


namespace Go.Proofs.YtkjcdnlpjldhaaaGreat
open Go.RowKit Tw

theorem zhZ {wt:Int->Int} {m:Int} {l:List Ins} {k:Nat} (h:k<l.length):zam wt m (l.drop k) =
  if l[k].op=10 then zam wt m (l.drop (k+1)) else zam (upd wt l[k].to (wOf wt l[k])) (max m (wOf wt l[k])) (l.drop (k+1)):=by
 rw [List.drop_eq_getElem_cons h];rfl

def Lite (wt:Int->Int):Prop:=∀ r,0<=wt r/\wt r<=1000000

theorem zcZ {wt:Int->Int} (h:Lite wt) (x:Ins):0<=wOf wt x/\wOf wt x<=1000000:=by
 have ha:=h x.a
 have hb:=h x.b
 have h1:0<=(if 1<=zg x.op then wt x.a else 1):=by split <;> omega
 have h2:0<=(if zg x.op=2 then (if 1<=zg x.op then wt x.a else 1)+wt x.b else (if 1<=zg x.op then wt x.a else 1)):=by
  by_cases h:zg x.op=2
  ·rw [if_pos h];omega
  ·rw [if_neg h];exact h1
 have h3:0<=(if x.op=7 then (if zg x.op=2 then (if 1<=zg x.op then wt x.a else 1)+wt x.b else (if 1<=zg x.op then wt x.a else 1))*max 1 (max x.b (-x.b)) else (if zg x.op=2 then (if 1<=zg x.op then wt x.a else 1)+wt x.b else (if 1<=zg x.op then wt x.a else 1))):=by
  by_cases h:x.op=7
  ·rw [if_pos h];exact Int.mul_nonneg h2 (by omega)
  ·rw [if_neg h];exact h2
 unfold wOf
 constructor
 ·exact Int.le_min.2 ⟨h3,by decide⟩
 ·exact Int.min_le_right _ _

theorem Lite.upd {wt:Int->Int} (h:Lite wt) (x:Ins):Lite (upd wt x.to (wOf wt x)):=by
 intro r
 unfold Go.Proofs.YtkjcdnlpjldhaaaGreat.upd
 split
 ·exact zcZ h x
 ·exact h r

theorem zcv {wt:Int->Int} {x:Ins} (h:x.op=0\/x.op=1):wOf wt x=1:=by
 unfold wOf
 rcases h with h|h <;> rw [h] <;> simp [zg] <;> decide

theorem zed {wt:Int->Int} {x:Ins} (h:zg x.op=2):wOf wt x=min (wt x.a+wt x.b) 1000000:=by
 have h7:x.op≠7:=fun e => by rw [e] at h;exact absurd h (by decide)
 unfold wOf
 simp only [if_pos h,if_pos (show 1<=zg x.op by omega),if_neg h7]

theorem zeb {wt:Int->Int} {x:Ins} (h:x.op=6):wOf wt x=min (wt x.a) 1000000:=by
 unfold wOf;rw [h];simp [zg]

theorem zec {wt:Int->Int} {x:Ins} (h:x.op=7):wOf wt x=min (wt x.a*max 1 (max x.b (-x.b))) 1000000:=by
 unfold wOf;rw [h];simp [zg]

theorem zfr {N T:Nat} {wt:Int->Int} {z:Int} (i:Nat):(if i=T then Value.int .i64 z else Value.int .i64 (wt i))=.int .i64 (upd wt (T:Int) z i):=by
 unfold upd
 by_cases h:i=T
 ·rw [if_pos h,h,if_pos rfl]
 ·rw [if_neg h,if_neg (by omega)]

theorem zO {c:Cd} {L:List Int} {x:Ins} (h:zq c L x=true) (h1:1<=zg x.op):x.a ∈ L:=by
 unfold zq aOk at h
 rw [if_neg (fun e => by rw [e] at h1;exact absurd h1 (by decide)),if_neg (fun e => by rw [e] at h1;exact absurd h1 (by decide))] at h
 simp only [Bool.and_eq_true,decide_eq_true_eq] at h
 exact h.1.1.2

theorem zau {c:Cd} {L:List Int} {x:Ins} (h:zq c L x=true) (h1:zg x.op=2):x.b ∈ L:=by
 unfold zq bOk at h
 rw [if_neg (fun e => by rw [e] at h1;exact absurd h1 (by decide)),if_pos h1] at h
 simp only [Bool.and_eq_true,decide_eq_true_eq] at h
 exact h.1.2

theorem zel {c:Cd} {L:List Int} {x:Ins} (h:zq c L x=true) (h1:x.op=7):-21<=x.b/\x.b<=21:=by
 unfold zq bOk at h
 rw [if_pos h1] at h
 simp only [Bool.and_eq_true,decide_eq_true_eq] at h
 exact h.1.2

theorem zaE {c:Cd} {L:List Int} {x:Ins} (h:zq c L x=true):0<=zg x.op:=by
 unfold zq at h
 simp only [Bool.and_eq_true,decide_eq_true_eq] at h
 exact h.1.1.1.1

theorem zfK {op:Int} (h:0<=zg op):(op=0\/op=1)\/zg op=2\/op=6\/op=7\/op=10:=by
 rcases zaj _ h with e|e|e|e|e|e|e|e|e|e|e <;> rw [e] <;> decide

theorem zjV {a b:Int} (ha:0<=a/\a<=1000000) (hb:1<=b/\b<=21):0<=a*b/\a*b<=21000000:=by
 have h:=Int.mul_le_mul ha.2 hb.2 (by omega) (by decide)
 exact ⟨Int.mul_nonneg ha.1 (by omega),by simpa using h⟩

end Go.Proofs.YtkjcdnlpjldhaaaGreat


namespace Go.Proofs.YtkjcdnlpjldhaaaGreat
open Go.RowKit Tw

theorem ziw (x:Rat):∀ n:Nat,szq (x ^ n)<=max 1 (szq x*n)
 | 0 => by
  rw [Rat.pow_zero]
  have:szq 1<=1:=by decide +kernel
  omega
 | n+1 => by
  have h1:=zhA (x ^ n) x
  have h2:=ziw x n
  have h3:=zdl x
  rw [Rat.pow_succ,Nat.mul_succ]
  rcases Nat.eq_zero_or_pos n with h|h
  ·subst h
   rw [Rat.pow_zero,Rat.one_mul]
   omega
  ·have h4:1<=szq x*n:=Nat.mul_pos h3 h
   omega

theorem zcq:∀ (l:List Ins) (wt:Int->Int) (m:Int),m<=zam wt m l
 | [],_,_ => Int.le_refl _
 | x :: t,wt,m => by
  unfold zam
  split
  ·exact zcq t wt m
  ·have:=zcq t (upd wt x.to (wOf wt x)) (max m (wOf wt x))
   omega

theorem zgQ:szq 0<=1:=by decide +kernel

theorem szq_two {p:List Rat} {R:Int->Rat} {x:Ins} (h:zg x.op=2):szq (opV p R x)<=szq (R x.a)+szq (R x.b)+1:=by
 have h1:=zkf (R x.a) (R x.b)
 have h2:=szq_sub (R x.a) (R x.b)
 have h3:=zhA (R x.a) (R x.b)
 have h4:=szq_div (R x.a) (R x.b)
 unfold opV
 rcases zaj x.op (by omega) with e|e|e|e|e|e|e|e|e|e|e <;> rw [e] at h ⊢ <;>
  first
  | exact absurd h (by decide)
  | (simp;omega)

theorem szq_pow7 {p:List Rat} {R:Int->Rat} {x:Ins} (h:x.op=7):szq (opV p R x)<=max 1 (szq (R x.a)*x.b.natAbs):=by
 have h1:=ziw (R x.a) x.b.natAbs
 have h2:=zhz (R x.a ^ x.b.natAbs)
 unfold opV
 rw [h]
 simp
 split <;> omega

theorem zjP {p:List Rat} {R:Int->Rat} {x:Ins} (h:x.op=6):opV p R x=-R x.a:=by unfold opV;rw [h];simp

theorem zjQ {p:List Rat} {R:Int->Rat} {x:Ins} (h:x.op=10):opV p R x=R x.a:=by unfold opV;rw [h];simp

theorem zin {p:List Rat} {R:Int->Rat} {x:Ins} (h:x.op=0):opV p R x=p.getD x.a.toNat 0:=by unfold opV;rw [h];simp

theorem zjO {p:List Rat} {R:Int->Rat} {x:Ins} (h:x.op=1):opV p R x=x.q.num:=by unfold opV;rw [h];simp

theorem ziV {p:List Rat} {K:Nat} (hK:1<=K) (h:∀ q ∈ p,szq q<=K) (i:Nat):szq (p.getD i 0)<=K:=by
 rcases Nat.lt_or_ge i p.length with k|k
 ·rw [show p.getD i 0=p[i] by simp [k]]
  exact h _ (List.getElem_mem k)
 ·rw [show p.getD i 0=0 by simp [k]]
  exact Nat.le_trans zgQ hK

theorem zge {x:Rt} {K:Nat} (hK:1<=K) (h1:x.n.length<=K) (h2:x.d.length<=K) (s1:Small x.n) (s2:Small x.d):szq x.num<=K:=by
 have a:=zdm x.ng (val x.n) (val x.d)
 have b:=zu s1
 have c:=zu s2
 unfold Rt.num
 omega

def Thin (L:List Int) (wt:Int->Int) (R:Int->Rat):Prop:=∀ r ∈ L,1<=wt r/\wt r<=20/\(szq (R r):Int)+1<=8*wt r

theorem zeH {c:Cd} {L:List Int} {wt:Int->Int} {R:Int->Rat} {p:List Rat} {x:Ins} (hx:zq c L x=true) (h:Thin L wt R) (hp:∀ q ∈ p,szq q<=7)
  (hq:szq x.q.num<=7) (h10:x.op≠10) (hw:wOf wt x<=20):1<=wOf wt x/\(szq (opV p R x):Int)+1<=8*wOf wt x/\(x.op=7->szq (R x.a)*x.b.natAbs<1000):=by
 rcases zfK (zaE hx) with e|e|e|e|e
 ·rw [zcv e]
  rcases e with e|e
  ·rw [zin e]
   have:=ziV (by omega) hp x.a.toNat
   exact ⟨by omega,by omega,fun k => by omega⟩
  ·rw [zjO e]
   exact ⟨by omega,by omega,fun k => by omega⟩
 ·have ha:=h _ (zO hx (by omega))
  have hb:=h _ (zau hx e)
  have hs:=szq_two (p:=p) (R:=R) e
  rw [zed e] at hw ⊢
  exact ⟨by omega,by omega,fun k => by rw [k] at e;exact absurd e (by decide)⟩
 ·have ha:=h _ (zO hx (by rw [e];decide))
  rw [zeb e] at hw ⊢
  rw [zjP e,zhB]
  exact ⟨by omega,by omega,fun k => by omega⟩
 ·have ha:=h _ (zO hx (by rw [e];decide))
  have hb:=zel hx e
  have hs:=szq_pow7 (p:=p) (R:=R) e
  rw [zec e] at hw ⊢
  obtain ⟨k,hk⟩:∃ k:Nat,x.b.natAbs=k:=⟨_,rfl⟩
  have hm:max 1 (max x.b (-x.b))=((max 1 k:Nat):Int):=by omega
  have hk2:k<=21:=by omega
  rw [hk] at hs
  rw [hm] at hw ⊢
  have hle:wt x.a*((max 1 k:Nat):Int)<=20:=by
   have:=(zjV (a:=wt x.a) (b:=((max 1 k:Nat):Int)) (by omega) (by omega)).2
   omega
  have hmin:min (wt x.a*((max 1 k:Nat):Int)) 1000000=wt x.a*((max 1 k:Nat):Int):=by omega
  rw [hmin]
  have h1:1*1<=wt x.a*((max 1 k:Nat):Int):=Int.mul_le_mul ha.1 (by omega) (by decide) (by omega)
  have h2:((szq (R x.a):Int)+1)*((max 1 k:Nat):Int)<=8*wt x.a*((max 1 k:Nat):Int):=Int.mul_le_mul_of_nonneg_right ha.2.2 (by omega)
  rw [Int.add_mul,Int.one_mul,Int.mul_assoc] at h2
  have h3:szq (R x.a)*k<=szq (R x.a)*max 1 k:=Nat.mul_le_mul_left _ (Nat.le_max_right _ _)
  have h4:((szq (R x.a)*max 1 k:Nat):Int)=(szq (R x.a):Int)*((max 1 k:Nat):Int):=by push_cast;rfl
  have h5:1<=szq (R x.a)*max 1 k:=Nat.mul_pos (zdl _) (by omega)
  rw [<- h4] at h2
  generalize wt x.a*((max 1 k:Nat):Int)=P at *
  generalize szq (R x.a)*max 1 k=Q at *
  rw [hk]
  generalize szq (R x.a)*k=T at *
  exact ⟨by omega,by omega,fun _ => by omega⟩
 ·exact absurd e h10

theorem Thin.next {c:Cd} {L:List Int} {wt:Int->Int} {R:Int->Rat} {x:Ins} {v:Rat} (h:Thin L wt R) (h10:x.op≠10) (hw:wOf wt x<=20) (h1:1<=wOf wt x/\(szq v:Int)+1<=8*wOf wt x) :
  Thin (more L x) (upd wt x.to (wOf wt x)) (upd R x.to v):=by
 intro r hr
 unfold more at hr
 rw [if_neg h10,List.mem_append] at hr
 by_cases e:r=x.to
 ·subst e
  rw [zbD,zbD]
  exact ⟨h1.1,hw,h1.2⟩
 ·rw [zaP _ _ e,zaP _ _ e]
  rcases hr with hr|hr
  ·exact h r hr
  ·exact absurd (List.mem_singleton.1 hr) e

theorem zdu {c:Cd} {p:List Rat} (hp:∀ q ∈ p,szq q<=7):∀ (l:List Ins) (L:List Int) (wt:Int->Int) (m:Int) (s:St),(∀ x ∈ l,szq x.q.num<=7)->zA c L l=true->Thin L wt s.R->zam wt m l<=20->zcp 1000 p s l
 | [],_,_,_,_,_,_,_,_ => trivial
 | x :: t,L,wt,m,s,hl,ha,hT,hh => by
  unfold zA at ha
  rw [Bool.and_eq_true] at ha
  have hlt:∀ y ∈ t,szq y.q.num<=7:=fun y hy => hl y (List.mem_cons_of_mem _ hy)
  unfold zam at hh
  unfold zcp
  by_cases h10:x.op=10
  ·rw [if_pos h10] at hh
   have hm:more L x=L:=by unfold more;rw [if_pos h10]
   refine ⟨fun _ => ⟨?_,fun k => by omega⟩,fun _ => ?_⟩
   ·rw [zjQ h10]
    have:=hT _ (zO ha.1 (by rw [h10];decide))
    omega
   ·refine zdu hp t L wt m _ hlt (by rw [<- hm];exact ha.2) ?_ hh
    unfold St.next
    rw [if_pos h10]
    exact hT
  ·rw [if_neg h10] at hh
   have hw:wOf wt x<=20:=by have:=zcq t (upd wt x.to (wOf wt x)) (max m (wOf wt x));omega
   have hs:=zeH (p:=p) ha.1 hT hp (hl x (List.mem_cons_self ..)) h10 hw
   refine ⟨fun _ => ⟨by omega,hs.2.2⟩,fun _ => ?_⟩
   refine zdu hp t (more L x) _ _ _ hlt ha.2 ?_ hh
   unfold St.next
   rw [if_neg h10]
   exact hT.next (c:=c) h10 hw ⟨hs.1,hs.2.1⟩

theorem zgy {c:Cd} {p:List Rat} (hp:∀ q ∈ p,szq q<=7) (hl:∀ x ∈ c.all,szq x.q.num<=7) (hr:zr c=true) (hh:zU c<=20):zcp 1000 p St.zero c.all:=by
 unfold zU at hh
 rw [if_pos hr] at hh
 unfold zr at hr
 rw [Bool.and_eq_true] at hr
 exact zdu hp c.all [] (fun _ => 0) 0 St.zero hl hr.2 (fun r h => by cases h) hh

end Go.Proofs.YtkjcdnlpjldhaaaGreat


namespace Go.Proofs.YtkjcdnlpjldhaaaGreat
open Go.RowKit Tw

def ren (f:Int->Int) (x:Ins):Ins:=⟨x.op,if x.op=10 then x.to else f x.to,if 1<x.op then f x.a else x.a,if zg x.op=2 then f x.b else x.b,x.q⟩

def zft (f:Int->Int) (n N:Int):Prop:=(∀ r s,0<=r->r<n->0<=s->s<n->f r=f s->r=s)/\∀ r,0<=f r/\f r<N

def Like (c d:Cd):Prop:=d.ins=c.ins/\d.rows=c.rows/\d.cols=c.cols

theorem one_lt {op:Int} (h:1<=zg op):1<op:=by
 rcases zaj op (by omega) with e|e|e|e|e|e|e|e|e|e|e <;> rw [e] at h ⊢ <;> first|exact absurd h (by decide)|decide

theorem lt_one {op:Int} (h:0<=zg op) (h1:1<op):1<=zg op:=by
 rcases zaj op h with e|e|e|e|e|e|e|e|e|e|e <;> rw [e] at h1 ⊢ <;> first|(exfalso;omega)|decide

theorem zN {c:Cd} {L:List Int} {x:Ins} (h:zq c L x=true):0<=x.to/\x.to<zE c x:=by
 unfold zq at h
 simp only [Bool.and_eq_true,decide_eq_true_eq] at h
 exact h.2

theorem zks {c d:Cd} {f:Int->Int} {L L':List Int} {x:Ins} (hd:Like c d) (hf:zft f c.regs d.regs) (hL:∀ r ∈ L,f r ∈ L') (h:zq c L x=true):zq d L' (ren f x)=true:=by
 have hop:=zaE h
 have hto:=zN h
 have ha:=fun h1 => zO (x:=x) h h1
 have hb:=fun h1 => zau (x:=x) h h1
 unfold zq at h ⊢
 simp only [Bool.and_eq_true,decide_eq_true_eq] at h ⊢
 obtain ⟨⟨⟨⟨h1,h2⟩,h3⟩,h4⟩,h5⟩:=h
 refine ⟨⟨⟨⟨h1,h2⟩,?_⟩,?_⟩,?_⟩
 ·unfold aOk at h3 ⊢
  show (if x.op=0 then _ else _)=true
  by_cases e0:x.op=0
  ·rw [if_pos e0] at h3 ⊢
   have:(ren f x).a=x.a:=if_neg (by rw [e0];decide)
   rw [this,hd.1];exact h3
  ·rw [if_neg e0] at h3 ⊢
   by_cases e1:x.op=1
   ·rw [if_pos e1] at h3
    rw [if_pos (show (ren f x).op=1 from e1)]
    have:(ren f x).a=x.a:=if_neg (by rw [e1];decide)
    rw [this];exact h3
   ·rw [if_neg (show ¬ (ren f x).op=1 from e1)]
    have h9:1<x.op:=by rcases zaj _ h1 with e|e|e|e|e|e|e|e|e|e|e <;> omega
    have:(ren f x).a=f x.a:=if_pos h9
    rw [this]
    exact decide_eq_true (hL _ (ha (lt_one h1 h9)))
 ·unfold bOk at h4 ⊢
  show (if x.op=7 then _ else _)=true
  by_cases e7:x.op=7
  ·rw [if_pos e7] at h4 ⊢
   have:(ren f x).b=x.b:=if_neg (by rw [e7];decide)
   rw [this];exact h4
  ·rw [if_neg e7] at h4 ⊢
   by_cases e2:zg x.op=2
   ·rw [if_pos (show zg (ren f x).op=2 from e2)]
    have:(ren f x).b=f x.b:=if_pos e2
    rw [this]
    exact decide_eq_true (hL _ (hb e2))
   ·rw [if_neg e2] at h4
    rw [if_neg (show ¬ zg (ren f x).op=2 from e2)]
    have:(ren f x).b=x.b:=if_neg e2
    rw [this];exact h4
 ·unfold zE at hto ⊢
  show _/\_<(if x.op=10 then _ else _)
  by_cases e:x.op=10
  ·rw [if_pos e] at hto ⊢
   have:(ren f x).to=x.to:=if_pos e
   rw [this,hd.2.1,hd.2.2];exact hto
  ·rw [if_neg e]
   have:(ren f x).to=f x.to:=if_neg e
   rw [this];exact hf.2 _

theorem more_ren {f:Int->Int} {L L':List Int} {x:Ins} (hL:∀ r ∈ L,f r ∈ L'):∀ r ∈ more L x,f r ∈ more L' (ren f x):=by
 intro r hr
 unfold more at hr ⊢
 by_cases e:x.op=10
 ·rw [if_pos e] at hr
  rw [if_pos (show (ren f x).op=10 from e)]
  exact hL r hr
 ·rw [if_neg e] at hr
  rw [if_neg (show ¬ (ren f x).op=10 from e)]
  have:(ren f x).to=f x.to:=if_neg e
  rw [this]
  rcases List.mem_append.1 hr with hr|hr
  ·exact List.mem_append_left _ (hL r hr)
  ·rw [List.mem_singleton.1 hr]
   exact List.mem_append_right _ (List.mem_singleton.2 rfl)

theorem zgv {c d:Cd} {f:Int->Int} (hd:Like c d) (hf:zft f c.regs d.regs):∀ (l:List Ins) (L L':List Int),(∀ r ∈ L,f r ∈ L')->zA c L l=true->zA d L' (l.map (ren f))=true
 | [],_,_,_,_ => rfl
 | x :: t,L,L',hL,h => by
  unfold zA at h
  rw [Bool.and_eq_true] at h
  show (zq d L' (ren f x) && zA d (more L' (ren f x)) (t.map (ren f)))=true
  rw [zks hd hf hL h.1,Bool.true_and]
  exact zgv hd hf t _ _ (more_ren hL) h.2

def zeJ {α:Type} (f:Int->Int) (L:List Int) (u v:Int->α):Prop:=∀ r ∈ L,v (f r)=u r

theorem zeJ.upd {α:Type} {f:Int->Int} {L:List Int} {u v:Int->α} {n N:Int} (hf:zft f n N) (hL:∀ r ∈ L,0<=r/\r<n) {i:Int} (hi:0<=i/\i<n) (h:zeJ f L u v) (z:α) :
  zeJ f (L++[i]) (upd u i z) (upd v (f i) z):=by
 intro r hr
 by_cases e:r=i
 ·subst e
  rw [zbD,zbD]
 ·rcases List.mem_append.1 hr with hr|hr
  ·have:=hL r hr
   rw [zaP _ _ e,zaP _ _ (fun k => e (hf.1 _ _ this.1 this.2 hi.1 hi.2 k))]
   exact h r hr
  ·exact absurd (List.mem_singleton.1 hr) e

theorem wOf_ren {c:Cd} {f:Int->Int} {L:List Int} {x:Ins} {u v:Int->Int} (hx:zq c L x=true) (h:zeJ f L u v):wOf v (ren f x)=wOf u x:=by
 have ea:1<=zg x.op->v (ren f x).a=u x.a:=fun k => by
  have:(ren f x).a=f x.a:=if_pos (one_lt k)
  rw [this];exact h _ (zO hx k)
 have eb:zg x.op=2->v (ren f x).b=u x.b:=fun k => by
  have:(ren f x).b=f x.b:=if_pos k
  rw [this];exact h _ (zau hx k)
 rcases zfK (zaE hx) with e|e|e|e|e
 ·rw [zcv e,zcv (x:=ren f x) e]
 ·rw [zed e,zed (x:=ren f x) e,ea (by omega),eb e]
 ·rw [zeb e,zeb (x:=ren f x) e,ea (by rw [e];decide)]
 ·rw [zec e,zec (x:=ren f x) e,ea (by rw [e];decide)]
  have:(ren f x).b=x.b:=if_neg (by rw [e];decide)
  rw [this]
 ·have g:∀ (wt:Int->Int) (y:Ins),y.op=10->wOf wt y=min (wt y.a) 1000000:=fun wt y hy => by unfold wOf;rw [hy];simp [zg]
  rw [g _ _ e,g _ (ren f x) e,ea (by rw [e];decide)]

theorem zdv {c:Cd} {f:Int->Int} {N:Int} (hf:zft f c.regs N):∀ (l:List Ins) (L:List Int) (u v:Int->Int) (m:Int),(∀ r ∈ L,0<=r/\r<c.regs)->zA c L l=true->zeJ f L u v->zam v m (l.map (ren f))=zam u m l
 | [],_,_,_,_,_,_,_ => rfl
 | x :: t,L,u,v,m,hL,ha,h => by
  unfold zA at ha
  rw [Bool.and_eq_true] at ha
  have hw:=wOf_ren (u:=u) (v:=v) ha.1 h
  show (if x.op=10 then _ else _)=(if x.op=10 then _ else _)
  by_cases e:x.op=10
  ·have hm:more L x=L:=by unfold more;rw [if_pos e]
   rw [if_pos e,if_pos e]
   exact zdv hf t L u v m hL (by rw [<- hm];exact ha.2) h
  ·have hm:more L x=L++[x.to]:=by unfold more;rw [if_neg e]
   have hto:=zN ha.1
   unfold zE at hto
   rw [if_neg e] at hto
   have hr:(ren f x).to=f x.to:=if_neg e
   rw [if_neg e,if_neg e,hw,hr]
   refine zdv hf t (L++[x.to]) _ _ _ ?_ (by rw [<- hm];exact ha.2) (h.upd hf hL hto _)
   rw [<- hm]
   exact zhh hL ha.1

theorem opV_ren {c:Cd} {f:Int->Int} {L:List Int} {x:Ins} {p:List Rat} {u v:Int->Rat} (hx:zq c L x=true) (h:zeJ f L u v):opV p v (ren f x)=opV p u x/\opE v (ren f x)=opE u x:=by
 have ea:1<=zg x.op->v (ren f x).a=u x.a:=fun k => by
  have:(ren f x).a=f x.a:=if_pos (one_lt k)
  rw [this];exact h _ (zO hx k)
 have eb:zg x.op=2->v (ren f x).b=u x.b:=fun k => by
  have:(ren f x).b=f x.b:=if_pos k
  rw [this];exact h _ (zau hx k)
 have e7:x.op=7->(ren f x).b=x.b:=fun e => if_neg (by rw [e];decide)
 have e0:x.op=0->(ren f x).a=x.a:=fun e => if_neg (by rw [e];decide)
 unfold opV opE
 rw [show (ren f x).op=x.op from rfl,show (ren f x).q=x.q from rfl]
 rcases zaj x.op (zaE hx) with e|e|e|e|e|e|e|e|e|e|e
 ·rw [e0 e,e];simp
 ·rw [e];simp
 all_goals
  rw [e] at ea eb e7
  try rw [ea (by decide)]
  try rw [eb (by decide)]
  try rw [e7 rfl]
  rw [e]
  simp

theorem zka {c:Cd} {f:Int->Int} {N:Int} (hf:zft f c.regs N) {p:List Rat}:∀ (l:List Ins) (L:List Int) (s z:St),(∀ r ∈ L,0<=r/\r<c.regs)->zA c L l=true->zeJ f L s.R z.R->z.J=s.J->z.k=s.k->z.t=s.t ->
  zbK p z (l.map (ren f))=zbK p s l/\(zaV p z (l.map (ren f))).J=(zaV p s l).J/\(zaV p z (l.map (ren f))).k=(zaV p s l).k/\(zaV p z (l.map (ren f))).t=(zaV p s l).t
 | [],_,_,_,_,_,_,hJ,hk,ht => ⟨rfl,hJ,hk,ht⟩
 | x :: t,L,s,z,hL,ha,h,hJ,hk,ht => by
  unfold zA at ha
  rw [Bool.and_eq_true] at ha
  obtain ⟨hv,he⟩:=opV_ren (p:=p) (u:=s.R) (v:=z.R) ha.1 h
  have hs:zL p z.R (ren f x)=zL p s.R x:=by
   unfold zL
   rw [hv,he]
   rfl
  have key:∀ L1,(∀ r ∈ L1,0<=r/\r<c.regs)->zA c L1 t=true->zeJ f L1 (s.next p x).R (z.next p (ren f x)).R->(z.next p (ren f x)).J=(s.next p x).J->(z.next p (ren f x)).k=(s.next p x).k->(z.next p (ren f x)).t=(s.next p x).t ->
    zbK p z ((x :: t).map (ren f))=zbK p s (x :: t)/\(zaV p z ((x :: t).map (ren f))).J=(zaV p s (x :: t)).J/\(zaV p z ((x :: t).map (ren f))).k=(zaV p s (x :: t)).k/\(zaV p z ((x :: t).map (ren f))).t=(zaV p s (x :: t)).t:=by
   intro L1 q1 q2 q3 q4 q5 q6
   have:=zka hf (p:=p) t L1 (s.next p x) (z.next p (ren f x)) q1 q2 q3 q4 q5 q6
   refine ⟨?_,this.2⟩
   show (if zL p z.R (ren f x)≠0 then zL p z.R (ren f x) else zbK p (z.next p (ren f x)) (t.map (ren f)))=(if zL p s.R x≠0 then zL p s.R x else zbK p (s.next p x) t)
   rw [hs,this.1]
  by_cases e:x.op=10
  ·have hm:more L x=L:=by unfold more;rw [if_pos e]
   have e1:s.next p x={ s with J:=upd s.J x.to (opV p s.R x),k:=s.k+1 }:=by unfold St.next;rw [if_pos e]
   have e2:z.next p (ren f x)={ z with J:=upd z.J x.to (opV p s.R x),k:=z.k+1 }:=by
    unfold St.next
    rw [if_pos (show (ren f x).op=10 from e),hv,show (ren f x).to=x.to from if_pos e]
   refine key L hL (by rw [<- hm];exact ha.2) ?_ ?_ ?_ ?_ <;> rw [e1,e2]
   ·exact h
   ·show upd _ _ _=upd _ _ _
    rw [hJ]
   ·show _+1=_+1
    rw [hk]
   ·exact ht
  ·have hm:more L x=L++[x.to]:=by unfold more;rw [if_neg e]
   have hto:=zN ha.1
   unfold zE at hto
   rw [if_neg e] at hto
   have e1:s.next p x={ s with R:=upd s.R x.to (opV p s.R x),k:=s.k+1,t:=if x.op=8 then s.t+1 else s.t }:=by unfold St.next;rw [if_neg e]
   have e2:z.next p (ren f x)={ z with R:=upd z.R (f x.to) (opV p s.R x),k:=z.k+1,t:=if x.op=8 then z.t+1 else z.t }:=by
    unfold St.next
    rw [if_neg (show ¬ (ren f x).op=10 from e),hv,show (ren f x).to=f x.to from if_neg e,show (ren f x).op=x.op from rfl]
   refine key (L++[x.to]) (by rw [<- hm];exact zhh hL ha.1) (by rw [<- hm];exact ha.2) ?_ ?_ ?_ ?_ <;> rw [e1,e2]
   ·exact h.upd hf hL hto _
   ·exact hJ
   ·show _+1=_+1
    rw [hk]
   ·show (if _ then _ else _)=(if _ then _ else _)
    rw [ht]

theorem zfv {c:Cd}:∀ (l:List Ins) (L:List Int) (n:Nat),zA c L l=true->zA c L (l.take n)=true
 | _,_,0,_ => by rw [List.take_zero];rfl
 | [],_,_+1,_ => rfl
 | x :: t,L,n+1,h => by
  unfold zA at h
  rw [Bool.and_eq_true] at h
  rw [List.take_succ_cons]
  show (zq c L x && zA c (more L x) (t.take n))=true
  rw [h.1,Bool.true_and]
  exact zfv t _ n h.2

theorem zcM:∀ (l:List Ins) (wt:Int->Int) (m:Int) (n:Nat),zam wt m (l.take n)<=zam wt m l
 | l,wt,m,0 => by rw [List.take_zero];exact zcq l wt m
 | [],_,_,_+1 => Int.le_refl _
 | x :: t,wt,m,n+1 => by
  rw [List.take_succ_cons]
  show (if x.op=10 then _ else _)<=(if x.op=10 then _ else _)
  split
  ·exact zcM t _ _ n
  ·exact zcM t _ _ n

theorem zgM {p:List Rat}:∀ (l:List Ins) (s:St) (n:Nat),zbK p s (l.take n)≠0->zbK p s l=zbK p s (l.take n)
 | _,_,0,h => absurd (by rw [List.take_zero];rfl) h
 | [],_,_+1,_ => rfl
 | x :: t,s,n+1,h => by
  rw [List.take_succ_cons] at h ⊢
  unfold zbK at h ⊢
  by_cases e:zL p s.R x≠0
  ·rw [if_pos e,if_pos e]
  ·rw [if_neg e] at h ⊢
   rw [if_neg e]
   exact zgM t _ n h

def zbv (l:List Ins):Int:=(l.filter (fun x => x.op=8)).length

def zck (l:List Ins) (i:Int):Prop:=∃ x ∈ l,x.op=10/\x.to=i

theorem zjo {p:List Rat}:∀ (l:List Ins) (s:St),(zaV p s l).k=s.k+l.length
 | [],s => by show s.k=_;simp
 | x :: t,s => by
  show (zaV p (s.next p x) t).k=_
  rw [zjo t]
  have:(s.next p x).k=s.k+1:=by unfold St.next;split <;> rfl
  rw [this,List.length_cons]
  omega

theorem runS_t {p:List Rat}:∀ (l:List Ins) (s:St),(zaV p s l).t=s.t+zbv l
 | [],s => by show s.t=_;unfold zbv;simp
 | x :: t,s => by
  show (zaV p (s.next p x) t).t=_
  rw [runS_t t]
  unfold zbv
  by_cases e:x.op=8
  ·have:(s.next p x).t=s.t+1:=by unfold St.next;rw [if_neg (by rw [e];decide)];exact if_pos e
   rw [this,List.filter_cons_of_pos (by simpa using e),List.length_cons]
   omega
  ·have:(s.next p x).t=s.t:=by
    unfold St.next
    by_cases e10:x.op=10
    ·rw [if_pos e10]
    ·rw [if_neg e10]
     exact if_neg e
   rw [this,List.filter_cons_of_neg (by simpa using e)]

theorem runS_J {p:List Rat} {i:Int}:∀ (l:List Ins) (s:St),¬ zck l i->(zaV p s l).J i=s.J i
 | [],s,_ => rfl
 | x :: t,s,h => by
  show (zaV p (s.next p x) t).J i=_
  rw [runS_J t _ (fun ⟨y,hy,k⟩ => h ⟨y,List.mem_cons_of_mem _ hy,k⟩)]
  unfold St.next
  split
  ·rename_i e
   exact zaP _ _ (fun k => h ⟨x,List.mem_cons_self ..,e,k.symm⟩)
  ·rfl

end Go.Proofs.YtkjcdnlpjldhaaaGreat


namespace Go.Proofs.YtkjcdnlpjldhaaaGreat
open Go.RowKit Tw
attribute [local go_sem ↓] Go.wp_at_zero Go.wp_at_succ

def RdI (w:World) (v:Value) (l:List Int):Prop :=
 ∃ a cap,v=.slice a l.length cap/\l.length<=maxLen/\∀ i (h:i<l.length),∃ b,a=some ⟨b,0,none⟩/\w.cell? ⟨b,i,none⟩=some (.int .i64 l[i])

theorem RdI.to {w w':World} {v:Value} {l:List Int} (h:RdI w v l) (hb:Below w.heap.size w w'):RdI w' v l:=by
 obtain ⟨a,cap,hv,h1,h2⟩:=h
 exact ⟨a,cap,hv,h1,fun i hi => let ⟨b,e,k⟩:=h2 i hi;⟨b,e,(hb.cell (p:=⟨b,i,none⟩) (zj k)).trans k⟩⟩

theorem RdI.drew {w:World} {v:Value} {l:List Int} (h:RdI w v l):RdI w.drew v l:=h.to (Below.refl _ _).drew

theorem RdI.open {w:World} {v:Value} {l:List Int} (h:RdI w v l):∃ a n cap,v=.slice a n cap/\Hid (l.length=n)/\n<=maxLen:=by
 obtain ⟨a,cap,hv,h1,_⟩:=h
 exact ⟨a,_,cap,hv,rfl,h1⟩

theorem RdI.nth {w:World} {a:Option Addr} {n cap:Nat} {l:List Int} (h:RdI w (.slice a n cap) l) {i:Nat} (hi:i<l.length):∃ b,a=some ⟨b,0,none⟩/\w.cell? ⟨b,i,none⟩=some (.int .i64 l[i]):=by
 obtain ⟨a',cap',hv,_,h2⟩:=h
 injection hv with e1 e2 e3
 subst e1
 exact h2 i hi

end Go.Proofs.YtkjcdnlpjldhaaaGreat


namespace Go.Proofs.YtkjcdnlpjldhaaaGreat
open Go.RowKit Tw
attribute [local go_sem ↓] Go.wp_at_zero Go.wp_at_succ

end Go.Proofs.YtkjcdnlpjldhaaaGreat


namespace Go.Proofs.YtkjcdnlpjldhaaaGreat
open Go.RowKit Tw
attribute [local go_sem ↓] Go.wp_at_zero Go.wp_at_succ

end Go.Proofs.YtkjcdnlpjldhaaaGreat


namespace Go.Proofs.YtkjcdnlpjldhaaaGreat
open Go.RowKit Tw

end Go.Proofs.YtkjcdnlpjldhaaaGreat


namespace Go.Proofs.YtkjcdnlpjldhaaaGreat
open Go.RowKit Tw
attribute [local go_sem ↓] Go.wp_at_zero Go.wp_at_succ

end Go.Proofs.YtkjcdnlpjldhaaaGreat


namespace Go.Proofs.YtkjcdnlpjldhaaaGreat
open Go.RowKit Tw
attribute [local go_sem ↓] Go.wp_at_zero Go.wp_at_succ

theorem ziy (c:Cd) (v:Value) (w:World) (hc:IsC w c v) (hs:zac 1000 c.all) (h0:zr c=false) :
  Calls Tryz.prog 16 #[aggC c v] w (fun e w' => e=.returned (.int .i64 0)/\Below w.heap.size w w'):=by
 have Hs:=Lib.hid hs
 have Hr0:=Lib.hid h0
 clear hs h0
 obtain ⟨a0,n0,c0,rfl,H0,hm0⟩:=hc.1.open
 go_enter Tryz.func16,Tryz.ntmps16
 go_wp2_with fail
 obtain ⟨W0,aG⟩:∃ W0,w.alloc (.cells #[.int .i64 c.ins,.int .i64 c.rows,.int .i64 c.cols,.int .i64 c.regs,.slice a0 n0 c0] 24)=W0:=⟨_,rfl⟩
 have am:=Lib.hid (show ∀ W',Below W0.heap.size W0 W'->(Bx5 W' w.heap.size (.int .i64 c.ins) (.int .i64 c.rows) (.int .i64 c.cols) (.int .i64 c.regs) (.slice a0 n0 c0)) from fun W' hb => by
   apply bx5 hb
   all_goals first|assumption|(rw [<- aG];simp [go_sem]))
 have zb:Below w.heap.size w W0:=by rw [<- aG];exact bN _ _
 rw [aG]
 clear aG
 have i0:=hc.to zb
 have gb:Below W0.heap.size W0 W0:=Below.refl _ _
 obtain ⟨z0,ac,ae,af,an,ap,ag,ah,al,aI,aK⟩:=am.out _ gb
 go_wp2_with fail
 refine (zaL c _ _ (i0.to gb) Hs.out false Hr0.out).mono ?_
 clear ac ag ae ah af al an aI ap aK
 rintro e w1 ⟨rfl,aX⟩
 replace gb:=bS gb aX
 obtain ⟨z0,ac,ae,af,an,ap,ag,ah,al,aI,aK⟩:=am.out _ gb
 go_wp2_with fail
 go_ret
 exact ⟨rfl,bS zb gb⟩

theorem zhE (c:Cd) (v:Value) (w:World) (hc:IsC w c v) (hs:zac 1000 c.all) (h1:zr c=true) (o:Int) (ho:zam (fun _ => 0) 0 c.all=o) :
  Calls Tryz.prog 16 #[aggC c v] w (fun e w' => e=.returned (.int .i64 o)/\Below w.heap.size w w'):=by
 have h0:zbo c=true:=by unfold zr at h1;simp only [Bool.and_eq_true] at h1;exact h1.1
 have hh:=h0
 unfold zbo at hh
 simp only [decide_eq_true_eq] at hh
 obtain ⟨N,hN⟩:=Int.eq_ofNat_of_zero_le hh.2.2.2.2.2.1
 have hN1:N<=100000:=by omega
 have Hr:=Lib.hid (show 1<=c.rows/\c.rows<=40 by omega)
 have Hcl:=Lib.hid (show 1<=c.cols/\c.cols<=40 by omega)
 have HN:=Lib.hid hN
 clear hh
 have ha:zA c [] c.all=true:=by unfold zr at h1;simp only [Bool.and_eq_true] at h1;exact h1.2
 have hlen:c.all.length<=100000:=by unfold zbo at h0;simp only [decide_eq_true_eq] at h0;exact h0.2.2.2.2.2.2.2
 clear hN h0
 have Hs:=Lib.hid hs
 have Ho:=Lib.hid ho
 have Ha:=Lib.hid ha
 have Hrt:=Lib.hid h1
 have Hlen:=Lib.hid hlen
 clear hs ho ha h1 hlen
 obtain ⟨a0,n0,c0,rfl,H0,hm0⟩:=hc.1.open
 have hn0:n0<=100000:=by have:=H0.out;have:=Hlen.out;omega
 go_enter Tryz.func16,Tryz.ntmps16
 go_wp2_with fail
 obtain ⟨W0,aG⟩:∃ W0,w.alloc (.cells #[.int .i64 c.ins,.int .i64 c.rows,.int .i64 c.cols,.int .i64 c.regs,.slice a0 n0 c0] 24)=W0:=⟨_,rfl⟩
 have am:=Lib.hid (show ∀ W',Below W0.heap.size W0 W'->(Bx5 W' w.heap.size (.int .i64 c.ins) (.int .i64 c.rows) (.int .i64 c.cols) (.int .i64 c.regs) (.slice a0 n0 c0)) from fun W' hb => by
   apply bx5 hb
   all_goals first|assumption|(rw [<- aG];simp [go_sem]))
 have zb:Below w.heap.size w W0:=by rw [<- aG];exact bN _ _
 rw [aG]
 clear aG
 have i0:=hc.to zb
 have gb:Below W0.heap.size W0 W0:=Below.refl _ _
 obtain ⟨z0,ac,ae,af,an,ap,ag,ah,al,aI,aK⟩:=am.out _ gb
 go_wp2_with fail
 refine (zaL c _ _ (i0.to gb) Hs.out true Hrt.out).mono ?_
 clear ac ag ae ah af al an aI ap aK
 rintro e w0 ⟨rfl,eP⟩
 replace gb:=bS gb eP
 obtain ⟨z0,ac,ae,af,an,ap,ag,ah,al,aI,aK⟩:=am.out _ gb
 have hgs:=gb.size
 go_wp2_with (
  at_make
  refine ziL _ rfl _ _ 67 3 rfl Tryz.underlying67 (.int .i64 0) 1 8 (by kernel_rfl) rfl (by decide) _ _ _ _ N rfl rfl HN.out HN.out (by omega) ?_
  intro w1 hr1 aX
  clear ac ag ae ah af al an aI ap aK
  replace gb:=bS gb aX
  obtain ⟨z0,ac,ae,af,an,ap,ag,ah,al,aI,aK⟩:=am.out _ gb
  rw [Nat.mul_one] at hr1
  replace hr1:zaC w1 w0.heap.size N (fun i => .int .i64 ((fun _ => 0:Int->Int) i)):=hr1.cast (fun i _ => by simp [Nat.mod_one,Value.cells]))
 obtain ⟨g,hg⟩:∃ g,w0.heap.size=g:=⟨_,rfl⟩
 have hgW:W0.heap.size<=g:=by rw [<- hg];exact hgs
 rw [hg] at hr1
 rw [hg]
 clear hg
 go_loopw [4,19] (fun s i ww => ∃ (k:Nat) (L:List Int) (wt:Int->Int) (m:Int),k<=n0/\i=.int .i64 k/\s=.int .i64 m/\Below W0.heap.size W0 ww/\zaC ww g N (fun i => .int .i64 (wt i))/\Hid (zA c L (c.all.drop k)=true)/\Hid (zam wt m (c.all.drop k)=o)/\Hid (∀ x ∈ L,0<=x/\x<(N:Int))/\Hid (Lite wt)/\Hid (0<=m/\m<=1000000)) (fun _ i _ => n0 - (intOf i).toNat)
 case atStart => exact ⟨0,[],fun _ => 0,0,Nat.zero_le _,rfl,rfl,gb,hr1,by rw [List.drop_zero];exact Ha.out,by rw [List.drop_zero];exact Ho.out,fun x hx => (by cases hx),fun r => ⟨Int.le_refl _,by show (0:Int)<=1000000;decide⟩,⟨by decide,by decide⟩⟩
 case round =>
  clear gb hr1 ac ag ae ah af al an aI ap aK
  obtain ⟨k,L,wt,m,hk,rfl,rfl,gb,hrow,HA,HV,HL,HW,Hm⟩:=hrel
  obtain ⟨z0,ac,ae,af,an,ap,ag,ah,al,aI,aK⟩:=am.out _ gb
  by_cases hkn:k<n0
  ·have hki:(k:Int)<(n0:Int):=by omega
   have hkl:k<c.all.length:=by rw [H0.out];exact hkn
   obtain ⟨b,off,rfl,h7⟩:=(i0.to gb).1.nth hkl
   have HA1:=HA.out
   rw [zdt hkl] at HA1
   have HV1:=HV.out
   rw [zhZ hkl] at HV1
   have hsx:=Hs.out _ (List.getElem_mem hkl)
   obtain ⟨x,hx⟩:∃ x,c.all[k]=x:=⟨_,rfl⟩
   rw [hx] at HA1 HV1 h7 hsx
   obtain ⟨hok,hA1⟩:=(Bool.and_eq_true _ _).mp HA1
   obtain ⟨vn,vd,s0,s1,s2,s3,s4,s5,s6,hX⟩:=h7.isX hsx.1 hsx.2
   obtain ⟨a1,n1,c1,rfl,H1,hm1⟩:=hX.1.1.open
   obtain ⟨a2,n2,c2,rfl,H2,hm2⟩:=hX.1.2.1.open
   have Hok:=Lib.hid hok
   have HA2:=Lib.hid hA1
   have HV2:=Lib.hid HV1
   clear HA HA1 HV HV1 hok hA1 h7 hsx hx hX hki
   have hki:(k:Int)<(n0:Int):=by omega
   go_wp2_with fail
   clear s0 s1 s2 s3 s4 s5 s6
   obtain ⟨W2,ds⟩:∃ W2,wr.alloc (.cells #[.int .i64 x.op,.int .i64 x.to,.int .i64 x.a,.int .i64 x.b,.bool x.q.ng,.slice a1 n1 c1,.slice a2 n2 c2] 49)=W2:=⟨_,rfl⟩
   have aR:Below wr.heap.size wr W2:=by rw [<- ds];exact bN _ _
   have HT:Hid (∀ W',Below W2.heap.size W2 W'->W'.cell? ⟨wr.heap.size,0,none⟩=some (.int .i64 x.op)/\W'.cell? ⟨wr.heap.size,1,none⟩=some (.int .i64 x.to)/\W'.cell? ⟨wr.heap.size,2,none⟩=some (.int .i64 x.a)/\W'.cell? ⟨wr.heap.size,3,none⟩=some (.int .i64 x.b)/\W'.cell? ⟨wr.heap.size,4,none⟩=some (.bool x.q.ng)/\W'.cell? ⟨wr.heap.size,5,none⟩=some (.slice a1 n1 c1)/\W'.cell? ⟨wr.heap.size,6,none⟩=some (.slice a2 n2 c2)):=fun W' hb => by
    have hl:wr.heap.size<W2.heap.size:=by rw [<- ds];simp
    refine ⟨(hb.cell (p:=⟨wr.heap.size,0,none⟩) hl).trans (by rw [<- ds];simp [go_sem]),(hb.cell (p:=⟨wr.heap.size,1,none⟩) hl).trans (by rw [<- ds];simp [go_sem]),(hb.cell (p:=⟨wr.heap.size,2,none⟩) hl).trans (by rw [<- ds];simp [go_sem]),(hb.cell (p:=⟨wr.heap.size,3,none⟩) hl).trans (by rw [<- ds];simp [go_sem]),(hb.cell (p:=⟨wr.heap.size,4,none⟩) hl).trans (by rw [<- ds];simp [go_sem]),(hb.cell (p:=⟨wr.heap.size,5,none⟩) hl).trans (by rw [<- ds];simp [go_sem]),(hb.cell (p:=⟨wr.heap.size,6,none⟩) hl).trans (by rw [<- ds];simp [go_sem])⟩
   have hgx0:=hrow.lt
   have hgx1:g≠wr.heap.size:=by omega
   have hgx2:wr.heap.size≠g:=by omega
   have hW2s:wr.heap.size<W2.heap.size:=by rw [<- ds];simp
   rw [ds]
   clear ds
   have hrow2:=hrow.to aR
   clear hrow
   clear ac ag ae ah af al an aI ap aK
   have gb2:=bS gb aR
   obtain ⟨z0,ac,ae,af,an,ap,ag,ah,al,aI,aK⟩:=am.out _ gb2
   obtain ⟨s0,s1,s2,s3,s4,s5,s6⟩:=HT.out _ (Below.refl _ _)
   go_wp2_with fail
   rcases zfK (zaE Hok.out) with hso|hso|hso|hso|hso
   ·
    have K1:Hid (decide (1<=zg x.op)=false):=by show _=_;rcases hso with e|e <;> rw [e] <;> decide
    have K2:Hid (decide (zg x.op=2)=false):=by show _=_;rcases hso with e|e <;> rw [e] <;> decide
    have K3:Hid (decide (x.op=7)=false):=by show _=_;rcases hso with e|e <;> rw [e] <;> decide
    have h10:x.op≠10:=by rcases hso with e|e <;> rw [e] <;> decide
    have t10:(x.op != 10)=true:=by simp;exact h10
    have hto:=zcN Hok.out h10
    obtain ⟨T,hT⟩:=Int.eq_ofNat_of_zero_le hto.1
    have hTN:T<N:=by have:=HN.out;omega
    rw [hT] at s1
    have em:more L x=L++[(T:Int)]:=by unfold more;rw [if_neg h10,hT]
    have HA4:Hid (zA c (L++[(T:Int)]) (c.all.drop (k+1))=true):=by show _=_;rw [<- em];exact HA2.out
    have HL4:Hid (∀ x ∈ L++[(T:Int)],0<=x/\x<(N:Int)):=fun y hy => by
     rcases List.mem_append.1 hy with hy|hy
     ·exact HL.out y hy
     ·rw [List.mem_singleton.1 hy];omega
    have hV:=HV2.out
    rw [if_neg h10] at hV
    have HW4:Hid (Lite (upd wt x.to (wOf wt x))):=HW.out.upd x
    have hwl:=zcZ HW.out x
    have Hm4:Hid (0<=max m (wOf wt x)/\max m (wOf wt x)<=1000000):=by show _/\_;have:=Hm.out;omega
    have hwo:wOf wt x=1:=by rw [zcv hso]
    obtain ⟨z,hz⟩:∃ z,wOf wt x=z:=⟨_,rfl⟩
    rw [hz] at hwo hwl Hm4 HW4 hV
    rw [hT] at HW4 hV
    have HZ:=Lib.hid hwo
    have HV4:=Lib.hid hV
    clear hV hwo hz em hto h10
    clear hso
    refine (zm x.op false false false true _ K1.out K2.out K3.out (decide_eq_true (zaE Hok.out))).mono ?_
    rintro e w3 ⟨rfl,bZ⟩
    have q1:=s1
    clear s0 s1 s2 s3 s4 s5 s6
    clear ac ag ae ah af al an aI ap aK
    have gb3:=bS gb2 bZ
    have hrow3:=hrow2.to bZ
    have gl:=hrow3.lt
    have hxl:wr.heap.size<w3.heap.size:=Nat.lt_of_lt_of_le hW2s bZ.size
    obtain ⟨s0,s1,s2,s3,s4,s5,s6⟩:=HT.out _ bZ
    obtain ⟨z0,ac,ae,af,an,ap,ag,ah,al,aI,aK⟩:=am.out _ gb3
    rw [hT] at s1
    obtain ⟨rT,fT⟩:=hrow3.2 T hTN
    have hTi:(T:Int)<(N:Int):=by omega
    have HTT:=Lib.hid hT
    clear hrow2 hT
    obtain ⟨j0,j1,j2,j3,j4,j5,j6⟩:=HT.out _ (bS bZ (bN w3 (.cells #[.bool false,.bool false,.bool false] 70)))
    have hrow4:=hrow3.alloc (.cells #[.bool false,.bool false,.bool false] 70)
    rw [HTT.out] at j1
    obtain ⟨rT4,fT4⟩:=hrow4.2 T hTN
    go_wp2_with fail
    go_roundw
    case rel =>
     obtain rfl:=HZ.out
     exact ⟨k+1,L++[(T:Int)],upd wt (T:Int) _,max m _,by omega,by go_num,rfl,(gb3.setCell hgW _).alloc (by simp;omega) _,((hrow3.set T _).cast (fun i _ => zfr (N:=N) i)).alloc _,HA4,HV4,HL4,HW4,Hm4⟩
    case measure => simp [intOf] <;> omega
   ·
    have K1:Hid (decide (1<=zg x.op)=true):=by show _=_;rw [hso];decide
    have K2:Hid (decide (zg x.op=2)=true):=by show _=_;rw [hso];decide
    have K3:Hid (decide (x.op=7)=false):=by show _=_;refine decide_eq_false (fun e => ?_);rw [e] at hso;exact absurd hso (by decide)
    have h10:x.op≠10:=fun e => by rw [e] at hso;exact absurd hso (by decide)
    have t10:(x.op != 10)=true:=by simp;exact h10
    have hto:=zcN Hok.out h10
    obtain ⟨T,hT⟩:=Int.eq_ofNat_of_zero_le hto.1
    have hTN:T<N:=by have:=HN.out;omega
    rw [hT] at s1
    have em:more L x=L++[(T:Int)]:=by unfold more;rw [if_neg h10,hT]
    have HA4:Hid (zA c (L++[(T:Int)]) (c.all.drop (k+1))=true):=by show _=_;rw [<- em];exact HA2.out
    have HL4:Hid (∀ x ∈ L++[(T:Int)],0<=x/\x<(N:Int)):=fun y hy => by
     rcases List.mem_append.1 hy with hy|hy
     ·exact HL.out y hy
     ·rw [List.mem_singleton.1 hy];omega
    have hV:=HV2.out
    rw [if_neg h10] at hV
    have HW4:Hid (Lite (upd wt x.to (wOf wt x))):=HW.out.upd x
    have hwl:=zcZ HW.out x
    have Hm4:Hid (0<=max m (wOf wt x)/\max m (wOf wt x)<=1000000):=by show _/\_;have:=Hm.out;omega
    have ha:=HL.out _ (zO Hok.out (by omega))
    obtain ⟨A,hA⟩:=Int.eq_ofNat_of_zero_le ha.1
    have hAN:A<N:=by omega
    rw [hA] at s2
    have hAi:(A:Int)<(N:Int):=by omega
    obtain ⟨za,hza⟩:∃ z,wt (A:Int)=z:=⟨_,rfl⟩
    have la:=HW.out (A:Int)
    rw [hza] at la
    have hb:=HL.out _ (zau Hok.out hso)
    obtain ⟨Bb,hB⟩:=Int.eq_ofNat_of_zero_le hb.1
    have hBN:Bb<N:=by omega
    rw [hB] at s3
    have hBi:(Bb:Int)<(N:Int):=by omega
    obtain ⟨zb',hzb⟩:∃ z,wt (Bb:Int)=z:=⟨_,rfl⟩
    have lb:=HW.out (Bb:Int)
    rw [hzb] at lb
    have hsum:IntKind.i64.wrap (za+zb')=za+zb':=IntWalk.i64_in _ (by omega)
    have hwo:wOf wt x=min (za+zb') 1000000:=by rw [zed hso,hA,hB,hza,hzb]
    obtain ⟨z,hz⟩:∃ z,wOf wt x=z:=⟨_,rfl⟩
    rw [hz] at hwo hwl Hm4 HW4 hV
    rw [hT] at HW4 hV
    have HZ:=Lib.hid hwo
    have HV4:=Lib.hid hV
    clear hV hwo hz em hto h10
    clear hso
    refine (zm x.op true true false true _ K1.out K2.out K3.out (decide_eq_true (zaE Hok.out))).mono ?_
    rintro e w3 ⟨rfl,bZ⟩
    have q1:=s1
    clear s0 s1 s2 s3 s4 s5 s6
    clear ac ag ae ah af al an aI ap aK
    have gb3:=bS gb2 bZ
    have hrow3:=hrow2.to bZ
    have gl:=hrow3.lt
    have hxl:wr.heap.size<w3.heap.size:=Nat.lt_of_lt_of_le hW2s bZ.size
    obtain ⟨s0,s1,s2,s3,s4,s5,s6⟩:=HT.out _ bZ
    obtain ⟨z0,ac,ae,af,an,ap,ag,ah,al,aI,aK⟩:=am.out _ gb3
    rw [hT] at s1
    obtain ⟨rT,fT⟩:=hrow3.2 T hTN
    have hTi:(T:Int)<(N:Int):=by omega
    rw [hA] at s2
    have qa:w3.cell? ⟨g,A,none⟩=some (.int .i64 za):=by rw [<- hza];exact (hrow3.2 A hAN).1
    rw [hB] at s3
    have qb:w3.cell? ⟨g,Bb,none⟩=some (.int .i64 zb'):=by rw [<- hzb];exact (hrow3.2 Bb hBN).1
    have HTT:=Lib.hid hT
    have HAA:=Lib.hid hA
    have HZA:=Lib.hid hza
    have HBB:=Lib.hid hB
    have HZB:=Lib.hid hzb
    clear hrow2 hA hza ha hB hzb hb hT
    obtain ⟨j0,j1,j2,j3,j4,j5,j6⟩:=HT.out _ (bS bZ (bN w3 (.cells #[.bool true,.bool true,.bool false] 70)))
    have hrow4:=hrow3.alloc (.cells #[.bool true,.bool true,.bool false] 70)
    rw [HTT.out] at j1
    obtain ⟨rT4,fT4⟩:=hrow4.2 T hTN
    rw [HAA.out] at j2
    have qa4:(w3.alloc (.cells #[.bool true,.bool true,.bool false] 70)).cell? ⟨g,A,none⟩=some (.int .i64 za):=by rw [<- HZA.out];exact (hrow4.2 A hAN).1
    rw [HBB.out] at j3
    have qb4:(w3.alloc (.cells #[.bool true,.bool true,.bool false] 70)).cell? ⟨g,Bb,none⟩=some (.int .i64 zb'):=by rw [<- HZB.out];exact (hrow4.2 Bb hBN).1
    go_wp2_with fail
    go_roundw
    case rel =>
     obtain rfl:=HZ.out
     exact ⟨k+1,L++[(T:Int)],upd wt (T:Int) _,max m _,by omega,by go_num,rfl,(gb3.setCell hgW _).alloc (by simp;omega) _,((hrow3.set T _).cast (fun i _ => zfr (N:=N) i)).alloc _,HA4,HV4,HL4,HW4,Hm4⟩
    case measure => simp [intOf] <;> omega
   ·
    have K1:Hid (decide (1<=zg x.op)=true):=by show _=_;rw [hso];decide
    have K2:Hid (decide (zg x.op=2)=false):=by show _=_;rw [hso];decide
    have K3:Hid (decide (x.op=7)=false):=by show _=_;rw [hso];decide
    have h10:x.op≠10:=by rw [hso];decide
    have t10:(x.op != 10)=true:=by simp;exact h10
    have hto:=zcN Hok.out h10
    obtain ⟨T,hT⟩:=Int.eq_ofNat_of_zero_le hto.1
    have hTN:T<N:=by have:=HN.out;omega
    rw [hT] at s1
    have em:more L x=L++[(T:Int)]:=by unfold more;rw [if_neg h10,hT]
    have HA4:Hid (zA c (L++[(T:Int)]) (c.all.drop (k+1))=true):=by show _=_;rw [<- em];exact HA2.out
    have HL4:Hid (∀ x ∈ L++[(T:Int)],0<=x/\x<(N:Int)):=fun y hy => by
     rcases List.mem_append.1 hy with hy|hy
     ·exact HL.out y hy
     ·rw [List.mem_singleton.1 hy];omega
    have hV:=HV2.out
    rw [if_neg h10] at hV
    have HW4:Hid (Lite (upd wt x.to (wOf wt x))):=HW.out.upd x
    have hwl:=zcZ HW.out x
    have Hm4:Hid (0<=max m (wOf wt x)/\max m (wOf wt x)<=1000000):=by show _/\_;have:=Hm.out;omega
    have ha:=HL.out _ (zO Hok.out (by rw [hso];decide))
    obtain ⟨A,hA⟩:=Int.eq_ofNat_of_zero_le ha.1
    have hAN:A<N:=by omega
    rw [hA] at s2
    have hAi:(A:Int)<(N:Int):=by omega
    obtain ⟨za,hza⟩:∃ z,wt (A:Int)=z:=⟨_,rfl⟩
    have la:=HW.out (A:Int)
    rw [hza] at la
    have hwo:wOf wt x=min za 1000000:=by rw [zeb hso,hA,hza]
    obtain ⟨z,hz⟩:∃ z,wOf wt x=z:=⟨_,rfl⟩
    rw [hz] at hwo hwl Hm4 HW4 hV
    rw [hT] at HW4 hV
    have HZ:=Lib.hid hwo
    have HV4:=Lib.hid hV
    clear hV hwo hz em hto h10
    clear hso
    refine (zm x.op true false false true _ K1.out K2.out K3.out (decide_eq_true (zaE Hok.out))).mono ?_
    rintro e w3 ⟨rfl,bZ⟩
    have q1:=s1
    clear s0 s1 s2 s3 s4 s5 s6
    clear ac ag ae ah af al an aI ap aK
    have gb3:=bS gb2 bZ
    have hrow3:=hrow2.to bZ
    have gl:=hrow3.lt
    have hxl:wr.heap.size<w3.heap.size:=Nat.lt_of_lt_of_le hW2s bZ.size
    obtain ⟨s0,s1,s2,s3,s4,s5,s6⟩:=HT.out _ bZ
    obtain ⟨z0,ac,ae,af,an,ap,ag,ah,al,aI,aK⟩:=am.out _ gb3
    rw [hT] at s1
    obtain ⟨rT,fT⟩:=hrow3.2 T hTN
    have hTi:(T:Int)<(N:Int):=by omega
    rw [hA] at s2
    have qa:w3.cell? ⟨g,A,none⟩=some (.int .i64 za):=by rw [<- hza];exact (hrow3.2 A hAN).1
    have HTT:=Lib.hid hT
    have HAA:=Lib.hid hA
    have HZA:=Lib.hid hza
    clear hrow2 hA hza ha hT
    obtain ⟨j0,j1,j2,j3,j4,j5,j6⟩:=HT.out _ (bS bZ (bN w3 (.cells #[.bool true,.bool false,.bool false] 70)))
    have hrow4:=hrow3.alloc (.cells #[.bool true,.bool false,.bool false] 70)
    rw [HTT.out] at j1
    obtain ⟨rT4,fT4⟩:=hrow4.2 T hTN
    rw [HAA.out] at j2
    have qa4:(w3.alloc (.cells #[.bool true,.bool false,.bool false] 70)).cell? ⟨g,A,none⟩=some (.int .i64 za):=by rw [<- HZA.out];exact (hrow4.2 A hAN).1
    go_wp2_with fail
    go_roundw
    case rel =>
     obtain rfl:=HZ.out
     exact ⟨k+1,L++[(T:Int)],upd wt (T:Int) _,max m _,by omega,by go_num,rfl,(gb3.setCell hgW _).alloc (by simp;omega) _,((hrow3.set T _).cast (fun i _ => zfr (N:=N) i)).alloc _,HA4,HV4,HL4,HW4,Hm4⟩
    case measure => simp [intOf] <;> omega
   ·
    have K1:Hid (decide (1<=zg x.op)=true):=by show _=_;rw [hso];decide
    have K2:Hid (decide (zg x.op=2)=false):=by show _=_;rw [hso];decide
    have K3:Hid (decide (x.op=7)=true):=by show _=_;rw [hso];decide
    have h10:x.op≠10:=by rw [hso];decide
    have t10:(x.op != 10)=true:=by simp;exact h10
    have hto:=zcN Hok.out h10
    obtain ⟨T,hT⟩:=Int.eq_ofNat_of_zero_le hto.1
    have hTN:T<N:=by have:=HN.out;omega
    rw [hT] at s1
    have em:more L x=L++[(T:Int)]:=by unfold more;rw [if_neg h10,hT]
    have HA4:Hid (zA c (L++[(T:Int)]) (c.all.drop (k+1))=true):=by show _=_;rw [<- em];exact HA2.out
    have HL4:Hid (∀ x ∈ L++[(T:Int)],0<=x/\x<(N:Int)):=fun y hy => by
     rcases List.mem_append.1 hy with hy|hy
     ·exact HL.out y hy
     ·rw [List.mem_singleton.1 hy];omega
    have hV:=HV2.out
    rw [if_neg h10] at hV
    have HW4:Hid (Lite (upd wt x.to (wOf wt x))):=HW.out.upd x
    have hwl:=zcZ HW.out x
    have Hm4:Hid (0<=max m (wOf wt x)/\max m (wOf wt x)<=1000000):=by show _/\_;have:=Hm.out;omega
    have ha:=HL.out _ (zO Hok.out (by rw [hso];decide))
    obtain ⟨A,hA⟩:=Int.eq_ofNat_of_zero_le ha.1
    have hAN:A<N:=by omega
    rw [hA] at s2
    have hAi:(A:Int)<(N:Int):=by omega
    obtain ⟨za,hza⟩:∃ z,wt (A:Int)=z:=⟨_,rfl⟩
    have la:=HW.out (A:Int)
    rw [hza] at la
    have hb:=zel Hok.out hso
    obtain ⟨xb,hxb⟩:∃ z,x.b=z:=⟨_,rfl⟩
    rw [hxb] at hb s3
    have hneg:IntKind.i64.wrap (-xb)=-xb:=IntWalk.i64_in _ (by omega)
    obtain ⟨mx,hmx⟩:∃ z,max 1 (max xb (-xb))=z:=⟨_,rfl⟩
    have hmb:1<=mx/\mx<=21:=by omega
    have hpr:=zjV la hmb
    obtain ⟨pr,hpr'⟩:∃ z,za*mx=z:=⟨_,rfl⟩
    rw [hpr'] at hpr
    have hmul:IntKind.i64.wrap pr=pr:=IntWalk.i64_in _ (by omega)
    have hwo:wOf wt x=min pr 1000000:=by rw [zec hso,hA,hza,hxb,hmx,hpr']
    obtain ⟨z,hz⟩:∃ z,wOf wt x=z:=⟨_,rfl⟩
    rw [hz] at hwo hwl Hm4 HW4 hV
    rw [hT] at HW4 hV
    have HZ:=Lib.hid hwo
    have HV4:=Lib.hid hV
    clear hV hwo hz em hto h10
    clear hso
    refine (zm x.op true false true true _ K1.out K2.out K3.out (decide_eq_true (zaE Hok.out))).mono ?_
    rintro e w3 ⟨rfl,bZ⟩
    have q1:=s1
    clear s0 s1 s2 s3 s4 s5 s6
    clear ac ag ae ah af al an aI ap aK
    have gb3:=bS gb2 bZ
    have hrow3:=hrow2.to bZ
    have gl:=hrow3.lt
    have hxl:wr.heap.size<w3.heap.size:=Nat.lt_of_lt_of_le hW2s bZ.size
    obtain ⟨s0,s1,s2,s3,s4,s5,s6⟩:=HT.out _ bZ
    obtain ⟨z0,ac,ae,af,an,ap,ag,ah,al,aI,aK⟩:=am.out _ gb3
    rw [hT] at s1
    obtain ⟨rT,fT⟩:=hrow3.2 T hTN
    have hTi:(T:Int)<(N:Int):=by omega
    rw [hA] at s2
    have qa:w3.cell? ⟨g,A,none⟩=some (.int .i64 za):=by rw [<- hza];exact (hrow3.2 A hAN).1
    rw [hxb] at s3
    have HTT:=Lib.hid hT
    have HAA:=Lib.hid hA
    have HZA:=Lib.hid hza
    have HXB:=Lib.hid hxb
    clear hrow2 hA hza ha hxb hb hT
    have hmx':(if (if 1<xb then xb else 1) < -xb then -xb else if 1<xb then xb else 1)=mx:=by rw [<- hmx];split <;> split <;> omega
    clear hmx
    obtain ⟨j0,j1,j2,j3,j4,j5,j6⟩:=HT.out _ (bS bZ (bN w3 (.cells #[.bool true,.bool false,.bool true] 70)))
    have hrow4:=hrow3.alloc (.cells #[.bool true,.bool false,.bool true] 70)
    rw [HTT.out] at j1
    obtain ⟨rT4,fT4⟩:=hrow4.2 T hTN
    rw [HAA.out] at j2
    have qa4:(w3.alloc (.cells #[.bool true,.bool false,.bool true] 70)).cell? ⟨g,A,none⟩=some (.int .i64 za):=by rw [<- HZA.out];exact (hrow4.2 A hAN).1
    rw [HXB.out] at j3
    go_wp2_with fail
    go_roundw
    case rel =>
     obtain rfl:=HZ.out
     exact ⟨k+1,L++[(T:Int)],upd wt (T:Int) _,max m _,by omega,by go_num,rfl,(gb3.setCell hgW _).alloc (by simp;omega) _,((hrow3.set T _).cast (fun i _ => zfr (N:=N) i)).alloc _,HA4,HV4,HL4,HW4,Hm4⟩
    case measure => simp [intOf] <;> omega
   ·
    have K1:Hid (decide (1<=zg x.op)=true):=by show _=_;rw [hso];decide
    have K2:Hid (decide (zg x.op=2)=false):=by show _=_;rw [hso];decide
    have K3:Hid (decide (x.op=7)=false):=by show _=_;rw [hso];decide
    have t10:(x.op != 10)=false:=by simp;exact hso
    have em:more L x=L:=by unfold more;rw [if_pos hso]
    have HA4:Hid (zA c L (c.all.drop (k+1))=true):=by show _=_;rw [<- em];exact HA2.out
    have hV:=HV2.out
    rw [if_pos hso] at hV
    have HV4:=Lib.hid hV
    clear hV
    have ha:=HL.out _ (zO Hok.out (by rw [hso];decide))
    obtain ⟨A,hA⟩:=Int.eq_ofNat_of_zero_le ha.1
    have hAN:A<N:=by omega
    rw [hA] at s2
    have hAi:(A:Int)<(N:Int):=by omega
    obtain ⟨za,hza⟩:∃ z,wt (A:Int)=z:=⟨_,rfl⟩
    have la:=HW.out (A:Int)
    rw [hza] at la
    clear hso
    refine (zm x.op true false false true _ K1.out K2.out K3.out (decide_eq_true (zaE Hok.out))).mono ?_
    rintro e w3 ⟨rfl,bZ⟩
    have q1:=s1
    clear s0 s1 s2 s3 s4 s5 s6
    clear ac ag ae ah af al an aI ap aK
    have gb3:=bS gb2 bZ
    have hrow3:=hrow2.to bZ
    have gl:=hrow3.lt
    have hxl:wr.heap.size<w3.heap.size:=Nat.lt_of_lt_of_le hW2s bZ.size
    obtain ⟨s0,s1,s2,s3,s4,s5,s6⟩:=HT.out _ bZ
    obtain ⟨z0,ac,ae,af,an,ap,ag,ah,al,aI,aK⟩:=am.out _ gb3
    rw [hA] at s2
    have qa:w3.cell? ⟨g,A,none⟩=some (.int .i64 za):=by rw [<- hza];exact (hrow3.2 A hAN).1
    have HAA:=Lib.hid hA
    have HZA:=Lib.hid hza
    clear hrow2 hA hza ha em
    obtain ⟨j0,j1,j2,j3,j4,j5,j6⟩:=HT.out _ (bS bZ (bN w3 (.cells #[.bool true,.bool false,.bool false] 70)))
    have hrow4:=hrow3.alloc (.cells #[.bool true,.bool false,.bool false] 70)
    rw [HAA.out] at j2
    have qa4:(w3.alloc (.cells #[.bool true,.bool false,.bool false] 70)).cell? ⟨g,A,none⟩=some (.int .i64 za):=by rw [<- HZA.out];exact (hrow4.2 A hAN).1
    go_wp2_with fail
    go_roundw
    case rel => exact ⟨k+1,L,wt,m,by omega,by go_num,rfl,gb3.alloc (Nat.le_trans hgW (Nat.le_of_lt gl)) _,hrow3.alloc _,HA4,HV4,HL,HW,Hm⟩
    case measure => simp [intOf] <;> omega
  ·obtain rfl:k=n0:=by omega
   have ho:m=o:=by
    have:=HV.out
    rw [<- H0.out,List.drop_length] at this
    exact this
   subst ho
   go_wp2_with fail
   go_ret
   exact ⟨rfl,bS zb gb⟩

theorem zbZ (c:Cd) (v:Value) (w:World) (hc:IsC w c v) (hs:zac 1000 c.all) (o:Int) (ho:zU c=o) :
  Calls Tryz.prog 16 #[aggC c v] w (fun e w' => e=.returned (.int .i64 o)/\Below w.heap.size w w'):=by
 unfold zU at ho
 cases h1:zr c with
 | false => rw [h1] at ho;obtain rfl:0=o:=ho;exact ziy c v w hc hs h1
 | true => rw [h1,if_pos rfl] at ho;exact zhE c v w hc hs h1 o ho

end Go.Proofs.YtkjcdnlpjldhaaaGreat


namespace Go.Proofs.YtkjcdnlpjldhaaaGreat
open Go.RowKit Tw
attribute [local go_sem ↓] Go.wp_at_zero Go.wp_at_succ

end Go.Proofs.YtkjcdnlpjldhaaaGreat


namespace Go.Proofs.YtkjcdnlpjldhaaaGreat
open Go.RowKit Tw

structure Tn where
 op:Nat
 to:Nat
 a:Nat
 b:Nat

def i8 (a:Nat):Int:=if a % 256<128 then ((a % 256:Nat):Int) else ((a % 256:Nat):Int) - 256

def zK (n:Int) (d:Nat):Rat:=rat (decide (n<0)) n.natAbs (d+1)

def zM:Rt:=⟨false,[],[]⟩

def zS (wr:List Int) (t:Tn):Int:=if wr.length=0/\1<t.op % 11 then 0 else ((t.op % 11:Nat):Int)

def zbC (op:Int):Prop:=1<op/\op≠6/\op≠7/\op≠10

instance (op:Int):Decidable (zbC op):=by unfold zbC;exact inferInstance

def zfG (wr ws:List Int) (t:Tn):Int:=if 1<zS wr t then ws.getD (t.a % wr.length) 0 else 1

def zdQ (wr ws:List Int) (t:Tn):Int:=if zbC (zS wr t) then zfG wr ws t+ws.getD (t.b % wr.length) 0 else zfG wr ws t

def nOf (wr ws:List Int) (t:Tn):Int:=if zS wr t=7 then 4*zdQ wr ws t else zdQ wr ws t

def qOf (t:Tn):Rt:=zi (zK (i8 t.a) (t.b % 4))

def zB (I G RC:Nat) (wr ws:List Int) (t:Tn):Ins :=
 if 12<nOf wr ws t then ⟨1,((t.to % G:Nat):Int),0,0,qOf t⟩
 else ⟨zS wr t,if zS wr t=10 then ((t.to % RC:Nat):Int) else ((t.to % G:Nat):Int),
  if zS wr t=0 then ((t.a % I:Nat):Int) else if 1<zS wr t then wr.getD (t.a % wr.length) 0 else 0,
  if zS wr t=7 then ((t.b % 9:Nat):Int) - 4 else if zbC (zS wr t) then wr.getD (t.b % wr.length) 0 else 0,
  if zS wr t=1 then qOf t else zM⟩

def zgh (wr ws:List Int) (t:Tn):Int:=if 12<nOf wr ws t then 1 else nOf wr ws t

def zas (wr:List Int) (r:Int):List Int:=if r ∈ wr then wr else wr++[r]

def zaB (wr ws:List Int) (r n:Int):List Int:=if r ∈ wr then ws.set (wr.idxOf r) n else ws++[n]

def zao (I G RC:Nat):List Int->List Int->List Tn->List Ins
 | _,_,[] => []
 | wr,ws,t :: l => zB I G RC wr ws t :: (if (zB I G RC wr ws t).op=10 then zao I G RC wr ws l else zao I G RC (zas wr (zB I G RC wr ws t).to) (zaB wr ws (zB I G RC wr ws t).to (zgh wr ws t)) l)

def zcc (ins rows regs:Nat) (l:List Tn):Cd :=
 ⟨((1+ins % 3:Nat):Int),((1+rows % 3:Nat):Int),((1+ins % 3:Nat):Int),((1+regs % 6:Nat):Int),zao (1+ins % 3) (1+regs % 6) ((1+rows % 3)*(1+ins % 3)) [] [] l⟩

theorem zia (a:Nat):-128<=i8 a/\i8 a<=127:=by unfold i8;split <;> omega

theorem zeC {n:Int} {d:Nat} (h:-128<=n/\n<=128) (hd:d<4):szq (zK n d)<=1:=by
 unfold zK
 have h1:=zdm (decide (n<0)) n.natAbs (d+1)
 have h2:sz n.natAbs<=1:=zcW (by rw [Nat.pow_one];unfold B;omega)
 have h3:sz (d+1)<=1:=zcW (by rw [Nat.pow_one];unfold B;omega)
 omega

theorem qOf_sz (t:Tn):szq (zK (i8 t.a) (t.b % 4))<=1:=zeC (by have:=zia t.a;omega) (Nat.mod_lt _ (by decide))

theorem qOf_ok (t:Tn):zcS (qOf t).ng (qOf t).n (qOf t).d (qOf t).num=true/\(zbp (val (qOf t).n)).length<=40/\(zbp (val (qOf t).d)).length<=40:=by
 have h:=qOf_sz t
 have h1:=zak (zK (i8 t.a) (t.b % 4))
 have h2:=zX (zK (i8 t.a) (t.b % 4))
 refine ⟨?_,?_,?_⟩
 ·unfold qOf
  rw [zdb]
  unfold zcS zi
  simp
 ·show (zbp (val (zc _))).length<=40
  rw [vL]
  have:=zgw (show sz _<=1 from Nat.le_trans h1 h)
  omega
 ·show (zbp (val (zc _))).length<=40
  rw [vL]
  have:=zgw (show sz _<=1 from Nat.le_trans h2 h)
  omega

theorem zbr (wr:List Int) (t:Tn):0<=zS wr t/\zS wr t<=10/\(1<zS wr t->0<wr.length):=by
 unfold zS
 have:=Nat.mod_lt t.op (show 0<11 by decide)
 split
 ·omega
 ·refine ⟨by omega,by omega,fun h => ?_⟩
  rename_i k
  rcases Nat.eq_zero_or_pos wr.length with e|e
  ·exact absurd ⟨e,by omega⟩ k
  ·exact e

theorem zdN {l:List Int} {i:Nat} (h:i<l.length):l.getD i 0 ∈ l:=by
 rw [show l.getD i 0=l[i] by simp [h]]
 exact List.getElem_mem h

structure zeX (G:Nat) (wr ws L:List Int) (wt:Int->Int):Prop where
 len:ws.length=wr.length
 nd:wr.Nodup
 rng:∀ r ∈ wr,0<=r/\r<(G:Int)
 sub:∀ r ∈ wr,r ∈ L
 wts:∀ i,i<wr.length->1<=wt (wr.getD i 0)/\wt (wr.getD i 0)<=ws.getD i 0/\ws.getD i 0<=12

section

variable {I G RC:Nat} {wr ws L:List Int} {wt:Int->Int} {t:Tn} {c:Cd}

theorem zeX.nil (G:Nat) (wt:Int->Int):zeX G [] [] [] wt:=⟨rfl,List.nodup_nil,(fun _ h => by cases h),(fun _ h => by cases h),(fun i h => by cases h)⟩

theorem zeX.note (h:zeX G wr ws L wt) {r n z:Int} (hr:0<=r/\r<(G:Int)) (hz:1<=z/\z<=n) (hn:n<=12):zeX G (zas wr r) (zaB wr ws r n) (L++[r]) (upd wt r z):=by
 unfold zas zaB
 by_cases k:r ∈ wr
 ·rw [if_pos k,if_pos k]
  have hi:=List.idxOf_lt_length_of_mem k
  have hg:wr.getD (wr.idxOf r) 0=r:=by simp [hi]
  refine ⟨by rw [List.length_set];exact h.len,h.nd,h.rng,fun x hx => List.mem_append_left _ (h.sub x hx),fun i hil => ?_⟩
  by_cases e:i=wr.idxOf r
  ·subst e
   rw [hg,zbD]
   have:(ws.set (wr.idxOf r) n).getD (wr.idxOf r) 0=n:=by simp [h.len,hi]
   rw [this]
   omega
  ·have hne:wr.getD i 0≠r:=fun e2 => e (by
    have e3:wr[i]=wr[wr.idxOf r]:=by
     have a1:wr.getD i 0=wr[i]:=by simp [hil]
     have a2:wr.getD (wr.idxOf r) 0=wr[wr.idxOf r]:=by simp [hi]
     rw [<- a1,<- a2,hg,e2]
    exact (List.getElem_inj h.nd).1 e3)
   rw [zaP _ _ hne]
   have:(ws.set (wr.idxOf r) n).getD i 0=ws.getD i 0:=by
    simp only [List.getD_eq_getElem?_getD,List.getElem?_set]
    rw [if_neg (fun k => e k.symm)]
   rw [this]
   exact h.wts i hil
 ·rw [if_neg k,if_neg k]
  refine ⟨by simp [h.len],?_,fun x hx => ?_,fun x hx => ?_,fun i hil => ?_⟩
  ·rw [List.nodup_append]
   exact ⟨h.nd,by simp,fun a ha b hb => by rw [List.mem_singleton.1 hb];exact fun e => k (e ▸ ha)⟩
  ·rcases List.mem_append.1 hx with hx|hx
   ·exact h.rng x hx
   ·rw [List.mem_singleton.1 hx];exact hr
  ·rcases List.mem_append.1 hx with hx|hx
   ·exact List.mem_append_left _ (h.sub x hx)
   ·exact List.mem_append_right _ hx
  ·rcases Nat.lt_or_ge i wr.length with hlt|hge
   ·have a1:(wr++[r]).getD i 0=wr.getD i 0:=by simp [List.getElem?_append_left hlt]
    have a2:(ws++[n]).getD i 0=ws.getD i 0:=by simp [List.getElem?_append_left (show i<ws.length by rw [h.len];exact hlt)]
    have hne:wr.getD i 0≠r:=fun e => k (e ▸ zdN hlt)
    rw [a1,a2,zaP _ _ hne]
    exact h.wts i hlt
   ·have e:i=wr.length:=by simp at hil;omega
    subst e
    have a1:(wr++[r]).getD wr.length 0=r:=by simp
    have a2:(ws++[n]).getD wr.length 0=n:=by rw [<- h.len];simp
    rw [a1,a2,zbD]
    omega

theorem zds {op:Int} (h0:0<=op/\op<=10) (h:zbC op):zg op=2:=by
 unfold zbC at h
 unfold zg
 rw [if_neg (by omega),if_pos (by omega)]

theorem zgk {op:Int} (h0:0<=op/\op<=10) (h:¬ zbC op):zg op≠2:=by
 unfold zbC at h
 unfold zg
 split
 ·decide
 ·rw [if_neg (by omega)]
  split <;> decide

theorem zkF {op:Int} (h0:0<=op/\op<=10):0<=zg op:=by
 unfold zg
 split
 ·decide
 ·split
  ·decide
  ·rw [if_pos (by omega)];decide

theorem zkB (hI:0<I) (hG:0<G) (hRC:0<RC) (hc:c.ins=(I:Int)) (hg:c.regs=(G:Int)) (hm:c.rows*c.cols=(RC:Int)) (h:zeX G wr ws L wt):zq c L (zB I G RC wr ws t)=true:=by
 have hq:=qOf_ok t
 obtain ⟨o1,o2,o3⟩:=zbr wr t
 unfold zB
 by_cases hb:12<nOf wr ws t
 ·rw [if_pos hb]
  unfold zq zbV aOk bOk zE
  have:t.to % G<G:=Nat.mod_lt _ hG
  have e:zg 1=0:=by decide
  simp [e,hq,hg]
  omega
 ·rw [if_neg hb]
  unfold zq
  simp only [Bool.and_eq_true,decide_eq_true_eq]
  refine ⟨⟨⟨⟨zkF ⟨o1,o2⟩,?_⟩,?_⟩,?_⟩,?_⟩
  ·unfold zbV
   by_cases e1:zS wr t=1
   ·simp [e1,hq]
   ·simp [e1,zM]
  ·unfold aOk
   simp only
   by_cases e0:zS wr t=0
   ·have:=Nat.mod_lt t.a hI
    simp [e0,hc]
    omega
   ·by_cases e1:zS wr t=1
    ·simp [e1]
    ·have h1:1<zS wr t:=by omega
     rw [if_neg e0,if_neg e1,if_neg e0,if_pos h1]
     exact decide_eq_true (h.sub _ (zdN (Nat.mod_lt _ (o3 h1))))
  ·unfold bOk
   simp only
   by_cases e7:zS wr t=7
   ·rw [if_pos e7,if_pos e7]
    have:=Nat.mod_lt t.b (show 0<9 by decide)
    exact decide_eq_true (by omega)
   ·rw [if_neg e7,if_neg e7]
    by_cases e2:zbC (zS wr t)
    ·rw [if_pos e2,if_pos (zds ⟨o1,o2⟩ e2)]
     exact decide_eq_true (h.sub _ (zdN (Nat.mod_lt _ (o3 e2.1))))
    ·rw [if_neg e2,if_neg (zgk ⟨o1,o2⟩ e2)]
     exact decide_eq_true rfl
  ·unfold zE
   simp only
   by_cases e:zS wr t=10
   ·have:=Nat.mod_lt t.to hRC
    rw [if_pos e,if_pos e,hm]
    omega
   ·have:=Nat.mod_lt t.to hG
    rw [if_neg e,if_neg e,hg]
    omega

theorem nOf_pos (h:zeX G wr ws L wt):1<=nOf wr ws t:=by
 obtain ⟨o1,o2,o3⟩:=zbr wr t
 have h1:1<=zfG wr ws t:=by
  unfold zfG
  split
  ·rename_i k
   have:=h.wts _ (Nat.mod_lt t.a (o3 k))
   omega
  ·omega
 have h2:1<=zdQ wr ws t:=by
  unfold zdQ
  split
  ·rename_i k
   have:=h.wts _ (Nat.mod_lt t.b (o3 k.1))
   omega
  ·exact h1
 unfold nOf
 split <;> omega

theorem zeP (h:zeX G wr ws L wt) (h10:(zB I G RC wr ws t).op≠10):1<=wOf wt (zB I G RC wr ws t)/\wOf wt (zB I G RC wr ws t)<=zgh wr ws t/\zgh wr ws t<=12:=by
 obtain ⟨o1,o2,o3⟩:=zbr wr t
 have hp:=nOf_pos (t:=t) h
 unfold zgh
 unfold zB at h10 ⊢
 by_cases hb:12<nOf wr ws t
 ·rw [if_pos hb,if_pos hb,zcv (.inr rfl)]
  omega
 ·rw [if_neg hb] at h10 ⊢
  rw [if_neg hb]
  simp only at h10
  refine (fun (k:1<=_/\_<=nOf wr ws t) => ⟨k.1,k.2,by omega⟩) ?_
  by_cases e0:zS wr t=0\/zS wr t=1
  ·rw [zcv e0]
   exact ⟨by omega,hp⟩
  ·have h1:1<zS wr t:=by omega
   have wa:=h.wts _ (Nat.mod_lt t.a (o3 h1))
   have hn1:zfG wr ws t=ws.getD (t.a % wr.length) 0:=if_pos h1
   by_cases e2:zbC (zS wr t)
   ·have wb:=h.wts _ (Nat.mod_lt t.b (o3 h1))
    have e7:zS wr t≠7:=e2.2.2.1
    have hn:nOf wr ws t=ws.getD (t.a % wr.length) 0+ws.getD (t.b % wr.length) 0:=by
     unfold nOf zdQ
     rw [if_neg e7,if_pos e2,hn1]
    rw [zed (zds ⟨o1,o2⟩ e2),hn]
    simp only
    rw [if_neg (by omega),if_pos h1,if_neg e7,if_pos e2]
    omega
   ·have hn2:zdQ wr ws t=ws.getD (t.a % wr.length) 0:=by unfold zdQ;rw [if_neg e2,hn1]
    by_cases e7:zS wr t=7
    ·have hn:nOf wr ws t=4*ws.getD (t.a % wr.length) 0:=by unfold nOf;rw [if_pos e7,hn2]
     rw [zec e7,hn]
     simp only
     rw [if_neg (by omega),if_pos h1,if_pos e7]
     have fG:=Nat.mod_lt t.b (show 0<9 by decide)
     obtain ⟨m,hm⟩:∃ m,max 1 (max (((t.b % 9:Nat):Int) - 4) (-(((t.b % 9:Nat):Int) - 4)))=m:=⟨_,rfl⟩
     rw [hm]
     have hm1:1<=m/\m<=4:=by omega
     obtain ⟨x,hx⟩:∃ x,wt (wr.getD (t.a % wr.length) 0)=x:=⟨_,rfl⟩
     rw [hx] at wa ⊢
     have a1:1*1<=x*m:=Int.mul_le_mul wa.1 hm1.1 (by decide) (by omega)
     have a2:x*m<=ws.getD (t.a % wr.length) 0*4:=Int.mul_le_mul wa.2.1 hm1.2 (by omega) (by omega)
     omega
    ·have e6:zS wr t=6:=by unfold zbC at e2;omega
     have hn:nOf wr ws t=ws.getD (t.a % wr.length) 0:=by unfold nOf;rw [if_neg e7,hn2]
     rw [zeb e6,hn]
     simp only
     rw [if_neg (by omega),if_pos h1]
     omega

theorem zic (hG:0<G) (h10:(zB I G RC wr ws t).op≠10):0<=(zB I G RC wr ws t).to/\(zB I G RC wr ws t).to<(G:Int):=by
 have:=Nat.mod_lt t.to hG
 unfold zB at h10 ⊢
 by_cases hb:12<nOf wr ws t
 ·rw [if_pos hb];simp only;omega
 ·rw [if_neg hb] at h10 ⊢
  simp only at h10 ⊢
  rw [if_neg h10]
  omega

theorem zfF (hI:0<I) (hG:0<G) (hRC:0<RC) (hc:c.ins=(I:Int)) (hg:c.regs=(G:Int)) (hm:c.rows*c.cols=(RC:Int)):∀ (l:List Tn) (wr ws L:List Int) (wt:Int->Int) (m:Int),zeX G wr ws L wt->m<=12 ->
  zA c L (zao I G RC wr ws l)=true/\zam wt m (zao I G RC wr ws l)<=12
 | [],_,_,_,_,m,_,h12 => ⟨rfl,h12⟩
 | t :: l,wr,ws,L,wt,m,h,h12 => by
  have hs:=zkB (t:=t) hI hG hRC hc hg hm h
  unfold zao
  by_cases h10:(zB I G RC wr ws t).op=10
  ·rw [if_pos h10]
   have ih:=zfF hI hG hRC hc hg hm l wr ws L wt m h h12
   constructor
   ·show (zq c L _ && zA c (more L _) _)=true
    rw [hs,Bool.true_and,show more L (zB I G RC wr ws t)=L from if_pos h10]
    exact ih.1
   ·unfold zam
    rw [if_pos h10]
    exact ih.2
  ·rw [if_neg h10]
   have hw:=zeP (I:=I) (RC:=RC) (t:=t) h h10
   have ih:=zfF hI hG hRC hc hg hm l _ _ _ _ (max m (wOf wt (zB I G RC wr ws t))) (h.note (r:=(zB I G RC wr ws t).to) (n:=zgh wr ws t) (z:=wOf wt (zB I G RC wr ws t)) (zic hG h10) ⟨hw.1,hw.2.1⟩ hw.2.2) (by omega)
   constructor
   ·show (zq c L _ && zA c (more L _) _)=true
    rw [hs,Bool.true_and,show more L (zB I G RC wr ws t)=L++[(zB I G RC wr ws t).to] from if_neg h10]
    exact ih.1
   ·unfold zam
    rw [if_neg h10]
    exact ih.2

theorem zcr:∀ (l:List Tn) (wr ws:List Int),(zao I G RC wr ws l).length=l.length
 | [],_,_ => rfl
 | t :: l,wr,ws => by
  unfold zao
  rw [List.length_cons,List.length_cons]
  split
  ·rw [zcr l]
  ·rw [zcr l]

theorem insOf_q (x:Ins) (h:x=zB I G RC wr ws t):x.q.n.length<=1/\x.q.d.length<=1/\szq x.q.num<=1/\(x.op≠1->x.q=zM)/\Small x.q.n/\Small x.q.d:=by
 have hq:=qOf_sz t
 have h1:=zak (zK (i8 t.a) (t.b % 4))
 have h2:=zX (zK (i8 t.a) (t.b % 4))
 have key:(qOf t).n.length<=1/\(qOf t).d.length<=1/\szq (qOf t).num<=1/\Small (qOf t).n/\Small (qOf t).d:=by
  refine ⟨?_,?_,?_,zD _,zD _⟩
  ·show (zc _).length<=1
   rw [zd];omega
  ·show (zc _).length<=1
   rw [zd];omega
  ·unfold qOf
   rw [zdb]
   exact hq
 have zkey:zM.n.length<=1/\zM.d.length<=1/\szq zM.num<=1/\Small zM.n/\Small zM.d:=by
  refine ⟨Nat.zero_le _,Nat.zero_le _,?_,(fun x h => by cases h),(fun x h => by cases h)⟩
  show szq (rat false (val []) (val []))<=1
  have:=zdm false (val []) (val [])
  have e:sz (val [])<=1:=by decide
  omega
 subst h
 unfold zB
 split
 ·exact ⟨key.1,key.2.1,key.2.2.1,fun k => absurd rfl k,key.2.2.2⟩
 ·simp only
  by_cases e:zS wr t=1
  ·rw [if_pos e]
   exact ⟨key.1,key.2.1,key.2.2.1,fun k => absurd e k,key.2.2.2⟩
  ·rw [if_neg e]
   exact ⟨zkey.1,zkey.2.1,zkey.2.2.1,fun _ => rfl,zkey.2.2.2⟩

theorem zfn:∀ (l:List Tn) (wr ws:List Int) (x:Ins),x ∈ zao I G RC wr ws l->x.q.n.length<=1/\x.q.d.length<=1/\szq x.q.num<=1/\(x.op≠1->x.q=zM)/\Small x.q.n/\Small x.q.d
 | [],_,_,_,h => by cases h
 | t :: l,wr,ws,x,h => by
  unfold zao at h
  rcases List.mem_cons.1 h with h|h
  ·exact insOf_q x h
  ·split at h
   ·exact zfn l _ _ x h
   ·exact zfn l _ _ x h

end

theorem madeC_rc (ins rows regs:Nat) (l:List Tn):(zcc ins rows regs l).rows*(zcc ins rows regs l).cols=(((1+rows % 3)*(1+ins % 3):Nat):Int):=by
 show ((1+rows % 3:Nat):Int)*((1+ins % 3:Nat):Int)=_
 push_cast
 rfl

theorem zeO (ins rows regs:Nat) (l:List Tn) (hl:l.length<=16):zr (zcc ins rows regs l)=true/\zU (zcc ins rows regs l)<=12:=by
 have h:=zfF (I:=1+ins % 3) (G:=1+regs % 6) (RC:=(1+rows % 3)*(1+ins % 3)) (c:=zcc ins rows regs l) (by omega) (by omega) (Nat.mul_pos (by omega) (by omega)) rfl rfl (madeC_rc ins rows regs l) l [] [] [] (fun _ => 0) 0 (zeX.nil _ _) (by decide)
 have hlen:=zcr (I:=1+ins % 3) (G:=1+regs % 6) (RC:=(1+rows % 3)*(1+ins % 3)) l [] []
 have h1:=Nat.mod_lt ins (show 0<3 by decide)
 have h2:=Nat.mod_lt rows (show 0<3 by decide)
 have h3:=Nat.mod_lt regs (show 0<6 by decide)
 have hr:zr (zcc ins rows regs l)=true:=by
  unfold zr
  rw [Bool.and_eq_true]
  refine ⟨?_,h.1⟩
  unfold zbo
  refine decide_eq_true ⟨?_,?_,?_,?_,rfl,?_,?_,?_⟩
  ·show (1:Int)<=((1+ins % 3:Nat):Int);omega
  ·show ((1+ins % 3:Nat):Int)<=40;omega
  ·show (1:Int)<=((1+rows % 3:Nat):Int);omega
  ·show ((1+rows % 3:Nat):Int)<=40;omega
  ·show (0:Int)<=((1+regs % 6:Nat):Int);omega
  ·show ((1+regs % 6:Nat):Int)<=100000;omega
  ·show (zao _ _ _ [] [] l).length<=100000;omega
 refine ⟨hr,?_⟩
 unfold zU
 rw [if_pos hr]
 exact h.2

end Go.Proofs.YtkjcdnlpjldhaaaGreat


namespace Go.Proofs.YtkjcdnlpjldhaaaGreat
open Go.RowKit Tw

section

variable {w w':World} {base:Nat} {v u:Value} {l:List Ins} {xs:List Value} {x:Ins} {g cap:Nat} {a a':Option Addr} {n c n' c':Nat} {row:Option Nat}

abbrev zar (x:Ins) (vn vd:Value):List Value:=[.int .i64 x.op,.int .i64 x.to,.int .i64 x.a,.int .i64 x.b,.bool x.q.ng,vn,vd]

def zdD (x:Ins):Prop:=I64 x.op/\I64 x.to/\I64 x.a/\I64 x.b

def zat (base:Nat) (w:World) (v:Value) (l:List Ins):Prop :=
 ∃ xs,w.ownsRow base 49 7 v l.length xs/\∀ k (h:k<l.length),∃ a n c a' n' c',(∀ j,j<7->xs[k*7+j]?=(zar l[k] (.slice a n c) (.slice a' n' c'))[j]?) /\
  Rd w (.slice a n c) l[k].q.n/\Rd w (.slice a' n' c') l[k].q.d/\Far (.slice a n c) v.ownBlock/\Far (.slice a' n' c') v.ownBlock/\zdD l[k]

theorem zat.nil (base:Nat) (w:World):zat base w (.slice none 0 0) []:=⟨[],World.ownsRow_nil w base _ 7,fun k h => absurd h (by simp)⟩

theorem zat.to (h:zat base w v l) (hb:Below w.heap.size w w'):zat base w' v l:=by
 obtain ⟨xs,h1,h2⟩:=h
 refine ⟨xs,zav h1 hb,fun k hk => ?_⟩
 obtain ⟨a,n,c,a',n',c',s,k1,k2,f1,f2,i⟩:=h2 k hk
 exact ⟨a,n,c,a',n',c',s,k1.to hb,k2.to hb,f1,f2,i⟩

theorem zat.drew (h:zat base w v l):zat base w.drew v l:=h.to (Below.refl _ _).drew

theorem zat.len (h:zat base w v l):∃ xs,w.ownsRow base 49 7 v l.length xs:=⟨_,h.choose_spec.1⟩

theorem zat.lt (h:zat base w v l):∀ k,v.ownBlock=some k->base<=k/\k<w.heap.size:=by
 obtain ⟨xs,h1,_⟩:=h
 exact World.ownsRow.lt h1

theorem zat.form (h:zat base w v l):∃ a cap,v=.slice a l.length cap/\(0<l.length->∃ g,a=some ⟨g,0,none⟩/\base<=g/\g<w.heap.size):=by
 obtain ⟨xs,h1,_⟩:=h
 rcases h1.2 with ⟨hv,h0⟩|⟨g,cap,cur,hv,hg,hh,r⟩
 ·exact ⟨none,0,by rw [hv,h0],fun h => by omega⟩
 ·exact ⟨_,cap,hv,fun _ => ⟨g,rfl,hg,(Array.getElem?_eq_some_iff.1 hh).1⟩⟩

theorem zhn {e:TypeId} {s m:Nat} {ys:List Value} (hx:w.ownsRow base e s v m xs) (hy:w.ownsRow base e s v m ys):xs=ys:=by
 rcases hx.2 with ⟨hv,h0⟩|⟨g1,cap1,cur1,hv1,hg1,hh1,a1,a2,a3,a4⟩
 ·have l1:=hx.1
  have l2:=hy.1
  rw [h0,Nat.zero_mul] at l1 l2
  rw [List.eq_nil_of_length_eq_zero l1,List.eq_nil_of_length_eq_zero l2]
 ·rcases hy.2 with ⟨hv2,_⟩|⟨g2,cap2,cur2,hv2,hg2,hh2,b1,b2,b3,b4⟩
  ·rw [hv1] at hv2;cases hv2
  ·rw [hv1] at hv2
   injection hv2 with e1 e2 e3
   injection e1 with e1
   injection e1 with e1 _
   subst e1
   rw [hh1] at hh2
   injection hh2 with hh2
   injection hh2 with hh2
   subst hh2
   rw [<- a4,<- b4]

theorem zat.push (h:zat base w v l) (hx:w.ownsRow base 49 7 v l.length xs)
  (hown:w'.ownsRow base 49 7 (.slice (some ⟨g,0,none⟩) (l.length+1) cap) (l.length+1) (xs++zar x (.slice a n c) (.slice a' n' c'))) (hgrow:w.grownBy w' v.ownBlock) (hat:v.ownBlock=some g\/g=w.heap.size)
  (hn:Rd w (.slice a n c) x.q.n) (hd:Rd w (.slice a' n' c') x.q.d) (f1:Far (.slice a n c) v.ownBlock) (f2:Far (.slice a' n' c') v.ownBlock) (hi:zdD x):zat base w' (.slice (some ⟨g,0,none⟩) (l.length+1) cap) (l++[x]):=by
 have hl:(l++[x]).length=l.length+1:=by simp
 obtain ⟨ys,hy,h2⟩:=h
 obtain rfl:=zhn hx hy
 have hlen:xs.length=l.length*7:=hx.1
 have far:∀ {s:Value} {l:List Nat},Rd w s l->Far s v.ownBlock->Far s (some g):=fun hr hf => by
  rcases hat with e|e
  ·rw [<- e];exact hf
  ·exact hr.far_new (by omega)
 refine ⟨_,by rw [hl];exact hown,fun k hk' => ?_⟩
 rcases Nat.lt_or_ge k l.length with hlt|hge
 ·obtain ⟨a1,n1,c1,a1',n1',c1',s,k1,k2,g1,g2,i⟩:=h2 k hlt
  rw [List.getElem_append_left hlt]
  exact ⟨a1,n1,c1,a1',n1',c1',fun j hj => by rw [List.getElem?_append_left (by omega)];exact s j hj,k1.grown hgrow g1,k2.grown hgrow g2,far k1 g1,far k2 g2,i⟩
 ·have e:k=l.length:=by omega
  subst e
  have ex:(l++[x])[l.length]=x:=by simp
  rw [ex]
  exact ⟨a,n,c,a',n',c',fun j hj => by rw [List.getElem?_append_right (by omega),hlen,Nat.add_sub_cancel_left],hn.grown hgrow f1,hd.grown hgrow f2,far hn f1,far hd f2,hi⟩

theorem zat.rdC (h:zat base w v l):RdC w v l:=by
 obtain ⟨xs,h1,h2⟩:=h
 rcases h1.2 with ⟨hv,h0⟩|⟨g,cap,cur,hv,hg,hh,hn,hm,r⟩
 ·exact ⟨none,0,by rw [hv,h0],by rw [h0];exact Nat.le_refl _,Nat.zero_le _,fun i hi => by omega⟩
 ·refine ⟨_,cap,hv,hn,hm,fun i hi => ?_⟩
  subst hv
  obtain ⟨a,n,c,a',n',c',s,k1,k2,f1,f2,hi64⟩:=h2 i hi
  have key:∀ j,j<7->w.cell? ⟨g,i*7+j,none⟩=(zar l[i] (.slice a n c) (.slice a' n' c'))[j]?:=fun j hj => by
   rw [World.ownsRow.cellAt h1 _ (by omega)];exact s j hj
  refine ⟨g,0,rfl,?_⟩
  rw [Nat.zero_add]
  exact ⟨key 0 (by decide),key 1 (by decide),key 2 (by decide),key 3 (by decide),⟨_,_,key 4 (by decide),key 5 (by decide),key 6 (by decide),k1,k2⟩,hi64⟩

theorem zat.setP {B o:Nat} (k:zat base w v l) (hne:v.ownBlock≠some B) {c0:Value} (hc:w.cell? ⟨B,o,none⟩=some c0) (hn:∀ z,c0≠.int .u32 z) (x:Value):zat base (w.setCell ⟨B,o,none⟩ x) v l:=by
 obtain ⟨xs,h1,h2⟩:=k
 refine ⟨xs,Go.ownsRow_setCell_other h1 (fun e => hne e) x,fun k hk => ?_⟩
 obtain ⟨a,n,c,a',n',c',s,k1,k2,f1,f2,i⟩:=h2 k hk
 exact ⟨a,n,c,a',n',c',s,k1.put hc hn x,k2.put hc hn x,f1,f2,i⟩

theorem zan {x:Ins} {vn vd:Value} {t:TypeId} {w2:World}:∀ j u,(zar x vn vd)[j]?=some u->(w2.alloc (.cells (zar x vn vd).toArray t)).cell? ((⟨w2.heap.size,0,none⟩:Addr).add j)=some u:=by
 intro j u hu
 exact World.news_of_block (w:=w2.alloc (.cells (zar x vn vd).toArray t)) (B:=w2.heap.size) (cs:=(zar x vn vd).toArray) (t:=t) (fr:=(0,0)) (heap_alloc_new _ _) j u (by simpa using hu)

theorem zkJ {x:Ins} {a a':Option Addr} {n c n' c':Nat}:∀ u ∈ zar x (.slice a n c) (.slice a' n' c'),u.oneCell'=true:=by
 intro u hu
 simp only [List.mem_cons,List.not_mem_nil,or_false] at hu
 rcases hu with rfl|rfl|rfl|rfl|rfl|rfl|rfl <;> rfl

end

end Go.Proofs.YtkjcdnlpjldhaaaGreat


namespace Go.Proofs.YtkjcdnlpjldhaaaGreat
open Go.RowKit Tw
attribute [local go_sem ↓] Go.wp_at_zero Go.wp_at_succ

theorem zfY (n:Int) (d:Nat) (w:World) (hn:-128<=n/\n<=127) (hd:d<4) :
  Calls Tryz.prog 44 #[.int .i8 n,.int .u8 ((d:Nat):Int)] w (zaf w (zK n d)):=by
 have S1:=Lib.hid (zdj (z:=n) (by omega) (by omega))
 have S2:=Lib.hid (show szq (zK n d)<=1000 from Nat.le_trans (zeC (by omega) hd) (by decide))
 have H9:=Lib.hid (show ∀ ng,decide (n<0)=ng->rat ng (val (zc n.natAbs)) (val [d+1])=zK n d from fun ng e => by rw [<- e,vL];unfold zK;congr 1)
 have e1:IntKind.u32.wrap ((d:Int)+1)=((d+1:Nat):Int):=by
  unfold IntKind.wrap
  simp [IntKind.signed,IntKind.bits]
  omega
 have hdB:d+1<4294967296:=by omega
 go_enter Tryz.func44,Tryz.ntmps44
 go_wp2_with fail
 obtain ⟨W0,aG⟩:∃ W0,w.alloc (.cells #[.bool false,.slice none 0 0,.slice none 0 0] 47)=W0:=⟨_,rfl⟩
 have am:=Lib.hid (show ∀ W',Below W0.heap.size W0 W'->(Bx3 W' w.heap.size (.bool false) (.slice none 0 0) (.slice none 0 0)) from fun W' hb => by
   apply bx3 hb
   all_goals first|assumption|(rw [<- aG];simp [go_sem]))
 have zb:Below w.heap.size w W0:=by rw [<- aG];exact bN _ _
 rw [aG]
 clear aG
 have gb:Below W0.heap.size W0 W0:=Below.refl _ _
 obtain ⟨z0,ac,ae,af,ag,ah,al⟩:=am.out _ gb
 refine (rof_c n n _ rfl (by omega) (by omega)).mono ?_
 clear ac ag ae ah af al
 rintro e w1 ⟨ng1,a1_,n1_,c1_,rfl,g1,aX⟩
 replace gb:=bS gb aX
 obtain ⟨z0,ac,ae,af,ag,ah,al⟩:=am.out _ gb
 go_wp2_with fail
 have H8:=Lib.hid (H9.out ng1 (by have k:=g1.2.1;exact k))
 obtain ⟨W1,aO⟩:∃ W1,w1.alloc (.cells #[.int .u32 ((d:Int)+1)] 97)=W1:=⟨_,rfl⟩
 have hb_W1:Below w1.heap.size w1 W1:=by rw [<- aO];exact bN _ _
 have d_W1:Rd W1 (.slice (some ⟨w1.heap.size,0,none⟩) 1 1) [d+1]:=by
  have h:=lit1 (a:=d+1) w1 hdB
  have e:zaJ (d+1)=.int .u32 ((d:Int)+1):=by show Value.int .u32 _=_;rw [Int.natCast_add];rfl
  rw [e] at h
  rw [<- aO];exact h
 clear ac ag ae ah af al
 replace g1:=g1.to hb_W1
 replace gb:=bS gb hb_W1
 obtain ⟨z0,ac,ae,af,ag,ah,al⟩:=am.out _ gb
 rw [aO]
 clear aO
 refine (zeT ng1 _ _ _ _ _ g1.isI.up d_W1 (Nat.le_trans S1.out (by omega)) (by simp) (zK n d) H8.out S2).mono ?_
 clear ac ag ae ah af al
 rintro e w2 ⟨ng2,a2_,n2_,c2_,p2_,m2_,k2_,rfl,g2,aR⟩
 replace g1:=g1.to aR
 replace d_W1:=d_W1.to aR
 replace gb:=bS gb aR
 obtain ⟨z0,ac,ae,af,ag,ah,al⟩:=am.out _ gb
 go_wp2_with fail
 refine bodyPost_ret (zW Tryz.results44 _ _ _ _ _ _ rfl (Tri.set (x0:=.bool false) (y0:=.slice none 0 0) (z0:=.slice none 0 0) ⟨ac,ae,af,ag,ah,al⟩ _ _ _)) rfl (zdL (bS zb gb) (by omega) ?_ g2)
 first|omega|(simp;omega)

structure Sn where
 n:Int
 d:Nat

def AtSn (w:World) (b o:Nat) (x:Sn):Prop:=w.cell? ⟨b,o,none⟩=some (.int .i8 x.n)/\w.cell? ⟨b,o+1,none⟩=some (.int .u8 (x.d:Int))/\(-128<=x.n/\x.n<=127)/\x.d<256

theorem AtSn.to {w w':World} {b o:Nat} {x:Sn} (h:AtSn w b o x) (hb:Below w.heap.size w w'):AtSn w' b o x :=
 ⟨(hb.cell (p:=⟨b,o,none⟩) (zj h.1)).trans h.1,(hb.cell (p:=⟨b,o+1,none⟩) (zj h.1)).trans h.2.1,h.2.2⟩

def RdSn (w:World) (v:Value) (l:List Sn):Prop :=
 ∃ a cap,v=.slice a l.length cap/\l.length<=cap/\cap<=maxLen/\∀ i (h:i<l.length),∃ b off,a=some ⟨b,off,none⟩/\AtSn w b (off+i*2) l[i]

theorem RdSn.to {w w':World} {v:Value} {l:List Sn} (h:RdSn w v l) (hb:Below w.heap.size w w'):RdSn w' v l:=by
 obtain ⟨a,cap,hv,h1,h2,h3⟩:=h
 exact ⟨a,cap,hv,h1,h2,fun i hi => let ⟨b,off,e,k⟩:=h3 i hi;⟨b,off,e,k.to hb⟩⟩

theorem RdSn.open {w:World} {v:Value} {l:List Sn} (h:RdSn w v l):∃ a n cap,v=.slice a n cap/\Hid (l.length=n)/\n<=maxLen:=by
 obtain ⟨a,cap,hv,h1,h2,_⟩:=h
 exact ⟨a,_,cap,hv,rfl,by omega⟩

theorem RdSn.nth {w:World} {a:Option Addr} {n cap:Nat} {l:List Sn} (h:RdSn w (.slice a n cap) l) {i:Nat} (hi:i<l.length):∃ b off,a=some ⟨b,off,none⟩/\AtSn w b (off+i*2) l[i]:=by
 obtain ⟨a',cap',hv,_,_,h3⟩:=h
 injection hv with e1 e2 e3
 subst e1
 exact h3 i hi

def zbb (l:List Sn) (i:Nat):Rat:=match l[i]? with|some x => zK x.n (x.d % 4)|none => 0

def zcB (n:Nat) (l:List Sn):List Rat:=(List.range n).map (zbb l)


end Go.Proofs.YtkjcdnlpjldhaaaGreat


namespace Go.Proofs.YtkjcdnlpjldhaaaGreat
open Go.RowKit Tw
attribute [local go_sem ↓] Go.wp_at_zero Go.wp_at_succ

theorem zfP (l:List Sn) (k:Nat):(List.range (k+1)).map (zbb l)=(List.range k).map (zbb l)++[zbb l k]:=by rw [List.range_succ,List.map_append];rfl

theorem zeR (n:Nat) (v:Value) (l:List Sn) (w:World) (h:RdSn w v l) (hn:n<=1000) :
  Calls Tryz.prog 23 #[.int .i64 (n:Int),v] w (fun e w' => ∃ a c,e=.returned (.slice a n c)/\RdR w' (.slice a n c) ((zcB n l).map zi)/\Below w.heap.size w w'):=by
 obtain ⟨a,N,cap,rfl,HN,hm⟩:=h.open
 have H:=Lib.hid h
 clear h
 go_enter Tryz.func23,Tryz.ntmps23
 go_wp2_with fail
 go_loopw [5,6] (fun v i ww => ∃ k:Nat,k<=n/\i=.int .i64 k/\Below w.heap.size w ww/\zaM w.heap.size ww v ((List.range k).map (zbb l))) (fun _ i _ => n - (intOf i).toNat)
 case atStart => exact ⟨0,Nat.zero_le _,rfl,Below.refl _ _,zaM.nil _ _⟩
 case round =>
  obtain ⟨k,hk,rfl,gb,hO⟩:=hrel
  obtain ⟨aD,cD,hvD,-⟩:=hO.form
  have hlen:((List.range k).map (zbb l)).length=k:=by rw [List.length_map,List.length_range]
  rw [hlen] at hvD
  subst hvD
  by_cases hkn:k<n
  ·have hki:(k:Int)<(n:Int):=by omega
   have hmB:(k+1)*56<=140737488355328:=by omega
   have hmL:k+1<=maxLen:=by show k+1<=9223372036854775807;omega
   have hgs:=gb.size
   obtain ⟨i0',hi0,hq0,hq1,hq2⟩:=info_parts (show (Tryz.prog.info? 47).map (fun i => (i.zero,i.size,i.bytes))=some (some (.agg #[.bool false,.slice none 0 0,.slice none 0 0]),3,56) by kernel_rfl)
   by_cases hkN:k<N
   ·have hkj:(k:Int)<(N:Int):=by omega
    have hkl:k<l.length:=by rw [HN.out];exact hkN
    obtain ⟨b,off,rfl,s0,s1,aX,aR⟩:=(H.out.to gb).nth hkl
    obtain ⟨x,hx⟩:∃ x,l[k]=x:=⟨_,rfl⟩
    have hP:zbb l k=zK x.n (x.d % 4):=by unfold zbb;rw [List.getElem?_eq_getElem hkl,hx]
    rw [hx] at s0 s1 aX aR
    have HP:=Lib.hid hP
    have HB1:=Lib.hid aX
    have hd4:x.d % 4<4:=Nat.mod_lt _ (by decide)
    have HT:=Lib.hid (show (x.d:Int).tmod 4=((x.d % 4:Nat):Int) by rw [Int.tmod_eq_emod_of_nonneg (by omega)];omega)
    obtain ⟨xs9,hxs⟩:=hO.drew.len
    rw [hlen] at hxs
    have hOd:=hO.drew
    have HS:Hid (∀ W',Below wr.heap.size wr W'->W'.cell? ⟨b,off+k*2,none⟩=some (.int .i8 x.n)/\W'.cell? ⟨b,off+k*2+1,none⟩=some (.int .u8 (x.d:Int))):=fun W' hb => ⟨(hb.cell (p:=⟨b,off+k*2,none⟩) (zj s0)).trans s0,(hb.cell (p:=⟨b,off+k*2+1,none⟩) (zj s0)).trans s1⟩
    clear hx hP aX aR
    go_wp2_with fail
    go_region_law (first|(go_simp;go_at_call 44;rw [HT.out];(with_reducible refine (zfY x.n (x.d % 4) _ HB1.out hd4).mono ?_);rintro e w2 ⟨ng2,a2_,n2_,c2_,p2_,m2_,k2_,rfl,g2,aR⟩;obtain ⟨s0,s1⟩:=HS.out _ (Below.drew (Below.refl _ _) |>.trans (aR.mono (Nat.le_refl _)));have hz2:wr.heap.size<=w2.heap.size:=aR.size)|(refine step_append_lies _ rfl (.tmp 16) (.tmp 29) 29 rfl w.heap.size 47 i0' (.agg #[.bool false,.slice none 0 0,.slice none 0 0]) 3 56 Tryz.underlying29 hi0 hq0 hq1 hq2 (by rfl) (by decide) (.slice aD k cD) k xs9 rfl (zav (zav hxs aR) (bN _ _)) ⟨w2.heap.size,0,none⟩ 1 1 _ rfl rfl zev zfQ (by decide) hmL hmB (by simp;omega) _ rfl ?_;intro g4 cj4 w4 hown4 hgrow4 hat4 hlt4))
    all_goals
     have hp:=zeu hlen hOd hxs aR g2 (show w.heap.size<=wr.heap.size from hgs) hown4 hgrow4 hat4
     have gb4:Below w.heap.size w w4:=gb.drew.trans hp.2
     have hO4:zaM w.heap.size w4 (.slice (some ⟨g4,0,none⟩) (k+1) cj4) ((List.range (k+1)).map (zbb l)):=by rw [zfP,HP.out];exact hp.1
     clear s0 s1
     go_wp2_with fail
     go_roundw
     case rel => exact ⟨k+1,by omega,by go_num,gb4,hO4⟩
     case measure => simp [intOf] <;> omega
   ·have hkj:¬ ((k:Int)<(N:Int)):=by omega
    have hP:zbb l k=((0:Int):Rat):=by unfold zbb;rw [List.getElem?_eq_none (by have:=HN.out;omega)];rfl
    have HP:=Lib.hid hP
    clear hP
    obtain ⟨xs9,hxs⟩:=hO.len
    rw [hlen] at hxs
    go_wp2_with fail
    refine (zfq 0 0 _ rfl (by decide) (by decide)).mono ?_
    rintro e w2 ⟨ng2,a2_,n2_,c2_,p2_,m2_,k2_,rfl,g2,aR⟩
    have hz2:wr.heap.size<=w2.heap.size:=aR.size
    go_wp2_with (at_builtin;refine wpList_append_lies _ rfl (.tmp 31) (.tmp 33) 29 rfl w.heap.size 47 i0' (.agg #[.bool false,.slice none 0 0,.slice none 0 0]) 3 56 Tryz.underlying29 hi0 hq0 hq1 hq2 (by rfl) (by decide) (.slice aD k cD) k xs9 rfl (zav (zav hxs aR) (bN _ _)) ⟨w2.heap.size,0,none⟩ 1 1 _ rfl rfl zev zfQ (by decide) hmL hmB (by simp;omega) _ rfl ?_;intro g4 cj4 w4 hown4 hgrow4 hat4 hlt4)
    have hp:=zeu hlen hO hxs aR g2 (show w.heap.size<=wr.heap.size from hgs) hown4 hgrow4 hat4
    go_roundw
    case rel => exact ⟨k+1,by omega,by go_num,gb.trans hp.2,by rw [zfP,HP.out];exact hp.1⟩
    case measure => simp [intOf] <;> omega
  ·obtain rfl:k=n:=by omega
   have hki:¬ ((k:Int)<(k:Int)):=by omega
   go_wp2_with fail
   go_ret
   exact ⟨aD,cD,rfl,hO.rdR,gb⟩

end Go.Proofs.YtkjcdnlpjldhaaaGreat

