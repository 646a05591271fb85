/-
  The texts Vm3, VmMath2, VmLaw, VmLaw2, Vm5, Vm7, Ref25, VmRow2, Ref25h, Vm4, Made, InsRow, Small, merged.
-/
import Derived.Test.YtkjcdnlpjldhaaaG20
import Derived.Test.YtkjcdnlpjldhaaaG10
import Derived.Deep.RegionHeld3
import Derived.Test.YtkjcdnlpjldhaaaG18
import Derived.Test.YtkjcdnlpjldhaaaG17
import Derived.Test.YtkjcdnlpjldhaaaG15
set_option linter.unusedVariables false
set_option linter.unusedSimpArgs false
set_option maxRecDepth 100000
set_option maxHeartbeats 400000000
namespace Go.Proofs.Ytkjcdnlpjldhaaa
open Go.RowKit Tw
attribute [local go_sem ↓] Go.wp_at_zero Go.wp_at_succ

theorem zgB (c:Cd) (n:Nat) (h:c.all.length=n):zbV c=(!(decide (c.ins<1)) && !(decide (40<c.ins)) && !(decide (c.rows<1)) && !(decide (40<c.rows)) && !(c.cols != c.ins) && !(decide (c.regs<0)) && !(decide (100000<c.regs)) && !(decide ((100000:Int)<(n:Int)))):=by
 subst h
 unfold zbV
 rw [Bool.eq_iff_iff]
 simp only [Bool.and_eq_true,Bool.not_eq_true',decide_eq_false_iff_not,decide_eq_true_eq,bne_eq_false_iff_eq]
 omega

theorem zcL {c:Cd} {L:List Int} {l:List Ins} {k:Nat} (h:k<l.length):zaj c L (l.drop k)=(zw c L l[k] && zaj c (more L l[k]) (l.drop (k+1))):=by
 rw [List.drop_eq_getElem_cons h];rfl

theorem zji {N T:Nat} {L:List Int} (i:Nat):(if i=T then Value.bool true else Value.bool (decide ((i:Int) ∈ L)))=.bool (decide ((i:Int) ∈ L++[(T:Int)])):=by
 by_cases h:i=T
 ·rw [if_pos h,h];simp
 ·rw [if_neg h]
  congr 1
  have:¬ (i:Int)=(T:Int):=by omega
  simp [this]

theorem zcn {c:Cd} {L:List Int} {x:Ins} (h:zw c L x=true) (h10:x.op≠10):0<=x.to/\x.to<c.regs:=by
 unfold zw zJ at h
 rw [if_neg h10] at h
 simp only [Bool.and_eq_true,decide_eq_true_eq] at h
 exact h.2

theorem zgl (c:Cd) (v:Value) (w:World) (hc:IsC w c v) (hs:zaV 4097 c.all) (h0:zbV c=false) :
  Calls Try.prog 8 #[aggC c v] w (fun e w' => e=.returned (.bool false)/\Below w.heap.size w w'):=by
 clear hs
 obtain ⟨a0,n0,c0,rfl,H0,hm0⟩:=hc.1.open
 obtain ⟨e0,te0⟩:∃ b,decide (c.ins<1)=b:=⟨_,rfl⟩
 obtain ⟨e1,te1⟩:∃ b,decide (40<c.ins)=b:=⟨_,rfl⟩
 obtain ⟨e2,te2⟩:∃ b,decide (c.rows<1)=b:=⟨_,rfl⟩
 obtain ⟨e3,te3⟩:∃ b,decide (40<c.rows)=b:=⟨_,rfl⟩
 obtain ⟨e4,te4⟩:∃ b,(c.cols != c.ins)=b:=⟨_,rfl⟩
 obtain ⟨e5,te5⟩:∃ b,decide (c.regs<0)=b:=⟨_,rfl⟩
 obtain ⟨e6,te6⟩:∃ b,decide (100000<c.regs)=b:=⟨_,rfl⟩
 obtain ⟨e7,te7⟩:∃ b,decide ((100000:Int)<(n0:Int))=b:=⟨_,rfl⟩
 rw [zgB c n0 H0.out,te0,te1,te2,te3,te4,te5,te6,te7] at h0
 cases e0
 case true =>
  clear h0
  go_enter Try.func8,Try.ntmps8
  go_wp2_with fail
  obtain ⟨W0,aq⟩:∃ W0,w.alloc (.cells #[.int .i64 c.ins,.int .i64 c.rows,.int .i64 c.cols,.int .i64 c.regs,.slice a0 n0 c0] 30)=W0:=⟨_,rfl⟩
  have al:=Lib.hid (show ∀ W',Below W0.heap.size W0 W'->(Bx5 W' w.heap.size (.int .i64 c.ins) (.int .i64 c.rows) (.int .i64 c.cols) (.int .i64 c.regs) (.slice a0 n0 c0)) from fun W' hb => by
    apply bx5 hb
    all_goals first|assumption|(rw [<- aq];simp [go_sem]))
  have zb:Below w.heap.size w W0:=by rw [<- aq];exact bN _ _
  rw [aq]
  clear aq
  have i0:=hc.to zb
  have gb:Below W0.heap.size W0 W0:=Below.refl _ _
  obtain ⟨z0,ae,af,ag,am,an,ah,ai,ak,au,aw⟩:=al.out _ gb
  go_wp2_with fail
  go_ret
  exact ⟨rfl,bS zb gb⟩
 case false =>
  cases e1
  case true =>
   clear h0
   go_enter Try.func8,Try.ntmps8
   go_wp2_with fail
   obtain ⟨W0,aq⟩:∃ W0,w.alloc (.cells #[.int .i64 c.ins,.int .i64 c.rows,.int .i64 c.cols,.int .i64 c.regs,.slice a0 n0 c0] 30)=W0:=⟨_,rfl⟩
   have al:=Lib.hid (show ∀ W',Below W0.heap.size W0 W'->(Bx5 W' w.heap.size (.int .i64 c.ins) (.int .i64 c.rows) (.int .i64 c.cols) (.int .i64 c.regs) (.slice a0 n0 c0)) from fun W' hb => by
     apply bx5 hb
     all_goals first|assumption|(rw [<- aq];simp [go_sem]))
   have zb:Below w.heap.size w W0:=by rw [<- aq];exact bN _ _
   rw [aq]
   clear aq
   have i0:=hc.to zb
   have gb:Below W0.heap.size W0 W0:=Below.refl _ _
   obtain ⟨z0,ae,af,ag,am,an,ah,ai,ak,au,aw⟩:=al.out _ gb
   go_wp2_with fail
   go_ret
   exact ⟨rfl,bS zb gb⟩
  case false =>
   cases e2
   case true =>
    clear h0
    go_enter Try.func8,Try.ntmps8
    go_wp2_with fail
    obtain ⟨W0,aq⟩:∃ W0,w.alloc (.cells #[.int .i64 c.ins,.int .i64 c.rows,.int .i64 c.cols,.int .i64 c.regs,.slice a0 n0 c0] 30)=W0:=⟨_,rfl⟩
    have al:=Lib.hid (show ∀ W',Below W0.heap.size W0 W'->(Bx5 W' w.heap.size (.int .i64 c.ins) (.int .i64 c.rows) (.int .i64 c.cols) (.int .i64 c.regs) (.slice a0 n0 c0)) from fun W' hb => by
      apply bx5 hb
      all_goals first|assumption|(rw [<- aq];simp [go_sem]))
    have zb:Below w.heap.size w W0:=by rw [<- aq];exact bN _ _
    rw [aq]
    clear aq
    have i0:=hc.to zb
    have gb:Below W0.heap.size W0 W0:=Below.refl _ _
    obtain ⟨z0,ae,af,ag,am,an,ah,ai,ak,au,aw⟩:=al.out _ gb
    go_wp2_with fail
    go_ret
    exact ⟨rfl,bS zb gb⟩
   case false =>
    cases e3
    case true =>
     clear h0
     go_enter Try.func8,Try.ntmps8
     go_wp2_with fail
     obtain ⟨W0,aq⟩:∃ W0,w.alloc (.cells #[.int .i64 c.ins,.int .i64 c.rows,.int .i64 c.cols,.int .i64 c.regs,.slice a0 n0 c0] 30)=W0:=⟨_,rfl⟩
     have al:=Lib.hid (show ∀ W',Below W0.heap.size W0 W'->(Bx5 W' w.heap.size (.int .i64 c.ins) (.int .i64 c.rows) (.int .i64 c.cols) (.int .i64 c.regs) (.slice a0 n0 c0)) from fun W' hb => by
       apply bx5 hb
       all_goals first|assumption|(rw [<- aq];simp [go_sem]))
     have zb:Below w.heap.size w W0:=by rw [<- aq];exact bN _ _
     rw [aq]
     clear aq
     have i0:=hc.to zb
     have gb:Below W0.heap.size W0 W0:=Below.refl _ _
     obtain ⟨z0,ae,af,ag,am,an,ah,ai,ak,au,aw⟩:=al.out _ gb
     go_wp2_with fail
     go_ret
     exact ⟨rfl,bS zb gb⟩
    case false =>
     cases e4
     case true =>
      clear h0
      go_enter Try.func8,Try.ntmps8
      go_wp2_with fail
      obtain ⟨W0,aq⟩:∃ W0,w.alloc (.cells #[.int .i64 c.ins,.int .i64 c.rows,.int .i64 c.cols,.int .i64 c.regs,.slice a0 n0 c0] 30)=W0:=⟨_,rfl⟩
      have al:=Lib.hid (show ∀ W',Below W0.heap.size W0 W'->(Bx5 W' w.heap.size (.int .i64 c.ins) (.int .i64 c.rows) (.int .i64 c.cols) (.int .i64 c.regs) (.slice a0 n0 c0)) from fun W' hb => by
        apply bx5 hb
        all_goals first|assumption|(rw [<- aq];simp [go_sem]))
      have zb:Below w.heap.size w W0:=by rw [<- aq];exact bN _ _
      rw [aq]
      clear aq
      have i0:=hc.to zb
      have gb:Below W0.heap.size W0 W0:=Below.refl _ _
      obtain ⟨z0,ae,af,ag,am,an,ah,ai,ak,au,aw⟩:=al.out _ gb
      go_wp2_with fail
      go_ret
      exact ⟨rfl,bS zb gb⟩
     case false =>
      cases e5
      case true =>
       clear h0
       go_enter Try.func8,Try.ntmps8
       go_wp2_with fail
       obtain ⟨W0,aq⟩:∃ W0,w.alloc (.cells #[.int .i64 c.ins,.int .i64 c.rows,.int .i64 c.cols,.int .i64 c.regs,.slice a0 n0 c0] 30)=W0:=⟨_,rfl⟩
       have al:=Lib.hid (show ∀ W',Below W0.heap.size W0 W'->(Bx5 W' w.heap.size (.int .i64 c.ins) (.int .i64 c.rows) (.int .i64 c.cols) (.int .i64 c.regs) (.slice a0 n0 c0)) from fun W' hb => by
         apply bx5 hb
         all_goals first|assumption|(rw [<- aq];simp [go_sem]))
       have zb:Below w.heap.size w W0:=by rw [<- aq];exact bN _ _
       rw [aq]
       clear aq
       have i0:=hc.to zb
       have gb:Below W0.heap.size W0 W0:=Below.refl _ _
       obtain ⟨z0,ae,af,ag,am,an,ah,ai,ak,au,aw⟩:=al.out _ gb
       go_wp2_with fail
       go_ret
       exact ⟨rfl,bS zb gb⟩
      case false =>
       cases e6
       case true =>
        clear h0
        go_enter Try.func8,Try.ntmps8
        go_wp2_with fail
        obtain ⟨W0,aq⟩:∃ W0,w.alloc (.cells #[.int .i64 c.ins,.int .i64 c.rows,.int .i64 c.cols,.int .i64 c.regs,.slice a0 n0 c0] 30)=W0:=⟨_,rfl⟩
        have al:=Lib.hid (show ∀ W',Below W0.heap.size W0 W'->(Bx5 W' w.heap.size (.int .i64 c.ins) (.int .i64 c.rows) (.int .i64 c.cols) (.int .i64 c.regs) (.slice a0 n0 c0)) from fun W' hb => by
          apply bx5 hb
          all_goals first|assumption|(rw [<- aq];simp [go_sem]))
        have zb:Below w.heap.size w W0:=by rw [<- aq];exact bN _ _
        rw [aq]
        clear aq
        have i0:=hc.to zb
        have gb:Below W0.heap.size W0 W0:=Below.refl _ _
        obtain ⟨z0,ae,af,ag,am,an,ah,ai,ak,au,aw⟩:=al.out _ gb
        go_wp2_with fail
        go_ret
        exact ⟨rfl,bS zb gb⟩
       case false =>
        cases e7
        case true =>
         clear h0
         go_enter Try.func8,Try.ntmps8
         go_wp2_with fail
         obtain ⟨W0,aq⟩:∃ W0,w.alloc (.cells #[.int .i64 c.ins,.int .i64 c.rows,.int .i64 c.cols,.int .i64 c.regs,.slice a0 n0 c0] 30)=W0:=⟨_,rfl⟩
         have al:=Lib.hid (show ∀ W',Below W0.heap.size W0 W'->(Bx5 W' w.heap.size (.int .i64 c.ins) (.int .i64 c.rows) (.int .i64 c.cols) (.int .i64 c.regs) (.slice a0 n0 c0)) from fun W' hb => by
           apply bx5 hb
           all_goals first|assumption|(rw [<- aq];simp [go_sem]))
         have zb:Below w.heap.size w W0:=by rw [<- aq];exact bN _ _
         rw [aq]
         clear aq
         have i0:=hc.to zb
         have gb:Below W0.heap.size W0 W0:=Below.refl _ _
         obtain ⟨z0,ae,af,ag,am,an,ah,ai,ak,au,aw⟩:=al.out _ gb
         go_wp2_with fail
         go_ret
         exact ⟨rfl,bS zb gb⟩
        case false =>
         exact absurd h0 (by decide)

theorem zgk (c:Cd) (v:Value) (w:World) (hc:IsC w c v) (hs:zaV 4097 c.all) (h0:zbV c=true) (o:Bool) (ho:zaj c [] c.all=o) :
  Calls Try.prog 8 #[aggC c v] w (fun e w' => e=.returned (.bool o)/\Below w.heap.size w w'):=by
 have hh:=h0
 unfold zbV at hh
 simp only [decide_eq_true_eq] at hh
 obtain ⟨N,hN⟩:=Int.eq_ofNat_of_zero_le hh.2.2.2.2.2.1
 have hN1:N<=100000:=by omega
 have Hr:=Lib.hid (show 1<=c.rows/\c.rows<=40 by omega)
 have Hcl:=Lib.hid (show 1<=c.cols/\c.cols<=40 by omega)
 have HN:=Lib.hid hN
 clear hh
 clear hN
 have Hs:=Lib.hid hs
 have Ho:=Lib.hid ho
 clear hs ho
 obtain ⟨a0,n0,c0,rfl,H0,hm0⟩:=hc.1.open
 obtain ⟨e0,te0⟩:∃ b,decide (c.ins<1)=b:=⟨_,rfl⟩
 obtain ⟨e1,te1⟩:∃ b,decide (40<c.ins)=b:=⟨_,rfl⟩
 obtain ⟨e2,te2⟩:∃ b,decide (c.rows<1)=b:=⟨_,rfl⟩
 obtain ⟨e3,te3⟩:∃ b,decide (40<c.rows)=b:=⟨_,rfl⟩
 obtain ⟨e4,te4⟩:∃ b,(c.cols != c.ins)=b:=⟨_,rfl⟩
 obtain ⟨e5,te5⟩:∃ b,decide (c.regs<0)=b:=⟨_,rfl⟩
 obtain ⟨e6,te6⟩:∃ b,decide (100000<c.regs)=b:=⟨_,rfl⟩
 obtain ⟨e7,te7⟩:∃ b,decide ((100000:Int)<(n0:Int))=b:=⟨_,rfl⟩
 rw [zgB c n0 H0.out,te0,te1,te2,te3,te4,te5,te6,te7] at h0
 simp only [Bool.and_eq_true,Bool.not_eq_true'] at h0
 obtain ⟨⟨⟨⟨⟨⟨⟨rfl,rfl⟩,rfl⟩,rfl⟩,rfl⟩,rfl⟩,rfl⟩,rfl⟩:=h0
 have hn0:n0<=100000:=by have:=of_decide_eq_false te7;omega
 go_enter Try.func8,Try.ntmps8
 go_wp2_with (
  at_make
  obtain ⟨W0,aq⟩:∃ W0,w.alloc (.cells #[.int .i64 c.ins,.int .i64 c.rows,.int .i64 c.cols,.int .i64 c.regs,.slice a0 n0 c0] 30)=W0:=⟨_,rfl⟩
  have al:=Lib.hid (show ∀ W',Below W0.heap.size W0 W'->(Bx5 W' w.heap.size (.int .i64 c.ins) (.int .i64 c.rows) (.int .i64 c.cols) (.int .i64 c.regs) (.slice a0 n0 c0)) from fun W' hb => by
    apply bx5 hb
    all_goals first|assumption|(rw [<- aq];simp [go_sem]))
  have zb:Below w.heap.size w W0:=by rw [<- aq];exact bN _ _
  rw [aq]
  clear aq
  have i0:=hc.to zb
  have gb:Below W0.heap.size W0 W0:=Below.refl _ _
  obtain ⟨z0,ae,af,ag,am,an,ah,ai,ak,au,aw⟩:=al.out _ gb
  refine zhA _ rfl _ _ 54 4 rfl Try.underlying54 (.bool false) 1 1 (by kernel_rfl) rfl (by decide) _ _ _ _ N rfl rfl HN.out HN.out (by omega) ?_
  intro w1 hr1 aT
  clear ae ah af ai ag ak am au an aw
  replace gb:=bS gb aT
  obtain ⟨z0,ae,af,ag,am,an,ah,ai,ak,au,aw⟩:=al.out _ gb
  rw [Nat.mul_one] at hr1
  replace hr1:zaA w1 W0.heap.size N (fun i => .bool (decide ((i:Int) ∈ ([]:List Int)))):=hr1.cast (fun i _ => by simp [Nat.mod_one,Value.cells]))
 go_loopw [53] (fun i ww => ∃ (k:Nat) (L:List Int),k<=n0/\i=.int .i64 k/\Below W0.heap.size W0 ww/\zaA ww W0.heap.size N (fun i => .bool (decide ((i:Int) ∈ L)))/\Hid (zaj c L (c.all.drop k)=o)/\Hid (∀ x ∈ L,0<=x/\x<(N:Int))) (fun i _ => n0 - (intOf i).toNat)
 case atStart => exact ⟨0,[],Nat.zero_le _,rfl,gb,hr1,by rw [List.drop_zero];exact Ho.out,fun x hx => by cases hx⟩
 case round =>
  clear gb hr1 ae ah af ai ag ak am au an aw
  obtain ⟨k,L,hk,rfl,gb,hrow,HA,HL⟩:=hrel
  obtain ⟨z0,ae,af,ag,am,an,ah,ai,ak,au,aw⟩:=al.out _ gb
  by_cases hkn:k<n0
  ·have hki:(k:Int)<(n0:Int):=by omega
   have hkl:k<c.all.length:=by rw [H0.out];exact hkn
   obtain ⟨b,off,rfl,h7⟩:=(i0.to gb).1.nth hkl
   have HA1:=HA.out
   rw [zcL hkl] at HA1
   have hsx:=Hs.out _ (List.getElem_mem hkl)
   obtain ⟨x,hx⟩:∃ x,c.all[k]=x:=⟨_,rfl⟩
   rw [hx] at HA1 h7 hsx
   obtain ⟨vn,vd,s0,s1,s2,s3,s4,s5,s6,hX⟩:=h7.isX hsx.1 hsx.2
   obtain ⟨a1,n1,c1,rfl,H1,hm1⟩:=hX.1.1.open
   obtain ⟨a2,n2,c2,rfl,H2,hm2⟩:=hX.1.2.1.open
   have HX1:=Lib.hid hX
   have HA2:=Lib.hid HA1
   clear HA HA1 h7 hsx hx hX hki
   have hki:(k:Int)<(n0:Int):=by omega
   go_wp2_with fail
   clear s0 s1 s2 s3 s4 s5 s6
   obtain ⟨W2,dX⟩:∃ W2,wr.alloc (.cells #[.int .i64 x.op,.int .i64 x.to,.int .i64 x.a,.int .i64 x.b,.bool x.q.ng,.slice a1 n1 c1,.slice a2 n2 c2] 27)=W2:=⟨_,rfl⟩
   have aL:Below wr.heap.size wr W2:=by rw [<- dX];exact bN _ _
   have HT:Hid (∀ W',Below W2.heap.size W2 W'->W'.cell? ⟨wr.heap.size,0,none⟩=some (.int .i64 x.op)/\W'.cell? ⟨wr.heap.size,1,none⟩=some (.int .i64 x.to)/\W'.cell? ⟨wr.heap.size,2,none⟩=some (.int .i64 x.a)/\W'.cell? ⟨wr.heap.size,3,none⟩=some (.int .i64 x.b)/\W'.cell? ⟨wr.heap.size,4,none⟩=some (.bool x.q.ng)/\W'.cell? ⟨wr.heap.size,5,none⟩=some (.slice a1 n1 c1)/\W'.cell? ⟨wr.heap.size,6,none⟩=some (.slice a2 n2 c2)):=fun W' hb => by
    have hl:wr.heap.size<W2.heap.size:=by rw [<- dX];simp
    refine ⟨(hb.cell (p:=⟨wr.heap.size,0,none⟩) hl).trans (by rw [<- dX];simp [go_sem]),(hb.cell (p:=⟨wr.heap.size,1,none⟩) hl).trans (by rw [<- dX];simp [go_sem]),(hb.cell (p:=⟨wr.heap.size,2,none⟩) hl).trans (by rw [<- dX];simp [go_sem]),(hb.cell (p:=⟨wr.heap.size,3,none⟩) hl).trans (by rw [<- dX];simp [go_sem]),(hb.cell (p:=⟨wr.heap.size,4,none⟩) hl).trans (by rw [<- dX];simp [go_sem]),(hb.cell (p:=⟨wr.heap.size,5,none⟩) hl).trans (by rw [<- dX];simp [go_sem]),(hb.cell (p:=⟨wr.heap.size,6,none⟩) hl).trans (by rw [<- dX];simp [go_sem])⟩
   rw [dX]
   clear dX
   have hrow2:=hrow.to aL
   have HX2:=HX1.out.to aL
   clear hrow
   clear ae ah af ai ag ak am au an aw
   have gb2:=bS gb aL
   obtain ⟨z0,ae,af,ag,am,an,ah,ai,ak,au,aw⟩:=al.out _ gb2
   obtain ⟨s0,s1,s2,s3,s4,s5,s6⟩:=HT.out _ (Below.refl _ _)
   go_wp2_with fail
   cases hio:zw c L x
   case false =>
    refine (zhn c _ x.op x.to x.a x.b x.q.ng _ _ x.q.n x.q.d W0.heap.size N L _ (i0.to gb2) HX2 hrow2 HL.out (by omega) HN.out.symm Hr.out Hcl.out false hio).mono ?_
    rintro e w3 ⟨rfl,bM⟩
    clear s0 s1 s2 s3 s4 s5 s6
    clear ae ah af ai ag ak am au an aw
    have ho:false=o:=by rw [<- HA2.out,hio,Bool.false_and]
    subst ho
    clear hio
    go_wp2_with fail
    go_ret
    exact ⟨rfl,bS zb (bS gb2 bM)⟩
   case true =>
    refine (zhn c _ x.op x.to x.a x.b x.q.ng _ _ x.q.n x.q.d W0.heap.size N L _ (i0.to gb2) HX2 hrow2 HL.out (by omega) HN.out.symm Hr.out Hcl.out true hio).mono ?_
    rintro e w3 ⟨rfl,bM⟩
    clear s0 s1 s2 s3 s4 s5 s6
    clear ae ah af ai ag ak am au an aw
    have gb3:=bS gb2 bM
    have hrow3:=hrow2.to bM
    obtain ⟨s0,s1,s2,s3,s4,s5,s6⟩:=HT.out _ bM
    obtain ⟨z0,ae,af,ag,am,an,ah,ai,ak,au,aw⟩:=al.out _ gb3
    have HA3:Hid (zaj c (more L x) (c.all.drop (k+1))=o):=by show _=_;rw [<- HA2.out,hio,Bool.true_and]
    clear hrow2 gb2
    by_cases h10:x.op=10
    ·have t:(x.op != 10)=false:=by simp;exact h10
     have em:more L x=L:=by unfold more;rw [if_pos h10]
     have HA4:Hid (zaj c L (c.all.drop (k+1))=o):=by show _=_;rw [<- HA3.out,em]
     clear h10 em hio
     go_wp2_with fail
     go_roundw
     case rel => exact ⟨k+1,L,by omega,by go_num,gb3,hrow3,HA4,HL⟩
     case measure => simp [intOf];omega
    ·have t:(x.op != 10)=true:=by simp;exact h10
     have hto:=zcn hio h10
     obtain ⟨T,hT⟩:=Int.eq_ofNat_of_zero_le hto.1
     have hTN:T<N:=by have:=HN.out;omega
     have em:more L x=L++[(T:Int)]:=by unfold more;rw [if_neg h10,hT]
     have HA4:Hid (zaj c (L++[(T:Int)]) (c.all.drop (k+1))=o):=by show _=_;rw [<- HA3.out,em]
     have HL4:Hid (∀ x ∈ L++[(T:Int)],0<=x/\x<(N:Int)):=fun y hy => by
      rcases List.mem_append.1 hy with hy|hy
      ·exact HL.out y hy
      ·rw [List.mem_singleton.1 hy];omega
     rw [hT] at s1
     obtain ⟨r1,r2⟩:=hrow3.2 T hTN
     have hTi:(T:Int)<(N:Int):=by omega
     clear h10 em hio hto hT HA3
     go_wp2_with fail
     go_roundw
     case rel => exact ⟨k+1,L++[(T:Int)],by omega,by go_num,gb3.setCell (Nat.le_refl _) _,(hrow3.set T (.bool true)).cast (fun i _ => zji i (N:=N)),HA4,HL4⟩
     case measure => simp [intOf];omega
  ·obtain rfl:k=n0:=by omega
   have ho:true=o:=by
    have:=HA.out
    rw [<- H0.out,List.drop_length] at this
    exact this
   subst ho
   go_wp2_with fail
   go_ret
   exact ⟨rfl,bS zb gb⟩

theorem zbZ (c:Cd) (v:Value) (w:World) (hc:IsC w c v) (hs:zaV 4097 c.all) (o:Bool) (ho:zS c=o) :
  Calls Try.prog 8 #[aggC c v] w (fun e w' => e=.returned (.bool o)/\Below w.heap.size w w'):=by
 unfold zS at ho
 cases h0:zbV c with
 | false => rw [h0] at ho;obtain rfl:false=o:=ho;exact zgl c v w hc hs h0
 | true => rw [h0,Bool.true_and] at ho;exact zgk c v w hc hs h0 o ho

end Go.Proofs.Ytkjcdnlpjldhaaa


namespace Go.Proofs.Ytkjcdnlpjldhaaa
open Go.RowKit Tw

theorem zgC {wt:Int->Int} {m:Int} {l:List Ins} {k:Nat} (h:k<l.length):zbj wt m (l.drop k) =
  if l[k].op=10 then zbj wt m (l.drop (k+1)) else zbj (upd wt l[k].to (wOf wt l[k])) (max m (wOf wt l[k])) (l.drop (k+1)):=by
 rw [List.drop_eq_getElem_cons h];rfl

def Lite (wt:Int->Int):Prop:=∀ r,0<=wt r/\wt r<=1000000

theorem zcv {wt:Int->Int} (h:Lite wt) (x:Ins):0<=wOf wt x/\wOf wt x<=1000000:=by
 have ha:=h x.a
 have hb:=h x.b
 have h1:0<=(if 1<=zh x.op then wt x.a else 1):=by split <;> omega
 have h2:0<=(if zh x.op=2 then (if 1<=zh x.op then wt x.a else 1)+wt x.b else (if 1<=zh x.op then wt x.a else 1)):=by
  by_cases h:zh x.op=2
  ·rw [if_pos h];omega
  ·rw [if_neg h];exact h1
 have h3:0<=(if x.op=7 then (if zh x.op=2 then (if 1<=zh x.op then wt x.a else 1)+wt x.b else (if 1<=zh x.op then wt x.a else 1))*max 1 (max x.b (-x.b)) else (if zh x.op=2 then (if 1<=zh x.op then wt x.a else 1)+wt x.b else (if 1<=zh x.op then wt x.a else 1))):=by
  by_cases h:x.op=7
  ·rw [if_pos h];exact Int.mul_nonneg h2 (by omega)
  ·rw [if_neg h];exact h2
 unfold wOf
 constructor
 ·exact Int.le_min.2 ⟨h3,by decide⟩
 ·exact Int.min_le_right _ _

theorem Lite.upd {wt:Int->Int} (h:Lite wt) (x:Ins):Lite (upd wt x.to (wOf wt x)):=by
 intro r
 unfold Go.Proofs.Ytkjcdnlpjldhaaa.upd
 split
 ·exact zcv h x
 ·exact h r

theorem zhw {wt:Int->Int} {x:Ins} (h:x.op=0\/x.op=1):wOf wt x=1:=by
 unfold wOf
 rcases h with h|h <;> rw [h] <;> simp [zh] <;> decide

theorem ziX {wt:Int->Int} {x:Ins} (h:zh x.op=2):wOf wt x=min (wt x.a+wt x.b) 1000000:=by
 have h7:x.op≠7:=fun e => by rw [e] at h;exact absurd h (by decide)
 unfold wOf
 simp only [if_pos h,if_pos (show 1<=zh x.op by omega),if_neg h7]

theorem ziV {wt:Int->Int} {x:Ins} (h:x.op=6):wOf wt x=min (wt x.a) 1000000:=by
 unfold wOf;rw [h];simp [zh]

theorem ziW {wt:Int->Int} {x:Ins} (h:x.op=7):wOf wt x=min (wt x.a*max 1 (max x.b (-x.b))) 1000000:=by
 unfold wOf;rw [h];simp [zh]

theorem zes {N T:Nat} {wt:Int->Int} {z:Int} (i:Nat):(if i=T then Value.int .i64 z else Value.int .i64 (wt i))=.int .i64 (upd wt (T:Int) z i):=by
 unfold upd
 by_cases h:i=T
 ·rw [if_pos h,h,if_pos rfl]
 ·rw [if_neg h,if_neg (by omega)]

theorem zR {c:Cd} {L:List Int} {x:Ins} (h:zw c L x=true) (h1:1<=zh x.op):x.a ∈ L:=by
 unfold zw aOk at h
 rw [if_neg (fun e => by rw [e] at h1;exact absurd h1 (by decide)),if_neg (fun e => by rw [e] at h1;exact absurd h1 (by decide))] at h
 simp only [Bool.and_eq_true,decide_eq_true_eq] at h
 exact h.1.1.2

theorem zaE {c:Cd} {L:List Int} {x:Ins} (h:zw c L x=true) (h1:zh x.op=2):x.b ∈ L:=by
 unfold zw bOk at h
 rw [if_neg (fun e => by rw [e] at h1;exact absurd h1 (by decide)),if_pos h1] at h
 simp only [Bool.and_eq_true,decide_eq_true_eq] at h
 exact h.1.2

theorem zdv {c:Cd} {L:List Int} {x:Ins} (h:zw c L x=true) (h1:x.op=7):-21<=x.b/\x.b<=21:=by
 unfold zw bOk at h
 rw [if_pos h1] at h
 simp only [Bool.and_eq_true,decide_eq_true_eq] at h
 exact h.1.2

theorem zbc {c:Cd} {L:List Int} {x:Ins} (h:zw c L x=true):0<=zh x.op:=by
 unfold zw at h
 simp only [Bool.and_eq_true,decide_eq_true_eq] at h
 exact h.1.1.1.1

theorem zgQ {op:Int} (h:0<=zh op):(op=0\/op=1)\/zh op=2\/op=6\/op=7\/op=10:=by
 rcases zbp _ h with e|e|e|e|e|e|e|e|e|e|e <;> rw [e] <;> decide

theorem ziG {a b:Int} (ha:0<=a/\a<=1000000) (hb:1<=b/\b<=21):0<=a*b/\a*b<=21000000:=by
 have h:=Int.mul_le_mul ha.2 hb.2 (by omega) (by decide)
 exact ⟨Int.mul_nonneg ha.1 (by omega),by simpa using h⟩

end Go.Proofs.Ytkjcdnlpjldhaaa


namespace Go.Proofs.Ytkjcdnlpjldhaaa
open Go.RowKit Tw

theorem zhk (x:Rat):∀ n:Nat,szq (x ^ n)<=max 1 (szq x*n)
 | 0 => by
  rw [Rat.pow_zero]
  have:szq 1<=1:=by decide +kernel
  omega
 | n+1 => by
  have h1:=zgc (x ^ n) x
  have h2:=zhk x n
  have h3:=zcD x
  rw [Rat.pow_succ,Nat.mul_succ]
  rcases Nat.eq_zero_or_pos n with h|h
  ·subst h
   rw [Rat.pow_zero,Rat.one_mul]
   omega
  ·have h4:1<=szq x*n:=Nat.mul_pos h3 h
   omega

theorem zdu:∀ (l:List Ins) (wt:Int->Int) (m:Int),m<=zbj wt m l
 | [],_,_ => Int.le_refl _
 | x :: t,wt,m => by
  unfold zbj
  split
  ·exact zdu t wt m
  ·have:=zdu t (upd wt x.to (wOf wt x)) (max m (wOf wt x))
   omega

theorem zjN:szq 0<=1:=by decide +kernel

theorem szq_two {p:List Rat} {R:Int->Rat} {x:Ins} (h:zh x.op=2):szq (opV p R x)<=szq (R x.a)+szq (R x.b)+1:=by
 have h1:=ziQ (R x.a) (R x.b)
 have h2:=szq_sub (R x.a) (R x.b)
 have h3:=zgc (R x.a) (R x.b)
 have h4:=szq_div (R x.a) (R x.b)
 unfold opV
 rcases zbp x.op (by omega) with e|e|e|e|e|e|e|e|e|e|e <;> rw [e] at h ⊢ <;>
  first
  | exact absurd h (by decide)
  | (simp;omega)

theorem szq_pow7 {p:List Rat} {R:Int->Rat} {x:Ins} (h:x.op=7):szq (opV p R x)<=max 1 (szq (R x.a)*x.b.natAbs):=by
 have h1:=zhk (R x.a) x.b.natAbs
 have h2:=zgb (R x.a ^ x.b.natAbs)
 unfold opV
 rw [h]
 simp
 split <;> omega

theorem ziB {p:List Rat} {R:Int->Rat} {x:Ins} (h:x.op=6):opV p R x=-R x.a:=by unfold opV;rw [h];simp

theorem ziC {p:List Rat} {R:Int->Rat} {x:Ins} (h:x.op=10):opV p R x=R x.a:=by unfold opV;rw [h];simp

theorem zgP {p:List Rat} {R:Int->Rat} {x:Ins} (h:x.op=0):opV p R x=p.getD x.a.toNat 0:=by unfold opV;rw [h];simp

theorem ziz {p:List Rat} {R:Int->Rat} {x:Ins} (h:x.op=1):opV p R x=x.q.num:=by unfold opV;rw [h];simp

theorem zhK {p:List Rat} {K:Nat} (hK:1<=K) (h:∀ q ∈ p,szq q<=K) (i:Nat):szq (p.getD i 0)<=K:=by
 rcases Nat.lt_or_ge i p.length with k|k
 ·rw [show p.getD i 0=p[i] by simp [k]]
  exact h _ (List.getElem_mem k)
 ·rw [show p.getD i 0=0 by simp [k]]
  exact Nat.le_trans zjN hK

def Thin (L:List Int) (wt:Int->Int) (R:Int->Rat):Prop:=∀ r ∈ L,1<=wt r/\wt r<=20/\(szq (R r):Int)+1<=8*wt r

theorem zjO {c:Cd} {L:List Int} {wt:Int->Int} {R:Int->Rat} {p:List Rat} {x:Ins} (hx:zw c L x=true) (h:Thin L wt R) (hp:∀ q ∈ p,szq q<=7)
  (hq:szq x.q.num<=7) (h10:x.op≠10) (hw:wOf wt x<=20):1<=wOf wt x/\(szq (opV p R x):Int)+1<=8*wOf wt x/\(x.op=7->szq (R x.a)*x.b.natAbs<4097):=by
 rcases zgQ (zbc hx) with e|e|e|e|e
 ·rw [zhw e]
  rcases e with e|e
  ·rw [zgP e]
   have:=zhK (by omega) hp x.a.toNat
   exact ⟨by omega,by omega,fun k => by omega⟩
  ·rw [ziz e]
   exact ⟨by omega,by omega,fun k => by omega⟩
 ·have ha:=h _ (zR hx (by omega))
  have hb:=h _ (zaE hx e)
  have hs:=szq_two (p:=p) (R:=R) e
  rw [ziX e] at hw ⊢
  exact ⟨by omega,by omega,fun k => by rw [k] at e;exact absurd e (by decide)⟩
 ·have ha:=h _ (zR hx (by rw [e];decide))
  rw [ziV e] at hw ⊢
  rw [ziB e,zgd]
  exact ⟨by omega,by omega,fun k => by omega⟩
 ·have ha:=h _ (zR hx (by rw [e];decide))
  have hb:=zdv hx e
  have hs:=szq_pow7 (p:=p) (R:=R) e
  rw [ziW e] at hw ⊢
  obtain ⟨k,hk⟩:∃ k:Nat,x.b.natAbs=k:=⟨_,rfl⟩
  have hm:max 1 (max x.b (-x.b))=((max 1 k:Nat):Int):=by omega
  have hk2:k<=21:=by omega
  rw [hk] at hs
  rw [hm] at hw ⊢
  have hle:wt x.a*((max 1 k:Nat):Int)<=20:=by
   have:=(ziG (a:=wt x.a) (b:=((max 1 k:Nat):Int)) (by omega) (by omega)).2
   omega
  have hmin:min (wt x.a*((max 1 k:Nat):Int)) 1000000=wt x.a*((max 1 k:Nat):Int):=by omega
  rw [hmin]
  have h1:1*1<=wt x.a*((max 1 k:Nat):Int):=Int.mul_le_mul ha.1 (by omega) (by decide) (by omega)
  have h2:((szq (R x.a):Int)+1)*((max 1 k:Nat):Int)<=8*wt x.a*((max 1 k:Nat):Int):=Int.mul_le_mul_of_nonneg_right ha.2.2 (by omega)
  rw [Int.add_mul,Int.one_mul,Int.mul_assoc] at h2
  have h3:szq (R x.a)*k<=szq (R x.a)*max 1 k:=Nat.mul_le_mul_left _ (Nat.le_max_right _ _)
  have h4:((szq (R x.a)*max 1 k:Nat):Int)=(szq (R x.a):Int)*((max 1 k:Nat):Int):=by push_cast;rfl
  have h5:1<=szq (R x.a)*max 1 k:=Nat.mul_pos (zcD _) (by omega)
  rw [<- h4] at h2
  generalize wt x.a*((max 1 k:Nat):Int)=P at *
  generalize szq (R x.a)*max 1 k=Q at *
  rw [hk]
  generalize szq (R x.a)*k=T at *
  exact ⟨by omega,by omega,fun _ => by omega⟩
 ·exact absurd e h10

theorem Thin.next {c:Cd} {L:List Int} {wt:Int->Int} {R:Int->Rat} {x:Ins} {v:Rat} (h:Thin L wt R) (h10:x.op≠10) (hw:wOf wt x<=20) (h1:1<=wOf wt x/\(szq v:Int)+1<=8*wOf wt x) :
  Thin (more L x) (upd wt x.to (wOf wt x)) (upd R x.to v):=by
 intro r hr
 unfold more at hr
 rw [if_neg h10,List.mem_append] at hr
 by_cases e:r=x.to
 ·subst e
  rw [zbh,zbh]
  exact ⟨h1.1,hw,h1.2⟩
 ·rw [zby _ _ e,zby _ _ e]
  rcases hr with hr|hr
  ·exact h r hr
  ·exact absurd (List.mem_singleton.1 hr) e

theorem zcM {c:Cd} {p:List Rat} (hp:∀ q ∈ p,szq q<=7):∀ (l:List Ins) (L:List Int) (wt:Int->Int) (m:Int) (s:St),(∀ x ∈ l,szq x.q.num<=7)->zaj c L l=true->Thin L wt s.R->zbj wt m l<=20->zaL 4097 p s l
 | [],_,_,_,_,_,_,_,_ => trivial
 | x :: t,L,wt,m,s,hl,ha,hT,hh => by
  unfold zaj at ha
  rw [Bool.and_eq_true] at ha
  have hlt:∀ y ∈ t,szq y.q.num<=7:=fun y hy => hl y (List.mem_cons_of_mem _ hy)
  unfold zbj at hh
  unfold zaL
  by_cases h10:x.op=10
  ·rw [if_pos h10] at hh
   have hm:more L x=L:=by unfold more;rw [if_pos h10]
   refine ⟨fun _ => ⟨?_,fun k => by omega⟩,fun _ => ?_⟩
   ·rw [ziC h10]
    have:=hT _ (zR ha.1 (by rw [h10];decide))
    omega
   ·refine zcM hp t L wt m _ hlt (by rw [<- hm];exact ha.2) ?_ hh
    unfold St.next
    rw [if_pos h10]
    exact hT
  ·rw [if_neg h10] at hh
   have hw:wOf wt x<=20:=by have:=zdu t (upd wt x.to (wOf wt x)) (max m (wOf wt x));omega
   have hs:=zjO (p:=p) ha.1 hT hp (hl x (List.mem_cons_self ..)) h10 hw
   refine ⟨fun _ => ⟨by omega,hs.2.2⟩,fun _ => ?_⟩
   refine zcM hp t (more L x) _ _ _ hlt ha.2 ?_ hh
   unfold St.next
   rw [if_neg h10]
   exact hT.next (c:=c) h10 hw ⟨hs.1,hs.2.1⟩

theorem zjh {c:Cd} {p:List Rat} (hp:∀ q ∈ p,szq q<=7) (hl:∀ x ∈ c.all,szq x.q.num<=7) (hr:zS c=true) (hh:zey c<=20):zaL 4097 p St.zero c.all:=by
 unfold zey at hh
 rw [if_pos hr] at hh
 unfold zS at hr
 rw [Bool.and_eq_true] at hr
 exact zcM hp c.all [] (fun _ => 0) 0 St.zero hl hr.2 (fun r h => by cases h) hh

end Go.Proofs.Ytkjcdnlpjldhaaa


namespace Go.Proofs.Ytkjcdnlpjldhaaa
open Go.RowKit Tw

def Names (f:Int->Int) (n N:Int):Prop:=(∀ r s,0<=r->r<n->0<=s->s<n->f r=f s->r=s)/\∀ r,0<=f r/\f r<N

theorem zY {c:Cd} {L:List Int} {x:Ins} (h:zw c L x=true):0<=x.to/\x.to<zJ c x:=by
 unfold zw at h
 simp only [Bool.and_eq_true,decide_eq_true_eq] at h
 exact h.2

def Agree {α:Type} (f:Int->Int) (L:List Int) (u v:Int->α):Prop:=∀ r ∈ L,v (f r)=u r

theorem Agree.upd {α:Type} {f:Int->Int} {L:List Int} {u v:Int->α} {n N:Int} (hf:Names f n N) (hL:∀ r ∈ L,0<=r/\r<n) {i:Int} (hi:0<=i/\i<n) (h:Agree f L u v) (z:α) :
  Agree f (L++[i]) (upd u i z) (upd v (f i) z):=by
 intro r hr
 by_cases e:r=i
 ·subst e
  rw [zbh,zbh]
 ·rcases List.mem_append.1 hr with hr|hr
  ·have:=hL r hr
   rw [zby _ _ e,zby _ _ (fun k => e (hf.1 _ _ this.1 this.2 hi.1 hi.2 k))]
   exact h r hr
  ·exact absurd (List.mem_singleton.1 hr) e

end Go.Proofs.Ytkjcdnlpjldhaaa


namespace Go.Proofs.Ytkjcdnlpjldhaaa
open Go.RowKit Tw
attribute [local go_sem ↓] Go.wp_at_zero Go.wp_at_succ

def RdI (w:World) (v:Value) (l:List Int):Prop :=
 ∃ a cap,v=.slice a l.length cap/\l.length<=maxLen/\∀ i (h:i<l.length),∃ b,a=some ⟨b,0,none⟩/\w.cell? ⟨b,i,none⟩=some (.int .i64 l[i])

theorem RdI.to {w w':World} {v:Value} {l:List Int} (h:RdI w v l) (hb:Below w.heap.size w w'):RdI w' v l:=by
 obtain ⟨a,cap,hv,h1,h2⟩:=h
 exact ⟨a,cap,hv,h1,fun i hi => let ⟨b,e,k⟩:=h2 i hi;⟨b,e,(hb.cell (p:=⟨b,i,none⟩) (zj k)).trans k⟩⟩

theorem RdI.drew {w:World} {v:Value} {l:List Int} (h:RdI w v l):RdI w.drew v l:=h.to (Below.refl _ _).drew

theorem RdI.open {w:World} {v:Value} {l:List Int} (h:RdI w v l):∃ a n cap,v=.slice a n cap/\Hid (l.length=n)/\n<=maxLen:=by
 obtain ⟨a,cap,hv,h1,_⟩:=h
 exact ⟨a,_,cap,hv,rfl,h1⟩

theorem RdI.nth {w:World} {a:Option Addr} {n cap:Nat} {l:List Int} (h:RdI w (.slice a n cap) l) {i:Nat} (hi:i<l.length):∃ b,a=some ⟨b,0,none⟩/\w.cell? ⟨b,i,none⟩=some (.int .i64 l[i]):=by
 obtain ⟨a',cap',hv,_,h2⟩:=h
 injection hv with e1 e2 e3
 subst e1
 exact h2 i hi

end Go.Proofs.Ytkjcdnlpjldhaaa


namespace Go.Proofs.Ytkjcdnlpjldhaaa
open Go.RowKit Tw
attribute [local go_sem ↓] Go.wp_at_zero Go.wp_at_succ

end Go.Proofs.Ytkjcdnlpjldhaaa


namespace Go.Proofs.Ytkjcdnlpjldhaaa
open Go.RowKit Tw
attribute [local go_sem ↓] Go.wp_at_zero Go.wp_at_succ

end Go.Proofs.Ytkjcdnlpjldhaaa


namespace Go.Proofs.Ytkjcdnlpjldhaaa
open Go.RowKit Tw

end Go.Proofs.Ytkjcdnlpjldhaaa


namespace Go.Proofs.Ytkjcdnlpjldhaaa
open Go.RowKit Tw
attribute [local go_sem ↓] Go.wp_at_zero Go.wp_at_succ

end Go.Proofs.Ytkjcdnlpjldhaaa


namespace Go.Proofs.Ytkjcdnlpjldhaaa
open Go.RowKit Tw
attribute [local go_sem ↓] Go.wp_at_zero Go.wp_at_succ

theorem zhm (c:Cd) (v:Value) (w:World) (hc:IsC w c v) (hs:zaV 4097 c.all) (h0:zS c=false) :
  Calls Try.prog 9 #[aggC c v] w (fun e w' => e=.returned (.int .i64 0)/\Below w.heap.size w w'):=by
 have Hs:=Lib.hid hs
 have Hr0:=Lib.hid h0
 clear hs h0
 obtain ⟨a0,n0,c0,rfl,H0,hm0⟩:=hc.1.open
 go_enter Try.func9,Try.ntmps9
 go_wp2_with fail
 obtain ⟨W0,aq⟩:∃ W0,w.alloc (.cells #[.int .i64 c.ins,.int .i64 c.rows,.int .i64 c.cols,.int .i64 c.regs,.slice a0 n0 c0] 30)=W0:=⟨_,rfl⟩
 have al:=Lib.hid (show ∀ W',Below W0.heap.size W0 W'->(Bx5 W' w.heap.size (.int .i64 c.ins) (.int .i64 c.rows) (.int .i64 c.cols) (.int .i64 c.regs) (.slice a0 n0 c0)) from fun W' hb => by
   apply bx5 hb
   all_goals first|assumption|(rw [<- aq];simp [go_sem]))
 have zb:Below w.heap.size w W0:=by rw [<- aq];exact bN _ _
 rw [aq]
 clear aq
 have i0:=hc.to zb
 have gb:Below W0.heap.size W0 W0:=Below.refl _ _
 obtain ⟨z0,ae,af,ag,am,an,ah,ai,ak,au,aw⟩:=al.out _ gb
 go_wp2_with fail
 refine (zbZ c _ _ (i0.to gb) Hs.out false Hr0.out).mono ?_
 clear ae ah af ai ag ak am au an aw
 rintro e w1 ⟨rfl,aT⟩
 replace gb:=bS gb aT
 obtain ⟨z0,ae,af,ag,am,an,ah,ai,ak,au,aw⟩:=al.out _ gb
 go_wp2_with fail
 go_ret
 exact ⟨rfl,bS zb gb⟩

theorem zgg (c:Cd) (v:Value) (w:World) (hc:IsC w c v) (hs:zaV 4097 c.all) (h1:zS c=true) (o:Int) (ho:zbj (fun _ => 0) 0 c.all=o) :
  Calls Try.prog 9 #[aggC c v] w (fun e w' => e=.returned (.int .i64 o)/\Below w.heap.size w w'):=by
 have h0:zbV c=true:=by unfold zS at h1;simp only [Bool.and_eq_true] at h1;exact h1.1
 have hh:=h0
 unfold zbV at hh
 simp only [decide_eq_true_eq] at hh
 obtain ⟨N,hN⟩:=Int.eq_ofNat_of_zero_le hh.2.2.2.2.2.1
 have hN1:N<=100000:=by omega
 have Hr:=Lib.hid (show 1<=c.rows/\c.rows<=40 by omega)
 have Hcl:=Lib.hid (show 1<=c.cols/\c.cols<=40 by omega)
 have HN:=Lib.hid hN
 clear hh
 have ha:zaj c [] c.all=true:=by unfold zS at h1;simp only [Bool.and_eq_true] at h1;exact h1.2
 have hlen:c.all.length<=100000:=by unfold zbV at h0;simp only [decide_eq_true_eq] at h0;exact h0.2.2.2.2.2.2.2
 clear hN h0
 have Hs:=Lib.hid hs
 have Ho:=Lib.hid ho
 have Ha:=Lib.hid ha
 have Hrt:=Lib.hid h1
 have Hlen:=Lib.hid hlen
 clear hs ho ha h1 hlen
 obtain ⟨a0,n0,c0,rfl,H0,hm0⟩:=hc.1.open
 have hn0:n0<=100000:=by have:=H0.out;have:=Hlen.out;omega
 go_enter Try.func9,Try.ntmps9
 go_wp2_with fail
 obtain ⟨W0,aq⟩:∃ W0,w.alloc (.cells #[.int .i64 c.ins,.int .i64 c.rows,.int .i64 c.cols,.int .i64 c.regs,.slice a0 n0 c0] 30)=W0:=⟨_,rfl⟩
 have al:=Lib.hid (show ∀ W',Below W0.heap.size W0 W'->(Bx5 W' w.heap.size (.int .i64 c.ins) (.int .i64 c.rows) (.int .i64 c.cols) (.int .i64 c.regs) (.slice a0 n0 c0)) from fun W' hb => by
   apply bx5 hb
   all_goals first|assumption|(rw [<- aq];simp [go_sem]))
 have zb:Below w.heap.size w W0:=by rw [<- aq];exact bN _ _
 rw [aq]
 clear aq
 have i0:=hc.to zb
 have gb:Below W0.heap.size W0 W0:=Below.refl _ _
 obtain ⟨z0,ae,af,ag,am,an,ah,ai,ak,au,aw⟩:=al.out _ gb
 go_wp2_with fail
 refine (zbZ c _ _ (i0.to gb) Hs.out true Hrt.out).mono ?_
 clear ae ah af ai ag ak am au an aw
 rintro e w0 ⟨rfl,eD⟩
 replace gb:=bS gb eD
 obtain ⟨z0,ae,af,ag,am,an,ah,ai,ak,au,aw⟩:=al.out _ gb
 have hgs:=gb.size
 go_wp2_with (
  at_make
  refine zhA _ rfl _ _ 56 3 rfl Try.underlying56 (.int .i64 0) 1 8 (by kernel_rfl) rfl (by decide) _ _ _ _ N rfl rfl HN.out HN.out (by omega) ?_
  intro w1 hr1 aT
  clear ae ah af ai ag ak am au an aw
  replace gb:=bS gb aT
  obtain ⟨z0,ae,af,ag,am,an,ah,ai,ak,au,aw⟩:=al.out _ gb
  rw [Nat.mul_one] at hr1
  replace hr1:zaA w1 w0.heap.size N (fun i => .int .i64 ((fun _ => 0:Int->Int) i)):=hr1.cast (fun i _ => by simp [Nat.mod_one,Value.cells]))
 obtain ⟨g,hg⟩:∃ g,w0.heap.size=g:=⟨_,rfl⟩
 have hgW:W0.heap.size<=g:=by rw [<- hg];exact hgs
 rw [hg] at hr1
 rw [hg]
 clear hg
 go_loopw [4,19] (fun s i ww => ∃ (k:Nat) (L:List Int) (wt:Int->Int) (m:Int),k<=n0/\i=.int .i64 k/\s=.int .i64 m/\Below W0.heap.size W0 ww/\zaA ww g N (fun i => .int .i64 (wt i))/\Hid (zaj c L (c.all.drop k)=true)/\Hid (zbj wt m (c.all.drop k)=o)/\Hid (∀ x ∈ L,0<=x/\x<(N:Int))/\Hid (Lite wt)/\Hid (0<=m/\m<=1000000)) (fun _ i _ => n0 - (intOf i).toNat)
 case atStart => exact ⟨0,[],fun _ => 0,0,Nat.zero_le _,rfl,rfl,gb,hr1,by rw [List.drop_zero];exact Ha.out,by rw [List.drop_zero];exact Ho.out,fun x hx => (by cases hx),fun r => ⟨Int.le_refl _,by show (0:Int)<=1000000;decide⟩,⟨by decide,by decide⟩⟩
 case round =>
  clear gb hr1 ae ah af ai ag ak am au an aw
  obtain ⟨k,L,wt,m,hk,rfl,rfl,gb,hrow,HA,HV,HL,HW,Hm⟩:=hrel
  obtain ⟨z0,ae,af,ag,am,an,ah,ai,ak,au,aw⟩:=al.out _ gb
  by_cases hkn:k<n0
  ·have hki:(k:Int)<(n0:Int):=by omega
   have hkl:k<c.all.length:=by rw [H0.out];exact hkn
   obtain ⟨b,off,rfl,h7⟩:=(i0.to gb).1.nth hkl
   have HA1:=HA.out
   rw [zcL hkl] at HA1
   have HV1:=HV.out
   rw [zgC hkl] at HV1
   have hsx:=Hs.out _ (List.getElem_mem hkl)
   obtain ⟨x,hx⟩:∃ x,c.all[k]=x:=⟨_,rfl⟩
   rw [hx] at HA1 HV1 h7 hsx
   obtain ⟨hok,hA1⟩:=(Bool.and_eq_true _ _).mp HA1
   obtain ⟨vn,vd,s0,s1,s2,s3,s4,s5,s6,hX⟩:=h7.isX hsx.1 hsx.2
   obtain ⟨a1,n1,c1,rfl,H1,hm1⟩:=hX.1.1.open
   obtain ⟨a2,n2,c2,rfl,H2,hm2⟩:=hX.1.2.1.open
   have Hok:=Lib.hid hok
   have HA2:=Lib.hid hA1
   have HV2:=Lib.hid HV1
   clear HA HA1 HV HV1 hok hA1 h7 hsx hx hX hki
   have hki:(k:Int)<(n0:Int):=by omega
   go_wp2_with fail
   clear s0 s1 s2 s3 s4 s5 s6
   obtain ⟨W2,dX⟩:∃ W2,wr.alloc (.cells #[.int .i64 x.op,.int .i64 x.to,.int .i64 x.a,.int .i64 x.b,.bool x.q.ng,.slice a1 n1 c1,.slice a2 n2 c2] 27)=W2:=⟨_,rfl⟩
   have aL:Below wr.heap.size wr W2:=by rw [<- dX];exact bN _ _
   have HT:Hid (∀ W',Below W2.heap.size W2 W'->W'.cell? ⟨wr.heap.size,0,none⟩=some (.int .i64 x.op)/\W'.cell? ⟨wr.heap.size,1,none⟩=some (.int .i64 x.to)/\W'.cell? ⟨wr.heap.size,2,none⟩=some (.int .i64 x.a)/\W'.cell? ⟨wr.heap.size,3,none⟩=some (.int .i64 x.b)/\W'.cell? ⟨wr.heap.size,4,none⟩=some (.bool x.q.ng)/\W'.cell? ⟨wr.heap.size,5,none⟩=some (.slice a1 n1 c1)/\W'.cell? ⟨wr.heap.size,6,none⟩=some (.slice a2 n2 c2)):=fun W' hb => by
    have hl:wr.heap.size<W2.heap.size:=by rw [<- dX];simp
    refine ⟨(hb.cell (p:=⟨wr.heap.size,0,none⟩) hl).trans (by rw [<- dX];simp [go_sem]),(hb.cell (p:=⟨wr.heap.size,1,none⟩) hl).trans (by rw [<- dX];simp [go_sem]),(hb.cell (p:=⟨wr.heap.size,2,none⟩) hl).trans (by rw [<- dX];simp [go_sem]),(hb.cell (p:=⟨wr.heap.size,3,none⟩) hl).trans (by rw [<- dX];simp [go_sem]),(hb.cell (p:=⟨wr.heap.size,4,none⟩) hl).trans (by rw [<- dX];simp [go_sem]),(hb.cell (p:=⟨wr.heap.size,5,none⟩) hl).trans (by rw [<- dX];simp [go_sem]),(hb.cell (p:=⟨wr.heap.size,6,none⟩) hl).trans (by rw [<- dX];simp [go_sem])⟩
   have hgx0:=hrow.lt
   have hgx1:g≠wr.heap.size:=by omega
   have hgx2:wr.heap.size≠g:=by omega
   have hW2s:wr.heap.size<W2.heap.size:=by rw [<- dX];simp
   rw [dX]
   clear dX
   have hrow2:=hrow.to aL
   clear hrow
   clear ae ah af ai ag ak am au an aw
   have gb2:=bS gb aL
   obtain ⟨z0,ae,af,ag,am,an,ah,ai,ak,au,aw⟩:=al.out _ gb2
   obtain ⟨s0,s1,s2,s3,s4,s5,s6⟩:=HT.out _ (Below.refl _ _)
   go_wp2_with fail
   rcases zgQ (zbc Hok.out) with hso|hso|hso|hso|hso
   ·
    have K1:Hid (decide (1<=zh x.op)=false):=by show _=_;rcases hso with e|e <;> rw [e] <;> decide
    have K2:Hid (decide (zh x.op=2)=false):=by show _=_;rcases hso with e|e <;> rw [e] <;> decide
    have K3:Hid (decide (x.op=7)=false):=by show _=_;rcases hso with e|e <;> rw [e] <;> decide
    have h10:x.op≠10:=by rcases hso with e|e <;> rw [e] <;> decide
    have t10:(x.op != 10)=true:=by simp;exact h10
    have hto:=zcn Hok.out h10
    obtain ⟨T,hT⟩:=Int.eq_ofNat_of_zero_le hto.1
    have hTN:T<N:=by have:=HN.out;omega
    rw [hT] at s1
    have em:more L x=L++[(T:Int)]:=by unfold more;rw [if_neg h10,hT]
    have HA4:Hid (zaj c (L++[(T:Int)]) (c.all.drop (k+1))=true):=by show _=_;rw [<- em];exact HA2.out
    have HL4:Hid (∀ x ∈ L++[(T:Int)],0<=x/\x<(N:Int)):=fun y hy => by
     rcases List.mem_append.1 hy with hy|hy
     ·exact HL.out y hy
     ·rw [List.mem_singleton.1 hy];omega
    have hV:=HV2.out
    rw [if_neg h10] at hV
    have HW4:Hid (Lite (upd wt x.to (wOf wt x))):=HW.out.upd x
    have hwl:=zcv HW.out x
    have Hm4:Hid (0<=max m (wOf wt x)/\max m (wOf wt x)<=1000000):=by show _/\_;have:=Hm.out;omega
    have hwo:wOf wt x=1:=by rw [zhw hso]
    obtain ⟨z,hz⟩:∃ z,wOf wt x=z:=⟨_,rfl⟩
    rw [hz] at hwo hwl Hm4 HW4 hV
    rw [hT] at HW4 hV
    have HZ:=Lib.hid hwo
    have HV4:=Lib.hid hV
    clear hV hwo hz em hto h10
    clear hso
    refine (zl x.op false false false true _ K1.out K2.out K3.out (decide_eq_true (zbc Hok.out))).mono ?_
    rintro e w3 ⟨rfl,bM⟩
    have q1:=s1
    clear s0 s1 s2 s3 s4 s5 s6
    clear ae ah af ai ag ak am au an aw
    have gb3:=bS gb2 bM
    have hrow3:=hrow2.to bM
    have gl:=hrow3.lt
    have hxl:wr.heap.size<w3.heap.size:=Nat.lt_of_lt_of_le hW2s bM.size
    obtain ⟨s0,s1,s2,s3,s4,s5,s6⟩:=HT.out _ bM
    obtain ⟨z0,ae,af,ag,am,an,ah,ai,ak,au,aw⟩:=al.out _ gb3
    rw [hT] at s1
    obtain ⟨rT,fT⟩:=hrow3.2 T hTN
    have hTi:(T:Int)<(N:Int):=by omega
    have HTT:=Lib.hid hT
    clear hrow2 hT
    obtain ⟨j0,j1,j2,j3,j4,j5,j6⟩:=HT.out _ (bS bM (bN w3 (.cells #[.bool false,.bool false,.bool false] 58)))
    have hrow4:=hrow3.alloc (.cells #[.bool false,.bool false,.bool false] 58)
    rw [HTT.out] at j1
    obtain ⟨rT4,fT4⟩:=hrow4.2 T hTN
    go_wp2_with fail
    go_roundw
    case rel =>
     obtain rfl:=HZ.out
     exact ⟨k+1,L++[(T:Int)],upd wt (T:Int) _,max m _,by omega,by go_num,rfl,(gb3.setCell hgW _).alloc (by simp;omega) _,((hrow3.set T _).cast (fun i _ => zes (N:=N) i)).alloc _,HA4,HV4,HL4,HW4,Hm4⟩
    case measure => simp [intOf] <;> omega
   ·
    have K1:Hid (decide (1<=zh x.op)=true):=by show _=_;rw [hso];decide
    have K2:Hid (decide (zh x.op=2)=true):=by show _=_;rw [hso];decide
    have K3:Hid (decide (x.op=7)=false):=by show _=_;refine decide_eq_false (fun e => ?_);rw [e] at hso;exact absurd hso (by decide)
    have h10:x.op≠10:=fun e => by rw [e] at hso;exact absurd hso (by decide)
    have t10:(x.op != 10)=true:=by simp;exact h10
    have hto:=zcn Hok.out h10
    obtain ⟨T,hT⟩:=Int.eq_ofNat_of_zero_le hto.1
    have hTN:T<N:=by have:=HN.out;omega
    rw [hT] at s1
    have em:more L x=L++[(T:Int)]:=by unfold more;rw [if_neg h10,hT]
    have HA4:Hid (zaj c (L++[(T:Int)]) (c.all.drop (k+1))=true):=by show _=_;rw [<- em];exact HA2.out
    have HL4:Hid (∀ x ∈ L++[(T:Int)],0<=x/\x<(N:Int)):=fun y hy => by
     rcases List.mem_append.1 hy with hy|hy
     ·exact HL.out y hy
     ·rw [List.mem_singleton.1 hy];omega
    have hV:=HV2.out
    rw [if_neg h10] at hV
    have HW4:Hid (Lite (upd wt x.to (wOf wt x))):=HW.out.upd x
    have hwl:=zcv HW.out x
    have Hm4:Hid (0<=max m (wOf wt x)/\max m (wOf wt x)<=1000000):=by show _/\_;have:=Hm.out;omega
    have ha:=HL.out _ (zR Hok.out (by omega))
    obtain ⟨A,hA⟩:=Int.eq_ofNat_of_zero_le ha.1
    have hAN:A<N:=by omega
    rw [hA] at s2
    have hAi:(A:Int)<(N:Int):=by omega
    obtain ⟨za,hza⟩:∃ z,wt (A:Int)=z:=⟨_,rfl⟩
    have la:=HW.out (A:Int)
    rw [hza] at la
    have hb:=HL.out _ (zaE Hok.out hso)
    obtain ⟨Bb,hB⟩:=Int.eq_ofNat_of_zero_le hb.1
    have hBN:Bb<N:=by omega
    rw [hB] at s3
    have hBi:(Bb:Int)<(N:Int):=by omega
    obtain ⟨zb',hzb⟩:∃ z,wt (Bb:Int)=z:=⟨_,rfl⟩
    have lb:=HW.out (Bb:Int)
    rw [hzb] at lb
    have hsum:IntKind.i64.wrap (za+zb')=za+zb':=IntWalk.i64_in _ (by omega)
    have hwo:wOf wt x=min (za+zb') 1000000:=by rw [ziX hso,hA,hB,hza,hzb]
    obtain ⟨z,hz⟩:∃ z,wOf wt x=z:=⟨_,rfl⟩
    rw [hz] at hwo hwl Hm4 HW4 hV
    rw [hT] at HW4 hV
    have HZ:=Lib.hid hwo
    have HV4:=Lib.hid hV
    clear hV hwo hz em hto h10
    clear hso
    refine (zl x.op true true false true _ K1.out K2.out K3.out (decide_eq_true (zbc Hok.out))).mono ?_
    rintro e w3 ⟨rfl,bM⟩
    have q1:=s1
    clear s0 s1 s2 s3 s4 s5 s6
    clear ae ah af ai ag ak am au an aw
    have gb3:=bS gb2 bM
    have hrow3:=hrow2.to bM
    have gl:=hrow3.lt
    have hxl:wr.heap.size<w3.heap.size:=Nat.lt_of_lt_of_le hW2s bM.size
    obtain ⟨s0,s1,s2,s3,s4,s5,s6⟩:=HT.out _ bM
    obtain ⟨z0,ae,af,ag,am,an,ah,ai,ak,au,aw⟩:=al.out _ gb3
    rw [hT] at s1
    obtain ⟨rT,fT⟩:=hrow3.2 T hTN
    have hTi:(T:Int)<(N:Int):=by omega
    rw [hA] at s2
    have qa:w3.cell? ⟨g,A,none⟩=some (.int .i64 za):=by rw [<- hza];exact (hrow3.2 A hAN).1
    rw [hB] at s3
    have qb:w3.cell? ⟨g,Bb,none⟩=some (.int .i64 zb'):=by rw [<- hzb];exact (hrow3.2 Bb hBN).1
    have HTT:=Lib.hid hT
    have HAA:=Lib.hid hA
    have HZA:=Lib.hid hza
    have HBB:=Lib.hid hB
    have HZB:=Lib.hid hzb
    clear hrow2 hA hza ha hB hzb hb hT
    obtain ⟨j0,j1,j2,j3,j4,j5,j6⟩:=HT.out _ (bS bM (bN w3 (.cells #[.bool true,.bool true,.bool false] 58)))
    have hrow4:=hrow3.alloc (.cells #[.bool true,.bool true,.bool false] 58)
    rw [HTT.out] at j1
    obtain ⟨rT4,fT4⟩:=hrow4.2 T hTN
    rw [HAA.out] at j2
    have qa4:(w3.alloc (.cells #[.bool true,.bool true,.bool false] 58)).cell? ⟨g,A,none⟩=some (.int .i64 za):=by rw [<- HZA.out];exact (hrow4.2 A hAN).1
    rw [HBB.out] at j3
    have qb4:(w3.alloc (.cells #[.bool true,.bool true,.bool false] 58)).cell? ⟨g,Bb,none⟩=some (.int .i64 zb'):=by rw [<- HZB.out];exact (hrow4.2 Bb hBN).1
    go_wp2_with fail
    go_roundw
    case rel =>
     obtain rfl:=HZ.out
     exact ⟨k+1,L++[(T:Int)],upd wt (T:Int) _,max m _,by omega,by go_num,rfl,(gb3.setCell hgW _).alloc (by simp;omega) _,((hrow3.set T _).cast (fun i _ => zes (N:=N) i)).alloc _,HA4,HV4,HL4,HW4,Hm4⟩
    case measure => simp [intOf] <;> omega
   ·
    have K1:Hid (decide (1<=zh x.op)=true):=by show _=_;rw [hso];decide
    have K2:Hid (decide (zh x.op=2)=false):=by show _=_;rw [hso];decide
    have K3:Hid (decide (x.op=7)=false):=by show _=_;rw [hso];decide
    have h10:x.op≠10:=by rw [hso];decide
    have t10:(x.op != 10)=true:=by simp;exact h10
    have hto:=zcn Hok.out h10
    obtain ⟨T,hT⟩:=Int.eq_ofNat_of_zero_le hto.1
    have hTN:T<N:=by have:=HN.out;omega
    rw [hT] at s1
    have em:more L x=L++[(T:Int)]:=by unfold more;rw [if_neg h10,hT]
    have HA4:Hid (zaj c (L++[(T:Int)]) (c.all.drop (k+1))=true):=by show _=_;rw [<- em];exact HA2.out
    have HL4:Hid (∀ x ∈ L++[(T:Int)],0<=x/\x<(N:Int)):=fun y hy => by
     rcases List.mem_append.1 hy with hy|hy
     ·exact HL.out y hy
     ·rw [List.mem_singleton.1 hy];omega
    have hV:=HV2.out
    rw [if_neg h10] at hV
    have HW4:Hid (Lite (upd wt x.to (wOf wt x))):=HW.out.upd x
    have hwl:=zcv HW.out x
    have Hm4:Hid (0<=max m (wOf wt x)/\max m (wOf wt x)<=1000000):=by show _/\_;have:=Hm.out;omega
    have ha:=HL.out _ (zR Hok.out (by rw [hso];decide))
    obtain ⟨A,hA⟩:=Int.eq_ofNat_of_zero_le ha.1
    have hAN:A<N:=by omega
    rw [hA] at s2
    have hAi:(A:Int)<(N:Int):=by omega
    obtain ⟨za,hza⟩:∃ z,wt (A:Int)=z:=⟨_,rfl⟩
    have la:=HW.out (A:Int)
    rw [hza] at la
    have hwo:wOf wt x=min za 1000000:=by rw [ziV hso,hA,hza]
    obtain ⟨z,hz⟩:∃ z,wOf wt x=z:=⟨_,rfl⟩
    rw [hz] at hwo hwl Hm4 HW4 hV
    rw [hT] at HW4 hV
    have HZ:=Lib.hid hwo
    have HV4:=Lib.hid hV
    clear hV hwo hz em hto h10
    clear hso
    refine (zl x.op true false false true _ K1.out K2.out K3.out (decide_eq_true (zbc Hok.out))).mono ?_
    rintro e w3 ⟨rfl,bM⟩
    have q1:=s1
    clear s0 s1 s2 s3 s4 s5 s6
    clear ae ah af ai ag ak am au an aw
    have gb3:=bS gb2 bM
    have hrow3:=hrow2.to bM
    have gl:=hrow3.lt
    have hxl:wr.heap.size<w3.heap.size:=Nat.lt_of_lt_of_le hW2s bM.size
    obtain ⟨s0,s1,s2,s3,s4,s5,s6⟩:=HT.out _ bM
    obtain ⟨z0,ae,af,ag,am,an,ah,ai,ak,au,aw⟩:=al.out _ gb3
    rw [hT] at s1
    obtain ⟨rT,fT⟩:=hrow3.2 T hTN
    have hTi:(T:Int)<(N:Int):=by omega
    rw [hA] at s2
    have qa:w3.cell? ⟨g,A,none⟩=some (.int .i64 za):=by rw [<- hza];exact (hrow3.2 A hAN).1
    have HTT:=Lib.hid hT
    have HAA:=Lib.hid hA
    have HZA:=Lib.hid hza
    clear hrow2 hA hza ha hT
    obtain ⟨j0,j1,j2,j3,j4,j5,j6⟩:=HT.out _ (bS bM (bN w3 (.cells #[.bool true,.bool false,.bool false] 58)))
    have hrow4:=hrow3.alloc (.cells #[.bool true,.bool false,.bool false] 58)
    rw [HTT.out] at j1
    obtain ⟨rT4,fT4⟩:=hrow4.2 T hTN
    rw [HAA.out] at j2
    have qa4:(w3.alloc (.cells #[.bool true,.bool false,.bool false] 58)).cell? ⟨g,A,none⟩=some (.int .i64 za):=by rw [<- HZA.out];exact (hrow4.2 A hAN).1
    go_wp2_with fail
    go_roundw
    case rel =>
     obtain rfl:=HZ.out
     exact ⟨k+1,L++[(T:Int)],upd wt (T:Int) _,max m _,by omega,by go_num,rfl,(gb3.setCell hgW _).alloc (by simp;omega) _,((hrow3.set T _).cast (fun i _ => zes (N:=N) i)).alloc _,HA4,HV4,HL4,HW4,Hm4⟩
    case measure => simp [intOf] <;> omega
   ·
    have K1:Hid (decide (1<=zh x.op)=true):=by show _=_;rw [hso];decide
    have K2:Hid (decide (zh x.op=2)=false):=by show _=_;rw [hso];decide
    have K3:Hid (decide (x.op=7)=true):=by show _=_;rw [hso];decide
    have h10:x.op≠10:=by rw [hso];decide
    have t10:(x.op != 10)=true:=by simp;exact h10
    have hto:=zcn Hok.out h10
    obtain ⟨T,hT⟩:=Int.eq_ofNat_of_zero_le hto.1
    have hTN:T<N:=by have:=HN.out;omega
    rw [hT] at s1
    have em:more L x=L++[(T:Int)]:=by unfold more;rw [if_neg h10,hT]
    have HA4:Hid (zaj c (L++[(T:Int)]) (c.all.drop (k+1))=true):=by show _=_;rw [<- em];exact HA2.out
    have HL4:Hid (∀ x ∈ L++[(T:Int)],0<=x/\x<(N:Int)):=fun y hy => by
     rcases List.mem_append.1 hy with hy|hy
     ·exact HL.out y hy
     ·rw [List.mem_singleton.1 hy];omega
    have hV:=HV2.out
    rw [if_neg h10] at hV
    have HW4:Hid (Lite (upd wt x.to (wOf wt x))):=HW.out.upd x
    have hwl:=zcv HW.out x
    have Hm4:Hid (0<=max m (wOf wt x)/\max m (wOf wt x)<=1000000):=by show _/\_;have:=Hm.out;omega
    have ha:=HL.out _ (zR Hok.out (by rw [hso];decide))
    obtain ⟨A,hA⟩:=Int.eq_ofNat_of_zero_le ha.1
    have hAN:A<N:=by omega
    rw [hA] at s2
    have hAi:(A:Int)<(N:Int):=by omega
    obtain ⟨za,hza⟩:∃ z,wt (A:Int)=z:=⟨_,rfl⟩
    have la:=HW.out (A:Int)
    rw [hza] at la
    have hb:=zdv Hok.out hso
    obtain ⟨xb,hxb⟩:∃ z,x.b=z:=⟨_,rfl⟩
    rw [hxb] at hb s3
    have hneg:IntKind.i64.wrap (-xb)=-xb:=IntWalk.i64_in _ (by omega)
    obtain ⟨mx,hmx⟩:∃ z,max 1 (max xb (-xb))=z:=⟨_,rfl⟩
    have hmb:1<=mx/\mx<=21:=by omega
    have hpr:=ziG la hmb
    obtain ⟨pr,hpr'⟩:∃ z,za*mx=z:=⟨_,rfl⟩
    rw [hpr'] at hpr
    have hmul:IntKind.i64.wrap pr=pr:=IntWalk.i64_in _ (by omega)
    have hwo:wOf wt x=min pr 1000000:=by rw [ziW hso,hA,hza,hxb,hmx,hpr']
    obtain ⟨z,hz⟩:∃ z,wOf wt x=z:=⟨_,rfl⟩
    rw [hz] at hwo hwl Hm4 HW4 hV
    rw [hT] at HW4 hV
    have HZ:=Lib.hid hwo
    have HV4:=Lib.hid hV
    clear hV hwo hz em hto h10
    clear hso
    refine (zl x.op true false true true _ K1.out K2.out K3.out (decide_eq_true (zbc Hok.out))).mono ?_
    rintro e w3 ⟨rfl,bM⟩
    have q1:=s1
    clear s0 s1 s2 s3 s4 s5 s6
    clear ae ah af ai ag ak am au an aw
    have gb3:=bS gb2 bM
    have hrow3:=hrow2.to bM
    have gl:=hrow3.lt
    have hxl:wr.heap.size<w3.heap.size:=Nat.lt_of_lt_of_le hW2s bM.size
    obtain ⟨s0,s1,s2,s3,s4,s5,s6⟩:=HT.out _ bM
    obtain ⟨z0,ae,af,ag,am,an,ah,ai,ak,au,aw⟩:=al.out _ gb3
    rw [hT] at s1
    obtain ⟨rT,fT⟩:=hrow3.2 T hTN
    have hTi:(T:Int)<(N:Int):=by omega
    rw [hA] at s2
    have qa:w3.cell? ⟨g,A,none⟩=some (.int .i64 za):=by rw [<- hza];exact (hrow3.2 A hAN).1
    rw [hxb] at s3
    have HTT:=Lib.hid hT
    have HAA:=Lib.hid hA
    have HZA:=Lib.hid hza
    have HXB:=Lib.hid hxb
    clear hrow2 hA hza ha hxb hb hT
    have hmx':(if (if 1<xb then xb else 1) < -xb then -xb else if 1<xb then xb else 1)=mx:=by rw [<- hmx];split <;> split <;> omega
    clear hmx
    obtain ⟨j0,j1,j2,j3,j4,j5,j6⟩:=HT.out _ (bS bM (bN w3 (.cells #[.bool true,.bool false,.bool true] 58)))
    have hrow4:=hrow3.alloc (.cells #[.bool true,.bool false,.bool true] 58)
    rw [HTT.out] at j1
    obtain ⟨rT4,fT4⟩:=hrow4.2 T hTN
    rw [HAA.out] at j2
    have qa4:(w3.alloc (.cells #[.bool true,.bool false,.bool true] 58)).cell? ⟨g,A,none⟩=some (.int .i64 za):=by rw [<- HZA.out];exact (hrow4.2 A hAN).1
    rw [HXB.out] at j3
    go_wp2_with fail
    go_roundw
    case rel =>
     obtain rfl:=HZ.out
     exact ⟨k+1,L++[(T:Int)],upd wt (T:Int) _,max m _,by omega,by go_num,rfl,(gb3.setCell hgW _).alloc (by simp;omega) _,((hrow3.set T _).cast (fun i _ => zes (N:=N) i)).alloc _,HA4,HV4,HL4,HW4,Hm4⟩
    case measure => simp [intOf] <;> omega
   ·
    have K1:Hid (decide (1<=zh x.op)=true):=by show _=_;rw [hso];decide
    have K2:Hid (decide (zh x.op=2)=false):=by show _=_;rw [hso];decide
    have K3:Hid (decide (x.op=7)=false):=by show _=_;rw [hso];decide
    have t10:(x.op != 10)=false:=by simp;exact hso
    have em:more L x=L:=by unfold more;rw [if_pos hso]
    have HA4:Hid (zaj c L (c.all.drop (k+1))=true):=by show _=_;rw [<- em];exact HA2.out
    have hV:=HV2.out
    rw [if_pos hso] at hV
    have HV4:=Lib.hid hV
    clear hV
    have ha:=HL.out _ (zR Hok.out (by rw [hso];decide))
    obtain ⟨A,hA⟩:=Int.eq_ofNat_of_zero_le ha.1
    have hAN:A<N:=by omega
    rw [hA] at s2
    have hAi:(A:Int)<(N:Int):=by omega
    obtain ⟨za,hza⟩:∃ z,wt (A:Int)=z:=⟨_,rfl⟩
    have la:=HW.out (A:Int)
    rw [hza] at la
    clear hso
    refine (zl x.op true false false true _ K1.out K2.out K3.out (decide_eq_true (zbc Hok.out))).mono ?_
    rintro e w3 ⟨rfl,bM⟩
    have q1:=s1
    clear s0 s1 s2 s3 s4 s5 s6
    clear ae ah af ai ag ak am au an aw
    have gb3:=bS gb2 bM
    have hrow3:=hrow2.to bM
    have gl:=hrow3.lt
    have hxl:wr.heap.size<w3.heap.size:=Nat.lt_of_lt_of_le hW2s bM.size
    obtain ⟨s0,s1,s2,s3,s4,s5,s6⟩:=HT.out _ bM
    obtain ⟨z0,ae,af,ag,am,an,ah,ai,ak,au,aw⟩:=al.out _ gb3
    rw [hA] at s2
    have qa:w3.cell? ⟨g,A,none⟩=some (.int .i64 za):=by rw [<- hza];exact (hrow3.2 A hAN).1
    have HAA:=Lib.hid hA
    have HZA:=Lib.hid hza
    clear hrow2 hA hza ha em
    obtain ⟨j0,j1,j2,j3,j4,j5,j6⟩:=HT.out _ (bS bM (bN w3 (.cells #[.bool true,.bool false,.bool false] 58)))
    have hrow4:=hrow3.alloc (.cells #[.bool true,.bool false,.bool false] 58)
    rw [HAA.out] at j2
    have qa4:(w3.alloc (.cells #[.bool true,.bool false,.bool false] 58)).cell? ⟨g,A,none⟩=some (.int .i64 za):=by rw [<- HZA.out];exact (hrow4.2 A hAN).1
    go_wp2_with fail
    go_roundw
    case rel => exact ⟨k+1,L,wt,m,by omega,by go_num,rfl,gb3.alloc (Nat.le_trans hgW (Nat.le_of_lt gl)) _,hrow3.alloc _,HA4,HV4,HL,HW,Hm⟩
    case measure => simp [intOf] <;> omega
  ·obtain rfl:k=n0:=by omega
   have ho:m=o:=by
    have:=HV.out
    rw [<- H0.out,List.drop_length] at this
    exact this
   subst ho
   go_wp2_with fail
   go_ret
   exact ⟨rfl,bS zb gb⟩

theorem vm_heavy (c:Cd) (v:Value) (w:World) (hc:IsC w c v) (hs:zaV 4097 c.all) (o:Int) (ho:zey c=o) :
  Calls Try.prog 9 #[aggC c v] w (fun e w' => e=.returned (.int .i64 o)/\Below w.heap.size w w'):=by
 unfold zey at ho
 cases h1:zS c with
 | false => rw [h1] at ho;obtain rfl:0=o:=ho;exact zhm c v w hc hs h1
 | true => rw [h1,if_pos rfl] at ho;exact zgg c v w hc hs h1 o ho

end Go.Proofs.Ytkjcdnlpjldhaaa


namespace Go.Proofs.Ytkjcdnlpjldhaaa
open Go.RowKit Tw

structure Tn where
 op:Nat
 to:Nat
 a:Nat
 b:Nat

def i8 (a:Nat):Int:=if a % 256<128 then ((a % 256:Nat):Int) else ((a % 256:Nat):Int) - 256

def twoOf (op:Int):Prop:=1<op/\op≠6/\op≠7/\op≠10

instance (op:Int):Decidable (twoOf op):=by unfold twoOf;exact inferInstance

structure MInv (G:Nat) (wr ws L:List Int) (wt:Int->Int):Prop where
 len:ws.length=wr.length
 nd:wr.Nodup
 rng:∀ r ∈ wr,0<=r/\r<(G:Int)
 sub:∀ r ∈ wr,r ∈ L
 wts:∀ i,i<wr.length->1<=wt (wr.getD i 0)/\wt (wr.getD i 0)<=ws.getD i 0/\ws.getD i 0<=12

section

variable {I G RC:Nat} {wr ws L:List Int} {wt:Int->Int} {t:Tn} {c:Cd}

theorem MInv.nil (G:Nat) (wt:Int->Int):MInv G [] [] [] wt:=⟨rfl,List.nodup_nil,(fun _ h => by cases h),(fun _ h => by cases h),(fun i h => by cases h)⟩

end

end Go.Proofs.Ytkjcdnlpjldhaaa


namespace Go.Proofs.Ytkjcdnlpjldhaaa
open Go.RowKit Tw

section

variable {w w':World} {base:Nat} {v u:Value} {l:List Ins} {xs:List Value} {x:Ins} {g cap:Nat} {a a':Option Addr} {n c n' c':Nat} {row:Option Nat}

abbrev zar (x:Ins) (vn vd:Value):List Value:=[.int .i64 x.op,.int .i64 x.to,.int .i64 x.a,.int .i64 x.b,.bool x.q.ng,vn,vd]

def I64X (x:Ins):Prop:=I64 x.op/\I64 x.to/\I64 x.a/\I64 x.b

def zaQ (base:Nat) (w:World) (v:Value) (l:List Ins):Prop :=
 ∃ xs,w.ownsRow base 27 7 v l.length xs/\∀ k (h:k<l.length),∃ a n c a' n' c',(∀ j,j<7->xs[k*7+j]?=(zar l[k] (.slice a n c) (.slice a' n' c'))[j]?) /\
  Rd w (.slice a n c) l[k].q.n/\Rd w (.slice a' n' c') l[k].q.d/\Far (.slice a n c) v.ownBlock/\Far (.slice a' n' c') v.ownBlock/\I64X l[k]

theorem zaQ.nil (base:Nat) (w:World):zaQ base w (.slice none 0 0) []:=⟨[],World.ownsRow_nil w base _ 7,fun k h => absurd h (by simp)⟩

theorem zaQ.to (h:zaQ base w v l) (hb:Below w.heap.size w w'):zaQ base w' v l:=by
 obtain ⟨xs,h1,h2⟩:=h
 refine ⟨xs,zbD h1 hb,fun k hk => ?_⟩
 obtain ⟨a,n,c,a',n',c',s,k1,k2,f1,f2,i⟩:=h2 k hk
 exact ⟨a,n,c,a',n',c',s,k1.to hb,k2.to hb,f1,f2,i⟩

theorem zaQ.drew (h:zaQ base w v l):zaQ base w.drew v l:=h.to (Below.refl _ _).drew

theorem zaQ.len (h:zaQ base w v l):∃ xs,w.ownsRow base 27 7 v l.length xs:=⟨_,h.choose_spec.1⟩

theorem zaQ.lt (h:zaQ base w v l):∀ k,v.ownBlock=some k->base<=k/\k<w.heap.size:=by
 obtain ⟨xs,h1,_⟩:=h
 exact World.ownsRow.lt h1

theorem zaQ.form (h:zaQ base w v l):∃ a cap,v=.slice a l.length cap/\(0<l.length->∃ g,a=some ⟨g,0,none⟩/\base<=g/\g<w.heap.size):=by
 obtain ⟨xs,h1,_⟩:=h
 rcases h1.2 with ⟨hv,h0⟩|⟨g,cap,cur,hv,hg,hh,r⟩
 ·exact ⟨none,0,by rw [hv,h0],fun h => by omega⟩
 ·exact ⟨_,cap,hv,fun _ => ⟨g,rfl,hg,(Array.getElem?_eq_some_iff.1 hh).1⟩⟩

theorem zfR {e:TypeId} {s m:Nat} {ys:List Value} (hx:w.ownsRow base e s v m xs) (hy:w.ownsRow base e s v m ys):xs=ys:=by
 rcases hx.2 with ⟨hv,h0⟩|⟨g1,cap1,cur1,hv1,hg1,hh1,a1,a2,a3,a4⟩
 ·have l1:=hx.1
  have l2:=hy.1
  rw [h0,Nat.zero_mul] at l1 l2
  rw [List.eq_nil_of_length_eq_zero l1,List.eq_nil_of_length_eq_zero l2]
 ·rcases hy.2 with ⟨hv2,_⟩|⟨g2,cap2,cur2,hv2,hg2,hh2,b1,b2,b3,b4⟩
  ·rw [hv1] at hv2;cases hv2
  ·rw [hv1] at hv2
   injection hv2 with e1 e2 e3
   injection e1 with e1
   injection e1 with e1 _
   subst e1
   rw [hh1] at hh2
   injection hh2 with hh2
   injection hh2 with hh2
   subst hh2
   rw [<- a4,<- b4]

theorem zaQ.push (h:zaQ base w v l) (hx:w.ownsRow base 27 7 v l.length xs)
  (hown:w'.ownsRow base 27 7 (.slice (some ⟨g,0,none⟩) (l.length+1) cap) (l.length+1) (xs++zar x (.slice a n c) (.slice a' n' c'))) (hgrow:w.grownBy w' v.ownBlock) (hat:v.ownBlock=some g\/g=w.heap.size)
  (hn:Rd w (.slice a n c) x.q.n) (hd:Rd w (.slice a' n' c') x.q.d) (f1:Far (.slice a n c) v.ownBlock) (f2:Far (.slice a' n' c') v.ownBlock) (hi:I64X x):zaQ base w' (.slice (some ⟨g,0,none⟩) (l.length+1) cap) (l++[x]):=by
 have hl:(l++[x]).length=l.length+1:=by simp
 obtain ⟨ys,hy,h2⟩:=h
 obtain rfl:=zfR hx hy
 have hlen:xs.length=l.length*7:=hx.1
 have far:∀ {s:Value} {l:List Nat},Rd w s l->Far s v.ownBlock->Far s (some g):=fun hr hf => by
  rcases hat with e|e
  ·rw [<- e];exact hf
  ·exact hr.far_new (by omega)
 refine ⟨_,by rw [hl];exact hown,fun k hk' => ?_⟩
 rcases Nat.lt_or_ge k l.length with hlt|hge
 ·obtain ⟨a1,n1,c1,a1',n1',c1',s,k1,k2,g1,g2,i⟩:=h2 k hlt
  rw [List.getElem_append_left hlt]
  exact ⟨a1,n1,c1,a1',n1',c1',fun j hj => by rw [List.getElem?_append_left (by omega)];exact s j hj,k1.grown hgrow g1,k2.grown hgrow g2,far k1 g1,far k2 g2,i⟩
 ·have e:k=l.length:=by omega
  subst e
  have ex:(l++[x])[l.length]=x:=by simp
  rw [ex]
  exact ⟨a,n,c,a',n',c',fun j hj => by rw [List.getElem?_append_right (by omega),hlen,Nat.add_sub_cancel_left],hn.grown hgrow f1,hd.grown hgrow f2,far hn f1,far hd f2,hi⟩

theorem zaQ.rdC (h:zaQ base w v l):RdC w v l:=by
 obtain ⟨xs,h1,h2⟩:=h
 rcases h1.2 with ⟨hv,h0⟩|⟨g,cap,cur,hv,hg,hh,hn,hm,r⟩
 ·exact ⟨none,0,by rw [hv,h0],by rw [h0];exact Nat.le_refl _,Nat.zero_le _,fun i hi => by omega⟩
 ·refine ⟨_,cap,hv,hn,hm,fun i hi => ?_⟩
  subst hv
  obtain ⟨a,n,c,a',n',c',s,k1,k2,f1,f2,hi64⟩:=h2 i hi
  have key:∀ j,j<7->w.cell? ⟨g,i*7+j,none⟩=(zar l[i] (.slice a n c) (.slice a' n' c'))[j]?:=fun j hj => by
   rw [World.ownsRow.cellAt h1 _ (by omega)];exact s j hj
  refine ⟨g,0,rfl,?_⟩
  rw [Nat.zero_add]
  exact ⟨key 0 (by decide),key 1 (by decide),key 2 (by decide),key 3 (by decide),⟨_,_,key 4 (by decide),key 5 (by decide),key 6 (by decide),k1,k2⟩,hi64⟩

theorem zaQ.setP {B o:Nat} (k:zaQ base w v l) (hne:v.ownBlock≠some B) {c0:Value} (hc:w.cell? ⟨B,o,none⟩=some c0) (hn:∀ z,c0≠.int .u32 z) (x:Value):zaQ base (w.setCell ⟨B,o,none⟩ x) v l:=by
 obtain ⟨xs,h1,h2⟩:=k
 refine ⟨xs,Go.ownsRow_setCell_other h1 (fun e => hne e) x,fun k hk => ?_⟩
 obtain ⟨a,n,c,a',n',c',s,k1,k2,f1,f2,i⟩:=h2 k hk
 exact ⟨a,n,c,a',n',c',s,k1.put hc hn x,k2.put hc hn x,f1,f2,i⟩

theorem zeK {x:Ins} {vn vd:Value} {t:TypeId} {w2:World}:∀ j u,(zar x vn vd)[j]?=some u->(w2.alloc (.cells (zar x vn vd).toArray t)).cell? ((⟨w2.heap.size,0,none⟩:Addr).add j)=some u:=by
 intro j u hu
 exact World.news_of_block (w:=w2.alloc (.cells (zar x vn vd).toArray t)) (B:=w2.heap.size) (cs:=(zar x vn vd).toArray) (t:=t) (fr:=(0,0)) (heap_alloc_new _ _) j u (by simpa using hu)

theorem zjv {x:Ins} {a a':Option Addr} {n c n' c':Nat}:∀ u ∈ zar x (.slice a n c) (.slice a' n' c'),u.oneCell'=true:=by
 intro u hu
 simp only [List.mem_cons,List.not_mem_nil,or_false] at hu
 rcases hu with rfl|rfl|rfl|rfl|rfl|rfl|rfl <;> rfl

end

end Go.Proofs.Ytkjcdnlpjldhaaa


namespace Go.Proofs.Ytkjcdnlpjldhaaa
open Go.RowKit Tw
attribute [local go_sem ↓] Go.wp_at_zero Go.wp_at_succ

structure Sn where
 n:Int
 d:Nat

def AtSn (w:World) (b o:Nat) (x:Sn):Prop:=w.cell? ⟨b,o,none⟩=some (.int .i8 x.n)/\w.cell? ⟨b,o+1,none⟩=some (.int .u8 (x.d:Int))/\(-128<=x.n/\x.n<=127)/\x.d<256

theorem AtSn.to {w w':World} {b o:Nat} {x:Sn} (h:AtSn w b o x) (hb:Below w.heap.size w w'):AtSn w' b o x :=
 ⟨(hb.cell (p:=⟨b,o,none⟩) (zj h.1)).trans h.1,(hb.cell (p:=⟨b,o+1,none⟩) (zj h.1)).trans h.2.1,h.2.2⟩

def RdSn (w:World) (v:Value) (l:List Sn):Prop :=
 ∃ a cap,v=.slice a l.length cap/\l.length<=cap/\cap<=maxLen/\∀ i (h:i<l.length),∃ b off,a=some ⟨b,off,none⟩/\AtSn w b (off+i*2) l[i]

theorem RdSn.to {w w':World} {v:Value} {l:List Sn} (h:RdSn w v l) (hb:Below w.heap.size w w'):RdSn w' v l:=by
 obtain ⟨a,cap,hv,h1,h2,h3⟩:=h
 exact ⟨a,cap,hv,h1,h2,fun i hi => let ⟨b,off,e,k⟩:=h3 i hi;⟨b,off,e,k.to hb⟩⟩

theorem RdSn.open {w:World} {v:Value} {l:List Sn} (h:RdSn w v l):∃ a n cap,v=.slice a n cap/\Hid (l.length=n)/\n<=maxLen:=by
 obtain ⟨a,cap,hv,h1,h2,_⟩:=h
 exact ⟨a,_,cap,hv,rfl,by omega⟩

theorem RdSn.nth {w:World} {a:Option Addr} {n cap:Nat} {l:List Sn} (h:RdSn w (.slice a n cap) l) {i:Nat} (hi:i<l.length):∃ b off,a=some ⟨b,off,none⟩/\AtSn w b (off+i*2) l[i]:=by
 obtain ⟨a',cap',hv,_,_,h3⟩:=h
 injection hv with e1 e2 e3
 subst e1
 exact h3 i hi

end Go.Proofs.Ytkjcdnlpjldhaaa

