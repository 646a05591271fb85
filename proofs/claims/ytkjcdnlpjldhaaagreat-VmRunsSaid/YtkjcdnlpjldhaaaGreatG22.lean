/-
  The texts Vm3, VmMath2, VmLaw, VmLaw2, Vm5, Vm7, merged.
-/
import Derived.Test.YtkjcdnlpjldhaaaGreatG21
import Derived.Test.YtkjcdnlpjldhaaaGreatG10
import Derived.Deep.RegionHeld3
set_option linter.unusedVariables false
set_option linter.unusedSimpArgs false
set_option maxRecDepth 100000
set_option maxHeartbeats 400000000
namespace Go.Proofs.YtkjcdnlpjldhaaaGreat
open Go.RowKit Tw
attribute [local go_sem ↓] Go.wp_at_zero Go.wp_at_succ

theorem zem (c:Cd) (n:Nat) (h:c.all.length=n):zaT c=(!(decide (c.ins<1)) && !(decide (40<c.ins)) && !(decide (c.rows<1)) && !(decide (40<c.rows)) && !(c.cols != c.ins) && !(decide (c.regs<0)) && !(decide (100000<c.regs)) && !(decide ((100000:Int)<(n:Int)))):=by
 subst h
 unfold zaT
 rw [Bool.eq_iff_iff]
 simp only [Bool.and_eq_true,Bool.not_eq_true',decide_eq_false_iff_not,decide_eq_true_eq,bne_eq_false_iff_eq]
 omega

theorem zbw {c:Cd} {L:List Int} {l:List Ins} {k:Nat} (h:k<l.length):zaq c L (l.drop k)=(zu c L l[k] && zaq c (more L l[k]) (l.drop (k+1))):=by
 rw [List.drop_eq_getElem_cons h];rfl

theorem zlu {N T:Nat} {L:List Int} (i:Nat):(if i=T then Value.bool true else Value.bool (decide ((i:Int) ∈ L)))=.bool (decide ((i:Int) ∈ L++[(T:Int)])):=by
 by_cases h:i=T
 ·rw [if_pos h,h];simp
 ·rw [if_neg h]
  congr 1
  have:¬ (i:Int)=(T:Int):=by omega
  simp [this]

theorem zdj {c:Cd} {L:List Int} {x:Ins} (h:zu c L x=true) (h10:x.op≠10):0<=x.to/\x.to<c.regs:=by
 unfold zu zK at h
 rw [if_neg h10] at h
 simp only [Bool.and_eq_true,decide_eq_true_eq] at h
 exact h.2

theorem zhl (c:Cd) (v:Value) (w:World) (hc:IsC w c v) (hs:zW 1000 c.all) (h0:zaT c=false) :
  Calls Tryz.prog 14 #[aggC c v] w (fun e w' => e=.returned (.bool false)/\Below w.heap.size w w'):=by
 clear hs
 obtain ⟨a0,n0,c0,rfl,H0,hm0⟩:=hc.1.open
 obtain ⟨e0,te0⟩:∃ b,decide (c.ins<1)=b:=⟨_,rfl⟩
 obtain ⟨e1,te1⟩:∃ b,decide (40<c.ins)=b:=⟨_,rfl⟩
 obtain ⟨e2,te2⟩:∃ b,decide (c.rows<1)=b:=⟨_,rfl⟩
 obtain ⟨e3,te3⟩:∃ b,decide (40<c.rows)=b:=⟨_,rfl⟩
 obtain ⟨e4,te4⟩:∃ b,(c.cols != c.ins)=b:=⟨_,rfl⟩
 obtain ⟨e5,te5⟩:∃ b,decide (c.regs<0)=b:=⟨_,rfl⟩
 obtain ⟨e6,te6⟩:∃ b,decide (100000<c.regs)=b:=⟨_,rfl⟩
 obtain ⟨e7,te7⟩:∃ b,decide ((100000:Int)<(n0:Int))=b:=⟨_,rfl⟩
 rw [zem c n0 H0.out,te0,te1,te2,te3,te4,te5,te6,te7] at h0
 cases e0
 case true =>
  clear h0
  go_enter Tryz.func14,Tryz.ntmps14
  go_wp2_with fail
  obtain ⟨W0,az⟩:∃ W0,w.alloc (.cells #[.int .i64 c.ins,.int .i64 c.rows,.int .i64 c.cols,.int .i64 c.regs,.slice a0 n0 c0] 24)=W0:=⟨_,rfl⟩
  have am:=Lib.hid (show ∀ W',Below W0.heap.size W0 W'->(Bx5 W' w.heap.size (.int .i64 c.ins) (.int .i64 c.rows) (.int .i64 c.cols) (.int .i64 c.regs) (.slice a0 n0 c0)) from fun W' hb => by
    apply bx5 hb
    all_goals first|assumption|(rw [<- az];simp [go_sem]))
  have zb:Below w.heap.size w W0:=by rw [<- az];exact bN _ _
  rw [az]
  clear az
  have i0:=hc.to zb
  have gb:Below W0.heap.size W0 W0:=Below.refl _ _
  obtain ⟨z0,ac,ae,af,aw,ay,ag,ah,ai,aB,aC⟩:=am.out _ gb
  go_wp2_with fail
  go_ret
  exact ⟨rfl,bS zb gb⟩
 case false =>
  cases e1
  case true =>
   clear h0
   go_enter Tryz.func14,Tryz.ntmps14
   go_wp2_with fail
   obtain ⟨W0,az⟩:∃ W0,w.alloc (.cells #[.int .i64 c.ins,.int .i64 c.rows,.int .i64 c.cols,.int .i64 c.regs,.slice a0 n0 c0] 24)=W0:=⟨_,rfl⟩
   have am:=Lib.hid (show ∀ W',Below W0.heap.size W0 W'->(Bx5 W' w.heap.size (.int .i64 c.ins) (.int .i64 c.rows) (.int .i64 c.cols) (.int .i64 c.regs) (.slice a0 n0 c0)) from fun W' hb => by
     apply bx5 hb
     all_goals first|assumption|(rw [<- az];simp [go_sem]))
   have zb:Below w.heap.size w W0:=by rw [<- az];exact bN _ _
   rw [az]
   clear az
   have i0:=hc.to zb
   have gb:Below W0.heap.size W0 W0:=Below.refl _ _
   obtain ⟨z0,ac,ae,af,aw,ay,ag,ah,ai,aB,aC⟩:=am.out _ gb
   go_wp2_with fail
   go_ret
   exact ⟨rfl,bS zb gb⟩
  case false =>
   cases e2
   case true =>
    clear h0
    go_enter Tryz.func14,Tryz.ntmps14
    go_wp2_with fail
    obtain ⟨W0,az⟩:∃ W0,w.alloc (.cells #[.int .i64 c.ins,.int .i64 c.rows,.int .i64 c.cols,.int .i64 c.regs,.slice a0 n0 c0] 24)=W0:=⟨_,rfl⟩
    have am:=Lib.hid (show ∀ W',Below W0.heap.size W0 W'->(Bx5 W' w.heap.size (.int .i64 c.ins) (.int .i64 c.rows) (.int .i64 c.cols) (.int .i64 c.regs) (.slice a0 n0 c0)) from fun W' hb => by
      apply bx5 hb
      all_goals first|assumption|(rw [<- az];simp [go_sem]))
    have zb:Below w.heap.size w W0:=by rw [<- az];exact bN _ _
    rw [az]
    clear az
    have i0:=hc.to zb
    have gb:Below W0.heap.size W0 W0:=Below.refl _ _
    obtain ⟨z0,ac,ae,af,aw,ay,ag,ah,ai,aB,aC⟩:=am.out _ gb
    go_wp2_with fail
    go_ret
    exact ⟨rfl,bS zb gb⟩
   case false =>
    cases e3
    case true =>
     clear h0
     go_enter Tryz.func14,Tryz.ntmps14
     go_wp2_with fail
     obtain ⟨W0,az⟩:∃ W0,w.alloc (.cells #[.int .i64 c.ins,.int .i64 c.rows,.int .i64 c.cols,.int .i64 c.regs,.slice a0 n0 c0] 24)=W0:=⟨_,rfl⟩
     have am:=Lib.hid (show ∀ W',Below W0.heap.size W0 W'->(Bx5 W' w.heap.size (.int .i64 c.ins) (.int .i64 c.rows) (.int .i64 c.cols) (.int .i64 c.regs) (.slice a0 n0 c0)) from fun W' hb => by
       apply bx5 hb
       all_goals first|assumption|(rw [<- az];simp [go_sem]))
     have zb:Below w.heap.size w W0:=by rw [<- az];exact bN _ _
     rw [az]
     clear az
     have i0:=hc.to zb
     have gb:Below W0.heap.size W0 W0:=Below.refl _ _
     obtain ⟨z0,ac,ae,af,aw,ay,ag,ah,ai,aB,aC⟩:=am.out _ gb
     go_wp2_with fail
     go_ret
     exact ⟨rfl,bS zb gb⟩
    case false =>
     cases e4
     case true =>
      clear h0
      go_enter Tryz.func14,Tryz.ntmps14
      go_wp2_with fail
      obtain ⟨W0,az⟩:∃ W0,w.alloc (.cells #[.int .i64 c.ins,.int .i64 c.rows,.int .i64 c.cols,.int .i64 c.regs,.slice a0 n0 c0] 24)=W0:=⟨_,rfl⟩
      have am:=Lib.hid (show ∀ W',Below W0.heap.size W0 W'->(Bx5 W' w.heap.size (.int .i64 c.ins) (.int .i64 c.rows) (.int .i64 c.cols) (.int .i64 c.regs) (.slice a0 n0 c0)) from fun W' hb => by
        apply bx5 hb
        all_goals first|assumption|(rw [<- az];simp [go_sem]))
      have zb:Below w.heap.size w W0:=by rw [<- az];exact bN _ _
      rw [az]
      clear az
      have i0:=hc.to zb
      have gb:Below W0.heap.size W0 W0:=Below.refl _ _
      obtain ⟨z0,ac,ae,af,aw,ay,ag,ah,ai,aB,aC⟩:=am.out _ gb
      go_wp2_with fail
      go_ret
      exact ⟨rfl,bS zb gb⟩
     case false =>
      cases e5
      case true =>
       clear h0
       go_enter Tryz.func14,Tryz.ntmps14
       go_wp2_with fail
       obtain ⟨W0,az⟩:∃ W0,w.alloc (.cells #[.int .i64 c.ins,.int .i64 c.rows,.int .i64 c.cols,.int .i64 c.regs,.slice a0 n0 c0] 24)=W0:=⟨_,rfl⟩
       have am:=Lib.hid (show ∀ W',Below W0.heap.size W0 W'->(Bx5 W' w.heap.size (.int .i64 c.ins) (.int .i64 c.rows) (.int .i64 c.cols) (.int .i64 c.regs) (.slice a0 n0 c0)) from fun W' hb => by
         apply bx5 hb
         all_goals first|assumption|(rw [<- az];simp [go_sem]))
       have zb:Below w.heap.size w W0:=by rw [<- az];exact bN _ _
       rw [az]
       clear az
       have i0:=hc.to zb
       have gb:Below W0.heap.size W0 W0:=Below.refl _ _
       obtain ⟨z0,ac,ae,af,aw,ay,ag,ah,ai,aB,aC⟩:=am.out _ gb
       go_wp2_with fail
       go_ret
       exact ⟨rfl,bS zb gb⟩
      case false =>
       cases e6
       case true =>
        clear h0
        go_enter Tryz.func14,Tryz.ntmps14
        go_wp2_with fail
        obtain ⟨W0,az⟩:∃ W0,w.alloc (.cells #[.int .i64 c.ins,.int .i64 c.rows,.int .i64 c.cols,.int .i64 c.regs,.slice a0 n0 c0] 24)=W0:=⟨_,rfl⟩
        have am:=Lib.hid (show ∀ W',Below W0.heap.size W0 W'->(Bx5 W' w.heap.size (.int .i64 c.ins) (.int .i64 c.rows) (.int .i64 c.cols) (.int .i64 c.regs) (.slice a0 n0 c0)) from fun W' hb => by
          apply bx5 hb
          all_goals first|assumption|(rw [<- az];simp [go_sem]))
        have zb:Below w.heap.size w W0:=by rw [<- az];exact bN _ _
        rw [az]
        clear az
        have i0:=hc.to zb
        have gb:Below W0.heap.size W0 W0:=Below.refl _ _
        obtain ⟨z0,ac,ae,af,aw,ay,ag,ah,ai,aB,aC⟩:=am.out _ gb
        go_wp2_with fail
        go_ret
        exact ⟨rfl,bS zb gb⟩
       case false =>
        cases e7
        case true =>
         clear h0
         go_enter Tryz.func14,Tryz.ntmps14
         go_wp2_with fail
         obtain ⟨W0,az⟩:∃ W0,w.alloc (.cells #[.int .i64 c.ins,.int .i64 c.rows,.int .i64 c.cols,.int .i64 c.regs,.slice a0 n0 c0] 24)=W0:=⟨_,rfl⟩
         have am:=Lib.hid (show ∀ W',Below W0.heap.size W0 W'->(Bx5 W' w.heap.size (.int .i64 c.ins) (.int .i64 c.rows) (.int .i64 c.cols) (.int .i64 c.regs) (.slice a0 n0 c0)) from fun W' hb => by
           apply bx5 hb
           all_goals first|assumption|(rw [<- az];simp [go_sem]))
         have zb:Below w.heap.size w W0:=by rw [<- az];exact bN _ _
         rw [az]
         clear az
         have i0:=hc.to zb
         have gb:Below W0.heap.size W0 W0:=Below.refl _ _
         obtain ⟨z0,ac,ae,af,aw,ay,ag,ah,ai,aB,aC⟩:=am.out _ gb
         go_wp2_with fail
         go_ret
         exact ⟨rfl,bS zb gb⟩
        case false =>
         exact absurd h0 (by decide)

theorem zhX (c:Cd) (v:Value) (w:World) (hc:IsC w c v) (hs:zW 1000 c.all) (h0:zaT c=true) (o:Bool) (ho:zaq c [] c.all=o) :
  Calls Tryz.prog 14 #[aggC c v] w (fun e w' => e=.returned (.bool o)/\Below w.heap.size w w'):=by
 have hh:=h0
 unfold zaT at hh
 simp only [decide_eq_true_eq] at hh
 obtain ⟨N,hN⟩:=Int.eq_ofNat_of_zero_le hh.2.2.2.2.2.1
 have hN1:N<=100000:=by omega
 have Hr:=Lib.hid (show 1<=c.rows/\c.rows<=40 by omega)
 have Hcl:=Lib.hid (show 1<=c.cols/\c.cols<=40 by omega)
 have HN:=Lib.hid hN
 clear hh
 clear hN
 have Hs:=Lib.hid hs
 have Ho:=Lib.hid ho
 clear hs ho
 obtain ⟨a0,n0,c0,rfl,H0,hm0⟩:=hc.1.open
 obtain ⟨e0,te0⟩:∃ b,decide (c.ins<1)=b:=⟨_,rfl⟩
 obtain ⟨e1,te1⟩:∃ b,decide (40<c.ins)=b:=⟨_,rfl⟩
 obtain ⟨e2,te2⟩:∃ b,decide (c.rows<1)=b:=⟨_,rfl⟩
 obtain ⟨e3,te3⟩:∃ b,decide (40<c.rows)=b:=⟨_,rfl⟩
 obtain ⟨e4,te4⟩:∃ b,(c.cols != c.ins)=b:=⟨_,rfl⟩
 obtain ⟨e5,te5⟩:∃ b,decide (c.regs<0)=b:=⟨_,rfl⟩
 obtain ⟨e6,te6⟩:∃ b,decide (100000<c.regs)=b:=⟨_,rfl⟩
 obtain ⟨e7,te7⟩:∃ b,decide ((100000:Int)<(n0:Int))=b:=⟨_,rfl⟩
 rw [zem c n0 H0.out,te0,te1,te2,te3,te4,te5,te6,te7] at h0
 simp only [Bool.and_eq_true,Bool.not_eq_true'] at h0
 obtain ⟨⟨⟨⟨⟨⟨⟨rfl,rfl⟩,rfl⟩,rfl⟩,rfl⟩,rfl⟩,rfl⟩,rfl⟩:=h0
 have hn0:n0<=100000:=by have:=of_decide_eq_false te7;omega
 go_enter Tryz.func14,Tryz.ntmps14
 go_wp2_with (
  at_make
  obtain ⟨W0,az⟩:∃ W0,w.alloc (.cells #[.int .i64 c.ins,.int .i64 c.rows,.int .i64 c.cols,.int .i64 c.regs,.slice a0 n0 c0] 24)=W0:=⟨_,rfl⟩
  have am:=Lib.hid (show ∀ W',Below W0.heap.size W0 W'->(Bx5 W' w.heap.size (.int .i64 c.ins) (.int .i64 c.rows) (.int .i64 c.cols) (.int .i64 c.regs) (.slice a0 n0 c0)) from fun W' hb => by
    apply bx5 hb
    all_goals first|assumption|(rw [<- az];simp [go_sem]))
  have zb:Below w.heap.size w W0:=by rw [<- az];exact bN _ _
  rw [az]
  clear az
  have i0:=hc.to zb
  have gb:Below W0.heap.size W0 W0:=Below.refl _ _
  obtain ⟨z0,ac,ae,af,aw,ay,ag,ah,ai,aB,aC⟩:=am.out _ gb
  refine zir _ rfl _ _ 44 4 rfl Tryz.underlying44 (.bool false) 1 1 (by kernel_rfl) rfl (by decide) _ _ _ _ N rfl rfl HN.out HN.out (by omega) ?_
  intro w1 hr1 bd
  clear ac ag ae ah af ai aw aB ay aC
  replace gb:=bS gb bd
  obtain ⟨z0,ac,ae,af,aw,ay,ag,ah,ai,aB,aC⟩:=am.out _ gb
  rw [Nat.mul_one] at hr1
  replace hr1:zaV w1 W0.heap.size N (fun i => .bool (decide ((i:Int) ∈ ([]:List Int)))):=hr1.cast (fun i _ => by simp [Nat.mod_one,Value.cells]))
 go_loopw [53] (fun i ww => ∃ (k:Nat) (L:List Int),k<=n0/\i=.int .i64 k/\Below W0.heap.size W0 ww/\zaV ww W0.heap.size N (fun i => .bool (decide ((i:Int) ∈ L)))/\Hid (zaq c L (c.all.drop k)=o)/\Hid (∀ x ∈ L,0<=x/\x<(N:Int))) (fun i _ => n0 - (intOf i).toNat)
 case atStart => exact ⟨0,[],Nat.zero_le _,rfl,gb,hr1,by rw [List.drop_zero];exact Ho.out,fun x hx => by cases hx⟩
 case round =>
  clear gb hr1 ac ag ae ah af ai aw aB ay aC
  obtain ⟨k,L,hk,rfl,gb,hrow,HA,HL⟩:=hrel
  obtain ⟨z0,ac,ae,af,aw,ay,ag,ah,ai,aB,aC⟩:=am.out _ gb
  by_cases hkn:k<n0
  ·have hki:(k:Int)<(n0:Int):=by omega
   have hkl:k<c.all.length:=by rw [H0.out];exact hkn
   obtain ⟨b,off,rfl,h7⟩:=(i0.to gb).1.nth hkl
   have HA1:=HA.out
   rw [zbw hkl] at HA1
   have hsx:=Hs.out _ (List.getElem_mem hkl)
   obtain ⟨x,hx⟩:∃ x,c.all[k]=x:=⟨_,rfl⟩
   rw [hx] at HA1 h7 hsx
   obtain ⟨vn,vd,s0,s1,s2,s3,s4,s5,s6,hX⟩:=h7.isX hsx.1 hsx.2
   obtain ⟨a1,n1,c1,rfl,H1,hm1⟩:=hX.1.1.open
   obtain ⟨a2,n2,c2,rfl,H2,hm2⟩:=hX.1.2.1.open
   have HX1:=Lib.hid hX
   have HA2:=Lib.hid HA1
   clear HA HA1 h7 hsx hx hX hki
   have hki:(k:Int)<(n0:Int):=by omega
   go_wp2_with fail
   clear s0 s1 s2 s3 s4 s5 s6
   obtain ⟨W2,cO⟩:∃ W2,wr.alloc (.cells #[.int .i64 x.op,.int .i64 x.to,.int .i64 x.a,.int .i64 x.b,.bool x.q.ng,.slice a1 n1 c1,.slice a2 n2 c2] 49)=W2:=⟨_,rfl⟩
   have aN:Below wr.heap.size wr W2:=by rw [<- cO];exact bN _ _
   have HT:Hid (∀ W',Below W2.heap.size W2 W'->W'.cell? ⟨wr.heap.size,0,none⟩=some (.int .i64 x.op)/\W'.cell? ⟨wr.heap.size,1,none⟩=some (.int .i64 x.to)/\W'.cell? ⟨wr.heap.size,2,none⟩=some (.int .i64 x.a)/\W'.cell? ⟨wr.heap.size,3,none⟩=some (.int .i64 x.b)/\W'.cell? ⟨wr.heap.size,4,none⟩=some (.bool x.q.ng)/\W'.cell? ⟨wr.heap.size,5,none⟩=some (.slice a1 n1 c1)/\W'.cell? ⟨wr.heap.size,6,none⟩=some (.slice a2 n2 c2)):=fun W' hb => by
    have hl:wr.heap.size<W2.heap.size:=by rw [<- cO];simp
    refine ⟨(hb.cell (p:=⟨wr.heap.size,0,none⟩) hl).trans (by rw [<- cO];simp [go_sem]),(hb.cell (p:=⟨wr.heap.size,1,none⟩) hl).trans (by rw [<- cO];simp [go_sem]),(hb.cell (p:=⟨wr.heap.size,2,none⟩) hl).trans (by rw [<- cO];simp [go_sem]),(hb.cell (p:=⟨wr.heap.size,3,none⟩) hl).trans (by rw [<- cO];simp [go_sem]),(hb.cell (p:=⟨wr.heap.size,4,none⟩) hl).trans (by rw [<- cO];simp [go_sem]),(hb.cell (p:=⟨wr.heap.size,5,none⟩) hl).trans (by rw [<- cO];simp [go_sem]),(hb.cell (p:=⟨wr.heap.size,6,none⟩) hl).trans (by rw [<- cO];simp [go_sem])⟩
   rw [cO]
   clear cO
   have hrow2:=hrow.to aN
   have HX2:=HX1.out.to aN
   clear hrow
   clear ac ag ae ah af ai aw aB ay aC
   have gb2:=bS gb aN
   obtain ⟨z0,ac,ae,af,aw,ay,ag,ah,ai,aB,aC⟩:=am.out _ gb2
   obtain ⟨s0,s1,s2,s3,s4,s5,s6⟩:=HT.out _ (Below.refl _ _)
   go_wp2_with fail
   cases hio:zu c L x
   case false =>
    refine (ziJ c _ x.op x.to x.a x.b x.q.ng _ _ x.q.n x.q.d W0.heap.size N L _ (i0.to gb2) HX2 hrow2 HL.out (by omega) HN.out.symm Hr.out Hcl.out false hio).mono ?_
    rintro e w3 ⟨rfl,bs⟩
    clear s0 s1 s2 s3 s4 s5 s6
    clear ac ag ae ah af ai aw aB ay aC
    have ho:false=o:=by rw [<- HA2.out,hio,Bool.false_and]
    subst ho
    clear hio
    go_wp2_with fail
    go_ret
    exact ⟨rfl,bS zb (bS gb2 bs)⟩
   case true =>
    refine (ziJ c _ x.op x.to x.a x.b x.q.ng _ _ x.q.n x.q.d W0.heap.size N L _ (i0.to gb2) HX2 hrow2 HL.out (by omega) HN.out.symm Hr.out Hcl.out true hio).mono ?_
    rintro e w3 ⟨rfl,bs⟩
    clear s0 s1 s2 s3 s4 s5 s6
    clear ac ag ae ah af ai aw aB ay aC
    have gb3:=bS gb2 bs
    have hrow3:=hrow2.to bs
    obtain ⟨s0,s1,s2,s3,s4,s5,s6⟩:=HT.out _ bs
    obtain ⟨z0,ac,ae,af,aw,ay,ag,ah,ai,aB,aC⟩:=am.out _ gb3
    have HA3:Hid (zaq c (more L x) (c.all.drop (k+1))=o):=by show _=_;rw [<- HA2.out,hio,Bool.true_and]
    clear hrow2 gb2
    by_cases h10:x.op=10
    ·have t:(x.op != 10)=false:=by simp;exact h10
     have em:more L x=L:=by unfold more;rw [if_pos h10]
     have HA4:Hid (zaq c L (c.all.drop (k+1))=o):=by show _=_;rw [<- HA3.out,em]
     clear h10 em hio
     go_wp2_with fail
     go_roundw
     case rel => exact ⟨k+1,L,by omega,by go_num,gb3,hrow3,HA4,HL⟩
     case measure => simp [intOf];omega
    ·have t:(x.op != 10)=true:=by simp;exact h10
     have hto:=zdj hio h10
     obtain ⟨T,hT⟩:=Int.eq_ofNat_of_zero_le hto.1
     have hTN:T<N:=by have:=HN.out;omega
     have em:more L x=L++[(T:Int)]:=by unfold more;rw [if_neg h10,hT]
     have HA4:Hid (zaq c (L++[(T:Int)]) (c.all.drop (k+1))=o):=by show _=_;rw [<- HA3.out,em]
     have HL4:Hid (∀ x ∈ L++[(T:Int)],0<=x/\x<(N:Int)):=fun y hy => by
      rcases List.mem_append.1 hy with hy|hy
      ·exact HL.out y hy
      ·rw [List.mem_singleton.1 hy];omega
     rw [hT] at s1
     obtain ⟨r1,r2⟩:=hrow3.2 T hTN
     have hTi:(T:Int)<(N:Int):=by omega
     clear h10 em hio hto hT HA3
     go_wp2_with fail
     go_roundw
     case rel => exact ⟨k+1,L++[(T:Int)],by omega,by go_num,gb3.setCell (Nat.le_refl _) _,(hrow3.set T (.bool true)).cast (fun i _ => zlu i (N:=N)),HA4,HL4⟩
     case measure => simp [intOf];omega
  ·obtain rfl:k=n0:=by omega
   have ho:true=o:=by
    have:=HA.out
    rw [<- H0.out,List.drop_length] at this
    exact this
   subst ho
   go_wp2_with fail
   go_ret
   exact ⟨rfl,bS zb gb⟩

theorem zcA (c:Cd) (v:Value) (w:World) (hc:IsC w c v) (hs:zW 1000 c.all) (o:Bool) (ho:zF c=o) :
  Calls Tryz.prog 14 #[aggC c v] w (fun e w' => e=.returned (.bool o)/\Below w.heap.size w w'):=by
 unfold zF at ho
 cases h0:zaT c with
 | false => rw [h0] at ho;obtain rfl:false=o:=ho;exact zhl c v w hc hs h0
 | true => rw [h0,Bool.true_and] at ho;exact zhX c v w hc hs h0 o ho

end Go.Proofs.YtkjcdnlpjldhaaaGreat


namespace Go.Proofs.YtkjcdnlpjldhaaaGreat
open Go.RowKit Tw

theorem zeV {wt:Int->Int} {m:Int} {l:List Ins} {k:Nat} (h:k<l.length):zax wt m (l.drop k) =
  if l[k].op=10 then zax wt m (l.drop (k+1)) else zax (upd wt l[k].to (wOf wt l[k])) (max m (wOf wt l[k])) (l.drop (k+1)):=by
 rw [List.drop_eq_getElem_cons h];rfl

def zbL (wt:Int->Int):Prop:=∀ r,0<=wt r/\wt r<=1000000

theorem zbp {wt:Int->Int} (h:zbL wt) (x:Ins):0<=wOf wt x/\wOf wt x<=1000000:=by
 have ha:=h x.a
 have hb:=h x.b
 have h1:0<=(if 1<=zf x.op then wt x.a else 1):=by split <;> omega
 have h2:0<=(if zf x.op=2 then (if 1<=zf x.op then wt x.a else 1)+wt x.b else (if 1<=zf x.op then wt x.a else 1)):=by
  by_cases h:zf x.op=2
  ·rw [if_pos h];omega
  ·rw [if_neg h];exact h1
 have h3:0<=(if x.op=7 then (if zf x.op=2 then (if 1<=zf x.op then wt x.a else 1)+wt x.b else (if 1<=zf x.op then wt x.a else 1))*max 1 (max x.b (-x.b)) else (if zf x.op=2 then (if 1<=zf x.op then wt x.a else 1)+wt x.b else (if 1<=zf x.op then wt x.a else 1))):=by
  by_cases h:x.op=7
  ·rw [if_pos h];exact Int.mul_nonneg h2 (by omega)
  ·rw [if_neg h];exact h2
 unfold wOf
 constructor
 ·exact Int.le_min.2 ⟨h3,by decide⟩
 ·exact Int.min_le_right _ _

theorem zbL.upd {wt:Int->Int} (h:zbL wt) (x:Ins):zbL (upd wt x.to (wOf wt x)):=by
 intro r
 unfold Go.Proofs.YtkjcdnlpjldhaaaGreat.upd
 split
 ·exact zbp h x
 ·exact h r

theorem zga {wt:Int->Int} {x:Ins} (h:x.op=0\/x.op=1):wOf wt x=1:=by
 unfold wOf
 rcases h with h|h <;> rw [h] <;> simp [zf] <;> decide

theorem zhQ {wt:Int->Int} {x:Ins} (h:zf x.op=2):wOf wt x=min (wt x.a+wt x.b) 1000000:=by
 have h7:x.op≠7:=fun e => by rw [e] at h;exact absurd h (by decide)
 unfold wOf
 simp only [if_pos h,if_pos (show 1<=zf x.op by omega),if_neg h7]

theorem zid {wt:Int->Int} {x:Ins} (h:x.op=6):wOf wt x=min (wt x.a) 1000000:=by
 unfold wOf;rw [h];simp [zf]

theorem zdP {wt:Int->Int} {x:Ins} (h:x.op=7):wOf wt x=min (wt x.a*max 1 (max x.b (-x.b))) 1000000:=by
 unfold wOf;rw [h];simp [zf]

theorem zfr {N T:Nat} {wt:Int->Int} {z:Int} (i:Nat):(if i=T then Value.int .i64 z else Value.int .i64 (wt i))=.int .i64 (upd wt (T:Int) z i):=by
 unfold upd
 by_cases h:i=T
 ·rw [if_pos h,h,if_pos rfl]
 ·rw [if_neg h,if_neg (by omega)]

theorem zag {c:Cd} {L:List Int} {x:Ins} (h:zu c L x=true) (h1:1<=zf x.op):x.a ∈ L:=by
 unfold zu aOk at h
 rw [if_neg (fun e => by rw [e] at h1;exact absurd h1 (by decide)),if_neg (fun e => by rw [e] at h1;exact absurd h1 (by decide))] at h
 simp only [Bool.and_eq_true,decide_eq_true_eq] at h
 exact h.1.1.2

theorem zbc {c:Cd} {L:List Int} {x:Ins} (h:zu c L x=true) (h1:zf x.op=2):x.b ∈ L:=by
 unfold zu bOk at h
 rw [if_neg (fun e => by rw [e] at h1;exact absurd h1 (by decide)),if_pos h1] at h
 simp only [Bool.and_eq_true,decide_eq_true_eq] at h
 exact h.1.2

theorem zcG {c:Cd} {L:List Int} {x:Ins} (h:zu c L x=true) (h1:x.op=7):-21<=x.b/\x.b<=21:=by
 unfold zu bOk at h
 rw [if_pos h1] at h
 simp only [Bool.and_eq_true,decide_eq_true_eq] at h
 exact h.1.2

theorem zaW {c:Cd} {L:List Int} {x:Ins} (h:zu c L x=true):0<=zf x.op:=by
 unfold zu at h
 simp only [Bool.and_eq_true,decide_eq_true_eq] at h
 exact h.1.1.1.1

theorem zdW {op:Int} (h:0<=zf op):(op=0\/op=1)\/zf op=2\/op=6\/op=7\/op=10:=by
 rcases zbq _ h with e|e|e|e|e|e|e|e|e|e|e <;> rw [e] <;> decide

theorem zfz {a b:Int} (ha:0<=a/\a<=1000000) (hb:1<=b/\b<=21):0<=a*b/\a*b<=21000000:=by
 have h:=Int.mul_le_mul ha.2 hb.2 (by omega) (by decide)
 exact ⟨Int.mul_nonneg ha.1 (by omega),by simpa using h⟩

end Go.Proofs.YtkjcdnlpjldhaaaGreat


namespace Go.Proofs.YtkjcdnlpjldhaaaGreat
open Go.RowKit Tw

theorem ziZ (x:Rat):∀ n:Nat,szq (x ^ n)<=max 1 (szq x*n)
 | 0 => by
  rw [Rat.pow_zero]
  have:szq 1<=1:=by decide +kernel
  omega
 | n+1 => by
  have h1:=zhp (x ^ n) x
  have h2:=ziZ x n
  have h3:=zdp x
  rw [Rat.pow_succ,Nat.mul_succ]
  rcases Nat.eq_zero_or_pos n with h|h
  ·subst h
   rw [Rat.pow_zero,Rat.one_mul]
   omega
  ·have h4:1<=szq x*n:=Nat.mul_pos h3 h
   omega

theorem zeq:∀ (l:List Ins) (wt:Int->Int) (m:Int),m<=zax wt m l
 | [],_,_ => Int.le_refl _
 | x :: t,wt,m => by
  unfold zax
  split
  ·exact zeq t wt m
  ·have:=zeq t (upd wt x.to (wOf wt x)) (max m (wOf wt x))
   omega

theorem zkN:szq 0<=1:=by decide +kernel

theorem szq_two {p:List Rat} {R:Int->Rat} {x:Ins} (h:zf x.op=2):szq (opV p R x)<=szq (R x.a)+szq (R x.b)+1:=by
 have h1:=zkv (R x.a) (R x.b)
 have h2:=szq_sub (R x.a) (R x.b)
 have h3:=zhp (R x.a) (R x.b)
 have h4:=szq_div (R x.a) (R x.b)
 unfold opV
 rcases zbq x.op (by omega) with e|e|e|e|e|e|e|e|e|e|e <;> rw [e] at h ⊢ <;>
  first
  | exact absurd h (by decide)
  | (simp;omega)

theorem szq_pow7 {p:List Rat} {R:Int->Rat} {x:Ins} (h:x.op=7):szq (opV p R x)<=max 1 (szq (R x.a)*x.b.natAbs):=by
 have h1:=ziZ (R x.a) x.b.natAbs
 have h2:=zdT (R x.a ^ x.b.natAbs)
 unfold opV
 rw [h]
 simp
 split <;> omega

theorem zhv {p:List Rat} {R:Int->Rat} {x:Ins} (h:x.op=6):opV p R x=-R x.a:=by unfold opV;rw [h];simp

theorem zhC {p:List Rat} {R:Int->Rat} {x:Ins} (h:x.op=10):opV p R x=R x.a:=by unfold opV;rw [h];simp

theorem zfG {p:List Rat} {R:Int->Rat} {x:Ins} (h:x.op=0):opV p R x=p.getD x.a.toNat 0:=by unfold opV;rw [h];simp

theorem zhj {p:List Rat} {R:Int->Rat} {x:Ins} (h:x.op=1):opV p R x=x.q.num:=by unfold opV;rw [h];simp

theorem zjU {p:List Rat} {K:Nat} (hK:1<=K) (h:∀ q ∈ p,szq q<=K) (i:Nat):szq (p.getD i 0)<=K:=by
 rcases Nat.lt_or_ge i p.length with k|k
 ·rw [show p.getD i 0=p[i] by simp [k]]
  exact h _ (List.getElem_mem k)
 ·rw [show p.getD i 0=0 by simp [k]]
  exact Nat.le_trans zkN hK

theorem zfJ {x:Rt} {K:Nat} (hK:1<=K) (h1:x.n.length<=K) (h2:x.d.length<=K) (s1:zx x.n) (s2:zx x.d):szq x.num<=K:=by
 have a:=zfq x.ng (val x.n) (val x.d)
 have b:=zv s1
 have c:=zv s2
 unfold Rt.num
 omega

def Thin (L:List Int) (wt:Int->Int) (R:Int->Rat):Prop:=∀ r ∈ L,1<=wt r/\wt r<=20/\(szq (R r):Int)+1<=8*wt r

theorem zli {c:Cd} {L:List Int} {wt:Int->Int} {R:Int->Rat} {p:List Rat} {x:Ins} (hx:zu c L x=true) (h:Thin L wt R) (hp:∀ q ∈ p,szq q<=7)
  (hq:szq x.q.num<=7) (h10:x.op≠10) (hw:wOf wt x<=20):1<=wOf wt x/\(szq (opV p R x):Int)+1<=8*wOf wt x/\(x.op=7->szq (R x.a)*x.b.natAbs<1000):=by
 rcases zdW (zaW hx) with e|e|e|e|e
 ·rw [zga e]
  rcases e with e|e
  ·rw [zfG e]
   have:=zjU (by omega) hp x.a.toNat
   exact ⟨by omega,by omega,fun k => by omega⟩
  ·rw [zhj e]
   exact ⟨by omega,by omega,fun k => by omega⟩
 ·have ha:=h _ (zag hx (by omega))
  have hb:=h _ (zbc hx e)
  have hs:=szq_two (p:=p) (R:=R) e
  rw [zhQ e] at hw ⊢
  exact ⟨by omega,by omega,fun k => by rw [k] at e;exact absurd e (by decide)⟩
 ·have ha:=h _ (zag hx (by rw [e];decide))
  rw [zid e] at hw ⊢
  rw [zhv e,zfy]
  exact ⟨by omega,by omega,fun k => by omega⟩
 ·have ha:=h _ (zag hx (by rw [e];decide))
  have hb:=zcG hx e
  have hs:=szq_pow7 (p:=p) (R:=R) e
  rw [zdP e] at hw ⊢
  obtain ⟨k,hk⟩:∃ k:Nat,x.b.natAbs=k:=⟨_,rfl⟩
  have hm:max 1 (max x.b (-x.b))=((max 1 k:Nat):Int):=by omega
  have hk2:k<=21:=by omega
  rw [hk] at hs
  rw [hm] at hw ⊢
  have hle:wt x.a*((max 1 k:Nat):Int)<=20:=by
   have:=(zfz (a:=wt x.a) (b:=((max 1 k:Nat):Int)) (by omega) (by omega)).2
   omega
  have hmin:min (wt x.a*((max 1 k:Nat):Int)) 1000000=wt x.a*((max 1 k:Nat):Int):=by omega
  rw [hmin]
  have h1:1*1<=wt x.a*((max 1 k:Nat):Int):=Int.mul_le_mul ha.1 (by omega) (by decide) (by omega)
  have h2:((szq (R x.a):Int)+1)*((max 1 k:Nat):Int)<=8*wt x.a*((max 1 k:Nat):Int):=Int.mul_le_mul_of_nonneg_right ha.2.2 (by omega)
  rw [Int.add_mul,Int.one_mul,Int.mul_assoc] at h2
  have h3:szq (R x.a)*k<=szq (R x.a)*max 1 k:=Nat.mul_le_mul_left _ (Nat.le_max_right _ _)
  have h4:((szq (R x.a)*max 1 k:Nat):Int)=(szq (R x.a):Int)*((max 1 k:Nat):Int):=by push_cast;rfl
  have h5:1<=szq (R x.a)*max 1 k:=Nat.mul_pos (zdp _) (by omega)
  rw [<- h4] at h2
  generalize wt x.a*((max 1 k:Nat):Int)=P at *
  generalize szq (R x.a)*max 1 k=Q at *
  rw [hk]
  generalize szq (R x.a)*k=T at *
  exact ⟨by omega,by omega,fun _ => by omega⟩
 ·exact absurd e h10

theorem Thin.next {c:Cd} {L:List Int} {wt:Int->Int} {R:Int->Rat} {x:Ins} {v:Rat} (h:Thin L wt R) (h10:x.op≠10) (hw:wOf wt x<=20) (h1:1<=wOf wt x/\(szq v:Int)+1<=8*wOf wt x) :
  Thin (more L x) (upd wt x.to (wOf wt x)) (upd R x.to v):=by
 intro r hr
 unfold more at hr
 rw [if_neg h10,List.mem_append] at hr
 by_cases e:r=x.to
 ·subst e
  rw [zbJ,zbJ]
  exact ⟨h1.1,hw,h1.2⟩
 ·rw [zbk _ _ e,zbk _ _ e]
  rcases hr with hr|hr
  ·exact h r hr
  ·exact absurd (List.mem_singleton.1 hr) e

theorem zdB {c:Cd} {p:List Rat} (hp:∀ q ∈ p,szq q<=7):∀ (l:List Ins) (L:List Int) (wt:Int->Int) (m:Int) (s:St),(∀ x ∈ l,szq x.q.num<=7)->zaq c L l=true->Thin L wt s.R->zax wt m l<=20->zbv 1000 p s l
 | [],_,_,_,_,_,_,_,_ => trivial
 | x :: t,L,wt,m,s,hl,ha,hT,hh => by
  unfold zaq at ha
  rw [Bool.and_eq_true] at ha
  have hlt:∀ y ∈ t,szq y.q.num<=7:=fun y hy => hl y (List.mem_cons_of_mem _ hy)
  unfold zax at hh
  unfold zbv
  by_cases h10:x.op=10
  ·rw [if_pos h10] at hh
   have hm:more L x=L:=by unfold more;rw [if_pos h10]
   refine ⟨fun _ => ⟨?_,fun k => by omega⟩,fun _ => ?_⟩
   ·rw [zhC h10]
    have:=hT _ (zag ha.1 (by rw [h10];decide))
    omega
   ·refine zdB hp t L wt m _ hlt (by rw [<- hm];exact ha.2) ?_ hh
    unfold St.next
    rw [if_pos h10]
    exact hT
  ·rw [if_neg h10] at hh
   have hw:wOf wt x<=20:=by have:=zeq t (upd wt x.to (wOf wt x)) (max m (wOf wt x));omega
   have hs:=zli (p:=p) ha.1 hT hp (hl x (List.mem_cons_self ..)) h10 hw
   refine ⟨fun _ => ⟨by omega,hs.2.2⟩,fun _ => ?_⟩
   refine zdB hp t (more L x) _ _ _ hlt ha.2 ?_ hh
   unfold St.next
   rw [if_neg h10]
   exact hT.next (c:=c) h10 hw ⟨hs.1,hs.2.1⟩

theorem zgQ {c:Cd} {p:List Rat} (hp:∀ q ∈ p,szq q<=7) (hl:∀ x ∈ c.all,szq x.q.num<=7) (hr:zF c=true) (hh:zcv c<=20):zbv 1000 p St.zero c.all:=by
 unfold zcv at hh
 rw [if_pos hr] at hh
 unfold zF at hr
 rw [Bool.and_eq_true] at hr
 exact zdB hp c.all [] (fun _ => 0) 0 St.zero hl hr.2 (fun r h => by cases h) hh

end Go.Proofs.YtkjcdnlpjldhaaaGreat


namespace Go.Proofs.YtkjcdnlpjldhaaaGreat
open Go.RowKit Tw

def Names (f:Int->Int) (n N:Int):Prop:=(∀ r s,0<=r->r<n->0<=s->s<n->f r=f s->r=s)/\∀ r,0<=f r/\f r<N

theorem zai {c:Cd} {L:List Int} {x:Ins} (h:zu c L x=true):0<=x.to/\x.to<zK c x:=by
 unfold zu at h
 simp only [Bool.and_eq_true,decide_eq_true_eq] at h
 exact h.2

def Agree {α:Type} (f:Int->Int) (L:List Int) (u v:Int->α):Prop:=∀ r ∈ L,v (f r)=u r

theorem Agree.upd {α:Type} {f:Int->Int} {L:List Int} {u v:Int->α} {n N:Int} (hf:Names f n N) (hL:∀ r ∈ L,0<=r/\r<n) {i:Int} (hi:0<=i/\i<n) (h:Agree f L u v) (z:α) :
  Agree f (L++[i]) (upd u i z) (upd v (f i) z):=by
 intro r hr
 by_cases e:r=i
 ·subst e
  rw [zbJ,zbJ]
 ·rcases List.mem_append.1 hr with hr|hr
  ·have:=hL r hr
   rw [zbk _ _ e,zbk _ _ (fun k => e (hf.1 _ _ this.1 this.2 hi.1 hi.2 k))]
   exact h r hr
  ·exact absurd (List.mem_singleton.1 hr) e

end Go.Proofs.YtkjcdnlpjldhaaaGreat


namespace Go.Proofs.YtkjcdnlpjldhaaaGreat
open Go.RowKit Tw
attribute [local go_sem ↓] Go.wp_at_zero Go.wp_at_succ

def RdI (w:World) (v:Value) (l:List Int):Prop :=
 ∃ a cap,v=.slice a l.length cap/\l.length<=maxLen/\∀ i (h:i<l.length),∃ b,a=some ⟨b,0,none⟩/\w.cell? ⟨b,i,none⟩=some (.int .i64 l[i])

theorem RdI.to {w w':World} {v:Value} {l:List Int} (h:RdI w v l) (hb:Below w.heap.size w w'):RdI w' v l:=by
 obtain ⟨a,cap,hv,h1,h2⟩:=h
 exact ⟨a,cap,hv,h1,fun i hi => let ⟨b,e,k⟩:=h2 i hi;⟨b,e,(hb.cell (p:=⟨b,i,none⟩) (zm k)).trans k⟩⟩

theorem RdI.drew {w:World} {v:Value} {l:List Int} (h:RdI w v l):RdI w.drew v l:=h.to (Below.refl _ _).drew

theorem RdI.open {w:World} {v:Value} {l:List Int} (h:RdI w v l):∃ a n cap,v=.slice a n cap/\Hid (l.length=n)/\n<=maxLen:=by
 obtain ⟨a,cap,hv,h1,_⟩:=h
 exact ⟨a,_,cap,hv,rfl,h1⟩

theorem RdI.nth {w:World} {a:Option Addr} {n cap:Nat} {l:List Int} (h:RdI w (.slice a n cap) l) {i:Nat} (hi:i<l.length):∃ b,a=some ⟨b,0,none⟩/\w.cell? ⟨b,i,none⟩=some (.int .i64 l[i]):=by
 obtain ⟨a',cap',hv,_,h2⟩:=h
 injection hv with e1 e2 e3
 subst e1
 exact h2 i hi

theorem zaJ.rdI {e:TypeId} {base:Nat} {w:World} {v:Value} {l:List Int} (h:zaJ e base w v (l.map (Value.int .i64))):RdI w v l:=by
 obtain ⟨a,cap,hv,h1,h2⟩:=h.open
 rw [List.length_map] at hv h1
 refine ⟨a,cap,hv,h1,fun i hi => ?_⟩
 obtain ⟨b,e1,e2,_⟩:=h2 i (by rw [List.length_map];exact hi)
 refine ⟨b,e1,?_⟩
 rw [e2,List.getElem?_map,List.getElem?_eq_getElem hi];rfl

def zam {α:Type} (l:List Ins) (xs:List α) (d:α) (r:Int):Nat->α
 | 0 => d
 | k+1 => match l[k]?,xs[k]? with
  | some x,some y => if x.op≠10/\x.to=r then y else zam l xs d r k
  | _,_ => zam l xs d r k

theorem zdA {α:Type} {l:List Ins} {xs:List α} {d:α} {r:Int} {k:Nat} (h:k<l.length) (h':k<xs.length):zam l xs d r (k+1)=if l[k].op≠10/\l[k].to=r then xs[k] else zam l xs d r k:=by
 show (match l[k]?,xs[k]? with|some x,some y => _|_,_ => _)=_
 rw [List.getElem?_eq_getElem h,List.getElem?_eq_getElem h']

theorem zfH {α:Type} {l:List Ins} {xs ys:List α} {d:α} {r:Int}:∀ {k:Nat},k<=xs.length->zam l (xs++ys) d r k=zam l xs d r k
 | 0,_ => rfl
 | k+1,h => by
  show (match l[k]?,(xs++ys)[k]? with|some x,some y => _|_,_ => _)=(match l[k]?,xs[k]? with|some x,some y => _|_,_ => _)
  rw [List.getElem?_append_left (by omega),zfH (k:=k) (by omega)]

theorem zfO {α:Type} {l:List Ins} {xs:List α} {d y:α} {r:Int} {k:Nat} (h:k<l.length) (h':xs.length=k):zam l (xs++[y]) d r (k+1)=if l[k].op≠10/\l[k].to=r then y else zam l xs d r k:=by
 rw [zdA h (by simp;omega),zfH (by omega)]
 simp only [List.getElem_append_right (Nat.le_of_eq h'),h',Nat.sub_self,List.getElem_cons_zero]

theorem zjW (op:Int) (w:World):Calls Tryz.prog 36 #[.int .i64 op] w (fun e w' => e=.returned (.int .i64 (zf op))/\w=w'):=by
 by_cases h:0<=op/\op<=10
 ·have h':op=0\/op=1\/op=2\/op=3\/op=4\/op=5\/op=6\/op=7\/op=8\/op=9\/op=10:=by omega
  clear h
  rcases h' with rfl|rfl|rfl|rfl|rfl|rfl|rfl|rfl|rfl|rfl|rfl
  all_goals
   go_enter Tryz.func36,Tryz.ntmps36
   go_wp2_with fail
   go_ret
   exact ⟨rfl,rfl⟩
 ·rw [zgU h]
  have t0:(op == 0)=false:=by simp;omega
  have t1:(op == 1)=false:=by simp;omega
  have t6:(op == 6)=false:=by simp;omega
  have t7:(op == 7)=false:=by simp;omega
  have t8:(op == 8)=false:=by simp;omega
  have t9:(op == 9)=false:=by simp;omega
  have t10:(op == 10)=false:=by simp;omega
  by_cases h2:2<=op
  ·have q2:decide (2<=op)=true:=decide_eq_true h2
   have q5:decide (op<=5)=false:=decide_eq_false (by omega)
   clear h h2
   go_enter Tryz.func36,Tryz.ntmps36
   go_wp2_with fail
   go_ret
   exact ⟨rfl,rfl⟩
  ·have q2:decide (2<=op)=false:=decide_eq_false h2
   clear h h2
   go_enter Tryz.func36,Tryz.ntmps36
   go_wp2_with fail
   go_ret
   exact ⟨rfl,rfl⟩

theorem zg (v:Value) (xs:List Int) (z:Int) (w:World) (h:RdI w v xs) (hs:xs.length<=100000) (o:Bool) (ho:decide (z ∈ xs)=o) :
  Calls Tryz.prog 58 #[v,.int .i64 z] w (fun e w' => e=.returned (.bool o)/\w=w'):=by
 obtain ⟨a,n,cap,rfl,H0,hm⟩:=h.open
 have hn:n<=100000:=by have:=H0.out;omega
 have Ho:=Lib.hid ho
 clear ho hs
 go_enter Tryz.func58,Tryz.ntmps58
 go_wp2_with fail
 go_loopw [5] (fun i ww => ∃ k:Nat,k<=n/\i=.int .i64 k/\ww=w/\Hid (z ∉ xs.take k)) (fun i _ => n - (intOf i).toNat)
 case atStart => exact ⟨0,Nat.zero_le _,rfl,rfl,by show z ∉ _;simp⟩
 case round =>
  obtain ⟨k,hk,rfl,rfl,HN⟩:=hrel
  by_cases hkn:k<n
  ·have hki:(k:Int)<(n:Int):=by omega
   have hkl:k<xs.length:=by rw [H0.out];exact hkn
   obtain ⟨b,rfl,hc⟩:=h.nth hkl
   obtain ⟨y,hy⟩:∃ y,xs[k]=y:=⟨_,rfl⟩
   rw [hy] at hc
   by_cases hz:y=z
   ·have t:(y == z)=true:=by simp;exact hz
    have:o=true:=by rw [<- Ho.out,<- hz,<- hy];exact decide_eq_true (List.getElem_mem hkl)
    subst this
    clear hz h
    go_wp2_with fail
    go_ret
    exact ⟨rfl,rfl⟩
   ·have t:(y == z)=false:=by simp;exact hz
    have HN2:Hid (z ∉ xs.take (k+1)):=by
     show z ∉ _
     rw [List.take_succ_eq_append_getElem hkl,List.mem_append,hy]
     rintro (g|g)
     ·exact HN.out g
     ·exact hz (List.mem_singleton.1 g).symm
    clear hz h
    go_wp2_with fail
    go_roundw
    case rel => exact ⟨k+1,by omega,by go_num,by first|exact rfl|trivial,HN2⟩
    case measure => simp [intOf] <;> omega
  ·obtain rfl:k=n:=by omega
   have:o=false:=by
    rw [<- Ho.out]
    have:=HN.out
    rw [<- H0.out,List.take_length] at this
    exact decide_eq_false this
   subst this
   go_wp2_with fail
   go_ret
   exact ⟨rfl,rfl⟩

theorem zaC (c:Cd) (v:Value) (u:Value) (ws:List Int) (r:Int) (w:World) (hc:IsC w c v) (hu:RdI w u ws) (hs:ws.length<=c.all.length) (hm:ws.length<=100000) (o:Int) (ho:zam c.all ws 0 r ws.length=o) :
  Calls Tryz.prog 37 #[aggC c v,u,.int .i64 r] w (fun e w' => e=.returned (.int .i64 o)/\Below w.heap.size w w'):=by
 obtain ⟨a0,n0,c0,rfl,H0,hm0⟩:=hc.1.open
 obtain ⟨a9,n9,c9,rfl,H9,hm9⟩:=hu.open
 have Hs:=Lib.hid hs
 have Ho:=Lib.hid ho
 have hn9:n9<=100000:=by have:=H9.out;omega
 clear hs ho hm
 go_enter Tryz.func37,Tryz.ntmps37
 go_wp2_with fail
 obtain ⟨W0,az⟩:∃ W0,w.alloc (.cells #[.int .i64 c.ins,.int .i64 c.rows,.int .i64 c.cols,.int .i64 c.regs,.slice a0 n0 c0] 24)=W0:=⟨_,rfl⟩
 have am:=Lib.hid (show ∀ W',Below W0.heap.size W0 W'->(Bx5 W' w.heap.size (.int .i64 c.ins) (.int .i64 c.rows) (.int .i64 c.cols) (.int .i64 c.regs) (.slice a0 n0 c0)) from fun W' hb => by
   apply bx5 hb
   all_goals first|assumption|(rw [<- az];simp [go_sem]))
 have zb:Below w.heap.size w W0:=by rw [<- az];exact bN _ _
 rw [az]
 clear az
 have i0:=hc.to zb
 have gb:Below W0.heap.size W0 W0:=Below.refl _ _
 obtain ⟨z0,ac,ae,af,aw,ay,ag,ah,ai,aB,aC⟩:=am.out _ gb
 have lR:=hu.to zb
 go_wp2_with fail
 go_loopw [7] (fun i ww => ∃ (k:Nat),k<=n9/\i=.int .i64 ((k:Int) - 1)/\Below W0.heap.size W0 ww/\Hid (zam c.all ws 0 r k=o)) (fun i _ => (intOf i+1).toNat)
 case atStart => exact ⟨n9,Nat.le_refl _,by go_num,gb,by show _=_;rw [<- H9.out];exact Ho.out⟩
 case round =>
  clear gb ac ag ae ah af ai aw aB ay aC
  obtain ⟨k,hk,rfl,gb,HA⟩:=hrel
  obtain ⟨z0,ac,ae,af,aw,ay,ag,ah,ai,aB,aC⟩:=am.out _ gb
  rcases k with _|k
  ·have:(0:Int)=o:=HA.out
   subst this
   go_wp2_with fail
   go_ret
   exact ⟨rfl,bS zb gb⟩
  ·have hk1:k<ws.length:=by rw [H9.out];omega
   have hkl:k<c.all.length:=by have:=Hs.out;omega
   obtain ⟨b,off,rfl,h7⟩:=(i0.to gb).1.nth hkl
   obtain ⟨b2,rfl,hy⟩:=(lR.to gb).nth hk1
   have HA1:=HA.out
   rw [zdA hkl hk1] at HA1
   obtain ⟨x,hx⟩:∃ x,c.all[k]=x:=⟨_,rfl⟩
   obtain ⟨y,hy'⟩:∃ y,ws[k]=y:=⟨_,rfl⟩
   rw [hy'] at hy HA1
   rw [hx] at HA1 h7
   have hkn0:k<n0:=by have:=H0.out;omega
   obtain ⟨s0,s1,-⟩:=h7
   have e1:((k+1:Nat):Int) - 1=(k:Int):=by omega
   rw [e1]
   have hki:(k:Int)<(n0:Int):=by omega
   have hki9:(k:Int)<(n9:Int):=by omega
   clear e1 hx hy'
   by_cases h10:x.op=10
   ·have t10:(x.op != 10)=false:=by simp;exact h10
    rw [if_neg (by intro h;exact h.1 h10)] at HA1
    have HA2:=Lib.hid HA1
    clear HA1 HA h10
    go_wp2_with fail
    go_roundw
    case rel => exact ⟨k,by omega,by go_num,gb,HA2⟩
    case measure => simp [intOf] <;> omega
   ·have t10:(x.op != 10)=true:=by simp;exact h10
    by_cases hr:x.to=r
    ·have tr:(x.to == r)=true:=by simp;exact hr
     rw [if_pos ⟨h10,hr⟩] at HA1
     subst HA1
     clear HA h10 hr
     go_wp2_with fail
     go_ret
     exact ⟨rfl,bS zb gb⟩
    ·have tr:(x.to == r)=false:=by simp;exact hr
     rw [if_neg (by intro h;exact hr h.2)] at HA1
     have HA2:=Lib.hid HA1
     clear HA1 HA h10 hr
     go_wp2_with fail
     go_roundw
     case rel => exact ⟨k,by omega,by go_num,gb,HA2⟩
     case measure => simp [intOf] <;> omega

end Go.Proofs.YtkjcdnlpjldhaaaGreat


namespace Go.Proofs.YtkjcdnlpjldhaaaGreat
open Go.RowKit Tw
attribute [local go_sem ↓] Go.wp_at_zero Go.wp_at_succ

theorem zbV (a b:Int):(!decide (a<b))=decide (b<=a):=by rw [<- decide_not];exact decide_eq_decide.2 Int.not_lt

theorem zcR (a b:Int):(!decide (a<=b))=decide (b<a):=by rw [<- decide_not];exact decide_eq_decide.2 Int.not_le

theorem zdg (a:Int):(!(a != 0))=decide (a=0):=by by_cases h:a=0 <;> simp [h]

theorem zcB {c:Cd} {L:List Int} {x:Ins} (hk:0<=zf x.op):zu c L x=(aOk c L x && bOk L x && (decide (0<=x.to) && decide (x.to<zK c x)) && zaE x):=by
 unfold zu
 rw [decide_eq_true hk,Bool.true_and,Bool.decide_and]
 cases zaE x <;> cases aOk c L x <;> cases bOk L x <;> simp

theorem ziM (n:Nat) (b:Bool) (h:decide ((zaO n).length<=40)=b):decide (((ba (zaO n)).size:Int)<=40)=b:=by
 rw [<- h];apply decide_eq_decide.2;rw [zfx];omega

theorem zcw {op to xa xb:Int} {ng:Bool} {ln ld:List Nat} (h:op≠1):zaE ⟨op,to,xa,xb,⟨ng,ln,ld⟩⟩=(ng == false && decide (ln=[]) && decide (ld=[])):=by
 unfold zaE
 rw [if_neg h]
 have e:∀ l:List Nat,decide (l.length=0)=decide (l=[]):=fun l => decide_eq_decide.2 List.length_eq_zero_iff
 simp only [e]
 cases ng <;> rfl

theorem zh (op k:Int) (w:World) (hk:zf op=k):Calls Tryz.prog 36 #[.int .i64 op] w (fun e w' => e=.returned (.int .i64 k)/\w=w'):=by
 subst hk;exact zjW op w

theorem zfi (c:Cd) (v:Value) (op to xa xb:Int) (ng:Bool) (vn vd:Value) (ln ld:List Nat) (u:Value) (L:List Int) (w:World) (hc:IsC w c v) (hx:IsX w ⟨op,to,xa,xb,⟨ng,ln,ld⟩⟩ vn vd) (hu:RdI w u L) (hL:L.length<=100000) (hr:1<=c.rows/\c.rows<=40) (hcl:1<=c.cols/\c.cols<=40) (h0:¬ 0<=zf op) (o:Bool) (ho:zu c L ⟨op,to,xa,xb,⟨ng,ln,ld⟩⟩=o) :
  Calls Tryz.prog 34 #[aggC c v,.agg #[.int .i64 op,.int .i64 to,.int .i64 xa,.int .i64 xb,.bool ng,vn,vd],u] w (fun e w' => e=.returned (.bool o)/\Below w.heap.size w w'):=by
 have ho':o=false:=by
  rw [<- ho];unfold zu
  rw [decide_eq_false h0];rfl
 have Hk:=Lib.hid (show zf op=-1 by have:=zkI op;omega)
 clear ho h0 hr hcl hL
 subst ho'
 obtain ⟨a0,n0,c0,rfl,H0,hm0⟩:=hc.1.open
 obtain ⟨a1,n1,c1,rfl,H1,hm1⟩:=hx.1.1.open
 obtain ⟨a2,n2,c2,rfl,H2,hm2⟩:=hx.1.2.1.open
 go_enter Tryz.func34,Tryz.ntmps34
 go_wp2_with fail
 obtain ⟨W0,az⟩:∃ W0,(w.alloc (.cells #[.int .i64 c.ins,.int .i64 c.rows,.int .i64 c.cols,.int .i64 c.regs,.slice a0 n0 c0] 24)).alloc (.cells #[.int .i64 op,.int .i64 to,.int .i64 xa,.int .i64 xb,.bool ng,.slice a1 n1 c1,.slice a2 n2 c2] 49)=W0:=⟨_,rfl⟩
 have am:=Lib.hid (show ∀ W',Below W0.heap.size W0 W'->(Bx5 W' w.heap.size (.int .i64 c.ins) (.int .i64 c.rows) (.int .i64 c.cols) (.int .i64 c.regs) (.slice a0 n0 c0)/\Bx7 W' (w.heap.size+1) (.int .i64 op) (.int .i64 to) (.int .i64 xa) (.int .i64 xb) (.bool ng) (.slice a1 n1 c1) (.slice a2 n2 c2)) from fun W' hb => by
   refine ⟨bx5 hb ?_ ?_ ?_ ?_ ?_ ?_ ?_ ?_ ?_ ?_,bx7 hb ?_ ?_ ?_ ?_ ?_ ?_ ?_ ?_ ?_ ?_ ?_ ?_ ?_ ?_⟩
   all_goals first|assumption|(rw [<- az];simp [go_sem]))
 have zb:Below w.heap.size w W0:=by rw [<- az];exact bS (bN _ _) (bN _ _)
 rw [az]
 clear az
 have i0:=hc.to zb
 have i1:=hx.to zb
 have i2:=hu.to zb
 have gb:Below W0.heap.size W0 W0:=Below.refl _ _
 obtain ⟨⟨z0,ac,ae,af,aw,ay,ag,ah,ai,aB,aC⟩,⟨z1,ak,al,au,aR,aS,aX,aY,ap,aq,aA,aT,aU,aZ,a7⟩⟩:=am.out _ gb
 go_wp2_with fail
 refine (zh _ (-1) _ Hk.out).mono ?_
 rintro e w1 ⟨rfl,rfl⟩
 go_wp2_with fail
 go_ret
 exact ⟨rfl,bS zb gb⟩

theorem zdO (c:Cd) (v:Value) (op to xa xb:Int) (ng:Bool) (vn vd:Value) (ln ld:List Nat) (u:Value) (L:List Int) (w:World) (hc:IsC w c v) (hx:IsX w ⟨op,to,xa,xb,⟨ng,ln,ld⟩⟩ vn vd) (hu:RdI w u L) (hL:L.length<=100000) (hr:1<=c.rows/\c.rows<=40) (hcl:1<=c.cols/\c.cols<=40) (h1:op=0) (o:Bool) (ho:zu c L ⟨op,to,xa,xb,⟨ng,ln,ld⟩⟩=o) :
  Calls Tryz.prog 34 #[aggC c v,.agg #[.int .i64 op,.int .i64 to,.int .i64 xa,.int .i64 xb,.bool ng,vn,vd],u] w (fun e w' => e=.returned (.bool o)/\Below w.heap.size w w'):=by
 have t0:(op == 0)=true:=by simp;exact h1
 have no1:op≠1:=by omega
 have t1:(op == 1)=false:=by simp;exact no1
 have no6:op≠6:=by omega
 have t6:(op == 6)=false:=by simp;exact no6
 have no7:op≠7:=by omega
 have t7:(op == 7)=false:=by simp;exact no7
 have no10:op≠10:=by omega
 have t10:(op == 10)=false:=by simp;exact no10
 have t1':(op != 1)=true:=by simp;exact no1
 have hk:zf op=0:=by rw [h1];decide
 have hk0:0<=zf op:=by rw [hk];decide
 have pb9:=zU hr hcl
 have HM:IntKind.i64.wrap (c.rows*c.cols)=c.rows*c.cols:=IntWalk.i64_in _ (by omega)
 obtain ⟨z1,tz1⟩:∃ b,decide (xa<0)=b:=⟨_,rfl⟩
 obtain ⟨z2,tz2⟩:∃ b,decide (c.ins<=xa)=b:=⟨_,rfl⟩
 obtain ⟨yb,tyb⟩:∃ b,(xb != 0)=b:=⟨_,rfl⟩
 obtain ⟨u1,tu1⟩:∃ b,decide (to<0)=b:=⟨_,rfl⟩
 obtain ⟨u2,tu2⟩:∃ b,decide (c.regs<=to)=b:=⟨_,rfl⟩
 have eA:aOk c L ⟨op,to,xa,xb,⟨ng,ln,ld⟩⟩=(!z1 && !z2):=(zih h1).trans (show (decide (0<=xa) && decide (xa<c.ins))=(!z1 && !z2) by rw [<- zbV xa 0,<- zcR c.ins xa,tz1,tz2])
 have eB:bOk L ⟨op,to,xa,xb,⟨ng,ln,ld⟩⟩=(!yb):=(zcr no7).trans (show (if decide (zf op=2)=true then decide (xb ∈ L) else decide (xb=0))=(!yb) by rw [hk,if_neg (by decide),<- zdg,tyb])
 have eM:zK c ⟨op,to,xa,xb,⟨ng,ln,ld⟩⟩=c.regs:=if_neg no10
 rw [zcB (x:=⟨op,to,xa,xb,⟨ng,ln,ld⟩⟩) hk0,eA,eB,eM] at ho
 obtain ⟨nu,hnu⟩:∃ b,zaE ⟨op,to,xa,xb,⟨ng,ln,ld⟩⟩=b:=⟨_,rfl⟩
 have ho':((!z1 && !z2) && (!yb) && (!u1 && !u2) && nu)=o:=by rw [<- ho,hnu,<- tu1,<- tu2,zbV,zcR]
 have Hnu:=Lib.hid hnu
 have HL:=Lib.hid hL
 have Hk:=Lib.hid hk
 obtain ⟨pa,hpa⟩:∃ b,decide (xa ∈ L)=b:=⟨_,rfl⟩
 obtain ⟨pb,hpb⟩:∃ b,decide (xb ∈ L)=b:=⟨_,rfl⟩
 have Hpa:=Lib.hid hpa
 have Hpb:=Lib.hid hpb
 have hn1:ln.length<=1000:=hx.1.2.2.2.1
 have hd1:ld.length<=1000:=hx.1.2.2.2.2
 clear ho hnu hpa hpb eA eB eM hk hk0 pb9 hL 
 clear t0 t1 t6 t7 t10 t1' no1
 subst h1
 obtain ⟨a0,n0,c0,rfl,H0,hm0⟩:=hc.1.open
 obtain ⟨a1,n1,c1,rfl,H1,hm1⟩:=hx.1.1.open
 obtain ⟨a2,n2,c2,rfl,H2,hm2⟩:=hx.1.2.1.open
 cases z1
 case true =>
  have ho:o=false:=by rw [<- ho'];simp
  subst ho
  clear ho'
  go_enter Tryz.func34,Tryz.ntmps34
  go_wp2_with fail
  obtain ⟨W0,az⟩:∃ W0,(w.alloc (.cells #[.int .i64 c.ins,.int .i64 c.rows,.int .i64 c.cols,.int .i64 c.regs,.slice a0 n0 c0] 24)).alloc (.cells #[.int .i64 0,.int .i64 to,.int .i64 xa,.int .i64 xb,.bool ng,.slice a1 n1 c1,.slice a2 n2 c2] 49)=W0:=⟨_,rfl⟩
  have am:=Lib.hid (show ∀ W',Below W0.heap.size W0 W'->(Bx5 W' w.heap.size (.int .i64 c.ins) (.int .i64 c.rows) (.int .i64 c.cols) (.int .i64 c.regs) (.slice a0 n0 c0)/\Bx7 W' (w.heap.size+1) (.int .i64 0) (.int .i64 to) (.int .i64 xa) (.int .i64 xb) (.bool ng) (.slice a1 n1 c1) (.slice a2 n2 c2)) from fun W' hb => by
    refine ⟨bx5 hb ?_ ?_ ?_ ?_ ?_ ?_ ?_ ?_ ?_ ?_,bx7 hb ?_ ?_ ?_ ?_ ?_ ?_ ?_ ?_ ?_ ?_ ?_ ?_ ?_ ?_⟩
    all_goals first|assumption|(rw [<- az];simp [go_sem]))
  have zb:Below w.heap.size w W0:=by rw [<- az];exact bS (bN _ _) (bN _ _)
  rw [az]
  clear az
  have i0:=hc.to zb
  have i1:=hx.to zb
  have i2:=hu.to zb
  have gb:Below W0.heap.size W0 W0:=Below.refl _ _
  obtain ⟨⟨z0,ac,ae,af,aw,ay,ag,ah,ai,aB,aC⟩,⟨z1,ak,al,au,aR,aS,aX,aY,ap,aq,aA,aT,aU,aZ,a7⟩⟩:=am.out _ gb
  go_wp2_with fail
  refine (zh _ (0) _ Hk.out).mono ?_
  rintro e w1 ⟨rfl,rfl⟩
  go_wp2_with fail
  refine (zg _ L xa _ (i2.to gb) HL.out _ Hpa.out).mono ?_
  rintro e w2 ⟨rfl,rfl⟩
  go_wp2_with fail
  refine (zg _ L xb _ (i2.to gb) HL.out _ Hpb.out).mono ?_
  rintro e w3 ⟨rfl,rfl⟩
  go_wp2_with fail
  go_ret
  exact ⟨rfl,bS zb gb⟩
 case false =>
  cases z2
  case true =>
   have ho:o=false:=by rw [<- ho'];simp
   subst ho
   clear ho'
   go_enter Tryz.func34,Tryz.ntmps34
   go_wp2_with fail
   obtain ⟨W0,az⟩:∃ W0,(w.alloc (.cells #[.int .i64 c.ins,.int .i64 c.rows,.int .i64 c.cols,.int .i64 c.regs,.slice a0 n0 c0] 24)).alloc (.cells #[.int .i64 0,.int .i64 to,.int .i64 xa,.int .i64 xb,.bool ng,.slice a1 n1 c1,.slice a2 n2 c2] 49)=W0:=⟨_,rfl⟩
   have am:=Lib.hid (show ∀ W',Below W0.heap.size W0 W'->(Bx5 W' w.heap.size (.int .i64 c.ins) (.int .i64 c.rows) (.int .i64 c.cols) (.int .i64 c.regs) (.slice a0 n0 c0)/\Bx7 W' (w.heap.size+1) (.int .i64 0) (.int .i64 to) (.int .i64 xa) (.int .i64 xb) (.bool ng) (.slice a1 n1 c1) (.slice a2 n2 c2)) from fun W' hb => by
     refine ⟨bx5 hb ?_ ?_ ?_ ?_ ?_ ?_ ?_ ?_ ?_ ?_,bx7 hb ?_ ?_ ?_ ?_ ?_ ?_ ?_ ?_ ?_ ?_ ?_ ?_ ?_ ?_⟩
     all_goals first|assumption|(rw [<- az];simp [go_sem]))
   have zb:Below w.heap.size w W0:=by rw [<- az];exact bS (bN _ _) (bN _ _)
   rw [az]
   clear az
   have i0:=hc.to zb
   have i1:=hx.to zb
   have i2:=hu.to zb
   have gb:Below W0.heap.size W0 W0:=Below.refl _ _
   obtain ⟨⟨z0,ac,ae,af,aw,ay,ag,ah,ai,aB,aC⟩,⟨z1,ak,al,au,aR,aS,aX,aY,ap,aq,aA,aT,aU,aZ,a7⟩⟩:=am.out _ gb
   go_wp2_with fail
   refine (zh _ (0) _ Hk.out).mono ?_
   rintro e w1 ⟨rfl,rfl⟩
   go_wp2_with fail
   refine (zg _ L xa _ (i2.to gb) HL.out _ Hpa.out).mono ?_
   rintro e w2 ⟨rfl,rfl⟩
   go_wp2_with fail
   refine (zg _ L xb _ (i2.to gb) HL.out _ Hpb.out).mono ?_
   rintro e w3 ⟨rfl,rfl⟩
   go_wp2_with fail
   go_ret
   exact ⟨rfl,bS zb gb⟩
  case false =>
   cases yb
   case true =>
    have ho:o=false:=by rw [<- ho'];simp
    subst ho
    clear ho'
    go_enter Tryz.func34,Tryz.ntmps34
    go_wp2_with fail
    obtain ⟨W0,az⟩:∃ W0,(w.alloc (.cells #[.int .i64 c.ins,.int .i64 c.rows,.int .i64 c.cols,.int .i64 c.regs,.slice a0 n0 c0] 24)).alloc (.cells #[.int .i64 0,.int .i64 to,.int .i64 xa,.int .i64 xb,.bool ng,.slice a1 n1 c1,.slice a2 n2 c2] 49)=W0:=⟨_,rfl⟩
    have am:=Lib.hid (show ∀ W',Below W0.heap.size W0 W'->(Bx5 W' w.heap.size (.int .i64 c.ins) (.int .i64 c.rows) (.int .i64 c.cols) (.int .i64 c.regs) (.slice a0 n0 c0)/\Bx7 W' (w.heap.size+1) (.int .i64 0) (.int .i64 to) (.int .i64 xa) (.int .i64 xb) (.bool ng) (.slice a1 n1 c1) (.slice a2 n2 c2)) from fun W' hb => by
      refine ⟨bx5 hb ?_ ?_ ?_ ?_ ?_ ?_ ?_ ?_ ?_ ?_,bx7 hb ?_ ?_ ?_ ?_ ?_ ?_ ?_ ?_ ?_ ?_ ?_ ?_ ?_ ?_⟩
      all_goals first|assumption|(rw [<- az];simp [go_sem]))
    have zb:Below w.heap.size w W0:=by rw [<- az];exact bS (bN _ _) (bN _ _)
    rw [az]
    clear az
    have i0:=hc.to zb
    have i1:=hx.to zb
    have i2:=hu.to zb
    have gb:Below W0.heap.size W0 W0:=Below.refl _ _
    obtain ⟨⟨z0,ac,ae,af,aw,ay,ag,ah,ai,aB,aC⟩,⟨z1,ak,al,au,aR,aS,aX,aY,ap,aq,aA,aT,aU,aZ,a7⟩⟩:=am.out _ gb
    go_wp2_with fail
    refine (zh _ (0) _ Hk.out).mono ?_
    rintro e w1 ⟨rfl,rfl⟩
    go_wp2_with fail
    refine (zg _ L xa _ (i2.to gb) HL.out _ Hpa.out).mono ?_
    rintro e w2 ⟨rfl,rfl⟩
    go_wp2_with fail
    refine (zg _ L xb _ (i2.to gb) HL.out _ Hpb.out).mono ?_
    rintro e w3 ⟨rfl,rfl⟩
    go_wp2_with fail
    go_ret
    exact ⟨rfl,bS zb gb⟩
   case false =>
    cases u1
    case true =>
     have ho:o=false:=by rw [<- ho'];simp
     subst ho
     clear ho'
     go_enter Tryz.func34,Tryz.ntmps34
     go_wp2_with fail
     obtain ⟨W0,az⟩:∃ W0,(w.alloc (.cells #[.int .i64 c.ins,.int .i64 c.rows,.int .i64 c.cols,.int .i64 c.regs,.slice a0 n0 c0] 24)).alloc (.cells #[.int .i64 0,.int .i64 to,.int .i64 xa,.int .i64 xb,.bool ng,.slice a1 n1 c1,.slice a2 n2 c2] 49)=W0:=⟨_,rfl⟩
     have am:=Lib.hid (show ∀ W',Below W0.heap.size W0 W'->(Bx5 W' w.heap.size (.int .i64 c.ins) (.int .i64 c.rows) (.int .i64 c.cols) (.int .i64 c.regs) (.slice a0 n0 c0)/\Bx7 W' (w.heap.size+1) (.int .i64 0) (.int .i64 to) (.int .i64 xa) (.int .i64 xb) (.bool ng) (.slice a1 n1 c1) (.slice a2 n2 c2)) from fun W' hb => by
       refine ⟨bx5 hb ?_ ?_ ?_ ?_ ?_ ?_ ?_ ?_ ?_ ?_,bx7 hb ?_ ?_ ?_ ?_ ?_ ?_ ?_ ?_ ?_ ?_ ?_ ?_ ?_ ?_⟩
       all_goals first|assumption|(rw [<- az];simp [go_sem]))
     have zb:Below w.heap.size w W0:=by rw [<- az];exact bS (bN _ _) (bN _ _)
     rw [az]
     clear az
     have i0:=hc.to zb
     have i1:=hx.to zb
     have i2:=hu.to zb
     have gb:Below W0.heap.size W0 W0:=Below.refl _ _
     obtain ⟨⟨z0,ac,ae,af,aw,ay,ag,ah,ai,aB,aC⟩,⟨z1,ak,al,au,aR,aS,aX,aY,ap,aq,aA,aT,aU,aZ,a7⟩⟩:=am.out _ gb
     go_wp2_with fail
     refine (zh _ (0) _ Hk.out).mono ?_
     rintro e w1 ⟨rfl,rfl⟩
     go_wp2_with fail
     refine (zg _ L xa _ (i2.to gb) HL.out _ Hpa.out).mono ?_
     rintro e w2 ⟨rfl,rfl⟩
     go_wp2_with fail
     refine (zg _ L xb _ (i2.to gb) HL.out _ Hpb.out).mono ?_
     rintro e w3 ⟨rfl,rfl⟩
     go_wp2_with fail
     go_ret
     exact ⟨rfl,bS zb gb⟩
    case false =>
     cases u2
     case true =>
      have ho:o=false:=by rw [<- ho'];simp
      subst ho
      clear ho'
      go_enter Tryz.func34,Tryz.ntmps34
      go_wp2_with fail
      obtain ⟨W0,az⟩:∃ W0,(w.alloc (.cells #[.int .i64 c.ins,.int .i64 c.rows,.int .i64 c.cols,.int .i64 c.regs,.slice a0 n0 c0] 24)).alloc (.cells #[.int .i64 0,.int .i64 to,.int .i64 xa,.int .i64 xb,.bool ng,.slice a1 n1 c1,.slice a2 n2 c2] 49)=W0:=⟨_,rfl⟩
      have am:=Lib.hid (show ∀ W',Below W0.heap.size W0 W'->(Bx5 W' w.heap.size (.int .i64 c.ins) (.int .i64 c.rows) (.int .i64 c.cols) (.int .i64 c.regs) (.slice a0 n0 c0)/\Bx7 W' (w.heap.size+1) (.int .i64 0) (.int .i64 to) (.int .i64 xa) (.int .i64 xb) (.bool ng) (.slice a1 n1 c1) (.slice a2 n2 c2)) from fun W' hb => by
        refine ⟨bx5 hb ?_ ?_ ?_ ?_ ?_ ?_ ?_ ?_ ?_ ?_,bx7 hb ?_ ?_ ?_ ?_ ?_ ?_ ?_ ?_ ?_ ?_ ?_ ?_ ?_ ?_⟩
        all_goals first|assumption|(rw [<- az];simp [go_sem]))
      have zb:Below w.heap.size w W0:=by rw [<- az];exact bS (bN _ _) (bN _ _)
      rw [az]
      clear az
      have i0:=hc.to zb
      have i1:=hx.to zb
      have i2:=hu.to zb
      have gb:Below W0.heap.size W0 W0:=Below.refl _ _
      obtain ⟨⟨z0,ac,ae,af,aw,ay,ag,ah,ai,aB,aC⟩,⟨z1,ak,al,au,aR,aS,aX,aY,ap,aq,aA,aT,aU,aZ,a7⟩⟩:=am.out _ gb
      go_wp2_with fail
      refine (zh _ (0) _ Hk.out).mono ?_
      rintro e w1 ⟨rfl,rfl⟩
      go_wp2_with fail
      refine (zg _ L xa _ (i2.to gb) HL.out _ Hpa.out).mono ?_
      rintro e w2 ⟨rfl,rfl⟩
      go_wp2_with fail
      refine (zg _ L xb _ (i2.to gb) HL.out _ Hpb.out).mono ?_
      rintro e w3 ⟨rfl,rfl⟩
      go_wp2_with fail
      go_ret
      exact ⟨rfl,bS zb gb⟩
     case false =>
      have ho:nu=o:=by rw [<- ho'];cases nu <;> rfl
      subst ho
      clear ho'
      have Ho:=Lib.hid (show (ng == false && decide (ln=[]) && decide (ld=[]))=nu by rw [<- zcw (op:=0) (to:=to) (xa:=xa) (xb:=xb) (by decide)];exact Hnu.out)
      go_enter Tryz.func34,Tryz.ntmps34
      go_wp2_with fail
      obtain ⟨W0,az⟩:∃ W0,(w.alloc (.cells #[.int .i64 c.ins,.int .i64 c.rows,.int .i64 c.cols,.int .i64 c.regs,.slice a0 n0 c0] 24)).alloc (.cells #[.int .i64 0,.int .i64 to,.int .i64 xa,.int .i64 xb,.bool ng,.slice a1 n1 c1,.slice a2 n2 c2] 49)=W0:=⟨_,rfl⟩
      have am:=Lib.hid (show ∀ W',Below W0.heap.size W0 W'->(Bx5 W' w.heap.size (.int .i64 c.ins) (.int .i64 c.rows) (.int .i64 c.cols) (.int .i64 c.regs) (.slice a0 n0 c0)/\Bx7 W' (w.heap.size+1) (.int .i64 0) (.int .i64 to) (.int .i64 xa) (.int .i64 xb) (.bool ng) (.slice a1 n1 c1) (.slice a2 n2 c2)) from fun W' hb => by
        refine ⟨bx5 hb ?_ ?_ ?_ ?_ ?_ ?_ ?_ ?_ ?_ ?_,bx7 hb ?_ ?_ ?_ ?_ ?_ ?_ ?_ ?_ ?_ ?_ ?_ ?_ ?_ ?_⟩
        all_goals first|assumption|(rw [<- az];simp [go_sem]))
      have zb:Below w.heap.size w W0:=by rw [<- az];exact bS (bN _ _) (bN _ _)
      rw [az]
      clear az
      have i0:=hc.to zb
      have i1:=hx.to zb
      have i2:=hu.to zb
      have gb:Below W0.heap.size W0 W0:=Below.refl _ _
      obtain ⟨⟨z0,ac,ae,af,aw,ay,ag,ah,ai,aB,aC⟩,⟨z1,ak,al,au,aR,aS,aX,aY,ap,aq,aA,aT,aU,aZ,a7⟩⟩:=am.out _ gb
      go_wp2_with fail
      refine (zh _ (0) _ Hk.out).mono ?_
      rintro e w1 ⟨rfl,rfl⟩
      go_wp2_with fail
      refine (zg _ L xa _ (i2.to gb) HL.out _ Hpa.out).mono ?_
      rintro e w2 ⟨rfl,rfl⟩
      go_wp2_with fail
      refine (zg _ L xb _ (i2.to gb) HL.out _ Hpb.out).mono ?_
      rintro e w3 ⟨rfl,rfl⟩
      go_wp2_with fail
      refine (zbf ng _ _ ln ld false _ _ [] [] _ ((i1.to gb)).1.isF ⟨Rd.nil _,Rd.nil _⟩ _ Ho.out).mono ?_
      clear ac ag ae ah af ai aw aB ay aC ak ap al aq au aA aR aT aS aU aX aZ aY a7
      rintro e w4 ⟨rfl,cG⟩
      replace gb:=bS gb cG
      obtain ⟨⟨z0,ac,ae,af,aw,ay,ag,ah,ai,aB,aC⟩,⟨z1,ak,al,au,aR,aS,aX,aY,ap,aq,aA,aT,aU,aZ,a7⟩⟩:=am.out _ gb
      go_wp2_with fail
      go_ret
      exact ⟨rfl,bS zb gb⟩

theorem zeG (c:Cd) (v:Value) (op to xa xb:Int) (ng:Bool) (vn vd:Value) (ln ld:List Nat) (u:Value) (L:List Int) (w:World) (hc:IsC w c v) (hx:IsX w ⟨op,to,xa,xb,⟨ng,ln,ld⟩⟩ vn vd) (hu:RdI w u L) (hL:L.length<=100000) (hr:1<=c.rows/\c.rows<=40) (hcl:1<=c.cols/\c.cols<=40) (h1:op=1) (o:Bool) (ho:zu c L ⟨op,to,xa,xb,⟨ng,ln,ld⟩⟩=o) :
  Calls Tryz.prog 34 #[aggC c v,.agg #[.int .i64 op,.int .i64 to,.int .i64 xa,.int .i64 xb,.bool ng,vn,vd],u] w (fun e w' => e=.returned (.bool o)/\Below w.heap.size w w'):=by
 have no0:op≠0:=by omega
 have t0:(op == 0)=false:=by simp;exact no0
 have t1:(op == 1)=true:=by simp;exact h1
 have no6:op≠6:=by omega
 have t6:(op == 6)=false:=by simp;exact no6
 have no7:op≠7:=by omega
 have t7:(op == 7)=false:=by simp;exact no7
 have no10:op≠10:=by omega
 have t10:(op == 10)=false:=by simp;exact no10
 have t1':(op != 1)=false:=by simp;exact h1
 have hk:zf op=0:=by rw [h1];decide
 have hk0:0<=zf op:=by rw [hk];decide
 have pb9:=zU hr hcl
 have HM:IntKind.i64.wrap (c.rows*c.cols)=c.rows*c.cols:=IntWalk.i64_in _ (by omega)
 obtain ⟨ya,tya⟩:∃ b,(xa != 0)=b:=⟨_,rfl⟩
 obtain ⟨yb,tyb⟩:∃ b,(xb != 0)=b:=⟨_,rfl⟩
 obtain ⟨u1,tu1⟩:∃ b,decide (to<0)=b:=⟨_,rfl⟩
 obtain ⟨u2,tu2⟩:∃ b,decide (c.regs<=to)=b:=⟨_,rfl⟩
 have eA:aOk c L ⟨op,to,xa,xb,⟨ng,ln,ld⟩⟩=(!ya):=(show aOk c L ⟨op,to,xa,xb,⟨ng,ln,ld⟩⟩=decide (xa=0) by unfold aOk;rw [if_neg no0,if_pos h1]).trans (by rw [<- zdg,tya])
 have eB:bOk L ⟨op,to,xa,xb,⟨ng,ln,ld⟩⟩=(!yb):=(zcr no7).trans (show (if decide (zf op=2)=true then decide (xb ∈ L) else decide (xb=0))=(!yb) by rw [hk,if_neg (by decide),<- zdg,tyb])
 have eM:zK c ⟨op,to,xa,xb,⟨ng,ln,ld⟩⟩=c.regs:=if_neg no10
 have hnE:zaE ⟨op,to,xa,xb,⟨ng,ln,ld⟩⟩=(zcJ ng ln ld (Rt.num ⟨ng,ln,ld⟩) && decide ((zaO (val ln)).length<=40) && decide ((zaO (val ld)).length<=40)):=if_pos h1
 rw [zcB (x:=⟨op,to,xa,xb,⟨ng,ln,ld⟩⟩) hk0,eA,eB,eM] at ho
 obtain ⟨nu,hnu⟩:∃ b,zaE ⟨op,to,xa,xb,⟨ng,ln,ld⟩⟩=b:=⟨_,rfl⟩
 have ho':((!ya) && (!yb) && (!u1 && !u2) && nu)=o:=by rw [<- ho,hnu,<- tu1,<- tu2,zbV,zcR]
 have HnE:=Lib.hid hnE
 clear hnE
 have Hnu:=Lib.hid hnu
 have HL:=Lib.hid hL
 have Hk:=Lib.hid hk
 obtain ⟨pa,hpa⟩:∃ b,decide (xa ∈ L)=b:=⟨_,rfl⟩
 obtain ⟨pb,hpb⟩:∃ b,decide (xb ∈ L)=b:=⟨_,rfl⟩
 have Hpa:=Lib.hid hpa
 have Hpb:=Lib.hid hpb
 have hn1:ln.length<=1000:=hx.1.2.2.2.1
 have hd1:ld.length<=1000:=hx.1.2.2.2.2
 clear ho hnu hpa hpb eA eB eM hk hk0 pb9 hL 
 clear t0 t1 t6 t7 t10 t1'
 subst h1
 obtain ⟨a0,n0,c0,rfl,H0,hm0⟩:=hc.1.open
 obtain ⟨a1,n1,c1,rfl,H1,hm1⟩:=hx.1.1.open
 obtain ⟨a2,n2,c2,rfl,H2,hm2⟩:=hx.1.2.1.open
 cases ya
 case true =>
  have ho:o=false:=by rw [<- ho'];simp
  subst ho
  clear ho'
  go_enter Tryz.func34,Tryz.ntmps34
  go_wp2_with fail
  obtain ⟨W0,az⟩:∃ W0,(w.alloc (.cells #[.int .i64 c.ins,.int .i64 c.rows,.int .i64 c.cols,.int .i64 c.regs,.slice a0 n0 c0] 24)).alloc (.cells #[.int .i64 1,.int .i64 to,.int .i64 xa,.int .i64 xb,.bool ng,.slice a1 n1 c1,.slice a2 n2 c2] 49)=W0:=⟨_,rfl⟩
  have am:=Lib.hid (show ∀ W',Below W0.heap.size W0 W'->(Bx5 W' w.heap.size (.int .i64 c.ins) (.int .i64 c.rows) (.int .i64 c.cols) (.int .i64 c.regs) (.slice a0 n0 c0)/\Bx7 W' (w.heap.size+1) (.int .i64 1) (.int .i64 to) (.int .i64 xa) (.int .i64 xb) (.bool ng) (.slice a1 n1 c1) (.slice a2 n2 c2)) from fun W' hb => by
    refine ⟨bx5 hb ?_ ?_ ?_ ?_ ?_ ?_ ?_ ?_ ?_ ?_,bx7 hb ?_ ?_ ?_ ?_ ?_ ?_ ?_ ?_ ?_ ?_ ?_ ?_ ?_ ?_⟩
    all_goals first|assumption|(rw [<- az];simp [go_sem]))
  have zb:Below w.heap.size w W0:=by rw [<- az];exact bS (bN _ _) (bN _ _)
  rw [az]
  clear az
  have i0:=hc.to zb
  have i1:=hx.to zb
  have i2:=hu.to zb
  have gb:Below W0.heap.size W0 W0:=Below.refl _ _
  obtain ⟨⟨z0,ac,ae,af,aw,ay,ag,ah,ai,aB,aC⟩,⟨z1,ak,al,au,aR,aS,aX,aY,ap,aq,aA,aT,aU,aZ,a7⟩⟩:=am.out _ gb
  go_wp2_with fail
  refine (zh _ (0) _ Hk.out).mono ?_
  rintro e w1 ⟨rfl,rfl⟩
  go_wp2_with fail
  refine (zg _ L xa _ (i2.to gb) HL.out _ Hpa.out).mono ?_
  rintro e w2 ⟨rfl,rfl⟩
  go_wp2_with fail
  refine (zg _ L xb _ (i2.to gb) HL.out _ Hpb.out).mono ?_
  rintro e w3 ⟨rfl,rfl⟩
  go_wp2_with fail
  go_ret
  exact ⟨rfl,bS zb gb⟩
 case false =>
  cases yb
  case true =>
   have ho:o=false:=by rw [<- ho'];simp
   subst ho
   clear ho'
   go_enter Tryz.func34,Tryz.ntmps34
   go_wp2_with fail
   obtain ⟨W0,az⟩:∃ W0,(w.alloc (.cells #[.int .i64 c.ins,.int .i64 c.rows,.int .i64 c.cols,.int .i64 c.regs,.slice a0 n0 c0] 24)).alloc (.cells #[.int .i64 1,.int .i64 to,.int .i64 xa,.int .i64 xb,.bool ng,.slice a1 n1 c1,.slice a2 n2 c2] 49)=W0:=⟨_,rfl⟩
   have am:=Lib.hid (show ∀ W',Below W0.heap.size W0 W'->(Bx5 W' w.heap.size (.int .i64 c.ins) (.int .i64 c.rows) (.int .i64 c.cols) (.int .i64 c.regs) (.slice a0 n0 c0)/\Bx7 W' (w.heap.size+1) (.int .i64 1) (.int .i64 to) (.int .i64 xa) (.int .i64 xb) (.bool ng) (.slice a1 n1 c1) (.slice a2 n2 c2)) from fun W' hb => by
     refine ⟨bx5 hb ?_ ?_ ?_ ?_ ?_ ?_ ?_ ?_ ?_ ?_,bx7 hb ?_ ?_ ?_ ?_ ?_ ?_ ?_ ?_ ?_ ?_ ?_ ?_ ?_ ?_⟩
     all_goals first|assumption|(rw [<- az];simp [go_sem]))
   have zb:Below w.heap.size w W0:=by rw [<- az];exact bS (bN _ _) (bN _ _)
   rw [az]
   clear az
   have i0:=hc.to zb
   have i1:=hx.to zb
   have i2:=hu.to zb
   have gb:Below W0.heap.size W0 W0:=Below.refl _ _
   obtain ⟨⟨z0,ac,ae,af,aw,ay,ag,ah,ai,aB,aC⟩,⟨z1,ak,al,au,aR,aS,aX,aY,ap,aq,aA,aT,aU,aZ,a7⟩⟩:=am.out _ gb
   go_wp2_with fail
   refine (zh _ (0) _ Hk.out).mono ?_
   rintro e w1 ⟨rfl,rfl⟩
   go_wp2_with fail
   refine (zg _ L xa _ (i2.to gb) HL.out _ Hpa.out).mono ?_
   rintro e w2 ⟨rfl,rfl⟩
   go_wp2_with fail
   refine (zg _ L xb _ (i2.to gb) HL.out _ Hpb.out).mono ?_
   rintro e w3 ⟨rfl,rfl⟩
   go_wp2_with fail
   go_ret
   exact ⟨rfl,bS zb gb⟩
  case false =>
   cases u1
   case true =>
    have ho:o=false:=by rw [<- ho'];simp
    subst ho
    clear ho'
    go_enter Tryz.func34,Tryz.ntmps34
    go_wp2_with fail
    obtain ⟨W0,az⟩:∃ W0,(w.alloc (.cells #[.int .i64 c.ins,.int .i64 c.rows,.int .i64 c.cols,.int .i64 c.regs,.slice a0 n0 c0] 24)).alloc (.cells #[.int .i64 1,.int .i64 to,.int .i64 xa,.int .i64 xb,.bool ng,.slice a1 n1 c1,.slice a2 n2 c2] 49)=W0:=⟨_,rfl⟩
    have am:=Lib.hid (show ∀ W',Below W0.heap.size W0 W'->(Bx5 W' w.heap.size (.int .i64 c.ins) (.int .i64 c.rows) (.int .i64 c.cols) (.int .i64 c.regs) (.slice a0 n0 c0)/\Bx7 W' (w.heap.size+1) (.int .i64 1) (.int .i64 to) (.int .i64 xa) (.int .i64 xb) (.bool ng) (.slice a1 n1 c1) (.slice a2 n2 c2)) from fun W' hb => by
      refine ⟨bx5 hb ?_ ?_ ?_ ?_ ?_ ?_ ?_ ?_ ?_ ?_,bx7 hb ?_ ?_ ?_ ?_ ?_ ?_ ?_ ?_ ?_ ?_ ?_ ?_ ?_ ?_⟩
      all_goals first|assumption|(rw [<- az];simp [go_sem]))
    have zb:Below w.heap.size w W0:=by rw [<- az];exact bS (bN _ _) (bN _ _)
    rw [az]
    clear az
    have i0:=hc.to zb
    have i1:=hx.to zb
    have i2:=hu.to zb
    have gb:Below W0.heap.size W0 W0:=Below.refl _ _
    obtain ⟨⟨z0,ac,ae,af,aw,ay,ag,ah,ai,aB,aC⟩,⟨z1,ak,al,au,aR,aS,aX,aY,ap,aq,aA,aT,aU,aZ,a7⟩⟩:=am.out _ gb
    go_wp2_with fail
    refine (zh _ (0) _ Hk.out).mono ?_
    rintro e w1 ⟨rfl,rfl⟩
    go_wp2_with fail
    refine (zg _ L xa _ (i2.to gb) HL.out _ Hpa.out).mono ?_
    rintro e w2 ⟨rfl,rfl⟩
    go_wp2_with fail
    refine (zg _ L xb _ (i2.to gb) HL.out _ Hpb.out).mono ?_
    rintro e w3 ⟨rfl,rfl⟩
    go_wp2_with fail
    go_ret
    exact ⟨rfl,bS zb gb⟩
   case false =>
    cases u2
    case true =>
     have ho:o=false:=by rw [<- ho'];simp
     subst ho
     clear ho'
     go_enter Tryz.func34,Tryz.ntmps34
     go_wp2_with fail
     obtain ⟨W0,az⟩:∃ W0,(w.alloc (.cells #[.int .i64 c.ins,.int .i64 c.rows,.int .i64 c.cols,.int .i64 c.regs,.slice a0 n0 c0] 24)).alloc (.cells #[.int .i64 1,.int .i64 to,.int .i64 xa,.int .i64 xb,.bool ng,.slice a1 n1 c1,.slice a2 n2 c2] 49)=W0:=⟨_,rfl⟩
     have am:=Lib.hid (show ∀ W',Below W0.heap.size W0 W'->(Bx5 W' w.heap.size (.int .i64 c.ins) (.int .i64 c.rows) (.int .i64 c.cols) (.int .i64 c.regs) (.slice a0 n0 c0)/\Bx7 W' (w.heap.size+1) (.int .i64 1) (.int .i64 to) (.int .i64 xa) (.int .i64 xb) (.bool ng) (.slice a1 n1 c1) (.slice a2 n2 c2)) from fun W' hb => by
       refine ⟨bx5 hb ?_ ?_ ?_ ?_ ?_ ?_ ?_ ?_ ?_ ?_,bx7 hb ?_ ?_ ?_ ?_ ?_ ?_ ?_ ?_ ?_ ?_ ?_ ?_ ?_ ?_⟩
       all_goals first|assumption|(rw [<- az];simp [go_sem]))
     have zb:Below w.heap.size w W0:=by rw [<- az];exact bS (bN _ _) (bN _ _)
     rw [az]
     clear az
     have i0:=hc.to zb
     have i1:=hx.to zb
     have i2:=hu.to zb
     have gb:Below W0.heap.size W0 W0:=Below.refl _ _
     obtain ⟨⟨z0,ac,ae,af,aw,ay,ag,ah,ai,aB,aC⟩,⟨z1,ak,al,au,aR,aS,aX,aY,ap,aq,aA,aT,aU,aZ,a7⟩⟩:=am.out _ gb
     go_wp2_with fail
     refine (zh _ (0) _ Hk.out).mono ?_
     rintro e w1 ⟨rfl,rfl⟩
     go_wp2_with fail
     refine (zg _ L xa _ (i2.to gb) HL.out _ Hpa.out).mono ?_
     rintro e w2 ⟨rfl,rfl⟩
     go_wp2_with fail
     refine (zg _ L xb _ (i2.to gb) HL.out _ Hpb.out).mono ?_
     rintro e w3 ⟨rfl,rfl⟩
     go_wp2_with fail
     go_ret
     exact ⟨rfl,bS zb gb⟩
    case false =>
     have ho:nu=o:=by rw [<- ho'];cases nu <;> rfl
     subst ho
     clear ho'
     obtain ⟨r,hr9⟩:∃ r,zcJ ng ln ld (Rt.num ⟨ng,ln,ld⟩)=r:=⟨_,rfl⟩
     obtain ⟨d0,q0⟩:∃ b,decide ((zaO (val ln)).length<=40)=b:=⟨_,rfl⟩
     obtain ⟨d1,q1⟩:∃ b,decide ((zaO (val ld)).length<=40)=b:=⟨_,rfl⟩
     have ho:(r && d0 && d1)=nu:=by rw [<- hr9,<- q0,<- q1,<- HnE.out];exact Hnu.out
     have Hr:=Lib.hid hr9
     have e0:=ziM _ _ q0
     have e1:=ziM _ _ q1
     clear hr9 q0 q1 Hnu HnE
     subst ho
     cases r
     case false =>
      go_enter Tryz.func34,Tryz.ntmps34
      go_wp2_with fail
      obtain ⟨W0,az⟩:∃ W0,(w.alloc (.cells #[.int .i64 c.ins,.int .i64 c.rows,.int .i64 c.cols,.int .i64 c.regs,.slice a0 n0 c0] 24)).alloc (.cells #[.int .i64 1,.int .i64 to,.int .i64 xa,.int .i64 xb,.bool ng,.slice a1 n1 c1,.slice a2 n2 c2] 49)=W0:=⟨_,rfl⟩
      have am:=Lib.hid (show ∀ W',Below W0.heap.size W0 W'->(Bx5 W' w.heap.size (.int .i64 c.ins) (.int .i64 c.rows) (.int .i64 c.cols) (.int .i64 c.regs) (.slice a0 n0 c0)/\Bx7 W' (w.heap.size+1) (.int .i64 1) (.int .i64 to) (.int .i64 xa) (.int .i64 xb) (.bool ng) (.slice a1 n1 c1) (.slice a2 n2 c2)) from fun W' hb => by
        refine ⟨bx5 hb ?_ ?_ ?_ ?_ ?_ ?_ ?_ ?_ ?_ ?_,bx7 hb ?_ ?_ ?_ ?_ ?_ ?_ ?_ ?_ ?_ ?_ ?_ ?_ ?_ ?_⟩
        all_goals first|assumption|(rw [<- az];simp [go_sem]))
      have zb:Below w.heap.size w W0:=by rw [<- az];exact bS (bN _ _) (bN _ _)
      rw [az]
      clear az
      have i0:=hc.to zb
      have i1:=hx.to zb
      have i2:=hu.to zb
      have gb:Below W0.heap.size W0 W0:=Below.refl _ _
      obtain ⟨⟨z0,ac,ae,af,aw,ay,ag,ah,ai,aB,aC⟩,⟨z1,ak,al,au,aR,aS,aX,aY,ap,aq,aA,aT,aU,aZ,a7⟩⟩:=am.out _ gb
      go_wp2_with fail
      refine (zh _ (0) _ Hk.out).mono ?_
      rintro e w1 ⟨rfl,rfl⟩
      go_wp2_with fail
      refine (zg _ L xa _ (i2.to gb) HL.out _ Hpa.out).mono ?_
      rintro e w2 ⟨rfl,rfl⟩
      go_wp2_with fail
      refine (zg _ L xb _ (i2.to gb) HL.out _ Hpb.out).mono ?_
      rintro e w3 ⟨rfl,rfl⟩
      go_wp2_with fail
      refine (zdC ng _ _ ln ld _ ((i1.to gb)).1 false Hr.out).mono ?_
      clear ac ag ae ah af ai aw aB ay aC ak ap al aq au aA aR aT aS aU aX aZ aY a7
      rintro e w4 ⟨rfl,cG⟩
      replace gb:=bS gb cG
      obtain ⟨⟨z0,ac,ae,af,aw,ay,ag,ah,ai,aB,aC⟩,⟨z1,ak,al,au,aR,aS,aX,aY,ap,aq,aA,aT,aU,aZ,a7⟩⟩:=am.out _ gb
      go_wp2_with fail
      go_ret
      exact ⟨rfl,bS zb gb⟩
     case true =>
      cases d0
      case false =>
       go_enter Tryz.func34,Tryz.ntmps34
       go_wp2_with fail
       obtain ⟨W0,az⟩:∃ W0,(w.alloc (.cells #[.int .i64 c.ins,.int .i64 c.rows,.int .i64 c.cols,.int .i64 c.regs,.slice a0 n0 c0] 24)).alloc (.cells #[.int .i64 1,.int .i64 to,.int .i64 xa,.int .i64 xb,.bool ng,.slice a1 n1 c1,.slice a2 n2 c2] 49)=W0:=⟨_,rfl⟩
       have am:=Lib.hid (show ∀ W',Below W0.heap.size W0 W'->(Bx5 W' w.heap.size (.int .i64 c.ins) (.int .i64 c.rows) (.int .i64 c.cols) (.int .i64 c.regs) (.slice a0 n0 c0)/\Bx7 W' (w.heap.size+1) (.int .i64 1) (.int .i64 to) (.int .i64 xa) (.int .i64 xb) (.bool ng) (.slice a1 n1 c1) (.slice a2 n2 c2)) from fun W' hb => by
         refine ⟨bx5 hb ?_ ?_ ?_ ?_ ?_ ?_ ?_ ?_ ?_ ?_,bx7 hb ?_ ?_ ?_ ?_ ?_ ?_ ?_ ?_ ?_ ?_ ?_ ?_ ?_ ?_⟩
         all_goals first|assumption|(rw [<- az];simp [go_sem]))
       have zb:Below w.heap.size w W0:=by rw [<- az];exact bS (bN _ _) (bN _ _)
       rw [az]
       clear az
       have i0:=hc.to zb
       have i1:=hx.to zb
       have i2:=hu.to zb
       have gb:Below W0.heap.size W0 W0:=Below.refl _ _
       obtain ⟨⟨z0,ac,ae,af,aw,ay,ag,ah,ai,aB,aC⟩,⟨z1,ak,al,au,aR,aS,aX,aY,ap,aq,aA,aT,aU,aZ,a7⟩⟩:=am.out _ gb
       go_wp2_with fail
       refine (zh _ (0) _ Hk.out).mono ?_
       rintro e w1 ⟨rfl,rfl⟩
       go_wp2_with fail
       refine (zg _ L xa _ (i2.to gb) HL.out _ Hpa.out).mono ?_
       rintro e w2 ⟨rfl,rfl⟩
       go_wp2_with fail
       refine (zg _ L xb _ (i2.to gb) HL.out _ Hpb.out).mono ?_
       rintro e w3 ⟨rfl,rfl⟩
       go_wp2_with fail
       refine (zdC ng _ _ ln ld _ ((i1.to gb)).1 true Hr.out).mono ?_
       clear ac ag ae ah af ai aw aB ay aC ak ap al aq au aA aR aT aS aU aX aZ aY a7
       rintro e w4 ⟨rfl,cG⟩
       replace gb:=bS gb cG
       obtain ⟨⟨z0,ac,ae,af,aw,ay,ag,ah,ai,aB,aC⟩,⟨z1,ak,al,au,aR,aS,aX,aY,ap,aq,aA,aT,aU,aZ,a7⟩⟩:=am.out _ gb
       go_wp2_with fail
       refine (zdD _ ln _ ((i1.to gb)).1.1 (by omega)).mono ?_
       clear ac ag ae ah af ai aw aB ay aC ak ap al aq au aA aR aT aS aU aX aZ aY a7
       rintro e w5 ⟨rfl,cK⟩
       replace gb:=bS gb cK
       obtain ⟨⟨z0,ac,ae,af,aw,ay,ag,ah,ai,aB,aC⟩,⟨z1,ak,al,au,aR,aS,aX,aY,ap,aq,aA,aT,aU,aZ,a7⟩⟩:=am.out _ gb
       go_wp2_with fail
       go_ret
       exact ⟨rfl,bS zb gb⟩
      case true =>
       go_enter Tryz.func34,Tryz.ntmps34
       go_wp2_with fail
       obtain ⟨W0,az⟩:∃ W0,(w.alloc (.cells #[.int .i64 c.ins,.int .i64 c.rows,.int .i64 c.cols,.int .i64 c.regs,.slice a0 n0 c0] 24)).alloc (.cells #[.int .i64 1,.int .i64 to,.int .i64 xa,.int .i64 xb,.bool ng,.slice a1 n1 c1,.slice a2 n2 c2] 49)=W0:=⟨_,rfl⟩
       have am:=Lib.hid (show ∀ W',Below W0.heap.size W0 W'->(Bx5 W' w.heap.size (.int .i64 c.ins) (.int .i64 c.rows) (.int .i64 c.cols) (.int .i64 c.regs) (.slice a0 n0 c0)/\Bx7 W' (w.heap.size+1) (.int .i64 1) (.int .i64 to) (.int .i64 xa) (.int .i64 xb) (.bool ng) (.slice a1 n1 c1) (.slice a2 n2 c2)) from fun W' hb => by
         refine ⟨bx5 hb ?_ ?_ ?_ ?_ ?_ ?_ ?_ ?_ ?_ ?_,bx7 hb ?_ ?_ ?_ ?_ ?_ ?_ ?_ ?_ ?_ ?_ ?_ ?_ ?_ ?_⟩
         all_goals first|assumption|(rw [<- az];simp [go_sem]))
       have zb:Below w.heap.size w W0:=by rw [<- az];exact bS (bN _ _) (bN _ _)
       rw [az]
       clear az
       have i0:=hc.to zb
       have i1:=hx.to zb
       have i2:=hu.to zb
       have gb:Below W0.heap.size W0 W0:=Below.refl _ _
       obtain ⟨⟨z0,ac,ae,af,aw,ay,ag,ah,ai,aB,aC⟩,⟨z1,ak,al,au,aR,aS,aX,aY,ap,aq,aA,aT,aU,aZ,a7⟩⟩:=am.out _ gb
       go_wp2_with fail
       refine (zh _ (0) _ Hk.out).mono ?_
       rintro e w1 ⟨rfl,rfl⟩
       go_wp2_with fail
       refine (zg _ L xa _ (i2.to gb) HL.out _ Hpa.out).mono ?_
       rintro e w2 ⟨rfl,rfl⟩
       go_wp2_with fail
       refine (zg _ L xb _ (i2.to gb) HL.out _ Hpb.out).mono ?_
       rintro e w3 ⟨rfl,rfl⟩
       go_wp2_with fail
       refine (zdC ng _ _ ln ld _ ((i1.to gb)).1 true Hr.out).mono ?_
       clear ac ag ae ah af ai aw aB ay aC ak ap al aq au aA aR aT aS aU aX aZ aY a7
       rintro e w4 ⟨rfl,cG⟩
       replace gb:=bS gb cG
       obtain ⟨⟨z0,ac,ae,af,aw,ay,ag,ah,ai,aB,aC⟩,⟨z1,ak,al,au,aR,aS,aX,aY,ap,aq,aA,aT,aU,aZ,a7⟩⟩:=am.out _ gb
       go_wp2_with fail
       refine (zdD _ ln _ ((i1.to gb)).1.1 (by omega)).mono ?_
       clear ac ag ae ah af ai aw aB ay aC ak ap al aq au aA aR aT aS aU aX aZ aY a7
       rintro e w5 ⟨rfl,cK⟩
       replace gb:=bS gb cK
       obtain ⟨⟨z0,ac,ae,af,aw,ay,ag,ah,ai,aB,aC⟩,⟨z1,ak,al,au,aR,aS,aX,aY,ap,aq,aA,aT,aU,aZ,a7⟩⟩:=am.out _ gb
       go_wp2_with fail
       refine (zdD _ ld _ ((i1.to gb)).1.2.1 (by omega)).mono ?_
       clear ac ag ae ah af ai aw aB ay aC ak ap al aq au aA aR aT aS aU aX aZ aY a7
       rintro e w6 ⟨rfl,eW⟩
       replace gb:=bS gb eW
       obtain ⟨⟨z0,ac,ae,af,aw,ay,ag,ah,ai,aB,aC⟩,⟨z1,ak,al,au,aR,aS,aX,aY,ap,aq,aA,aT,aU,aZ,a7⟩⟩:=am.out _ gb
       go_wp2_with fail
       go_ret
       exact ⟨rfl,bS zb gb⟩

theorem zen (c:Cd) (v:Value) (op to xa xb:Int) (ng:Bool) (vn vd:Value) (ln ld:List Nat) (u:Value) (L:List Int) (w:World) (hc:IsC w c v) (hx:IsX w ⟨op,to,xa,xb,⟨ng,ln,ld⟩⟩ vn vd) (hu:RdI w u L) (hL:L.length<=100000) (hr:1<=c.rows/\c.rows<=40) (hcl:1<=c.cols/\c.cols<=40) (h1:zf op=2) (o:Bool) (ho:zu c L ⟨op,to,xa,xb,⟨ng,ln,ld⟩⟩=o) :
  Calls Tryz.prog 34 #[aggC c v,.agg #[.int .i64 op,.int .i64 to,.int .i64 xa,.int .i64 xb,.bool ng,vn,vd],u] w (fun e w' => e=.returned (.bool o)/\Below w.heap.size w w'):=by
 have no0:op≠0:=fun e => by rw [e] at h1;exact absurd h1 (by decide)
 have t0:(op == 0)=false:=by simp;exact no0
 have no1:op≠1:=fun e => by rw [e] at h1;exact absurd h1 (by decide)
 have t1:(op == 1)=false:=by simp;exact no1
 have no6:op≠6:=fun e => by rw [e] at h1;exact absurd h1 (by decide)
 have t6:(op == 6)=false:=by simp;exact no6
 have no7:op≠7:=fun e => by rw [e] at h1;exact absurd h1 (by decide)
 have t7:(op == 7)=false:=by simp;exact no7
 have no10:op≠10:=fun e => by rw [e] at h1;exact absurd h1 (by decide)
 have t10:(op == 10)=false:=by simp;exact no10
 have t1':(op != 1)=true:=by simp;exact no1
 have hk:zf op=2:=h1
 have hk0:0<=zf op:=by rw [hk];decide
 have pb9:=zU hr hcl
 have HM:IntKind.i64.wrap (c.rows*c.cols)=c.rows*c.cols:=IntWalk.i64_in _ (by omega)
 obtain ⟨pa',tpa'⟩:∃ b,(!decide (xa ∈ L))=b:=⟨_,rfl⟩
 obtain ⟨pb',tpb'⟩:∃ b,(!decide (xb ∈ L))=b:=⟨_,rfl⟩
 obtain ⟨u1,tu1⟩:∃ b,decide (to<0)=b:=⟨_,rfl⟩
 obtain ⟨u2,tu2⟩:∃ b,decide (c.regs<=to)=b:=⟨_,rfl⟩
 have eA:aOk c L ⟨op,to,xa,xb,⟨ng,ln,ld⟩⟩=(!pa'):=(zcM hk0 no0).trans (show (if decide (1<=zf op)=true then decide (xa ∈ L) else decide (xa=0))=(!pa') by rw [hk,if_pos (by decide),<- tpa',Bool.not_not])
 have eB:bOk L ⟨op,to,xa,xb,⟨ng,ln,ld⟩⟩=(!pb'):=(zcr no7).trans (show (if decide (zf op=2)=true then decide (xb ∈ L) else decide (xb=0))=(!pb') by rw [hk,if_pos (by decide),<- tpb',Bool.not_not])
 have eM:zK c ⟨op,to,xa,xb,⟨ng,ln,ld⟩⟩=c.regs:=if_neg no10
 rw [zcB (x:=⟨op,to,xa,xb,⟨ng,ln,ld⟩⟩) hk0,eA,eB,eM] at ho
 obtain ⟨nu,hnu⟩:∃ b,zaE ⟨op,to,xa,xb,⟨ng,ln,ld⟩⟩=b:=⟨_,rfl⟩
 have ho':((!pa') && (!pb') && (!u1 && !u2) && nu)=o:=by rw [<- ho,hnu,<- tu1,<- tu2,zbV,zcR]
 have Hnu:=Lib.hid hnu
 have HL:=Lib.hid hL
 have Hk:=Lib.hid hk
 obtain ⟨pa,hpa⟩:∃ b,decide (xa ∈ L)=b:=⟨_,rfl⟩
 obtain ⟨pb,hpb⟩:∃ b,decide (xb ∈ L)=b:=⟨_,rfl⟩
 have Hpa:=Lib.hid hpa
 have Hpb:=Lib.hid hpb
 have wpa:(!pa)=pa':=by rw [<- hpa,tpa']
 have wpb:(!pb)=pb':=by rw [<- hpb,tpb']
 have hn1:ln.length<=1000:=hx.1.2.2.2.1
 have hd1:ld.length<=1000:=hx.1.2.2.2.2
 clear ho hnu hpa hpb eA eB eM hk hk0 pb9 hL tpa' tpb' no0 no6 no7 no10 h1
 obtain ⟨a0,n0,c0,rfl,H0,hm0⟩:=hc.1.open
 obtain ⟨a1,n1,c1,rfl,H1,hm1⟩:=hx.1.1.open
 obtain ⟨a2,n2,c2,rfl,H2,hm2⟩:=hx.1.2.1.open
 cases pa'
 case true =>
  have ho:o=false:=by rw [<- ho'];simp
  subst ho
  clear ho'
  obtain rfl:pa=false:=by simpa using wpa
  go_enter Tryz.func34,Tryz.ntmps34
  go_wp2_with fail
  obtain ⟨W0,az⟩:∃ W0,(w.alloc (.cells #[.int .i64 c.ins,.int .i64 c.rows,.int .i64 c.cols,.int .i64 c.regs,.slice a0 n0 c0] 24)).alloc (.cells #[.int .i64 op,.int .i64 to,.int .i64 xa,.int .i64 xb,.bool ng,.slice a1 n1 c1,.slice a2 n2 c2] 49)=W0:=⟨_,rfl⟩
  have am:=Lib.hid (show ∀ W',Below W0.heap.size W0 W'->(Bx5 W' w.heap.size (.int .i64 c.ins) (.int .i64 c.rows) (.int .i64 c.cols) (.int .i64 c.regs) (.slice a0 n0 c0)/\Bx7 W' (w.heap.size+1) (.int .i64 op) (.int .i64 to) (.int .i64 xa) (.int .i64 xb) (.bool ng) (.slice a1 n1 c1) (.slice a2 n2 c2)) from fun W' hb => by
    refine ⟨bx5 hb ?_ ?_ ?_ ?_ ?_ ?_ ?_ ?_ ?_ ?_,bx7 hb ?_ ?_ ?_ ?_ ?_ ?_ ?_ ?_ ?_ ?_ ?_ ?_ ?_ ?_⟩
    all_goals first|assumption|(rw [<- az];simp [go_sem]))
  have zb:Below w.heap.size w W0:=by rw [<- az];exact bS (bN _ _) (bN _ _)
  rw [az]
  clear az
  have i0:=hc.to zb
  have i1:=hx.to zb
  have i2:=hu.to zb
  have gb:Below W0.heap.size W0 W0:=Below.refl _ _
  obtain ⟨⟨z0,ac,ae,af,aw,ay,ag,ah,ai,aB,aC⟩,⟨z1,ak,al,au,aR,aS,aX,aY,ap,aq,aA,aT,aU,aZ,a7⟩⟩:=am.out _ gb
  go_wp2_with fail
  refine (zh _ (2) _ Hk.out).mono ?_
  rintro e w1 ⟨rfl,rfl⟩
  go_wp2_with fail
  refine (zg _ L xa _ (i2.to gb) HL.out _ Hpa.out).mono ?_
  rintro e w2 ⟨rfl,rfl⟩
  go_wp2_with fail
  refine (zg _ L xb _ (i2.to gb) HL.out _ Hpb.out).mono ?_
  rintro e w3 ⟨rfl,rfl⟩
  go_wp2_with fail
  go_ret
  exact ⟨rfl,bS zb gb⟩
 case false =>
  obtain rfl:pa=true:=by simpa using wpa
  cases pb'
  case true =>
   have ho:o=false:=by rw [<- ho'];simp
   subst ho
   clear ho'
   obtain rfl:pb=false:=by simpa using wpb
   go_enter Tryz.func34,Tryz.ntmps34
   go_wp2_with fail
   obtain ⟨W0,az⟩:∃ W0,(w.alloc (.cells #[.int .i64 c.ins,.int .i64 c.rows,.int .i64 c.cols,.int .i64 c.regs,.slice a0 n0 c0] 24)).alloc (.cells #[.int .i64 op,.int .i64 to,.int .i64 xa,.int .i64 xb,.bool ng,.slice a1 n1 c1,.slice a2 n2 c2] 49)=W0:=⟨_,rfl⟩
   have am:=Lib.hid (show ∀ W',Below W0.heap.size W0 W'->(Bx5 W' w.heap.size (.int .i64 c.ins) (.int .i64 c.rows) (.int .i64 c.cols) (.int .i64 c.regs) (.slice a0 n0 c0)/\Bx7 W' (w.heap.size+1) (.int .i64 op) (.int .i64 to) (.int .i64 xa) (.int .i64 xb) (.bool ng) (.slice a1 n1 c1) (.slice a2 n2 c2)) from fun W' hb => by
     refine ⟨bx5 hb ?_ ?_ ?_ ?_ ?_ ?_ ?_ ?_ ?_ ?_,bx7 hb ?_ ?_ ?_ ?_ ?_ ?_ ?_ ?_ ?_ ?_ ?_ ?_ ?_ ?_⟩
     all_goals first|assumption|(rw [<- az];simp [go_sem]))
   have zb:Below w.heap.size w W0:=by rw [<- az];exact bS (bN _ _) (bN _ _)
   rw [az]
   clear az
   have i0:=hc.to zb
   have i1:=hx.to zb
   have i2:=hu.to zb
   have gb:Below W0.heap.size W0 W0:=Below.refl _ _
   obtain ⟨⟨z0,ac,ae,af,aw,ay,ag,ah,ai,aB,aC⟩,⟨z1,ak,al,au,aR,aS,aX,aY,ap,aq,aA,aT,aU,aZ,a7⟩⟩:=am.out _ gb
   go_wp2_with fail
   refine (zh _ (2) _ Hk.out).mono ?_
   rintro e w1 ⟨rfl,rfl⟩
   go_wp2_with fail
   refine (zg _ L xa _ (i2.to gb) HL.out _ Hpa.out).mono ?_
   rintro e w2 ⟨rfl,rfl⟩
   go_wp2_with fail
   refine (zg _ L xb _ (i2.to gb) HL.out _ Hpb.out).mono ?_
   rintro e w3 ⟨rfl,rfl⟩
   go_wp2_with fail
   go_ret
   exact ⟨rfl,bS zb gb⟩
  case false =>
   obtain rfl:pb=true:=by simpa using wpb
   cases u1
   case true =>
    have ho:o=false:=by rw [<- ho'];simp
    subst ho
    clear ho'
    go_enter Tryz.func34,Tryz.ntmps34
    go_wp2_with fail
    obtain ⟨W0,az⟩:∃ W0,(w.alloc (.cells #[.int .i64 c.ins,.int .i64 c.rows,.int .i64 c.cols,.int .i64 c.regs,.slice a0 n0 c0] 24)).alloc (.cells #[.int .i64 op,.int .i64 to,.int .i64 xa,.int .i64 xb,.bool ng,.slice a1 n1 c1,.slice a2 n2 c2] 49)=W0:=⟨_,rfl⟩
    have am:=Lib.hid (show ∀ W',Below W0.heap.size W0 W'->(Bx5 W' w.heap.size (.int .i64 c.ins) (.int .i64 c.rows) (.int .i64 c.cols) (.int .i64 c.regs) (.slice a0 n0 c0)/\Bx7 W' (w.heap.size+1) (.int .i64 op) (.int .i64 to) (.int .i64 xa) (.int .i64 xb) (.bool ng) (.slice a1 n1 c1) (.slice a2 n2 c2)) from fun W' hb => by
      refine ⟨bx5 hb ?_ ?_ ?_ ?_ ?_ ?_ ?_ ?_ ?_ ?_,bx7 hb ?_ ?_ ?_ ?_ ?_ ?_ ?_ ?_ ?_ ?_ ?_ ?_ ?_ ?_⟩
      all_goals first|assumption|(rw [<- az];simp [go_sem]))
    have zb:Below w.heap.size w W0:=by rw [<- az];exact bS (bN _ _) (bN _ _)
    rw [az]
    clear az
    have i0:=hc.to zb
    have i1:=hx.to zb
    have i2:=hu.to zb
    have gb:Below W0.heap.size W0 W0:=Below.refl _ _
    obtain ⟨⟨z0,ac,ae,af,aw,ay,ag,ah,ai,aB,aC⟩,⟨z1,ak,al,au,aR,aS,aX,aY,ap,aq,aA,aT,aU,aZ,a7⟩⟩:=am.out _ gb
    go_wp2_with fail
    refine (zh _ (2) _ Hk.out).mono ?_
    rintro e w1 ⟨rfl,rfl⟩
    go_wp2_with fail
    refine (zg _ L xa _ (i2.to gb) HL.out _ Hpa.out).mono ?_
    rintro e w2 ⟨rfl,rfl⟩
    go_wp2_with fail
    refine (zg _ L xb _ (i2.to gb) HL.out _ Hpb.out).mono ?_
    rintro e w3 ⟨rfl,rfl⟩
    go_wp2_with fail
    go_ret
    exact ⟨rfl,bS zb gb⟩
   case false =>
    cases u2
    case true =>
     have ho:o=false:=by rw [<- ho'];simp
     subst ho
     clear ho'
     go_enter Tryz.func34,Tryz.ntmps34
     go_wp2_with fail
     obtain ⟨W0,az⟩:∃ W0,(w.alloc (.cells #[.int .i64 c.ins,.int .i64 c.rows,.int .i64 c.cols,.int .i64 c.regs,.slice a0 n0 c0] 24)).alloc (.cells #[.int .i64 op,.int .i64 to,.int .i64 xa,.int .i64 xb,.bool ng,.slice a1 n1 c1,.slice a2 n2 c2] 49)=W0:=⟨_,rfl⟩
     have am:=Lib.hid (show ∀ W',Below W0.heap.size W0 W'->(Bx5 W' w.heap.size (.int .i64 c.ins) (.int .i64 c.rows) (.int .i64 c.cols) (.int .i64 c.regs) (.slice a0 n0 c0)/\Bx7 W' (w.heap.size+1) (.int .i64 op) (.int .i64 to) (.int .i64 xa) (.int .i64 xb) (.bool ng) (.slice a1 n1 c1) (.slice a2 n2 c2)) from fun W' hb => by
       refine ⟨bx5 hb ?_ ?_ ?_ ?_ ?_ ?_ ?_ ?_ ?_ ?_,bx7 hb ?_ ?_ ?_ ?_ ?_ ?_ ?_ ?_ ?_ ?_ ?_ ?_ ?_ ?_⟩
       all_goals first|assumption|(rw [<- az];simp [go_sem]))
     have zb:Below w.heap.size w W0:=by rw [<- az];exact bS (bN _ _) (bN _ _)
     rw [az]
     clear az
     have i0:=hc.to zb
     have i1:=hx.to zb
     have i2:=hu.to zb
     have gb:Below W0.heap.size W0 W0:=Below.refl _ _
     obtain ⟨⟨z0,ac,ae,af,aw,ay,ag,ah,ai,aB,aC⟩,⟨z1,ak,al,au,aR,aS,aX,aY,ap,aq,aA,aT,aU,aZ,a7⟩⟩:=am.out _ gb
     go_wp2_with fail
     refine (zh _ (2) _ Hk.out).mono ?_
     rintro e w1 ⟨rfl,rfl⟩
     go_wp2_with fail
     refine (zg _ L xa _ (i2.to gb) HL.out _ Hpa.out).mono ?_
     rintro e w2 ⟨rfl,rfl⟩
     go_wp2_with fail
     refine (zg _ L xb _ (i2.to gb) HL.out _ Hpb.out).mono ?_
     rintro e w3 ⟨rfl,rfl⟩
     go_wp2_with fail
     go_ret
     exact ⟨rfl,bS zb gb⟩
    case false =>
     have ho:nu=o:=by rw [<- ho'];cases nu <;> rfl
     subst ho
     clear ho'
     have Ho:=Lib.hid (show (ng == false && decide (ln=[]) && decide (ld=[]))=nu by rw [<- zcw (op:=op) (to:=to) (xa:=xa) (xb:=xb) no1];exact Hnu.out)
     go_enter Tryz.func34,Tryz.ntmps34
     go_wp2_with fail
     obtain ⟨W0,az⟩:∃ W0,(w.alloc (.cells #[.int .i64 c.ins,.int .i64 c.rows,.int .i64 c.cols,.int .i64 c.regs,.slice a0 n0 c0] 24)).alloc (.cells #[.int .i64 op,.int .i64 to,.int .i64 xa,.int .i64 xb,.bool ng,.slice a1 n1 c1,.slice a2 n2 c2] 49)=W0:=⟨_,rfl⟩
     have am:=Lib.hid (show ∀ W',Below W0.heap.size W0 W'->(Bx5 W' w.heap.size (.int .i64 c.ins) (.int .i64 c.rows) (.int .i64 c.cols) (.int .i64 c.regs) (.slice a0 n0 c0)/\Bx7 W' (w.heap.size+1) (.int .i64 op) (.int .i64 to) (.int .i64 xa) (.int .i64 xb) (.bool ng) (.slice a1 n1 c1) (.slice a2 n2 c2)) from fun W' hb => by
       refine ⟨bx5 hb ?_ ?_ ?_ ?_ ?_ ?_ ?_ ?_ ?_ ?_,bx7 hb ?_ ?_ ?_ ?_ ?_ ?_ ?_ ?_ ?_ ?_ ?_ ?_ ?_ ?_⟩
       all_goals first|assumption|(rw [<- az];simp [go_sem]))
     have zb:Below w.heap.size w W0:=by rw [<- az];exact bS (bN _ _) (bN _ _)
     rw [az]
     clear az
     have i0:=hc.to zb
     have i1:=hx.to zb
     have i2:=hu.to zb
     have gb:Below W0.heap.size W0 W0:=Below.refl _ _
     obtain ⟨⟨z0,ac,ae,af,aw,ay,ag,ah,ai,aB,aC⟩,⟨z1,ak,al,au,aR,aS,aX,aY,ap,aq,aA,aT,aU,aZ,a7⟩⟩:=am.out _ gb
     go_wp2_with fail
     refine (zh _ (2) _ Hk.out).mono ?_
     rintro e w1 ⟨rfl,rfl⟩
     go_wp2_with fail
     refine (zg _ L xa _ (i2.to gb) HL.out _ Hpa.out).mono ?_
     rintro e w2 ⟨rfl,rfl⟩
     go_wp2_with fail
     refine (zg _ L xb _ (i2.to gb) HL.out _ Hpb.out).mono ?_
     rintro e w3 ⟨rfl,rfl⟩
     go_wp2_with fail
     refine (zbf ng _ _ ln ld false _ _ [] [] _ ((i1.to gb)).1.isF ⟨Rd.nil _,Rd.nil _⟩ _ Ho.out).mono ?_
     clear ac ag ae ah af ai aw aB ay aC ak ap al aq au aA aR aT aS aU aX aZ aY a7
     rintro e w4 ⟨rfl,cG⟩
     replace gb:=bS gb cG
     obtain ⟨⟨z0,ac,ae,af,aw,ay,ag,ah,ai,aB,aC⟩,⟨z1,ak,al,au,aR,aS,aX,aY,ap,aq,aA,aT,aU,aZ,a7⟩⟩:=am.out _ gb
     go_wp2_with fail
     go_ret
     exact ⟨rfl,bS zb gb⟩

theorem zev (c:Cd) (v:Value) (op to xa xb:Int) (ng:Bool) (vn vd:Value) (ln ld:List Nat) (u:Value) (L:List Int) (w:World) (hc:IsC w c v) (hx:IsX w ⟨op,to,xa,xb,⟨ng,ln,ld⟩⟩ vn vd) (hu:RdI w u L) (hL:L.length<=100000) (hr:1<=c.rows/\c.rows<=40) (hcl:1<=c.cols/\c.cols<=40) (h1:op=6) (o:Bool) (ho:zu c L ⟨op,to,xa,xb,⟨ng,ln,ld⟩⟩=o) :
  Calls Tryz.prog 34 #[aggC c v,.agg #[.int .i64 op,.int .i64 to,.int .i64 xa,.int .i64 xb,.bool ng,vn,vd],u] w (fun e w' => e=.returned (.bool o)/\Below w.heap.size w w'):=by
 have no0:op≠0:=by omega
 have t0:(op == 0)=false:=by simp;exact no0
 have no1:op≠1:=by omega
 have t1:(op == 1)=false:=by simp;exact no1
 have t6:(op == 6)=true:=by simp;exact h1
 have no7:op≠7:=by omega
 have t7:(op == 7)=false:=by simp;exact no7
 have no10:op≠10:=by omega
 have t10:(op == 10)=false:=by simp;exact no10
 have t1':(op != 1)=true:=by simp;exact no1
 have hk:zf op=1:=by rw [h1];decide
 have hk0:0<=zf op:=by rw [hk];decide
 have pb9:=zU hr hcl
 have HM:IntKind.i64.wrap (c.rows*c.cols)=c.rows*c.cols:=IntWalk.i64_in _ (by omega)
 obtain ⟨pa',tpa'⟩:∃ b,(!decide (xa ∈ L))=b:=⟨_,rfl⟩
 obtain ⟨yb,tyb⟩:∃ b,(xb != 0)=b:=⟨_,rfl⟩
 obtain ⟨u1,tu1⟩:∃ b,decide (to<0)=b:=⟨_,rfl⟩
 obtain ⟨u2,tu2⟩:∃ b,decide (c.regs<=to)=b:=⟨_,rfl⟩
 have eA:aOk c L ⟨op,to,xa,xb,⟨ng,ln,ld⟩⟩=(!pa'):=(zcM hk0 no0).trans (show (if decide (1<=zf op)=true then decide (xa ∈ L) else decide (xa=0))=(!pa') by rw [hk,if_pos (by decide),<- tpa',Bool.not_not])
 have eB:bOk L ⟨op,to,xa,xb,⟨ng,ln,ld⟩⟩=(!yb):=(zcr no7).trans (show (if decide (zf op=2)=true then decide (xb ∈ L) else decide (xb=0))=(!yb) by rw [hk,if_neg (by decide),<- zdg,tyb])
 have eM:zK c ⟨op,to,xa,xb,⟨ng,ln,ld⟩⟩=c.regs:=if_neg no10
 rw [zcB (x:=⟨op,to,xa,xb,⟨ng,ln,ld⟩⟩) hk0,eA,eB,eM] at ho
 obtain ⟨nu,hnu⟩:∃ b,zaE ⟨op,to,xa,xb,⟨ng,ln,ld⟩⟩=b:=⟨_,rfl⟩
 have ho':((!pa') && (!yb) && (!u1 && !u2) && nu)=o:=by rw [<- ho,hnu,<- tu1,<- tu2,zbV,zcR]
 have Hnu:=Lib.hid hnu
 have HL:=Lib.hid hL
 have Hk:=Lib.hid hk
 obtain ⟨pa,hpa⟩:∃ b,decide (xa ∈ L)=b:=⟨_,rfl⟩
 obtain ⟨pb,hpb⟩:∃ b,decide (xb ∈ L)=b:=⟨_,rfl⟩
 have Hpa:=Lib.hid hpa
 have Hpb:=Lib.hid hpb
 have wpa:(!pa)=pa':=by rw [<- hpa,tpa']
 have hn1:ln.length<=1000:=hx.1.2.2.2.1
 have hd1:ld.length<=1000:=hx.1.2.2.2.2
 clear ho hnu hpa hpb eA eB eM hk hk0 pb9 hL tpa'
 clear t0 t1 t6 t7 t10 t1' no1
 subst h1
 obtain ⟨a0,n0,c0,rfl,H0,hm0⟩:=hc.1.open
 obtain ⟨a1,n1,c1,rfl,H1,hm1⟩:=hx.1.1.open
 obtain ⟨a2,n2,c2,rfl,H2,hm2⟩:=hx.1.2.1.open
 cases pa'
 case true =>
  have ho:o=false:=by rw [<- ho'];simp
  subst ho
  clear ho'
  obtain rfl:pa=false:=by simpa using wpa
  go_enter Tryz.func34,Tryz.ntmps34
  go_wp2_with fail
  obtain ⟨W0,az⟩:∃ W0,(w.alloc (.cells #[.int .i64 c.ins,.int .i64 c.rows,.int .i64 c.cols,.int .i64 c.regs,.slice a0 n0 c0] 24)).alloc (.cells #[.int .i64 6,.int .i64 to,.int .i64 xa,.int .i64 xb,.bool ng,.slice a1 n1 c1,.slice a2 n2 c2] 49)=W0:=⟨_,rfl⟩
  have am:=Lib.hid (show ∀ W',Below W0.heap.size W0 W'->(Bx5 W' w.heap.size (.int .i64 c.ins) (.int .i64 c.rows) (.int .i64 c.cols) (.int .i64 c.regs) (.slice a0 n0 c0)/\Bx7 W' (w.heap.size+1) (.int .i64 6) (.int .i64 to) (.int .i64 xa) (.int .i64 xb) (.bool ng) (.slice a1 n1 c1) (.slice a2 n2 c2)) from fun W' hb => by
    refine ⟨bx5 hb ?_ ?_ ?_ ?_ ?_ ?_ ?_ ?_ ?_ ?_,bx7 hb ?_ ?_ ?_ ?_ ?_ ?_ ?_ ?_ ?_ ?_ ?_ ?_ ?_ ?_⟩
    all_goals first|assumption|(rw [<- az];simp [go_sem]))
  have zb:Below w.heap.size w W0:=by rw [<- az];exact bS (bN _ _) (bN _ _)
  rw [az]
  clear az
  have i0:=hc.to zb
  have i1:=hx.to zb
  have i2:=hu.to zb
  have gb:Below W0.heap.size W0 W0:=Below.refl _ _
  obtain ⟨⟨z0,ac,ae,af,aw,ay,ag,ah,ai,aB,aC⟩,⟨z1,ak,al,au,aR,aS,aX,aY,ap,aq,aA,aT,aU,aZ,a7⟩⟩:=am.out _ gb
  go_wp2_with fail
  refine (zh _ (1) _ Hk.out).mono ?_
  rintro e w1 ⟨rfl,rfl⟩
  go_wp2_with fail
  refine (zg _ L xa _ (i2.to gb) HL.out _ Hpa.out).mono ?_
  rintro e w2 ⟨rfl,rfl⟩
  go_wp2_with fail
  refine (zg _ L xb _ (i2.to gb) HL.out _ Hpb.out).mono ?_
  rintro e w3 ⟨rfl,rfl⟩
  go_wp2_with fail
  go_ret
  exact ⟨rfl,bS zb gb⟩
 case false =>
  obtain rfl:pa=true:=by simpa using wpa
  cases yb
  case true =>
   have ho:o=false:=by rw [<- ho'];simp
   subst ho
   clear ho'
   go_enter Tryz.func34,Tryz.ntmps34
   go_wp2_with fail
   obtain ⟨W0,az⟩:∃ W0,(w.alloc (.cells #[.int .i64 c.ins,.int .i64 c.rows,.int .i64 c.cols,.int .i64 c.regs,.slice a0 n0 c0] 24)).alloc (.cells #[.int .i64 6,.int .i64 to,.int .i64 xa,.int .i64 xb,.bool ng,.slice a1 n1 c1,.slice a2 n2 c2] 49)=W0:=⟨_,rfl⟩
   have am:=Lib.hid (show ∀ W',Below W0.heap.size W0 W'->(Bx5 W' w.heap.size (.int .i64 c.ins) (.int .i64 c.rows) (.int .i64 c.cols) (.int .i64 c.regs) (.slice a0 n0 c0)/\Bx7 W' (w.heap.size+1) (.int .i64 6) (.int .i64 to) (.int .i64 xa) (.int .i64 xb) (.bool ng) (.slice a1 n1 c1) (.slice a2 n2 c2)) from fun W' hb => by
     refine ⟨bx5 hb ?_ ?_ ?_ ?_ ?_ ?_ ?_ ?_ ?_ ?_,bx7 hb ?_ ?_ ?_ ?_ ?_ ?_ ?_ ?_ ?_ ?_ ?_ ?_ ?_ ?_⟩
     all_goals first|assumption|(rw [<- az];simp [go_sem]))
   have zb:Below w.heap.size w W0:=by rw [<- az];exact bS (bN _ _) (bN _ _)
   rw [az]
   clear az
   have i0:=hc.to zb
   have i1:=hx.to zb
   have i2:=hu.to zb
   have gb:Below W0.heap.size W0 W0:=Below.refl _ _
   obtain ⟨⟨z0,ac,ae,af,aw,ay,ag,ah,ai,aB,aC⟩,⟨z1,ak,al,au,aR,aS,aX,aY,ap,aq,aA,aT,aU,aZ,a7⟩⟩:=am.out _ gb
   go_wp2_with fail
   refine (zh _ (1) _ Hk.out).mono ?_
   rintro e w1 ⟨rfl,rfl⟩
   go_wp2_with fail
   refine (zg _ L xa _ (i2.to gb) HL.out _ Hpa.out).mono ?_
   rintro e w2 ⟨rfl,rfl⟩
   go_wp2_with fail
   refine (zg _ L xb _ (i2.to gb) HL.out _ Hpb.out).mono ?_
   rintro e w3 ⟨rfl,rfl⟩
   go_wp2_with fail
   go_ret
   exact ⟨rfl,bS zb gb⟩
  case false =>
   cases u1
   case true =>
    have ho:o=false:=by rw [<- ho'];simp
    subst ho
    clear ho'
    go_enter Tryz.func34,Tryz.ntmps34
    go_wp2_with fail
    obtain ⟨W0,az⟩:∃ W0,(w.alloc (.cells #[.int .i64 c.ins,.int .i64 c.rows,.int .i64 c.cols,.int .i64 c.regs,.slice a0 n0 c0] 24)).alloc (.cells #[.int .i64 6,.int .i64 to,.int .i64 xa,.int .i64 xb,.bool ng,.slice a1 n1 c1,.slice a2 n2 c2] 49)=W0:=⟨_,rfl⟩
    have am:=Lib.hid (show ∀ W',Below W0.heap.size W0 W'->(Bx5 W' w.heap.size (.int .i64 c.ins) (.int .i64 c.rows) (.int .i64 c.cols) (.int .i64 c.regs) (.slice a0 n0 c0)/\Bx7 W' (w.heap.size+1) (.int .i64 6) (.int .i64 to) (.int .i64 xa) (.int .i64 xb) (.bool ng) (.slice a1 n1 c1) (.slice a2 n2 c2)) from fun W' hb => by
      refine ⟨bx5 hb ?_ ?_ ?_ ?_ ?_ ?_ ?_ ?_ ?_ ?_,bx7 hb ?_ ?_ ?_ ?_ ?_ ?_ ?_ ?_ ?_ ?_ ?_ ?_ ?_ ?_⟩
      all_goals first|assumption|(rw [<- az];simp [go_sem]))
    have zb:Below w.heap.size w W0:=by rw [<- az];exact bS (bN _ _) (bN _ _)
    rw [az]
    clear az
    have i0:=hc.to zb
    have i1:=hx.to zb
    have i2:=hu.to zb
    have gb:Below W0.heap.size W0 W0:=Below.refl _ _
    obtain ⟨⟨z0,ac,ae,af,aw,ay,ag,ah,ai,aB,aC⟩,⟨z1,ak,al,au,aR,aS,aX,aY,ap,aq,aA,aT,aU,aZ,a7⟩⟩:=am.out _ gb
    go_wp2_with fail
    refine (zh _ (1) _ Hk.out).mono ?_
    rintro e w1 ⟨rfl,rfl⟩
    go_wp2_with fail
    refine (zg _ L xa _ (i2.to gb) HL.out _ Hpa.out).mono ?_
    rintro e w2 ⟨rfl,rfl⟩
    go_wp2_with fail
    refine (zg _ L xb _ (i2.to gb) HL.out _ Hpb.out).mono ?_
    rintro e w3 ⟨rfl,rfl⟩
    go_wp2_with fail
    go_ret
    exact ⟨rfl,bS zb gb⟩
   case false =>
    cases u2
    case true =>
     have ho:o=false:=by rw [<- ho'];simp
     subst ho
     clear ho'
     go_enter Tryz.func34,Tryz.ntmps34
     go_wp2_with fail
     obtain ⟨W0,az⟩:∃ W0,(w.alloc (.cells #[.int .i64 c.ins,.int .i64 c.rows,.int .i64 c.cols,.int .i64 c.regs,.slice a0 n0 c0] 24)).alloc (.cells #[.int .i64 6,.int .i64 to,.int .i64 xa,.int .i64 xb,.bool ng,.slice a1 n1 c1,.slice a2 n2 c2] 49)=W0:=⟨_,rfl⟩
     have am:=Lib.hid (show ∀ W',Below W0.heap.size W0 W'->(Bx5 W' w.heap.size (.int .i64 c.ins) (.int .i64 c.rows) (.int .i64 c.cols) (.int .i64 c.regs) (.slice a0 n0 c0)/\Bx7 W' (w.heap.size+1) (.int .i64 6) (.int .i64 to) (.int .i64 xa) (.int .i64 xb) (.bool ng) (.slice a1 n1 c1) (.slice a2 n2 c2)) from fun W' hb => by
       refine ⟨bx5 hb ?_ ?_ ?_ ?_ ?_ ?_ ?_ ?_ ?_ ?_,bx7 hb ?_ ?_ ?_ ?_ ?_ ?_ ?_ ?_ ?_ ?_ ?_ ?_ ?_ ?_⟩
       all_goals first|assumption|(rw [<- az];simp [go_sem]))
     have zb:Below w.heap.size w W0:=by rw [<- az];exact bS (bN _ _) (bN _ _)
     rw [az]
     clear az
     have i0:=hc.to zb
     have i1:=hx.to zb
     have i2:=hu.to zb
     have gb:Below W0.heap.size W0 W0:=Below.refl _ _
     obtain ⟨⟨z0,ac,ae,af,aw,ay,ag,ah,ai,aB,aC⟩,⟨z1,ak,al,au,aR,aS,aX,aY,ap,aq,aA,aT,aU,aZ,a7⟩⟩:=am.out _ gb
     go_wp2_with fail
     refine (zh _ (1) _ Hk.out).mono ?_
     rintro e w1 ⟨rfl,rfl⟩
     go_wp2_with fail
     refine (zg _ L xa _ (i2.to gb) HL.out _ Hpa.out).mono ?_
     rintro e w2 ⟨rfl,rfl⟩
     go_wp2_with fail
     refine (zg _ L xb _ (i2.to gb) HL.out _ Hpb.out).mono ?_
     rintro e w3 ⟨rfl,rfl⟩
     go_wp2_with fail
     go_ret
     exact ⟨rfl,bS zb gb⟩
    case false =>
     have ho:nu=o:=by rw [<- ho'];cases nu <;> rfl
     subst ho
     clear ho'
     have Ho:=Lib.hid (show (ng == false && decide (ln=[]) && decide (ld=[]))=nu by rw [<- zcw (op:=6) (to:=to) (xa:=xa) (xb:=xb) (by decide)];exact Hnu.out)
     go_enter Tryz.func34,Tryz.ntmps34
     go_wp2_with fail
     obtain ⟨W0,az⟩:∃ W0,(w.alloc (.cells #[.int .i64 c.ins,.int .i64 c.rows,.int .i64 c.cols,.int .i64 c.regs,.slice a0 n0 c0] 24)).alloc (.cells #[.int .i64 6,.int .i64 to,.int .i64 xa,.int .i64 xb,.bool ng,.slice a1 n1 c1,.slice a2 n2 c2] 49)=W0:=⟨_,rfl⟩
     have am:=Lib.hid (show ∀ W',Below W0.heap.size W0 W'->(Bx5 W' w.heap.size (.int .i64 c.ins) (.int .i64 c.rows) (.int .i64 c.cols) (.int .i64 c.regs) (.slice a0 n0 c0)/\Bx7 W' (w.heap.size+1) (.int .i64 6) (.int .i64 to) (.int .i64 xa) (.int .i64 xb) (.bool ng) (.slice a1 n1 c1) (.slice a2 n2 c2)) from fun W' hb => by
       refine ⟨bx5 hb ?_ ?_ ?_ ?_ ?_ ?_ ?_ ?_ ?_ ?_,bx7 hb ?_ ?_ ?_ ?_ ?_ ?_ ?_ ?_ ?_ ?_ ?_ ?_ ?_ ?_⟩
       all_goals first|assumption|(rw [<- az];simp [go_sem]))
     have zb:Below w.heap.size w W0:=by rw [<- az];exact bS (bN _ _) (bN _ _)
     rw [az]
     clear az
     have i0:=hc.to zb
     have i1:=hx.to zb
     have i2:=hu.to zb
     have gb:Below W0.heap.size W0 W0:=Below.refl _ _
     obtain ⟨⟨z0,ac,ae,af,aw,ay,ag,ah,ai,aB,aC⟩,⟨z1,ak,al,au,aR,aS,aX,aY,ap,aq,aA,aT,aU,aZ,a7⟩⟩:=am.out _ gb
     go_wp2_with fail
     refine (zh _ (1) _ Hk.out).mono ?_
     rintro e w1 ⟨rfl,rfl⟩
     go_wp2_with fail
     refine (zg _ L xa _ (i2.to gb) HL.out _ Hpa.out).mono ?_
     rintro e w2 ⟨rfl,rfl⟩
     go_wp2_with fail
     refine (zg _ L xb _ (i2.to gb) HL.out _ Hpb.out).mono ?_
     rintro e w3 ⟨rfl,rfl⟩
     go_wp2_with fail
     refine (zbf ng _ _ ln ld false _ _ [] [] _ ((i1.to gb)).1.isF ⟨Rd.nil _,Rd.nil _⟩ _ Ho.out).mono ?_
     clear ac ag ae ah af ai aw aB ay aC ak ap al aq au aA aR aT aS aU aX aZ aY a7
     rintro e w4 ⟨rfl,cG⟩
     replace gb:=bS gb cG
     obtain ⟨⟨z0,ac,ae,af,aw,ay,ag,ah,ai,aB,aC⟩,⟨z1,ak,al,au,aR,aS,aX,aY,ap,aq,aA,aT,aU,aZ,a7⟩⟩:=am.out _ gb
     go_wp2_with fail
     go_ret
     exact ⟨rfl,bS zb gb⟩

theorem zeM (c:Cd) (v:Value) (op to xa xb:Int) (ng:Bool) (vn vd:Value) (ln ld:List Nat) (u:Value) (L:List Int) (w:World) (hc:IsC w c v) (hx:IsX w ⟨op,to,xa,xb,⟨ng,ln,ld⟩⟩ vn vd) (hu:RdI w u L) (hL:L.length<=100000) (hr:1<=c.rows/\c.rows<=40) (hcl:1<=c.cols/\c.cols<=40) (h1:op=7) (o:Bool) (ho:zu c L ⟨op,to,xa,xb,⟨ng,ln,ld⟩⟩=o) :
  Calls Tryz.prog 34 #[aggC c v,.agg #[.int .i64 op,.int .i64 to,.int .i64 xa,.int .i64 xb,.bool ng,vn,vd],u] w (fun e w' => e=.returned (.bool o)/\Below w.heap.size w w'):=by
 have no0:op≠0:=by omega
 have t0:(op == 0)=false:=by simp;exact no0
 have no1:op≠1:=by omega
 have t1:(op == 1)=false:=by simp;exact no1
 have no6:op≠6:=by omega
 have t6:(op == 6)=false:=by simp;exact no6
 have t7:(op == 7)=true:=by simp;exact h1
 have no10:op≠10:=by omega
 have t10:(op == 10)=false:=by simp;exact no10
 have t1':(op != 1)=true:=by simp;exact no1
 have hk:zf op=1:=by rw [h1];decide
 have hk0:0<=zf op:=by rw [hk];decide
 have pb9:=zU hr hcl
 have HM:IntKind.i64.wrap (c.rows*c.cols)=c.rows*c.cols:=IntWalk.i64_in _ (by omega)
 obtain ⟨pa',tpa'⟩:∃ b,(!decide (xa ∈ L))=b:=⟨_,rfl⟩
 obtain ⟨r1,tr1⟩:∃ b,decide (xb < -21)=b:=⟨_,rfl⟩
 obtain ⟨r2,tr2⟩:∃ b,decide (21<xb)=b:=⟨_,rfl⟩
 obtain ⟨u1,tu1⟩:∃ b,decide (to<0)=b:=⟨_,rfl⟩
 obtain ⟨u2,tu2⟩:∃ b,decide (c.regs<=to)=b:=⟨_,rfl⟩
 have eA:aOk c L ⟨op,to,xa,xb,⟨ng,ln,ld⟩⟩=(!pa'):=(zcM hk0 no0).trans (show (if decide (1<=zf op)=true then decide (xa ∈ L) else decide (xa=0))=(!pa') by rw [hk,if_pos (by decide),<- tpa',Bool.not_not])
 have eB:bOk L ⟨op,to,xa,xb,⟨ng,ln,ld⟩⟩=(!r1 && !r2):=(zku h1).trans (show (decide (-21<=xb) && decide (xb<=21))=(!r1 && !r2) by rw [<- zbV xb (-21),<- zbV 21 xb,tr1,tr2])
 have eM:zK c ⟨op,to,xa,xb,⟨ng,ln,ld⟩⟩=c.regs:=if_neg no10
 rw [zcB (x:=⟨op,to,xa,xb,⟨ng,ln,ld⟩⟩) hk0,eA,eB,eM] at ho
 obtain ⟨nu,hnu⟩:∃ b,zaE ⟨op,to,xa,xb,⟨ng,ln,ld⟩⟩=b:=⟨_,rfl⟩
 have ho':((!pa') && (!r1 && !r2) && (!u1 && !u2) && nu)=o:=by rw [<- ho,hnu,<- tu1,<- tu2,zbV,zcR]
 have Hnu:=Lib.hid hnu
 have HL:=Lib.hid hL
 have Hk:=Lib.hid hk
 obtain ⟨pa,hpa⟩:∃ b,decide (xa ∈ L)=b:=⟨_,rfl⟩
 obtain ⟨pb,hpb⟩:∃ b,decide (xb ∈ L)=b:=⟨_,rfl⟩
 have Hpa:=Lib.hid hpa
 have Hpb:=Lib.hid hpb
 have wpa:(!pa)=pa':=by rw [<- hpa,tpa']
 have hn1:ln.length<=1000:=hx.1.2.2.2.1
 have hd1:ld.length<=1000:=hx.1.2.2.2.2
 clear ho hnu hpa hpb eA eB eM hk hk0 pb9 hL tpa'
 clear t0 t1 t6 t7 t10 t1' no1
 subst h1
 obtain ⟨a0,n0,c0,rfl,H0,hm0⟩:=hc.1.open
 obtain ⟨a1,n1,c1,rfl,H1,hm1⟩:=hx.1.1.open
 obtain ⟨a2,n2,c2,rfl,H2,hm2⟩:=hx.1.2.1.open
 cases pa'
 case true =>
  have ho:o=false:=by rw [<- ho'];simp
  subst ho
  clear ho'
  obtain rfl:pa=false:=by simpa using wpa
  go_enter Tryz.func34,Tryz.ntmps34
  go_wp2_with fail
  obtain ⟨W0,az⟩:∃ W0,(w.alloc (.cells #[.int .i64 c.ins,.int .i64 c.rows,.int .i64 c.cols,.int .i64 c.regs,.slice a0 n0 c0] 24)).alloc (.cells #[.int .i64 7,.int .i64 to,.int .i64 xa,.int .i64 xb,.bool ng,.slice a1 n1 c1,.slice a2 n2 c2] 49)=W0:=⟨_,rfl⟩
  have am:=Lib.hid (show ∀ W',Below W0.heap.size W0 W'->(Bx5 W' w.heap.size (.int .i64 c.ins) (.int .i64 c.rows) (.int .i64 c.cols) (.int .i64 c.regs) (.slice a0 n0 c0)/\Bx7 W' (w.heap.size+1) (.int .i64 7) (.int .i64 to) (.int .i64 xa) (.int .i64 xb) (.bool ng) (.slice a1 n1 c1) (.slice a2 n2 c2)) from fun W' hb => by
    refine ⟨bx5 hb ?_ ?_ ?_ ?_ ?_ ?_ ?_ ?_ ?_ ?_,bx7 hb ?_ ?_ ?_ ?_ ?_ ?_ ?_ ?_ ?_ ?_ ?_ ?_ ?_ ?_⟩
    all_goals first|assumption|(rw [<- az];simp [go_sem]))
  have zb:Below w.heap.size w W0:=by rw [<- az];exact bS (bN _ _) (bN _ _)
  rw [az]
  clear az
  have i0:=hc.to zb
  have i1:=hx.to zb
  have i2:=hu.to zb
  have gb:Below W0.heap.size W0 W0:=Below.refl _ _
  obtain ⟨⟨z0,ac,ae,af,aw,ay,ag,ah,ai,aB,aC⟩,⟨z1,ak,al,au,aR,aS,aX,aY,ap,aq,aA,aT,aU,aZ,a7⟩⟩:=am.out _ gb
  go_wp2_with fail
  refine (zh _ (1) _ Hk.out).mono ?_
  rintro e w1 ⟨rfl,rfl⟩
  go_wp2_with fail
  refine (zg _ L xa _ (i2.to gb) HL.out _ Hpa.out).mono ?_
  rintro e w2 ⟨rfl,rfl⟩
  go_wp2_with fail
  refine (zg _ L xb _ (i2.to gb) HL.out _ Hpb.out).mono ?_
  rintro e w3 ⟨rfl,rfl⟩
  go_wp2_with fail
  go_ret
  exact ⟨rfl,bS zb gb⟩
 case false =>
  obtain rfl:pa=true:=by simpa using wpa
  cases r1
  case true =>
   have ho:o=false:=by rw [<- ho'];simp
   subst ho
   clear ho'
   go_enter Tryz.func34,Tryz.ntmps34
   go_wp2_with fail
   obtain ⟨W0,az⟩:∃ W0,(w.alloc (.cells #[.int .i64 c.ins,.int .i64 c.rows,.int .i64 c.cols,.int .i64 c.regs,.slice a0 n0 c0] 24)).alloc (.cells #[.int .i64 7,.int .i64 to,.int .i64 xa,.int .i64 xb,.bool ng,.slice a1 n1 c1,.slice a2 n2 c2] 49)=W0:=⟨_,rfl⟩
   have am:=Lib.hid (show ∀ W',Below W0.heap.size W0 W'->(Bx5 W' w.heap.size (.int .i64 c.ins) (.int .i64 c.rows) (.int .i64 c.cols) (.int .i64 c.regs) (.slice a0 n0 c0)/\Bx7 W' (w.heap.size+1) (.int .i64 7) (.int .i64 to) (.int .i64 xa) (.int .i64 xb) (.bool ng) (.slice a1 n1 c1) (.slice a2 n2 c2)) from fun W' hb => by
     refine ⟨bx5 hb ?_ ?_ ?_ ?_ ?_ ?_ ?_ ?_ ?_ ?_,bx7 hb ?_ ?_ ?_ ?_ ?_ ?_ ?_ ?_ ?_ ?_ ?_ ?_ ?_ ?_⟩
     all_goals first|assumption|(rw [<- az];simp [go_sem]))
   have zb:Below w.heap.size w W0:=by rw [<- az];exact bS (bN _ _) (bN _ _)
   rw [az]
   clear az
   have i0:=hc.to zb
   have i1:=hx.to zb
   have i2:=hu.to zb
   have gb:Below W0.heap.size W0 W0:=Below.refl _ _
   obtain ⟨⟨z0,ac,ae,af,aw,ay,ag,ah,ai,aB,aC⟩,⟨z1,ak,al,au,aR,aS,aX,aY,ap,aq,aA,aT,aU,aZ,a7⟩⟩:=am.out _ gb
   go_wp2_with fail
   refine (zh _ (1) _ Hk.out).mono ?_
   rintro e w1 ⟨rfl,rfl⟩
   go_wp2_with fail
   refine (zg _ L xa _ (i2.to gb) HL.out _ Hpa.out).mono ?_
   rintro e w2 ⟨rfl,rfl⟩
   go_wp2_with fail
   refine (zg _ L xb _ (i2.to gb) HL.out _ Hpb.out).mono ?_
   rintro e w3 ⟨rfl,rfl⟩
   go_wp2_with fail
   go_ret
   exact ⟨rfl,bS zb gb⟩
  case false =>
   cases r2
   case true =>
    have ho:o=false:=by rw [<- ho'];simp
    subst ho
    clear ho'
    go_enter Tryz.func34,Tryz.ntmps34
    go_wp2_with fail
    obtain ⟨W0,az⟩:∃ W0,(w.alloc (.cells #[.int .i64 c.ins,.int .i64 c.rows,.int .i64 c.cols,.int .i64 c.regs,.slice a0 n0 c0] 24)).alloc (.cells #[.int .i64 7,.int .i64 to,.int .i64 xa,.int .i64 xb,.bool ng,.slice a1 n1 c1,.slice a2 n2 c2] 49)=W0:=⟨_,rfl⟩
    have am:=Lib.hid (show ∀ W',Below W0.heap.size W0 W'->(Bx5 W' w.heap.size (.int .i64 c.ins) (.int .i64 c.rows) (.int .i64 c.cols) (.int .i64 c.regs) (.slice a0 n0 c0)/\Bx7 W' (w.heap.size+1) (.int .i64 7) (.int .i64 to) (.int .i64 xa) (.int .i64 xb) (.bool ng) (.slice a1 n1 c1) (.slice a2 n2 c2)) from fun W' hb => by
      refine ⟨bx5 hb ?_ ?_ ?_ ?_ ?_ ?_ ?_ ?_ ?_ ?_,bx7 hb ?_ ?_ ?_ ?_ ?_ ?_ ?_ ?_ ?_ ?_ ?_ ?_ ?_ ?_⟩
      all_goals first|assumption|(rw [<- az];simp [go_sem]))
    have zb:Below w.heap.size w W0:=by rw [<- az];exact bS (bN _ _) (bN _ _)
    rw [az]
    clear az
    have i0:=hc.to zb
    have i1:=hx.to zb
    have i2:=hu.to zb
    have gb:Below W0.heap.size W0 W0:=Below.refl _ _
    obtain ⟨⟨z0,ac,ae,af,aw,ay,ag,ah,ai,aB,aC⟩,⟨z1,ak,al,au,aR,aS,aX,aY,ap,aq,aA,aT,aU,aZ,a7⟩⟩:=am.out _ gb
    go_wp2_with fail
    refine (zh _ (1) _ Hk.out).mono ?_
    rintro e w1 ⟨rfl,rfl⟩
    go_wp2_with fail
    refine (zg _ L xa _ (i2.to gb) HL.out _ Hpa.out).mono ?_
    rintro e w2 ⟨rfl,rfl⟩
    go_wp2_with fail
    refine (zg _ L xb _ (i2.to gb) HL.out _ Hpb.out).mono ?_
    rintro e w3 ⟨rfl,rfl⟩
    go_wp2_with fail
    go_ret
    exact ⟨rfl,bS zb gb⟩
   case false =>
    cases u1
    case true =>
     have ho:o=false:=by rw [<- ho'];simp
     subst ho
     clear ho'
     go_enter Tryz.func34,Tryz.ntmps34
     go_wp2_with fail
     obtain ⟨W0,az⟩:∃ W0,(w.alloc (.cells #[.int .i64 c.ins,.int .i64 c.rows,.int .i64 c.cols,.int .i64 c.regs,.slice a0 n0 c0] 24)).alloc (.cells #[.int .i64 7,.int .i64 to,.int .i64 xa,.int .i64 xb,.bool ng,.slice a1 n1 c1,.slice a2 n2 c2] 49)=W0:=⟨_,rfl⟩
     have am:=Lib.hid (show ∀ W',Below W0.heap.size W0 W'->(Bx5 W' w.heap.size (.int .i64 c.ins) (.int .i64 c.rows) (.int .i64 c.cols) (.int .i64 c.regs) (.slice a0 n0 c0)/\Bx7 W' (w.heap.size+1) (.int .i64 7) (.int .i64 to) (.int .i64 xa) (.int .i64 xb) (.bool ng) (.slice a1 n1 c1) (.slice a2 n2 c2)) from fun W' hb => by
       refine ⟨bx5 hb ?_ ?_ ?_ ?_ ?_ ?_ ?_ ?_ ?_ ?_,bx7 hb ?_ ?_ ?_ ?_ ?_ ?_ ?_ ?_ ?_ ?_ ?_ ?_ ?_ ?_⟩
       all_goals first|assumption|(rw [<- az];simp [go_sem]))
     have zb:Below w.heap.size w W0:=by rw [<- az];exact bS (bN _ _) (bN _ _)
     rw [az]
     clear az
     have i0:=hc.to zb
     have i1:=hx.to zb
     have i2:=hu.to zb
     have gb:Below W0.heap.size W0 W0:=Below.refl _ _
     obtain ⟨⟨z0,ac,ae,af,aw,ay,ag,ah,ai,aB,aC⟩,⟨z1,ak,al,au,aR,aS,aX,aY,ap,aq,aA,aT,aU,aZ,a7⟩⟩:=am.out _ gb
     go_wp2_with fail
     refine (zh _ (1) _ Hk.out).mono ?_
     rintro e w1 ⟨rfl,rfl⟩
     go_wp2_with fail
     refine (zg _ L xa _ (i2.to gb) HL.out _ Hpa.out).mono ?_
     rintro e w2 ⟨rfl,rfl⟩
     go_wp2_with fail
     refine (zg _ L xb _ (i2.to gb) HL.out _ Hpb.out).mono ?_
     rintro e w3 ⟨rfl,rfl⟩
     go_wp2_with fail
     go_ret
     exact ⟨rfl,bS zb gb⟩
    case false =>
     cases u2
     case true =>
      have ho:o=false:=by rw [<- ho'];simp
      subst ho
      clear ho'
      go_enter Tryz.func34,Tryz.ntmps34
      go_wp2_with fail
      obtain ⟨W0,az⟩:∃ W0,(w.alloc (.cells #[.int .i64 c.ins,.int .i64 c.rows,.int .i64 c.cols,.int .i64 c.regs,.slice a0 n0 c0] 24)).alloc (.cells #[.int .i64 7,.int .i64 to,.int .i64 xa,.int .i64 xb,.bool ng,.slice a1 n1 c1,.slice a2 n2 c2] 49)=W0:=⟨_,rfl⟩
      have am:=Lib.hid (show ∀ W',Below W0.heap.size W0 W'->(Bx5 W' w.heap.size (.int .i64 c.ins) (.int .i64 c.rows) (.int .i64 c.cols) (.int .i64 c.regs) (.slice a0 n0 c0)/\Bx7 W' (w.heap.size+1) (.int .i64 7) (.int .i64 to) (.int .i64 xa) (.int .i64 xb) (.bool ng) (.slice a1 n1 c1) (.slice a2 n2 c2)) from fun W' hb => by
        refine ⟨bx5 hb ?_ ?_ ?_ ?_ ?_ ?_ ?_ ?_ ?_ ?_,bx7 hb ?_ ?_ ?_ ?_ ?_ ?_ ?_ ?_ ?_ ?_ ?_ ?_ ?_ ?_⟩
        all_goals first|assumption|(rw [<- az];simp [go_sem]))
      have zb:Below w.heap.size w W0:=by rw [<- az];exact bS (bN _ _) (bN _ _)
      rw [az]
      clear az
      have i0:=hc.to zb
      have i1:=hx.to zb
      have i2:=hu.to zb
      have gb:Below W0.heap.size W0 W0:=Below.refl _ _
      obtain ⟨⟨z0,ac,ae,af,aw,ay,ag,ah,ai,aB,aC⟩,⟨z1,ak,al,au,aR,aS,aX,aY,ap,aq,aA,aT,aU,aZ,a7⟩⟩:=am.out _ gb
      go_wp2_with fail
      refine (zh _ (1) _ Hk.out).mono ?_
      rintro e w1 ⟨rfl,rfl⟩
      go_wp2_with fail
      refine (zg _ L xa _ (i2.to gb) HL.out _ Hpa.out).mono ?_
      rintro e w2 ⟨rfl,rfl⟩
      go_wp2_with fail
      refine (zg _ L xb _ (i2.to gb) HL.out _ Hpb.out).mono ?_
      rintro e w3 ⟨rfl,rfl⟩
      go_wp2_with fail
      go_ret
      exact ⟨rfl,bS zb gb⟩
     case false =>
      have ho:nu=o:=by rw [<- ho'];cases nu <;> rfl
      subst ho
      clear ho'
      have Ho:=Lib.hid (show (ng == false && decide (ln=[]) && decide (ld=[]))=nu by rw [<- zcw (op:=7) (to:=to) (xa:=xa) (xb:=xb) (by decide)];exact Hnu.out)
      go_enter Tryz.func34,Tryz.ntmps34
      go_wp2_with fail
      obtain ⟨W0,az⟩:∃ W0,(w.alloc (.cells #[.int .i64 c.ins,.int .i64 c.rows,.int .i64 c.cols,.int .i64 c.regs,.slice a0 n0 c0] 24)).alloc (.cells #[.int .i64 7,.int .i64 to,.int .i64 xa,.int .i64 xb,.bool ng,.slice a1 n1 c1,.slice a2 n2 c2] 49)=W0:=⟨_,rfl⟩
      have am:=Lib.hid (show ∀ W',Below W0.heap.size W0 W'->(Bx5 W' w.heap.size (.int .i64 c.ins) (.int .i64 c.rows) (.int .i64 c.cols) (.int .i64 c.regs) (.slice a0 n0 c0)/\Bx7 W' (w.heap.size+1) (.int .i64 7) (.int .i64 to) (.int .i64 xa) (.int .i64 xb) (.bool ng) (.slice a1 n1 c1) (.slice a2 n2 c2)) from fun W' hb => by
        refine ⟨bx5 hb ?_ ?_ ?_ ?_ ?_ ?_ ?_ ?_ ?_ ?_,bx7 hb ?_ ?_ ?_ ?_ ?_ ?_ ?_ ?_ ?_ ?_ ?_ ?_ ?_ ?_⟩
        all_goals first|assumption|(rw [<- az];simp [go_sem]))
      have zb:Below w.heap.size w W0:=by rw [<- az];exact bS (bN _ _) (bN _ _)
      rw [az]
      clear az
      have i0:=hc.to zb
      have i1:=hx.to zb
      have i2:=hu.to zb
      have gb:Below W0.heap.size W0 W0:=Below.refl _ _
      obtain ⟨⟨z0,ac,ae,af,aw,ay,ag,ah,ai,aB,aC⟩,⟨z1,ak,al,au,aR,aS,aX,aY,ap,aq,aA,aT,aU,aZ,a7⟩⟩:=am.out _ gb
      go_wp2_with fail
      refine (zh _ (1) _ Hk.out).mono ?_
      rintro e w1 ⟨rfl,rfl⟩
      go_wp2_with fail
      refine (zg _ L xa _ (i2.to gb) HL.out _ Hpa.out).mono ?_
      rintro e w2 ⟨rfl,rfl⟩
      go_wp2_with fail
      refine (zg _ L xb _ (i2.to gb) HL.out _ Hpb.out).mono ?_
      rintro e w3 ⟨rfl,rfl⟩
      go_wp2_with fail
      refine (zbf ng _ _ ln ld false _ _ [] [] _ ((i1.to gb)).1.isF ⟨Rd.nil _,Rd.nil _⟩ _ Ho.out).mono ?_
      clear ac ag ae ah af ai aw aB ay aC ak ap al aq au aA aR aT aS aU aX aZ aY a7
      rintro e w4 ⟨rfl,cG⟩
      replace gb:=bS gb cG
      obtain ⟨⟨z0,ac,ae,af,aw,ay,ag,ah,ai,aB,aC⟩,⟨z1,ak,al,au,aR,aS,aX,aY,ap,aq,aA,aT,aU,aZ,a7⟩⟩:=am.out _ gb
      go_wp2_with fail
      go_ret
      exact ⟨rfl,bS zb gb⟩

theorem zeH (c:Cd) (v:Value) (op to xa xb:Int) (ng:Bool) (vn vd:Value) (ln ld:List Nat) (u:Value) (L:List Int) (w:World) (hc:IsC w c v) (hx:IsX w ⟨op,to,xa,xb,⟨ng,ln,ld⟩⟩ vn vd) (hu:RdI w u L) (hL:L.length<=100000) (hr:1<=c.rows/\c.rows<=40) (hcl:1<=c.cols/\c.cols<=40) (h1:op=10) (o:Bool) (ho:zu c L ⟨op,to,xa,xb,⟨ng,ln,ld⟩⟩=o) :
  Calls Tryz.prog 34 #[aggC c v,.agg #[.int .i64 op,.int .i64 to,.int .i64 xa,.int .i64 xb,.bool ng,vn,vd],u] w (fun e w' => e=.returned (.bool o)/\Below w.heap.size w w'):=by
 have no0:op≠0:=by omega
 have t0:(op == 0)=false:=by simp;exact no0
 have no1:op≠1:=by omega
 have t1:(op == 1)=false:=by simp;exact no1
 have no6:op≠6:=by omega
 have t6:(op == 6)=false:=by simp;exact no6
 have no7:op≠7:=by omega
 have t7:(op == 7)=false:=by simp;exact no7
 have t10:(op == 10)=true:=by simp;exact h1
 have t1':(op != 1)=true:=by simp;exact no1
 have hk:zf op=1:=by rw [h1];decide
 have hk0:0<=zf op:=by rw [hk];decide
 have pb9:=zU hr hcl
 have HM:IntKind.i64.wrap (c.rows*c.cols)=c.rows*c.cols:=IntWalk.i64_in _ (by omega)
 obtain ⟨pa',tpa'⟩:∃ b,(!decide (xa ∈ L))=b:=⟨_,rfl⟩
 obtain ⟨yb,tyb⟩:∃ b,(xb != 0)=b:=⟨_,rfl⟩
 obtain ⟨u1,tu1⟩:∃ b,decide (to<0)=b:=⟨_,rfl⟩
 obtain ⟨u2,tu2⟩:∃ b,decide (c.rows*c.cols<=to)=b:=⟨_,rfl⟩
 have eA:aOk c L ⟨op,to,xa,xb,⟨ng,ln,ld⟩⟩=(!pa'):=(zcM hk0 no0).trans (show (if decide (1<=zf op)=true then decide (xa ∈ L) else decide (xa=0))=(!pa') by rw [hk,if_pos (by decide),<- tpa',Bool.not_not])
 have eB:bOk L ⟨op,to,xa,xb,⟨ng,ln,ld⟩⟩=(!yb):=(zcr no7).trans (show (if decide (zf op=2)=true then decide (xb ∈ L) else decide (xb=0))=(!yb) by rw [hk,if_neg (by decide),<- zdg,tyb])
 have eM:zK c ⟨op,to,xa,xb,⟨ng,ln,ld⟩⟩=c.rows*c.cols:=if_pos h1
 rw [zcB (x:=⟨op,to,xa,xb,⟨ng,ln,ld⟩⟩) hk0,eA,eB,eM] at ho
 obtain ⟨nu,hnu⟩:∃ b,zaE ⟨op,to,xa,xb,⟨ng,ln,ld⟩⟩=b:=⟨_,rfl⟩
 have ho':((!pa') && (!yb) && (!u1 && !u2) && nu)=o:=by rw [<- ho,hnu,<- tu1,<- tu2,zbV,zcR]
 have Hnu:=Lib.hid hnu
 have HL:=Lib.hid hL
 have Hk:=Lib.hid hk
 obtain ⟨pa,hpa⟩:∃ b,decide (xa ∈ L)=b:=⟨_,rfl⟩
 obtain ⟨pb,hpb⟩:∃ b,decide (xb ∈ L)=b:=⟨_,rfl⟩
 have Hpa:=Lib.hid hpa
 have Hpb:=Lib.hid hpb
 have wpa:(!pa)=pa':=by rw [<- hpa,tpa']
 have hn1:ln.length<=1000:=hx.1.2.2.2.1
 have hd1:ld.length<=1000:=hx.1.2.2.2.2
 clear ho hnu hpa hpb eA eB eM hk hk0 pb9 hL tpa'
 clear t0 t1 t6 t7 t10 t1' no1
 subst h1
 obtain ⟨a0,n0,c0,rfl,H0,hm0⟩:=hc.1.open
 obtain ⟨a1,n1,c1,rfl,H1,hm1⟩:=hx.1.1.open
 obtain ⟨a2,n2,c2,rfl,H2,hm2⟩:=hx.1.2.1.open
 cases pa'
 case true =>
  have ho:o=false:=by rw [<- ho'];simp
  subst ho
  clear ho'
  obtain rfl:pa=false:=by simpa using wpa
  go_enter Tryz.func34,Tryz.ntmps34
  go_wp2_with fail
  obtain ⟨W0,az⟩:∃ W0,(w.alloc (.cells #[.int .i64 c.ins,.int .i64 c.rows,.int .i64 c.cols,.int .i64 c.regs,.slice a0 n0 c0] 24)).alloc (.cells #[.int .i64 10,.int .i64 to,.int .i64 xa,.int .i64 xb,.bool ng,.slice a1 n1 c1,.slice a2 n2 c2] 49)=W0:=⟨_,rfl⟩
  have am:=Lib.hid (show ∀ W',Below W0.heap.size W0 W'->(Bx5 W' w.heap.size (.int .i64 c.ins) (.int .i64 c.rows) (.int .i64 c.cols) (.int .i64 c.regs) (.slice a0 n0 c0)/\Bx7 W' (w.heap.size+1) (.int .i64 10) (.int .i64 to) (.int .i64 xa) (.int .i64 xb) (.bool ng) (.slice a1 n1 c1) (.slice a2 n2 c2)) from fun W' hb => by
    refine ⟨bx5 hb ?_ ?_ ?_ ?_ ?_ ?_ ?_ ?_ ?_ ?_,bx7 hb ?_ ?_ ?_ ?_ ?_ ?_ ?_ ?_ ?_ ?_ ?_ ?_ ?_ ?_⟩
    all_goals first|assumption|(rw [<- az];simp [go_sem]))
  have zb:Below w.heap.size w W0:=by rw [<- az];exact bS (bN _ _) (bN _ _)
  rw [az]
  clear az
  have i0:=hc.to zb
  have i1:=hx.to zb
  have i2:=hu.to zb
  have gb:Below W0.heap.size W0 W0:=Below.refl _ _
  obtain ⟨⟨z0,ac,ae,af,aw,ay,ag,ah,ai,aB,aC⟩,⟨z1,ak,al,au,aR,aS,aX,aY,ap,aq,aA,aT,aU,aZ,a7⟩⟩:=am.out _ gb
  go_wp2_with fail
  refine (zh _ (1) _ Hk.out).mono ?_
  rintro e w1 ⟨rfl,rfl⟩
  go_wp2_with fail
  refine (zg _ L xa _ (i2.to gb) HL.out _ Hpa.out).mono ?_
  rintro e w2 ⟨rfl,rfl⟩
  go_wp2_with fail
  refine (zg _ L xb _ (i2.to gb) HL.out _ Hpb.out).mono ?_
  rintro e w3 ⟨rfl,rfl⟩
  go_wp2_with fail
  go_ret
  exact ⟨rfl,bS zb gb⟩
 case false =>
  obtain rfl:pa=true:=by simpa using wpa
  cases yb
  case true =>
   have ho:o=false:=by rw [<- ho'];simp
   subst ho
   clear ho'
   go_enter Tryz.func34,Tryz.ntmps34
   go_wp2_with fail
   obtain ⟨W0,az⟩:∃ W0,(w.alloc (.cells #[.int .i64 c.ins,.int .i64 c.rows,.int .i64 c.cols,.int .i64 c.regs,.slice a0 n0 c0] 24)).alloc (.cells #[.int .i64 10,.int .i64 to,.int .i64 xa,.int .i64 xb,.bool ng,.slice a1 n1 c1,.slice a2 n2 c2] 49)=W0:=⟨_,rfl⟩
   have am:=Lib.hid (show ∀ W',Below W0.heap.size W0 W'->(Bx5 W' w.heap.size (.int .i64 c.ins) (.int .i64 c.rows) (.int .i64 c.cols) (.int .i64 c.regs) (.slice a0 n0 c0)/\Bx7 W' (w.heap.size+1) (.int .i64 10) (.int .i64 to) (.int .i64 xa) (.int .i64 xb) (.bool ng) (.slice a1 n1 c1) (.slice a2 n2 c2)) from fun W' hb => by
     refine ⟨bx5 hb ?_ ?_ ?_ ?_ ?_ ?_ ?_ ?_ ?_ ?_,bx7 hb ?_ ?_ ?_ ?_ ?_ ?_ ?_ ?_ ?_ ?_ ?_ ?_ ?_ ?_⟩
     all_goals first|assumption|(rw [<- az];simp [go_sem]))
   have zb:Below w.heap.size w W0:=by rw [<- az];exact bS (bN _ _) (bN _ _)
   rw [az]
   clear az
   have i0:=hc.to zb
   have i1:=hx.to zb
   have i2:=hu.to zb
   have gb:Below W0.heap.size W0 W0:=Below.refl _ _
   obtain ⟨⟨z0,ac,ae,af,aw,ay,ag,ah,ai,aB,aC⟩,⟨z1,ak,al,au,aR,aS,aX,aY,ap,aq,aA,aT,aU,aZ,a7⟩⟩:=am.out _ gb
   go_wp2_with fail
   refine (zh _ (1) _ Hk.out).mono ?_
   rintro e w1 ⟨rfl,rfl⟩
   go_wp2_with fail
   refine (zg _ L xa _ (i2.to gb) HL.out _ Hpa.out).mono ?_
   rintro e w2 ⟨rfl,rfl⟩
   go_wp2_with fail
   refine (zg _ L xb _ (i2.to gb) HL.out _ Hpb.out).mono ?_
   rintro e w3 ⟨rfl,rfl⟩
   go_wp2_with fail
   go_ret
   exact ⟨rfl,bS zb gb⟩
  case false =>
   cases u1
   case true =>
    have ho:o=false:=by rw [<- ho'];simp
    subst ho
    clear ho'
    go_enter Tryz.func34,Tryz.ntmps34
    go_wp2_with fail
    obtain ⟨W0,az⟩:∃ W0,(w.alloc (.cells #[.int .i64 c.ins,.int .i64 c.rows,.int .i64 c.cols,.int .i64 c.regs,.slice a0 n0 c0] 24)).alloc (.cells #[.int .i64 10,.int .i64 to,.int .i64 xa,.int .i64 xb,.bool ng,.slice a1 n1 c1,.slice a2 n2 c2] 49)=W0:=⟨_,rfl⟩
    have am:=Lib.hid (show ∀ W',Below W0.heap.size W0 W'->(Bx5 W' w.heap.size (.int .i64 c.ins) (.int .i64 c.rows) (.int .i64 c.cols) (.int .i64 c.regs) (.slice a0 n0 c0)/\Bx7 W' (w.heap.size+1) (.int .i64 10) (.int .i64 to) (.int .i64 xa) (.int .i64 xb) (.bool ng) (.slice a1 n1 c1) (.slice a2 n2 c2)) from fun W' hb => by
      refine ⟨bx5 hb ?_ ?_ ?_ ?_ ?_ ?_ ?_ ?_ ?_ ?_,bx7 hb ?_ ?_ ?_ ?_ ?_ ?_ ?_ ?_ ?_ ?_ ?_ ?_ ?_ ?_⟩
      all_goals first|assumption|(rw [<- az];simp [go_sem]))
    have zb:Below w.heap.size w W0:=by rw [<- az];exact bS (bN _ _) (bN _ _)
    rw [az]
    clear az
    have i0:=hc.to zb
    have i1:=hx.to zb
    have i2:=hu.to zb
    have gb:Below W0.heap.size W0 W0:=Below.refl _ _
    obtain ⟨⟨z0,ac,ae,af,aw,ay,ag,ah,ai,aB,aC⟩,⟨z1,ak,al,au,aR,aS,aX,aY,ap,aq,aA,aT,aU,aZ,a7⟩⟩:=am.out _ gb
    go_wp2_with fail
    refine (zh _ (1) _ Hk.out).mono ?_
    rintro e w1 ⟨rfl,rfl⟩
    go_wp2_with fail
    refine (zg _ L xa _ (i2.to gb) HL.out _ Hpa.out).mono ?_
    rintro e w2 ⟨rfl,rfl⟩
    go_wp2_with fail
    refine (zg _ L xb _ (i2.to gb) HL.out _ Hpb.out).mono ?_
    rintro e w3 ⟨rfl,rfl⟩
    go_wp2_with fail
    go_ret
    exact ⟨rfl,bS zb gb⟩
   case false =>
    cases u2
    case true =>
     have ho:o=false:=by rw [<- ho'];simp
     subst ho
     clear ho'
     go_enter Tryz.func34,Tryz.ntmps34
     go_wp2_with fail
     obtain ⟨W0,az⟩:∃ W0,(w.alloc (.cells #[.int .i64 c.ins,.int .i64 c.rows,.int .i64 c.cols,.int .i64 c.regs,.slice a0 n0 c0] 24)).alloc (.cells #[.int .i64 10,.int .i64 to,.int .i64 xa,.int .i64 xb,.bool ng,.slice a1 n1 c1,.slice a2 n2 c2] 49)=W0:=⟨_,rfl⟩
     have am:=Lib.hid (show ∀ W',Below W0.heap.size W0 W'->(Bx5 W' w.heap.size (.int .i64 c.ins) (.int .i64 c.rows) (.int .i64 c.cols) (.int .i64 c.regs) (.slice a0 n0 c0)/\Bx7 W' (w.heap.size+1) (.int .i64 10) (.int .i64 to) (.int .i64 xa) (.int .i64 xb) (.bool ng) (.slice a1 n1 c1) (.slice a2 n2 c2)) from fun W' hb => by
       refine ⟨bx5 hb ?_ ?_ ?_ ?_ ?_ ?_ ?_ ?_ ?_ ?_,bx7 hb ?_ ?_ ?_ ?_ ?_ ?_ ?_ ?_ ?_ ?_ ?_ ?_ ?_ ?_⟩
       all_goals first|assumption|(rw [<- az];simp [go_sem]))
     have zb:Below w.heap.size w W0:=by rw [<- az];exact bS (bN _ _) (bN _ _)
     rw [az]
     clear az
     have i0:=hc.to zb
     have i1:=hx.to zb
     have i2:=hu.to zb
     have gb:Below W0.heap.size W0 W0:=Below.refl _ _
     obtain ⟨⟨z0,ac,ae,af,aw,ay,ag,ah,ai,aB,aC⟩,⟨z1,ak,al,au,aR,aS,aX,aY,ap,aq,aA,aT,aU,aZ,a7⟩⟩:=am.out _ gb
     go_wp2_with fail
     refine (zh _ (1) _ Hk.out).mono ?_
     rintro e w1 ⟨rfl,rfl⟩
     go_wp2_with fail
     refine (zg _ L xa _ (i2.to gb) HL.out _ Hpa.out).mono ?_
     rintro e w2 ⟨rfl,rfl⟩
     go_wp2_with fail
     refine (zg _ L xb _ (i2.to gb) HL.out _ Hpb.out).mono ?_
     rintro e w3 ⟨rfl,rfl⟩
     go_wp2_with fail
     go_ret
     exact ⟨rfl,bS zb gb⟩
    case false =>
     have ho:nu=o:=by rw [<- ho'];cases nu <;> rfl
     subst ho
     clear ho'
     have Ho:=Lib.hid (show (ng == false && decide (ln=[]) && decide (ld=[]))=nu by rw [<- zcw (op:=10) (to:=to) (xa:=xa) (xb:=xb) (by decide)];exact Hnu.out)
     go_enter Tryz.func34,Tryz.ntmps34
     go_wp2_with fail
     obtain ⟨W0,az⟩:∃ W0,(w.alloc (.cells #[.int .i64 c.ins,.int .i64 c.rows,.int .i64 c.cols,.int .i64 c.regs,.slice a0 n0 c0] 24)).alloc (.cells #[.int .i64 10,.int .i64 to,.int .i64 xa,.int .i64 xb,.bool ng,.slice a1 n1 c1,.slice a2 n2 c2] 49)=W0:=⟨_,rfl⟩
     have am:=Lib.hid (show ∀ W',Below W0.heap.size W0 W'->(Bx5 W' w.heap.size (.int .i64 c.ins) (.int .i64 c.rows) (.int .i64 c.cols) (.int .i64 c.regs) (.slice a0 n0 c0)/\Bx7 W' (w.heap.size+1) (.int .i64 10) (.int .i64 to) (.int .i64 xa) (.int .i64 xb) (.bool ng) (.slice a1 n1 c1) (.slice a2 n2 c2)) from fun W' hb => by
       refine ⟨bx5 hb ?_ ?_ ?_ ?_ ?_ ?_ ?_ ?_ ?_ ?_,bx7 hb ?_ ?_ ?_ ?_ ?_ ?_ ?_ ?_ ?_ ?_ ?_ ?_ ?_ ?_⟩
       all_goals first|assumption|(rw [<- az];simp [go_sem]))
     have zb:Below w.heap.size w W0:=by rw [<- az];exact bS (bN _ _) (bN _ _)
     rw [az]
     clear az
     have i0:=hc.to zb
     have i1:=hx.to zb
     have i2:=hu.to zb
     have gb:Below W0.heap.size W0 W0:=Below.refl _ _
     obtain ⟨⟨z0,ac,ae,af,aw,ay,ag,ah,ai,aB,aC⟩,⟨z1,ak,al,au,aR,aS,aX,aY,ap,aq,aA,aT,aU,aZ,a7⟩⟩:=am.out _ gb
     go_wp2_with fail
     refine (zh _ (1) _ Hk.out).mono ?_
     rintro e w1 ⟨rfl,rfl⟩
     go_wp2_with fail
     refine (zg _ L xa _ (i2.to gb) HL.out _ Hpa.out).mono ?_
     rintro e w2 ⟨rfl,rfl⟩
     go_wp2_with fail
     refine (zg _ L xb _ (i2.to gb) HL.out _ Hpb.out).mono ?_
     rintro e w3 ⟨rfl,rfl⟩
     go_wp2_with fail
     refine (zbf ng _ _ ln ld false _ _ [] [] _ ((i1.to gb)).1.isF ⟨Rd.nil _,Rd.nil _⟩ _ Ho.out).mono ?_
     clear ac ag ae ah af ai aw aB ay aC ak ap al aq au aA aR aT aS aU aX aZ aY a7
     rintro e w4 ⟨rfl,cG⟩
     replace gb:=bS gb cG
     obtain ⟨⟨z0,ac,ae,af,aw,ay,ag,ah,ai,aB,aC⟩,⟨z1,ak,al,au,aR,aS,aX,aY,ap,aq,aA,aT,aU,aZ,a7⟩⟩:=am.out _ gb
     go_wp2_with fail
     go_ret
     exact ⟨rfl,bS zb gb⟩

theorem zeg (c:Cd) (v:Value) (op to xa xb:Int) (ng:Bool) (vn vd:Value) (ln ld:List Nat) (u:Value) (L:List Int) (w:World) (hc:IsC w c v) (hx:IsX w ⟨op,to,xa,xb,⟨ng,ln,ld⟩⟩ vn vd) (hu:RdI w u L) (hL:L.length<=100000) (hr:1<=c.rows/\c.rows<=40) (hcl:1<=c.cols/\c.cols<=40) (o:Bool) (ho:zu c L ⟨op,to,xa,xb,⟨ng,ln,ld⟩⟩=o) :
  Calls Tryz.prog 34 #[aggC c v,.agg #[.int .i64 op,.int .i64 to,.int .i64 xa,.int .i64 xb,.bool ng,vn,vd],u] w (fun e w' => e=.returned (.bool o)/\Below w.heap.size w w'):=by
 by_cases h0:0<=zf op
 ·rcases zdW h0 with (h|h)|h|h|h|h
  ·exact zdO c v op to xa xb ng vn vd ln ld u L w hc hx hu hL hr hcl h o ho
  ·exact zeG c v op to xa xb ng vn vd ln ld u L w hc hx hu hL hr hcl h o ho
  ·exact zen c v op to xa xb ng vn vd ln ld u L w hc hx hu hL hr hcl h o ho
  ·exact zev c v op to xa xb ng vn vd ln ld u L w hc hx hu hL hr hcl h o ho
  ·exact zeM c v op to xa xb ng vn vd ln ld u L w hc hx hu hL hr hcl h o ho
  ·exact zeH c v op to xa xb ng vn vd ln ld u L w hc hx hu hL hr hcl h o ho
 ·exact zfi c v op to xa xb ng vn vd ln ld u L w hc hx hu hL hr hcl h0 o ho

end Go.Proofs.YtkjcdnlpjldhaaaGreat

