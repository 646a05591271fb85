/-
  The texts Vm7, Ref25, Point, merged.
-/
import Derived.Test.YtkjcdnlpjldhaaaGreatK20
import Derived.Test.YtkjcdnlpjldhaaaGreatK11
import Derived.Deep.RegionHeld3
import Derived.Deep.AppendLies
set_option linter.unusedVariables false
set_option linter.unusedSimpArgs false
set_option maxRecDepth 100000
set_option maxHeartbeats 400000000
namespace Go.Proofs.YtkjcdnlpjldhaaaGreat
open Go.RowKit Tw
attribute [local go_sem ↓] Go.wp_at_zero Go.wp_at_succ

theorem zci (a b:Int):(!decide (a<b))=decide (b<=a):=by rw [<- decide_not];exact decide_eq_decide.2 Int.not_lt

theorem zdb (a b:Int):(!decide (a<=b))=decide (b<a):=by rw [<- decide_not];exact decide_eq_decide.2 Int.not_le

theorem zds (a:Int):(!(a != 0))=decide (a=0):=by by_cases h:a=0 <;> simp [h]

theorem zcT {c:Cd} {L:List Int} {x:Ins} (hk:0<=zd x.op):zp c L x=(aOk c L x && bOk L x && (decide (0<=x.to) && decide (x.to<zD c x)) && zaJ x):=by
 unfold zp
 rw [decide_eq_true hk,Bool.true_and,Bool.decide_and]
 cases zaJ x <;> cases aOk c L x <;> cases bOk L x <;> simp

theorem zjK (n:Nat) (b:Bool) (h:decide ((zaP n).length<=40)=b):decide (((ba (zaP n)).size:Int)<=40)=b:=by
 rw [<- h];apply decide_eq_decide.2;rw [zgc];omega

theorem zcU {op to xa xb:Int} {ng:Bool} {ln ld:List Nat} (h:op≠1):zaJ ⟨op,to,xa,xb,⟨ng,ln,ld⟩⟩=(ng == false && decide (ln=[]) && decide (ld=[])):=by
 unfold zaJ
 rw [if_neg h]
 have e:∀ l:List Nat,decide (l.length=0)=decide (l=[]):=fun l => decide_eq_decide.2 List.length_eq_zero_iff
 simp only [e]
 cases ng <;> rfl

theorem zj (op k:Int) (w:World) (hk:zd op=k):Calls Tryz.prog 36 #[.int .i64 op] w (fun e w' => e=.returned (.int .i64 k)/\w=w'):=by
 subst hk;exact zkN op w

theorem zfT (c:Cd) (v:Value) (op to xa xb:Int) (ng:Bool) (vn vd:Value) (ln ld:List Nat) (u:Value) (L:List Int) (w:World) (hc:IsC w c v) (hx:IsX w ⟨op,to,xa,xb,⟨ng,ln,ld⟩⟩ vn vd) (hu:RdI w u L) (hL:L.length<=100000) (hr:1<=c.rows/\c.rows<=40) (hcl:1<=c.cols/\c.cols<=40) (h0:¬ 0<=zd op) (o:Bool) (ho:zp c L ⟨op,to,xa,xb,⟨ng,ln,ld⟩⟩=o) :
  Calls Tryz.prog 34 #[aggC c v,.agg #[.int .i64 op,.int .i64 to,.int .i64 xa,.int .i64 xb,.bool ng,vn,vd],u] w (fun e w' => e=.returned (.bool o)/\Below w.heap.size w w'):=by
 have ho':o=false:=by
  rw [<- ho];unfold zp
  rw [decide_eq_false h0];rfl
 have Hk:=Lib.hid (show zd op=-1 by have:=zmx op;omega)
 clear ho h0 hr hcl hL
 subst ho'
 obtain ⟨a0,n0,c0,rfl,H0,hm0⟩:=hc.1.open
 obtain ⟨a1,n1,c1,rfl,H1,hm1⟩:=hx.1.1.open
 obtain ⟨a2,n2,c2,rfl,H2,hm2⟩:=hx.1.2.1.open
 go_enter Tryz.func34,Tryz.ntmps34
 go_wp2_with fail
 obtain ⟨W0,an⟩:∃ W0,(w.alloc (.cells #[.int .i64 c.ins,.int .i64 c.rows,.int .i64 c.cols,.int .i64 c.regs,.slice a0 n0 c0] 24)).alloc (.cells #[.int .i64 op,.int .i64 to,.int .i64 xa,.int .i64 xb,.bool ng,.slice a1 n1 c1,.slice a2 n2 c2] 49)=W0:=⟨_,rfl⟩
 have ap:=Lib.hid (show ∀ W',Below W0.heap.size W0 W'->(Bx5 W' w.heap.size (.int .i64 c.ins) (.int .i64 c.rows) (.int .i64 c.cols) (.int .i64 c.regs) (.slice a0 n0 c0)/\Bx7 W' (w.heap.size+1) (.int .i64 op) (.int .i64 to) (.int .i64 xa) (.int .i64 xb) (.bool ng) (.slice a1 n1 c1) (.slice a2 n2 c2)) from fun W' hb => by
   refine ⟨bx5 hb ?_ ?_ ?_ ?_ ?_ ?_ ?_ ?_ ?_ ?_,bx7 hb ?_ ?_ ?_ ?_ ?_ ?_ ?_ ?_ ?_ ?_ ?_ ?_ ?_ ?_⟩
   all_goals first|assumption|(rw [<- an];simp [go_sem]))
 have zb:Below w.heap.size w W0:=by rw [<- an];exact bS (bN _ _) (bN _ _)
 rw [an]
 clear an
 have i0:=hc.to zb
 have i1:=hx.to zb
 have i2:=hu.to zb
 have gb:Below W0.heap.size W0 W0:=Below.refl _ _
 obtain ⟨⟨z0,ae,af,ag,az,aA,ah,ak,al,aJ,aK⟩,⟨z1,aB,aD,aE,aR,aS,aT,aU,aG,aH,aI,aV,aW,aX,aY⟩⟩:=ap.out _ gb
 go_wp2_with fail
 refine (zj _ (-1) _ Hk.out).mono ?_
 rintro e w1 ⟨rfl,rfl⟩
 go_wp2_with fail
 go_ret
 exact ⟨rfl,bS zb gb⟩

theorem zeL (c:Cd) (v:Value) (op to xa xb:Int) (ng:Bool) (vn vd:Value) (ln ld:List Nat) (u:Value) (L:List Int) (w:World) (hc:IsC w c v) (hx:IsX w ⟨op,to,xa,xb,⟨ng,ln,ld⟩⟩ vn vd) (hu:RdI w u L) (hL:L.length<=100000) (hr:1<=c.rows/\c.rows<=40) (hcl:1<=c.cols/\c.cols<=40) (h1:op=0) (o:Bool) (ho:zp c L ⟨op,to,xa,xb,⟨ng,ln,ld⟩⟩=o) :
  Calls Tryz.prog 34 #[aggC c v,.agg #[.int .i64 op,.int .i64 to,.int .i64 xa,.int .i64 xb,.bool ng,vn,vd],u] w (fun e w' => e=.returned (.bool o)/\Below w.heap.size w w'):=by
 have t0:(op == 0)=true:=by simp;exact h1
 have no1:op≠1:=by omega
 have t1:(op == 1)=false:=by simp;exact no1
 have no6:op≠6:=by omega
 have t6:(op == 6)=false:=by simp;exact no6
 have no7:op≠7:=by omega
 have t7:(op == 7)=false:=by simp;exact no7
 have no10:op≠10:=by omega
 have t10:(op == 10)=false:=by simp;exact no10
 have t1':(op != 1)=true:=by simp;exact no1
 have hk:zd op=0:=by rw [h1];decide
 have hk0:0<=zd op:=by rw [hk];decide
 have pb9:=zae hr hcl
 have HM:IntKind.i64.wrap (c.rows*c.cols)=c.rows*c.cols:=IntWalk.i64_in _ (by omega)
 obtain ⟨z1,tz1⟩:∃ b,decide (xa<0)=b:=⟨_,rfl⟩
 obtain ⟨z2,tz2⟩:∃ b,decide (c.ins<=xa)=b:=⟨_,rfl⟩
 obtain ⟨yb,tyb⟩:∃ b,(xb != 0)=b:=⟨_,rfl⟩
 obtain ⟨u1,tu1⟩:∃ b,decide (to<0)=b:=⟨_,rfl⟩
 obtain ⟨u2,tu2⟩:∃ b,decide (c.regs<=to)=b:=⟨_,rfl⟩
 have eA:aOk c L ⟨op,to,xa,xb,⟨ng,ln,ld⟩⟩=(!z1 && !z2):=(zjc h1).trans (show (decide (0<=xa) && decide (xa<c.ins))=(!z1 && !z2) by rw [<- zci xa 0,<- zdb c.ins xa,tz1,tz2])
 have eB:bOk L ⟨op,to,xa,xb,⟨ng,ln,ld⟩⟩=(!yb):=(zcC no7).trans (show (if decide (zd op=2)=true then decide (xb ∈ L) else decide (xb=0))=(!yb) by rw [hk,if_neg (by decide),<- zds,tyb])
 have eM:zD c ⟨op,to,xa,xb,⟨ng,ln,ld⟩⟩=c.regs:=if_neg no10
 rw [zcT (x:=⟨op,to,xa,xb,⟨ng,ln,ld⟩⟩) hk0,eA,eB,eM] at ho
 obtain ⟨nu,hnu⟩:∃ b,zaJ ⟨op,to,xa,xb,⟨ng,ln,ld⟩⟩=b:=⟨_,rfl⟩
 have ho':((!z1 && !z2) && (!yb) && (!u1 && !u2) && nu)=o:=by rw [<- ho,hnu,<- tu1,<- tu2,zci,zdb]
 have Hnu:=Lib.hid hnu
 have HL:=Lib.hid hL
 have Hk:=Lib.hid hk
 obtain ⟨pa,hpa⟩:∃ b,decide (xa ∈ L)=b:=⟨_,rfl⟩
 obtain ⟨pb,hpb⟩:∃ b,decide (xb ∈ L)=b:=⟨_,rfl⟩
 have Hpa:=Lib.hid hpa
 have Hpb:=Lib.hid hpb
 have hn1:ln.length<=1000:=hx.1.2.2.2.1
 have hd1:ld.length<=1000:=hx.1.2.2.2.2
 clear ho hnu hpa hpb eA eB eM hk hk0 pb9 hL 
 clear t0 t1 t6 t7 t10 t1' no1
 subst h1
 obtain ⟨a0,n0,c0,rfl,H0,hm0⟩:=hc.1.open
 obtain ⟨a1,n1,c1,rfl,H1,hm1⟩:=hx.1.1.open
 obtain ⟨a2,n2,c2,rfl,H2,hm2⟩:=hx.1.2.1.open
 cases z1
 case true =>
  have ho:o=false:=by rw [<- ho'];simp
  subst ho
  clear ho'
  go_enter Tryz.func34,Tryz.ntmps34
  go_wp2_with fail
  obtain ⟨W0,an⟩:∃ W0,(w.alloc (.cells #[.int .i64 c.ins,.int .i64 c.rows,.int .i64 c.cols,.int .i64 c.regs,.slice a0 n0 c0] 24)).alloc (.cells #[.int .i64 0,.int .i64 to,.int .i64 xa,.int .i64 xb,.bool ng,.slice a1 n1 c1,.slice a2 n2 c2] 49)=W0:=⟨_,rfl⟩
  have ap:=Lib.hid (show ∀ W',Below W0.heap.size W0 W'->(Bx5 W' w.heap.size (.int .i64 c.ins) (.int .i64 c.rows) (.int .i64 c.cols) (.int .i64 c.regs) (.slice a0 n0 c0)/\Bx7 W' (w.heap.size+1) (.int .i64 0) (.int .i64 to) (.int .i64 xa) (.int .i64 xb) (.bool ng) (.slice a1 n1 c1) (.slice a2 n2 c2)) from fun W' hb => by
    refine ⟨bx5 hb ?_ ?_ ?_ ?_ ?_ ?_ ?_ ?_ ?_ ?_,bx7 hb ?_ ?_ ?_ ?_ ?_ ?_ ?_ ?_ ?_ ?_ ?_ ?_ ?_ ?_⟩
    all_goals first|assumption|(rw [<- an];simp [go_sem]))
  have zb:Below w.heap.size w W0:=by rw [<- an];exact bS (bN _ _) (bN _ _)
  rw [an]
  clear an
  have i0:=hc.to zb
  have i1:=hx.to zb
  have i2:=hu.to zb
  have gb:Below W0.heap.size W0 W0:=Below.refl _ _
  obtain ⟨⟨z0,ae,af,ag,az,aA,ah,ak,al,aJ,aK⟩,⟨z1,aB,aD,aE,aR,aS,aT,aU,aG,aH,aI,aV,aW,aX,aY⟩⟩:=ap.out _ gb
  go_wp2_with fail
  refine (zj _ (0) _ Hk.out).mono ?_
  rintro e w1 ⟨rfl,rfl⟩
  go_wp2_with fail
  refine (zf _ L xa _ (i2.to gb) HL.out _ Hpa.out).mono ?_
  rintro e w2 ⟨rfl,rfl⟩
  go_wp2_with fail
  refine (zf _ L xb _ (i2.to gb) HL.out _ Hpb.out).mono ?_
  rintro e w3 ⟨rfl,rfl⟩
  go_wp2_with fail
  go_ret
  exact ⟨rfl,bS zb gb⟩
 case false =>
  cases z2
  case true =>
   have ho:o=false:=by rw [<- ho'];simp
   subst ho
   clear ho'
   go_enter Tryz.func34,Tryz.ntmps34
   go_wp2_with fail
   obtain ⟨W0,an⟩:∃ W0,(w.alloc (.cells #[.int .i64 c.ins,.int .i64 c.rows,.int .i64 c.cols,.int .i64 c.regs,.slice a0 n0 c0] 24)).alloc (.cells #[.int .i64 0,.int .i64 to,.int .i64 xa,.int .i64 xb,.bool ng,.slice a1 n1 c1,.slice a2 n2 c2] 49)=W0:=⟨_,rfl⟩
   have ap:=Lib.hid (show ∀ W',Below W0.heap.size W0 W'->(Bx5 W' w.heap.size (.int .i64 c.ins) (.int .i64 c.rows) (.int .i64 c.cols) (.int .i64 c.regs) (.slice a0 n0 c0)/\Bx7 W' (w.heap.size+1) (.int .i64 0) (.int .i64 to) (.int .i64 xa) (.int .i64 xb) (.bool ng) (.slice a1 n1 c1) (.slice a2 n2 c2)) from fun W' hb => by
     refine ⟨bx5 hb ?_ ?_ ?_ ?_ ?_ ?_ ?_ ?_ ?_ ?_,bx7 hb ?_ ?_ ?_ ?_ ?_ ?_ ?_ ?_ ?_ ?_ ?_ ?_ ?_ ?_⟩
     all_goals first|assumption|(rw [<- an];simp [go_sem]))
   have zb:Below w.heap.size w W0:=by rw [<- an];exact bS (bN _ _) (bN _ _)
   rw [an]
   clear an
   have i0:=hc.to zb
   have i1:=hx.to zb
   have i2:=hu.to zb
   have gb:Below W0.heap.size W0 W0:=Below.refl _ _
   obtain ⟨⟨z0,ae,af,ag,az,aA,ah,ak,al,aJ,aK⟩,⟨z1,aB,aD,aE,aR,aS,aT,aU,aG,aH,aI,aV,aW,aX,aY⟩⟩:=ap.out _ gb
   go_wp2_with fail
   refine (zj _ (0) _ Hk.out).mono ?_
   rintro e w1 ⟨rfl,rfl⟩
   go_wp2_with fail
   refine (zf _ L xa _ (i2.to gb) HL.out _ Hpa.out).mono ?_
   rintro e w2 ⟨rfl,rfl⟩
   go_wp2_with fail
   refine (zf _ L xb _ (i2.to gb) HL.out _ Hpb.out).mono ?_
   rintro e w3 ⟨rfl,rfl⟩
   go_wp2_with fail
   go_ret
   exact ⟨rfl,bS zb gb⟩
  case false =>
   cases yb
   case true =>
    have ho:o=false:=by rw [<- ho'];simp
    subst ho
    clear ho'
    go_enter Tryz.func34,Tryz.ntmps34
    go_wp2_with fail
    obtain ⟨W0,an⟩:∃ W0,(w.alloc (.cells #[.int .i64 c.ins,.int .i64 c.rows,.int .i64 c.cols,.int .i64 c.regs,.slice a0 n0 c0] 24)).alloc (.cells #[.int .i64 0,.int .i64 to,.int .i64 xa,.int .i64 xb,.bool ng,.slice a1 n1 c1,.slice a2 n2 c2] 49)=W0:=⟨_,rfl⟩
    have ap:=Lib.hid (show ∀ W',Below W0.heap.size W0 W'->(Bx5 W' w.heap.size (.int .i64 c.ins) (.int .i64 c.rows) (.int .i64 c.cols) (.int .i64 c.regs) (.slice a0 n0 c0)/\Bx7 W' (w.heap.size+1) (.int .i64 0) (.int .i64 to) (.int .i64 xa) (.int .i64 xb) (.bool ng) (.slice a1 n1 c1) (.slice a2 n2 c2)) from fun W' hb => by
      refine ⟨bx5 hb ?_ ?_ ?_ ?_ ?_ ?_ ?_ ?_ ?_ ?_,bx7 hb ?_ ?_ ?_ ?_ ?_ ?_ ?_ ?_ ?_ ?_ ?_ ?_ ?_ ?_⟩
      all_goals first|assumption|(rw [<- an];simp [go_sem]))
    have zb:Below w.heap.size w W0:=by rw [<- an];exact bS (bN _ _) (bN _ _)
    rw [an]
    clear an
    have i0:=hc.to zb
    have i1:=hx.to zb
    have i2:=hu.to zb
    have gb:Below W0.heap.size W0 W0:=Below.refl _ _
    obtain ⟨⟨z0,ae,af,ag,az,aA,ah,ak,al,aJ,aK⟩,⟨z1,aB,aD,aE,aR,aS,aT,aU,aG,aH,aI,aV,aW,aX,aY⟩⟩:=ap.out _ gb
    go_wp2_with fail
    refine (zj _ (0) _ Hk.out).mono ?_
    rintro e w1 ⟨rfl,rfl⟩
    go_wp2_with fail
    refine (zf _ L xa _ (i2.to gb) HL.out _ Hpa.out).mono ?_
    rintro e w2 ⟨rfl,rfl⟩
    go_wp2_with fail
    refine (zf _ L xb _ (i2.to gb) HL.out _ Hpb.out).mono ?_
    rintro e w3 ⟨rfl,rfl⟩
    go_wp2_with fail
    go_ret
    exact ⟨rfl,bS zb gb⟩
   case false =>
    cases u1
    case true =>
     have ho:o=false:=by rw [<- ho'];simp
     subst ho
     clear ho'
     go_enter Tryz.func34,Tryz.ntmps34
     go_wp2_with fail
     obtain ⟨W0,an⟩:∃ W0,(w.alloc (.cells #[.int .i64 c.ins,.int .i64 c.rows,.int .i64 c.cols,.int .i64 c.regs,.slice a0 n0 c0] 24)).alloc (.cells #[.int .i64 0,.int .i64 to,.int .i64 xa,.int .i64 xb,.bool ng,.slice a1 n1 c1,.slice a2 n2 c2] 49)=W0:=⟨_,rfl⟩
     have ap:=Lib.hid (show ∀ W',Below W0.heap.size W0 W'->(Bx5 W' w.heap.size (.int .i64 c.ins) (.int .i64 c.rows) (.int .i64 c.cols) (.int .i64 c.regs) (.slice a0 n0 c0)/\Bx7 W' (w.heap.size+1) (.int .i64 0) (.int .i64 to) (.int .i64 xa) (.int .i64 xb) (.bool ng) (.slice a1 n1 c1) (.slice a2 n2 c2)) from fun W' hb => by
       refine ⟨bx5 hb ?_ ?_ ?_ ?_ ?_ ?_ ?_ ?_ ?_ ?_,bx7 hb ?_ ?_ ?_ ?_ ?_ ?_ ?_ ?_ ?_ ?_ ?_ ?_ ?_ ?_⟩
       all_goals first|assumption|(rw [<- an];simp [go_sem]))
     have zb:Below w.heap.size w W0:=by rw [<- an];exact bS (bN _ _) (bN _ _)
     rw [an]
     clear an
     have i0:=hc.to zb
     have i1:=hx.to zb
     have i2:=hu.to zb
     have gb:Below W0.heap.size W0 W0:=Below.refl _ _
     obtain ⟨⟨z0,ae,af,ag,az,aA,ah,ak,al,aJ,aK⟩,⟨z1,aB,aD,aE,aR,aS,aT,aU,aG,aH,aI,aV,aW,aX,aY⟩⟩:=ap.out _ gb
     go_wp2_with fail
     refine (zj _ (0) _ Hk.out).mono ?_
     rintro e w1 ⟨rfl,rfl⟩
     go_wp2_with fail
     refine (zf _ L xa _ (i2.to gb) HL.out _ Hpa.out).mono ?_
     rintro e w2 ⟨rfl,rfl⟩
     go_wp2_with fail
     refine (zf _ L xb _ (i2.to gb) HL.out _ Hpb.out).mono ?_
     rintro e w3 ⟨rfl,rfl⟩
     go_wp2_with fail
     go_ret
     exact ⟨rfl,bS zb gb⟩
    case false =>
     cases u2
     case true =>
      have ho:o=false:=by rw [<- ho'];simp
      subst ho
      clear ho'
      go_enter Tryz.func34,Tryz.ntmps34
      go_wp2_with fail
      obtain ⟨W0,an⟩:∃ W0,(w.alloc (.cells #[.int .i64 c.ins,.int .i64 c.rows,.int .i64 c.cols,.int .i64 c.regs,.slice a0 n0 c0] 24)).alloc (.cells #[.int .i64 0,.int .i64 to,.int .i64 xa,.int .i64 xb,.bool ng,.slice a1 n1 c1,.slice a2 n2 c2] 49)=W0:=⟨_,rfl⟩
      have ap:=Lib.hid (show ∀ W',Below W0.heap.size W0 W'->(Bx5 W' w.heap.size (.int .i64 c.ins) (.int .i64 c.rows) (.int .i64 c.cols) (.int .i64 c.regs) (.slice a0 n0 c0)/\Bx7 W' (w.heap.size+1) (.int .i64 0) (.int .i64 to) (.int .i64 xa) (.int .i64 xb) (.bool ng) (.slice a1 n1 c1) (.slice a2 n2 c2)) from fun W' hb => by
        refine ⟨bx5 hb ?_ ?_ ?_ ?_ ?_ ?_ ?_ ?_ ?_ ?_,bx7 hb ?_ ?_ ?_ ?_ ?_ ?_ ?_ ?_ ?_ ?_ ?_ ?_ ?_ ?_⟩
        all_goals first|assumption|(rw [<- an];simp [go_sem]))
      have zb:Below w.heap.size w W0:=by rw [<- an];exact bS (bN _ _) (bN _ _)
      rw [an]
      clear an
      have i0:=hc.to zb
      have i1:=hx.to zb
      have i2:=hu.to zb
      have gb:Below W0.heap.size W0 W0:=Below.refl _ _
      obtain ⟨⟨z0,ae,af,ag,az,aA,ah,ak,al,aJ,aK⟩,⟨z1,aB,aD,aE,aR,aS,aT,aU,aG,aH,aI,aV,aW,aX,aY⟩⟩:=ap.out _ gb
      go_wp2_with fail
      refine (zj _ (0) _ Hk.out).mono ?_
      rintro e w1 ⟨rfl,rfl⟩
      go_wp2_with fail
      refine (zf _ L xa _ (i2.to gb) HL.out _ Hpa.out).mono ?_
      rintro e w2 ⟨rfl,rfl⟩
      go_wp2_with fail
      refine (zf _ L xb _ (i2.to gb) HL.out _ Hpb.out).mono ?_
      rintro e w3 ⟨rfl,rfl⟩
      go_wp2_with fail
      go_ret
      exact ⟨rfl,bS zb gb⟩
     case false =>
      have ho:nu=o:=by rw [<- ho'];cases nu <;> rfl
      subst ho
      clear ho'
      have Ho:=Lib.hid (show (ng == false && decide (ln=[]) && decide (ld=[]))=nu by rw [<- zcU (op:=0) (to:=to) (xa:=xa) (xb:=xb) (by decide)];exact Hnu.out)
      go_enter Tryz.func34,Tryz.ntmps34
      go_wp2_with fail
      obtain ⟨W0,an⟩:∃ W0,(w.alloc (.cells #[.int .i64 c.ins,.int .i64 c.rows,.int .i64 c.cols,.int .i64 c.regs,.slice a0 n0 c0] 24)).alloc (.cells #[.int .i64 0,.int .i64 to,.int .i64 xa,.int .i64 xb,.bool ng,.slice a1 n1 c1,.slice a2 n2 c2] 49)=W0:=⟨_,rfl⟩
      have ap:=Lib.hid (show ∀ W',Below W0.heap.size W0 W'->(Bx5 W' w.heap.size (.int .i64 c.ins) (.int .i64 c.rows) (.int .i64 c.cols) (.int .i64 c.regs) (.slice a0 n0 c0)/\Bx7 W' (w.heap.size+1) (.int .i64 0) (.int .i64 to) (.int .i64 xa) (.int .i64 xb) (.bool ng) (.slice a1 n1 c1) (.slice a2 n2 c2)) from fun W' hb => by
        refine ⟨bx5 hb ?_ ?_ ?_ ?_ ?_ ?_ ?_ ?_ ?_ ?_,bx7 hb ?_ ?_ ?_ ?_ ?_ ?_ ?_ ?_ ?_ ?_ ?_ ?_ ?_ ?_⟩
        all_goals first|assumption|(rw [<- an];simp [go_sem]))
      have zb:Below w.heap.size w W0:=by rw [<- an];exact bS (bN _ _) (bN _ _)
      rw [an]
      clear an
      have i0:=hc.to zb
      have i1:=hx.to zb
      have i2:=hu.to zb
      have gb:Below W0.heap.size W0 W0:=Below.refl _ _
      obtain ⟨⟨z0,ae,af,ag,az,aA,ah,ak,al,aJ,aK⟩,⟨z1,aB,aD,aE,aR,aS,aT,aU,aG,aH,aI,aV,aW,aX,aY⟩⟩:=ap.out _ gb
      go_wp2_with fail
      refine (zj _ (0) _ Hk.out).mono ?_
      rintro e w1 ⟨rfl,rfl⟩
      go_wp2_with fail
      refine (zf _ L xa _ (i2.to gb) HL.out _ Hpa.out).mono ?_
      rintro e w2 ⟨rfl,rfl⟩
      go_wp2_with fail
      refine (zf _ L xb _ (i2.to gb) HL.out _ Hpb.out).mono ?_
      rintro e w3 ⟨rfl,rfl⟩
      go_wp2_with fail
      refine (zby ng _ _ ln ld false _ _ [] [] _ ((i1.to gb)).1.isF ⟨Rd.nil _,Rd.nil _⟩ _ Ho.out).mono ?_
      clear ae ah af ak ag al az aJ aA aK aB aG aD aH aE aI aR aV aS aW aT aX aU aY
      rintro e w4 ⟨rfl,dd⟩
      replace gb:=bS gb dd
      obtain ⟨⟨z0,ae,af,ag,az,aA,ah,ak,al,aJ,aK⟩,⟨z1,aB,aD,aE,aR,aS,aT,aU,aG,aH,aI,aV,aW,aX,aY⟩⟩:=ap.out _ gb
      go_wp2_with fail
      go_ret
      exact ⟨rfl,bS zb gb⟩

theorem zfl (c:Cd) (v:Value) (op to xa xb:Int) (ng:Bool) (vn vd:Value) (ln ld:List Nat) (u:Value) (L:List Int) (w:World) (hc:IsC w c v) (hx:IsX w ⟨op,to,xa,xb,⟨ng,ln,ld⟩⟩ vn vd) (hu:RdI w u L) (hL:L.length<=100000) (hr:1<=c.rows/\c.rows<=40) (hcl:1<=c.cols/\c.cols<=40) (h1:op=1) (o:Bool) (ho:zp c L ⟨op,to,xa,xb,⟨ng,ln,ld⟩⟩=o) :
  Calls Tryz.prog 34 #[aggC c v,.agg #[.int .i64 op,.int .i64 to,.int .i64 xa,.int .i64 xb,.bool ng,vn,vd],u] w (fun e w' => e=.returned (.bool o)/\Below w.heap.size w w'):=by
 have no0:op≠0:=by omega
 have t0:(op == 0)=false:=by simp;exact no0
 have t1:(op == 1)=true:=by simp;exact h1
 have no6:op≠6:=by omega
 have t6:(op == 6)=false:=by simp;exact no6
 have no7:op≠7:=by omega
 have t7:(op == 7)=false:=by simp;exact no7
 have no10:op≠10:=by omega
 have t10:(op == 10)=false:=by simp;exact no10
 have t1':(op != 1)=false:=by simp;exact h1
 have hk:zd op=0:=by rw [h1];decide
 have hk0:0<=zd op:=by rw [hk];decide
 have pb9:=zae hr hcl
 have HM:IntKind.i64.wrap (c.rows*c.cols)=c.rows*c.cols:=IntWalk.i64_in _ (by omega)
 obtain ⟨ya,tya⟩:∃ b,(xa != 0)=b:=⟨_,rfl⟩
 obtain ⟨yb,tyb⟩:∃ b,(xb != 0)=b:=⟨_,rfl⟩
 obtain ⟨u1,tu1⟩:∃ b,decide (to<0)=b:=⟨_,rfl⟩
 obtain ⟨u2,tu2⟩:∃ b,decide (c.regs<=to)=b:=⟨_,rfl⟩
 have eA:aOk c L ⟨op,to,xa,xb,⟨ng,ln,ld⟩⟩=(!ya):=(show aOk c L ⟨op,to,xa,xb,⟨ng,ln,ld⟩⟩=decide (xa=0) by unfold aOk;rw [if_neg no0,if_pos h1]).trans (by rw [<- zds,tya])
 have eB:bOk L ⟨op,to,xa,xb,⟨ng,ln,ld⟩⟩=(!yb):=(zcC no7).trans (show (if decide (zd op=2)=true then decide (xb ∈ L) else decide (xb=0))=(!yb) by rw [hk,if_neg (by decide),<- zds,tyb])
 have eM:zD c ⟨op,to,xa,xb,⟨ng,ln,ld⟩⟩=c.regs:=if_neg no10
 have hnE:zaJ ⟨op,to,xa,xb,⟨ng,ln,ld⟩⟩=(zcy ng ln ld (Rt.num ⟨ng,ln,ld⟩) && decide ((zaP (val ln)).length<=40) && decide ((zaP (val ld)).length<=40)):=if_pos h1
 rw [zcT (x:=⟨op,to,xa,xb,⟨ng,ln,ld⟩⟩) hk0,eA,eB,eM] at ho
 obtain ⟨nu,hnu⟩:∃ b,zaJ ⟨op,to,xa,xb,⟨ng,ln,ld⟩⟩=b:=⟨_,rfl⟩
 have ho':((!ya) && (!yb) && (!u1 && !u2) && nu)=o:=by rw [<- ho,hnu,<- tu1,<- tu2,zci,zdb]
 have HnE:=Lib.hid hnE
 clear hnE
 have Hnu:=Lib.hid hnu
 have HL:=Lib.hid hL
 have Hk:=Lib.hid hk
 obtain ⟨pa,hpa⟩:∃ b,decide (xa ∈ L)=b:=⟨_,rfl⟩
 obtain ⟨pb,hpb⟩:∃ b,decide (xb ∈ L)=b:=⟨_,rfl⟩
 have Hpa:=Lib.hid hpa
 have Hpb:=Lib.hid hpb
 have hn1:ln.length<=1000:=hx.1.2.2.2.1
 have hd1:ld.length<=1000:=hx.1.2.2.2.2
 clear ho hnu hpa hpb eA eB eM hk hk0 pb9 hL 
 clear t0 t1 t6 t7 t10 t1'
 subst h1
 obtain ⟨a0,n0,c0,rfl,H0,hm0⟩:=hc.1.open
 obtain ⟨a1,n1,c1,rfl,H1,hm1⟩:=hx.1.1.open
 obtain ⟨a2,n2,c2,rfl,H2,hm2⟩:=hx.1.2.1.open
 cases ya
 case true =>
  have ho:o=false:=by rw [<- ho'];simp
  subst ho
  clear ho'
  go_enter Tryz.func34,Tryz.ntmps34
  go_wp2_with fail
  obtain ⟨W0,an⟩:∃ W0,(w.alloc (.cells #[.int .i64 c.ins,.int .i64 c.rows,.int .i64 c.cols,.int .i64 c.regs,.slice a0 n0 c0] 24)).alloc (.cells #[.int .i64 1,.int .i64 to,.int .i64 xa,.int .i64 xb,.bool ng,.slice a1 n1 c1,.slice a2 n2 c2] 49)=W0:=⟨_,rfl⟩
  have ap:=Lib.hid (show ∀ W',Below W0.heap.size W0 W'->(Bx5 W' w.heap.size (.int .i64 c.ins) (.int .i64 c.rows) (.int .i64 c.cols) (.int .i64 c.regs) (.slice a0 n0 c0)/\Bx7 W' (w.heap.size+1) (.int .i64 1) (.int .i64 to) (.int .i64 xa) (.int .i64 xb) (.bool ng) (.slice a1 n1 c1) (.slice a2 n2 c2)) from fun W' hb => by
    refine ⟨bx5 hb ?_ ?_ ?_ ?_ ?_ ?_ ?_ ?_ ?_ ?_,bx7 hb ?_ ?_ ?_ ?_ ?_ ?_ ?_ ?_ ?_ ?_ ?_ ?_ ?_ ?_⟩
    all_goals first|assumption|(rw [<- an];simp [go_sem]))
  have zb:Below w.heap.size w W0:=by rw [<- an];exact bS (bN _ _) (bN _ _)
  rw [an]
  clear an
  have i0:=hc.to zb
  have i1:=hx.to zb
  have i2:=hu.to zb
  have gb:Below W0.heap.size W0 W0:=Below.refl _ _
  obtain ⟨⟨z0,ae,af,ag,az,aA,ah,ak,al,aJ,aK⟩,⟨z1,aB,aD,aE,aR,aS,aT,aU,aG,aH,aI,aV,aW,aX,aY⟩⟩:=ap.out _ gb
  go_wp2_with fail
  refine (zj _ (0) _ Hk.out).mono ?_
  rintro e w1 ⟨rfl,rfl⟩
  go_wp2_with fail
  refine (zf _ L xa _ (i2.to gb) HL.out _ Hpa.out).mono ?_
  rintro e w2 ⟨rfl,rfl⟩
  go_wp2_with fail
  refine (zf _ L xb _ (i2.to gb) HL.out _ Hpb.out).mono ?_
  rintro e w3 ⟨rfl,rfl⟩
  go_wp2_with fail
  go_ret
  exact ⟨rfl,bS zb gb⟩
 case false =>
  cases yb
  case true =>
   have ho:o=false:=by rw [<- ho'];simp
   subst ho
   clear ho'
   go_enter Tryz.func34,Tryz.ntmps34
   go_wp2_with fail
   obtain ⟨W0,an⟩:∃ W0,(w.alloc (.cells #[.int .i64 c.ins,.int .i64 c.rows,.int .i64 c.cols,.int .i64 c.regs,.slice a0 n0 c0] 24)).alloc (.cells #[.int .i64 1,.int .i64 to,.int .i64 xa,.int .i64 xb,.bool ng,.slice a1 n1 c1,.slice a2 n2 c2] 49)=W0:=⟨_,rfl⟩
   have ap:=Lib.hid (show ∀ W',Below W0.heap.size W0 W'->(Bx5 W' w.heap.size (.int .i64 c.ins) (.int .i64 c.rows) (.int .i64 c.cols) (.int .i64 c.regs) (.slice a0 n0 c0)/\Bx7 W' (w.heap.size+1) (.int .i64 1) (.int .i64 to) (.int .i64 xa) (.int .i64 xb) (.bool ng) (.slice a1 n1 c1) (.slice a2 n2 c2)) from fun W' hb => by
     refine ⟨bx5 hb ?_ ?_ ?_ ?_ ?_ ?_ ?_ ?_ ?_ ?_,bx7 hb ?_ ?_ ?_ ?_ ?_ ?_ ?_ ?_ ?_ ?_ ?_ ?_ ?_ ?_⟩
     all_goals first|assumption|(rw [<- an];simp [go_sem]))
   have zb:Below w.heap.size w W0:=by rw [<- an];exact bS (bN _ _) (bN _ _)
   rw [an]
   clear an
   have i0:=hc.to zb
   have i1:=hx.to zb
   have i2:=hu.to zb
   have gb:Below W0.heap.size W0 W0:=Below.refl _ _
   obtain ⟨⟨z0,ae,af,ag,az,aA,ah,ak,al,aJ,aK⟩,⟨z1,aB,aD,aE,aR,aS,aT,aU,aG,aH,aI,aV,aW,aX,aY⟩⟩:=ap.out _ gb
   go_wp2_with fail
   refine (zj _ (0) _ Hk.out).mono ?_
   rintro e w1 ⟨rfl,rfl⟩
   go_wp2_with fail
   refine (zf _ L xa _ (i2.to gb) HL.out _ Hpa.out).mono ?_
   rintro e w2 ⟨rfl,rfl⟩
   go_wp2_with fail
   refine (zf _ L xb _ (i2.to gb) HL.out _ Hpb.out).mono ?_
   rintro e w3 ⟨rfl,rfl⟩
   go_wp2_with fail
   go_ret
   exact ⟨rfl,bS zb gb⟩
  case false =>
   cases u1
   case true =>
    have ho:o=false:=by rw [<- ho'];simp
    subst ho
    clear ho'
    go_enter Tryz.func34,Tryz.ntmps34
    go_wp2_with fail
    obtain ⟨W0,an⟩:∃ W0,(w.alloc (.cells #[.int .i64 c.ins,.int .i64 c.rows,.int .i64 c.cols,.int .i64 c.regs,.slice a0 n0 c0] 24)).alloc (.cells #[.int .i64 1,.int .i64 to,.int .i64 xa,.int .i64 xb,.bool ng,.slice a1 n1 c1,.slice a2 n2 c2] 49)=W0:=⟨_,rfl⟩
    have ap:=Lib.hid (show ∀ W',Below W0.heap.size W0 W'->(Bx5 W' w.heap.size (.int .i64 c.ins) (.int .i64 c.rows) (.int .i64 c.cols) (.int .i64 c.regs) (.slice a0 n0 c0)/\Bx7 W' (w.heap.size+1) (.int .i64 1) (.int .i64 to) (.int .i64 xa) (.int .i64 xb) (.bool ng) (.slice a1 n1 c1) (.slice a2 n2 c2)) from fun W' hb => by
      refine ⟨bx5 hb ?_ ?_ ?_ ?_ ?_ ?_ ?_ ?_ ?_ ?_,bx7 hb ?_ ?_ ?_ ?_ ?_ ?_ ?_ ?_ ?_ ?_ ?_ ?_ ?_ ?_⟩
      all_goals first|assumption|(rw [<- an];simp [go_sem]))
    have zb:Below w.heap.size w W0:=by rw [<- an];exact bS (bN _ _) (bN _ _)
    rw [an]
    clear an
    have i0:=hc.to zb
    have i1:=hx.to zb
    have i2:=hu.to zb
    have gb:Below W0.heap.size W0 W0:=Below.refl _ _
    obtain ⟨⟨z0,ae,af,ag,az,aA,ah,ak,al,aJ,aK⟩,⟨z1,aB,aD,aE,aR,aS,aT,aU,aG,aH,aI,aV,aW,aX,aY⟩⟩:=ap.out _ gb
    go_wp2_with fail
    refine (zj _ (0) _ Hk.out).mono ?_
    rintro e w1 ⟨rfl,rfl⟩
    go_wp2_with fail
    refine (zf _ L xa _ (i2.to gb) HL.out _ Hpa.out).mono ?_
    rintro e w2 ⟨rfl,rfl⟩
    go_wp2_with fail
    refine (zf _ L xb _ (i2.to gb) HL.out _ Hpb.out).mono ?_
    rintro e w3 ⟨rfl,rfl⟩
    go_wp2_with fail
    go_ret
    exact ⟨rfl,bS zb gb⟩
   case false =>
    cases u2
    case true =>
     have ho:o=false:=by rw [<- ho'];simp
     subst ho
     clear ho'
     go_enter Tryz.func34,Tryz.ntmps34
     go_wp2_with fail
     obtain ⟨W0,an⟩:∃ W0,(w.alloc (.cells #[.int .i64 c.ins,.int .i64 c.rows,.int .i64 c.cols,.int .i64 c.regs,.slice a0 n0 c0] 24)).alloc (.cells #[.int .i64 1,.int .i64 to,.int .i64 xa,.int .i64 xb,.bool ng,.slice a1 n1 c1,.slice a2 n2 c2] 49)=W0:=⟨_,rfl⟩
     have ap:=Lib.hid (show ∀ W',Below W0.heap.size W0 W'->(Bx5 W' w.heap.size (.int .i64 c.ins) (.int .i64 c.rows) (.int .i64 c.cols) (.int .i64 c.regs) (.slice a0 n0 c0)/\Bx7 W' (w.heap.size+1) (.int .i64 1) (.int .i64 to) (.int .i64 xa) (.int .i64 xb) (.bool ng) (.slice a1 n1 c1) (.slice a2 n2 c2)) from fun W' hb => by
       refine ⟨bx5 hb ?_ ?_ ?_ ?_ ?_ ?_ ?_ ?_ ?_ ?_,bx7 hb ?_ ?_ ?_ ?_ ?_ ?_ ?_ ?_ ?_ ?_ ?_ ?_ ?_ ?_⟩
       all_goals first|assumption|(rw [<- an];simp [go_sem]))
     have zb:Below w.heap.size w W0:=by rw [<- an];exact bS (bN _ _) (bN _ _)
     rw [an]
     clear an
     have i0:=hc.to zb
     have i1:=hx.to zb
     have i2:=hu.to zb
     have gb:Below W0.heap.size W0 W0:=Below.refl _ _
     obtain ⟨⟨z0,ae,af,ag,az,aA,ah,ak,al,aJ,aK⟩,⟨z1,aB,aD,aE,aR,aS,aT,aU,aG,aH,aI,aV,aW,aX,aY⟩⟩:=ap.out _ gb
     go_wp2_with fail
     refine (zj _ (0) _ Hk.out).mono ?_
     rintro e w1 ⟨rfl,rfl⟩
     go_wp2_with fail
     refine (zf _ L xa _ (i2.to gb) HL.out _ Hpa.out).mono ?_
     rintro e w2 ⟨rfl,rfl⟩
     go_wp2_with fail
     refine (zf _ L xb _ (i2.to gb) HL.out _ Hpb.out).mono ?_
     rintro e w3 ⟨rfl,rfl⟩
     go_wp2_with fail
     go_ret
     exact ⟨rfl,bS zb gb⟩
    case false =>
     have ho:nu=o:=by rw [<- ho'];cases nu <;> rfl
     subst ho
     clear ho'
     obtain ⟨r,hr9⟩:∃ r,zcy ng ln ld (Rt.num ⟨ng,ln,ld⟩)=r:=⟨_,rfl⟩
     obtain ⟨d0,q0⟩:∃ b,decide ((zaP (val ln)).length<=40)=b:=⟨_,rfl⟩
     obtain ⟨d1,q1⟩:∃ b,decide ((zaP (val ld)).length<=40)=b:=⟨_,rfl⟩
     have ho:(r && d0 && d1)=nu:=by rw [<- hr9,<- q0,<- q1,<- HnE.out];exact Hnu.out
     have Hr:=Lib.hid hr9
     have e0:=zjK _ _ q0
     have e1:=zjK _ _ q1
     clear hr9 q0 q1 Hnu HnE
     subst ho
     cases r
     case false =>
      go_enter Tryz.func34,Tryz.ntmps34
      go_wp2_with fail
      obtain ⟨W0,an⟩:∃ W0,(w.alloc (.cells #[.int .i64 c.ins,.int .i64 c.rows,.int .i64 c.cols,.int .i64 c.regs,.slice a0 n0 c0] 24)).alloc (.cells #[.int .i64 1,.int .i64 to,.int .i64 xa,.int .i64 xb,.bool ng,.slice a1 n1 c1,.slice a2 n2 c2] 49)=W0:=⟨_,rfl⟩
      have ap:=Lib.hid (show ∀ W',Below W0.heap.size W0 W'->(Bx5 W' w.heap.size (.int .i64 c.ins) (.int .i64 c.rows) (.int .i64 c.cols) (.int .i64 c.regs) (.slice a0 n0 c0)/\Bx7 W' (w.heap.size+1) (.int .i64 1) (.int .i64 to) (.int .i64 xa) (.int .i64 xb) (.bool ng) (.slice a1 n1 c1) (.slice a2 n2 c2)) from fun W' hb => by
        refine ⟨bx5 hb ?_ ?_ ?_ ?_ ?_ ?_ ?_ ?_ ?_ ?_,bx7 hb ?_ ?_ ?_ ?_ ?_ ?_ ?_ ?_ ?_ ?_ ?_ ?_ ?_ ?_⟩
        all_goals first|assumption|(rw [<- an];simp [go_sem]))
      have zb:Below w.heap.size w W0:=by rw [<- an];exact bS (bN _ _) (bN _ _)
      rw [an]
      clear an
      have i0:=hc.to zb
      have i1:=hx.to zb
      have i2:=hu.to zb
      have gb:Below W0.heap.size W0 W0:=Below.refl _ _
      obtain ⟨⟨z0,ae,af,ag,az,aA,ah,ak,al,aJ,aK⟩,⟨z1,aB,aD,aE,aR,aS,aT,aU,aG,aH,aI,aV,aW,aX,aY⟩⟩:=ap.out _ gb
      go_wp2_with fail
      refine (zj _ (0) _ Hk.out).mono ?_
      rintro e w1 ⟨rfl,rfl⟩
      go_wp2_with fail
      refine (zf _ L xa _ (i2.to gb) HL.out _ Hpa.out).mono ?_
      rintro e w2 ⟨rfl,rfl⟩
      go_wp2_with fail
      refine (zf _ L xb _ (i2.to gb) HL.out _ Hpb.out).mono ?_
      rintro e w3 ⟨rfl,rfl⟩
      go_wp2_with fail
      refine (zen ng _ _ ln ld _ ((i1.to gb)).1 false Hr.out).mono ?_
      clear ae ah af ak ag al az aJ aA aK aB aG aD aH aE aI aR aV aS aW aT aX aU aY
      rintro e w4 ⟨rfl,dd⟩
      replace gb:=bS gb dd
      obtain ⟨⟨z0,ae,af,ag,az,aA,ah,ak,al,aJ,aK⟩,⟨z1,aB,aD,aE,aR,aS,aT,aU,aG,aH,aI,aV,aW,aX,aY⟩⟩:=ap.out _ gb
      go_wp2_with fail
      go_ret
      exact ⟨rfl,bS zb gb⟩
     case true =>
      cases d0
      case false =>
       go_enter Tryz.func34,Tryz.ntmps34
       go_wp2_with fail
       obtain ⟨W0,an⟩:∃ W0,(w.alloc (.cells #[.int .i64 c.ins,.int .i64 c.rows,.int .i64 c.cols,.int .i64 c.regs,.slice a0 n0 c0] 24)).alloc (.cells #[.int .i64 1,.int .i64 to,.int .i64 xa,.int .i64 xb,.bool ng,.slice a1 n1 c1,.slice a2 n2 c2] 49)=W0:=⟨_,rfl⟩
       have ap:=Lib.hid (show ∀ W',Below W0.heap.size W0 W'->(Bx5 W' w.heap.size (.int .i64 c.ins) (.int .i64 c.rows) (.int .i64 c.cols) (.int .i64 c.regs) (.slice a0 n0 c0)/\Bx7 W' (w.heap.size+1) (.int .i64 1) (.int .i64 to) (.int .i64 xa) (.int .i64 xb) (.bool ng) (.slice a1 n1 c1) (.slice a2 n2 c2)) from fun W' hb => by
         refine ⟨bx5 hb ?_ ?_ ?_ ?_ ?_ ?_ ?_ ?_ ?_ ?_,bx7 hb ?_ ?_ ?_ ?_ ?_ ?_ ?_ ?_ ?_ ?_ ?_ ?_ ?_ ?_⟩
         all_goals first|assumption|(rw [<- an];simp [go_sem]))
       have zb:Below w.heap.size w W0:=by rw [<- an];exact bS (bN _ _) (bN _ _)
       rw [an]
       clear an
       have i0:=hc.to zb
       have i1:=hx.to zb
       have i2:=hu.to zb
       have gb:Below W0.heap.size W0 W0:=Below.refl _ _
       obtain ⟨⟨z0,ae,af,ag,az,aA,ah,ak,al,aJ,aK⟩,⟨z1,aB,aD,aE,aR,aS,aT,aU,aG,aH,aI,aV,aW,aX,aY⟩⟩:=ap.out _ gb
       go_wp2_with fail
       refine (zj _ (0) _ Hk.out).mono ?_
       rintro e w1 ⟨rfl,rfl⟩
       go_wp2_with fail
       refine (zf _ L xa _ (i2.to gb) HL.out _ Hpa.out).mono ?_
       rintro e w2 ⟨rfl,rfl⟩
       go_wp2_with fail
       refine (zf _ L xb _ (i2.to gb) HL.out _ Hpb.out).mono ?_
       rintro e w3 ⟨rfl,rfl⟩
       go_wp2_with fail
       refine (zen ng _ _ ln ld _ ((i1.to gb)).1 true Hr.out).mono ?_
       clear ae ah af ak ag al az aJ aA aK aB aG aD aH aE aI aR aV aS aW aT aX aU aY
       rintro e w4 ⟨rfl,dd⟩
       replace gb:=bS gb dd
       obtain ⟨⟨z0,ae,af,ag,az,aA,ah,ak,al,aJ,aK⟩,⟨z1,aB,aD,aE,aR,aS,aT,aU,aG,aH,aI,aV,aW,aX,aY⟩⟩:=ap.out _ gb
       go_wp2_with fail
       refine (zem _ ln _ ((i1.to gb)).1.1 (by omega)).mono ?_
       clear ae ah af ak ag al az aJ aA aK aB aG aD aH aE aI aR aV aS aW aT aX aU aY
       rintro e w5 ⟨rfl,cU⟩
       replace gb:=bS gb cU
       obtain ⟨⟨z0,ae,af,ag,az,aA,ah,ak,al,aJ,aK⟩,⟨z1,aB,aD,aE,aR,aS,aT,aU,aG,aH,aI,aV,aW,aX,aY⟩⟩:=ap.out _ gb
       go_wp2_with fail
       go_ret
       exact ⟨rfl,bS zb gb⟩
      case true =>
       go_enter Tryz.func34,Tryz.ntmps34
       go_wp2_with fail
       obtain ⟨W0,an⟩:∃ W0,(w.alloc (.cells #[.int .i64 c.ins,.int .i64 c.rows,.int .i64 c.cols,.int .i64 c.regs,.slice a0 n0 c0] 24)).alloc (.cells #[.int .i64 1,.int .i64 to,.int .i64 xa,.int .i64 xb,.bool ng,.slice a1 n1 c1,.slice a2 n2 c2] 49)=W0:=⟨_,rfl⟩
       have ap:=Lib.hid (show ∀ W',Below W0.heap.size W0 W'->(Bx5 W' w.heap.size (.int .i64 c.ins) (.int .i64 c.rows) (.int .i64 c.cols) (.int .i64 c.regs) (.slice a0 n0 c0)/\Bx7 W' (w.heap.size+1) (.int .i64 1) (.int .i64 to) (.int .i64 xa) (.int .i64 xb) (.bool ng) (.slice a1 n1 c1) (.slice a2 n2 c2)) from fun W' hb => by
         refine ⟨bx5 hb ?_ ?_ ?_ ?_ ?_ ?_ ?_ ?_ ?_ ?_,bx7 hb ?_ ?_ ?_ ?_ ?_ ?_ ?_ ?_ ?_ ?_ ?_ ?_ ?_ ?_⟩
         all_goals first|assumption|(rw [<- an];simp [go_sem]))
       have zb:Below w.heap.size w W0:=by rw [<- an];exact bS (bN _ _) (bN _ _)
       rw [an]
       clear an
       have i0:=hc.to zb
       have i1:=hx.to zb
       have i2:=hu.to zb
       have gb:Below W0.heap.size W0 W0:=Below.refl _ _
       obtain ⟨⟨z0,ae,af,ag,az,aA,ah,ak,al,aJ,aK⟩,⟨z1,aB,aD,aE,aR,aS,aT,aU,aG,aH,aI,aV,aW,aX,aY⟩⟩:=ap.out _ gb
       go_wp2_with fail
       refine (zj _ (0) _ Hk.out).mono ?_
       rintro e w1 ⟨rfl,rfl⟩
       go_wp2_with fail
       refine (zf _ L xa _ (i2.to gb) HL.out _ Hpa.out).mono ?_
       rintro e w2 ⟨rfl,rfl⟩
       go_wp2_with fail
       refine (zf _ L xb _ (i2.to gb) HL.out _ Hpb.out).mono ?_
       rintro e w3 ⟨rfl,rfl⟩
       go_wp2_with fail
       refine (zen ng _ _ ln ld _ ((i1.to gb)).1 true Hr.out).mono ?_
       clear ae ah af ak ag al az aJ aA aK aB aG aD aH aE aI aR aV aS aW aT aX aU aY
       rintro e w4 ⟨rfl,dd⟩
       replace gb:=bS gb dd
       obtain ⟨⟨z0,ae,af,ag,az,aA,ah,ak,al,aJ,aK⟩,⟨z1,aB,aD,aE,aR,aS,aT,aU,aG,aH,aI,aV,aW,aX,aY⟩⟩:=ap.out _ gb
       go_wp2_with fail
       refine (zem _ ln _ ((i1.to gb)).1.1 (by omega)).mono ?_
       clear ae ah af ak ag al az aJ aA aK aB aG aD aH aE aI aR aV aS aW aT aX aU aY
       rintro e w5 ⟨rfl,cU⟩
       replace gb:=bS gb cU
       obtain ⟨⟨z0,ae,af,ag,az,aA,ah,ak,al,aJ,aK⟩,⟨z1,aB,aD,aE,aR,aS,aT,aU,aG,aH,aI,aV,aW,aX,aY⟩⟩:=ap.out _ gb
       go_wp2_with fail
       refine (zem _ ld _ ((i1.to gb)).1.2.1 (by omega)).mono ?_
       clear ae ah af ak ag al az aJ aA aK aB aG aD aH aE aI aR aV aS aW aT aX aU aY
       rintro e w6 ⟨rfl,dF⟩
       replace gb:=bS gb dF
       obtain ⟨⟨z0,ae,af,ag,az,aA,ah,ak,al,aJ,aK⟩,⟨z1,aB,aD,aE,aR,aS,aT,aU,aG,aH,aI,aV,aW,aX,aY⟩⟩:=ap.out _ gb
       go_wp2_with fail
       go_ret
       exact ⟨rfl,bS zb gb⟩

theorem zfp (c:Cd) (v:Value) (op to xa xb:Int) (ng:Bool) (vn vd:Value) (ln ld:List Nat) (u:Value) (L:List Int) (w:World) (hc:IsC w c v) (hx:IsX w ⟨op,to,xa,xb,⟨ng,ln,ld⟩⟩ vn vd) (hu:RdI w u L) (hL:L.length<=100000) (hr:1<=c.rows/\c.rows<=40) (hcl:1<=c.cols/\c.cols<=40) (h1:zd op=2) (o:Bool) (ho:zp c L ⟨op,to,xa,xb,⟨ng,ln,ld⟩⟩=o) :
  Calls Tryz.prog 34 #[aggC c v,.agg #[.int .i64 op,.int .i64 to,.int .i64 xa,.int .i64 xb,.bool ng,vn,vd],u] w (fun e w' => e=.returned (.bool o)/\Below w.heap.size w w'):=by
 have no0:op≠0:=fun e => by rw [e] at h1;exact absurd h1 (by decide)
 have t0:(op == 0)=false:=by simp;exact no0
 have no1:op≠1:=fun e => by rw [e] at h1;exact absurd h1 (by decide)
 have t1:(op == 1)=false:=by simp;exact no1
 have no6:op≠6:=fun e => by rw [e] at h1;exact absurd h1 (by decide)
 have t6:(op == 6)=false:=by simp;exact no6
 have no7:op≠7:=fun e => by rw [e] at h1;exact absurd h1 (by decide)
 have t7:(op == 7)=false:=by simp;exact no7
 have no10:op≠10:=fun e => by rw [e] at h1;exact absurd h1 (by decide)
 have t10:(op == 10)=false:=by simp;exact no10
 have t1':(op != 1)=true:=by simp;exact no1
 have hk:zd op=2:=h1
 have hk0:0<=zd op:=by rw [hk];decide
 have pb9:=zae hr hcl
 have HM:IntKind.i64.wrap (c.rows*c.cols)=c.rows*c.cols:=IntWalk.i64_in _ (by omega)
 obtain ⟨pa',tpa'⟩:∃ b,(!decide (xa ∈ L))=b:=⟨_,rfl⟩
 obtain ⟨pb',tpb'⟩:∃ b,(!decide (xb ∈ L))=b:=⟨_,rfl⟩
 obtain ⟨u1,tu1⟩:∃ b,decide (to<0)=b:=⟨_,rfl⟩
 obtain ⟨u2,tu2⟩:∃ b,decide (c.regs<=to)=b:=⟨_,rfl⟩
 have eA:aOk c L ⟨op,to,xa,xb,⟨ng,ln,ld⟩⟩=(!pa'):=(zcY hk0 no0).trans (show (if decide (1<=zd op)=true then decide (xa ∈ L) else decide (xa=0))=(!pa') by rw [hk,if_pos (by decide),<- tpa',Bool.not_not])
 have eB:bOk L ⟨op,to,xa,xb,⟨ng,ln,ld⟩⟩=(!pb'):=(zcC no7).trans (show (if decide (zd op=2)=true then decide (xb ∈ L) else decide (xb=0))=(!pb') by rw [hk,if_pos (by decide),<- tpb',Bool.not_not])
 have eM:zD c ⟨op,to,xa,xb,⟨ng,ln,ld⟩⟩=c.regs:=if_neg no10
 rw [zcT (x:=⟨op,to,xa,xb,⟨ng,ln,ld⟩⟩) hk0,eA,eB,eM] at ho
 obtain ⟨nu,hnu⟩:∃ b,zaJ ⟨op,to,xa,xb,⟨ng,ln,ld⟩⟩=b:=⟨_,rfl⟩
 have ho':((!pa') && (!pb') && (!u1 && !u2) && nu)=o:=by rw [<- ho,hnu,<- tu1,<- tu2,zci,zdb]
 have Hnu:=Lib.hid hnu
 have HL:=Lib.hid hL
 have Hk:=Lib.hid hk
 obtain ⟨pa,hpa⟩:∃ b,decide (xa ∈ L)=b:=⟨_,rfl⟩
 obtain ⟨pb,hpb⟩:∃ b,decide (xb ∈ L)=b:=⟨_,rfl⟩
 have Hpa:=Lib.hid hpa
 have Hpb:=Lib.hid hpb
 have wpa:(!pa)=pa':=by rw [<- hpa,tpa']
 have wpb:(!pb)=pb':=by rw [<- hpb,tpb']
 have hn1:ln.length<=1000:=hx.1.2.2.2.1
 have hd1:ld.length<=1000:=hx.1.2.2.2.2
 clear ho hnu hpa hpb eA eB eM hk hk0 pb9 hL tpa' tpb' no0 no6 no7 no10 h1
 obtain ⟨a0,n0,c0,rfl,H0,hm0⟩:=hc.1.open
 obtain ⟨a1,n1,c1,rfl,H1,hm1⟩:=hx.1.1.open
 obtain ⟨a2,n2,c2,rfl,H2,hm2⟩:=hx.1.2.1.open
 cases pa'
 case true =>
  have ho:o=false:=by rw [<- ho'];simp
  subst ho
  clear ho'
  obtain rfl:pa=false:=by simpa using wpa
  go_enter Tryz.func34,Tryz.ntmps34
  go_wp2_with fail
  obtain ⟨W0,an⟩:∃ W0,(w.alloc (.cells #[.int .i64 c.ins,.int .i64 c.rows,.int .i64 c.cols,.int .i64 c.regs,.slice a0 n0 c0] 24)).alloc (.cells #[.int .i64 op,.int .i64 to,.int .i64 xa,.int .i64 xb,.bool ng,.slice a1 n1 c1,.slice a2 n2 c2] 49)=W0:=⟨_,rfl⟩
  have ap:=Lib.hid (show ∀ W',Below W0.heap.size W0 W'->(Bx5 W' w.heap.size (.int .i64 c.ins) (.int .i64 c.rows) (.int .i64 c.cols) (.int .i64 c.regs) (.slice a0 n0 c0)/\Bx7 W' (w.heap.size+1) (.int .i64 op) (.int .i64 to) (.int .i64 xa) (.int .i64 xb) (.bool ng) (.slice a1 n1 c1) (.slice a2 n2 c2)) from fun W' hb => by
    refine ⟨bx5 hb ?_ ?_ ?_ ?_ ?_ ?_ ?_ ?_ ?_ ?_,bx7 hb ?_ ?_ ?_ ?_ ?_ ?_ ?_ ?_ ?_ ?_ ?_ ?_ ?_ ?_⟩
    all_goals first|assumption|(rw [<- an];simp [go_sem]))
  have zb:Below w.heap.size w W0:=by rw [<- an];exact bS (bN _ _) (bN _ _)
  rw [an]
  clear an
  have i0:=hc.to zb
  have i1:=hx.to zb
  have i2:=hu.to zb
  have gb:Below W0.heap.size W0 W0:=Below.refl _ _
  obtain ⟨⟨z0,ae,af,ag,az,aA,ah,ak,al,aJ,aK⟩,⟨z1,aB,aD,aE,aR,aS,aT,aU,aG,aH,aI,aV,aW,aX,aY⟩⟩:=ap.out _ gb
  go_wp2_with fail
  refine (zj _ (2) _ Hk.out).mono ?_
  rintro e w1 ⟨rfl,rfl⟩
  go_wp2_with fail
  refine (zf _ L xa _ (i2.to gb) HL.out _ Hpa.out).mono ?_
  rintro e w2 ⟨rfl,rfl⟩
  go_wp2_with fail
  refine (zf _ L xb _ (i2.to gb) HL.out _ Hpb.out).mono ?_
  rintro e w3 ⟨rfl,rfl⟩
  go_wp2_with fail
  go_ret
  exact ⟨rfl,bS zb gb⟩
 case false =>
  obtain rfl:pa=true:=by simpa using wpa
  cases pb'
  case true =>
   have ho:o=false:=by rw [<- ho'];simp
   subst ho
   clear ho'
   obtain rfl:pb=false:=by simpa using wpb
   go_enter Tryz.func34,Tryz.ntmps34
   go_wp2_with fail
   obtain ⟨W0,an⟩:∃ W0,(w.alloc (.cells #[.int .i64 c.ins,.int .i64 c.rows,.int .i64 c.cols,.int .i64 c.regs,.slice a0 n0 c0] 24)).alloc (.cells #[.int .i64 op,.int .i64 to,.int .i64 xa,.int .i64 xb,.bool ng,.slice a1 n1 c1,.slice a2 n2 c2] 49)=W0:=⟨_,rfl⟩
   have ap:=Lib.hid (show ∀ W',Below W0.heap.size W0 W'->(Bx5 W' w.heap.size (.int .i64 c.ins) (.int .i64 c.rows) (.int .i64 c.cols) (.int .i64 c.regs) (.slice a0 n0 c0)/\Bx7 W' (w.heap.size+1) (.int .i64 op) (.int .i64 to) (.int .i64 xa) (.int .i64 xb) (.bool ng) (.slice a1 n1 c1) (.slice a2 n2 c2)) from fun W' hb => by
     refine ⟨bx5 hb ?_ ?_ ?_ ?_ ?_ ?_ ?_ ?_ ?_ ?_,bx7 hb ?_ ?_ ?_ ?_ ?_ ?_ ?_ ?_ ?_ ?_ ?_ ?_ ?_ ?_⟩
     all_goals first|assumption|(rw [<- an];simp [go_sem]))
   have zb:Below w.heap.size w W0:=by rw [<- an];exact bS (bN _ _) (bN _ _)
   rw [an]
   clear an
   have i0:=hc.to zb
   have i1:=hx.to zb
   have i2:=hu.to zb
   have gb:Below W0.heap.size W0 W0:=Below.refl _ _
   obtain ⟨⟨z0,ae,af,ag,az,aA,ah,ak,al,aJ,aK⟩,⟨z1,aB,aD,aE,aR,aS,aT,aU,aG,aH,aI,aV,aW,aX,aY⟩⟩:=ap.out _ gb
   go_wp2_with fail
   refine (zj _ (2) _ Hk.out).mono ?_
   rintro e w1 ⟨rfl,rfl⟩
   go_wp2_with fail
   refine (zf _ L xa _ (i2.to gb) HL.out _ Hpa.out).mono ?_
   rintro e w2 ⟨rfl,rfl⟩
   go_wp2_with fail
   refine (zf _ L xb _ (i2.to gb) HL.out _ Hpb.out).mono ?_
   rintro e w3 ⟨rfl,rfl⟩
   go_wp2_with fail
   go_ret
   exact ⟨rfl,bS zb gb⟩
  case false =>
   obtain rfl:pb=true:=by simpa using wpb
   cases u1
   case true =>
    have ho:o=false:=by rw [<- ho'];simp
    subst ho
    clear ho'
    go_enter Tryz.func34,Tryz.ntmps34
    go_wp2_with fail
    obtain ⟨W0,an⟩:∃ W0,(w.alloc (.cells #[.int .i64 c.ins,.int .i64 c.rows,.int .i64 c.cols,.int .i64 c.regs,.slice a0 n0 c0] 24)).alloc (.cells #[.int .i64 op,.int .i64 to,.int .i64 xa,.int .i64 xb,.bool ng,.slice a1 n1 c1,.slice a2 n2 c2] 49)=W0:=⟨_,rfl⟩
    have ap:=Lib.hid (show ∀ W',Below W0.heap.size W0 W'->(Bx5 W' w.heap.size (.int .i64 c.ins) (.int .i64 c.rows) (.int .i64 c.cols) (.int .i64 c.regs) (.slice a0 n0 c0)/\Bx7 W' (w.heap.size+1) (.int .i64 op) (.int .i64 to) (.int .i64 xa) (.int .i64 xb) (.bool ng) (.slice a1 n1 c1) (.slice a2 n2 c2)) from fun W' hb => by
      refine ⟨bx5 hb ?_ ?_ ?_ ?_ ?_ ?_ ?_ ?_ ?_ ?_,bx7 hb ?_ ?_ ?_ ?_ ?_ ?_ ?_ ?_ ?_ ?_ ?_ ?_ ?_ ?_⟩
      all_goals first|assumption|(rw [<- an];simp [go_sem]))
    have zb:Below w.heap.size w W0:=by rw [<- an];exact bS (bN _ _) (bN _ _)
    rw [an]
    clear an
    have i0:=hc.to zb
    have i1:=hx.to zb
    have i2:=hu.to zb
    have gb:Below W0.heap.size W0 W0:=Below.refl _ _
    obtain ⟨⟨z0,ae,af,ag,az,aA,ah,ak,al,aJ,aK⟩,⟨z1,aB,aD,aE,aR,aS,aT,aU,aG,aH,aI,aV,aW,aX,aY⟩⟩:=ap.out _ gb
    go_wp2_with fail
    refine (zj _ (2) _ Hk.out).mono ?_
    rintro e w1 ⟨rfl,rfl⟩
    go_wp2_with fail
    refine (zf _ L xa _ (i2.to gb) HL.out _ Hpa.out).mono ?_
    rintro e w2 ⟨rfl,rfl⟩
    go_wp2_with fail
    refine (zf _ L xb _ (i2.to gb) HL.out _ Hpb.out).mono ?_
    rintro e w3 ⟨rfl,rfl⟩
    go_wp2_with fail
    go_ret
    exact ⟨rfl,bS zb gb⟩
   case false =>
    cases u2
    case true =>
     have ho:o=false:=by rw [<- ho'];simp
     subst ho
     clear ho'
     go_enter Tryz.func34,Tryz.ntmps34
     go_wp2_with fail
     obtain ⟨W0,an⟩:∃ W0,(w.alloc (.cells #[.int .i64 c.ins,.int .i64 c.rows,.int .i64 c.cols,.int .i64 c.regs,.slice a0 n0 c0] 24)).alloc (.cells #[.int .i64 op,.int .i64 to,.int .i64 xa,.int .i64 xb,.bool ng,.slice a1 n1 c1,.slice a2 n2 c2] 49)=W0:=⟨_,rfl⟩
     have ap:=Lib.hid (show ∀ W',Below W0.heap.size W0 W'->(Bx5 W' w.heap.size (.int .i64 c.ins) (.int .i64 c.rows) (.int .i64 c.cols) (.int .i64 c.regs) (.slice a0 n0 c0)/\Bx7 W' (w.heap.size+1) (.int .i64 op) (.int .i64 to) (.int .i64 xa) (.int .i64 xb) (.bool ng) (.slice a1 n1 c1) (.slice a2 n2 c2)) from fun W' hb => by
       refine ⟨bx5 hb ?_ ?_ ?_ ?_ ?_ ?_ ?_ ?_ ?_ ?_,bx7 hb ?_ ?_ ?_ ?_ ?_ ?_ ?_ ?_ ?_ ?_ ?_ ?_ ?_ ?_⟩
       all_goals first|assumption|(rw [<- an];simp [go_sem]))
     have zb:Below w.heap.size w W0:=by rw [<- an];exact bS (bN _ _) (bN _ _)
     rw [an]
     clear an
     have i0:=hc.to zb
     have i1:=hx.to zb
     have i2:=hu.to zb
     have gb:Below W0.heap.size W0 W0:=Below.refl _ _
     obtain ⟨⟨z0,ae,af,ag,az,aA,ah,ak,al,aJ,aK⟩,⟨z1,aB,aD,aE,aR,aS,aT,aU,aG,aH,aI,aV,aW,aX,aY⟩⟩:=ap.out _ gb
     go_wp2_with fail
     refine (zj _ (2) _ Hk.out).mono ?_
     rintro e w1 ⟨rfl,rfl⟩
     go_wp2_with fail
     refine (zf _ L xa _ (i2.to gb) HL.out _ Hpa.out).mono ?_
     rintro e w2 ⟨rfl,rfl⟩
     go_wp2_with fail
     refine (zf _ L xb _ (i2.to gb) HL.out _ Hpb.out).mono ?_
     rintro e w3 ⟨rfl,rfl⟩
     go_wp2_with fail
     go_ret
     exact ⟨rfl,bS zb gb⟩
    case false =>
     have ho:nu=o:=by rw [<- ho'];cases nu <;> rfl
     subst ho
     clear ho'
     have Ho:=Lib.hid (show (ng == false && decide (ln=[]) && decide (ld=[]))=nu by rw [<- zcU (op:=op) (to:=to) (xa:=xa) (xb:=xb) no1];exact Hnu.out)
     go_enter Tryz.func34,Tryz.ntmps34
     go_wp2_with fail
     obtain ⟨W0,an⟩:∃ W0,(w.alloc (.cells #[.int .i64 c.ins,.int .i64 c.rows,.int .i64 c.cols,.int .i64 c.regs,.slice a0 n0 c0] 24)).alloc (.cells #[.int .i64 op,.int .i64 to,.int .i64 xa,.int .i64 xb,.bool ng,.slice a1 n1 c1,.slice a2 n2 c2] 49)=W0:=⟨_,rfl⟩
     have ap:=Lib.hid (show ∀ W',Below W0.heap.size W0 W'->(Bx5 W' w.heap.size (.int .i64 c.ins) (.int .i64 c.rows) (.int .i64 c.cols) (.int .i64 c.regs) (.slice a0 n0 c0)/\Bx7 W' (w.heap.size+1) (.int .i64 op) (.int .i64 to) (.int .i64 xa) (.int .i64 xb) (.bool ng) (.slice a1 n1 c1) (.slice a2 n2 c2)) from fun W' hb => by
       refine ⟨bx5 hb ?_ ?_ ?_ ?_ ?_ ?_ ?_ ?_ ?_ ?_,bx7 hb ?_ ?_ ?_ ?_ ?_ ?_ ?_ ?_ ?_ ?_ ?_ ?_ ?_ ?_⟩
       all_goals first|assumption|(rw [<- an];simp [go_sem]))
     have zb:Below w.heap.size w W0:=by rw [<- an];exact bS (bN _ _) (bN _ _)
     rw [an]
     clear an
     have i0:=hc.to zb
     have i1:=hx.to zb
     have i2:=hu.to zb
     have gb:Below W0.heap.size W0 W0:=Below.refl _ _
     obtain ⟨⟨z0,ae,af,ag,az,aA,ah,ak,al,aJ,aK⟩,⟨z1,aB,aD,aE,aR,aS,aT,aU,aG,aH,aI,aV,aW,aX,aY⟩⟩:=ap.out _ gb
     go_wp2_with fail
     refine (zj _ (2) _ Hk.out).mono ?_
     rintro e w1 ⟨rfl,rfl⟩
     go_wp2_with fail
     refine (zf _ L xa _ (i2.to gb) HL.out _ Hpa.out).mono ?_
     rintro e w2 ⟨rfl,rfl⟩
     go_wp2_with fail
     refine (zf _ L xb _ (i2.to gb) HL.out _ Hpb.out).mono ?_
     rintro e w3 ⟨rfl,rfl⟩
     go_wp2_with fail
     refine (zby ng _ _ ln ld false _ _ [] [] _ ((i1.to gb)).1.isF ⟨Rd.nil _,Rd.nil _⟩ _ Ho.out).mono ?_
     clear ae ah af ak ag al az aJ aA aK aB aG aD aH aE aI aR aV aS aW aT aX aU aY
     rintro e w4 ⟨rfl,dd⟩
     replace gb:=bS gb dd
     obtain ⟨⟨z0,ae,af,ag,az,aA,ah,ak,al,aJ,aK⟩,⟨z1,aB,aD,aE,aR,aS,aT,aU,aG,aH,aI,aV,aW,aX,aY⟩⟩:=ap.out _ gb
     go_wp2_with fail
     go_ret
     exact ⟨rfl,bS zb gb⟩

theorem zfn (c:Cd) (v:Value) (op to xa xb:Int) (ng:Bool) (vn vd:Value) (ln ld:List Nat) (u:Value) (L:List Int) (w:World) (hc:IsC w c v) (hx:IsX w ⟨op,to,xa,xb,⟨ng,ln,ld⟩⟩ vn vd) (hu:RdI w u L) (hL:L.length<=100000) (hr:1<=c.rows/\c.rows<=40) (hcl:1<=c.cols/\c.cols<=40) (h1:op=6) (o:Bool) (ho:zp c L ⟨op,to,xa,xb,⟨ng,ln,ld⟩⟩=o) :
  Calls Tryz.prog 34 #[aggC c v,.agg #[.int .i64 op,.int .i64 to,.int .i64 xa,.int .i64 xb,.bool ng,vn,vd],u] w (fun e w' => e=.returned (.bool o)/\Below w.heap.size w w'):=by
 have no0:op≠0:=by omega
 have t0:(op == 0)=false:=by simp;exact no0
 have no1:op≠1:=by omega
 have t1:(op == 1)=false:=by simp;exact no1
 have t6:(op == 6)=true:=by simp;exact h1
 have no7:op≠7:=by omega
 have t7:(op == 7)=false:=by simp;exact no7
 have no10:op≠10:=by omega
 have t10:(op == 10)=false:=by simp;exact no10
 have t1':(op != 1)=true:=by simp;exact no1
 have hk:zd op=1:=by rw [h1];decide
 have hk0:0<=zd op:=by rw [hk];decide
 have pb9:=zae hr hcl
 have HM:IntKind.i64.wrap (c.rows*c.cols)=c.rows*c.cols:=IntWalk.i64_in _ (by omega)
 obtain ⟨pa',tpa'⟩:∃ b,(!decide (xa ∈ L))=b:=⟨_,rfl⟩
 obtain ⟨yb,tyb⟩:∃ b,(xb != 0)=b:=⟨_,rfl⟩
 obtain ⟨u1,tu1⟩:∃ b,decide (to<0)=b:=⟨_,rfl⟩
 obtain ⟨u2,tu2⟩:∃ b,decide (c.regs<=to)=b:=⟨_,rfl⟩
 have eA:aOk c L ⟨op,to,xa,xb,⟨ng,ln,ld⟩⟩=(!pa'):=(zcY hk0 no0).trans (show (if decide (1<=zd op)=true then decide (xa ∈ L) else decide (xa=0))=(!pa') by rw [hk,if_pos (by decide),<- tpa',Bool.not_not])
 have eB:bOk L ⟨op,to,xa,xb,⟨ng,ln,ld⟩⟩=(!yb):=(zcC no7).trans (show (if decide (zd op=2)=true then decide (xb ∈ L) else decide (xb=0))=(!yb) by rw [hk,if_neg (by decide),<- zds,tyb])
 have eM:zD c ⟨op,to,xa,xb,⟨ng,ln,ld⟩⟩=c.regs:=if_neg no10
 rw [zcT (x:=⟨op,to,xa,xb,⟨ng,ln,ld⟩⟩) hk0,eA,eB,eM] at ho
 obtain ⟨nu,hnu⟩:∃ b,zaJ ⟨op,to,xa,xb,⟨ng,ln,ld⟩⟩=b:=⟨_,rfl⟩
 have ho':((!pa') && (!yb) && (!u1 && !u2) && nu)=o:=by rw [<- ho,hnu,<- tu1,<- tu2,zci,zdb]
 have Hnu:=Lib.hid hnu
 have HL:=Lib.hid hL
 have Hk:=Lib.hid hk
 obtain ⟨pa,hpa⟩:∃ b,decide (xa ∈ L)=b:=⟨_,rfl⟩
 obtain ⟨pb,hpb⟩:∃ b,decide (xb ∈ L)=b:=⟨_,rfl⟩
 have Hpa:=Lib.hid hpa
 have Hpb:=Lib.hid hpb
 have wpa:(!pa)=pa':=by rw [<- hpa,tpa']
 have hn1:ln.length<=1000:=hx.1.2.2.2.1
 have hd1:ld.length<=1000:=hx.1.2.2.2.2
 clear ho hnu hpa hpb eA eB eM hk hk0 pb9 hL tpa'
 clear t0 t1 t6 t7 t10 t1' no1
 subst h1
 obtain ⟨a0,n0,c0,rfl,H0,hm0⟩:=hc.1.open
 obtain ⟨a1,n1,c1,rfl,H1,hm1⟩:=hx.1.1.open
 obtain ⟨a2,n2,c2,rfl,H2,hm2⟩:=hx.1.2.1.open
 cases pa'
 case true =>
  have ho:o=false:=by rw [<- ho'];simp
  subst ho
  clear ho'
  obtain rfl:pa=false:=by simpa using wpa
  go_enter Tryz.func34,Tryz.ntmps34
  go_wp2_with fail
  obtain ⟨W0,an⟩:∃ W0,(w.alloc (.cells #[.int .i64 c.ins,.int .i64 c.rows,.int .i64 c.cols,.int .i64 c.regs,.slice a0 n0 c0] 24)).alloc (.cells #[.int .i64 6,.int .i64 to,.int .i64 xa,.int .i64 xb,.bool ng,.slice a1 n1 c1,.slice a2 n2 c2] 49)=W0:=⟨_,rfl⟩
  have ap:=Lib.hid (show ∀ W',Below W0.heap.size W0 W'->(Bx5 W' w.heap.size (.int .i64 c.ins) (.int .i64 c.rows) (.int .i64 c.cols) (.int .i64 c.regs) (.slice a0 n0 c0)/\Bx7 W' (w.heap.size+1) (.int .i64 6) (.int .i64 to) (.int .i64 xa) (.int .i64 xb) (.bool ng) (.slice a1 n1 c1) (.slice a2 n2 c2)) from fun W' hb => by
    refine ⟨bx5 hb ?_ ?_ ?_ ?_ ?_ ?_ ?_ ?_ ?_ ?_,bx7 hb ?_ ?_ ?_ ?_ ?_ ?_ ?_ ?_ ?_ ?_ ?_ ?_ ?_ ?_⟩
    all_goals first|assumption|(rw [<- an];simp [go_sem]))
  have zb:Below w.heap.size w W0:=by rw [<- an];exact bS (bN _ _) (bN _ _)
  rw [an]
  clear an
  have i0:=hc.to zb
  have i1:=hx.to zb
  have i2:=hu.to zb
  have gb:Below W0.heap.size W0 W0:=Below.refl _ _
  obtain ⟨⟨z0,ae,af,ag,az,aA,ah,ak,al,aJ,aK⟩,⟨z1,aB,aD,aE,aR,aS,aT,aU,aG,aH,aI,aV,aW,aX,aY⟩⟩:=ap.out _ gb
  go_wp2_with fail
  refine (zj _ (1) _ Hk.out).mono ?_
  rintro e w1 ⟨rfl,rfl⟩
  go_wp2_with fail
  refine (zf _ L xa _ (i2.to gb) HL.out _ Hpa.out).mono ?_
  rintro e w2 ⟨rfl,rfl⟩
  go_wp2_with fail
  refine (zf _ L xb _ (i2.to gb) HL.out _ Hpb.out).mono ?_
  rintro e w3 ⟨rfl,rfl⟩
  go_wp2_with fail
  go_ret
  exact ⟨rfl,bS zb gb⟩
 case false =>
  obtain rfl:pa=true:=by simpa using wpa
  cases yb
  case true =>
   have ho:o=false:=by rw [<- ho'];simp
   subst ho
   clear ho'
   go_enter Tryz.func34,Tryz.ntmps34
   go_wp2_with fail
   obtain ⟨W0,an⟩:∃ W0,(w.alloc (.cells #[.int .i64 c.ins,.int .i64 c.rows,.int .i64 c.cols,.int .i64 c.regs,.slice a0 n0 c0] 24)).alloc (.cells #[.int .i64 6,.int .i64 to,.int .i64 xa,.int .i64 xb,.bool ng,.slice a1 n1 c1,.slice a2 n2 c2] 49)=W0:=⟨_,rfl⟩
   have ap:=Lib.hid (show ∀ W',Below W0.heap.size W0 W'->(Bx5 W' w.heap.size (.int .i64 c.ins) (.int .i64 c.rows) (.int .i64 c.cols) (.int .i64 c.regs) (.slice a0 n0 c0)/\Bx7 W' (w.heap.size+1) (.int .i64 6) (.int .i64 to) (.int .i64 xa) (.int .i64 xb) (.bool ng) (.slice a1 n1 c1) (.slice a2 n2 c2)) from fun W' hb => by
     refine ⟨bx5 hb ?_ ?_ ?_ ?_ ?_ ?_ ?_ ?_ ?_ ?_,bx7 hb ?_ ?_ ?_ ?_ ?_ ?_ ?_ ?_ ?_ ?_ ?_ ?_ ?_ ?_⟩
     all_goals first|assumption|(rw [<- an];simp [go_sem]))
   have zb:Below w.heap.size w W0:=by rw [<- an];exact bS (bN _ _) (bN _ _)
   rw [an]
   clear an
   have i0:=hc.to zb
   have i1:=hx.to zb
   have i2:=hu.to zb
   have gb:Below W0.heap.size W0 W0:=Below.refl _ _
   obtain ⟨⟨z0,ae,af,ag,az,aA,ah,ak,al,aJ,aK⟩,⟨z1,aB,aD,aE,aR,aS,aT,aU,aG,aH,aI,aV,aW,aX,aY⟩⟩:=ap.out _ gb
   go_wp2_with fail
   refine (zj _ (1) _ Hk.out).mono ?_
   rintro e w1 ⟨rfl,rfl⟩
   go_wp2_with fail
   refine (zf _ L xa _ (i2.to gb) HL.out _ Hpa.out).mono ?_
   rintro e w2 ⟨rfl,rfl⟩
   go_wp2_with fail
   refine (zf _ L xb _ (i2.to gb) HL.out _ Hpb.out).mono ?_
   rintro e w3 ⟨rfl,rfl⟩
   go_wp2_with fail
   go_ret
   exact ⟨rfl,bS zb gb⟩
  case false =>
   cases u1
   case true =>
    have ho:o=false:=by rw [<- ho'];simp
    subst ho
    clear ho'
    go_enter Tryz.func34,Tryz.ntmps34
    go_wp2_with fail
    obtain ⟨W0,an⟩:∃ W0,(w.alloc (.cells #[.int .i64 c.ins,.int .i64 c.rows,.int .i64 c.cols,.int .i64 c.regs,.slice a0 n0 c0] 24)).alloc (.cells #[.int .i64 6,.int .i64 to,.int .i64 xa,.int .i64 xb,.bool ng,.slice a1 n1 c1,.slice a2 n2 c2] 49)=W0:=⟨_,rfl⟩
    have ap:=Lib.hid (show ∀ W',Below W0.heap.size W0 W'->(Bx5 W' w.heap.size (.int .i64 c.ins) (.int .i64 c.rows) (.int .i64 c.cols) (.int .i64 c.regs) (.slice a0 n0 c0)/\Bx7 W' (w.heap.size+1) (.int .i64 6) (.int .i64 to) (.int .i64 xa) (.int .i64 xb) (.bool ng) (.slice a1 n1 c1) (.slice a2 n2 c2)) from fun W' hb => by
      refine ⟨bx5 hb ?_ ?_ ?_ ?_ ?_ ?_ ?_ ?_ ?_ ?_,bx7 hb ?_ ?_ ?_ ?_ ?_ ?_ ?_ ?_ ?_ ?_ ?_ ?_ ?_ ?_⟩
      all_goals first|assumption|(rw [<- an];simp [go_sem]))
    have zb:Below w.heap.size w W0:=by rw [<- an];exact bS (bN _ _) (bN _ _)
    rw [an]
    clear an
    have i0:=hc.to zb
    have i1:=hx.to zb
    have i2:=hu.to zb
    have gb:Below W0.heap.size W0 W0:=Below.refl _ _
    obtain ⟨⟨z0,ae,af,ag,az,aA,ah,ak,al,aJ,aK⟩,⟨z1,aB,aD,aE,aR,aS,aT,aU,aG,aH,aI,aV,aW,aX,aY⟩⟩:=ap.out _ gb
    go_wp2_with fail
    refine (zj _ (1) _ Hk.out).mono ?_
    rintro e w1 ⟨rfl,rfl⟩
    go_wp2_with fail
    refine (zf _ L xa _ (i2.to gb) HL.out _ Hpa.out).mono ?_
    rintro e w2 ⟨rfl,rfl⟩
    go_wp2_with fail
    refine (zf _ L xb _ (i2.to gb) HL.out _ Hpb.out).mono ?_
    rintro e w3 ⟨rfl,rfl⟩
    go_wp2_with fail
    go_ret
    exact ⟨rfl,bS zb gb⟩
   case false =>
    cases u2
    case true =>
     have ho:o=false:=by rw [<- ho'];simp
     subst ho
     clear ho'
     go_enter Tryz.func34,Tryz.ntmps34
     go_wp2_with fail
     obtain ⟨W0,an⟩:∃ W0,(w.alloc (.cells #[.int .i64 c.ins,.int .i64 c.rows,.int .i64 c.cols,.int .i64 c.regs,.slice a0 n0 c0] 24)).alloc (.cells #[.int .i64 6,.int .i64 to,.int .i64 xa,.int .i64 xb,.bool ng,.slice a1 n1 c1,.slice a2 n2 c2] 49)=W0:=⟨_,rfl⟩
     have ap:=Lib.hid (show ∀ W',Below W0.heap.size W0 W'->(Bx5 W' w.heap.size (.int .i64 c.ins) (.int .i64 c.rows) (.int .i64 c.cols) (.int .i64 c.regs) (.slice a0 n0 c0)/\Bx7 W' (w.heap.size+1) (.int .i64 6) (.int .i64 to) (.int .i64 xa) (.int .i64 xb) (.bool ng) (.slice a1 n1 c1) (.slice a2 n2 c2)) from fun W' hb => by
       refine ⟨bx5 hb ?_ ?_ ?_ ?_ ?_ ?_ ?_ ?_ ?_ ?_,bx7 hb ?_ ?_ ?_ ?_ ?_ ?_ ?_ ?_ ?_ ?_ ?_ ?_ ?_ ?_⟩
       all_goals first|assumption|(rw [<- an];simp [go_sem]))
     have zb:Below w.heap.size w W0:=by rw [<- an];exact bS (bN _ _) (bN _ _)
     rw [an]
     clear an
     have i0:=hc.to zb
     have i1:=hx.to zb
     have i2:=hu.to zb
     have gb:Below W0.heap.size W0 W0:=Below.refl _ _
     obtain ⟨⟨z0,ae,af,ag,az,aA,ah,ak,al,aJ,aK⟩,⟨z1,aB,aD,aE,aR,aS,aT,aU,aG,aH,aI,aV,aW,aX,aY⟩⟩:=ap.out _ gb
     go_wp2_with fail
     refine (zj _ (1) _ Hk.out).mono ?_
     rintro e w1 ⟨rfl,rfl⟩
     go_wp2_with fail
     refine (zf _ L xa _ (i2.to gb) HL.out _ Hpa.out).mono ?_
     rintro e w2 ⟨rfl,rfl⟩
     go_wp2_with fail
     refine (zf _ L xb _ (i2.to gb) HL.out _ Hpb.out).mono ?_
     rintro e w3 ⟨rfl,rfl⟩
     go_wp2_with fail
     go_ret
     exact ⟨rfl,bS zb gb⟩
    case false =>
     have ho:nu=o:=by rw [<- ho'];cases nu <;> rfl
     subst ho
     clear ho'
     have Ho:=Lib.hid (show (ng == false && decide (ln=[]) && decide (ld=[]))=nu by rw [<- zcU (op:=6) (to:=to) (xa:=xa) (xb:=xb) (by decide)];exact Hnu.out)
     go_enter Tryz.func34,Tryz.ntmps34
     go_wp2_with fail
     obtain ⟨W0,an⟩:∃ W0,(w.alloc (.cells #[.int .i64 c.ins,.int .i64 c.rows,.int .i64 c.cols,.int .i64 c.regs,.slice a0 n0 c0] 24)).alloc (.cells #[.int .i64 6,.int .i64 to,.int .i64 xa,.int .i64 xb,.bool ng,.slice a1 n1 c1,.slice a2 n2 c2] 49)=W0:=⟨_,rfl⟩
     have ap:=Lib.hid (show ∀ W',Below W0.heap.size W0 W'->(Bx5 W' w.heap.size (.int .i64 c.ins) (.int .i64 c.rows) (.int .i64 c.cols) (.int .i64 c.regs) (.slice a0 n0 c0)/\Bx7 W' (w.heap.size+1) (.int .i64 6) (.int .i64 to) (.int .i64 xa) (.int .i64 xb) (.bool ng) (.slice a1 n1 c1) (.slice a2 n2 c2)) from fun W' hb => by
       refine ⟨bx5 hb ?_ ?_ ?_ ?_ ?_ ?_ ?_ ?_ ?_ ?_,bx7 hb ?_ ?_ ?_ ?_ ?_ ?_ ?_ ?_ ?_ ?_ ?_ ?_ ?_ ?_⟩
       all_goals first|assumption|(rw [<- an];simp [go_sem]))
     have zb:Below w.heap.size w W0:=by rw [<- an];exact bS (bN _ _) (bN _ _)
     rw [an]
     clear an
     have i0:=hc.to zb
     have i1:=hx.to zb
     have i2:=hu.to zb
     have gb:Below W0.heap.size W0 W0:=Below.refl _ _
     obtain ⟨⟨z0,ae,af,ag,az,aA,ah,ak,al,aJ,aK⟩,⟨z1,aB,aD,aE,aR,aS,aT,aU,aG,aH,aI,aV,aW,aX,aY⟩⟩:=ap.out _ gb
     go_wp2_with fail
     refine (zj _ (1) _ Hk.out).mono ?_
     rintro e w1 ⟨rfl,rfl⟩
     go_wp2_with fail
     refine (zf _ L xa _ (i2.to gb) HL.out _ Hpa.out).mono ?_
     rintro e w2 ⟨rfl,rfl⟩
     go_wp2_with fail
     refine (zf _ L xb _ (i2.to gb) HL.out _ Hpb.out).mono ?_
     rintro e w3 ⟨rfl,rfl⟩
     go_wp2_with fail
     refine (zby ng _ _ ln ld false _ _ [] [] _ ((i1.to gb)).1.isF ⟨Rd.nil _,Rd.nil _⟩ _ Ho.out).mono ?_
     clear ae ah af ak ag al az aJ aA aK aB aG aD aH aE aI aR aV aS aW aT aX aU aY
     rintro e w4 ⟨rfl,dd⟩
     replace gb:=bS gb dd
     obtain ⟨⟨z0,ae,af,ag,az,aA,ah,ak,al,aJ,aK⟩,⟨z1,aB,aD,aE,aR,aS,aT,aU,aG,aH,aI,aV,aW,aX,aY⟩⟩:=ap.out _ gb
     go_wp2_with fail
     go_ret
     exact ⟨rfl,bS zb gb⟩

theorem zfm (c:Cd) (v:Value) (op to xa xb:Int) (ng:Bool) (vn vd:Value) (ln ld:List Nat) (u:Value) (L:List Int) (w:World) (hc:IsC w c v) (hx:IsX w ⟨op,to,xa,xb,⟨ng,ln,ld⟩⟩ vn vd) (hu:RdI w u L) (hL:L.length<=100000) (hr:1<=c.rows/\c.rows<=40) (hcl:1<=c.cols/\c.cols<=40) (h1:op=7) (o:Bool) (ho:zp c L ⟨op,to,xa,xb,⟨ng,ln,ld⟩⟩=o) :
  Calls Tryz.prog 34 #[aggC c v,.agg #[.int .i64 op,.int .i64 to,.int .i64 xa,.int .i64 xb,.bool ng,vn,vd],u] w (fun e w' => e=.returned (.bool o)/\Below w.heap.size w w'):=by
 have no0:op≠0:=by omega
 have t0:(op == 0)=false:=by simp;exact no0
 have no1:op≠1:=by omega
 have t1:(op == 1)=false:=by simp;exact no1
 have no6:op≠6:=by omega
 have t6:(op == 6)=false:=by simp;exact no6
 have t7:(op == 7)=true:=by simp;exact h1
 have no10:op≠10:=by omega
 have t10:(op == 10)=false:=by simp;exact no10
 have t1':(op != 1)=true:=by simp;exact no1
 have hk:zd op=1:=by rw [h1];decide
 have hk0:0<=zd op:=by rw [hk];decide
 have pb9:=zae hr hcl
 have HM:IntKind.i64.wrap (c.rows*c.cols)=c.rows*c.cols:=IntWalk.i64_in _ (by omega)
 obtain ⟨pa',tpa'⟩:∃ b,(!decide (xa ∈ L))=b:=⟨_,rfl⟩
 obtain ⟨r1,tr1⟩:∃ b,decide (xb < -21)=b:=⟨_,rfl⟩
 obtain ⟨r2,tr2⟩:∃ b,decide (21<xb)=b:=⟨_,rfl⟩
 obtain ⟨u1,tu1⟩:∃ b,decide (to<0)=b:=⟨_,rfl⟩
 obtain ⟨u2,tu2⟩:∃ b,decide (c.regs<=to)=b:=⟨_,rfl⟩
 have eA:aOk c L ⟨op,to,xa,xb,⟨ng,ln,ld⟩⟩=(!pa'):=(zcY hk0 no0).trans (show (if decide (1<=zd op)=true then decide (xa ∈ L) else decide (xa=0))=(!pa') by rw [hk,if_pos (by decide),<- tpa',Bool.not_not])
 have eB:bOk L ⟨op,to,xa,xb,⟨ng,ln,ld⟩⟩=(!r1 && !r2):=(zln h1).trans (show (decide (-21<=xb) && decide (xb<=21))=(!r1 && !r2) by rw [<- zci xb (-21),<- zci 21 xb,tr1,tr2])
 have eM:zD c ⟨op,to,xa,xb,⟨ng,ln,ld⟩⟩=c.regs:=if_neg no10
 rw [zcT (x:=⟨op,to,xa,xb,⟨ng,ln,ld⟩⟩) hk0,eA,eB,eM] at ho
 obtain ⟨nu,hnu⟩:∃ b,zaJ ⟨op,to,xa,xb,⟨ng,ln,ld⟩⟩=b:=⟨_,rfl⟩
 have ho':((!pa') && (!r1 && !r2) && (!u1 && !u2) && nu)=o:=by rw [<- ho,hnu,<- tu1,<- tu2,zci,zdb]
 have Hnu:=Lib.hid hnu
 have HL:=Lib.hid hL
 have Hk:=Lib.hid hk
 obtain ⟨pa,hpa⟩:∃ b,decide (xa ∈ L)=b:=⟨_,rfl⟩
 obtain ⟨pb,hpb⟩:∃ b,decide (xb ∈ L)=b:=⟨_,rfl⟩
 have Hpa:=Lib.hid hpa
 have Hpb:=Lib.hid hpb
 have wpa:(!pa)=pa':=by rw [<- hpa,tpa']
 have hn1:ln.length<=1000:=hx.1.2.2.2.1
 have hd1:ld.length<=1000:=hx.1.2.2.2.2
 clear ho hnu hpa hpb eA eB eM hk hk0 pb9 hL tpa'
 clear t0 t1 t6 t7 t10 t1' no1
 subst h1
 obtain ⟨a0,n0,c0,rfl,H0,hm0⟩:=hc.1.open
 obtain ⟨a1,n1,c1,rfl,H1,hm1⟩:=hx.1.1.open
 obtain ⟨a2,n2,c2,rfl,H2,hm2⟩:=hx.1.2.1.open
 cases pa'
 case true =>
  have ho:o=false:=by rw [<- ho'];simp
  subst ho
  clear ho'
  obtain rfl:pa=false:=by simpa using wpa
  go_enter Tryz.func34,Tryz.ntmps34
  go_wp2_with fail
  obtain ⟨W0,an⟩:∃ W0,(w.alloc (.cells #[.int .i64 c.ins,.int .i64 c.rows,.int .i64 c.cols,.int .i64 c.regs,.slice a0 n0 c0] 24)).alloc (.cells #[.int .i64 7,.int .i64 to,.int .i64 xa,.int .i64 xb,.bool ng,.slice a1 n1 c1,.slice a2 n2 c2] 49)=W0:=⟨_,rfl⟩
  have ap:=Lib.hid (show ∀ W',Below W0.heap.size W0 W'->(Bx5 W' w.heap.size (.int .i64 c.ins) (.int .i64 c.rows) (.int .i64 c.cols) (.int .i64 c.regs) (.slice a0 n0 c0)/\Bx7 W' (w.heap.size+1) (.int .i64 7) (.int .i64 to) (.int .i64 xa) (.int .i64 xb) (.bool ng) (.slice a1 n1 c1) (.slice a2 n2 c2)) from fun W' hb => by
    refine ⟨bx5 hb ?_ ?_ ?_ ?_ ?_ ?_ ?_ ?_ ?_ ?_,bx7 hb ?_ ?_ ?_ ?_ ?_ ?_ ?_ ?_ ?_ ?_ ?_ ?_ ?_ ?_⟩
    all_goals first|assumption|(rw [<- an];simp [go_sem]))
  have zb:Below w.heap.size w W0:=by rw [<- an];exact bS (bN _ _) (bN _ _)
  rw [an]
  clear an
  have i0:=hc.to zb
  have i1:=hx.to zb
  have i2:=hu.to zb
  have gb:Below W0.heap.size W0 W0:=Below.refl _ _
  obtain ⟨⟨z0,ae,af,ag,az,aA,ah,ak,al,aJ,aK⟩,⟨z1,aB,aD,aE,aR,aS,aT,aU,aG,aH,aI,aV,aW,aX,aY⟩⟩:=ap.out _ gb
  go_wp2_with fail
  refine (zj _ (1) _ Hk.out).mono ?_
  rintro e w1 ⟨rfl,rfl⟩
  go_wp2_with fail
  refine (zf _ L xa _ (i2.to gb) HL.out _ Hpa.out).mono ?_
  rintro e w2 ⟨rfl,rfl⟩
  go_wp2_with fail
  refine (zf _ L xb _ (i2.to gb) HL.out _ Hpb.out).mono ?_
  rintro e w3 ⟨rfl,rfl⟩
  go_wp2_with fail
  go_ret
  exact ⟨rfl,bS zb gb⟩
 case false =>
  obtain rfl:pa=true:=by simpa using wpa
  cases r1
  case true =>
   have ho:o=false:=by rw [<- ho'];simp
   subst ho
   clear ho'
   go_enter Tryz.func34,Tryz.ntmps34
   go_wp2_with fail
   obtain ⟨W0,an⟩:∃ W0,(w.alloc (.cells #[.int .i64 c.ins,.int .i64 c.rows,.int .i64 c.cols,.int .i64 c.regs,.slice a0 n0 c0] 24)).alloc (.cells #[.int .i64 7,.int .i64 to,.int .i64 xa,.int .i64 xb,.bool ng,.slice a1 n1 c1,.slice a2 n2 c2] 49)=W0:=⟨_,rfl⟩
   have ap:=Lib.hid (show ∀ W',Below W0.heap.size W0 W'->(Bx5 W' w.heap.size (.int .i64 c.ins) (.int .i64 c.rows) (.int .i64 c.cols) (.int .i64 c.regs) (.slice a0 n0 c0)/\Bx7 W' (w.heap.size+1) (.int .i64 7) (.int .i64 to) (.int .i64 xa) (.int .i64 xb) (.bool ng) (.slice a1 n1 c1) (.slice a2 n2 c2)) from fun W' hb => by
     refine ⟨bx5 hb ?_ ?_ ?_ ?_ ?_ ?_ ?_ ?_ ?_ ?_,bx7 hb ?_ ?_ ?_ ?_ ?_ ?_ ?_ ?_ ?_ ?_ ?_ ?_ ?_ ?_⟩
     all_goals first|assumption|(rw [<- an];simp [go_sem]))
   have zb:Below w.heap.size w W0:=by rw [<- an];exact bS (bN _ _) (bN _ _)
   rw [an]
   clear an
   have i0:=hc.to zb
   have i1:=hx.to zb
   have i2:=hu.to zb
   have gb:Below W0.heap.size W0 W0:=Below.refl _ _
   obtain ⟨⟨z0,ae,af,ag,az,aA,ah,ak,al,aJ,aK⟩,⟨z1,aB,aD,aE,aR,aS,aT,aU,aG,aH,aI,aV,aW,aX,aY⟩⟩:=ap.out _ gb
   go_wp2_with fail
   refine (zj _ (1) _ Hk.out).mono ?_
   rintro e w1 ⟨rfl,rfl⟩
   go_wp2_with fail
   refine (zf _ L xa _ (i2.to gb) HL.out _ Hpa.out).mono ?_
   rintro e w2 ⟨rfl,rfl⟩
   go_wp2_with fail
   refine (zf _ L xb _ (i2.to gb) HL.out _ Hpb.out).mono ?_
   rintro e w3 ⟨rfl,rfl⟩
   go_wp2_with fail
   go_ret
   exact ⟨rfl,bS zb gb⟩
  case false =>
   cases r2
   case true =>
    have ho:o=false:=by rw [<- ho'];simp
    subst ho
    clear ho'
    go_enter Tryz.func34,Tryz.ntmps34
    go_wp2_with fail
    obtain ⟨W0,an⟩:∃ W0,(w.alloc (.cells #[.int .i64 c.ins,.int .i64 c.rows,.int .i64 c.cols,.int .i64 c.regs,.slice a0 n0 c0] 24)).alloc (.cells #[.int .i64 7,.int .i64 to,.int .i64 xa,.int .i64 xb,.bool ng,.slice a1 n1 c1,.slice a2 n2 c2] 49)=W0:=⟨_,rfl⟩
    have ap:=Lib.hid (show ∀ W',Below W0.heap.size W0 W'->(Bx5 W' w.heap.size (.int .i64 c.ins) (.int .i64 c.rows) (.int .i64 c.cols) (.int .i64 c.regs) (.slice a0 n0 c0)/\Bx7 W' (w.heap.size+1) (.int .i64 7) (.int .i64 to) (.int .i64 xa) (.int .i64 xb) (.bool ng) (.slice a1 n1 c1) (.slice a2 n2 c2)) from fun W' hb => by
      refine ⟨bx5 hb ?_ ?_ ?_ ?_ ?_ ?_ ?_ ?_ ?_ ?_,bx7 hb ?_ ?_ ?_ ?_ ?_ ?_ ?_ ?_ ?_ ?_ ?_ ?_ ?_ ?_⟩
      all_goals first|assumption|(rw [<- an];simp [go_sem]))
    have zb:Below w.heap.size w W0:=by rw [<- an];exact bS (bN _ _) (bN _ _)
    rw [an]
    clear an
    have i0:=hc.to zb
    have i1:=hx.to zb
    have i2:=hu.to zb
    have gb:Below W0.heap.size W0 W0:=Below.refl _ _
    obtain ⟨⟨z0,ae,af,ag,az,aA,ah,ak,al,aJ,aK⟩,⟨z1,aB,aD,aE,aR,aS,aT,aU,aG,aH,aI,aV,aW,aX,aY⟩⟩:=ap.out _ gb
    go_wp2_with fail
    refine (zj _ (1) _ Hk.out).mono ?_
    rintro e w1 ⟨rfl,rfl⟩
    go_wp2_with fail
    refine (zf _ L xa _ (i2.to gb) HL.out _ Hpa.out).mono ?_
    rintro e w2 ⟨rfl,rfl⟩
    go_wp2_with fail
    refine (zf _ L xb _ (i2.to gb) HL.out _ Hpb.out).mono ?_
    rintro e w3 ⟨rfl,rfl⟩
    go_wp2_with fail
    go_ret
    exact ⟨rfl,bS zb gb⟩
   case false =>
    cases u1
    case true =>
     have ho:o=false:=by rw [<- ho'];simp
     subst ho
     clear ho'
     go_enter Tryz.func34,Tryz.ntmps34
     go_wp2_with fail
     obtain ⟨W0,an⟩:∃ W0,(w.alloc (.cells #[.int .i64 c.ins,.int .i64 c.rows,.int .i64 c.cols,.int .i64 c.regs,.slice a0 n0 c0] 24)).alloc (.cells #[.int .i64 7,.int .i64 to,.int .i64 xa,.int .i64 xb,.bool ng,.slice a1 n1 c1,.slice a2 n2 c2] 49)=W0:=⟨_,rfl⟩
     have ap:=Lib.hid (show ∀ W',Below W0.heap.size W0 W'->(Bx5 W' w.heap.size (.int .i64 c.ins) (.int .i64 c.rows) (.int .i64 c.cols) (.int .i64 c.regs) (.slice a0 n0 c0)/\Bx7 W' (w.heap.size+1) (.int .i64 7) (.int .i64 to) (.int .i64 xa) (.int .i64 xb) (.bool ng) (.slice a1 n1 c1) (.slice a2 n2 c2)) from fun W' hb => by
       refine ⟨bx5 hb ?_ ?_ ?_ ?_ ?_ ?_ ?_ ?_ ?_ ?_,bx7 hb ?_ ?_ ?_ ?_ ?_ ?_ ?_ ?_ ?_ ?_ ?_ ?_ ?_ ?_⟩
       all_goals first|assumption|(rw [<- an];simp [go_sem]))
     have zb:Below w.heap.size w W0:=by rw [<- an];exact bS (bN _ _) (bN _ _)
     rw [an]
     clear an
     have i0:=hc.to zb
     have i1:=hx.to zb
     have i2:=hu.to zb
     have gb:Below W0.heap.size W0 W0:=Below.refl _ _
     obtain ⟨⟨z0,ae,af,ag,az,aA,ah,ak,al,aJ,aK⟩,⟨z1,aB,aD,aE,aR,aS,aT,aU,aG,aH,aI,aV,aW,aX,aY⟩⟩:=ap.out _ gb
     go_wp2_with fail
     refine (zj _ (1) _ Hk.out).mono ?_
     rintro e w1 ⟨rfl,rfl⟩
     go_wp2_with fail
     refine (zf _ L xa _ (i2.to gb) HL.out _ Hpa.out).mono ?_
     rintro e w2 ⟨rfl,rfl⟩
     go_wp2_with fail
     refine (zf _ L xb _ (i2.to gb) HL.out _ Hpb.out).mono ?_
     rintro e w3 ⟨rfl,rfl⟩
     go_wp2_with fail
     go_ret
     exact ⟨rfl,bS zb gb⟩
    case false =>
     cases u2
     case true =>
      have ho:o=false:=by rw [<- ho'];simp
      subst ho
      clear ho'
      go_enter Tryz.func34,Tryz.ntmps34
      go_wp2_with fail
      obtain ⟨W0,an⟩:∃ W0,(w.alloc (.cells #[.int .i64 c.ins,.int .i64 c.rows,.int .i64 c.cols,.int .i64 c.regs,.slice a0 n0 c0] 24)).alloc (.cells #[.int .i64 7,.int .i64 to,.int .i64 xa,.int .i64 xb,.bool ng,.slice a1 n1 c1,.slice a2 n2 c2] 49)=W0:=⟨_,rfl⟩
      have ap:=Lib.hid (show ∀ W',Below W0.heap.size W0 W'->(Bx5 W' w.heap.size (.int .i64 c.ins) (.int .i64 c.rows) (.int .i64 c.cols) (.int .i64 c.regs) (.slice a0 n0 c0)/\Bx7 W' (w.heap.size+1) (.int .i64 7) (.int .i64 to) (.int .i64 xa) (.int .i64 xb) (.bool ng) (.slice a1 n1 c1) (.slice a2 n2 c2)) from fun W' hb => by
        refine ⟨bx5 hb ?_ ?_ ?_ ?_ ?_ ?_ ?_ ?_ ?_ ?_,bx7 hb ?_ ?_ ?_ ?_ ?_ ?_ ?_ ?_ ?_ ?_ ?_ ?_ ?_ ?_⟩
        all_goals first|assumption|(rw [<- an];simp [go_sem]))
      have zb:Below w.heap.size w W0:=by rw [<- an];exact bS (bN _ _) (bN _ _)
      rw [an]
      clear an
      have i0:=hc.to zb
      have i1:=hx.to zb
      have i2:=hu.to zb
      have gb:Below W0.heap.size W0 W0:=Below.refl _ _
      obtain ⟨⟨z0,ae,af,ag,az,aA,ah,ak,al,aJ,aK⟩,⟨z1,aB,aD,aE,aR,aS,aT,aU,aG,aH,aI,aV,aW,aX,aY⟩⟩:=ap.out _ gb
      go_wp2_with fail
      refine (zj _ (1) _ Hk.out).mono ?_
      rintro e w1 ⟨rfl,rfl⟩
      go_wp2_with fail
      refine (zf _ L xa _ (i2.to gb) HL.out _ Hpa.out).mono ?_
      rintro e w2 ⟨rfl,rfl⟩
      go_wp2_with fail
      refine (zf _ L xb _ (i2.to gb) HL.out _ Hpb.out).mono ?_
      rintro e w3 ⟨rfl,rfl⟩
      go_wp2_with fail
      go_ret
      exact ⟨rfl,bS zb gb⟩
     case false =>
      have ho:nu=o:=by rw [<- ho'];cases nu <;> rfl
      subst ho
      clear ho'
      have Ho:=Lib.hid (show (ng == false && decide (ln=[]) && decide (ld=[]))=nu by rw [<- zcU (op:=7) (to:=to) (xa:=xa) (xb:=xb) (by decide)];exact Hnu.out)
      go_enter Tryz.func34,Tryz.ntmps34
      go_wp2_with fail
      obtain ⟨W0,an⟩:∃ W0,(w.alloc (.cells #[.int .i64 c.ins,.int .i64 c.rows,.int .i64 c.cols,.int .i64 c.regs,.slice a0 n0 c0] 24)).alloc (.cells #[.int .i64 7,.int .i64 to,.int .i64 xa,.int .i64 xb,.bool ng,.slice a1 n1 c1,.slice a2 n2 c2] 49)=W0:=⟨_,rfl⟩
      have ap:=Lib.hid (show ∀ W',Below W0.heap.size W0 W'->(Bx5 W' w.heap.size (.int .i64 c.ins) (.int .i64 c.rows) (.int .i64 c.cols) (.int .i64 c.regs) (.slice a0 n0 c0)/\Bx7 W' (w.heap.size+1) (.int .i64 7) (.int .i64 to) (.int .i64 xa) (.int .i64 xb) (.bool ng) (.slice a1 n1 c1) (.slice a2 n2 c2)) from fun W' hb => by
        refine ⟨bx5 hb ?_ ?_ ?_ ?_ ?_ ?_ ?_ ?_ ?_ ?_,bx7 hb ?_ ?_ ?_ ?_ ?_ ?_ ?_ ?_ ?_ ?_ ?_ ?_ ?_ ?_⟩
        all_goals first|assumption|(rw [<- an];simp [go_sem]))
      have zb:Below w.heap.size w W0:=by rw [<- an];exact bS (bN _ _) (bN _ _)
      rw [an]
      clear an
      have i0:=hc.to zb
      have i1:=hx.to zb
      have i2:=hu.to zb
      have gb:Below W0.heap.size W0 W0:=Below.refl _ _
      obtain ⟨⟨z0,ae,af,ag,az,aA,ah,ak,al,aJ,aK⟩,⟨z1,aB,aD,aE,aR,aS,aT,aU,aG,aH,aI,aV,aW,aX,aY⟩⟩:=ap.out _ gb
      go_wp2_with fail
      refine (zj _ (1) _ Hk.out).mono ?_
      rintro e w1 ⟨rfl,rfl⟩
      go_wp2_with fail
      refine (zf _ L xa _ (i2.to gb) HL.out _ Hpa.out).mono ?_
      rintro e w2 ⟨rfl,rfl⟩
      go_wp2_with fail
      refine (zf _ L xb _ (i2.to gb) HL.out _ Hpb.out).mono ?_
      rintro e w3 ⟨rfl,rfl⟩
      go_wp2_with fail
      refine (zby ng _ _ ln ld false _ _ [] [] _ ((i1.to gb)).1.isF ⟨Rd.nil _,Rd.nil _⟩ _ Ho.out).mono ?_
      clear ae ah af ak ag al az aJ aA aK aB aG aD aH aE aI aR aV aS aW aT aX aU aY
      rintro e w4 ⟨rfl,dd⟩
      replace gb:=bS gb dd
      obtain ⟨⟨z0,ae,af,ag,az,aA,ah,ak,al,aJ,aK⟩,⟨z1,aB,aD,aE,aR,aS,aT,aU,aG,aH,aI,aV,aW,aX,aY⟩⟩:=ap.out _ gb
      go_wp2_with fail
      go_ret
      exact ⟨rfl,bS zb gb⟩

theorem zfo (c:Cd) (v:Value) (op to xa xb:Int) (ng:Bool) (vn vd:Value) (ln ld:List Nat) (u:Value) (L:List Int) (w:World) (hc:IsC w c v) (hx:IsX w ⟨op,to,xa,xb,⟨ng,ln,ld⟩⟩ vn vd) (hu:RdI w u L) (hL:L.length<=100000) (hr:1<=c.rows/\c.rows<=40) (hcl:1<=c.cols/\c.cols<=40) (h1:op=10) (o:Bool) (ho:zp c L ⟨op,to,xa,xb,⟨ng,ln,ld⟩⟩=o) :
  Calls Tryz.prog 34 #[aggC c v,.agg #[.int .i64 op,.int .i64 to,.int .i64 xa,.int .i64 xb,.bool ng,vn,vd],u] w (fun e w' => e=.returned (.bool o)/\Below w.heap.size w w'):=by
 have no0:op≠0:=by omega
 have t0:(op == 0)=false:=by simp;exact no0
 have no1:op≠1:=by omega
 have t1:(op == 1)=false:=by simp;exact no1
 have no6:op≠6:=by omega
 have t6:(op == 6)=false:=by simp;exact no6
 have no7:op≠7:=by omega
 have t7:(op == 7)=false:=by simp;exact no7
 have t10:(op == 10)=true:=by simp;exact h1
 have t1':(op != 1)=true:=by simp;exact no1
 have hk:zd op=1:=by rw [h1];decide
 have hk0:0<=zd op:=by rw [hk];decide
 have pb9:=zae hr hcl
 have HM:IntKind.i64.wrap (c.rows*c.cols)=c.rows*c.cols:=IntWalk.i64_in _ (by omega)
 obtain ⟨pa',tpa'⟩:∃ b,(!decide (xa ∈ L))=b:=⟨_,rfl⟩
 obtain ⟨yb,tyb⟩:∃ b,(xb != 0)=b:=⟨_,rfl⟩
 obtain ⟨u1,tu1⟩:∃ b,decide (to<0)=b:=⟨_,rfl⟩
 obtain ⟨u2,tu2⟩:∃ b,decide (c.rows*c.cols<=to)=b:=⟨_,rfl⟩
 have eA:aOk c L ⟨op,to,xa,xb,⟨ng,ln,ld⟩⟩=(!pa'):=(zcY hk0 no0).trans (show (if decide (1<=zd op)=true then decide (xa ∈ L) else decide (xa=0))=(!pa') by rw [hk,if_pos (by decide),<- tpa',Bool.not_not])
 have eB:bOk L ⟨op,to,xa,xb,⟨ng,ln,ld⟩⟩=(!yb):=(zcC no7).trans (show (if decide (zd op=2)=true then decide (xb ∈ L) else decide (xb=0))=(!yb) by rw [hk,if_neg (by decide),<- zds,tyb])
 have eM:zD c ⟨op,to,xa,xb,⟨ng,ln,ld⟩⟩=c.rows*c.cols:=if_pos h1
 rw [zcT (x:=⟨op,to,xa,xb,⟨ng,ln,ld⟩⟩) hk0,eA,eB,eM] at ho
 obtain ⟨nu,hnu⟩:∃ b,zaJ ⟨op,to,xa,xb,⟨ng,ln,ld⟩⟩=b:=⟨_,rfl⟩
 have ho':((!pa') && (!yb) && (!u1 && !u2) && nu)=o:=by rw [<- ho,hnu,<- tu1,<- tu2,zci,zdb]
 have Hnu:=Lib.hid hnu
 have HL:=Lib.hid hL
 have Hk:=Lib.hid hk
 obtain ⟨pa,hpa⟩:∃ b,decide (xa ∈ L)=b:=⟨_,rfl⟩
 obtain ⟨pb,hpb⟩:∃ b,decide (xb ∈ L)=b:=⟨_,rfl⟩
 have Hpa:=Lib.hid hpa
 have Hpb:=Lib.hid hpb
 have wpa:(!pa)=pa':=by rw [<- hpa,tpa']
 have hn1:ln.length<=1000:=hx.1.2.2.2.1
 have hd1:ld.length<=1000:=hx.1.2.2.2.2
 clear ho hnu hpa hpb eA eB eM hk hk0 pb9 hL tpa'
 clear t0 t1 t6 t7 t10 t1' no1
 subst h1
 obtain ⟨a0,n0,c0,rfl,H0,hm0⟩:=hc.1.open
 obtain ⟨a1,n1,c1,rfl,H1,hm1⟩:=hx.1.1.open
 obtain ⟨a2,n2,c2,rfl,H2,hm2⟩:=hx.1.2.1.open
 cases pa'
 case true =>
  have ho:o=false:=by rw [<- ho'];simp
  subst ho
  clear ho'
  obtain rfl:pa=false:=by simpa using wpa
  go_enter Tryz.func34,Tryz.ntmps34
  go_wp2_with fail
  obtain ⟨W0,an⟩:∃ W0,(w.alloc (.cells #[.int .i64 c.ins,.int .i64 c.rows,.int .i64 c.cols,.int .i64 c.regs,.slice a0 n0 c0] 24)).alloc (.cells #[.int .i64 10,.int .i64 to,.int .i64 xa,.int .i64 xb,.bool ng,.slice a1 n1 c1,.slice a2 n2 c2] 49)=W0:=⟨_,rfl⟩
  have ap:=Lib.hid (show ∀ W',Below W0.heap.size W0 W'->(Bx5 W' w.heap.size (.int .i64 c.ins) (.int .i64 c.rows) (.int .i64 c.cols) (.int .i64 c.regs) (.slice a0 n0 c0)/\Bx7 W' (w.heap.size+1) (.int .i64 10) (.int .i64 to) (.int .i64 xa) (.int .i64 xb) (.bool ng) (.slice a1 n1 c1) (.slice a2 n2 c2)) from fun W' hb => by
    refine ⟨bx5 hb ?_ ?_ ?_ ?_ ?_ ?_ ?_ ?_ ?_ ?_,bx7 hb ?_ ?_ ?_ ?_ ?_ ?_ ?_ ?_ ?_ ?_ ?_ ?_ ?_ ?_⟩
    all_goals first|assumption|(rw [<- an];simp [go_sem]))
  have zb:Below w.heap.size w W0:=by rw [<- an];exact bS (bN _ _) (bN _ _)
  rw [an]
  clear an
  have i0:=hc.to zb
  have i1:=hx.to zb
  have i2:=hu.to zb
  have gb:Below W0.heap.size W0 W0:=Below.refl _ _
  obtain ⟨⟨z0,ae,af,ag,az,aA,ah,ak,al,aJ,aK⟩,⟨z1,aB,aD,aE,aR,aS,aT,aU,aG,aH,aI,aV,aW,aX,aY⟩⟩:=ap.out _ gb
  go_wp2_with fail
  refine (zj _ (1) _ Hk.out).mono ?_
  rintro e w1 ⟨rfl,rfl⟩
  go_wp2_with fail
  refine (zf _ L xa _ (i2.to gb) HL.out _ Hpa.out).mono ?_
  rintro e w2 ⟨rfl,rfl⟩
  go_wp2_with fail
  refine (zf _ L xb _ (i2.to gb) HL.out _ Hpb.out).mono ?_
  rintro e w3 ⟨rfl,rfl⟩
  go_wp2_with fail
  go_ret
  exact ⟨rfl,bS zb gb⟩
 case false =>
  obtain rfl:pa=true:=by simpa using wpa
  cases yb
  case true =>
   have ho:o=false:=by rw [<- ho'];simp
   subst ho
   clear ho'
   go_enter Tryz.func34,Tryz.ntmps34
   go_wp2_with fail
   obtain ⟨W0,an⟩:∃ W0,(w.alloc (.cells #[.int .i64 c.ins,.int .i64 c.rows,.int .i64 c.cols,.int .i64 c.regs,.slice a0 n0 c0] 24)).alloc (.cells #[.int .i64 10,.int .i64 to,.int .i64 xa,.int .i64 xb,.bool ng,.slice a1 n1 c1,.slice a2 n2 c2] 49)=W0:=⟨_,rfl⟩
   have ap:=Lib.hid (show ∀ W',Below W0.heap.size W0 W'->(Bx5 W' w.heap.size (.int .i64 c.ins) (.int .i64 c.rows) (.int .i64 c.cols) (.int .i64 c.regs) (.slice a0 n0 c0)/\Bx7 W' (w.heap.size+1) (.int .i64 10) (.int .i64 to) (.int .i64 xa) (.int .i64 xb) (.bool ng) (.slice a1 n1 c1) (.slice a2 n2 c2)) from fun W' hb => by
     refine ⟨bx5 hb ?_ ?_ ?_ ?_ ?_ ?_ ?_ ?_ ?_ ?_,bx7 hb ?_ ?_ ?_ ?_ ?_ ?_ ?_ ?_ ?_ ?_ ?_ ?_ ?_ ?_⟩
     all_goals first|assumption|(rw [<- an];simp [go_sem]))
   have zb:Below w.heap.size w W0:=by rw [<- an];exact bS (bN _ _) (bN _ _)
   rw [an]
   clear an
   have i0:=hc.to zb
   have i1:=hx.to zb
   have i2:=hu.to zb
   have gb:Below W0.heap.size W0 W0:=Below.refl _ _
   obtain ⟨⟨z0,ae,af,ag,az,aA,ah,ak,al,aJ,aK⟩,⟨z1,aB,aD,aE,aR,aS,aT,aU,aG,aH,aI,aV,aW,aX,aY⟩⟩:=ap.out _ gb
   go_wp2_with fail
   refine (zj _ (1) _ Hk.out).mono ?_
   rintro e w1 ⟨rfl,rfl⟩
   go_wp2_with fail
   refine (zf _ L xa _ (i2.to gb) HL.out _ Hpa.out).mono ?_
   rintro e w2 ⟨rfl,rfl⟩
   go_wp2_with fail
   refine (zf _ L xb _ (i2.to gb) HL.out _ Hpb.out).mono ?_
   rintro e w3 ⟨rfl,rfl⟩
   go_wp2_with fail
   go_ret
   exact ⟨rfl,bS zb gb⟩
  case false =>
   cases u1
   case true =>
    have ho:o=false:=by rw [<- ho'];simp
    subst ho
    clear ho'
    go_enter Tryz.func34,Tryz.ntmps34
    go_wp2_with fail
    obtain ⟨W0,an⟩:∃ W0,(w.alloc (.cells #[.int .i64 c.ins,.int .i64 c.rows,.int .i64 c.cols,.int .i64 c.regs,.slice a0 n0 c0] 24)).alloc (.cells #[.int .i64 10,.int .i64 to,.int .i64 xa,.int .i64 xb,.bool ng,.slice a1 n1 c1,.slice a2 n2 c2] 49)=W0:=⟨_,rfl⟩
    have ap:=Lib.hid (show ∀ W',Below W0.heap.size W0 W'->(Bx5 W' w.heap.size (.int .i64 c.ins) (.int .i64 c.rows) (.int .i64 c.cols) (.int .i64 c.regs) (.slice a0 n0 c0)/\Bx7 W' (w.heap.size+1) (.int .i64 10) (.int .i64 to) (.int .i64 xa) (.int .i64 xb) (.bool ng) (.slice a1 n1 c1) (.slice a2 n2 c2)) from fun W' hb => by
      refine ⟨bx5 hb ?_ ?_ ?_ ?_ ?_ ?_ ?_ ?_ ?_ ?_,bx7 hb ?_ ?_ ?_ ?_ ?_ ?_ ?_ ?_ ?_ ?_ ?_ ?_ ?_ ?_⟩
      all_goals first|assumption|(rw [<- an];simp [go_sem]))
    have zb:Below w.heap.size w W0:=by rw [<- an];exact bS (bN _ _) (bN _ _)
    rw [an]
    clear an
    have i0:=hc.to zb
    have i1:=hx.to zb
    have i2:=hu.to zb
    have gb:Below W0.heap.size W0 W0:=Below.refl _ _
    obtain ⟨⟨z0,ae,af,ag,az,aA,ah,ak,al,aJ,aK⟩,⟨z1,aB,aD,aE,aR,aS,aT,aU,aG,aH,aI,aV,aW,aX,aY⟩⟩:=ap.out _ gb
    go_wp2_with fail
    refine (zj _ (1) _ Hk.out).mono ?_
    rintro e w1 ⟨rfl,rfl⟩
    go_wp2_with fail
    refine (zf _ L xa _ (i2.to gb) HL.out _ Hpa.out).mono ?_
    rintro e w2 ⟨rfl,rfl⟩
    go_wp2_with fail
    refine (zf _ L xb _ (i2.to gb) HL.out _ Hpb.out).mono ?_
    rintro e w3 ⟨rfl,rfl⟩
    go_wp2_with fail
    go_ret
    exact ⟨rfl,bS zb gb⟩
   case false =>
    cases u2
    case true =>
     have ho:o=false:=by rw [<- ho'];simp
     subst ho
     clear ho'
     go_enter Tryz.func34,Tryz.ntmps34
     go_wp2_with fail
     obtain ⟨W0,an⟩:∃ W0,(w.alloc (.cells #[.int .i64 c.ins,.int .i64 c.rows,.int .i64 c.cols,.int .i64 c.regs,.slice a0 n0 c0] 24)).alloc (.cells #[.int .i64 10,.int .i64 to,.int .i64 xa,.int .i64 xb,.bool ng,.slice a1 n1 c1,.slice a2 n2 c2] 49)=W0:=⟨_,rfl⟩
     have ap:=Lib.hid (show ∀ W',Below W0.heap.size W0 W'->(Bx5 W' w.heap.size (.int .i64 c.ins) (.int .i64 c.rows) (.int .i64 c.cols) (.int .i64 c.regs) (.slice a0 n0 c0)/\Bx7 W' (w.heap.size+1) (.int .i64 10) (.int .i64 to) (.int .i64 xa) (.int .i64 xb) (.bool ng) (.slice a1 n1 c1) (.slice a2 n2 c2)) from fun W' hb => by
       refine ⟨bx5 hb ?_ ?_ ?_ ?_ ?_ ?_ ?_ ?_ ?_ ?_,bx7 hb ?_ ?_ ?_ ?_ ?_ ?_ ?_ ?_ ?_ ?_ ?_ ?_ ?_ ?_⟩
       all_goals first|assumption|(rw [<- an];simp [go_sem]))
     have zb:Below w.heap.size w W0:=by rw [<- an];exact bS (bN _ _) (bN _ _)
     rw [an]
     clear an
     have i0:=hc.to zb
     have i1:=hx.to zb
     have i2:=hu.to zb
     have gb:Below W0.heap.size W0 W0:=Below.refl _ _
     obtain ⟨⟨z0,ae,af,ag,az,aA,ah,ak,al,aJ,aK⟩,⟨z1,aB,aD,aE,aR,aS,aT,aU,aG,aH,aI,aV,aW,aX,aY⟩⟩:=ap.out _ gb
     go_wp2_with fail
     refine (zj _ (1) _ Hk.out).mono ?_
     rintro e w1 ⟨rfl,rfl⟩
     go_wp2_with fail
     refine (zf _ L xa _ (i2.to gb) HL.out _ Hpa.out).mono ?_
     rintro e w2 ⟨rfl,rfl⟩
     go_wp2_with fail
     refine (zf _ L xb _ (i2.to gb) HL.out _ Hpb.out).mono ?_
     rintro e w3 ⟨rfl,rfl⟩
     go_wp2_with fail
     go_ret
     exact ⟨rfl,bS zb gb⟩
    case false =>
     have ho:nu=o:=by rw [<- ho'];cases nu <;> rfl
     subst ho
     clear ho'
     have Ho:=Lib.hid (show (ng == false && decide (ln=[]) && decide (ld=[]))=nu by rw [<- zcU (op:=10) (to:=to) (xa:=xa) (xb:=xb) (by decide)];exact Hnu.out)
     go_enter Tryz.func34,Tryz.ntmps34
     go_wp2_with fail
     obtain ⟨W0,an⟩:∃ W0,(w.alloc (.cells #[.int .i64 c.ins,.int .i64 c.rows,.int .i64 c.cols,.int .i64 c.regs,.slice a0 n0 c0] 24)).alloc (.cells #[.int .i64 10,.int .i64 to,.int .i64 xa,.int .i64 xb,.bool ng,.slice a1 n1 c1,.slice a2 n2 c2] 49)=W0:=⟨_,rfl⟩
     have ap:=Lib.hid (show ∀ W',Below W0.heap.size W0 W'->(Bx5 W' w.heap.size (.int .i64 c.ins) (.int .i64 c.rows) (.int .i64 c.cols) (.int .i64 c.regs) (.slice a0 n0 c0)/\Bx7 W' (w.heap.size+1) (.int .i64 10) (.int .i64 to) (.int .i64 xa) (.int .i64 xb) (.bool ng) (.slice a1 n1 c1) (.slice a2 n2 c2)) from fun W' hb => by
       refine ⟨bx5 hb ?_ ?_ ?_ ?_ ?_ ?_ ?_ ?_ ?_ ?_,bx7 hb ?_ ?_ ?_ ?_ ?_ ?_ ?_ ?_ ?_ ?_ ?_ ?_ ?_ ?_⟩
       all_goals first|assumption|(rw [<- an];simp [go_sem]))
     have zb:Below w.heap.size w W0:=by rw [<- an];exact bS (bN _ _) (bN _ _)
     rw [an]
     clear an
     have i0:=hc.to zb
     have i1:=hx.to zb
     have i2:=hu.to zb
     have gb:Below W0.heap.size W0 W0:=Below.refl _ _
     obtain ⟨⟨z0,ae,af,ag,az,aA,ah,ak,al,aJ,aK⟩,⟨z1,aB,aD,aE,aR,aS,aT,aU,aG,aH,aI,aV,aW,aX,aY⟩⟩:=ap.out _ gb
     go_wp2_with fail
     refine (zj _ (1) _ Hk.out).mono ?_
     rintro e w1 ⟨rfl,rfl⟩
     go_wp2_with fail
     refine (zf _ L xa _ (i2.to gb) HL.out _ Hpa.out).mono ?_
     rintro e w2 ⟨rfl,rfl⟩
     go_wp2_with fail
     refine (zf _ L xb _ (i2.to gb) HL.out _ Hpb.out).mono ?_
     rintro e w3 ⟨rfl,rfl⟩
     go_wp2_with fail
     refine (zby ng _ _ ln ld false _ _ [] [] _ ((i1.to gb)).1.isF ⟨Rd.nil _,Rd.nil _⟩ _ Ho.out).mono ?_
     clear ae ah af ak ag al az aJ aA aK aB aG aD aH aE aI aR aV aS aW aT aX aU aY
     rintro e w4 ⟨rfl,dd⟩
     replace gb:=bS gb dd
     obtain ⟨⟨z0,ae,af,ag,az,aA,ah,ak,al,aJ,aK⟩,⟨z1,aB,aD,aE,aR,aS,aT,aU,aG,aH,aI,aV,aW,aX,aY⟩⟩:=ap.out _ gb
     go_wp2_with fail
     go_ret
     exact ⟨rfl,bS zb gb⟩

theorem zeK (c:Cd) (v:Value) (op to xa xb:Int) (ng:Bool) (vn vd:Value) (ln ld:List Nat) (u:Value) (L:List Int) (w:World) (hc:IsC w c v) (hx:IsX w ⟨op,to,xa,xb,⟨ng,ln,ld⟩⟩ vn vd) (hu:RdI w u L) (hL:L.length<=100000) (hr:1<=c.rows/\c.rows<=40) (hcl:1<=c.cols/\c.cols<=40) (o:Bool) (ho:zp c L ⟨op,to,xa,xb,⟨ng,ln,ld⟩⟩=o) :
  Calls Tryz.prog 34 #[aggC c v,.agg #[.int .i64 op,.int .i64 to,.int .i64 xa,.int .i64 xb,.bool ng,vn,vd],u] w (fun e w' => e=.returned (.bool o)/\Below w.heap.size w w'):=by
 by_cases h0:0<=zd op
 ·rcases zjG h0 with (h|h)|h|h|h|h
  ·exact zeL c v op to xa xb ng vn vd ln ld u L w hc hx hu hL hr hcl h o ho
  ·exact zfl c v op to xa xb ng vn vd ln ld u L w hc hx hu hL hr hcl h o ho
  ·exact zfp c v op to xa xb ng vn vd ln ld u L w hc hx hu hL hr hcl h o ho
  ·exact zfn c v op to xa xb ng vn vd ln ld u L w hc hx hu hL hr hcl h o ho
  ·exact zfm c v op to xa xb ng vn vd ln ld u L w hc hx hu hL hr hcl h o ho
  ·exact zfo c v op to xa xb ng vn vd ln ld u L w hc hx hu hL hr hcl h o ho
 ·exact zfT c v op to xa xb ng vn vd ln ld u L w hc hx hu hL hr hcl h0 o ho

end Go.Proofs.YtkjcdnlpjldhaaaGreat


namespace Go.Proofs.YtkjcdnlpjldhaaaGreat
open Go.RowKit Tw
attribute [local go_sem ↓] Go.wp_at_zero Go.wp_at_succ

theorem zfV (c:Cd) (v:Value) (w:World) (hc:IsC w c v) (hs:zbo 1000 c.all) (h0:zbX c=false) :
  Calls Tryz.prog 15 #[aggC c v] w (fun e w' => e=.returned (.bool false)/\Below w.heap.size w w'):=by
 clear hs
 obtain ⟨a0,n0,c0,rfl,H0,hm0⟩:=hc.1.open
 obtain ⟨e0,te0⟩:∃ b,decide (c.ins<1)=b:=⟨_,rfl⟩
 obtain ⟨e1,te1⟩:∃ b,decide (40<c.ins)=b:=⟨_,rfl⟩
 obtain ⟨e2,te2⟩:∃ b,decide (c.rows<1)=b:=⟨_,rfl⟩
 obtain ⟨e3,te3⟩:∃ b,decide (40<c.rows)=b:=⟨_,rfl⟩
 obtain ⟨e4,te4⟩:∃ b,(c.cols != c.ins)=b:=⟨_,rfl⟩
 obtain ⟨e5,te5⟩:∃ b,decide (c.regs<0)=b:=⟨_,rfl⟩
 obtain ⟨e6,te6⟩:∃ b,decide (100000<c.regs)=b:=⟨_,rfl⟩
 obtain ⟨e7,te7⟩:∃ b,decide ((100000:Int)<(n0:Int))=b:=⟨_,rfl⟩
 rw [zeA c n0 H0.out,te0,te1,te2,te3,te4,te5,te6,te7] at h0
 cases e0
 case true =>
  clear h0
  go_enter Tryz.func15,Tryz.ntmps15
  go_wp2_with fail
  obtain ⟨W0,an⟩:∃ W0,w.alloc (.cells #[.int .i64 c.ins,.int .i64 c.rows,.int .i64 c.cols,.int .i64 c.regs,.slice a0 n0 c0] 24)=W0:=⟨_,rfl⟩
  have ap:=Lib.hid (show ∀ W',Below W0.heap.size W0 W'->(Bx5 W' w.heap.size (.int .i64 c.ins) (.int .i64 c.rows) (.int .i64 c.cols) (.int .i64 c.regs) (.slice a0 n0 c0)) from fun W' hb => by
    apply bx5 hb
    all_goals first|assumption|(rw [<- an];simp [go_sem]))
  have zb:Below w.heap.size w W0:=by rw [<- an];exact bN _ _
  rw [an]
  clear an
  have i0:=hc.to zb
  have gb:Below W0.heap.size W0 W0:=Below.refl _ _
  obtain ⟨z0,ae,af,ag,az,aA,ah,ak,al,aJ,aK⟩:=ap.out _ gb
  go_wp2_with fail
  go_ret
  exact ⟨rfl,bS zb gb⟩
 case false =>
  cases e1
  case true =>
   clear h0
   go_enter Tryz.func15,Tryz.ntmps15
   go_wp2_with fail
   obtain ⟨W0,an⟩:∃ W0,w.alloc (.cells #[.int .i64 c.ins,.int .i64 c.rows,.int .i64 c.cols,.int .i64 c.regs,.slice a0 n0 c0] 24)=W0:=⟨_,rfl⟩
   have ap:=Lib.hid (show ∀ W',Below W0.heap.size W0 W'->(Bx5 W' w.heap.size (.int .i64 c.ins) (.int .i64 c.rows) (.int .i64 c.cols) (.int .i64 c.regs) (.slice a0 n0 c0)) from fun W' hb => by
     apply bx5 hb
     all_goals first|assumption|(rw [<- an];simp [go_sem]))
   have zb:Below w.heap.size w W0:=by rw [<- an];exact bN _ _
   rw [an]
   clear an
   have i0:=hc.to zb
   have gb:Below W0.heap.size W0 W0:=Below.refl _ _
   obtain ⟨z0,ae,af,ag,az,aA,ah,ak,al,aJ,aK⟩:=ap.out _ gb
   go_wp2_with fail
   go_ret
   exact ⟨rfl,bS zb gb⟩
  case false =>
   cases e2
   case true =>
    clear h0
    go_enter Tryz.func15,Tryz.ntmps15
    go_wp2_with fail
    obtain ⟨W0,an⟩:∃ W0,w.alloc (.cells #[.int .i64 c.ins,.int .i64 c.rows,.int .i64 c.cols,.int .i64 c.regs,.slice a0 n0 c0] 24)=W0:=⟨_,rfl⟩
    have ap:=Lib.hid (show ∀ W',Below W0.heap.size W0 W'->(Bx5 W' w.heap.size (.int .i64 c.ins) (.int .i64 c.rows) (.int .i64 c.cols) (.int .i64 c.regs) (.slice a0 n0 c0)) from fun W' hb => by
      apply bx5 hb
      all_goals first|assumption|(rw [<- an];simp [go_sem]))
    have zb:Below w.heap.size w W0:=by rw [<- an];exact bN _ _
    rw [an]
    clear an
    have i0:=hc.to zb
    have gb:Below W0.heap.size W0 W0:=Below.refl _ _
    obtain ⟨z0,ae,af,ag,az,aA,ah,ak,al,aJ,aK⟩:=ap.out _ gb
    go_wp2_with fail
    go_ret
    exact ⟨rfl,bS zb gb⟩
   case false =>
    cases e3
    case true =>
     clear h0
     go_enter Tryz.func15,Tryz.ntmps15
     go_wp2_with fail
     obtain ⟨W0,an⟩:∃ W0,w.alloc (.cells #[.int .i64 c.ins,.int .i64 c.rows,.int .i64 c.cols,.int .i64 c.regs,.slice a0 n0 c0] 24)=W0:=⟨_,rfl⟩
     have ap:=Lib.hid (show ∀ W',Below W0.heap.size W0 W'->(Bx5 W' w.heap.size (.int .i64 c.ins) (.int .i64 c.rows) (.int .i64 c.cols) (.int .i64 c.regs) (.slice a0 n0 c0)) from fun W' hb => by
       apply bx5 hb
       all_goals first|assumption|(rw [<- an];simp [go_sem]))
     have zb:Below w.heap.size w W0:=by rw [<- an];exact bN _ _
     rw [an]
     clear an
     have i0:=hc.to zb
     have gb:Below W0.heap.size W0 W0:=Below.refl _ _
     obtain ⟨z0,ae,af,ag,az,aA,ah,ak,al,aJ,aK⟩:=ap.out _ gb
     go_wp2_with fail
     go_ret
     exact ⟨rfl,bS zb gb⟩
    case false =>
     cases e4
     case true =>
      clear h0
      go_enter Tryz.func15,Tryz.ntmps15
      go_wp2_with fail
      obtain ⟨W0,an⟩:∃ W0,w.alloc (.cells #[.int .i64 c.ins,.int .i64 c.rows,.int .i64 c.cols,.int .i64 c.regs,.slice a0 n0 c0] 24)=W0:=⟨_,rfl⟩
      have ap:=Lib.hid (show ∀ W',Below W0.heap.size W0 W'->(Bx5 W' w.heap.size (.int .i64 c.ins) (.int .i64 c.rows) (.int .i64 c.cols) (.int .i64 c.regs) (.slice a0 n0 c0)) from fun W' hb => by
        apply bx5 hb
        all_goals first|assumption|(rw [<- an];simp [go_sem]))
      have zb:Below w.heap.size w W0:=by rw [<- an];exact bN _ _
      rw [an]
      clear an
      have i0:=hc.to zb
      have gb:Below W0.heap.size W0 W0:=Below.refl _ _
      obtain ⟨z0,ae,af,ag,az,aA,ah,ak,al,aJ,aK⟩:=ap.out _ gb
      go_wp2_with fail
      go_ret
      exact ⟨rfl,bS zb gb⟩
     case false =>
      cases e5
      case true =>
       clear h0
       go_enter Tryz.func15,Tryz.ntmps15
       go_wp2_with fail
       obtain ⟨W0,an⟩:∃ W0,w.alloc (.cells #[.int .i64 c.ins,.int .i64 c.rows,.int .i64 c.cols,.int .i64 c.regs,.slice a0 n0 c0] 24)=W0:=⟨_,rfl⟩
       have ap:=Lib.hid (show ∀ W',Below W0.heap.size W0 W'->(Bx5 W' w.heap.size (.int .i64 c.ins) (.int .i64 c.rows) (.int .i64 c.cols) (.int .i64 c.regs) (.slice a0 n0 c0)) from fun W' hb => by
         apply bx5 hb
         all_goals first|assumption|(rw [<- an];simp [go_sem]))
       have zb:Below w.heap.size w W0:=by rw [<- an];exact bN _ _
       rw [an]
       clear an
       have i0:=hc.to zb
       have gb:Below W0.heap.size W0 W0:=Below.refl _ _
       obtain ⟨z0,ae,af,ag,az,aA,ah,ak,al,aJ,aK⟩:=ap.out _ gb
       go_wp2_with fail
       go_ret
       exact ⟨rfl,bS zb gb⟩
      case false =>
       cases e6
       case true =>
        clear h0
        go_enter Tryz.func15,Tryz.ntmps15
        go_wp2_with fail
        obtain ⟨W0,an⟩:∃ W0,w.alloc (.cells #[.int .i64 c.ins,.int .i64 c.rows,.int .i64 c.cols,.int .i64 c.regs,.slice a0 n0 c0] 24)=W0:=⟨_,rfl⟩
        have ap:=Lib.hid (show ∀ W',Below W0.heap.size W0 W'->(Bx5 W' w.heap.size (.int .i64 c.ins) (.int .i64 c.rows) (.int .i64 c.cols) (.int .i64 c.regs) (.slice a0 n0 c0)) from fun W' hb => by
          apply bx5 hb
          all_goals first|assumption|(rw [<- an];simp [go_sem]))
        have zb:Below w.heap.size w W0:=by rw [<- an];exact bN _ _
        rw [an]
        clear an
        have i0:=hc.to zb
        have gb:Below W0.heap.size W0 W0:=Below.refl _ _
        obtain ⟨z0,ae,af,ag,az,aA,ah,ak,al,aJ,aK⟩:=ap.out _ gb
        go_wp2_with fail
        go_ret
        exact ⟨rfl,bS zb gb⟩
       case false =>
        cases e7
        case true =>
         clear h0
         go_enter Tryz.func15,Tryz.ntmps15
         go_wp2_with fail
         obtain ⟨W0,an⟩:∃ W0,w.alloc (.cells #[.int .i64 c.ins,.int .i64 c.rows,.int .i64 c.cols,.int .i64 c.regs,.slice a0 n0 c0] 24)=W0:=⟨_,rfl⟩
         have ap:=Lib.hid (show ∀ W',Below W0.heap.size W0 W'->(Bx5 W' w.heap.size (.int .i64 c.ins) (.int .i64 c.rows) (.int .i64 c.cols) (.int .i64 c.regs) (.slice a0 n0 c0)) from fun W' hb => by
           apply bx5 hb
           all_goals first|assumption|(rw [<- an];simp [go_sem]))
         have zb:Below w.heap.size w W0:=by rw [<- an];exact bN _ _
         rw [an]
         clear an
         have i0:=hc.to zb
         have gb:Below W0.heap.size W0 W0:=Below.refl _ _
         obtain ⟨z0,ae,af,ag,az,aA,ah,ak,al,aJ,aK⟩:=ap.out _ gb
         go_wp2_with fail
         go_ret
         exact ⟨rfl,bS zb gb⟩
        case false =>
         exact absurd h0 (by decide)

theorem zfU (c:Cd) (v:Value) (w:World) (hc:IsC w c v) (hs:zbo 1000 c.all) (h0:zbX c=true) (o:Bool) (ho:zaq c [] c.all=o) :
  Calls Tryz.prog 15 #[aggC c v] w (fun e w' => e=.returned (.bool o)/\Below w.heap.size w w'):=by
 have hh:=h0
 unfold zbX at hh
 simp only [decide_eq_true_eq] at hh
 have Hr:=Lib.hid (show 1<=c.rows/\c.rows<=40 by omega)
 have Hcl:=Lib.hid (show 1<=c.cols/\c.cols<=40 by omega)
 clear hh
 have Hs:=Lib.hid hs
 have Ho:=Lib.hid ho
 clear hs ho
 obtain ⟨a0,n0,c0,rfl,H0,hm0⟩:=hc.1.open
 obtain ⟨e0,te0⟩:∃ b,decide (c.ins<1)=b:=⟨_,rfl⟩
 obtain ⟨e1,te1⟩:∃ b,decide (40<c.ins)=b:=⟨_,rfl⟩
 obtain ⟨e2,te2⟩:∃ b,decide (c.rows<1)=b:=⟨_,rfl⟩
 obtain ⟨e3,te3⟩:∃ b,decide (40<c.rows)=b:=⟨_,rfl⟩
 obtain ⟨e4,te4⟩:∃ b,(c.cols != c.ins)=b:=⟨_,rfl⟩
 obtain ⟨e5,te5⟩:∃ b,decide (c.regs<0)=b:=⟨_,rfl⟩
 obtain ⟨e6,te6⟩:∃ b,decide (100000<c.regs)=b:=⟨_,rfl⟩
 obtain ⟨e7,te7⟩:∃ b,decide ((100000:Int)<(n0:Int))=b:=⟨_,rfl⟩
 rw [zeA c n0 H0.out,te0,te1,te2,te3,te4,te5,te6,te7] at h0
 simp only [Bool.and_eq_true,Bool.not_eq_true'] at h0
 obtain ⟨⟨⟨⟨⟨⟨⟨rfl,rfl⟩,rfl⟩,rfl⟩,rfl⟩,rfl⟩,rfl⟩,rfl⟩:=h0
 have hn0:n0<=100000:=by have:=of_decide_eq_false te7;omega
 go_enter Tryz.func15,Tryz.ntmps15
 go_wp2_with fail
 obtain ⟨W0,an⟩:∃ W0,w.alloc (.cells #[.int .i64 c.ins,.int .i64 c.rows,.int .i64 c.cols,.int .i64 c.regs,.slice a0 n0 c0] 24)=W0:=⟨_,rfl⟩
 have ap:=Lib.hid (show ∀ W',Below W0.heap.size W0 W'->(Bx5 W' w.heap.size (.int .i64 c.ins) (.int .i64 c.rows) (.int .i64 c.cols) (.int .i64 c.regs) (.slice a0 n0 c0)) from fun W' hb => by
   apply bx5 hb
   all_goals first|assumption|(rw [<- an];simp [go_sem]))
 have zb:Below w.heap.size w W0:=by rw [<- an];exact bN _ _
 rw [an]
 clear an
 have i0:=hc.to zb
 have gb:Below W0.heap.size W0 W0:=Below.refl _ _
 obtain ⟨z0,ae,af,ag,az,aA,ah,ak,al,aJ,aK⟩:=ap.out _ gb
 go_wp2_with fail
 go_loopw [3,4] (fun u i ww => ∃ (k:Nat) (L:List Int),k<=n0/\i=.int .i64 k/\Below W0.heap.size W0 ww/\zU 3 W0.heap.size ww u (L.map (Value.int .i64))/\Hid (zaq c L (c.all.drop k)=o)/\L.length<=k) (fun _ i _ => n0 - (intOf i).toNat)
 case atStart => exact ⟨0,[],Nat.zero_le _,rfl,gb,zU.nil _ _ _,by rw [List.drop_zero];exact Ho.out,Nat.zero_le _⟩
 case round =>
  clear ae ah af ak ag al az aJ aA aK
  clear gb
  obtain ⟨k,L,hk,rfl,gb,hO,HA,hL⟩:=hrel
  obtain ⟨z0,ae,af,ag,az,aA,ah,ak,al,aJ,aK⟩:=ap.out _ gb
  by_cases hkn:k<n0
  ·have hki:(k:Int)<(n0:Int):=by omega
   have hkl:k<c.all.length:=by rw [H0.out];exact hkn
   obtain ⟨b,off,rfl,h7⟩:=i0.1.nth hkl
   have HA1:=HA.out
   rw [zed hkl] at HA1
   have hsx:=Hs.out _ (List.getElem_mem hkl)
   obtain ⟨x,hx⟩:∃ x,c.all[k]=x:=⟨_,rfl⟩
   rw [hx] at HA1 h7 hsx
   obtain ⟨vn,vd,s0,s1,s2,s3,s4,s5,s6,hX⟩:=h7.isX hsx.1 hsx.2
   obtain ⟨a1,n1,c1,rfl,H1,hm1⟩:=hX.1.1.open
   obtain ⟨a2,n2,c2,rfl,H2,hm2⟩:=hX.1.2.1.open
   have HX1:=Lib.hid hX
   have HT:Hid (∀ W',Below W0.heap.size W0 W'->W'.cell? ⟨b,off+k*7,none⟩=some (.int .i64 x.op)/\W'.cell? ⟨b,off+k*7+1,none⟩=some (.int .i64 x.to)/\W'.cell? ⟨b,off+k*7+2,none⟩=some (.int .i64 x.a)/\W'.cell? ⟨b,off+k*7+3,none⟩=some (.int .i64 x.b)/\W'.cell? ⟨b,off+k*7+4,none⟩=some (.bool x.q.ng)/\W'.cell? ⟨b,off+k*7+5,none⟩=some (.slice a1 n1 c1)/\W'.cell? ⟨b,off+k*7+6,none⟩=some (.slice a2 n2 c2)):=fun W' hb => by
    refine ⟨(hb.cell (p:=⟨b,off+k*7,none⟩) (zm s0)).trans s0,(hb.cell (p:=⟨b,off+k*7+1,none⟩) (zm s1)).trans s1,(hb.cell (p:=⟨b,off+k*7+2,none⟩) (zm s2)).trans s2,(hb.cell (p:=⟨b,off+k*7+3,none⟩) (zm s3)).trans s3,(hb.cell (p:=⟨b,off+k*7+4,none⟩) (zm s4)).trans s4,(hb.cell (p:=⟨b,off+k*7+5,none⟩) (zm s5)).trans s5,(hb.cell (p:=⟨b,off+k*7+6,none⟩) (zm s6)).trans s6⟩
   clear s0 s1 s2 s3 s4 s5 s6 h7 hsx hX
   clear hx
   have HA2:=Lib.hid HA1
   clear HA HA1
   clear ae ah af ak ag al az aJ aA aK
   obtain ⟨s0,s1,s2,s3,s4,s5,s6⟩:=HT.out _ gb
   obtain ⟨z0,ae,af,ag,az,aA,ah,ak,al,aJ,aK⟩:=ap.out _ gb
   go_wp2_with fail
   have hL2:L.length<=100000:=by omega
   have HL2:=Lib.hid hL2
   cases hio:zp c L x
   case false =>
    have Hio:=Lib.hid hio
    clear hio
    go_region_held3 (fun W' => W'.cell? ⟨w.heap.size,0,none⟩=some (.int .i64 c.ins)/\W'.cell? ⟨w.heap.size,1,none⟩=some (.int .i64 c.rows)/\W'.cell? ⟨w.heap.size,2,none⟩=some (.int .i64 c.cols)/\W'.cell? ⟨w.heap.size,3,none⟩=some (.int .i64 c.regs)/\W'.cell? ⟨w.heap.size,4,none⟩=some (.slice (some ⟨b,off,none⟩) n0 c0)/\W'.cell? ⟨b,off+k*7,none⟩=some (.int .i64 x.op)/\W'.cell? ⟨b,off+k*7+1,none⟩=some (.int .i64 x.to)/\W'.cell? ⟨b,off+k*7+2,none⟩=some (.int .i64 x.a)/\W'.cell? ⟨b,off+k*7+3,none⟩=some (.int .i64 x.b)/\W'.cell? ⟨b,off+k*7+4,none⟩=some (.bool x.q.ng)/\W'.cell? ⟨b,off+k*7+5,none⟩=some (.slice a1 n1 c1)/\W'.cell? ⟨b,off+k*7+6,none⟩=some (.slice a2 n2 c2)) (exact ⟨ae,af,ag,az,aA,s0,s1,s2,s3,s4,s5,s6⟩) (first
     | (go_at_call 34;have gb:=gb.drew;(with_reducible refine (zeK c _ x.op x.to x.a x.b x.q.ng _ _ x.q.n x.q.d _ L _ (i0.to gb) (HX1.out.to gb) hO.drew.rdI HL2.out Hr.out Hcl.out false Hio.out).mono ?_);rintro e w3 ⟨rfl,cl⟩;have gb:=bS gb cl;obtain ⟨s0,s1,s2,s3,s4,s5,s6⟩:=HT.out _ gb;obtain ⟨z0,ae,af,ag,az,aA,ah,ak,al,aJ,aK⟩:=ap.out _ gb))
    have ho:false=o:=by rw [<- HA2.out,Hio.out,Bool.false_and]
    subst ho
    go_wp2_with fail
    go_ret
    exact ⟨rfl,bS zb gb⟩
   case true =>
    have Hio:=Lib.hid hio
    clear hio
    go_region_held3 (fun W' => W'.cell? ⟨w.heap.size,0,none⟩=some (.int .i64 c.ins)/\W'.cell? ⟨w.heap.size,1,none⟩=some (.int .i64 c.rows)/\W'.cell? ⟨w.heap.size,2,none⟩=some (.int .i64 c.cols)/\W'.cell? ⟨w.heap.size,3,none⟩=some (.int .i64 c.regs)/\W'.cell? ⟨w.heap.size,4,none⟩=some (.slice (some ⟨b,off,none⟩) n0 c0)/\W'.cell? ⟨b,off+k*7,none⟩=some (.int .i64 x.op)/\W'.cell? ⟨b,off+k*7+1,none⟩=some (.int .i64 x.to)/\W'.cell? ⟨b,off+k*7+2,none⟩=some (.int .i64 x.a)/\W'.cell? ⟨b,off+k*7+3,none⟩=some (.int .i64 x.b)/\W'.cell? ⟨b,off+k*7+4,none⟩=some (.bool x.q.ng)/\W'.cell? ⟨b,off+k*7+5,none⟩=some (.slice a1 n1 c1)/\W'.cell? ⟨b,off+k*7+6,none⟩=some (.slice a2 n2 c2)) (exact ⟨ae,af,ag,az,aA,s0,s1,s2,s3,s4,s5,s6⟩) (first
     | (go_at_call 34;have gb:=gb.drew;(with_reducible refine (zeK c _ x.op x.to x.a x.b x.q.ng _ _ x.q.n x.q.d _ L _ (i0.to gb) (HX1.out.to gb) hO.drew.rdI HL2.out Hr.out Hcl.out true Hio.out).mono ?_);rintro e w3 ⟨rfl,cl⟩;have gb:=bS gb cl;obtain ⟨s0,s1,s2,s3,s4,s5,s6⟩:=HT.out _ gb;obtain ⟨z0,ae,af,ag,az,aA,ah,ak,al,aJ,aK⟩:=ap.out _ gb))
    have HA3:Hid (zaq c (more L x) (c.all.drop (k+1))=o):=by show _=_;rw [<- HA2.out,Hio.out,Bool.true_and]
    have hO3:=hO.drew.to cl
    have hgs:=gb.size
    clear HA2 hO
    by_cases h10:x.op=10
    ·have t:(x.op != 10)=false:=by simp;exact h10
     have em:more L x=L:=by unfold more;rw [if_pos h10]
     have HA4:Hid (zaq c L (c.all.drop (k+1))=o):=by show _=_;rw [<- HA3.out,em]
     clear h10 em HA3
     go_wp2_with fail
     go_roundw
     case rel => exact ⟨k+1,L,by omega,by go_num,gb,hO3,HA4,by omega⟩
     case measure => simp [intOf] <;> omega
    ·have t:(x.op != 10)=true:=by simp;exact h10
     have em:more L x=L++[x.to]:=by unfold more;rw [if_neg h10]
     have HA4:Hid (zaq c (L++[x.to]) (c.all.drop (k+1))=o):=by show _=_;rw [<- HA3.out,em]
     clear h10 em HA3
     go_wp2_with (at_builtin;refine zlk _ rfl (.tmp 71) (.tmp 78) 67 3 rfl Tryz.underlying67 (.int .i64 0) 8 (by kernel_rfl) (by decide) (by decide) W0.heap.size _ (L.map (Value.int .i64)) (.int .i64 x.to) w3.heap.size 1 rfl rfl (hO3.alloc _) (by simp [go_sem]) rfl (by simp;omega) (by simp;omega) ?_;intro v4 w4 hO4 dd)
     have gb4:Below W0.heap.size W0 w4:=(gb.alloc hgs _).trans dd
     have hO5:zU 3 W0.heap.size w4 v4 ((L++[x.to]).map (Value.int .i64)):=by rw [List.map_append];exact hO4
     go_wp2_with fail
     go_roundw
     case rel => exact ⟨k+1,L++[x.to],by omega,by go_num,gb4,hO5,HA4,by simp;omega⟩
     case measure => simp [intOf] <;> omega
  ·obtain rfl:k=n0:=by omega
   have ho:true=o:=by
    have:=HA.out
    rw [<- H0.out,List.drop_length] at this
    exact this
   subst ho
   go_wp2_with fail
   go_ret
   exact ⟨rfl,bS zb gb⟩

theorem zjQ (c:Cd) (v:Value) (w:World) (hc:IsC w c v) (hs:zbo 1000 c.all) (o:Bool) (ho:zF c=o) :
  Calls Tryz.prog 15 #[aggC c v] w (fun e w' => e=.returned (.bool o)/\Below w.heap.size w w'):=by
 unfold zF at ho
 cases h0:zbX c with
 | false => rw [h0] at ho;obtain rfl:false=o:=ho;exact zfV c v w hc hs h0
 | true => rw [h0,Bool.true_and] at ho;exact zfU c v w hc hs h0 o ho

end Go.Proofs.YtkjcdnlpjldhaaaGreat


namespace Go.Proofs.YtkjcdnlpjldhaaaGreat
open Go.RowKit Tw
attribute [local go_sem ↓] Go.wp_at_zero Go.wp_at_succ

end Go.Proofs.YtkjcdnlpjldhaaaGreat

