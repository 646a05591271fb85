/-
  The document's answer for code: an instruction's fields.
-/
import Derived.Test.YtkjcdnlpjldhaaaGreatK21
import Derived.Test.YtkjcdnlpjldhaaaGreatK20
import Derived.Test.YtkjcdnlpjldhaaaGreatK18
import Derived.Test.YtkjcdnlpjldhaaaGreatK16
import Derived.Test.YtkjcdnlpjldhaaaGreatK13
import Derived.Test.YtkjcdnlpjldhaaaGreatK12
import Derived.Test.YtkjcdnlpjldhaaaGreatK10
import Derived.Test.YtkjcdnlpjldhaaaGreatK09
import Derived.Test.YtkjcdnlpjldhaaaGreatK08
import Derived.Test.YtkjcdnlpjldhaaaGreatK07
import Derived.Test.YtkjcdnlpjldhaaaGreatK02
import Derived.Test.YtkjcdnlpjldhaaaGreatK01
import Derived.Test.YtkjcdnlpjldhaaaGreatK06
import Derived.Test.YtkjcdnlpjldhaaaGreatK11
import Derived.Test.YtkjcdnlpjldhaaaGreatK03
import Derived.Test.YtkjcdnlpjldhaaaGreatK04
import Derived.Test.YtkjcdnlpjldhaaaGreatK15
import Derived.Test.YtkjcdnlpjldhaaaGreatK14
import Derived.Test.YtkjcdnlpjldhaaaGreatK17
import Derived.Test.YtkjcdnlpjldhaaaGreatDDeciMath
import Derived.Test.YtkjcdnlpjldhaaaGreatDRef6
import Derived.Test.YtkjcdnlpjldhaaaGreatDRef8
import Derived.Test.YtkjcdnlpjldhaaaGreatDVmRow
import Derived.Test.YtkjcdnlpjldhaaaGreatDVm1
import Derived.Test.YtkjcdnlpjldhaaaGreatDVm5
import Derived.Deep.RegionHeld3
set_option linter.unusedVariables false
set_option linter.unusedSimpArgs false
set_option maxRecDepth 100000
set_option maxHeartbeats 400000000
namespace Go.Proofs.YtkjcdnlpjldhaaaGreat
open Go.RowKit Tw
attribute [local go_sem ↓] Go.wp_at_zero Go.wp_at_succ

theorem not_dlt (a b:Int):(!decide (a<b))=decide (b<=a):=by rw [<- decide_not];exact decide_eq_decide.2 Int.not_lt

theorem not_dle (a b:Int):(!decide (a<=b))=decide (b<a):=by rw [<- decide_not];exact decide_eq_decide.2 Int.not_le

theorem not_bne0 (a:Int):(!(a != 0))=decide (a=0):=by by_cases h:a=0 <;> simp [h]

theorem insOk_re {c:Cd} {L:List Int} {x:Ins} (hk:0<=zi x.op):zA c L x=(aOk c L x && bOk L x && (decide (0<=x.to) && decide (x.to<zK c x)) && zcd x):=by
 unfold zA
 rw [decide_eq_true hk,Bool.true_and,Bool.decide_and]
 cases zcd x <;> cases aOk c L x <;> cases bOk L x <;> simp

theorem print_le (n:Nat) (b:Bool) (h:decide ((zbZ n).length<=40)=b):decide (((ba (zbZ n)).size:Int)<=40)=b:=by
 rw [<- h];apply decide_eq_decide.2;rw [ba_size];omega

theorem numOk_not {op to xa xb:Int} {ng:Bool} {ln ld:List Nat} (h:op≠1):zcd ⟨op,to,xa,xb,⟨ng,ln,ld⟩⟩=(ng == false && decide (ln=[]) && decide (ld=[])):=by
 unfold zcd
 rw [if_neg h]
 have e:∀ l:List Nat,decide (l.length=0)=decide (l=[]):=fun l => decide_eq_decide.2 List.length_eq_zero_iff
 simp only [e]
 cases ng <;> rfl

theorem ref25_regs_k (op k:Int) (w:World) (hk:zi op=k):Calls Tryz.prog 36 #[.int .i64 op] w (fun e w' => e=.returned (.int .i64 k)/\w=w'):=by
 subst hk;exact ref25_regs op w

theorem ref25_fields_no (c:Cd) (v:Value) (op to xa xb:Int) (ng:Bool) (vn vd:Value) (ln ld:List Nat) (u:Value) (L:List Int) (w:World) (hc:IsC w c v) (hx:IsX w ⟨op,to,xa,xb,⟨ng,ln,ld⟩⟩ vn vd) (hu:RdI w u L) (hL:L.length<=100000) (hr:1<=c.rows/\c.rows<=40) (hcl:1<=c.cols/\c.cols<=40) (h0:¬ 0<=zi op) (o:Bool) (ho:zA c L ⟨op,to,xa,xb,⟨ng,ln,ld⟩⟩=o) :
  Calls Tryz.prog 34 #[aggC c v,.agg #[.int .i64 op,.int .i64 to,.int .i64 xa,.int .i64 xb,.bool ng,vn,vd],u] w (fun e w' => e=.returned (.bool o)/\Below w.heap.size w w'):=by
 have ho':o=false:=by
  rw [<- ho];unfold zA
  rw [decide_eq_false h0];rfl
 have Hk:=Lib.hid (show zi op=-1 by have:=opRegs_le op;omega)
 clear ho h0 hr hcl hL
 subst ho'
 obtain ⟨a0,n0,c0,rfl,H0,hm0⟩:=hc.1.open
 obtain ⟨a1,n1,c1,rfl,H1,hm1⟩:=hx.1.1.open
 obtain ⟨a2,n2,c2,rfl,H2,hm2⟩:=hx.1.2.1.open
 go_enter Tryz.func34,Tryz.ntmps34
 go_wp2_with fail
 obtain ⟨W0,ap⟩:∃ W0,(w.alloc (.cells #[.int .i64 c.ins,.int .i64 c.rows,.int .i64 c.cols,.int .i64 c.regs,.slice a0 n0 c0] 24)).alloc (.cells #[.int .i64 op,.int .i64 to,.int .i64 xa,.int .i64 xb,.bool ng,.slice a1 n1 c1,.slice a2 n2 c2] 49)=W0:=⟨_,rfl⟩
 have aq:=Lib.hid (show ∀ W',Below W0.heap.size W0 W'->(Bx5 W' w.heap.size (.int .i64 c.ins) (.int .i64 c.rows) (.int .i64 c.cols) (.int .i64 c.regs) (.slice a0 n0 c0)/\Bx7 W' (w.heap.size+1) (.int .i64 op) (.int .i64 to) (.int .i64 xa) (.int .i64 xb) (.bool ng) (.slice a1 n1 c1) (.slice a2 n2 c2)) from fun W' hb => by
   refine ⟨bx5 hb ?_ ?_ ?_ ?_ ?_ ?_ ?_ ?_ ?_ ?_,bx7 hb ?_ ?_ ?_ ?_ ?_ ?_ ?_ ?_ ?_ ?_ ?_ ?_ ?_ ?_⟩
   all_goals first|assumption|(rw [<- ap];simp [go_sem]))
 have zb:Below w.heap.size w W0:=by rw [<- ap];exact bS (bN _ _) (bN _ _)
 rw [ap]
 clear ap
 have i0:=hc.to zb
 have i1:=hx.to zb
 have i2:=hu.to zb
 have gb:Below W0.heap.size W0 W0:=Below.refl _ _
 obtain ⟨⟨z0,ae,af,ah,az,aA,ai,ak,al,aE,aF⟩,⟨z1,am,an,aw,aT,aU,aV,aW,aB,aC,aD,aX,aY,aZ,a9⟩⟩:=aq.out _ gb
 go_wp2_with fail
 refine (ref25_regs_k _ (-1) _ Hk.out).mono ?_
 rintro e w1 ⟨rfl,rfl⟩
 go_wp2_with fail
 go_ret
 exact ⟨rfl,bS zb gb⟩

theorem ref25_fields_zero (c:Cd) (v:Value) (op to xa xb:Int) (ng:Bool) (vn vd:Value) (ln ld:List Nat) (u:Value) (L:List Int) (w:World) (hc:IsC w c v) (hx:IsX w ⟨op,to,xa,xb,⟨ng,ln,ld⟩⟩ vn vd) (hu:RdI w u L) (hL:L.length<=100000) (hr:1<=c.rows/\c.rows<=40) (hcl:1<=c.cols/\c.cols<=40) (h1:op=0) (o:Bool) (ho:zA c L ⟨op,to,xa,xb,⟨ng,ln,ld⟩⟩=o) :
  Calls Tryz.prog 34 #[aggC c v,.agg #[.int .i64 op,.int .i64 to,.int .i64 xa,.int .i64 xb,.bool ng,vn,vd],u] w (fun e w' => e=.returned (.bool o)/\Below w.heap.size w w'):=by
 have t0:(op == 0)=true:=by simp;exact h1
 have no1:op≠1:=by omega
 have t1:(op == 1)=false:=by simp;exact no1
 have no6:op≠6:=by omega
 have t6:(op == 6)=false:=by simp;exact no6
 have no7:op≠7:=by omega
 have t7:(op == 7)=false:=by simp;exact no7
 have no10:op≠10:=by omega
 have t10:(op == 10)=false:=by simp;exact no10
 have t1':(op != 1)=true:=by simp;exact no1
 have hk:zi op=0:=by rw [h1];decide
 have hk0:0<=zi op:=by rw [hk];decide
 have pb9:=zbw hr hcl
 have HM:IntKind.i64.wrap (c.rows*c.cols)=c.rows*c.cols:=IntWalk.i64_in _ (by omega)
 obtain ⟨z1,tz1⟩:∃ b,decide (xa<0)=b:=⟨_,rfl⟩
 obtain ⟨z2,tz2⟩:∃ b,decide (c.ins<=xa)=b:=⟨_,rfl⟩
 obtain ⟨yb,tyb⟩:∃ b,(xb != 0)=b:=⟨_,rfl⟩
 obtain ⟨u1,tu1⟩:∃ b,decide (to<0)=b:=⟨_,rfl⟩
 obtain ⟨u2,tu2⟩:∃ b,decide (c.regs<=to)=b:=⟨_,rfl⟩
 have eAQ:aOk c L ⟨op,to,xa,xb,⟨ng,ln,ld⟩⟩=(!z1 && !z2):=(aOk_zero h1).trans (show (decide (0<=xa) && decide (xa<c.ins))=(!z1 && !z2) by rw [<- not_dlt xa 0,<- not_dle c.ins xa,tz1,tz2])
 have eBQ:bOk L ⟨op,to,xa,xb,⟨ng,ln,ld⟩⟩=(!yb):=(zfZ no7).trans (show (if decide (zi op=2)=true then decide (xb ∈ L) else decide (xb=0))=(!yb) by rw [hk,if_neg (by decide),<- not_bne0,tyb])
 have eMQ:zK c ⟨op,to,xa,xb,⟨ng,ln,ld⟩⟩=c.regs:=if_neg no10
 rw [insOk_re (x:=⟨op,to,xa,xb,⟨ng,ln,ld⟩⟩) hk0,eAQ,eBQ,eMQ] at ho
 obtain ⟨nu,hnu⟩:∃ b,zcd ⟨op,to,xa,xb,⟨ng,ln,ld⟩⟩=b:=⟨_,rfl⟩
 have ho':((!z1 && !z2) && (!yb) && (!u1 && !u2) && nu)=o:=by rw [<- ho,hnu,<- tu1,<- tu2,not_dlt,not_dle]
 have Hnu:=Lib.hid hnu
 have HL:=Lib.hid hL
 have Hk:=Lib.hid hk
 obtain ⟨pa,hpa⟩:∃ b,decide (xa ∈ L)=b:=⟨_,rfl⟩
 obtain ⟨pb,hpb⟩:∃ b,decide (xb ∈ L)=b:=⟨_,rfl⟩
 have Hpa:=Lib.hid hpa
 have Hpb:=Lib.hid hpb
 have hn1:ln.length<=1000:=hx.1.2.2.2.1
 have hd1:ld.length<=1000:=hx.1.2.2.2.2
 clear ho hnu hpa hpb eAQ eBQ eMQ hk hk0 pb9 hL 
 clear t0 t1 t6 t7 t10 t1' no1
 subst h1
 obtain ⟨a0,n0,c0,rfl,H0,hm0⟩:=hc.1.open
 obtain ⟨a1,n1,c1,rfl,H1,hm1⟩:=hx.1.1.open
 obtain ⟨a2,n2,c2,rfl,H2,hm2⟩:=hx.1.2.1.open
 cases z1
 case true =>
  have ho:o=false:=by rw [<- ho'];simp
  subst ho
  clear ho'
  go_enter Tryz.func34,Tryz.ntmps34
  go_wp2_with fail
  obtain ⟨W0,ap⟩:∃ W0,(w.alloc (.cells #[.int .i64 c.ins,.int .i64 c.rows,.int .i64 c.cols,.int .i64 c.regs,.slice a0 n0 c0] 24)).alloc (.cells #[.int .i64 0,.int .i64 to,.int .i64 xa,.int .i64 xb,.bool ng,.slice a1 n1 c1,.slice a2 n2 c2] 49)=W0:=⟨_,rfl⟩
  have aq:=Lib.hid (show ∀ W',Below W0.heap.size W0 W'->(Bx5 W' w.heap.size (.int .i64 c.ins) (.int .i64 c.rows) (.int .i64 c.cols) (.int .i64 c.regs) (.slice a0 n0 c0)/\Bx7 W' (w.heap.size+1) (.int .i64 0) (.int .i64 to) (.int .i64 xa) (.int .i64 xb) (.bool ng) (.slice a1 n1 c1) (.slice a2 n2 c2)) from fun W' hb => by
    refine ⟨bx5 hb ?_ ?_ ?_ ?_ ?_ ?_ ?_ ?_ ?_ ?_,bx7 hb ?_ ?_ ?_ ?_ ?_ ?_ ?_ ?_ ?_ ?_ ?_ ?_ ?_ ?_⟩
    all_goals first|assumption|(rw [<- ap];simp [go_sem]))
  have zb:Below w.heap.size w W0:=by rw [<- ap];exact bS (bN _ _) (bN _ _)
  rw [ap]
  clear ap
  have i0:=hc.to zb
  have i1:=hx.to zb
  have i2:=hu.to zb
  have gb:Below W0.heap.size W0 W0:=Below.refl _ _
  obtain ⟨⟨z0,ae,af,ah,az,aA,ai,ak,al,aE,aF⟩,⟨z1,am,an,aw,aT,aU,aV,aW,aB,aC,aD,aX,aY,aZ,a9⟩⟩:=aq.out _ gb
  go_wp2_with fail
  refine (ref25_regs_k _ (0) _ Hk.out).mono ?_
  rintro e w1 ⟨rfl,rfl⟩
  go_wp2_with fail
  refine (ref25_in _ L xa _ (i2.to gb) HL.out _ Hpa.out).mono ?_
  rintro e w2 ⟨rfl,rfl⟩
  go_wp2_with fail
  refine (ref25_in _ L xb _ (i2.to gb) HL.out _ Hpb.out).mono ?_
  rintro e w3 ⟨rfl,rfl⟩
  go_wp2_with fail
  go_ret
  exact ⟨rfl,bS zb gb⟩
 case false =>
  cases z2
  case true =>
   have ho:o=false:=by rw [<- ho'];simp
   subst ho
   clear ho'
   go_enter Tryz.func34,Tryz.ntmps34
   go_wp2_with fail
   obtain ⟨W0,ap⟩:∃ W0,(w.alloc (.cells #[.int .i64 c.ins,.int .i64 c.rows,.int .i64 c.cols,.int .i64 c.regs,.slice a0 n0 c0] 24)).alloc (.cells #[.int .i64 0,.int .i64 to,.int .i64 xa,.int .i64 xb,.bool ng,.slice a1 n1 c1,.slice a2 n2 c2] 49)=W0:=⟨_,rfl⟩
   have aq:=Lib.hid (show ∀ W',Below W0.heap.size W0 W'->(Bx5 W' w.heap.size (.int .i64 c.ins) (.int .i64 c.rows) (.int .i64 c.cols) (.int .i64 c.regs) (.slice a0 n0 c0)/\Bx7 W' (w.heap.size+1) (.int .i64 0) (.int .i64 to) (.int .i64 xa) (.int .i64 xb) (.bool ng) (.slice a1 n1 c1) (.slice a2 n2 c2)) from fun W' hb => by
     refine ⟨bx5 hb ?_ ?_ ?_ ?_ ?_ ?_ ?_ ?_ ?_ ?_,bx7 hb ?_ ?_ ?_ ?_ ?_ ?_ ?_ ?_ ?_ ?_ ?_ ?_ ?_ ?_⟩
     all_goals first|assumption|(rw [<- ap];simp [go_sem]))
   have zb:Below w.heap.size w W0:=by rw [<- ap];exact bS (bN _ _) (bN _ _)
   rw [ap]
   clear ap
   have i0:=hc.to zb
   have i1:=hx.to zb
   have i2:=hu.to zb
   have gb:Below W0.heap.size W0 W0:=Below.refl _ _
   obtain ⟨⟨z0,ae,af,ah,az,aA,ai,ak,al,aE,aF⟩,⟨z1,am,an,aw,aT,aU,aV,aW,aB,aC,aD,aX,aY,aZ,a9⟩⟩:=aq.out _ gb
   go_wp2_with fail
   refine (ref25_regs_k _ (0) _ Hk.out).mono ?_
   rintro e w1 ⟨rfl,rfl⟩
   go_wp2_with fail
   refine (ref25_in _ L xa _ (i2.to gb) HL.out _ Hpa.out).mono ?_
   rintro e w2 ⟨rfl,rfl⟩
   go_wp2_with fail
   refine (ref25_in _ L xb _ (i2.to gb) HL.out _ Hpb.out).mono ?_
   rintro e w3 ⟨rfl,rfl⟩
   go_wp2_with fail
   go_ret
   exact ⟨rfl,bS zb gb⟩
  case false =>
   cases yb
   case true =>
    have ho:o=false:=by rw [<- ho'];simp
    subst ho
    clear ho'
    go_enter Tryz.func34,Tryz.ntmps34
    go_wp2_with fail
    obtain ⟨W0,ap⟩:∃ W0,(w.alloc (.cells #[.int .i64 c.ins,.int .i64 c.rows,.int .i64 c.cols,.int .i64 c.regs,.slice a0 n0 c0] 24)).alloc (.cells #[.int .i64 0,.int .i64 to,.int .i64 xa,.int .i64 xb,.bool ng,.slice a1 n1 c1,.slice a2 n2 c2] 49)=W0:=⟨_,rfl⟩
    have aq:=Lib.hid (show ∀ W',Below W0.heap.size W0 W'->(Bx5 W' w.heap.size (.int .i64 c.ins) (.int .i64 c.rows) (.int .i64 c.cols) (.int .i64 c.regs) (.slice a0 n0 c0)/\Bx7 W' (w.heap.size+1) (.int .i64 0) (.int .i64 to) (.int .i64 xa) (.int .i64 xb) (.bool ng) (.slice a1 n1 c1) (.slice a2 n2 c2)) from fun W' hb => by
      refine ⟨bx5 hb ?_ ?_ ?_ ?_ ?_ ?_ ?_ ?_ ?_ ?_,bx7 hb ?_ ?_ ?_ ?_ ?_ ?_ ?_ ?_ ?_ ?_ ?_ ?_ ?_ ?_⟩
      all_goals first|assumption|(rw [<- ap];simp [go_sem]))
    have zb:Below w.heap.size w W0:=by rw [<- ap];exact bS (bN _ _) (bN _ _)
    rw [ap]
    clear ap
    have i0:=hc.to zb
    have i1:=hx.to zb
    have i2:=hu.to zb
    have gb:Below W0.heap.size W0 W0:=Below.refl _ _
    obtain ⟨⟨z0,ae,af,ah,az,aA,ai,ak,al,aE,aF⟩,⟨z1,am,an,aw,aT,aU,aV,aW,aB,aC,aD,aX,aY,aZ,a9⟩⟩:=aq.out _ gb
    go_wp2_with fail
    refine (ref25_regs_k _ (0) _ Hk.out).mono ?_
    rintro e w1 ⟨rfl,rfl⟩
    go_wp2_with fail
    refine (ref25_in _ L xa _ (i2.to gb) HL.out _ Hpa.out).mono ?_
    rintro e w2 ⟨rfl,rfl⟩
    go_wp2_with fail
    refine (ref25_in _ L xb _ (i2.to gb) HL.out _ Hpb.out).mono ?_
    rintro e w3 ⟨rfl,rfl⟩
    go_wp2_with fail
    go_ret
    exact ⟨rfl,bS zb gb⟩
   case false =>
    cases u1
    case true =>
     have ho:o=false:=by rw [<- ho'];simp
     subst ho
     clear ho'
     go_enter Tryz.func34,Tryz.ntmps34
     go_wp2_with fail
     obtain ⟨W0,ap⟩:∃ W0,(w.alloc (.cells #[.int .i64 c.ins,.int .i64 c.rows,.int .i64 c.cols,.int .i64 c.regs,.slice a0 n0 c0] 24)).alloc (.cells #[.int .i64 0,.int .i64 to,.int .i64 xa,.int .i64 xb,.bool ng,.slice a1 n1 c1,.slice a2 n2 c2] 49)=W0:=⟨_,rfl⟩
     have aq:=Lib.hid (show ∀ W',Below W0.heap.size W0 W'->(Bx5 W' w.heap.size (.int .i64 c.ins) (.int .i64 c.rows) (.int .i64 c.cols) (.int .i64 c.regs) (.slice a0 n0 c0)/\Bx7 W' (w.heap.size+1) (.int .i64 0) (.int .i64 to) (.int .i64 xa) (.int .i64 xb) (.bool ng) (.slice a1 n1 c1) (.slice a2 n2 c2)) from fun W' hb => by
       refine ⟨bx5 hb ?_ ?_ ?_ ?_ ?_ ?_ ?_ ?_ ?_ ?_,bx7 hb ?_ ?_ ?_ ?_ ?_ ?_ ?_ ?_ ?_ ?_ ?_ ?_ ?_ ?_⟩
       all_goals first|assumption|(rw [<- ap];simp [go_sem]))
     have zb:Below w.heap.size w W0:=by rw [<- ap];exact bS (bN _ _) (bN _ _)
     rw [ap]
     clear ap
     have i0:=hc.to zb
     have i1:=hx.to zb
     have i2:=hu.to zb
     have gb:Below W0.heap.size W0 W0:=Below.refl _ _
     obtain ⟨⟨z0,ae,af,ah,az,aA,ai,ak,al,aE,aF⟩,⟨z1,am,an,aw,aT,aU,aV,aW,aB,aC,aD,aX,aY,aZ,a9⟩⟩:=aq.out _ gb
     go_wp2_with fail
     refine (ref25_regs_k _ (0) _ Hk.out).mono ?_
     rintro e w1 ⟨rfl,rfl⟩
     go_wp2_with fail
     refine (ref25_in _ L xa _ (i2.to gb) HL.out _ Hpa.out).mono ?_
     rintro e w2 ⟨rfl,rfl⟩
     go_wp2_with fail
     refine (ref25_in _ L xb _ (i2.to gb) HL.out _ Hpb.out).mono ?_
     rintro e w3 ⟨rfl,rfl⟩
     go_wp2_with fail
     go_ret
     exact ⟨rfl,bS zb gb⟩
    case false =>
     cases u2
     case true =>
      have ho:o=false:=by rw [<- ho'];simp
      subst ho
      clear ho'
      go_enter Tryz.func34,Tryz.ntmps34
      go_wp2_with fail
      obtain ⟨W0,ap⟩:∃ W0,(w.alloc (.cells #[.int .i64 c.ins,.int .i64 c.rows,.int .i64 c.cols,.int .i64 c.regs,.slice a0 n0 c0] 24)).alloc (.cells #[.int .i64 0,.int .i64 to,.int .i64 xa,.int .i64 xb,.bool ng,.slice a1 n1 c1,.slice a2 n2 c2] 49)=W0:=⟨_,rfl⟩
      have aq:=Lib.hid (show ∀ W',Below W0.heap.size W0 W'->(Bx5 W' w.heap.size (.int .i64 c.ins) (.int .i64 c.rows) (.int .i64 c.cols) (.int .i64 c.regs) (.slice a0 n0 c0)/\Bx7 W' (w.heap.size+1) (.int .i64 0) (.int .i64 to) (.int .i64 xa) (.int .i64 xb) (.bool ng) (.slice a1 n1 c1) (.slice a2 n2 c2)) from fun W' hb => by
        refine ⟨bx5 hb ?_ ?_ ?_ ?_ ?_ ?_ ?_ ?_ ?_ ?_,bx7 hb ?_ ?_ ?_ ?_ ?_ ?_ ?_ ?_ ?_ ?_ ?_ ?_ ?_ ?_⟩
        all_goals first|assumption|(rw [<- ap];simp [go_sem]))
      have zb:Below w.heap.size w W0:=by rw [<- ap];exact bS (bN _ _) (bN _ _)
      rw [ap]
      clear ap
      have i0:=hc.to zb
      have i1:=hx.to zb
      have i2:=hu.to zb
      have gb:Below W0.heap.size W0 W0:=Below.refl _ _
      obtain ⟨⟨z0,ae,af,ah,az,aA,ai,ak,al,aE,aF⟩,⟨z1,am,an,aw,aT,aU,aV,aW,aB,aC,aD,aX,aY,aZ,a9⟩⟩:=aq.out _ gb
      go_wp2_with fail
      refine (ref25_regs_k _ (0) _ Hk.out).mono ?_
      rintro e w1 ⟨rfl,rfl⟩
      go_wp2_with fail
      refine (ref25_in _ L xa _ (i2.to gb) HL.out _ Hpa.out).mono ?_
      rintro e w2 ⟨rfl,rfl⟩
      go_wp2_with fail
      refine (ref25_in _ L xb _ (i2.to gb) HL.out _ Hpb.out).mono ?_
      rintro e w3 ⟨rfl,rfl⟩
      go_wp2_with fail
      go_ret
      exact ⟨rfl,bS zb gb⟩
     case false =>
      have ho:nu=o:=by rw [<- ho'];cases nu <;> rfl
      subst ho
      clear ho'
      have Ho:=Lib.hid (show (ng == false && decide (ln=[]) && decide (ld=[]))=nu by rw [<- numOk_not (op:=0) (to:=to) (xa:=xa) (xb:=xb) (by decide)];exact Hnu.out)
      go_enter Tryz.func34,Tryz.ntmps34
      go_wp2_with fail
      obtain ⟨W0,ap⟩:∃ W0,(w.alloc (.cells #[.int .i64 c.ins,.int .i64 c.rows,.int .i64 c.cols,.int .i64 c.regs,.slice a0 n0 c0] 24)).alloc (.cells #[.int .i64 0,.int .i64 to,.int .i64 xa,.int .i64 xb,.bool ng,.slice a1 n1 c1,.slice a2 n2 c2] 49)=W0:=⟨_,rfl⟩
      have aq:=Lib.hid (show ∀ W',Below W0.heap.size W0 W'->(Bx5 W' w.heap.size (.int .i64 c.ins) (.int .i64 c.rows) (.int .i64 c.cols) (.int .i64 c.regs) (.slice a0 n0 c0)/\Bx7 W' (w.heap.size+1) (.int .i64 0) (.int .i64 to) (.int .i64 xa) (.int .i64 xb) (.bool ng) (.slice a1 n1 c1) (.slice a2 n2 c2)) from fun W' hb => by
        refine ⟨bx5 hb ?_ ?_ ?_ ?_ ?_ ?_ ?_ ?_ ?_ ?_,bx7 hb ?_ ?_ ?_ ?_ ?_ ?_ ?_ ?_ ?_ ?_ ?_ ?_ ?_ ?_⟩
        all_goals first|assumption|(rw [<- ap];simp [go_sem]))
      have zb:Below w.heap.size w W0:=by rw [<- ap];exact bS (bN _ _) (bN _ _)
      rw [ap]
      clear ap
      have i0:=hc.to zb
      have i1:=hx.to zb
      have i2:=hu.to zb
      have gb:Below W0.heap.size W0 W0:=Below.refl _ _
      obtain ⟨⟨z0,ae,af,ah,az,aA,ai,ak,al,aE,aF⟩,⟨z1,am,an,aw,aT,aU,aV,aW,aB,aC,aD,aX,aY,aZ,a9⟩⟩:=aq.out _ gb
      go_wp2_with fail
      refine (ref25_regs_k _ (0) _ Hk.out).mono ?_
      rintro e w1 ⟨rfl,rfl⟩
      go_wp2_with fail
      refine (ref25_in _ L xa _ (i2.to gb) HL.out _ Hpa.out).mono ?_
      rintro e w2 ⟨rfl,rfl⟩
      go_wp2_with fail
      refine (ref25_in _ L xb _ (i2.to gb) HL.out _ Hpb.out).mono ?_
      rintro e w3 ⟨rfl,rfl⟩
      go_wp2_with fail
      refine (ziy ng _ _ ln ld false _ _ [] [] _ ((i1.to gb)).1.isF ⟨Rd.nil _,Rd.nil _⟩ _ Ho.out).mono ?_
      clear ae ai af ak ah al az aE aA aF am aB an aC aw aD aT aX aU aY aV aZ aW a9
      rintro e w4 ⟨rfl,di⟩
      replace gb:=bS gb di
      obtain ⟨⟨z0,ae,af,ah,az,aA,ai,ak,al,aE,aF⟩,⟨z1,am,an,aw,aT,aU,aV,aW,aB,aC,aD,aX,aY,aZ,a9⟩⟩:=aq.out _ gb
      go_wp2_with fail
      go_ret
      exact ⟨rfl,bS zb gb⟩

theorem ref25_fields_one (c:Cd) (v:Value) (op to xa xb:Int) (ng:Bool) (vn vd:Value) (ln ld:List Nat) (u:Value) (L:List Int) (w:World) (hc:IsC w c v) (hx:IsX w ⟨op,to,xa,xb,⟨ng,ln,ld⟩⟩ vn vd) (hu:RdI w u L) (hL:L.length<=100000) (hr:1<=c.rows/\c.rows<=40) (hcl:1<=c.cols/\c.cols<=40) (h1:op=1) (o:Bool) (ho:zA c L ⟨op,to,xa,xb,⟨ng,ln,ld⟩⟩=o) :
  Calls Tryz.prog 34 #[aggC c v,.agg #[.int .i64 op,.int .i64 to,.int .i64 xa,.int .i64 xb,.bool ng,vn,vd],u] w (fun e w' => e=.returned (.bool o)/\Below w.heap.size w w'):=by
 have no0:op≠0:=by omega
 have t0:(op == 0)=false:=by simp;exact no0
 have t1:(op == 1)=true:=by simp;exact h1
 have no6:op≠6:=by omega
 have t6:(op == 6)=false:=by simp;exact no6
 have no7:op≠7:=by omega
 have t7:(op == 7)=false:=by simp;exact no7
 have no10:op≠10:=by omega
 have t10:(op == 10)=false:=by simp;exact no10
 have t1':(op != 1)=false:=by simp;exact h1
 have hk:zi op=0:=by rw [h1];decide
 have hk0:0<=zi op:=by rw [hk];decide
 have pb9:=zbw hr hcl
 have HM:IntKind.i64.wrap (c.rows*c.cols)=c.rows*c.cols:=IntWalk.i64_in _ (by omega)
 obtain ⟨ya,tya⟩:∃ b,(xa != 0)=b:=⟨_,rfl⟩
 obtain ⟨yb,tyb⟩:∃ b,(xb != 0)=b:=⟨_,rfl⟩
 obtain ⟨u1,tu1⟩:∃ b,decide (to<0)=b:=⟨_,rfl⟩
 obtain ⟨u2,tu2⟩:∃ b,decide (c.regs<=to)=b:=⟨_,rfl⟩
 have eAQ:aOk c L ⟨op,to,xa,xb,⟨ng,ln,ld⟩⟩=(!ya):=(show aOk c L ⟨op,to,xa,xb,⟨ng,ln,ld⟩⟩=decide (xa=0) by unfold aOk;rw [if_neg no0,if_pos h1]).trans (by rw [<- not_bne0,tya])
 have eBQ:bOk L ⟨op,to,xa,xb,⟨ng,ln,ld⟩⟩=(!yb):=(zfZ no7).trans (show (if decide (zi op=2)=true then decide (xb ∈ L) else decide (xb=0))=(!yb) by rw [hk,if_neg (by decide),<- not_bne0,tyb])
 have eMQ:zK c ⟨op,to,xa,xb,⟨ng,ln,ld⟩⟩=c.regs:=if_neg no10
 have hnE:zcd ⟨op,to,xa,xb,⟨ng,ln,ld⟩⟩=(zdQ ng ln ld (Rt.num ⟨ng,ln,ld⟩) && decide ((zbZ (val ln)).length<=40) && decide ((zbZ (val ld)).length<=40)):=if_pos h1
 rw [insOk_re (x:=⟨op,to,xa,xb,⟨ng,ln,ld⟩⟩) hk0,eAQ,eBQ,eMQ] at ho
 obtain ⟨nu,hnu⟩:∃ b,zcd ⟨op,to,xa,xb,⟨ng,ln,ld⟩⟩=b:=⟨_,rfl⟩
 have ho':((!ya) && (!yb) && (!u1 && !u2) && nu)=o:=by rw [<- ho,hnu,<- tu1,<- tu2,not_dlt,not_dle]
 have HnE:=Lib.hid hnE
 clear hnE
 have Hnu:=Lib.hid hnu
 have HL:=Lib.hid hL
 have Hk:=Lib.hid hk
 obtain ⟨pa,hpa⟩:∃ b,decide (xa ∈ L)=b:=⟨_,rfl⟩
 obtain ⟨pb,hpb⟩:∃ b,decide (xb ∈ L)=b:=⟨_,rfl⟩
 have Hpa:=Lib.hid hpa
 have Hpb:=Lib.hid hpb
 have hn1:ln.length<=1000:=hx.1.2.2.2.1
 have hd1:ld.length<=1000:=hx.1.2.2.2.2
 clear ho hnu hpa hpb eAQ eBQ eMQ hk hk0 pb9 hL 
 clear t0 t1 t6 t7 t10 t1'
 subst h1
 obtain ⟨a0,n0,c0,rfl,H0,hm0⟩:=hc.1.open
 obtain ⟨a1,n1,c1,rfl,H1,hm1⟩:=hx.1.1.open
 obtain ⟨a2,n2,c2,rfl,H2,hm2⟩:=hx.1.2.1.open
 cases ya
 case true =>
  have ho:o=false:=by rw [<- ho'];simp
  subst ho
  clear ho'
  go_enter Tryz.func34,Tryz.ntmps34
  go_wp2_with fail
  obtain ⟨W0,ap⟩:∃ W0,(w.alloc (.cells #[.int .i64 c.ins,.int .i64 c.rows,.int .i64 c.cols,.int .i64 c.regs,.slice a0 n0 c0] 24)).alloc (.cells #[.int .i64 1,.int .i64 to,.int .i64 xa,.int .i64 xb,.bool ng,.slice a1 n1 c1,.slice a2 n2 c2] 49)=W0:=⟨_,rfl⟩
  have aq:=Lib.hid (show ∀ W',Below W0.heap.size W0 W'->(Bx5 W' w.heap.size (.int .i64 c.ins) (.int .i64 c.rows) (.int .i64 c.cols) (.int .i64 c.regs) (.slice a0 n0 c0)/\Bx7 W' (w.heap.size+1) (.int .i64 1) (.int .i64 to) (.int .i64 xa) (.int .i64 xb) (.bool ng) (.slice a1 n1 c1) (.slice a2 n2 c2)) from fun W' hb => by
    refine ⟨bx5 hb ?_ ?_ ?_ ?_ ?_ ?_ ?_ ?_ ?_ ?_,bx7 hb ?_ ?_ ?_ ?_ ?_ ?_ ?_ ?_ ?_ ?_ ?_ ?_ ?_ ?_⟩
    all_goals first|assumption|(rw [<- ap];simp [go_sem]))
  have zb:Below w.heap.size w W0:=by rw [<- ap];exact bS (bN _ _) (bN _ _)
  rw [ap]
  clear ap
  have i0:=hc.to zb
  have i1:=hx.to zb
  have i2:=hu.to zb
  have gb:Below W0.heap.size W0 W0:=Below.refl _ _
  obtain ⟨⟨z0,ae,af,ah,az,aA,ai,ak,al,aE,aF⟩,⟨z1,am,an,aw,aT,aU,aV,aW,aB,aC,aD,aX,aY,aZ,a9⟩⟩:=aq.out _ gb
  go_wp2_with fail
  refine (ref25_regs_k _ (0) _ Hk.out).mono ?_
  rintro e w1 ⟨rfl,rfl⟩
  go_wp2_with fail
  refine (ref25_in _ L xa _ (i2.to gb) HL.out _ Hpa.out).mono ?_
  rintro e w2 ⟨rfl,rfl⟩
  go_wp2_with fail
  refine (ref25_in _ L xb _ (i2.to gb) HL.out _ Hpb.out).mono ?_
  rintro e w3 ⟨rfl,rfl⟩
  go_wp2_with fail
  go_ret
  exact ⟨rfl,bS zb gb⟩
 case false =>
  cases yb
  case true =>
   have ho:o=false:=by rw [<- ho'];simp
   subst ho
   clear ho'
   go_enter Tryz.func34,Tryz.ntmps34
   go_wp2_with fail
   obtain ⟨W0,ap⟩:∃ W0,(w.alloc (.cells #[.int .i64 c.ins,.int .i64 c.rows,.int .i64 c.cols,.int .i64 c.regs,.slice a0 n0 c0] 24)).alloc (.cells #[.int .i64 1,.int .i64 to,.int .i64 xa,.int .i64 xb,.bool ng,.slice a1 n1 c1,.slice a2 n2 c2] 49)=W0:=⟨_,rfl⟩
   have aq:=Lib.hid (show ∀ W',Below W0.heap.size W0 W'->(Bx5 W' w.heap.size (.int .i64 c.ins) (.int .i64 c.rows) (.int .i64 c.cols) (.int .i64 c.regs) (.slice a0 n0 c0)/\Bx7 W' (w.heap.size+1) (.int .i64 1) (.int .i64 to) (.int .i64 xa) (.int .i64 xb) (.bool ng) (.slice a1 n1 c1) (.slice a2 n2 c2)) from fun W' hb => by
     refine ⟨bx5 hb ?_ ?_ ?_ ?_ ?_ ?_ ?_ ?_ ?_ ?_,bx7 hb ?_ ?_ ?_ ?_ ?_ ?_ ?_ ?_ ?_ ?_ ?_ ?_ ?_ ?_⟩
     all_goals first|assumption|(rw [<- ap];simp [go_sem]))
   have zb:Below w.heap.size w W0:=by rw [<- ap];exact bS (bN _ _) (bN _ _)
   rw [ap]
   clear ap
   have i0:=hc.to zb
   have i1:=hx.to zb
   have i2:=hu.to zb
   have gb:Below W0.heap.size W0 W0:=Below.refl _ _
   obtain ⟨⟨z0,ae,af,ah,az,aA,ai,ak,al,aE,aF⟩,⟨z1,am,an,aw,aT,aU,aV,aW,aB,aC,aD,aX,aY,aZ,a9⟩⟩:=aq.out _ gb
   go_wp2_with fail
   refine (ref25_regs_k _ (0) _ Hk.out).mono ?_
   rintro e w1 ⟨rfl,rfl⟩
   go_wp2_with fail
   refine (ref25_in _ L xa _ (i2.to gb) HL.out _ Hpa.out).mono ?_
   rintro e w2 ⟨rfl,rfl⟩
   go_wp2_with fail
   refine (ref25_in _ L xb _ (i2.to gb) HL.out _ Hpb.out).mono ?_
   rintro e w3 ⟨rfl,rfl⟩
   go_wp2_with fail
   go_ret
   exact ⟨rfl,bS zb gb⟩
  case false =>
   cases u1
   case true =>
    have ho:o=false:=by rw [<- ho'];simp
    subst ho
    clear ho'
    go_enter Tryz.func34,Tryz.ntmps34
    go_wp2_with fail
    obtain ⟨W0,ap⟩:∃ W0,(w.alloc (.cells #[.int .i64 c.ins,.int .i64 c.rows,.int .i64 c.cols,.int .i64 c.regs,.slice a0 n0 c0] 24)).alloc (.cells #[.int .i64 1,.int .i64 to,.int .i64 xa,.int .i64 xb,.bool ng,.slice a1 n1 c1,.slice a2 n2 c2] 49)=W0:=⟨_,rfl⟩
    have aq:=Lib.hid (show ∀ W',Below W0.heap.size W0 W'->(Bx5 W' w.heap.size (.int .i64 c.ins) (.int .i64 c.rows) (.int .i64 c.cols) (.int .i64 c.regs) (.slice a0 n0 c0)/\Bx7 W' (w.heap.size+1) (.int .i64 1) (.int .i64 to) (.int .i64 xa) (.int .i64 xb) (.bool ng) (.slice a1 n1 c1) (.slice a2 n2 c2)) from fun W' hb => by
      refine ⟨bx5 hb ?_ ?_ ?_ ?_ ?_ ?_ ?_ ?_ ?_ ?_,bx7 hb ?_ ?_ ?_ ?_ ?_ ?_ ?_ ?_ ?_ ?_ ?_ ?_ ?_ ?_⟩
      all_goals first|assumption|(rw [<- ap];simp [go_sem]))
    have zb:Below w.heap.size w W0:=by rw [<- ap];exact bS (bN _ _) (bN _ _)
    rw [ap]
    clear ap
    have i0:=hc.to zb
    have i1:=hx.to zb
    have i2:=hu.to zb
    have gb:Below W0.heap.size W0 W0:=Below.refl _ _
    obtain ⟨⟨z0,ae,af,ah,az,aA,ai,ak,al,aE,aF⟩,⟨z1,am,an,aw,aT,aU,aV,aW,aB,aC,aD,aX,aY,aZ,a9⟩⟩:=aq.out _ gb
    go_wp2_with fail
    refine (ref25_regs_k _ (0) _ Hk.out).mono ?_
    rintro e w1 ⟨rfl,rfl⟩
    go_wp2_with fail
    refine (ref25_in _ L xa _ (i2.to gb) HL.out _ Hpa.out).mono ?_
    rintro e w2 ⟨rfl,rfl⟩
    go_wp2_with fail
    refine (ref25_in _ L xb _ (i2.to gb) HL.out _ Hpb.out).mono ?_
    rintro e w3 ⟨rfl,rfl⟩
    go_wp2_with fail
    go_ret
    exact ⟨rfl,bS zb gb⟩
   case false =>
    cases u2
    case true =>
     have ho:o=false:=by rw [<- ho'];simp
     subst ho
     clear ho'
     go_enter Tryz.func34,Tryz.ntmps34
     go_wp2_with fail
     obtain ⟨W0,ap⟩:∃ W0,(w.alloc (.cells #[.int .i64 c.ins,.int .i64 c.rows,.int .i64 c.cols,.int .i64 c.regs,.slice a0 n0 c0] 24)).alloc (.cells #[.int .i64 1,.int .i64 to,.int .i64 xa,.int .i64 xb,.bool ng,.slice a1 n1 c1,.slice a2 n2 c2] 49)=W0:=⟨_,rfl⟩
     have aq:=Lib.hid (show ∀ W',Below W0.heap.size W0 W'->(Bx5 W' w.heap.size (.int .i64 c.ins) (.int .i64 c.rows) (.int .i64 c.cols) (.int .i64 c.regs) (.slice a0 n0 c0)/\Bx7 W' (w.heap.size+1) (.int .i64 1) (.int .i64 to) (.int .i64 xa) (.int .i64 xb) (.bool ng) (.slice a1 n1 c1) (.slice a2 n2 c2)) from fun W' hb => by
       refine ⟨bx5 hb ?_ ?_ ?_ ?_ ?_ ?_ ?_ ?_ ?_ ?_,bx7 hb ?_ ?_ ?_ ?_ ?_ ?_ ?_ ?_ ?_ ?_ ?_ ?_ ?_ ?_⟩
       all_goals first|assumption|(rw [<- ap];simp [go_sem]))
     have zb:Below w.heap.size w W0:=by rw [<- ap];exact bS (bN _ _) (bN _ _)
     rw [ap]
     clear ap
     have i0:=hc.to zb
     have i1:=hx.to zb
     have i2:=hu.to zb
     have gb:Below W0.heap.size W0 W0:=Below.refl _ _
     obtain ⟨⟨z0,ae,af,ah,az,aA,ai,ak,al,aE,aF⟩,⟨z1,am,an,aw,aT,aU,aV,aW,aB,aC,aD,aX,aY,aZ,a9⟩⟩:=aq.out _ gb
     go_wp2_with fail
     refine (ref25_regs_k _ (0) _ Hk.out).mono ?_
     rintro e w1 ⟨rfl,rfl⟩
     go_wp2_with fail
     refine (ref25_in _ L xa _ (i2.to gb) HL.out _ Hpa.out).mono ?_
     rintro e w2 ⟨rfl,rfl⟩
     go_wp2_with fail
     refine (ref25_in _ L xb _ (i2.to gb) HL.out _ Hpb.out).mono ?_
     rintro e w3 ⟨rfl,rfl⟩
     go_wp2_with fail
     go_ret
     exact ⟨rfl,bS zb gb⟩
    case false =>
     have ho:nu=o:=by rw [<- ho'];cases nu <;> rfl
     subst ho
     clear ho'
     obtain ⟨r,hr9⟩:∃ r,zdQ ng ln ld (Rt.num ⟨ng,ln,ld⟩)=r:=⟨_,rfl⟩
     obtain ⟨d0,q0⟩:∃ b,decide ((zbZ (val ln)).length<=40)=b:=⟨_,rfl⟩
     obtain ⟨d1,q1⟩:∃ b,decide ((zbZ (val ld)).length<=40)=b:=⟨_,rfl⟩
     have ho:(r && d0 && d1)=nu:=by rw [<- hr9,<- q0,<- q1,<- HnE.out];exact Hnu.out
     have Hr:=Lib.hid hr9
     have e0:=print_le _ _ q0
     have e1:=print_le _ _ q1
     clear hr9 q0 q1 Hnu HnE
     subst ho
     cases r
     case false =>
      go_enter Tryz.func34,Tryz.ntmps34
      go_wp2_with fail
      obtain ⟨W0,ap⟩:∃ W0,(w.alloc (.cells #[.int .i64 c.ins,.int .i64 c.rows,.int .i64 c.cols,.int .i64 c.regs,.slice a0 n0 c0] 24)).alloc (.cells #[.int .i64 1,.int .i64 to,.int .i64 xa,.int .i64 xb,.bool ng,.slice a1 n1 c1,.slice a2 n2 c2] 49)=W0:=⟨_,rfl⟩
      have aq:=Lib.hid (show ∀ W',Below W0.heap.size W0 W'->(Bx5 W' w.heap.size (.int .i64 c.ins) (.int .i64 c.rows) (.int .i64 c.cols) (.int .i64 c.regs) (.slice a0 n0 c0)/\Bx7 W' (w.heap.size+1) (.int .i64 1) (.int .i64 to) (.int .i64 xa) (.int .i64 xb) (.bool ng) (.slice a1 n1 c1) (.slice a2 n2 c2)) from fun W' hb => by
        refine ⟨bx5 hb ?_ ?_ ?_ ?_ ?_ ?_ ?_ ?_ ?_ ?_,bx7 hb ?_ ?_ ?_ ?_ ?_ ?_ ?_ ?_ ?_ ?_ ?_ ?_ ?_ ?_⟩
        all_goals first|assumption|(rw [<- ap];simp [go_sem]))
      have zb:Below w.heap.size w W0:=by rw [<- ap];exact bS (bN _ _) (bN _ _)
      rw [ap]
      clear ap
      have i0:=hc.to zb
      have i1:=hx.to zb
      have i2:=hu.to zb
      have gb:Below W0.heap.size W0 W0:=Below.refl _ _
      obtain ⟨⟨z0,ae,af,ah,az,aA,ai,ak,al,aE,aF⟩,⟨z1,am,an,aw,aT,aU,aV,aW,aB,aC,aD,aX,aY,aZ,a9⟩⟩:=aq.out _ gb
      go_wp2_with fail
      refine (ref25_regs_k _ (0) _ Hk.out).mono ?_
      rintro e w1 ⟨rfl,rfl⟩
      go_wp2_with fail
      refine (ref25_in _ L xa _ (i2.to gb) HL.out _ Hpa.out).mono ?_
      rintro e w2 ⟨rfl,rfl⟩
      go_wp2_with fail
      refine (ref25_in _ L xb _ (i2.to gb) HL.out _ Hpb.out).mono ?_
      rintro e w3 ⟨rfl,rfl⟩
      go_wp2_with fail
      refine (ref8_right ng _ _ ln ld _ ((i1.to gb)).1 false Hr.out).mono ?_
      clear ae ai af ak ah al az aE aA aF am aB an aC aw aD aT aX aU aY aV aZ aW a9
      rintro e w4 ⟨rfl,di⟩
      replace gb:=bS gb di
      obtain ⟨⟨z0,ae,af,ah,az,aA,ai,ak,al,aE,aF⟩,⟨z1,am,an,aw,aT,aU,aV,aW,aB,aC,aD,aX,aY,aZ,a9⟩⟩:=aq.out _ gb
      go_wp2_with fail
      go_ret
      exact ⟨rfl,bS zb gb⟩
     case true =>
      cases d0
      case false =>
       go_enter Tryz.func34,Tryz.ntmps34
       go_wp2_with fail
       obtain ⟨W0,ap⟩:∃ W0,(w.alloc (.cells #[.int .i64 c.ins,.int .i64 c.rows,.int .i64 c.cols,.int .i64 c.regs,.slice a0 n0 c0] 24)).alloc (.cells #[.int .i64 1,.int .i64 to,.int .i64 xa,.int .i64 xb,.bool ng,.slice a1 n1 c1,.slice a2 n2 c2] 49)=W0:=⟨_,rfl⟩
       have aq:=Lib.hid (show ∀ W',Below W0.heap.size W0 W'->(Bx5 W' w.heap.size (.int .i64 c.ins) (.int .i64 c.rows) (.int .i64 c.cols) (.int .i64 c.regs) (.slice a0 n0 c0)/\Bx7 W' (w.heap.size+1) (.int .i64 1) (.int .i64 to) (.int .i64 xa) (.int .i64 xb) (.bool ng) (.slice a1 n1 c1) (.slice a2 n2 c2)) from fun W' hb => by
         refine ⟨bx5 hb ?_ ?_ ?_ ?_ ?_ ?_ ?_ ?_ ?_ ?_,bx7 hb ?_ ?_ ?_ ?_ ?_ ?_ ?_ ?_ ?_ ?_ ?_ ?_ ?_ ?_⟩
         all_goals first|assumption|(rw [<- ap];simp [go_sem]))
       have zb:Below w.heap.size w W0:=by rw [<- ap];exact bS (bN _ _) (bN _ _)
       rw [ap]
       clear ap
       have i0:=hc.to zb
       have i1:=hx.to zb
       have i2:=hu.to zb
       have gb:Below W0.heap.size W0 W0:=Below.refl _ _
       obtain ⟨⟨z0,ae,af,ah,az,aA,ai,ak,al,aE,aF⟩,⟨z1,am,an,aw,aT,aU,aV,aW,aB,aC,aD,aX,aY,aZ,a9⟩⟩:=aq.out _ gb
       go_wp2_with fail
       refine (ref25_regs_k _ (0) _ Hk.out).mono ?_
       rintro e w1 ⟨rfl,rfl⟩
       go_wp2_with fail
       refine (ref25_in _ L xa _ (i2.to gb) HL.out _ Hpa.out).mono ?_
       rintro e w2 ⟨rfl,rfl⟩
       go_wp2_with fail
       refine (ref25_in _ L xb _ (i2.to gb) HL.out _ Hpb.out).mono ?_
       rintro e w3 ⟨rfl,rfl⟩
       go_wp2_with fail
       refine (ref8_right ng _ _ ln ld _ ((i1.to gb)).1 true Hr.out).mono ?_
       clear ae ai af ak ah al az aE aA aF am aB an aC aw aD aT aX aU aY aV aZ aW a9
       rintro e w4 ⟨rfl,di⟩
       replace gb:=bS gb di
       obtain ⟨⟨z0,ae,af,ah,az,aA,ai,ak,al,aE,aF⟩,⟨z1,am,an,aw,aT,aU,aV,aW,aB,aC,aD,aX,aY,aZ,a9⟩⟩:=aq.out _ gb
       go_wp2_with fail
       refine (ref6_print _ ln _ ((i1.to gb)).1.1 (by omega)).mono ?_
       clear ae ai af ak ah al az aE aA aF am aB an aC aw aD aT aX aU aY aV aZ aW a9
       rintro e w5 ⟨rfl,cV⟩
       replace gb:=bS gb cV
       obtain ⟨⟨z0,ae,af,ah,az,aA,ai,ak,al,aE,aF⟩,⟨z1,am,an,aw,aT,aU,aV,aW,aB,aC,aD,aX,aY,aZ,a9⟩⟩:=aq.out _ gb
       go_wp2_with fail
       go_ret
       exact ⟨rfl,bS zb gb⟩
      case true =>
       go_enter Tryz.func34,Tryz.ntmps34
       go_wp2_with fail
       obtain ⟨W0,ap⟩:∃ W0,(w.alloc (.cells #[.int .i64 c.ins,.int .i64 c.rows,.int .i64 c.cols,.int .i64 c.regs,.slice a0 n0 c0] 24)).alloc (.cells #[.int .i64 1,.int .i64 to,.int .i64 xa,.int .i64 xb,.bool ng,.slice a1 n1 c1,.slice a2 n2 c2] 49)=W0:=⟨_,rfl⟩
       have aq:=Lib.hid (show ∀ W',Below W0.heap.size W0 W'->(Bx5 W' w.heap.size (.int .i64 c.ins) (.int .i64 c.rows) (.int .i64 c.cols) (.int .i64 c.regs) (.slice a0 n0 c0)/\Bx7 W' (w.heap.size+1) (.int .i64 1) (.int .i64 to) (.int .i64 xa) (.int .i64 xb) (.bool ng) (.slice a1 n1 c1) (.slice a2 n2 c2)) from fun W' hb => by
         refine ⟨bx5 hb ?_ ?_ ?_ ?_ ?_ ?_ ?_ ?_ ?_ ?_,bx7 hb ?_ ?_ ?_ ?_ ?_ ?_ ?_ ?_ ?_ ?_ ?_ ?_ ?_ ?_⟩
         all_goals first|assumption|(rw [<- ap];simp [go_sem]))
       have zb:Below w.heap.size w W0:=by rw [<- ap];exact bS (bN _ _) (bN _ _)
       rw [ap]
       clear ap
       have i0:=hc.to zb
       have i1:=hx.to zb
       have i2:=hu.to zb
       have gb:Below W0.heap.size W0 W0:=Below.refl _ _
       obtain ⟨⟨z0,ae,af,ah,az,aA,ai,ak,al,aE,aF⟩,⟨z1,am,an,aw,aT,aU,aV,aW,aB,aC,aD,aX,aY,aZ,a9⟩⟩:=aq.out _ gb
       go_wp2_with fail
       refine (ref25_regs_k _ (0) _ Hk.out).mono ?_
       rintro e w1 ⟨rfl,rfl⟩
       go_wp2_with fail
       refine (ref25_in _ L xa _ (i2.to gb) HL.out _ Hpa.out).mono ?_
       rintro e w2 ⟨rfl,rfl⟩
       go_wp2_with fail
       refine (ref25_in _ L xb _ (i2.to gb) HL.out _ Hpb.out).mono ?_
       rintro e w3 ⟨rfl,rfl⟩
       go_wp2_with fail
       refine (ref8_right ng _ _ ln ld _ ((i1.to gb)).1 true Hr.out).mono ?_
       clear ae ai af ak ah al az aE aA aF am aB an aC aw aD aT aX aU aY aV aZ aW a9
       rintro e w4 ⟨rfl,di⟩
       replace gb:=bS gb di
       obtain ⟨⟨z0,ae,af,ah,az,aA,ai,ak,al,aE,aF⟩,⟨z1,am,an,aw,aT,aU,aV,aW,aB,aC,aD,aX,aY,aZ,a9⟩⟩:=aq.out _ gb
       go_wp2_with fail
       refine (ref6_print _ ln _ ((i1.to gb)).1.1 (by omega)).mono ?_
       clear ae ai af ak ah al az aE aA aF am aB an aC aw aD aT aX aU aY aV aZ aW a9
       rintro e w5 ⟨rfl,cV⟩
       replace gb:=bS gb cV
       obtain ⟨⟨z0,ae,af,ah,az,aA,ai,ak,al,aE,aF⟩,⟨z1,am,an,aw,aT,aU,aV,aW,aB,aC,aD,aX,aY,aZ,a9⟩⟩:=aq.out _ gb
       go_wp2_with fail
       refine (ref6_print _ ld _ ((i1.to gb)).1.2.1 (by omega)).mono ?_
       clear ae ai af ak ah al az aE aA aF am aB an aC aw aD aT aX aU aY aV aZ aW a9
       rintro e w6 ⟨rfl,ee⟩
       replace gb:=bS gb ee
       obtain ⟨⟨z0,ae,af,ah,az,aA,ai,ak,al,aE,aF⟩,⟨z1,am,an,aw,aT,aU,aV,aW,aB,aC,aD,aX,aY,aZ,a9⟩⟩:=aq.out _ gb
       go_wp2_with fail
       go_ret
       exact ⟨rfl,bS zb gb⟩

theorem ref25_fields_two (c:Cd) (v:Value) (op to xa xb:Int) (ng:Bool) (vn vd:Value) (ln ld:List Nat) (u:Value) (L:List Int) (w:World) (hc:IsC w c v) (hx:IsX w ⟨op,to,xa,xb,⟨ng,ln,ld⟩⟩ vn vd) (hu:RdI w u L) (hL:L.length<=100000) (hr:1<=c.rows/\c.rows<=40) (hcl:1<=c.cols/\c.cols<=40) (h1:zi op=2) (o:Bool) (ho:zA c L ⟨op,to,xa,xb,⟨ng,ln,ld⟩⟩=o) :
  Calls Tryz.prog 34 #[aggC c v,.agg #[.int .i64 op,.int .i64 to,.int .i64 xa,.int .i64 xb,.bool ng,vn,vd],u] w (fun e w' => e=.returned (.bool o)/\Below w.heap.size w w'):=by
 have no0:op≠0:=fun e => by rw [e] at h1;exact absurd h1 (by decide)
 have t0:(op == 0)=false:=by simp;exact no0
 have no1:op≠1:=fun e => by rw [e] at h1;exact absurd h1 (by decide)
 have t1:(op == 1)=false:=by simp;exact no1
 have no6:op≠6:=fun e => by rw [e] at h1;exact absurd h1 (by decide)
 have t6:(op == 6)=false:=by simp;exact no6
 have no7:op≠7:=fun e => by rw [e] at h1;exact absurd h1 (by decide)
 have t7:(op == 7)=false:=by simp;exact no7
 have no10:op≠10:=fun e => by rw [e] at h1;exact absurd h1 (by decide)
 have t10:(op == 10)=false:=by simp;exact no10
 have t1':(op != 1)=true:=by simp;exact no1
 have hk:zi op=2:=h1
 have hk0:0<=zi op:=by rw [hk];decide
 have pb9:=zbw hr hcl
 have HM:IntKind.i64.wrap (c.rows*c.cols)=c.rows*c.cols:=IntWalk.i64_in _ (by omega)
 obtain ⟨pa',tpa'⟩:∃ b,(!decide (xa ∈ L))=b:=⟨_,rfl⟩
 obtain ⟨pb',tpb'⟩:∃ b,(!decide (xb ∈ L))=b:=⟨_,rfl⟩
 obtain ⟨u1,tu1⟩:∃ b,decide (to<0)=b:=⟨_,rfl⟩
 obtain ⟨u2,tu2⟩:∃ b,decide (c.regs<=to)=b:=⟨_,rfl⟩
 have eAQ:aOk c L ⟨op,to,xa,xb,⟨ng,ln,ld⟩⟩=(!pa'):=(zfY hk0 no0).trans (show (if decide (1<=zi op)=true then decide (xa ∈ L) else decide (xa=0))=(!pa') by rw [hk,if_pos (by decide),<- tpa',Bool.not_not])
 have eBQ:bOk L ⟨op,to,xa,xb,⟨ng,ln,ld⟩⟩=(!pb'):=(zfZ no7).trans (show (if decide (zi op=2)=true then decide (xb ∈ L) else decide (xb=0))=(!pb') by rw [hk,if_pos (by decide),<- tpb',Bool.not_not])
 have eMQ:zK c ⟨op,to,xa,xb,⟨ng,ln,ld⟩⟩=c.regs:=if_neg no10
 rw [insOk_re (x:=⟨op,to,xa,xb,⟨ng,ln,ld⟩⟩) hk0,eAQ,eBQ,eMQ] at ho
 obtain ⟨nu,hnu⟩:∃ b,zcd ⟨op,to,xa,xb,⟨ng,ln,ld⟩⟩=b:=⟨_,rfl⟩
 have ho':((!pa') && (!pb') && (!u1 && !u2) && nu)=o:=by rw [<- ho,hnu,<- tu1,<- tu2,not_dlt,not_dle]
 have Hnu:=Lib.hid hnu
 have HL:=Lib.hid hL
 have Hk:=Lib.hid hk
 obtain ⟨pa,hpa⟩:∃ b,decide (xa ∈ L)=b:=⟨_,rfl⟩
 obtain ⟨pb,hpb⟩:∃ b,decide (xb ∈ L)=b:=⟨_,rfl⟩
 have Hpa:=Lib.hid hpa
 have Hpb:=Lib.hid hpb
 have wpa:(!pa)=pa':=by rw [<- hpa,tpa']
 have wpb:(!pb)=pb':=by rw [<- hpb,tpb']
 have hn1:ln.length<=1000:=hx.1.2.2.2.1
 have hd1:ld.length<=1000:=hx.1.2.2.2.2
 clear ho hnu hpa hpb eAQ eBQ eMQ hk hk0 pb9 hL tpa' tpb' no0 no6 no7 no10 h1
 obtain ⟨a0,n0,c0,rfl,H0,hm0⟩:=hc.1.open
 obtain ⟨a1,n1,c1,rfl,H1,hm1⟩:=hx.1.1.open
 obtain ⟨a2,n2,c2,rfl,H2,hm2⟩:=hx.1.2.1.open
 cases pa'
 case true =>
  have ho:o=false:=by rw [<- ho'];simp
  subst ho
  clear ho'
  obtain rfl:pa=false:=by simpa using wpa
  go_enter Tryz.func34,Tryz.ntmps34
  go_wp2_with fail
  obtain ⟨W0,ap⟩:∃ W0,(w.alloc (.cells #[.int .i64 c.ins,.int .i64 c.rows,.int .i64 c.cols,.int .i64 c.regs,.slice a0 n0 c0] 24)).alloc (.cells #[.int .i64 op,.int .i64 to,.int .i64 xa,.int .i64 xb,.bool ng,.slice a1 n1 c1,.slice a2 n2 c2] 49)=W0:=⟨_,rfl⟩
  have aq:=Lib.hid (show ∀ W',Below W0.heap.size W0 W'->(Bx5 W' w.heap.size (.int .i64 c.ins) (.int .i64 c.rows) (.int .i64 c.cols) (.int .i64 c.regs) (.slice a0 n0 c0)/\Bx7 W' (w.heap.size+1) (.int .i64 op) (.int .i64 to) (.int .i64 xa) (.int .i64 xb) (.bool ng) (.slice a1 n1 c1) (.slice a2 n2 c2)) from fun W' hb => by
    refine ⟨bx5 hb ?_ ?_ ?_ ?_ ?_ ?_ ?_ ?_ ?_ ?_,bx7 hb ?_ ?_ ?_ ?_ ?_ ?_ ?_ ?_ ?_ ?_ ?_ ?_ ?_ ?_⟩
    all_goals first|assumption|(rw [<- ap];simp [go_sem]))
  have zb:Below w.heap.size w W0:=by rw [<- ap];exact bS (bN _ _) (bN _ _)
  rw [ap]
  clear ap
  have i0:=hc.to zb
  have i1:=hx.to zb
  have i2:=hu.to zb
  have gb:Below W0.heap.size W0 W0:=Below.refl _ _
  obtain ⟨⟨z0,ae,af,ah,az,aA,ai,ak,al,aE,aF⟩,⟨z1,am,an,aw,aT,aU,aV,aW,aB,aC,aD,aX,aY,aZ,a9⟩⟩:=aq.out _ gb
  go_wp2_with fail
  refine (ref25_regs_k _ (2) _ Hk.out).mono ?_
  rintro e w1 ⟨rfl,rfl⟩
  go_wp2_with fail
  refine (ref25_in _ L xa _ (i2.to gb) HL.out _ Hpa.out).mono ?_
  rintro e w2 ⟨rfl,rfl⟩
  go_wp2_with fail
  refine (ref25_in _ L xb _ (i2.to gb) HL.out _ Hpb.out).mono ?_
  rintro e w3 ⟨rfl,rfl⟩
  go_wp2_with fail
  go_ret
  exact ⟨rfl,bS zb gb⟩
 case false =>
  obtain rfl:pa=true:=by simpa using wpa
  cases pb'
  case true =>
   have ho:o=false:=by rw [<- ho'];simp
   subst ho
   clear ho'
   obtain rfl:pb=false:=by simpa using wpb
   go_enter Tryz.func34,Tryz.ntmps34
   go_wp2_with fail
   obtain ⟨W0,ap⟩:∃ W0,(w.alloc (.cells #[.int .i64 c.ins,.int .i64 c.rows,.int .i64 c.cols,.int .i64 c.regs,.slice a0 n0 c0] 24)).alloc (.cells #[.int .i64 op,.int .i64 to,.int .i64 xa,.int .i64 xb,.bool ng,.slice a1 n1 c1,.slice a2 n2 c2] 49)=W0:=⟨_,rfl⟩
   have aq:=Lib.hid (show ∀ W',Below W0.heap.size W0 W'->(Bx5 W' w.heap.size (.int .i64 c.ins) (.int .i64 c.rows) (.int .i64 c.cols) (.int .i64 c.regs) (.slice a0 n0 c0)/\Bx7 W' (w.heap.size+1) (.int .i64 op) (.int .i64 to) (.int .i64 xa) (.int .i64 xb) (.bool ng) (.slice a1 n1 c1) (.slice a2 n2 c2)) from fun W' hb => by
     refine ⟨bx5 hb ?_ ?_ ?_ ?_ ?_ ?_ ?_ ?_ ?_ ?_,bx7 hb ?_ ?_ ?_ ?_ ?_ ?_ ?_ ?_ ?_ ?_ ?_ ?_ ?_ ?_⟩
     all_goals first|assumption|(rw [<- ap];simp [go_sem]))
   have zb:Below w.heap.size w W0:=by rw [<- ap];exact bS (bN _ _) (bN _ _)
   rw [ap]
   clear ap
   have i0:=hc.to zb
   have i1:=hx.to zb
   have i2:=hu.to zb
   have gb:Below W0.heap.size W0 W0:=Below.refl _ _
   obtain ⟨⟨z0,ae,af,ah,az,aA,ai,ak,al,aE,aF⟩,⟨z1,am,an,aw,aT,aU,aV,aW,aB,aC,aD,aX,aY,aZ,a9⟩⟩:=aq.out _ gb
   go_wp2_with fail
   refine (ref25_regs_k _ (2) _ Hk.out).mono ?_
   rintro e w1 ⟨rfl,rfl⟩
   go_wp2_with fail
   refine (ref25_in _ L xa _ (i2.to gb) HL.out _ Hpa.out).mono ?_
   rintro e w2 ⟨rfl,rfl⟩
   go_wp2_with fail
   refine (ref25_in _ L xb _ (i2.to gb) HL.out _ Hpb.out).mono ?_
   rintro e w3 ⟨rfl,rfl⟩
   go_wp2_with fail
   go_ret
   exact ⟨rfl,bS zb gb⟩
  case false =>
   obtain rfl:pb=true:=by simpa using wpb
   cases u1
   case true =>
    have ho:o=false:=by rw [<- ho'];simp
    subst ho
    clear ho'
    go_enter Tryz.func34,Tryz.ntmps34
    go_wp2_with fail
    obtain ⟨W0,ap⟩:∃ W0,(w.alloc (.cells #[.int .i64 c.ins,.int .i64 c.rows,.int .i64 c.cols,.int .i64 c.regs,.slice a0 n0 c0] 24)).alloc (.cells #[.int .i64 op,.int .i64 to,.int .i64 xa,.int .i64 xb,.bool ng,.slice a1 n1 c1,.slice a2 n2 c2] 49)=W0:=⟨_,rfl⟩
    have aq:=Lib.hid (show ∀ W',Below W0.heap.size W0 W'->(Bx5 W' w.heap.size (.int .i64 c.ins) (.int .i64 c.rows) (.int .i64 c.cols) (.int .i64 c.regs) (.slice a0 n0 c0)/\Bx7 W' (w.heap.size+1) (.int .i64 op) (.int .i64 to) (.int .i64 xa) (.int .i64 xb) (.bool ng) (.slice a1 n1 c1) (.slice a2 n2 c2)) from fun W' hb => by
      refine ⟨bx5 hb ?_ ?_ ?_ ?_ ?_ ?_ ?_ ?_ ?_ ?_,bx7 hb ?_ ?_ ?_ ?_ ?_ ?_ ?_ ?_ ?_ ?_ ?_ ?_ ?_ ?_⟩
      all_goals first|assumption|(rw [<- ap];simp [go_sem]))
    have zb:Below w.heap.size w W0:=by rw [<- ap];exact bS (bN _ _) (bN _ _)
    rw [ap]
    clear ap
    have i0:=hc.to zb
    have i1:=hx.to zb
    have i2:=hu.to zb
    have gb:Below W0.heap.size W0 W0:=Below.refl _ _
    obtain ⟨⟨z0,ae,af,ah,az,aA,ai,ak,al,aE,aF⟩,⟨z1,am,an,aw,aT,aU,aV,aW,aB,aC,aD,aX,aY,aZ,a9⟩⟩:=aq.out _ gb
    go_wp2_with fail
    refine (ref25_regs_k _ (2) _ Hk.out).mono ?_
    rintro e w1 ⟨rfl,rfl⟩
    go_wp2_with fail
    refine (ref25_in _ L xa _ (i2.to gb) HL.out _ Hpa.out).mono ?_
    rintro e w2 ⟨rfl,rfl⟩
    go_wp2_with fail
    refine (ref25_in _ L xb _ (i2.to gb) HL.out _ Hpb.out).mono ?_
    rintro e w3 ⟨rfl,rfl⟩
    go_wp2_with fail
    go_ret
    exact ⟨rfl,bS zb gb⟩
   case false =>
    cases u2
    case true =>
     have ho:o=false:=by rw [<- ho'];simp
     subst ho
     clear ho'
     go_enter Tryz.func34,Tryz.ntmps34
     go_wp2_with fail
     obtain ⟨W0,ap⟩:∃ W0,(w.alloc (.cells #[.int .i64 c.ins,.int .i64 c.rows,.int .i64 c.cols,.int .i64 c.regs,.slice a0 n0 c0] 24)).alloc (.cells #[.int .i64 op,.int .i64 to,.int .i64 xa,.int .i64 xb,.bool ng,.slice a1 n1 c1,.slice a2 n2 c2] 49)=W0:=⟨_,rfl⟩
     have aq:=Lib.hid (show ∀ W',Below W0.heap.size W0 W'->(Bx5 W' w.heap.size (.int .i64 c.ins) (.int .i64 c.rows) (.int .i64 c.cols) (.int .i64 c.regs) (.slice a0 n0 c0)/\Bx7 W' (w.heap.size+1) (.int .i64 op) (.int .i64 to) (.int .i64 xa) (.int .i64 xb) (.bool ng) (.slice a1 n1 c1) (.slice a2 n2 c2)) from fun W' hb => by
       refine ⟨bx5 hb ?_ ?_ ?_ ?_ ?_ ?_ ?_ ?_ ?_ ?_,bx7 hb ?_ ?_ ?_ ?_ ?_ ?_ ?_ ?_ ?_ ?_ ?_ ?_ ?_ ?_⟩
       all_goals first|assumption|(rw [<- ap];simp [go_sem]))
     have zb:Below w.heap.size w W0:=by rw [<- ap];exact bS (bN _ _) (bN _ _)
     rw [ap]
     clear ap
     have i0:=hc.to zb
     have i1:=hx.to zb
     have i2:=hu.to zb
     have gb:Below W0.heap.size W0 W0:=Below.refl _ _
     obtain ⟨⟨z0,ae,af,ah,az,aA,ai,ak,al,aE,aF⟩,⟨z1,am,an,aw,aT,aU,aV,aW,aB,aC,aD,aX,aY,aZ,a9⟩⟩:=aq.out _ gb
     go_wp2_with fail
     refine (ref25_regs_k _ (2) _ Hk.out).mono ?_
     rintro e w1 ⟨rfl,rfl⟩
     go_wp2_with fail
     refine (ref25_in _ L xa _ (i2.to gb) HL.out _ Hpa.out).mono ?_
     rintro e w2 ⟨rfl,rfl⟩
     go_wp2_with fail
     refine (ref25_in _ L xb _ (i2.to gb) HL.out _ Hpb.out).mono ?_
     rintro e w3 ⟨rfl,rfl⟩
     go_wp2_with fail
     go_ret
     exact ⟨rfl,bS zb gb⟩
    case false =>
     have ho:nu=o:=by rw [<- ho'];cases nu <;> rfl
     subst ho
     clear ho'
     have Ho:=Lib.hid (show (ng == false && decide (ln=[]) && decide (ld=[]))=nu by rw [<- numOk_not (op:=op) (to:=to) (xa:=xa) (xb:=xb) no1];exact Hnu.out)
     go_enter Tryz.func34,Tryz.ntmps34
     go_wp2_with fail
     obtain ⟨W0,ap⟩:∃ W0,(w.alloc (.cells #[.int .i64 c.ins,.int .i64 c.rows,.int .i64 c.cols,.int .i64 c.regs,.slice a0 n0 c0] 24)).alloc (.cells #[.int .i64 op,.int .i64 to,.int .i64 xa,.int .i64 xb,.bool ng,.slice a1 n1 c1,.slice a2 n2 c2] 49)=W0:=⟨_,rfl⟩
     have aq:=Lib.hid (show ∀ W',Below W0.heap.size W0 W'->(Bx5 W' w.heap.size (.int .i64 c.ins) (.int .i64 c.rows) (.int .i64 c.cols) (.int .i64 c.regs) (.slice a0 n0 c0)/\Bx7 W' (w.heap.size+1) (.int .i64 op) (.int .i64 to) (.int .i64 xa) (.int .i64 xb) (.bool ng) (.slice a1 n1 c1) (.slice a2 n2 c2)) from fun W' hb => by
       refine ⟨bx5 hb ?_ ?_ ?_ ?_ ?_ ?_ ?_ ?_ ?_ ?_,bx7 hb ?_ ?_ ?_ ?_ ?_ ?_ ?_ ?_ ?_ ?_ ?_ ?_ ?_ ?_⟩
       all_goals first|assumption|(rw [<- ap];simp [go_sem]))
     have zb:Below w.heap.size w W0:=by rw [<- ap];exact bS (bN _ _) (bN _ _)
     rw [ap]
     clear ap
     have i0:=hc.to zb
     have i1:=hx.to zb
     have i2:=hu.to zb
     have gb:Below W0.heap.size W0 W0:=Below.refl _ _
     obtain ⟨⟨z0,ae,af,ah,az,aA,ai,ak,al,aE,aF⟩,⟨z1,am,an,aw,aT,aU,aV,aW,aB,aC,aD,aX,aY,aZ,a9⟩⟩:=aq.out _ gb
     go_wp2_with fail
     refine (ref25_regs_k _ (2) _ Hk.out).mono ?_
     rintro e w1 ⟨rfl,rfl⟩
     go_wp2_with fail
     refine (ref25_in _ L xa _ (i2.to gb) HL.out _ Hpa.out).mono ?_
     rintro e w2 ⟨rfl,rfl⟩
     go_wp2_with fail
     refine (ref25_in _ L xb _ (i2.to gb) HL.out _ Hpb.out).mono ?_
     rintro e w3 ⟨rfl,rfl⟩
     go_wp2_with fail
     refine (ziy ng _ _ ln ld false _ _ [] [] _ ((i1.to gb)).1.isF ⟨Rd.nil _,Rd.nil _⟩ _ Ho.out).mono ?_
     clear ae ai af ak ah al az aE aA aF am aB an aC aw aD aT aX aU aY aV aZ aW a9
     rintro e w4 ⟨rfl,di⟩
     replace gb:=bS gb di
     obtain ⟨⟨z0,ae,af,ah,az,aA,ai,ak,al,aE,aF⟩,⟨z1,am,an,aw,aT,aU,aV,aW,aB,aC,aD,aX,aY,aZ,a9⟩⟩:=aq.out _ gb
     go_wp2_with fail
     go_ret
     exact ⟨rfl,bS zb gb⟩

theorem ref25_fields_six (c:Cd) (v:Value) (op to xa xb:Int) (ng:Bool) (vn vd:Value) (ln ld:List Nat) (u:Value) (L:List Int) (w:World) (hc:IsC w c v) (hx:IsX w ⟨op,to,xa,xb,⟨ng,ln,ld⟩⟩ vn vd) (hu:RdI w u L) (hL:L.length<=100000) (hr:1<=c.rows/\c.rows<=40) (hcl:1<=c.cols/\c.cols<=40) (h1:op=6) (o:Bool) (ho:zA c L ⟨op,to,xa,xb,⟨ng,ln,ld⟩⟩=o) :
  Calls Tryz.prog 34 #[aggC c v,.agg #[.int .i64 op,.int .i64 to,.int .i64 xa,.int .i64 xb,.bool ng,vn,vd],u] w (fun e w' => e=.returned (.bool o)/\Below w.heap.size w w'):=by
 have no0:op≠0:=by omega
 have t0:(op == 0)=false:=by simp;exact no0
 have no1:op≠1:=by omega
 have t1:(op == 1)=false:=by simp;exact no1
 have t6:(op == 6)=true:=by simp;exact h1
 have no7:op≠7:=by omega
 have t7:(op == 7)=false:=by simp;exact no7
 have no10:op≠10:=by omega
 have t10:(op == 10)=false:=by simp;exact no10
 have t1':(op != 1)=true:=by simp;exact no1
 have hk:zi op=1:=by rw [h1];decide
 have hk0:0<=zi op:=by rw [hk];decide
 have pb9:=zbw hr hcl
 have HM:IntKind.i64.wrap (c.rows*c.cols)=c.rows*c.cols:=IntWalk.i64_in _ (by omega)
 obtain ⟨pa',tpa'⟩:∃ b,(!decide (xa ∈ L))=b:=⟨_,rfl⟩
 obtain ⟨yb,tyb⟩:∃ b,(xb != 0)=b:=⟨_,rfl⟩
 obtain ⟨u1,tu1⟩:∃ b,decide (to<0)=b:=⟨_,rfl⟩
 obtain ⟨u2,tu2⟩:∃ b,decide (c.regs<=to)=b:=⟨_,rfl⟩
 have eAQ:aOk c L ⟨op,to,xa,xb,⟨ng,ln,ld⟩⟩=(!pa'):=(zfY hk0 no0).trans (show (if decide (1<=zi op)=true then decide (xa ∈ L) else decide (xa=0))=(!pa') by rw [hk,if_pos (by decide),<- tpa',Bool.not_not])
 have eBQ:bOk L ⟨op,to,xa,xb,⟨ng,ln,ld⟩⟩=(!yb):=(zfZ no7).trans (show (if decide (zi op=2)=true then decide (xb ∈ L) else decide (xb=0))=(!yb) by rw [hk,if_neg (by decide),<- not_bne0,tyb])
 have eMQ:zK c ⟨op,to,xa,xb,⟨ng,ln,ld⟩⟩=c.regs:=if_neg no10
 rw [insOk_re (x:=⟨op,to,xa,xb,⟨ng,ln,ld⟩⟩) hk0,eAQ,eBQ,eMQ] at ho
 obtain ⟨nu,hnu⟩:∃ b,zcd ⟨op,to,xa,xb,⟨ng,ln,ld⟩⟩=b:=⟨_,rfl⟩
 have ho':((!pa') && (!yb) && (!u1 && !u2) && nu)=o:=by rw [<- ho,hnu,<- tu1,<- tu2,not_dlt,not_dle]
 have Hnu:=Lib.hid hnu
 have HL:=Lib.hid hL
 have Hk:=Lib.hid hk
 obtain ⟨pa,hpa⟩:∃ b,decide (xa ∈ L)=b:=⟨_,rfl⟩
 obtain ⟨pb,hpb⟩:∃ b,decide (xb ∈ L)=b:=⟨_,rfl⟩
 have Hpa:=Lib.hid hpa
 have Hpb:=Lib.hid hpb
 have wpa:(!pa)=pa':=by rw [<- hpa,tpa']
 have hn1:ln.length<=1000:=hx.1.2.2.2.1
 have hd1:ld.length<=1000:=hx.1.2.2.2.2
 clear ho hnu hpa hpb eAQ eBQ eMQ hk hk0 pb9 hL tpa'
 clear t0 t1 t6 t7 t10 t1' no1
 subst h1
 obtain ⟨a0,n0,c0,rfl,H0,hm0⟩:=hc.1.open
 obtain ⟨a1,n1,c1,rfl,H1,hm1⟩:=hx.1.1.open
 obtain ⟨a2,n2,c2,rfl,H2,hm2⟩:=hx.1.2.1.open
 cases pa'
 case true =>
  have ho:o=false:=by rw [<- ho'];simp
  subst ho
  clear ho'
  obtain rfl:pa=false:=by simpa using wpa
  go_enter Tryz.func34,Tryz.ntmps34
  go_wp2_with fail
  obtain ⟨W0,ap⟩:∃ W0,(w.alloc (.cells #[.int .i64 c.ins,.int .i64 c.rows,.int .i64 c.cols,.int .i64 c.regs,.slice a0 n0 c0] 24)).alloc (.cells #[.int .i64 6,.int .i64 to,.int .i64 xa,.int .i64 xb,.bool ng,.slice a1 n1 c1,.slice a2 n2 c2] 49)=W0:=⟨_,rfl⟩
  have aq:=Lib.hid (show ∀ W',Below W0.heap.size W0 W'->(Bx5 W' w.heap.size (.int .i64 c.ins) (.int .i64 c.rows) (.int .i64 c.cols) (.int .i64 c.regs) (.slice a0 n0 c0)/\Bx7 W' (w.heap.size+1) (.int .i64 6) (.int .i64 to) (.int .i64 xa) (.int .i64 xb) (.bool ng) (.slice a1 n1 c1) (.slice a2 n2 c2)) from fun W' hb => by
    refine ⟨bx5 hb ?_ ?_ ?_ ?_ ?_ ?_ ?_ ?_ ?_ ?_,bx7 hb ?_ ?_ ?_ ?_ ?_ ?_ ?_ ?_ ?_ ?_ ?_ ?_ ?_ ?_⟩
    all_goals first|assumption|(rw [<- ap];simp [go_sem]))
  have zb:Below w.heap.size w W0:=by rw [<- ap];exact bS (bN _ _) (bN _ _)
  rw [ap]
  clear ap
  have i0:=hc.to zb
  have i1:=hx.to zb
  have i2:=hu.to zb
  have gb:Below W0.heap.size W0 W0:=Below.refl _ _
  obtain ⟨⟨z0,ae,af,ah,az,aA,ai,ak,al,aE,aF⟩,⟨z1,am,an,aw,aT,aU,aV,aW,aB,aC,aD,aX,aY,aZ,a9⟩⟩:=aq.out _ gb
  go_wp2_with fail
  refine (ref25_regs_k _ (1) _ Hk.out).mono ?_
  rintro e w1 ⟨rfl,rfl⟩
  go_wp2_with fail
  refine (ref25_in _ L xa _ (i2.to gb) HL.out _ Hpa.out).mono ?_
  rintro e w2 ⟨rfl,rfl⟩
  go_wp2_with fail
  refine (ref25_in _ L xb _ (i2.to gb) HL.out _ Hpb.out).mono ?_
  rintro e w3 ⟨rfl,rfl⟩
  go_wp2_with fail
  go_ret
  exact ⟨rfl,bS zb gb⟩
 case false =>
  obtain rfl:pa=true:=by simpa using wpa
  cases yb
  case true =>
   have ho:o=false:=by rw [<- ho'];simp
   subst ho
   clear ho'
   go_enter Tryz.func34,Tryz.ntmps34
   go_wp2_with fail
   obtain ⟨W0,ap⟩:∃ W0,(w.alloc (.cells #[.int .i64 c.ins,.int .i64 c.rows,.int .i64 c.cols,.int .i64 c.regs,.slice a0 n0 c0] 24)).alloc (.cells #[.int .i64 6,.int .i64 to,.int .i64 xa,.int .i64 xb,.bool ng,.slice a1 n1 c1,.slice a2 n2 c2] 49)=W0:=⟨_,rfl⟩
   have aq:=Lib.hid (show ∀ W',Below W0.heap.size W0 W'->(Bx5 W' w.heap.size (.int .i64 c.ins) (.int .i64 c.rows) (.int .i64 c.cols) (.int .i64 c.regs) (.slice a0 n0 c0)/\Bx7 W' (w.heap.size+1) (.int .i64 6) (.int .i64 to) (.int .i64 xa) (.int .i64 xb) (.bool ng) (.slice a1 n1 c1) (.slice a2 n2 c2)) from fun W' hb => by
     refine ⟨bx5 hb ?_ ?_ ?_ ?_ ?_ ?_ ?_ ?_ ?_ ?_,bx7 hb ?_ ?_ ?_ ?_ ?_ ?_ ?_ ?_ ?_ ?_ ?_ ?_ ?_ ?_⟩
     all_goals first|assumption|(rw [<- ap];simp [go_sem]))
   have zb:Below w.heap.size w W0:=by rw [<- ap];exact bS (bN _ _) (bN _ _)
   rw [ap]
   clear ap
   have i0:=hc.to zb
   have i1:=hx.to zb
   have i2:=hu.to zb
   have gb:Below W0.heap.size W0 W0:=Below.refl _ _
   obtain ⟨⟨z0,ae,af,ah,az,aA,ai,ak,al,aE,aF⟩,⟨z1,am,an,aw,aT,aU,aV,aW,aB,aC,aD,aX,aY,aZ,a9⟩⟩:=aq.out _ gb
   go_wp2_with fail
   refine (ref25_regs_k _ (1) _ Hk.out).mono ?_
   rintro e w1 ⟨rfl,rfl⟩
   go_wp2_with fail
   refine (ref25_in _ L xa _ (i2.to gb) HL.out _ Hpa.out).mono ?_
   rintro e w2 ⟨rfl,rfl⟩
   go_wp2_with fail
   refine (ref25_in _ L xb _ (i2.to gb) HL.out _ Hpb.out).mono ?_
   rintro e w3 ⟨rfl,rfl⟩
   go_wp2_with fail
   go_ret
   exact ⟨rfl,bS zb gb⟩
  case false =>
   cases u1
   case true =>
    have ho:o=false:=by rw [<- ho'];simp
    subst ho
    clear ho'
    go_enter Tryz.func34,Tryz.ntmps34
    go_wp2_with fail
    obtain ⟨W0,ap⟩:∃ W0,(w.alloc (.cells #[.int .i64 c.ins,.int .i64 c.rows,.int .i64 c.cols,.int .i64 c.regs,.slice a0 n0 c0] 24)).alloc (.cells #[.int .i64 6,.int .i64 to,.int .i64 xa,.int .i64 xb,.bool ng,.slice a1 n1 c1,.slice a2 n2 c2] 49)=W0:=⟨_,rfl⟩
    have aq:=Lib.hid (show ∀ W',Below W0.heap.size W0 W'->(Bx5 W' w.heap.size (.int .i64 c.ins) (.int .i64 c.rows) (.int .i64 c.cols) (.int .i64 c.regs) (.slice a0 n0 c0)/\Bx7 W' (w.heap.size+1) (.int .i64 6) (.int .i64 to) (.int .i64 xa) (.int .i64 xb) (.bool ng) (.slice a1 n1 c1) (.slice a2 n2 c2)) from fun W' hb => by
      refine ⟨bx5 hb ?_ ?_ ?_ ?_ ?_ ?_ ?_ ?_ ?_ ?_,bx7 hb ?_ ?_ ?_ ?_ ?_ ?_ ?_ ?_ ?_ ?_ ?_ ?_ ?_ ?_⟩
      all_goals first|assumption|(rw [<- ap];simp [go_sem]))
    have zb:Below w.heap.size w W0:=by rw [<- ap];exact bS (bN _ _) (bN _ _)
    rw [ap]
    clear ap
    have i0:=hc.to zb
    have i1:=hx.to zb
    have i2:=hu.to zb
    have gb:Below W0.heap.size W0 W0:=Below.refl _ _
    obtain ⟨⟨z0,ae,af,ah,az,aA,ai,ak,al,aE,aF⟩,⟨z1,am,an,aw,aT,aU,aV,aW,aB,aC,aD,aX,aY,aZ,a9⟩⟩:=aq.out _ gb
    go_wp2_with fail
    refine (ref25_regs_k _ (1) _ Hk.out).mono ?_
    rintro e w1 ⟨rfl,rfl⟩
    go_wp2_with fail
    refine (ref25_in _ L xa _ (i2.to gb) HL.out _ Hpa.out).mono ?_
    rintro e w2 ⟨rfl,rfl⟩
    go_wp2_with fail
    refine (ref25_in _ L xb _ (i2.to gb) HL.out _ Hpb.out).mono ?_
    rintro e w3 ⟨rfl,rfl⟩
    go_wp2_with fail
    go_ret
    exact ⟨rfl,bS zb gb⟩
   case false =>
    cases u2
    case true =>
     have ho:o=false:=by rw [<- ho'];simp
     subst ho
     clear ho'
     go_enter Tryz.func34,Tryz.ntmps34
     go_wp2_with fail
     obtain ⟨W0,ap⟩:∃ W0,(w.alloc (.cells #[.int .i64 c.ins,.int .i64 c.rows,.int .i64 c.cols,.int .i64 c.regs,.slice a0 n0 c0] 24)).alloc (.cells #[.int .i64 6,.int .i64 to,.int .i64 xa,.int .i64 xb,.bool ng,.slice a1 n1 c1,.slice a2 n2 c2] 49)=W0:=⟨_,rfl⟩
     have aq:=Lib.hid (show ∀ W',Below W0.heap.size W0 W'->(Bx5 W' w.heap.size (.int .i64 c.ins) (.int .i64 c.rows) (.int .i64 c.cols) (.int .i64 c.regs) (.slice a0 n0 c0)/\Bx7 W' (w.heap.size+1) (.int .i64 6) (.int .i64 to) (.int .i64 xa) (.int .i64 xb) (.bool ng) (.slice a1 n1 c1) (.slice a2 n2 c2)) from fun W' hb => by
       refine ⟨bx5 hb ?_ ?_ ?_ ?_ ?_ ?_ ?_ ?_ ?_ ?_,bx7 hb ?_ ?_ ?_ ?_ ?_ ?_ ?_ ?_ ?_ ?_ ?_ ?_ ?_ ?_⟩
       all_goals first|assumption|(rw [<- ap];simp [go_sem]))
     have zb:Below w.heap.size w W0:=by rw [<- ap];exact bS (bN _ _) (bN _ _)
     rw [ap]
     clear ap
     have i0:=hc.to zb
     have i1:=hx.to zb
     have i2:=hu.to zb
     have gb:Below W0.heap.size W0 W0:=Below.refl _ _
     obtain ⟨⟨z0,ae,af,ah,az,aA,ai,ak,al,aE,aF⟩,⟨z1,am,an,aw,aT,aU,aV,aW,aB,aC,aD,aX,aY,aZ,a9⟩⟩:=aq.out _ gb
     go_wp2_with fail
     refine (ref25_regs_k _ (1) _ Hk.out).mono ?_
     rintro e w1 ⟨rfl,rfl⟩
     go_wp2_with fail
     refine (ref25_in _ L xa _ (i2.to gb) HL.out _ Hpa.out).mono ?_
     rintro e w2 ⟨rfl,rfl⟩
     go_wp2_with fail
     refine (ref25_in _ L xb _ (i2.to gb) HL.out _ Hpb.out).mono ?_
     rintro e w3 ⟨rfl,rfl⟩
     go_wp2_with fail
     go_ret
     exact ⟨rfl,bS zb gb⟩
    case false =>
     have ho:nu=o:=by rw [<- ho'];cases nu <;> rfl
     subst ho
     clear ho'
     have Ho:=Lib.hid (show (ng == false && decide (ln=[]) && decide (ld=[]))=nu by rw [<- numOk_not (op:=6) (to:=to) (xa:=xa) (xb:=xb) (by decide)];exact Hnu.out)
     go_enter Tryz.func34,Tryz.ntmps34
     go_wp2_with fail
     obtain ⟨W0,ap⟩:∃ W0,(w.alloc (.cells #[.int .i64 c.ins,.int .i64 c.rows,.int .i64 c.cols,.int .i64 c.regs,.slice a0 n0 c0] 24)).alloc (.cells #[.int .i64 6,.int .i64 to,.int .i64 xa,.int .i64 xb,.bool ng,.slice a1 n1 c1,.slice a2 n2 c2] 49)=W0:=⟨_,rfl⟩
     have aq:=Lib.hid (show ∀ W',Below W0.heap.size W0 W'->(Bx5 W' w.heap.size (.int .i64 c.ins) (.int .i64 c.rows) (.int .i64 c.cols) (.int .i64 c.regs) (.slice a0 n0 c0)/\Bx7 W' (w.heap.size+1) (.int .i64 6) (.int .i64 to) (.int .i64 xa) (.int .i64 xb) (.bool ng) (.slice a1 n1 c1) (.slice a2 n2 c2)) from fun W' hb => by
       refine ⟨bx5 hb ?_ ?_ ?_ ?_ ?_ ?_ ?_ ?_ ?_ ?_,bx7 hb ?_ ?_ ?_ ?_ ?_ ?_ ?_ ?_ ?_ ?_ ?_ ?_ ?_ ?_⟩
       all_goals first|assumption|(rw [<- ap];simp [go_sem]))
     have zb:Below w.heap.size w W0:=by rw [<- ap];exact bS (bN _ _) (bN _ _)
     rw [ap]
     clear ap
     have i0:=hc.to zb
     have i1:=hx.to zb
     have i2:=hu.to zb
     have gb:Below W0.heap.size W0 W0:=Below.refl _ _
     obtain ⟨⟨z0,ae,af,ah,az,aA,ai,ak,al,aE,aF⟩,⟨z1,am,an,aw,aT,aU,aV,aW,aB,aC,aD,aX,aY,aZ,a9⟩⟩:=aq.out _ gb
     go_wp2_with fail
     refine (ref25_regs_k _ (1) _ Hk.out).mono ?_
     rintro e w1 ⟨rfl,rfl⟩
     go_wp2_with fail
     refine (ref25_in _ L xa _ (i2.to gb) HL.out _ Hpa.out).mono ?_
     rintro e w2 ⟨rfl,rfl⟩
     go_wp2_with fail
     refine (ref25_in _ L xb _ (i2.to gb) HL.out _ Hpb.out).mono ?_
     rintro e w3 ⟨rfl,rfl⟩
     go_wp2_with fail
     refine (ziy ng _ _ ln ld false _ _ [] [] _ ((i1.to gb)).1.isF ⟨Rd.nil _,Rd.nil _⟩ _ Ho.out).mono ?_
     clear ae ai af ak ah al az aE aA aF am aB an aC aw aD aT aX aU aY aV aZ aW a9
     rintro e w4 ⟨rfl,di⟩
     replace gb:=bS gb di
     obtain ⟨⟨z0,ae,af,ah,az,aA,ai,ak,al,aE,aF⟩,⟨z1,am,an,aw,aT,aU,aV,aW,aB,aC,aD,aX,aY,aZ,a9⟩⟩:=aq.out _ gb
     go_wp2_with fail
     go_ret
     exact ⟨rfl,bS zb gb⟩

theorem ref25_fields_pow (c:Cd) (v:Value) (op to xa xb:Int) (ng:Bool) (vn vd:Value) (ln ld:List Nat) (u:Value) (L:List Int) (w:World) (hc:IsC w c v) (hx:IsX w ⟨op,to,xa,xb,⟨ng,ln,ld⟩⟩ vn vd) (hu:RdI w u L) (hL:L.length<=100000) (hr:1<=c.rows/\c.rows<=40) (hcl:1<=c.cols/\c.cols<=40) (h1:op=7) (o:Bool) (ho:zA c L ⟨op,to,xa,xb,⟨ng,ln,ld⟩⟩=o) :
  Calls Tryz.prog 34 #[aggC c v,.agg #[.int .i64 op,.int .i64 to,.int .i64 xa,.int .i64 xb,.bool ng,vn,vd],u] w (fun e w' => e=.returned (.bool o)/\Below w.heap.size w w'):=by
 have no0:op≠0:=by omega
 have t0:(op == 0)=false:=by simp;exact no0
 have no1:op≠1:=by omega
 have t1:(op == 1)=false:=by simp;exact no1
 have no6:op≠6:=by omega
 have t6:(op == 6)=false:=by simp;exact no6
 have t7:(op == 7)=true:=by simp;exact h1
 have no10:op≠10:=by omega
 have t10:(op == 10)=false:=by simp;exact no10
 have t1':(op != 1)=true:=by simp;exact no1
 have hk:zi op=1:=by rw [h1];decide
 have hk0:0<=zi op:=by rw [hk];decide
 have pb9:=zbw hr hcl
 have HM:IntKind.i64.wrap (c.rows*c.cols)=c.rows*c.cols:=IntWalk.i64_in _ (by omega)
 obtain ⟨pa',tpa'⟩:∃ b,(!decide (xa ∈ L))=b:=⟨_,rfl⟩
 obtain ⟨r1,tr1⟩:∃ b,decide (xb < -21)=b:=⟨_,rfl⟩
 obtain ⟨r2,tr2⟩:∃ b,decide (21<xb)=b:=⟨_,rfl⟩
 obtain ⟨u1,tu1⟩:∃ b,decide (to<0)=b:=⟨_,rfl⟩
 obtain ⟨u2,tu2⟩:∃ b,decide (c.regs<=to)=b:=⟨_,rfl⟩
 have eAQ:aOk c L ⟨op,to,xa,xb,⟨ng,ln,ld⟩⟩=(!pa'):=(zfY hk0 no0).trans (show (if decide (1<=zi op)=true then decide (xa ∈ L) else decide (xa=0))=(!pa') by rw [hk,if_pos (by decide),<- tpa',Bool.not_not])
 have eBQ:bOk L ⟨op,to,xa,xb,⟨ng,ln,ld⟩⟩=(!r1 && !r2):=(bOk_pow h1).trans (show (decide (-21<=xb) && decide (xb<=21))=(!r1 && !r2) by rw [<- not_dlt xb (-21),<- not_dlt 21 xb,tr1,tr2])
 have eMQ:zK c ⟨op,to,xa,xb,⟨ng,ln,ld⟩⟩=c.regs:=if_neg no10
 rw [insOk_re (x:=⟨op,to,xa,xb,⟨ng,ln,ld⟩⟩) hk0,eAQ,eBQ,eMQ] at ho
 obtain ⟨nu,hnu⟩:∃ b,zcd ⟨op,to,xa,xb,⟨ng,ln,ld⟩⟩=b:=⟨_,rfl⟩
 have ho':((!pa') && (!r1 && !r2) && (!u1 && !u2) && nu)=o:=by rw [<- ho,hnu,<- tu1,<- tu2,not_dlt,not_dle]
 have Hnu:=Lib.hid hnu
 have HL:=Lib.hid hL
 have Hk:=Lib.hid hk
 obtain ⟨pa,hpa⟩:∃ b,decide (xa ∈ L)=b:=⟨_,rfl⟩
 obtain ⟨pb,hpb⟩:∃ b,decide (xb ∈ L)=b:=⟨_,rfl⟩
 have Hpa:=Lib.hid hpa
 have Hpb:=Lib.hid hpb
 have wpa:(!pa)=pa':=by rw [<- hpa,tpa']
 have hn1:ln.length<=1000:=hx.1.2.2.2.1
 have hd1:ld.length<=1000:=hx.1.2.2.2.2
 clear ho hnu hpa hpb eAQ eBQ eMQ hk hk0 pb9 hL tpa'
 clear t0 t1 t6 t7 t10 t1' no1
 subst h1
 obtain ⟨a0,n0,c0,rfl,H0,hm0⟩:=hc.1.open
 obtain ⟨a1,n1,c1,rfl,H1,hm1⟩:=hx.1.1.open
 obtain ⟨a2,n2,c2,rfl,H2,hm2⟩:=hx.1.2.1.open
 cases pa'
 case true =>
  have ho:o=false:=by rw [<- ho'];simp
  subst ho
  clear ho'
  obtain rfl:pa=false:=by simpa using wpa
  go_enter Tryz.func34,Tryz.ntmps34
  go_wp2_with fail
  obtain ⟨W0,ap⟩:∃ W0,(w.alloc (.cells #[.int .i64 c.ins,.int .i64 c.rows,.int .i64 c.cols,.int .i64 c.regs,.slice a0 n0 c0] 24)).alloc (.cells #[.int .i64 7,.int .i64 to,.int .i64 xa,.int .i64 xb,.bool ng,.slice a1 n1 c1,.slice a2 n2 c2] 49)=W0:=⟨_,rfl⟩
  have aq:=Lib.hid (show ∀ W',Below W0.heap.size W0 W'->(Bx5 W' w.heap.size (.int .i64 c.ins) (.int .i64 c.rows) (.int .i64 c.cols) (.int .i64 c.regs) (.slice a0 n0 c0)/\Bx7 W' (w.heap.size+1) (.int .i64 7) (.int .i64 to) (.int .i64 xa) (.int .i64 xb) (.bool ng) (.slice a1 n1 c1) (.slice a2 n2 c2)) from fun W' hb => by
    refine ⟨bx5 hb ?_ ?_ ?_ ?_ ?_ ?_ ?_ ?_ ?_ ?_,bx7 hb ?_ ?_ ?_ ?_ ?_ ?_ ?_ ?_ ?_ ?_ ?_ ?_ ?_ ?_⟩
    all_goals first|assumption|(rw [<- ap];simp [go_sem]))
  have zb:Below w.heap.size w W0:=by rw [<- ap];exact bS (bN _ _) (bN _ _)
  rw [ap]
  clear ap
  have i0:=hc.to zb
  have i1:=hx.to zb
  have i2:=hu.to zb
  have gb:Below W0.heap.size W0 W0:=Below.refl _ _
  obtain ⟨⟨z0,ae,af,ah,az,aA,ai,ak,al,aE,aF⟩,⟨z1,am,an,aw,aT,aU,aV,aW,aB,aC,aD,aX,aY,aZ,a9⟩⟩:=aq.out _ gb
  go_wp2_with fail
  refine (ref25_regs_k _ (1) _ Hk.out).mono ?_
  rintro e w1 ⟨rfl,rfl⟩
  go_wp2_with fail
  refine (ref25_in _ L xa _ (i2.to gb) HL.out _ Hpa.out).mono ?_
  rintro e w2 ⟨rfl,rfl⟩
  go_wp2_with fail
  refine (ref25_in _ L xb _ (i2.to gb) HL.out _ Hpb.out).mono ?_
  rintro e w3 ⟨rfl,rfl⟩
  go_wp2_with fail
  go_ret
  exact ⟨rfl,bS zb gb⟩
 case false =>
  obtain rfl:pa=true:=by simpa using wpa
  cases r1
  case true =>
   have ho:o=false:=by rw [<- ho'];simp
   subst ho
   clear ho'
   go_enter Tryz.func34,Tryz.ntmps34
   go_wp2_with fail
   obtain ⟨W0,ap⟩:∃ W0,(w.alloc (.cells #[.int .i64 c.ins,.int .i64 c.rows,.int .i64 c.cols,.int .i64 c.regs,.slice a0 n0 c0] 24)).alloc (.cells #[.int .i64 7,.int .i64 to,.int .i64 xa,.int .i64 xb,.bool ng,.slice a1 n1 c1,.slice a2 n2 c2] 49)=W0:=⟨_,rfl⟩
   have aq:=Lib.hid (show ∀ W',Below W0.heap.size W0 W'->(Bx5 W' w.heap.size (.int .i64 c.ins) (.int .i64 c.rows) (.int .i64 c.cols) (.int .i64 c.regs) (.slice a0 n0 c0)/\Bx7 W' (w.heap.size+1) (.int .i64 7) (.int .i64 to) (.int .i64 xa) (.int .i64 xb) (.bool ng) (.slice a1 n1 c1) (.slice a2 n2 c2)) from fun W' hb => by
     refine ⟨bx5 hb ?_ ?_ ?_ ?_ ?_ ?_ ?_ ?_ ?_ ?_,bx7 hb ?_ ?_ ?_ ?_ ?_ ?_ ?_ ?_ ?_ ?_ ?_ ?_ ?_ ?_⟩
     all_goals first|assumption|(rw [<- ap];simp [go_sem]))
   have zb:Below w.heap.size w W0:=by rw [<- ap];exact bS (bN _ _) (bN _ _)
   rw [ap]
   clear ap
   have i0:=hc.to zb
   have i1:=hx.to zb
   have i2:=hu.to zb
   have gb:Below W0.heap.size W0 W0:=Below.refl _ _
   obtain ⟨⟨z0,ae,af,ah,az,aA,ai,ak,al,aE,aF⟩,⟨z1,am,an,aw,aT,aU,aV,aW,aB,aC,aD,aX,aY,aZ,a9⟩⟩:=aq.out _ gb
   go_wp2_with fail
   refine (ref25_regs_k _ (1) _ Hk.out).mono ?_
   rintro e w1 ⟨rfl,rfl⟩
   go_wp2_with fail
   refine (ref25_in _ L xa _ (i2.to gb) HL.out _ Hpa.out).mono ?_
   rintro e w2 ⟨rfl,rfl⟩
   go_wp2_with fail
   refine (ref25_in _ L xb _ (i2.to gb) HL.out _ Hpb.out).mono ?_
   rintro e w3 ⟨rfl,rfl⟩
   go_wp2_with fail
   go_ret
   exact ⟨rfl,bS zb gb⟩
  case false =>
   cases r2
   case true =>
    have ho:o=false:=by rw [<- ho'];simp
    subst ho
    clear ho'
    go_enter Tryz.func34,Tryz.ntmps34
    go_wp2_with fail
    obtain ⟨W0,ap⟩:∃ W0,(w.alloc (.cells #[.int .i64 c.ins,.int .i64 c.rows,.int .i64 c.cols,.int .i64 c.regs,.slice a0 n0 c0] 24)).alloc (.cells #[.int .i64 7,.int .i64 to,.int .i64 xa,.int .i64 xb,.bool ng,.slice a1 n1 c1,.slice a2 n2 c2] 49)=W0:=⟨_,rfl⟩
    have aq:=Lib.hid (show ∀ W',Below W0.heap.size W0 W'->(Bx5 W' w.heap.size (.int .i64 c.ins) (.int .i64 c.rows) (.int .i64 c.cols) (.int .i64 c.regs) (.slice a0 n0 c0)/\Bx7 W' (w.heap.size+1) (.int .i64 7) (.int .i64 to) (.int .i64 xa) (.int .i64 xb) (.bool ng) (.slice a1 n1 c1) (.slice a2 n2 c2)) from fun W' hb => by
      refine ⟨bx5 hb ?_ ?_ ?_ ?_ ?_ ?_ ?_ ?_ ?_ ?_,bx7 hb ?_ ?_ ?_ ?_ ?_ ?_ ?_ ?_ ?_ ?_ ?_ ?_ ?_ ?_⟩
      all_goals first|assumption|(rw [<- ap];simp [go_sem]))
    have zb:Below w.heap.size w W0:=by rw [<- ap];exact bS (bN _ _) (bN _ _)
    rw [ap]
    clear ap
    have i0:=hc.to zb
    have i1:=hx.to zb
    have i2:=hu.to zb
    have gb:Below W0.heap.size W0 W0:=Below.refl _ _
    obtain ⟨⟨z0,ae,af,ah,az,aA,ai,ak,al,aE,aF⟩,⟨z1,am,an,aw,aT,aU,aV,aW,aB,aC,aD,aX,aY,aZ,a9⟩⟩:=aq.out _ gb
    go_wp2_with fail
    refine (ref25_regs_k _ (1) _ Hk.out).mono ?_
    rintro e w1 ⟨rfl,rfl⟩
    go_wp2_with fail
    refine (ref25_in _ L xa _ (i2.to gb) HL.out _ Hpa.out).mono ?_
    rintro e w2 ⟨rfl,rfl⟩
    go_wp2_with fail
    refine (ref25_in _ L xb _ (i2.to gb) HL.out _ Hpb.out).mono ?_
    rintro e w3 ⟨rfl,rfl⟩
    go_wp2_with fail
    go_ret
    exact ⟨rfl,bS zb gb⟩
   case false =>
    cases u1
    case true =>
     have ho:o=false:=by rw [<- ho'];simp
     subst ho
     clear ho'
     go_enter Tryz.func34,Tryz.ntmps34
     go_wp2_with fail
     obtain ⟨W0,ap⟩:∃ W0,(w.alloc (.cells #[.int .i64 c.ins,.int .i64 c.rows,.int .i64 c.cols,.int .i64 c.regs,.slice a0 n0 c0] 24)).alloc (.cells #[.int .i64 7,.int .i64 to,.int .i64 xa,.int .i64 xb,.bool ng,.slice a1 n1 c1,.slice a2 n2 c2] 49)=W0:=⟨_,rfl⟩
     have aq:=Lib.hid (show ∀ W',Below W0.heap.size W0 W'->(Bx5 W' w.heap.size (.int .i64 c.ins) (.int .i64 c.rows) (.int .i64 c.cols) (.int .i64 c.regs) (.slice a0 n0 c0)/\Bx7 W' (w.heap.size+1) (.int .i64 7) (.int .i64 to) (.int .i64 xa) (.int .i64 xb) (.bool ng) (.slice a1 n1 c1) (.slice a2 n2 c2)) from fun W' hb => by
       refine ⟨bx5 hb ?_ ?_ ?_ ?_ ?_ ?_ ?_ ?_ ?_ ?_,bx7 hb ?_ ?_ ?_ ?_ ?_ ?_ ?_ ?_ ?_ ?_ ?_ ?_ ?_ ?_⟩
       all_goals first|assumption|(rw [<- ap];simp [go_sem]))
     have zb:Below w.heap.size w W0:=by rw [<- ap];exact bS (bN _ _) (bN _ _)
     rw [ap]
     clear ap
     have i0:=hc.to zb
     have i1:=hx.to zb
     have i2:=hu.to zb
     have gb:Below W0.heap.size W0 W0:=Below.refl _ _
     obtain ⟨⟨z0,ae,af,ah,az,aA,ai,ak,al,aE,aF⟩,⟨z1,am,an,aw,aT,aU,aV,aW,aB,aC,aD,aX,aY,aZ,a9⟩⟩:=aq.out _ gb
     go_wp2_with fail
     refine (ref25_regs_k _ (1) _ Hk.out).mono ?_
     rintro e w1 ⟨rfl,rfl⟩
     go_wp2_with fail
     refine (ref25_in _ L xa _ (i2.to gb) HL.out _ Hpa.out).mono ?_
     rintro e w2 ⟨rfl,rfl⟩
     go_wp2_with fail
     refine (ref25_in _ L xb _ (i2.to gb) HL.out _ Hpb.out).mono ?_
     rintro e w3 ⟨rfl,rfl⟩
     go_wp2_with fail
     go_ret
     exact ⟨rfl,bS zb gb⟩
    case false =>
     cases u2
     case true =>
      have ho:o=false:=by rw [<- ho'];simp
      subst ho
      clear ho'
      go_enter Tryz.func34,Tryz.ntmps34
      go_wp2_with fail
      obtain ⟨W0,ap⟩:∃ W0,(w.alloc (.cells #[.int .i64 c.ins,.int .i64 c.rows,.int .i64 c.cols,.int .i64 c.regs,.slice a0 n0 c0] 24)).alloc (.cells #[.int .i64 7,.int .i64 to,.int .i64 xa,.int .i64 xb,.bool ng,.slice a1 n1 c1,.slice a2 n2 c2] 49)=W0:=⟨_,rfl⟩
      have aq:=Lib.hid (show ∀ W',Below W0.heap.size W0 W'->(Bx5 W' w.heap.size (.int .i64 c.ins) (.int .i64 c.rows) (.int .i64 c.cols) (.int .i64 c.regs) (.slice a0 n0 c0)/\Bx7 W' (w.heap.size+1) (.int .i64 7) (.int .i64 to) (.int .i64 xa) (.int .i64 xb) (.bool ng) (.slice a1 n1 c1) (.slice a2 n2 c2)) from fun W' hb => by
        refine ⟨bx5 hb ?_ ?_ ?_ ?_ ?_ ?_ ?_ ?_ ?_ ?_,bx7 hb ?_ ?_ ?_ ?_ ?_ ?_ ?_ ?_ ?_ ?_ ?_ ?_ ?_ ?_⟩
        all_goals first|assumption|(rw [<- ap];simp [go_sem]))
      have zb:Below w.heap.size w W0:=by rw [<- ap];exact bS (bN _ _) (bN _ _)
      rw [ap]
      clear ap
      have i0:=hc.to zb
      have i1:=hx.to zb
      have i2:=hu.to zb
      have gb:Below W0.heap.size W0 W0:=Below.refl _ _
      obtain ⟨⟨z0,ae,af,ah,az,aA,ai,ak,al,aE,aF⟩,⟨z1,am,an,aw,aT,aU,aV,aW,aB,aC,aD,aX,aY,aZ,a9⟩⟩:=aq.out _ gb
      go_wp2_with fail
      refine (ref25_regs_k _ (1) _ Hk.out).mono ?_
      rintro e w1 ⟨rfl,rfl⟩
      go_wp2_with fail
      refine (ref25_in _ L xa _ (i2.to gb) HL.out _ Hpa.out).mono ?_
      rintro e w2 ⟨rfl,rfl⟩
      go_wp2_with fail
      refine (ref25_in _ L xb _ (i2.to gb) HL.out _ Hpb.out).mono ?_
      rintro e w3 ⟨rfl,rfl⟩
      go_wp2_with fail
      go_ret
      exact ⟨rfl,bS zb gb⟩
     case false =>
      have ho:nu=o:=by rw [<- ho'];cases nu <;> rfl
      subst ho
      clear ho'
      have Ho:=Lib.hid (show (ng == false && decide (ln=[]) && decide (ld=[]))=nu by rw [<- numOk_not (op:=7) (to:=to) (xa:=xa) (xb:=xb) (by decide)];exact Hnu.out)
      go_enter Tryz.func34,Tryz.ntmps34
      go_wp2_with fail
      obtain ⟨W0,ap⟩:∃ W0,(w.alloc (.cells #[.int .i64 c.ins,.int .i64 c.rows,.int .i64 c.cols,.int .i64 c.regs,.slice a0 n0 c0] 24)).alloc (.cells #[.int .i64 7,.int .i64 to,.int .i64 xa,.int .i64 xb,.bool ng,.slice a1 n1 c1,.slice a2 n2 c2] 49)=W0:=⟨_,rfl⟩
      have aq:=Lib.hid (show ∀ W',Below W0.heap.size W0 W'->(Bx5 W' w.heap.size (.int .i64 c.ins) (.int .i64 c.rows) (.int .i64 c.cols) (.int .i64 c.regs) (.slice a0 n0 c0)/\Bx7 W' (w.heap.size+1) (.int .i64 7) (.int .i64 to) (.int .i64 xa) (.int .i64 xb) (.bool ng) (.slice a1 n1 c1) (.slice a2 n2 c2)) from fun W' hb => by
        refine ⟨bx5 hb ?_ ?_ ?_ ?_ ?_ ?_ ?_ ?_ ?_ ?_,bx7 hb ?_ ?_ ?_ ?_ ?_ ?_ ?_ ?_ ?_ ?_ ?_ ?_ ?_ ?_⟩
        all_goals first|assumption|(rw [<- ap];simp [go_sem]))
      have zb:Below w.heap.size w W0:=by rw [<- ap];exact bS (bN _ _) (bN _ _)
      rw [ap]
      clear ap
      have i0:=hc.to zb
      have i1:=hx.to zb
      have i2:=hu.to zb
      have gb:Below W0.heap.size W0 W0:=Below.refl _ _
      obtain ⟨⟨z0,ae,af,ah,az,aA,ai,ak,al,aE,aF⟩,⟨z1,am,an,aw,aT,aU,aV,aW,aB,aC,aD,aX,aY,aZ,a9⟩⟩:=aq.out _ gb
      go_wp2_with fail
      refine (ref25_regs_k _ (1) _ Hk.out).mono ?_
      rintro e w1 ⟨rfl,rfl⟩
      go_wp2_with fail
      refine (ref25_in _ L xa _ (i2.to gb) HL.out _ Hpa.out).mono ?_
      rintro e w2 ⟨rfl,rfl⟩
      go_wp2_with fail
      refine (ref25_in _ L xb _ (i2.to gb) HL.out _ Hpb.out).mono ?_
      rintro e w3 ⟨rfl,rfl⟩
      go_wp2_with fail
      refine (ziy ng _ _ ln ld false _ _ [] [] _ ((i1.to gb)).1.isF ⟨Rd.nil _,Rd.nil _⟩ _ Ho.out).mono ?_
      clear ae ai af ak ah al az aE aA aF am aB an aC aw aD aT aX aU aY aV aZ aW a9
      rintro e w4 ⟨rfl,di⟩
      replace gb:=bS gb di
      obtain ⟨⟨z0,ae,af,ah,az,aA,ai,ak,al,aE,aF⟩,⟨z1,am,an,aw,aT,aU,aV,aW,aB,aC,aD,aX,aY,aZ,a9⟩⟩:=aq.out _ gb
      go_wp2_with fail
      go_ret
      exact ⟨rfl,bS zb gb⟩

theorem ref25_fields_ten (c:Cd) (v:Value) (op to xa xb:Int) (ng:Bool) (vn vd:Value) (ln ld:List Nat) (u:Value) (L:List Int) (w:World) (hc:IsC w c v) (hx:IsX w ⟨op,to,xa,xb,⟨ng,ln,ld⟩⟩ vn vd) (hu:RdI w u L) (hL:L.length<=100000) (hr:1<=c.rows/\c.rows<=40) (hcl:1<=c.cols/\c.cols<=40) (h1:op=10) (o:Bool) (ho:zA c L ⟨op,to,xa,xb,⟨ng,ln,ld⟩⟩=o) :
  Calls Tryz.prog 34 #[aggC c v,.agg #[.int .i64 op,.int .i64 to,.int .i64 xa,.int .i64 xb,.bool ng,vn,vd],u] w (fun e w' => e=.returned (.bool o)/\Below w.heap.size w w'):=by
 have no0:op≠0:=by omega
 have t0:(op == 0)=false:=by simp;exact no0
 have no1:op≠1:=by omega
 have t1:(op == 1)=false:=by simp;exact no1
 have no6:op≠6:=by omega
 have t6:(op == 6)=false:=by simp;exact no6
 have no7:op≠7:=by omega
 have t7:(op == 7)=false:=by simp;exact no7
 have t10:(op == 10)=true:=by simp;exact h1
 have t1':(op != 1)=true:=by simp;exact no1
 have hk:zi op=1:=by rw [h1];decide
 have hk0:0<=zi op:=by rw [hk];decide
 have pb9:=zbw hr hcl
 have HM:IntKind.i64.wrap (c.rows*c.cols)=c.rows*c.cols:=IntWalk.i64_in _ (by omega)
 obtain ⟨pa',tpa'⟩:∃ b,(!decide (xa ∈ L))=b:=⟨_,rfl⟩
 obtain ⟨yb,tyb⟩:∃ b,(xb != 0)=b:=⟨_,rfl⟩
 obtain ⟨u1,tu1⟩:∃ b,decide (to<0)=b:=⟨_,rfl⟩
 obtain ⟨u2,tu2⟩:∃ b,decide (c.rows*c.cols<=to)=b:=⟨_,rfl⟩
 have eAQ:aOk c L ⟨op,to,xa,xb,⟨ng,ln,ld⟩⟩=(!pa'):=(zfY hk0 no0).trans (show (if decide (1<=zi op)=true then decide (xa ∈ L) else decide (xa=0))=(!pa') by rw [hk,if_pos (by decide),<- tpa',Bool.not_not])
 have eBQ:bOk L ⟨op,to,xa,xb,⟨ng,ln,ld⟩⟩=(!yb):=(zfZ no7).trans (show (if decide (zi op=2)=true then decide (xb ∈ L) else decide (xb=0))=(!yb) by rw [hk,if_neg (by decide),<- not_bne0,tyb])
 have eMQ:zK c ⟨op,to,xa,xb,⟨ng,ln,ld⟩⟩=c.rows*c.cols:=if_pos h1
 rw [insOk_re (x:=⟨op,to,xa,xb,⟨ng,ln,ld⟩⟩) hk0,eAQ,eBQ,eMQ] at ho
 obtain ⟨nu,hnu⟩:∃ b,zcd ⟨op,to,xa,xb,⟨ng,ln,ld⟩⟩=b:=⟨_,rfl⟩
 have ho':((!pa') && (!yb) && (!u1 && !u2) && nu)=o:=by rw [<- ho,hnu,<- tu1,<- tu2,not_dlt,not_dle]
 have Hnu:=Lib.hid hnu
 have HL:=Lib.hid hL
 have Hk:=Lib.hid hk
 obtain ⟨pa,hpa⟩:∃ b,decide (xa ∈ L)=b:=⟨_,rfl⟩
 obtain ⟨pb,hpb⟩:∃ b,decide (xb ∈ L)=b:=⟨_,rfl⟩
 have Hpa:=Lib.hid hpa
 have Hpb:=Lib.hid hpb
 have wpa:(!pa)=pa':=by rw [<- hpa,tpa']
 have hn1:ln.length<=1000:=hx.1.2.2.2.1
 have hd1:ld.length<=1000:=hx.1.2.2.2.2
 clear ho hnu hpa hpb eAQ eBQ eMQ hk hk0 pb9 hL tpa'
 clear t0 t1 t6 t7 t10 t1' no1
 subst h1
 obtain ⟨a0,n0,c0,rfl,H0,hm0⟩:=hc.1.open
 obtain ⟨a1,n1,c1,rfl,H1,hm1⟩:=hx.1.1.open
 obtain ⟨a2,n2,c2,rfl,H2,hm2⟩:=hx.1.2.1.open
 cases pa'
 case true =>
  have ho:o=false:=by rw [<- ho'];simp
  subst ho
  clear ho'
  obtain rfl:pa=false:=by simpa using wpa
  go_enter Tryz.func34,Tryz.ntmps34
  go_wp2_with fail
  obtain ⟨W0,ap⟩:∃ W0,(w.alloc (.cells #[.int .i64 c.ins,.int .i64 c.rows,.int .i64 c.cols,.int .i64 c.regs,.slice a0 n0 c0] 24)).alloc (.cells #[.int .i64 10,.int .i64 to,.int .i64 xa,.int .i64 xb,.bool ng,.slice a1 n1 c1,.slice a2 n2 c2] 49)=W0:=⟨_,rfl⟩
  have aq:=Lib.hid (show ∀ W',Below W0.heap.size W0 W'->(Bx5 W' w.heap.size (.int .i64 c.ins) (.int .i64 c.rows) (.int .i64 c.cols) (.int .i64 c.regs) (.slice a0 n0 c0)/\Bx7 W' (w.heap.size+1) (.int .i64 10) (.int .i64 to) (.int .i64 xa) (.int .i64 xb) (.bool ng) (.slice a1 n1 c1) (.slice a2 n2 c2)) from fun W' hb => by
    refine ⟨bx5 hb ?_ ?_ ?_ ?_ ?_ ?_ ?_ ?_ ?_ ?_,bx7 hb ?_ ?_ ?_ ?_ ?_ ?_ ?_ ?_ ?_ ?_ ?_ ?_ ?_ ?_⟩
    all_goals first|assumption|(rw [<- ap];simp [go_sem]))
  have zb:Below w.heap.size w W0:=by rw [<- ap];exact bS (bN _ _) (bN _ _)
  rw [ap]
  clear ap
  have i0:=hc.to zb
  have i1:=hx.to zb
  have i2:=hu.to zb
  have gb:Below W0.heap.size W0 W0:=Below.refl _ _
  obtain ⟨⟨z0,ae,af,ah,az,aA,ai,ak,al,aE,aF⟩,⟨z1,am,an,aw,aT,aU,aV,aW,aB,aC,aD,aX,aY,aZ,a9⟩⟩:=aq.out _ gb
  go_wp2_with fail
  refine (ref25_regs_k _ (1) _ Hk.out).mono ?_
  rintro e w1 ⟨rfl,rfl⟩
  go_wp2_with fail
  refine (ref25_in _ L xa _ (i2.to gb) HL.out _ Hpa.out).mono ?_
  rintro e w2 ⟨rfl,rfl⟩
  go_wp2_with fail
  refine (ref25_in _ L xb _ (i2.to gb) HL.out _ Hpb.out).mono ?_
  rintro e w3 ⟨rfl,rfl⟩
  go_wp2_with fail
  go_ret
  exact ⟨rfl,bS zb gb⟩
 case false =>
  obtain rfl:pa=true:=by simpa using wpa
  cases yb
  case true =>
   have ho:o=false:=by rw [<- ho'];simp
   subst ho
   clear ho'
   go_enter Tryz.func34,Tryz.ntmps34
   go_wp2_with fail
   obtain ⟨W0,ap⟩:∃ W0,(w.alloc (.cells #[.int .i64 c.ins,.int .i64 c.rows,.int .i64 c.cols,.int .i64 c.regs,.slice a0 n0 c0] 24)).alloc (.cells #[.int .i64 10,.int .i64 to,.int .i64 xa,.int .i64 xb,.bool ng,.slice a1 n1 c1,.slice a2 n2 c2] 49)=W0:=⟨_,rfl⟩
   have aq:=Lib.hid (show ∀ W',Below W0.heap.size W0 W'->(Bx5 W' w.heap.size (.int .i64 c.ins) (.int .i64 c.rows) (.int .i64 c.cols) (.int .i64 c.regs) (.slice a0 n0 c0)/\Bx7 W' (w.heap.size+1) (.int .i64 10) (.int .i64 to) (.int .i64 xa) (.int .i64 xb) (.bool ng) (.slice a1 n1 c1) (.slice a2 n2 c2)) from fun W' hb => by
     refine ⟨bx5 hb ?_ ?_ ?_ ?_ ?_ ?_ ?_ ?_ ?_ ?_,bx7 hb ?_ ?_ ?_ ?_ ?_ ?_ ?_ ?_ ?_ ?_ ?_ ?_ ?_ ?_⟩
     all_goals first|assumption|(rw [<- ap];simp [go_sem]))
   have zb:Below w.heap.size w W0:=by rw [<- ap];exact bS (bN _ _) (bN _ _)
   rw [ap]
   clear ap
   have i0:=hc.to zb
   have i1:=hx.to zb
   have i2:=hu.to zb
   have gb:Below W0.heap.size W0 W0:=Below.refl _ _
   obtain ⟨⟨z0,ae,af,ah,az,aA,ai,ak,al,aE,aF⟩,⟨z1,am,an,aw,aT,aU,aV,aW,aB,aC,aD,aX,aY,aZ,a9⟩⟩:=aq.out _ gb
   go_wp2_with fail
   refine (ref25_regs_k _ (1) _ Hk.out).mono ?_
   rintro e w1 ⟨rfl,rfl⟩
   go_wp2_with fail
   refine (ref25_in _ L xa _ (i2.to gb) HL.out _ Hpa.out).mono ?_
   rintro e w2 ⟨rfl,rfl⟩
   go_wp2_with fail
   refine (ref25_in _ L xb _ (i2.to gb) HL.out _ Hpb.out).mono ?_
   rintro e w3 ⟨rfl,rfl⟩
   go_wp2_with fail
   go_ret
   exact ⟨rfl,bS zb gb⟩
  case false =>
   cases u1
   case true =>
    have ho:o=false:=by rw [<- ho'];simp
    subst ho
    clear ho'
    go_enter Tryz.func34,Tryz.ntmps34
    go_wp2_with fail
    obtain ⟨W0,ap⟩:∃ W0,(w.alloc (.cells #[.int .i64 c.ins,.int .i64 c.rows,.int .i64 c.cols,.int .i64 c.regs,.slice a0 n0 c0] 24)).alloc (.cells #[.int .i64 10,.int .i64 to,.int .i64 xa,.int .i64 xb,.bool ng,.slice a1 n1 c1,.slice a2 n2 c2] 49)=W0:=⟨_,rfl⟩
    have aq:=Lib.hid (show ∀ W',Below W0.heap.size W0 W'->(Bx5 W' w.heap.size (.int .i64 c.ins) (.int .i64 c.rows) (.int .i64 c.cols) (.int .i64 c.regs) (.slice a0 n0 c0)/\Bx7 W' (w.heap.size+1) (.int .i64 10) (.int .i64 to) (.int .i64 xa) (.int .i64 xb) (.bool ng) (.slice a1 n1 c1) (.slice a2 n2 c2)) from fun W' hb => by
      refine ⟨bx5 hb ?_ ?_ ?_ ?_ ?_ ?_ ?_ ?_ ?_ ?_,bx7 hb ?_ ?_ ?_ ?_ ?_ ?_ ?_ ?_ ?_ ?_ ?_ ?_ ?_ ?_⟩
      all_goals first|assumption|(rw [<- ap];simp [go_sem]))
    have zb:Below w.heap.size w W0:=by rw [<- ap];exact bS (bN _ _) (bN _ _)
    rw [ap]
    clear ap
    have i0:=hc.to zb
    have i1:=hx.to zb
    have i2:=hu.to zb
    have gb:Below W0.heap.size W0 W0:=Below.refl _ _
    obtain ⟨⟨z0,ae,af,ah,az,aA,ai,ak,al,aE,aF⟩,⟨z1,am,an,aw,aT,aU,aV,aW,aB,aC,aD,aX,aY,aZ,a9⟩⟩:=aq.out _ gb
    go_wp2_with fail
    refine (ref25_regs_k _ (1) _ Hk.out).mono ?_
    rintro e w1 ⟨rfl,rfl⟩
    go_wp2_with fail
    refine (ref25_in _ L xa _ (i2.to gb) HL.out _ Hpa.out).mono ?_
    rintro e w2 ⟨rfl,rfl⟩
    go_wp2_with fail
    refine (ref25_in _ L xb _ (i2.to gb) HL.out _ Hpb.out).mono ?_
    rintro e w3 ⟨rfl,rfl⟩
    go_wp2_with fail
    go_ret
    exact ⟨rfl,bS zb gb⟩
   case false =>
    cases u2
    case true =>
     have ho:o=false:=by rw [<- ho'];simp
     subst ho
     clear ho'
     go_enter Tryz.func34,Tryz.ntmps34
     go_wp2_with fail
     obtain ⟨W0,ap⟩:∃ W0,(w.alloc (.cells #[.int .i64 c.ins,.int .i64 c.rows,.int .i64 c.cols,.int .i64 c.regs,.slice a0 n0 c0] 24)).alloc (.cells #[.int .i64 10,.int .i64 to,.int .i64 xa,.int .i64 xb,.bool ng,.slice a1 n1 c1,.slice a2 n2 c2] 49)=W0:=⟨_,rfl⟩
     have aq:=Lib.hid (show ∀ W',Below W0.heap.size W0 W'->(Bx5 W' w.heap.size (.int .i64 c.ins) (.int .i64 c.rows) (.int .i64 c.cols) (.int .i64 c.regs) (.slice a0 n0 c0)/\Bx7 W' (w.heap.size+1) (.int .i64 10) (.int .i64 to) (.int .i64 xa) (.int .i64 xb) (.bool ng) (.slice a1 n1 c1) (.slice a2 n2 c2)) from fun W' hb => by
       refine ⟨bx5 hb ?_ ?_ ?_ ?_ ?_ ?_ ?_ ?_ ?_ ?_,bx7 hb ?_ ?_ ?_ ?_ ?_ ?_ ?_ ?_ ?_ ?_ ?_ ?_ ?_ ?_⟩
       all_goals first|assumption|(rw [<- ap];simp [go_sem]))
     have zb:Below w.heap.size w W0:=by rw [<- ap];exact bS (bN _ _) (bN _ _)
     rw [ap]
     clear ap
     have i0:=hc.to zb
     have i1:=hx.to zb
     have i2:=hu.to zb
     have gb:Below W0.heap.size W0 W0:=Below.refl _ _
     obtain ⟨⟨z0,ae,af,ah,az,aA,ai,ak,al,aE,aF⟩,⟨z1,am,an,aw,aT,aU,aV,aW,aB,aC,aD,aX,aY,aZ,a9⟩⟩:=aq.out _ gb
     go_wp2_with fail
     refine (ref25_regs_k _ (1) _ Hk.out).mono ?_
     rintro e w1 ⟨rfl,rfl⟩
     go_wp2_with fail
     refine (ref25_in _ L xa _ (i2.to gb) HL.out _ Hpa.out).mono ?_
     rintro e w2 ⟨rfl,rfl⟩
     go_wp2_with fail
     refine (ref25_in _ L xb _ (i2.to gb) HL.out _ Hpb.out).mono ?_
     rintro e w3 ⟨rfl,rfl⟩
     go_wp2_with fail
     go_ret
     exact ⟨rfl,bS zb gb⟩
    case false =>
     have ho:nu=o:=by rw [<- ho'];cases nu <;> rfl
     subst ho
     clear ho'
     have Ho:=Lib.hid (show (ng == false && decide (ln=[]) && decide (ld=[]))=nu by rw [<- numOk_not (op:=10) (to:=to) (xa:=xa) (xb:=xb) (by decide)];exact Hnu.out)
     go_enter Tryz.func34,Tryz.ntmps34
     go_wp2_with fail
     obtain ⟨W0,ap⟩:∃ W0,(w.alloc (.cells #[.int .i64 c.ins,.int .i64 c.rows,.int .i64 c.cols,.int .i64 c.regs,.slice a0 n0 c0] 24)).alloc (.cells #[.int .i64 10,.int .i64 to,.int .i64 xa,.int .i64 xb,.bool ng,.slice a1 n1 c1,.slice a2 n2 c2] 49)=W0:=⟨_,rfl⟩
     have aq:=Lib.hid (show ∀ W',Below W0.heap.size W0 W'->(Bx5 W' w.heap.size (.int .i64 c.ins) (.int .i64 c.rows) (.int .i64 c.cols) (.int .i64 c.regs) (.slice a0 n0 c0)/\Bx7 W' (w.heap.size+1) (.int .i64 10) (.int .i64 to) (.int .i64 xa) (.int .i64 xb) (.bool ng) (.slice a1 n1 c1) (.slice a2 n2 c2)) from fun W' hb => by
       refine ⟨bx5 hb ?_ ?_ ?_ ?_ ?_ ?_ ?_ ?_ ?_ ?_,bx7 hb ?_ ?_ ?_ ?_ ?_ ?_ ?_ ?_ ?_ ?_ ?_ ?_ ?_ ?_⟩
       all_goals first|assumption|(rw [<- ap];simp [go_sem]))
     have zb:Below w.heap.size w W0:=by rw [<- ap];exact bS (bN _ _) (bN _ _)
     rw [ap]
     clear ap
     have i0:=hc.to zb
     have i1:=hx.to zb
     have i2:=hu.to zb
     have gb:Below W0.heap.size W0 W0:=Below.refl _ _
     obtain ⟨⟨z0,ae,af,ah,az,aA,ai,ak,al,aE,aF⟩,⟨z1,am,an,aw,aT,aU,aV,aW,aB,aC,aD,aX,aY,aZ,a9⟩⟩:=aq.out _ gb
     go_wp2_with fail
     refine (ref25_regs_k _ (1) _ Hk.out).mono ?_
     rintro e w1 ⟨rfl,rfl⟩
     go_wp2_with fail
     refine (ref25_in _ L xa _ (i2.to gb) HL.out _ Hpa.out).mono ?_
     rintro e w2 ⟨rfl,rfl⟩
     go_wp2_with fail
     refine (ref25_in _ L xb _ (i2.to gb) HL.out _ Hpb.out).mono ?_
     rintro e w3 ⟨rfl,rfl⟩
     go_wp2_with fail
     refine (ziy ng _ _ ln ld false _ _ [] [] _ ((i1.to gb)).1.isF ⟨Rd.nil _,Rd.nil _⟩ _ Ho.out).mono ?_
     clear ae ai af ak ah al az aE aA aF am aB an aC aw aD aT aX aU aY aV aZ aW a9
     rintro e w4 ⟨rfl,di⟩
     replace gb:=bS gb di
     obtain ⟨⟨z0,ae,af,ah,az,aA,ai,ak,al,aE,aF⟩,⟨z1,am,an,aw,aT,aU,aV,aW,aB,aC,aD,aX,aY,aZ,a9⟩⟩:=aq.out _ gb
     go_wp2_with fail
     go_ret
     exact ⟨rfl,bS zb gb⟩

theorem ref25_fields (c:Cd) (v:Value) (op to xa xb:Int) (ng:Bool) (vn vd:Value) (ln ld:List Nat) (u:Value) (L:List Int) (w:World) (hc:IsC w c v) (hx:IsX w ⟨op,to,xa,xb,⟨ng,ln,ld⟩⟩ vn vd) (hu:RdI w u L) (hL:L.length<=100000) (hr:1<=c.rows/\c.rows<=40) (hcl:1<=c.cols/\c.cols<=40) (o:Bool) (ho:zA c L ⟨op,to,xa,xb,⟨ng,ln,ld⟩⟩=o) :
  Calls Tryz.prog 34 #[aggC c v,.agg #[.int .i64 op,.int .i64 to,.int .i64 xa,.int .i64 xb,.bool ng,vn,vd],u] w (fun e w' => e=.returned (.bool o)/\Below w.heap.size w w'):=by
 by_cases h0:0<=zi op
 ·rcases zabc h0 with (h|h)|h|h|h|h
  ·exact ref25_fields_zero c v op to xa xb ng vn vd ln ld u L w hc hx hu hL hr hcl h o ho
  ·exact ref25_fields_one c v op to xa xb ng vn vd ln ld u L w hc hx hu hL hr hcl h o ho
  ·exact ref25_fields_two c v op to xa xb ng vn vd ln ld u L w hc hx hu hL hr hcl h o ho
  ·exact ref25_fields_six c v op to xa xb ng vn vd ln ld u L w hc hx hu hL hr hcl h o ho
  ·exact ref25_fields_pow c v op to xa xb ng vn vd ln ld u L w hc hx hu hL hr hcl h o ho
  ·exact ref25_fields_ten c v op to xa xb ng vn vd ln ld u L w hc hx hu hL hr hcl h o ho
 ·exact ref25_fields_no c v op to xa xb ng vn vd ln ld u L w hc hx hu hL hr hcl h0 o ho

end Go.Proofs.YtkjcdnlpjldhaaaGreat

