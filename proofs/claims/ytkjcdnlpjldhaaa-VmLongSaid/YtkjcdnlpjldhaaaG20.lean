/-
  The texts Vm1, Vm2, merged.
-/
import Derived.Test.YtkjcdnlpjldhaaaG18
import Derived.Test.YtkjcdnlpjldhaaaG10
import Derived.Deep.RegionHeld3
set_option linter.unusedVariables false
set_option linter.unusedSimpArgs false
set_option maxRecDepth 100000
set_option maxHeartbeats 400000000
namespace Go.Proofs.Ytkjcdnlpjldhaaa
open Go.RowKit Tw
attribute [local go_sem ↓] Go.wp_at_zero Go.wp_at_succ

theorem zeQ {fn:Func} {k j:Tmp} (h:fn.results=#[.cell k 58,.tmp j]) (tmps:Array Value) (w:World) (b:Nat) (x y z:Value) (hk:tmps.getD k undef=.pointer (some ⟨b,0,none⟩))
  (t:Tri w b x y z):(results fn tmps).run Try.prog w=.ok (.tuple #[.agg #[x,y,z],tmps.getD j undef]) w:=by
 have hl:(loadVar 58 ⟨b,0,none⟩).run Try.prog w=.ok (.agg #[x,y,z]) w:=by
  simp [go_sem,t.1,t.2.1,t.2.2.1]
 have hk':tmps[k]?.getD undef=.pointer (some ⟨b,0,none⟩):=by simpa using hk
 simp [results,h,asAddr,Sem.run_bind,hl,Result.andThen,hk']

theorem vm_shape (op:Int) (w:World)  :
  Calls Try.prog 16 #[.int .i64 op] w (fun e w' => e=.returned (.tuple #[.agg #[.bool (decide (1<=zh op)),.bool (decide (zh op=2)),.bool (decide (op=7))],.bool (decide (0<=zh op))])/\Below w.heap.size w w'):=by
 by_cases h:0<=op/\op<=10
 ·have h':op=0\/op=1\/op=2\/op=3\/op=4\/op=5\/op=6\/op=7\/op=8\/op=9\/op=10:=by omega
  clear h
  rcases h' with rfl|rfl|rfl|rfl|rfl|rfl|rfl|rfl|rfl|rfl|rfl
  all_goals
   go_enter Try.func16,Try.ntmps16
   go_wp2_with fail
   exact bodyPost_ret (zeQ Try.results16 _ _ _ _ _ _ rfl (zd _ _ _ _ _)) rfl ⟨rfl,bN _ _⟩
 ·have e:zh op=-1:=zju h
  rw [e]
  have t0:(op == 0)=false:=by simp;omega
  have t1:(op == 1)=false:=by simp;omega
  have t2:(op == 2)=false:=by simp;omega
  have t3:(op == 3)=false:=by simp;omega
  have t4:(op == 4)=false:=by simp;omega
  have t5:(op == 5)=false:=by simp;omega
  have t6:(op == 6)=false:=by simp;omega
  have t7:(op == 7)=false:=by simp;omega
  have t8:(op == 8)=false:=by simp;omega
  have t9:(op == 9)=false:=by simp;omega
  have t10:(op == 10)=false:=by simp;omega
  have t11:decide (op=7)=false:=by simp;omega
  rw [t11]
  clear h
  go_enter Try.func16,Try.ntmps16
  go_wp2_with fail
  exact bodyPost_ret (zeQ Try.results16 _ _ _ _ _ _ rfl (zd _ _ _ _ _)) rfl ⟨rfl,bN _ _⟩

theorem zg (is:Bool) (r:Int) (g n:Nat) (L:List Int) (w:World) (hrow:zaA w g n (fun i => .bool (decide ((i:Int) ∈ L)))) (hL:∀ x ∈ L,0<=x/\x<(n:Int)) (hn:n<=100000) (o:Bool) (ho:(if is=true then decide (r ∈ L) else decide (r=0))=o) :
  Calls Try.prog 27 #[.bool is,.int .i64 r,.slice (some ⟨g,0,none⟩) n n] w (fun e w' => e=.returned (.bool o)/\w=w'):=by
 cases is with
 | false =>
  rw [if_neg (by decide)] at ho
  have t:(r == 0)=o:=by rw [<- ho];by_cases h:r=0 <;> simp [h]
  clear ho
  go_enter Try.func27,Try.ntmps27
  go_wp2_with fail
  go_ret
  exact ⟨rfl,rfl⟩
 | true =>
  rw [if_pos rfl] at ho
  by_cases h0:0<=r
  ·by_cases h1:r<(n:Int)
   ·obtain ⟨R,rfl⟩:=Int.eq_ofNat_of_zero_le h0
    have hc:=(hrow.2 R (by omega)).1
    simp only [ho] at hc
    clear hrow hL ho
    go_enter Try.func27,Try.ntmps27
    go_wp2_with fail
    go_ret
    exact ⟨rfl,rfl⟩
   ·have:o=false:=by rw [<- ho];exact decide_eq_false (fun k => h1 (hL r k).2)
    subst this
    clear hrow hL ho
    go_enter Try.func27,Try.ntmps27
    go_wp2_with fail
    go_ret
    exact ⟨rfl,rfl⟩
  ·have:o=false:=by rw [<- ho];exact decide_eq_false (fun k => h0 (hL r k).1)
   subst this
   clear hrow hL ho
   go_enter Try.func27,Try.ntmps27
   go_wp2_with fail
   go_ret
   exact ⟨rfl,rfl⟩

theorem zff (op to xa xb:Int) (ng:Bool) (vn vd:Value) (ln ld:List Nat)  (w:World) (hx:IsX w ⟨op,to,xa,xb,⟨ng,ln,ld⟩⟩ vn vd) (h1:op≠1) (o:Bool) (ho:zbo ⟨op,to,xa,xb,⟨ng,ln,ld⟩⟩=o) :
  Calls Try.prog 26 #[.agg #[.int .i64 op,.int .i64 to,.int .i64 xa,.int .i64 xb,.bool ng,vn,vd]] w (fun e w' => e=.returned (.bool o)/\Below w.heap.size w w'):=by
 have t:(op != 1)=true:=by simp;exact h1
 have Ho:=Lib.hid ho
 clear ho
 obtain ⟨a0,n0,c0,rfl,H0,hm0⟩:=hx.1.1.open
 obtain ⟨a1,n1,c1,rfl,H1,hm1⟩:=hx.1.2.1.open
 have ho:=Ho.out
 unfold zbo at ho
 rw [if_neg h1] at ho
 simp only [H0.out,H1.out] at ho
 clear Ho h1
 have q0:∃ b,decide (n0=0)=b:=⟨_,rfl⟩
 have q1:∃ b,decide (n1=0)=b:=⟨_,rfl⟩
 obtain ⟨b0,q0⟩:=q0
 obtain ⟨b1,q1⟩:=q1
 obtain ⟨bg,tg⟩:∃ b,(!ng)=b:=⟨_,rfl⟩
 rw [q0,q1,tg] at ho
 have t0:((n0:Int) == 0)=b0:=by rw [zbI,q0]
 have t1:((n1:Int) == 0)=b1:=by rw [zbI,q1]
 clear q0 q1
 subst ho
 cases bg <;> cases b0 <;> cases b1
 all_goals
  go_enter Try.func26,Try.ntmps26
  go_wp2_with fail
  obtain ⟨W0,aq⟩:∃ W0,w.alloc (.cells #[.int .i64 op,.int .i64 to,.int .i64 xa,.int .i64 xb,.bool ng,.slice a0 n0 c0,.slice a1 n1 c1] 27)=W0:=⟨_,rfl⟩
  have al:=Lib.hid (show ∀ W',Below W0.heap.size W0 W'->(Bx7 W' w.heap.size (.int .i64 op) (.int .i64 to) (.int .i64 xa) (.int .i64 xb) (.bool ng) (.slice a0 n0 c0) (.slice a1 n1 c1)) from fun W' hb => by
    apply bx7 hb
    all_goals first|assumption|(rw [<- aq];simp [go_sem]))
  have zb:Below w.heap.size w W0:=by rw [<- aq];exact bN _ _
  rw [aq]
  clear aq
  have i0:=hx.to zb
  have gb:Below W0.heap.size W0 W0:=Below.refl _ _
  obtain ⟨z0,ae,af,ag,am,an,aM,aN,ah,ai,ak,au,aw,aR,aS⟩:=al.out _ gb
  go_wp2_with fail
  go_ret
  exact ⟨rfl,bS zb gb⟩

theorem zee (op to xa xb:Int) (ng:Bool) (vn vd:Value) (ln ld:List Nat)  (w:World) (hx:IsX w ⟨op,to,xa,xb,⟨ng,ln,ld⟩⟩ vn vd) (h1:op=1) (o:Bool) (ho:zbo ⟨op,to,xa,xb,⟨ng,ln,ld⟩⟩=o) :
  Calls Try.prog 26 #[.agg #[.int .i64 op,.int .i64 to,.int .i64 xa,.int .i64 xb,.bool ng,vn,vd]] w (fun e w' => e=.returned (.bool o)/\Below w.heap.size w w'):=by
 have t:(op != 1)=false:=by simp;exact h1
 have hn:ln.length<=4097:=hx.1.2.2.2.1
 have hd:ld.length<=4097:=hx.1.2.2.2.2
 unfold zbo at ho
 rw [if_pos h1] at ho
 clear h1
 obtain ⟨r,hr⟩:∃ r,zdE ng ln ld (Rt.num ⟨ng,ln,ld⟩)=r:=⟨_,rfl⟩
 obtain ⟨b0,q0⟩:∃ b,decide ((zbH (val ln)).length<=40)=b:=⟨_,rfl⟩
 obtain ⟨b1,q1⟩:∃ b,decide ((zbH (val ld)).length<=40)=b:=⟨_,rfl⟩
 have ho':(r && b0 && b1)=o:=by rw [<- hr,<- q0,<- q1];exact ho
 have Hr:=Lib.hid hr
 have t0:decide ((zdb (val ln):Int)<=40)=b0:=by rw [<- q0];unfold zdb;apply decide_eq_decide.2;omega
 have t1:decide ((zdb (val ld):Int)<=40)=b1:=by rw [<- q1];unfold zdb;apply decide_eq_decide.2;omega
 clear ho hr q0 q1
 subst ho'
 obtain ⟨a0,n0,c0,rfl,H0,hm0⟩:=hx.1.1.open
 obtain ⟨a1,n1,c1,rfl,H1,hm1⟩:=hx.1.2.1.open
 cases r
 case false =>
  go_enter Try.func26,Try.ntmps26
  go_wp2_with fail
  obtain ⟨W0,aq⟩:∃ W0,w.alloc (.cells #[.int .i64 op,.int .i64 to,.int .i64 xa,.int .i64 xb,.bool ng,.slice a0 n0 c0,.slice a1 n1 c1] 27)=W0:=⟨_,rfl⟩
  have al:=Lib.hid (show ∀ W',Below W0.heap.size W0 W'->(Bx7 W' w.heap.size (.int .i64 op) (.int .i64 to) (.int .i64 xa) (.int .i64 xb) (.bool ng) (.slice a0 n0 c0) (.slice a1 n1 c1)) from fun W' hb => by
    apply bx7 hb
    all_goals first|assumption|(rw [<- aq];simp [go_sem]))
  have zb:Below w.heap.size w W0:=by rw [<- aq];exact bN _ _
  rw [aq]
  clear aq
  have i0:=hx.to zb
  have gb:Below W0.heap.size W0 W0:=Below.refl _ _
  obtain ⟨z0,ae,af,ag,am,an,aM,aN,ah,ai,ak,au,aw,aR,aS⟩:=al.out _ gb
  go_wp2_with fail
  refine (zcq ng _ _ ln ld _ ((i0.to gb)).1 false Hr.out).mono ?_
  clear ae ah af ai ag ak am au an aw aM aR aN aS
  rintro e w1 ⟨rfl,aT⟩
  replace gb:=bS gb aT
  obtain ⟨z0,ae,af,ag,am,an,aM,aN,ah,ai,ak,au,aw,aR,aS⟩:=al.out _ gb
  go_wp2_with fail
  go_ret
  exact ⟨rfl,bS zb gb⟩
 case true =>
  cases b0
  case false =>
   go_enter Try.func26,Try.ntmps26
   go_wp2_with fail
   obtain ⟨W0,aq⟩:∃ W0,w.alloc (.cells #[.int .i64 op,.int .i64 to,.int .i64 xa,.int .i64 xb,.bool ng,.slice a0 n0 c0,.slice a1 n1 c1] 27)=W0:=⟨_,rfl⟩
   have al:=Lib.hid (show ∀ W',Below W0.heap.size W0 W'->(Bx7 W' w.heap.size (.int .i64 op) (.int .i64 to) (.int .i64 xa) (.int .i64 xb) (.bool ng) (.slice a0 n0 c0) (.slice a1 n1 c1)) from fun W' hb => by
     apply bx7 hb
     all_goals first|assumption|(rw [<- aq];simp [go_sem]))
   have zb:Below w.heap.size w W0:=by rw [<- aq];exact bN _ _
   rw [aq]
   clear aq
   have i0:=hx.to zb
   have gb:Below W0.heap.size W0 W0:=Below.refl _ _
   obtain ⟨z0,ae,af,ag,am,an,aM,aN,ah,ai,ak,au,aw,aR,aS⟩:=al.out _ gb
   go_wp2_with fail
   refine (zcq ng _ _ ln ld _ ((i0.to gb)).1 true Hr.out).mono ?_
   clear ae ah af ai ag ak am au an aw aM aR aN aS
   rintro e w1 ⟨rfl,aT⟩
   replace gb:=bS gb aT
   obtain ⟨z0,ae,af,ag,am,an,aM,aN,ah,ai,ak,au,aw,aR,aS⟩:=al.out _ gb
   go_wp2_with fail
   refine (zck _ ln _ ((i0.to gb)).1.1 (by omega)).mono ?_
   clear ae ah af ai ag ak am au an aw aM aR aN aS
   rintro e w2 ⟨rfl,aL⟩
   replace gb:=bS gb aL
   obtain ⟨z0,ae,af,ag,am,an,aM,aN,ah,ai,ak,au,aw,aR,aS⟩:=al.out _ gb
   go_wp2_with fail
   go_ret
   exact ⟨rfl,bS zb gb⟩
  case true =>
   cases b1
   all_goals
    go_enter Try.func26,Try.ntmps26
    go_wp2_with fail
    obtain ⟨W0,aq⟩:∃ W0,w.alloc (.cells #[.int .i64 op,.int .i64 to,.int .i64 xa,.int .i64 xb,.bool ng,.slice a0 n0 c0,.slice a1 n1 c1] 27)=W0:=⟨_,rfl⟩
    have al:=Lib.hid (show ∀ W',Below W0.heap.size W0 W'->(Bx7 W' w.heap.size (.int .i64 op) (.int .i64 to) (.int .i64 xa) (.int .i64 xb) (.bool ng) (.slice a0 n0 c0) (.slice a1 n1 c1)) from fun W' hb => by
      apply bx7 hb
      all_goals first|assumption|(rw [<- aq];simp [go_sem]))
    have zb:Below w.heap.size w W0:=by rw [<- aq];exact bN _ _
    rw [aq]
    clear aq
    have i0:=hx.to zb
    have gb:Below W0.heap.size W0 W0:=Below.refl _ _
    obtain ⟨z0,ae,af,ag,am,an,aM,aN,ah,ai,ak,au,aw,aR,aS⟩:=al.out _ gb
    go_wp2_with fail
    refine (zcq ng _ _ ln ld _ ((i0.to gb)).1 true Hr.out).mono ?_
    clear ae ah af ai ag ak am au an aw aM aR aN aS
    rintro e w1 ⟨rfl,aT⟩
    replace gb:=bS gb aT
    obtain ⟨z0,ae,af,ag,am,an,aM,aN,ah,ai,ak,au,aw,aR,aS⟩:=al.out _ gb
    go_wp2_with fail
    refine (zck _ ln _ ((i0.to gb)).1.1 (by omega)).mono ?_
    clear ae ah af ai ag ak am au an aw aM aR aN aS
    rintro e w2 ⟨rfl,aL⟩
    replace gb:=bS gb aL
    obtain ⟨z0,ae,af,ag,am,an,aM,aN,ah,ai,ak,au,aw,aR,aS⟩:=al.out _ gb
    go_wp2_with fail
    refine (zck _ ld _ ((i0.to gb)).1.2.1 (by omega)).mono ?_
    clear ae ah af ai ag ak am au an aw aM aR aN aS
    rintro e w3 ⟨rfl,bM⟩
    replace gb:=bS gb bM
    obtain ⟨z0,ae,af,ag,am,an,aM,aN,ah,ai,ak,au,aw,aR,aS⟩:=al.out _ gb
    go_wp2_with fail
    go_ret
    exact ⟨rfl,bS zb gb⟩

theorem zz (op to xa xb:Int) (ng:Bool) (vn vd:Value) (ln ld:List Nat) (w:World) (hx:IsX w ⟨op,to,xa,xb,⟨ng,ln,ld⟩⟩ vn vd) (o:Bool) (ho:zbo ⟨op,to,xa,xb,⟨ng,ln,ld⟩⟩=o) :
  Calls Try.prog 26 #[.agg #[.int .i64 op,.int .i64 to,.int .i64 xa,.int .i64 xb,.bool ng,vn,vd]] w (fun e w' => e=.returned (.bool o)/\Below w.heap.size w w'):=by
 by_cases h1:op=1
 ·exact zee _ _ _ _ _ _ _ _ _ w hx h1 o ho
 ·exact zff _ _ _ _ _ _ _ _ _ w hx h1 o ho

end Go.Proofs.Ytkjcdnlpjldhaaa


namespace Go.Proofs.Ytkjcdnlpjldhaaa
open Go.RowKit Tw
attribute [local go_sem ↓] Go.wp_at_zero Go.wp_at_succ

theorem zbd {r c:Int} (h1:1<=r/\r<=40) (h2:1<=c/\c<=40):1<=r*c/\r*c<=1600:=by
 have a:=Int.mul_le_mul h1.1 h2.1 (by decide) (by omega)
 have b:=Int.mul_le_mul h1.2 h2.2 (by omega) (by decide)
 exact ⟨by simpa using a,by simpa using b⟩

theorem zcU {c:Cd} {L:List Int} {x:Ins} (hk:0<=zh x.op) (hn:zbo x=true):zw c L x=(aOk c L x && bOk L x && decide (0<=x.to) && decide (x.to<zJ c x)):=by
 unfold zw
 rw [decide_eq_true hk,hn,Bool.true_and,Bool.true_and,Bool.decide_and,Bool.and_assoc,Bool.and_assoc,Bool.and_assoc]

theorem aOk_zero {c:Cd} {L:List Int} {x:Ins} (h:x.op=0):aOk c L x=(decide (0<=x.a) && decide (x.a<c.ins)):=by
 unfold aOk;rw [if_pos h,Bool.decide_and]

theorem zfB {c:Cd} {L:List Int} {x:Ins} (hk:0<=zh x.op) (h:x.op≠0):aOk c L x=(if decide (1<=zh x.op)=true then decide (x.a ∈ L) else decide (x.a=0)):=by
 unfold aOk
 rw [if_neg h]
 by_cases h1:x.op=1
 ·rw [if_pos h1,h1];rfl
 ·rw [if_neg h1,if_pos]
  rcases zbp _ hk with e|e|e|e|e|e|e|e|e|e|e <;> first|exact absurd e h|exact absurd e h1|(rw [e];decide)

theorem bOk_pow {L:List Int} {x:Ins} (h:x.op=7):bOk L x=(decide (-21<=x.b) && decide (x.b<=21)):=by
 unfold bOk;rw [if_pos h,Bool.decide_and]

theorem zfC {L:List Int} {x:Ins} (h:x.op≠7):bOk L x=(if decide (zh x.op=2)=true then decide (x.b ∈ L) else decide (x.b=0)):=by
 unfold bOk
 rw [if_neg h]
 by_cases h2:zh x.op=2
 ·rw [if_pos h2,if_pos (decide_eq_true h2)]
 ·rw [if_neg h2,if_neg (by simp [h2])]

theorem zl (op:Int) (sa sb sp ok:Bool) (w:World) (h1:decide (1<=zh op)=sa) (h2:decide (zh op=2)=sb) (h3:decide (op=7)=sp) (h4:decide (0<=zh op)=ok) :
  Calls Try.prog 16 #[.int .i64 op] w (fun e w' => e=.returned (.tuple #[.agg #[.bool sa,.bool sb,.bool sp],.bool ok])/\Below w.heap.size w w'):=by
 subst h1 h2 h3 h4
 exact vm_shape op w

theorem zho (c:Cd) (v:Value) (op to xa xb:Int) (ng:Bool) (vn vd:Value) (ln ld:List Nat) (g n:Nat) (L:List Int) (w:World) (hc:IsC w c v) (hx:IsX w ⟨op,to,xa,xb,⟨ng,ln,ld⟩⟩ vn vd) (hrow:zaA w g n (fun i => .bool (decide ((i:Int) ∈ L)))) (hL:∀ x ∈ L,0<=x/\x<(n:Int)) (hn:n<=100000) (hnr:(n:Int)=c.regs) (hr:1<=c.rows/\c.rows<=40) (hcl:1<=c.cols/\c.cols<=40) (h0:¬ 0<=zh op) (o:Bool) (ho:zw c L ⟨op,to,xa,xb,⟨ng,ln,ld⟩⟩=o) :
  Calls Try.prog 15 #[aggC c v,.agg #[.int .i64 op,.int .i64 to,.int .i64 xa,.int .i64 xb,.bool ng,vn,vd],.slice (some ⟨g,0,none⟩) n n] w (fun e w' => e=.returned (.bool o)/\Below w.heap.size w w'):=by
 have ho':o=false:=by
  rw [<- ho];unfold zw
  rw [decide_eq_false h0];rfl
 obtain ⟨sa,hsa⟩:∃ b,decide (1<=zh op)=b:=⟨_,rfl⟩
 obtain ⟨sb,hsb⟩:∃ b,decide (zh op=2)=b:=⟨_,rfl⟩
 obtain ⟨sp,hsp⟩:∃ b,decide (op=7)=b:=⟨_,rfl⟩
 have Hsa:=Lib.hid hsa
 have Hsb:=Lib.hid hsb
 have Hsp:=Lib.hid hsp
 have Hok:=Lib.hid (decide_eq_false h0)
 clear ho hsa hsb hsp h0 hnr hr hcl hL
 subst ho'
 obtain ⟨a0,n0,c0,rfl,H0,hm0⟩:=hc.1.open
 obtain ⟨a1,n1,c1,rfl,H1,hm1⟩:=hx.1.1.open
 obtain ⟨a2,n2,c2,rfl,H2,hm2⟩:=hx.1.2.1.open
 go_enter Try.func15,Try.ntmps15
 go_wp2_with fail
 obtain ⟨W0,aq⟩:∃ W0,(w.alloc (.cells #[.int .i64 c.ins,.int .i64 c.rows,.int .i64 c.cols,.int .i64 c.regs,.slice a0 n0 c0] 30)).alloc (.cells #[.int .i64 op,.int .i64 to,.int .i64 xa,.int .i64 xb,.bool ng,.slice a1 n1 c1,.slice a2 n2 c2] 27)=W0:=⟨_,rfl⟩
 have al:=Lib.hid (show ∀ W',Below W0.heap.size W0 W'->(Bx5 W' w.heap.size (.int .i64 c.ins) (.int .i64 c.rows) (.int .i64 c.cols) (.int .i64 c.regs) (.slice a0 n0 c0)/\Bx7 W' (w.heap.size+1) (.int .i64 op) (.int .i64 to) (.int .i64 xa) (.int .i64 xb) (.bool ng) (.slice a1 n1 c1) (.slice a2 n2 c2)) from fun W' hb => by
   refine ⟨bx5 hb ?_ ?_ ?_ ?_ ?_ ?_ ?_ ?_ ?_ ?_,bx7 hb ?_ ?_ ?_ ?_ ?_ ?_ ?_ ?_ ?_ ?_ ?_ ?_ ?_ ?_⟩
   all_goals first|assumption|(rw [<- aq];simp [go_sem]))
 have zb:Below w.heap.size w W0:=by rw [<- aq];exact bS (bN _ _) (bN _ _)
 rw [aq]
 clear aq
 have i0:=hc.to zb
 have i1:=hx.to zb
 have i2:=hrow.to zb
 have gb:Below W0.heap.size W0 W0:=Below.refl _ _
 obtain ⟨⟨z0,ae,af,ag,am,an,ah,ai,ak,au,aw⟩,⟨z1,aA,aB,aC,a7,a8,bd,be,aD,aE,aF,a9,bc,bf,bh⟩⟩:=al.out _ gb
 go_wp2_with fail
 refine (zl op sa sb sp false _ Hsa.out Hsb.out Hsp.out Hok.out).mono ?_
 clear ae ah af ai ag ak am au an aw aA aD aB aE aC aF a7 a9 a8 bc bd bf be bh
 rintro e w1 ⟨rfl,aT⟩
 replace gb:=bS gb aT
 obtain ⟨⟨z0,ae,af,ag,am,an,ah,ai,ak,au,aw⟩,⟨z1,aA,aB,aC,a7,a8,bd,be,aD,aE,aF,a9,bc,bf,bh⟩⟩:=al.out _ gb
 go_wp2_with fail
 obtain ⟨W1,aK⟩:∃ W1,w1.alloc (.cells #[.bool sa,.bool sb,.bool sp] 58)=W1:=⟨_,rfl⟩
 have hb_W1:Below w1.heap.size w1 W1:=by rw [<- aK];exact bN _ _
 have cw:Hid (W1.heap.size=w1.heap.size+1):=by show _=_;rw [<- aK];simp
 clear ae ah af ai ag ak am au an aw aA aD aB aE aC aF a7 a9 a8 bc bd bf be bh
 replace gb:=bS gb hb_W1
 obtain ⟨⟨z0,ae,af,ag,am,an,ah,ai,ak,au,aw⟩,⟨z1,aA,aB,aC,a7,a8,bd,be,aD,aE,aF,a9,bc,bf,bh⟩⟩:=al.out _ gb
 have bv:W1.cell? ⟨w1.heap.size,0,none⟩=some (.bool sa):=by rw [<- aK];simp [go_sem]
 have bJ:W1.frozen? ⟨w1.heap.size,0,none⟩=false:=by rw [<- aK];simp [go_sem]
 have bw:W1.cell? ⟨w1.heap.size,1,none⟩=some (.bool sb):=by rw [<- aK];simp [go_sem]
 have bK:W1.frozen? ⟨w1.heap.size,1,none⟩=false:=by rw [<- aK];simp [go_sem]
 have bx:W1.cell? ⟨w1.heap.size,2,none⟩=some (.bool sp):=by rw [<- aK];simp [go_sem]
 have bL:W1.frozen? ⟨w1.heap.size,2,none⟩=false:=by rw [<- aK];simp [go_sem]
 have z5:w1.heap.size<W1.heap.size:=by rw [<- aK];simp
 rw [aK]
 clear aK
 replace i0:=i0.to gb
 replace i1:=i1.to gb
 replace i2:=i2.to gb
 replace zb:=bS zb gb
 have b7:=Lib.hid (show ∀ W',Below W1.heap.size W1 W'->(Bx5 W' w.heap.size (.int .i64 c.ins) (.int .i64 c.rows) (.int .i64 c.cols) (.int .i64 c.regs) (.slice a0 n0 c0)/\Bx7 W' (w.heap.size+1) (.int .i64 op) (.int .i64 to) (.int .i64 xa) (.int .i64 xb) (.bool ng) (.slice a1 n1 c1) (.slice a2 n2 c2)/\Bx3 W' w1.heap.size (.bool sa) (.bool sb) (.bool sp)) from fun W' hb => by
   refine ⟨bx5 hb ?_ ?_ ?_ ?_ ?_ ?_ ?_ ?_ ?_ ?_,bx7 hb ?_ ?_ ?_ ?_ ?_ ?_ ?_ ?_ ?_ ?_ ?_ ?_ ?_ ?_,bx3 hb ?_ ?_ ?_ ?_ ?_ ?_⟩
   all_goals first|assumption|assumption)
 replace gb:=Below.refl W1.heap.size W1
 go_wp2_with fail
 go_ret
 exact ⟨rfl,bS zb gb⟩

theorem zgh (c:Cd) (v:Value) (op to xa xb:Int) (ng:Bool) (vn vd:Value) (ln ld:List Nat) (g n:Nat) (L:List Int) (w:World) (hc:IsC w c v) (hx:IsX w ⟨op,to,xa,xb,⟨ng,ln,ld⟩⟩ vn vd) (hrow:zaA w g n (fun i => .bool (decide ((i:Int) ∈ L)))) (hL:∀ x ∈ L,0<=x/\x<(n:Int)) (hn:n<=100000) (hnr:(n:Int)=c.regs) (hr:1<=c.rows/\c.rows<=40) (hcl:1<=c.cols/\c.cols<=40) (h0:0<=zh op) (h1:zbo ⟨op,to,xa,xb,⟨ng,ln,ld⟩⟩=false) (o:Bool) (ho:zw c L ⟨op,to,xa,xb,⟨ng,ln,ld⟩⟩=o) :
  Calls Try.prog 15 #[aggC c v,.agg #[.int .i64 op,.int .i64 to,.int .i64 xa,.int .i64 xb,.bool ng,vn,vd],.slice (some ⟨g,0,none⟩) n n] w (fun e w' => e=.returned (.bool o)/\Below w.heap.size w w'):=by
 have ho':o=false:=by
  rw [<- ho];unfold zw
  rw [h1,Bool.and_false];rfl
 obtain ⟨sa,hsa⟩:∃ b,decide (1<=zh op)=b:=⟨_,rfl⟩
 obtain ⟨sb,hsb⟩:∃ b,decide (zh op=2)=b:=⟨_,rfl⟩
 obtain ⟨sp,hsp⟩:∃ b,decide (op=7)=b:=⟨_,rfl⟩
 have Hsa:=Lib.hid hsa
 have Hsb:=Lib.hid hsb
 have Hsp:=Lib.hid hsp
 have Hok:=Lib.hid (decide_eq_true h0)
 have Hnum:=Lib.hid h1
 clear ho hsa hsb hsp h0 h1 hnr hr hcl hL
 subst ho'
 obtain ⟨a0,n0,c0,rfl,H0,hm0⟩:=hc.1.open
 obtain ⟨a1,n1,c1,rfl,H1,hm1⟩:=hx.1.1.open
 obtain ⟨a2,n2,c2,rfl,H2,hm2⟩:=hx.1.2.1.open
 go_enter Try.func15,Try.ntmps15
 go_wp2_with fail
 obtain ⟨W0,aq⟩:∃ W0,(w.alloc (.cells #[.int .i64 c.ins,.int .i64 c.rows,.int .i64 c.cols,.int .i64 c.regs,.slice a0 n0 c0] 30)).alloc (.cells #[.int .i64 op,.int .i64 to,.int .i64 xa,.int .i64 xb,.bool ng,.slice a1 n1 c1,.slice a2 n2 c2] 27)=W0:=⟨_,rfl⟩
 have al:=Lib.hid (show ∀ W',Below W0.heap.size W0 W'->(Bx5 W' w.heap.size (.int .i64 c.ins) (.int .i64 c.rows) (.int .i64 c.cols) (.int .i64 c.regs) (.slice a0 n0 c0)/\Bx7 W' (w.heap.size+1) (.int .i64 op) (.int .i64 to) (.int .i64 xa) (.int .i64 xb) (.bool ng) (.slice a1 n1 c1) (.slice a2 n2 c2)) from fun W' hb => by
   refine ⟨bx5 hb ?_ ?_ ?_ ?_ ?_ ?_ ?_ ?_ ?_ ?_,bx7 hb ?_ ?_ ?_ ?_ ?_ ?_ ?_ ?_ ?_ ?_ ?_ ?_ ?_ ?_⟩
   all_goals first|assumption|(rw [<- aq];simp [go_sem]))
 have zb:Below w.heap.size w W0:=by rw [<- aq];exact bS (bN _ _) (bN _ _)
 rw [aq]
 clear aq
 have i0:=hc.to zb
 have i1:=hx.to zb
 have i2:=hrow.to zb
 have gb:Below W0.heap.size W0 W0:=Below.refl _ _
 obtain ⟨⟨z0,ae,af,ag,am,an,ah,ai,ak,au,aw⟩,⟨z1,aA,aB,aC,a7,a8,bd,be,aD,aE,aF,a9,bc,bf,bh⟩⟩:=al.out _ gb
 go_wp2_with fail
 refine (zl op sa sb sp true _ Hsa.out Hsb.out Hsp.out Hok.out).mono ?_
 clear ae ah af ai ag ak am au an aw aA aD aB aE aC aF a7 a9 a8 bc bd bf be bh
 rintro e w1 ⟨rfl,aT⟩
 replace gb:=bS gb aT
 obtain ⟨⟨z0,ae,af,ag,am,an,ah,ai,ak,au,aw⟩,⟨z1,aA,aB,aC,a7,a8,bd,be,aD,aE,aF,a9,bc,bf,bh⟩⟩:=al.out _ gb
 go_wp2_with fail
 obtain ⟨W1,aK⟩:∃ W1,w1.alloc (.cells #[.bool sa,.bool sb,.bool sp] 58)=W1:=⟨_,rfl⟩
 have hb_W1:Below w1.heap.size w1 W1:=by rw [<- aK];exact bN _ _
 have cw:Hid (W1.heap.size=w1.heap.size+1):=by show _=_;rw [<- aK];simp
 clear ae ah af ai ag ak am au an aw aA aD aB aE aC aF a7 a9 a8 bc bd bf be bh
 replace gb:=bS gb hb_W1
 obtain ⟨⟨z0,ae,af,ag,am,an,ah,ai,ak,au,aw⟩,⟨z1,aA,aB,aC,a7,a8,bd,be,aD,aE,aF,a9,bc,bf,bh⟩⟩:=al.out _ gb
 have bv:W1.cell? ⟨w1.heap.size,0,none⟩=some (.bool sa):=by rw [<- aK];simp [go_sem]
 have bJ:W1.frozen? ⟨w1.heap.size,0,none⟩=false:=by rw [<- aK];simp [go_sem]
 have bw:W1.cell? ⟨w1.heap.size,1,none⟩=some (.bool sb):=by rw [<- aK];simp [go_sem]
 have bK:W1.frozen? ⟨w1.heap.size,1,none⟩=false:=by rw [<- aK];simp [go_sem]
 have bx:W1.cell? ⟨w1.heap.size,2,none⟩=some (.bool sp):=by rw [<- aK];simp [go_sem]
 have bL:W1.frozen? ⟨w1.heap.size,2,none⟩=false:=by rw [<- aK];simp [go_sem]
 have z5:w1.heap.size<W1.heap.size:=by rw [<- aK];simp
 rw [aK]
 clear aK
 replace i0:=i0.to gb
 replace i1:=i1.to gb
 replace i2:=i2.to gb
 replace zb:=bS zb gb
 have b7:=Lib.hid (show ∀ W',Below W1.heap.size W1 W'->(Bx5 W' w.heap.size (.int .i64 c.ins) (.int .i64 c.rows) (.int .i64 c.cols) (.int .i64 c.regs) (.slice a0 n0 c0)/\Bx7 W' (w.heap.size+1) (.int .i64 op) (.int .i64 to) (.int .i64 xa) (.int .i64 xb) (.bool ng) (.slice a1 n1 c1) (.slice a2 n2 c2)/\Bx3 W' w1.heap.size (.bool sa) (.bool sb) (.bool sp)) from fun W' hb => by
   refine ⟨bx5 hb ?_ ?_ ?_ ?_ ?_ ?_ ?_ ?_ ?_ ?_,bx7 hb ?_ ?_ ?_ ?_ ?_ ?_ ?_ ?_ ?_ ?_ ?_ ?_ ?_ ?_,bx3 hb ?_ ?_ ?_ ?_ ?_ ?_⟩
   all_goals first|assumption|assumption)
 replace gb:=Below.refl W1.heap.size W1
 go_wp2_with fail
 refine (zz op to xa xb ng _ _ ln ld _ (i1.to gb) false Hnum.out).mono ?_
 clear ae ah af ai ag ak am au an aw aA aD aB aE aC aF a7 a9 a8 bc bd bf be bh bv bJ bw bK bx bL
 rintro e w2 ⟨rfl,aL⟩
 replace gb:=bS gb aL
 obtain ⟨⟨z0,ae,af,ag,am,an,ah,ai,ak,au,aw⟩,⟨z1,aA,aB,aC,a7,a8,bd,be,aD,aE,aF,a9,bc,bf,bh⟩,⟨z5,bv,bw,bx,bJ,bK,bL⟩⟩:=b7.out _ gb
 go_wp2_with fail
 go_ret
 exact ⟨rfl,bS zb gb⟩

theorem zgj (c:Cd) (v:Value) (op to xa xb:Int) (ng:Bool) (vn vd:Value) (ln ld:List Nat) (g n:Nat) (L:List Int) (w:World) (hc:IsC w c v) (hx:IsX w ⟨op,to,xa,xb,⟨ng,ln,ld⟩⟩ vn vd) (hrow:zaA w g n (fun i => .bool (decide ((i:Int) ∈ L)))) (hL:∀ x ∈ L,0<=x/\x<(n:Int)) (hn:n<=100000) (hnr:(n:Int)=c.regs) (hr:1<=c.rows/\c.rows<=40) (hcl:1<=c.cols/\c.cols<=40) (h0:0<=zh op) (hnum:zbo ⟨op,to,xa,xb,⟨ng,ln,ld⟩⟩=true) (h1:op=10) (o:Bool) (ho:zw c L ⟨op,to,xa,xb,⟨ng,ln,ld⟩⟩=o) :
  Calls Try.prog 15 #[aggC c v,.agg #[.int .i64 op,.int .i64 to,.int .i64 xa,.int .i64 xb,.bool ng,vn,vd],.slice (some ⟨g,0,none⟩) n n] w (fun e w' => e=.returned (.bool o)/\Below w.heap.size w w'):=by
 rw [zcU (x:=⟨op,to,xa,xb,⟨ng,ln,ld⟩⟩) h0 hnum,zfB (x:=⟨op,to,xa,xb,⟨ng,ln,ld⟩⟩) h0 (by show op≠0;first|assumption|omega),zfC (x:=⟨op,to,xa,xb,⟨ng,ln,ld⟩⟩) (by show op≠7;first|assumption|omega)] at ho
 obtain ⟨sa,hsa⟩:∃ b,decide (1<=zh op)=b:=⟨_,rfl⟩
 obtain ⟨sb,hsb⟩:∃ b,decide (zh op=2)=b:=⟨_,rfl⟩
 have hsp:decide (op=7)=false:=by simp;omega
 obtain ⟨ra,hra⟩:∃ b,(if sa=true then decide (xa ∈ L) else decide (xa=0))=b:=⟨_,rfl⟩
 obtain ⟨rb,hrb⟩:∃ b,(if sb=true then decide (xb ∈ L) else decide (xb=0))=b:=⟨_,rfl⟩
 obtain ⟨p1,tp1⟩:∃ b,decide (0<=xa)=b:=⟨_,rfl⟩
 obtain ⟨p2,tp2⟩:∃ b,decide (xa<c.ins)=b:=⟨_,rfl⟩
 obtain ⟨r1,tr1⟩:∃ b,decide (-21<=xb)=b:=⟨_,rfl⟩
 obtain ⟨r2,tr2⟩:∃ b,decide (xb<=21)=b:=⟨_,rfl⟩
 obtain ⟨q1,tq1⟩:∃ b,decide (0<=to)=b:=⟨_,rfl⟩
 obtain ⟨q2,tq2⟩:∃ b,decide (to<c.rows*c.cols)=b:=⟨_,rfl⟩
 have t10:(op == 10)=true:=by simp;omega
 have t0:(op == 0)=false:=by simp;omega
 have pb:=zbd hr hcl
 have HM:IntKind.i64.wrap (c.rows*c.cols)=c.rows*c.cols:=IntWalk.i64_in _ (by omega)
 have ho':(ra && rb && q1 && q2)=o:=by
  have e:zJ c ⟨op,to,xa,xb,⟨ng,ln,ld⟩⟩=c.rows*c.cols:=by unfold zJ;rw [if_pos h1]
  rw [e] at ho
  subst ho hra hrb hsa hsb tp1 tp2 tr1 tr2 tq1 tq2
  rfl
 have Hsa:=Lib.hid hsa
 have Hsb:=Lib.hid hsb
 have Hsp:=Lib.hid hsp
 have Hok:=Lib.hid (decide_eq_true h0)
 have Hnum:=Lib.hid hnum
 have Hra:=Lib.hid hra
 have Hrb:=Lib.hid hrb
 have HL:=Lib.hid hL
 clear ho hsa hsb hsp hra hrb h0 hnum hnr hr hcl hL pb h1
 obtain ⟨a0,n0,c0,rfl,H0,hm0⟩:=hc.1.open
 obtain ⟨a1,n1,c1,rfl,H1,hm1⟩:=hx.1.1.open
 obtain ⟨a2,n2,c2,rfl,H2,hm2⟩:=hx.1.2.1.open
 cases ra
 case false =>
  subst ho'
  go_enter Try.func15,Try.ntmps15
  go_wp2_with fail
  obtain ⟨W0,aq⟩:∃ W0,(w.alloc (.cells #[.int .i64 c.ins,.int .i64 c.rows,.int .i64 c.cols,.int .i64 c.regs,.slice a0 n0 c0] 30)).alloc (.cells #[.int .i64 op,.int .i64 to,.int .i64 xa,.int .i64 xb,.bool ng,.slice a1 n1 c1,.slice a2 n2 c2] 27)=W0:=⟨_,rfl⟩
  have al:=Lib.hid (show ∀ W',Below W0.heap.size W0 W'->(Bx5 W' w.heap.size (.int .i64 c.ins) (.int .i64 c.rows) (.int .i64 c.cols) (.int .i64 c.regs) (.slice a0 n0 c0)/\Bx7 W' (w.heap.size+1) (.int .i64 op) (.int .i64 to) (.int .i64 xa) (.int .i64 xb) (.bool ng) (.slice a1 n1 c1) (.slice a2 n2 c2)) from fun W' hb => by
    refine ⟨bx5 hb ?_ ?_ ?_ ?_ ?_ ?_ ?_ ?_ ?_ ?_,bx7 hb ?_ ?_ ?_ ?_ ?_ ?_ ?_ ?_ ?_ ?_ ?_ ?_ ?_ ?_⟩
    all_goals first|assumption|(rw [<- aq];simp [go_sem]))
  have zb:Below w.heap.size w W0:=by rw [<- aq];exact bS (bN _ _) (bN _ _)
  rw [aq]
  clear aq
  have i0:=hc.to zb
  have i1:=hx.to zb
  have i2:=hrow.to zb
  have gb:Below W0.heap.size W0 W0:=Below.refl _ _
  obtain ⟨⟨z0,ae,af,ag,am,an,ah,ai,ak,au,aw⟩,⟨z1,aA,aB,aC,a7,a8,bd,be,aD,aE,aF,a9,bc,bf,bh⟩⟩:=al.out _ gb
  go_wp2_with fail
  refine (zl op sa sb false true _ Hsa.out Hsb.out Hsp.out Hok.out).mono ?_
  clear ae ah af ai ag ak am au an aw aA aD aB aE aC aF a7 a9 a8 bc bd bf be bh
  rintro e w1 ⟨rfl,aT⟩
  replace gb:=bS gb aT
  obtain ⟨⟨z0,ae,af,ag,am,an,ah,ai,ak,au,aw⟩,⟨z1,aA,aB,aC,a7,a8,bd,be,aD,aE,aF,a9,bc,bf,bh⟩⟩:=al.out _ gb
  go_wp2_with fail
  obtain ⟨W1,aK⟩:∃ W1,w1.alloc (.cells #[.bool sa,.bool sb,.bool false] 58)=W1:=⟨_,rfl⟩
  have hb_W1:Below w1.heap.size w1 W1:=by rw [<- aK];exact bN _ _
  have cw:Hid (W1.heap.size=w1.heap.size+1):=by show _=_;rw [<- aK];simp
  clear ae ah af ai ag ak am au an aw aA aD aB aE aC aF a7 a9 a8 bc bd bf be bh
  replace gb:=bS gb hb_W1
  obtain ⟨⟨z0,ae,af,ag,am,an,ah,ai,ak,au,aw⟩,⟨z1,aA,aB,aC,a7,a8,bd,be,aD,aE,aF,a9,bc,bf,bh⟩⟩:=al.out _ gb
  have bv:W1.cell? ⟨w1.heap.size,0,none⟩=some (.bool sa):=by rw [<- aK];simp [go_sem]
  have bJ:W1.frozen? ⟨w1.heap.size,0,none⟩=false:=by rw [<- aK];simp [go_sem]
  have bw:W1.cell? ⟨w1.heap.size,1,none⟩=some (.bool sb):=by rw [<- aK];simp [go_sem]
  have bK:W1.frozen? ⟨w1.heap.size,1,none⟩=false:=by rw [<- aK];simp [go_sem]
  have bx:W1.cell? ⟨w1.heap.size,2,none⟩=some (.bool false):=by rw [<- aK];simp [go_sem]
  have bL:W1.frozen? ⟨w1.heap.size,2,none⟩=false:=by rw [<- aK];simp [go_sem]
  have z5:w1.heap.size<W1.heap.size:=by rw [<- aK];simp
  rw [aK]
  clear aK
  replace i0:=i0.to gb
  replace i1:=i1.to gb
  replace i2:=i2.to gb
  replace zb:=bS zb gb
  have b7:=Lib.hid (show ∀ W',Below W1.heap.size W1 W'->(Bx5 W' w.heap.size (.int .i64 c.ins) (.int .i64 c.rows) (.int .i64 c.cols) (.int .i64 c.regs) (.slice a0 n0 c0)/\Bx7 W' (w.heap.size+1) (.int .i64 op) (.int .i64 to) (.int .i64 xa) (.int .i64 xb) (.bool ng) (.slice a1 n1 c1) (.slice a2 n2 c2)/\Bx3 W' w1.heap.size (.bool sa) (.bool sb) (.bool false)) from fun W' hb => by
    refine ⟨bx5 hb ?_ ?_ ?_ ?_ ?_ ?_ ?_ ?_ ?_ ?_,bx7 hb ?_ ?_ ?_ ?_ ?_ ?_ ?_ ?_ ?_ ?_ ?_ ?_ ?_ ?_,bx3 hb ?_ ?_ ?_ ?_ ?_ ?_⟩
    all_goals first|assumption|assumption)
  replace gb:=Below.refl W1.heap.size W1
  go_wp2_with fail
  refine (zz op to xa xb ng _ _ ln ld _ (i1.to gb) true Hnum.out).mono ?_
  clear ae ah af ai ag ak am au an aw aA aD aB aE aC aF a7 a9 a8 bc bd bf be bh bv bJ bw bK bx bL
  rintro e w2 ⟨rfl,aL⟩
  replace gb:=bS gb aL
  obtain ⟨⟨z0,ae,af,ag,am,an,ah,ai,ak,au,aw⟩,⟨z1,aA,aB,aC,a7,a8,bd,be,aD,aE,aF,a9,bc,bf,bh⟩,⟨z5,bv,bw,bx,bJ,bK,bL⟩⟩:=b7.out _ gb
  go_wp2_with fail
  refine (zg sa xa g n L _ (i2.to gb) HL.out hn _ Hra.out).mono ?_
  rintro e w3 ⟨rfl,rfl⟩
  go_wp2_with fail
  refine (zg sb xb g n L _ (i2.to gb) HL.out hn _ Hrb.out).mono ?_
  rintro e w4 ⟨rfl,rfl⟩
  go_wp2_with fail
  go_ret
  exact ⟨rfl,bS zb gb⟩
 case true =>
  cases rb
  case false =>
   subst ho'
   go_enter Try.func15,Try.ntmps15
   go_wp2_with fail
   obtain ⟨W0,aq⟩:∃ W0,(w.alloc (.cells #[.int .i64 c.ins,.int .i64 c.rows,.int .i64 c.cols,.int .i64 c.regs,.slice a0 n0 c0] 30)).alloc (.cells #[.int .i64 op,.int .i64 to,.int .i64 xa,.int .i64 xb,.bool ng,.slice a1 n1 c1,.slice a2 n2 c2] 27)=W0:=⟨_,rfl⟩
   have al:=Lib.hid (show ∀ W',Below W0.heap.size W0 W'->(Bx5 W' w.heap.size (.int .i64 c.ins) (.int .i64 c.rows) (.int .i64 c.cols) (.int .i64 c.regs) (.slice a0 n0 c0)/\Bx7 W' (w.heap.size+1) (.int .i64 op) (.int .i64 to) (.int .i64 xa) (.int .i64 xb) (.bool ng) (.slice a1 n1 c1) (.slice a2 n2 c2)) from fun W' hb => by
     refine ⟨bx5 hb ?_ ?_ ?_ ?_ ?_ ?_ ?_ ?_ ?_ ?_,bx7 hb ?_ ?_ ?_ ?_ ?_ ?_ ?_ ?_ ?_ ?_ ?_ ?_ ?_ ?_⟩
     all_goals first|assumption|(rw [<- aq];simp [go_sem]))
   have zb:Below w.heap.size w W0:=by rw [<- aq];exact bS (bN _ _) (bN _ _)
   rw [aq]
   clear aq
   have i0:=hc.to zb
   have i1:=hx.to zb
   have i2:=hrow.to zb
   have gb:Below W0.heap.size W0 W0:=Below.refl _ _
   obtain ⟨⟨z0,ae,af,ag,am,an,ah,ai,ak,au,aw⟩,⟨z1,aA,aB,aC,a7,a8,bd,be,aD,aE,aF,a9,bc,bf,bh⟩⟩:=al.out _ gb
   go_wp2_with fail
   refine (zl op sa sb false true _ Hsa.out Hsb.out Hsp.out Hok.out).mono ?_
   clear ae ah af ai ag ak am au an aw aA aD aB aE aC aF a7 a9 a8 bc bd bf be bh
   rintro e w1 ⟨rfl,aT⟩
   replace gb:=bS gb aT
   obtain ⟨⟨z0,ae,af,ag,am,an,ah,ai,ak,au,aw⟩,⟨z1,aA,aB,aC,a7,a8,bd,be,aD,aE,aF,a9,bc,bf,bh⟩⟩:=al.out _ gb
   go_wp2_with fail
   obtain ⟨W1,aK⟩:∃ W1,w1.alloc (.cells #[.bool sa,.bool sb,.bool false] 58)=W1:=⟨_,rfl⟩
   have hb_W1:Below w1.heap.size w1 W1:=by rw [<- aK];exact bN _ _
   have cw:Hid (W1.heap.size=w1.heap.size+1):=by show _=_;rw [<- aK];simp
   clear ae ah af ai ag ak am au an aw aA aD aB aE aC aF a7 a9 a8 bc bd bf be bh
   replace gb:=bS gb hb_W1
   obtain ⟨⟨z0,ae,af,ag,am,an,ah,ai,ak,au,aw⟩,⟨z1,aA,aB,aC,a7,a8,bd,be,aD,aE,aF,a9,bc,bf,bh⟩⟩:=al.out _ gb
   have bv:W1.cell? ⟨w1.heap.size,0,none⟩=some (.bool sa):=by rw [<- aK];simp [go_sem]
   have bJ:W1.frozen? ⟨w1.heap.size,0,none⟩=false:=by rw [<- aK];simp [go_sem]
   have bw:W1.cell? ⟨w1.heap.size,1,none⟩=some (.bool sb):=by rw [<- aK];simp [go_sem]
   have bK:W1.frozen? ⟨w1.heap.size,1,none⟩=false:=by rw [<- aK];simp [go_sem]
   have bx:W1.cell? ⟨w1.heap.size,2,none⟩=some (.bool false):=by rw [<- aK];simp [go_sem]
   have bL:W1.frozen? ⟨w1.heap.size,2,none⟩=false:=by rw [<- aK];simp [go_sem]
   have z5:w1.heap.size<W1.heap.size:=by rw [<- aK];simp
   rw [aK]
   clear aK
   replace i0:=i0.to gb
   replace i1:=i1.to gb
   replace i2:=i2.to gb
   replace zb:=bS zb gb
   have b7:=Lib.hid (show ∀ W',Below W1.heap.size W1 W'->(Bx5 W' w.heap.size (.int .i64 c.ins) (.int .i64 c.rows) (.int .i64 c.cols) (.int .i64 c.regs) (.slice a0 n0 c0)/\Bx7 W' (w.heap.size+1) (.int .i64 op) (.int .i64 to) (.int .i64 xa) (.int .i64 xb) (.bool ng) (.slice a1 n1 c1) (.slice a2 n2 c2)/\Bx3 W' w1.heap.size (.bool sa) (.bool sb) (.bool false)) from fun W' hb => by
     refine ⟨bx5 hb ?_ ?_ ?_ ?_ ?_ ?_ ?_ ?_ ?_ ?_,bx7 hb ?_ ?_ ?_ ?_ ?_ ?_ ?_ ?_ ?_ ?_ ?_ ?_ ?_ ?_,bx3 hb ?_ ?_ ?_ ?_ ?_ ?_⟩
     all_goals first|assumption|assumption)
   replace gb:=Below.refl W1.heap.size W1
   go_wp2_with fail
   refine (zz op to xa xb ng _ _ ln ld _ (i1.to gb) true Hnum.out).mono ?_
   clear ae ah af ai ag ak am au an aw aA aD aB aE aC aF a7 a9 a8 bc bd bf be bh bv bJ bw bK bx bL
   rintro e w2 ⟨rfl,aL⟩
   replace gb:=bS gb aL
   obtain ⟨⟨z0,ae,af,ag,am,an,ah,ai,ak,au,aw⟩,⟨z1,aA,aB,aC,a7,a8,bd,be,aD,aE,aF,a9,bc,bf,bh⟩,⟨z5,bv,bw,bx,bJ,bK,bL⟩⟩:=b7.out _ gb
   go_wp2_with fail
   refine (zg sa xa g n L _ (i2.to gb) HL.out hn _ Hra.out).mono ?_
   rintro e w3 ⟨rfl,rfl⟩
   go_wp2_with fail
   refine (zg sb xb g n L _ (i2.to gb) HL.out hn _ Hrb.out).mono ?_
   rintro e w4 ⟨rfl,rfl⟩
   go_wp2_with fail
   go_ret
   exact ⟨rfl,bS zb gb⟩
  case true =>
   cases q1
   case false =>
    subst ho'
    go_enter Try.func15,Try.ntmps15
    go_wp2_with fail
    obtain ⟨W0,aq⟩:∃ W0,(w.alloc (.cells #[.int .i64 c.ins,.int .i64 c.rows,.int .i64 c.cols,.int .i64 c.regs,.slice a0 n0 c0] 30)).alloc (.cells #[.int .i64 op,.int .i64 to,.int .i64 xa,.int .i64 xb,.bool ng,.slice a1 n1 c1,.slice a2 n2 c2] 27)=W0:=⟨_,rfl⟩
    have al:=Lib.hid (show ∀ W',Below W0.heap.size W0 W'->(Bx5 W' w.heap.size (.int .i64 c.ins) (.int .i64 c.rows) (.int .i64 c.cols) (.int .i64 c.regs) (.slice a0 n0 c0)/\Bx7 W' (w.heap.size+1) (.int .i64 op) (.int .i64 to) (.int .i64 xa) (.int .i64 xb) (.bool ng) (.slice a1 n1 c1) (.slice a2 n2 c2)) from fun W' hb => by
      refine ⟨bx5 hb ?_ ?_ ?_ ?_ ?_ ?_ ?_ ?_ ?_ ?_,bx7 hb ?_ ?_ ?_ ?_ ?_ ?_ ?_ ?_ ?_ ?_ ?_ ?_ ?_ ?_⟩
      all_goals first|assumption|(rw [<- aq];simp [go_sem]))
    have zb:Below w.heap.size w W0:=by rw [<- aq];exact bS (bN _ _) (bN _ _)
    rw [aq]
    clear aq
    have i0:=hc.to zb
    have i1:=hx.to zb
    have i2:=hrow.to zb
    have gb:Below W0.heap.size W0 W0:=Below.refl _ _
    obtain ⟨⟨z0,ae,af,ag,am,an,ah,ai,ak,au,aw⟩,⟨z1,aA,aB,aC,a7,a8,bd,be,aD,aE,aF,a9,bc,bf,bh⟩⟩:=al.out _ gb
    go_wp2_with fail
    refine (zl op sa sb false true _ Hsa.out Hsb.out Hsp.out Hok.out).mono ?_
    clear ae ah af ai ag ak am au an aw aA aD aB aE aC aF a7 a9 a8 bc bd bf be bh
    rintro e w1 ⟨rfl,aT⟩
    replace gb:=bS gb aT
    obtain ⟨⟨z0,ae,af,ag,am,an,ah,ai,ak,au,aw⟩,⟨z1,aA,aB,aC,a7,a8,bd,be,aD,aE,aF,a9,bc,bf,bh⟩⟩:=al.out _ gb
    go_wp2_with fail
    obtain ⟨W1,aK⟩:∃ W1,w1.alloc (.cells #[.bool sa,.bool sb,.bool false] 58)=W1:=⟨_,rfl⟩
    have hb_W1:Below w1.heap.size w1 W1:=by rw [<- aK];exact bN _ _
    have cw:Hid (W1.heap.size=w1.heap.size+1):=by show _=_;rw [<- aK];simp
    clear ae ah af ai ag ak am au an aw aA aD aB aE aC aF a7 a9 a8 bc bd bf be bh
    replace gb:=bS gb hb_W1
    obtain ⟨⟨z0,ae,af,ag,am,an,ah,ai,ak,au,aw⟩,⟨z1,aA,aB,aC,a7,a8,bd,be,aD,aE,aF,a9,bc,bf,bh⟩⟩:=al.out _ gb
    have bv:W1.cell? ⟨w1.heap.size,0,none⟩=some (.bool sa):=by rw [<- aK];simp [go_sem]
    have bJ:W1.frozen? ⟨w1.heap.size,0,none⟩=false:=by rw [<- aK];simp [go_sem]
    have bw:W1.cell? ⟨w1.heap.size,1,none⟩=some (.bool sb):=by rw [<- aK];simp [go_sem]
    have bK:W1.frozen? ⟨w1.heap.size,1,none⟩=false:=by rw [<- aK];simp [go_sem]
    have bx:W1.cell? ⟨w1.heap.size,2,none⟩=some (.bool false):=by rw [<- aK];simp [go_sem]
    have bL:W1.frozen? ⟨w1.heap.size,2,none⟩=false:=by rw [<- aK];simp [go_sem]
    have z5:w1.heap.size<W1.heap.size:=by rw [<- aK];simp
    rw [aK]
    clear aK
    replace i0:=i0.to gb
    replace i1:=i1.to gb
    replace i2:=i2.to gb
    replace zb:=bS zb gb
    have b7:=Lib.hid (show ∀ W',Below W1.heap.size W1 W'->(Bx5 W' w.heap.size (.int .i64 c.ins) (.int .i64 c.rows) (.int .i64 c.cols) (.int .i64 c.regs) (.slice a0 n0 c0)/\Bx7 W' (w.heap.size+1) (.int .i64 op) (.int .i64 to) (.int .i64 xa) (.int .i64 xb) (.bool ng) (.slice a1 n1 c1) (.slice a2 n2 c2)/\Bx3 W' w1.heap.size (.bool sa) (.bool sb) (.bool false)) from fun W' hb => by
      refine ⟨bx5 hb ?_ ?_ ?_ ?_ ?_ ?_ ?_ ?_ ?_ ?_,bx7 hb ?_ ?_ ?_ ?_ ?_ ?_ ?_ ?_ ?_ ?_ ?_ ?_ ?_ ?_,bx3 hb ?_ ?_ ?_ ?_ ?_ ?_⟩
      all_goals first|assumption|assumption)
    replace gb:=Below.refl W1.heap.size W1
    go_wp2_with fail
    refine (zz op to xa xb ng _ _ ln ld _ (i1.to gb) true Hnum.out).mono ?_
    clear ae ah af ai ag ak am au an aw aA aD aB aE aC aF a7 a9 a8 bc bd bf be bh bv bJ bw bK bx bL
    rintro e w2 ⟨rfl,aL⟩
    replace gb:=bS gb aL
    obtain ⟨⟨z0,ae,af,ag,am,an,ah,ai,ak,au,aw⟩,⟨z1,aA,aB,aC,a7,a8,bd,be,aD,aE,aF,a9,bc,bf,bh⟩,⟨z5,bv,bw,bx,bJ,bK,bL⟩⟩:=b7.out _ gb
    go_wp2_with fail
    refine (zg sa xa g n L _ (i2.to gb) HL.out hn _ Hra.out).mono ?_
    rintro e w3 ⟨rfl,rfl⟩
    go_wp2_with fail
    refine (zg sb xb g n L _ (i2.to gb) HL.out hn _ Hrb.out).mono ?_
    rintro e w4 ⟨rfl,rfl⟩
    go_wp2_with fail
    go_ret
    exact ⟨rfl,bS zb gb⟩
   case true =>
    subst ho'
    go_enter Try.func15,Try.ntmps15
    go_wp2_with fail
    obtain ⟨W0,aq⟩:∃ W0,(w.alloc (.cells #[.int .i64 c.ins,.int .i64 c.rows,.int .i64 c.cols,.int .i64 c.regs,.slice a0 n0 c0] 30)).alloc (.cells #[.int .i64 op,.int .i64 to,.int .i64 xa,.int .i64 xb,.bool ng,.slice a1 n1 c1,.slice a2 n2 c2] 27)=W0:=⟨_,rfl⟩
    have al:=Lib.hid (show ∀ W',Below W0.heap.size W0 W'->(Bx5 W' w.heap.size (.int .i64 c.ins) (.int .i64 c.rows) (.int .i64 c.cols) (.int .i64 c.regs) (.slice a0 n0 c0)/\Bx7 W' (w.heap.size+1) (.int .i64 op) (.int .i64 to) (.int .i64 xa) (.int .i64 xb) (.bool ng) (.slice a1 n1 c1) (.slice a2 n2 c2)) from fun W' hb => by
      refine ⟨bx5 hb ?_ ?_ ?_ ?_ ?_ ?_ ?_ ?_ ?_ ?_,bx7 hb ?_ ?_ ?_ ?_ ?_ ?_ ?_ ?_ ?_ ?_ ?_ ?_ ?_ ?_⟩
      all_goals first|assumption|(rw [<- aq];simp [go_sem]))
    have zb:Below w.heap.size w W0:=by rw [<- aq];exact bS (bN _ _) (bN _ _)
    rw [aq]
    clear aq
    have i0:=hc.to zb
    have i1:=hx.to zb
    have i2:=hrow.to zb
    have gb:Below W0.heap.size W0 W0:=Below.refl _ _
    obtain ⟨⟨z0,ae,af,ag,am,an,ah,ai,ak,au,aw⟩,⟨z1,aA,aB,aC,a7,a8,bd,be,aD,aE,aF,a9,bc,bf,bh⟩⟩:=al.out _ gb
    go_wp2_with fail
    refine (zl op sa sb false true _ Hsa.out Hsb.out Hsp.out Hok.out).mono ?_
    clear ae ah af ai ag ak am au an aw aA aD aB aE aC aF a7 a9 a8 bc bd bf be bh
    rintro e w1 ⟨rfl,aT⟩
    replace gb:=bS gb aT
    obtain ⟨⟨z0,ae,af,ag,am,an,ah,ai,ak,au,aw⟩,⟨z1,aA,aB,aC,a7,a8,bd,be,aD,aE,aF,a9,bc,bf,bh⟩⟩:=al.out _ gb
    go_wp2_with fail
    obtain ⟨W1,aK⟩:∃ W1,w1.alloc (.cells #[.bool sa,.bool sb,.bool false] 58)=W1:=⟨_,rfl⟩
    have hb_W1:Below w1.heap.size w1 W1:=by rw [<- aK];exact bN _ _
    have cw:Hid (W1.heap.size=w1.heap.size+1):=by show _=_;rw [<- aK];simp
    clear ae ah af ai ag ak am au an aw aA aD aB aE aC aF a7 a9 a8 bc bd bf be bh
    replace gb:=bS gb hb_W1
    obtain ⟨⟨z0,ae,af,ag,am,an,ah,ai,ak,au,aw⟩,⟨z1,aA,aB,aC,a7,a8,bd,be,aD,aE,aF,a9,bc,bf,bh⟩⟩:=al.out _ gb
    have bv:W1.cell? ⟨w1.heap.size,0,none⟩=some (.bool sa):=by rw [<- aK];simp [go_sem]
    have bJ:W1.frozen? ⟨w1.heap.size,0,none⟩=false:=by rw [<- aK];simp [go_sem]
    have bw:W1.cell? ⟨w1.heap.size,1,none⟩=some (.bool sb):=by rw [<- aK];simp [go_sem]
    have bK:W1.frozen? ⟨w1.heap.size,1,none⟩=false:=by rw [<- aK];simp [go_sem]
    have bx:W1.cell? ⟨w1.heap.size,2,none⟩=some (.bool false):=by rw [<- aK];simp [go_sem]
    have bL:W1.frozen? ⟨w1.heap.size,2,none⟩=false:=by rw [<- aK];simp [go_sem]
    have z5:w1.heap.size<W1.heap.size:=by rw [<- aK];simp
    rw [aK]
    clear aK
    replace i0:=i0.to gb
    replace i1:=i1.to gb
    replace i2:=i2.to gb
    replace zb:=bS zb gb
    have b7:=Lib.hid (show ∀ W',Below W1.heap.size W1 W'->(Bx5 W' w.heap.size (.int .i64 c.ins) (.int .i64 c.rows) (.int .i64 c.cols) (.int .i64 c.regs) (.slice a0 n0 c0)/\Bx7 W' (w.heap.size+1) (.int .i64 op) (.int .i64 to) (.int .i64 xa) (.int .i64 xb) (.bool ng) (.slice a1 n1 c1) (.slice a2 n2 c2)/\Bx3 W' w1.heap.size (.bool sa) (.bool sb) (.bool false)) from fun W' hb => by
      refine ⟨bx5 hb ?_ ?_ ?_ ?_ ?_ ?_ ?_ ?_ ?_ ?_,bx7 hb ?_ ?_ ?_ ?_ ?_ ?_ ?_ ?_ ?_ ?_ ?_ ?_ ?_ ?_,bx3 hb ?_ ?_ ?_ ?_ ?_ ?_⟩
      all_goals first|assumption|assumption)
    replace gb:=Below.refl W1.heap.size W1
    go_wp2_with fail
    refine (zz op to xa xb ng _ _ ln ld _ (i1.to gb) true Hnum.out).mono ?_
    clear ae ah af ai ag ak am au an aw aA aD aB aE aC aF a7 a9 a8 bc bd bf be bh bv bJ bw bK bx bL
    rintro e w2 ⟨rfl,aL⟩
    replace gb:=bS gb aL
    obtain ⟨⟨z0,ae,af,ag,am,an,ah,ai,ak,au,aw⟩,⟨z1,aA,aB,aC,a7,a8,bd,be,aD,aE,aF,a9,bc,bf,bh⟩,⟨z5,bv,bw,bx,bJ,bK,bL⟩⟩:=b7.out _ gb
    go_wp2_with fail
    refine (zg sa xa g n L _ (i2.to gb) HL.out hn _ Hra.out).mono ?_
    rintro e w3 ⟨rfl,rfl⟩
    go_wp2_with fail
    refine (zg sb xb g n L _ (i2.to gb) HL.out hn _ Hrb.out).mono ?_
    rintro e w4 ⟨rfl,rfl⟩
    go_wp2_with fail
    go_ret
    exact ⟨rfl,bS zb gb⟩

theorem zfe (c:Cd) (v:Value) (op to xa xb:Int) (ng:Bool) (vn vd:Value) (ln ld:List Nat) (g n:Nat) (L:List Int) (w:World) (hc:IsC w c v) (hx:IsX w ⟨op,to,xa,xb,⟨ng,ln,ld⟩⟩ vn vd) (hrow:zaA w g n (fun i => .bool (decide ((i:Int) ∈ L)))) (hL:∀ x ∈ L,0<=x/\x<(n:Int)) (hn:n<=100000) (hnr:(n:Int)=c.regs) (hr:1<=c.rows/\c.rows<=40) (hcl:1<=c.cols/\c.cols<=40) (h0:0<=zh op) (hnum:zbo ⟨op,to,xa,xb,⟨ng,ln,ld⟩⟩=true) (h1:op=0) (o:Bool) (ho:zw c L ⟨op,to,xa,xb,⟨ng,ln,ld⟩⟩=o) :
  Calls Try.prog 15 #[aggC c v,.agg #[.int .i64 op,.int .i64 to,.int .i64 xa,.int .i64 xb,.bool ng,vn,vd],.slice (some ⟨g,0,none⟩) n n] w (fun e w' => e=.returned (.bool o)/\Below w.heap.size w w'):=by
 rw [zcU (x:=⟨op,to,xa,xb,⟨ng,ln,ld⟩⟩) h0 hnum,aOk_zero (x:=⟨op,to,xa,xb,⟨ng,ln,ld⟩⟩) h1,zfC (x:=⟨op,to,xa,xb,⟨ng,ln,ld⟩⟩) (by show op≠7;first|assumption|omega)] at ho
 obtain ⟨sa,hsa⟩:∃ b,decide (1<=zh op)=b:=⟨_,rfl⟩
 obtain ⟨sb,hsb⟩:∃ b,decide (zh op=2)=b:=⟨_,rfl⟩
 have hsp:decide (op=7)=false:=by simp;omega
 obtain ⟨ra,hra⟩:∃ b,(if sa=true then decide (xa ∈ L) else decide (xa=0))=b:=⟨_,rfl⟩
 obtain ⟨rb,hrb⟩:∃ b,(if sb=true then decide (xb ∈ L) else decide (xb=0))=b:=⟨_,rfl⟩
 obtain ⟨p1,tp1⟩:∃ b,decide (0<=xa)=b:=⟨_,rfl⟩
 obtain ⟨p2,tp2⟩:∃ b,decide (xa<c.ins)=b:=⟨_,rfl⟩
 obtain ⟨r1,tr1⟩:∃ b,decide (-21<=xb)=b:=⟨_,rfl⟩
 obtain ⟨r2,tr2⟩:∃ b,decide (xb<=21)=b:=⟨_,rfl⟩
 obtain ⟨q1,tq1⟩:∃ b,decide (0<=to)=b:=⟨_,rfl⟩
 obtain ⟨q2,tq2⟩:∃ b,decide (to<c.regs)=b:=⟨_,rfl⟩
 have t10:(op == 10)=false:=by simp;omega
 have t0:(op == 0)=true:=by simp;omega
 have pb:=zbd hr hcl
 have HM:IntKind.i64.wrap (c.rows*c.cols)=c.rows*c.cols:=IntWalk.i64_in _ (by omega)
 have ho':((p1 && p2) && rb && q1 && q2)=o:=by
  have e:zJ c ⟨op,to,xa,xb,⟨ng,ln,ld⟩⟩=c.regs:=by unfold zJ;rw [if_neg (by show op≠10;first|assumption|omega)]
  rw [e] at ho
  subst ho hra hrb hsa hsb tp1 tp2 tr1 tr2 tq1 tq2
  rfl
 have Hsa:=Lib.hid hsa
 have Hsb:=Lib.hid hsb
 have Hsp:=Lib.hid hsp
 have Hok:=Lib.hid (decide_eq_true h0)
 have Hnum:=Lib.hid hnum
 have Hra:=Lib.hid hra
 have Hrb:=Lib.hid hrb
 have HL:=Lib.hid hL
 clear ho hsa hsb hsp hra hrb h0 hnum hnr hr hcl hL pb h1
 obtain ⟨a0,n0,c0,rfl,H0,hm0⟩:=hc.1.open
 obtain ⟨a1,n1,c1,rfl,H1,hm1⟩:=hx.1.1.open
 obtain ⟨a2,n2,c2,rfl,H2,hm2⟩:=hx.1.2.1.open
 cases p1
 case false =>
  subst ho'
  go_enter Try.func15,Try.ntmps15
  go_wp2_with fail
  obtain ⟨W0,aq⟩:∃ W0,(w.alloc (.cells #[.int .i64 c.ins,.int .i64 c.rows,.int .i64 c.cols,.int .i64 c.regs,.slice a0 n0 c0] 30)).alloc (.cells #[.int .i64 op,.int .i64 to,.int .i64 xa,.int .i64 xb,.bool ng,.slice a1 n1 c1,.slice a2 n2 c2] 27)=W0:=⟨_,rfl⟩
  have al:=Lib.hid (show ∀ W',Below W0.heap.size W0 W'->(Bx5 W' w.heap.size (.int .i64 c.ins) (.int .i64 c.rows) (.int .i64 c.cols) (.int .i64 c.regs) (.slice a0 n0 c0)/\Bx7 W' (w.heap.size+1) (.int .i64 op) (.int .i64 to) (.int .i64 xa) (.int .i64 xb) (.bool ng) (.slice a1 n1 c1) (.slice a2 n2 c2)) from fun W' hb => by
    refine ⟨bx5 hb ?_ ?_ ?_ ?_ ?_ ?_ ?_ ?_ ?_ ?_,bx7 hb ?_ ?_ ?_ ?_ ?_ ?_ ?_ ?_ ?_ ?_ ?_ ?_ ?_ ?_⟩
    all_goals first|assumption|(rw [<- aq];simp [go_sem]))
  have zb:Below w.heap.size w W0:=by rw [<- aq];exact bS (bN _ _) (bN _ _)
  rw [aq]
  clear aq
  have i0:=hc.to zb
  have i1:=hx.to zb
  have i2:=hrow.to zb
  have gb:Below W0.heap.size W0 W0:=Below.refl _ _
  obtain ⟨⟨z0,ae,af,ag,am,an,ah,ai,ak,au,aw⟩,⟨z1,aA,aB,aC,a7,a8,bd,be,aD,aE,aF,a9,bc,bf,bh⟩⟩:=al.out _ gb
  go_wp2_with fail
  refine (zl op sa sb false true _ Hsa.out Hsb.out Hsp.out Hok.out).mono ?_
  clear ae ah af ai ag ak am au an aw aA aD aB aE aC aF a7 a9 a8 bc bd bf be bh
  rintro e w1 ⟨rfl,aT⟩
  replace gb:=bS gb aT
  obtain ⟨⟨z0,ae,af,ag,am,an,ah,ai,ak,au,aw⟩,⟨z1,aA,aB,aC,a7,a8,bd,be,aD,aE,aF,a9,bc,bf,bh⟩⟩:=al.out _ gb
  go_wp2_with fail
  obtain ⟨W1,aK⟩:∃ W1,w1.alloc (.cells #[.bool sa,.bool sb,.bool false] 58)=W1:=⟨_,rfl⟩
  have hb_W1:Below w1.heap.size w1 W1:=by rw [<- aK];exact bN _ _
  have cw:Hid (W1.heap.size=w1.heap.size+1):=by show _=_;rw [<- aK];simp
  clear ae ah af ai ag ak am au an aw aA aD aB aE aC aF a7 a9 a8 bc bd bf be bh
  replace gb:=bS gb hb_W1
  obtain ⟨⟨z0,ae,af,ag,am,an,ah,ai,ak,au,aw⟩,⟨z1,aA,aB,aC,a7,a8,bd,be,aD,aE,aF,a9,bc,bf,bh⟩⟩:=al.out _ gb
  have bv:W1.cell? ⟨w1.heap.size,0,none⟩=some (.bool sa):=by rw [<- aK];simp [go_sem]
  have bJ:W1.frozen? ⟨w1.heap.size,0,none⟩=false:=by rw [<- aK];simp [go_sem]
  have bw:W1.cell? ⟨w1.heap.size,1,none⟩=some (.bool sb):=by rw [<- aK];simp [go_sem]
  have bK:W1.frozen? ⟨w1.heap.size,1,none⟩=false:=by rw [<- aK];simp [go_sem]
  have bx:W1.cell? ⟨w1.heap.size,2,none⟩=some (.bool false):=by rw [<- aK];simp [go_sem]
  have bL:W1.frozen? ⟨w1.heap.size,2,none⟩=false:=by rw [<- aK];simp [go_sem]
  have z5:w1.heap.size<W1.heap.size:=by rw [<- aK];simp
  rw [aK]
  clear aK
  replace i0:=i0.to gb
  replace i1:=i1.to gb
  replace i2:=i2.to gb
  replace zb:=bS zb gb
  have b7:=Lib.hid (show ∀ W',Below W1.heap.size W1 W'->(Bx5 W' w.heap.size (.int .i64 c.ins) (.int .i64 c.rows) (.int .i64 c.cols) (.int .i64 c.regs) (.slice a0 n0 c0)/\Bx7 W' (w.heap.size+1) (.int .i64 op) (.int .i64 to) (.int .i64 xa) (.int .i64 xb) (.bool ng) (.slice a1 n1 c1) (.slice a2 n2 c2)/\Bx3 W' w1.heap.size (.bool sa) (.bool sb) (.bool false)) from fun W' hb => by
    refine ⟨bx5 hb ?_ ?_ ?_ ?_ ?_ ?_ ?_ ?_ ?_ ?_,bx7 hb ?_ ?_ ?_ ?_ ?_ ?_ ?_ ?_ ?_ ?_ ?_ ?_ ?_ ?_,bx3 hb ?_ ?_ ?_ ?_ ?_ ?_⟩
    all_goals first|assumption|assumption)
  replace gb:=Below.refl W1.heap.size W1
  go_wp2_with fail
  refine (zz op to xa xb ng _ _ ln ld _ (i1.to gb) true Hnum.out).mono ?_
  clear ae ah af ai ag ak am au an aw aA aD aB aE aC aF a7 a9 a8 bc bd bf be bh bv bJ bw bK bx bL
  rintro e w2 ⟨rfl,aL⟩
  replace gb:=bS gb aL
  obtain ⟨⟨z0,ae,af,ag,am,an,ah,ai,ak,au,aw⟩,⟨z1,aA,aB,aC,a7,a8,bd,be,aD,aE,aF,a9,bc,bf,bh⟩,⟨z5,bv,bw,bx,bJ,bK,bL⟩⟩:=b7.out _ gb
  go_wp2_with fail
  refine (zg sa xa g n L _ (i2.to gb) HL.out hn _ Hra.out).mono ?_
  rintro e w3 ⟨rfl,rfl⟩
  go_wp2_with fail
  refine (zg sb xb g n L _ (i2.to gb) HL.out hn _ Hrb.out).mono ?_
  rintro e w4 ⟨rfl,rfl⟩
  go_wp2_with fail
  go_ret
  exact ⟨rfl,bS zb gb⟩
 case true =>
  cases p2
  case false =>
   subst ho'
   go_enter Try.func15,Try.ntmps15
   go_wp2_with fail
   obtain ⟨W0,aq⟩:∃ W0,(w.alloc (.cells #[.int .i64 c.ins,.int .i64 c.rows,.int .i64 c.cols,.int .i64 c.regs,.slice a0 n0 c0] 30)).alloc (.cells #[.int .i64 op,.int .i64 to,.int .i64 xa,.int .i64 xb,.bool ng,.slice a1 n1 c1,.slice a2 n2 c2] 27)=W0:=⟨_,rfl⟩
   have al:=Lib.hid (show ∀ W',Below W0.heap.size W0 W'->(Bx5 W' w.heap.size (.int .i64 c.ins) (.int .i64 c.rows) (.int .i64 c.cols) (.int .i64 c.regs) (.slice a0 n0 c0)/\Bx7 W' (w.heap.size+1) (.int .i64 op) (.int .i64 to) (.int .i64 xa) (.int .i64 xb) (.bool ng) (.slice a1 n1 c1) (.slice a2 n2 c2)) from fun W' hb => by
     refine ⟨bx5 hb ?_ ?_ ?_ ?_ ?_ ?_ ?_ ?_ ?_ ?_,bx7 hb ?_ ?_ ?_ ?_ ?_ ?_ ?_ ?_ ?_ ?_ ?_ ?_ ?_ ?_⟩
     all_goals first|assumption|(rw [<- aq];simp [go_sem]))
   have zb:Below w.heap.size w W0:=by rw [<- aq];exact bS (bN _ _) (bN _ _)
   rw [aq]
   clear aq
   have i0:=hc.to zb
   have i1:=hx.to zb
   have i2:=hrow.to zb
   have gb:Below W0.heap.size W0 W0:=Below.refl _ _
   obtain ⟨⟨z0,ae,af,ag,am,an,ah,ai,ak,au,aw⟩,⟨z1,aA,aB,aC,a7,a8,bd,be,aD,aE,aF,a9,bc,bf,bh⟩⟩:=al.out _ gb
   go_wp2_with fail
   refine (zl op sa sb false true _ Hsa.out Hsb.out Hsp.out Hok.out).mono ?_
   clear ae ah af ai ag ak am au an aw aA aD aB aE aC aF a7 a9 a8 bc bd bf be bh
   rintro e w1 ⟨rfl,aT⟩
   replace gb:=bS gb aT
   obtain ⟨⟨z0,ae,af,ag,am,an,ah,ai,ak,au,aw⟩,⟨z1,aA,aB,aC,a7,a8,bd,be,aD,aE,aF,a9,bc,bf,bh⟩⟩:=al.out _ gb
   go_wp2_with fail
   obtain ⟨W1,aK⟩:∃ W1,w1.alloc (.cells #[.bool sa,.bool sb,.bool false] 58)=W1:=⟨_,rfl⟩
   have hb_W1:Below w1.heap.size w1 W1:=by rw [<- aK];exact bN _ _
   have cw:Hid (W1.heap.size=w1.heap.size+1):=by show _=_;rw [<- aK];simp
   clear ae ah af ai ag ak am au an aw aA aD aB aE aC aF a7 a9 a8 bc bd bf be bh
   replace gb:=bS gb hb_W1
   obtain ⟨⟨z0,ae,af,ag,am,an,ah,ai,ak,au,aw⟩,⟨z1,aA,aB,aC,a7,a8,bd,be,aD,aE,aF,a9,bc,bf,bh⟩⟩:=al.out _ gb
   have bv:W1.cell? ⟨w1.heap.size,0,none⟩=some (.bool sa):=by rw [<- aK];simp [go_sem]
   have bJ:W1.frozen? ⟨w1.heap.size,0,none⟩=false:=by rw [<- aK];simp [go_sem]
   have bw:W1.cell? ⟨w1.heap.size,1,none⟩=some (.bool sb):=by rw [<- aK];simp [go_sem]
   have bK:W1.frozen? ⟨w1.heap.size,1,none⟩=false:=by rw [<- aK];simp [go_sem]
   have bx:W1.cell? ⟨w1.heap.size,2,none⟩=some (.bool false):=by rw [<- aK];simp [go_sem]
   have bL:W1.frozen? ⟨w1.heap.size,2,none⟩=false:=by rw [<- aK];simp [go_sem]
   have z5:w1.heap.size<W1.heap.size:=by rw [<- aK];simp
   rw [aK]
   clear aK
   replace i0:=i0.to gb
   replace i1:=i1.to gb
   replace i2:=i2.to gb
   replace zb:=bS zb gb
   have b7:=Lib.hid (show ∀ W',Below W1.heap.size W1 W'->(Bx5 W' w.heap.size (.int .i64 c.ins) (.int .i64 c.rows) (.int .i64 c.cols) (.int .i64 c.regs) (.slice a0 n0 c0)/\Bx7 W' (w.heap.size+1) (.int .i64 op) (.int .i64 to) (.int .i64 xa) (.int .i64 xb) (.bool ng) (.slice a1 n1 c1) (.slice a2 n2 c2)/\Bx3 W' w1.heap.size (.bool sa) (.bool sb) (.bool false)) from fun W' hb => by
     refine ⟨bx5 hb ?_ ?_ ?_ ?_ ?_ ?_ ?_ ?_ ?_ ?_,bx7 hb ?_ ?_ ?_ ?_ ?_ ?_ ?_ ?_ ?_ ?_ ?_ ?_ ?_ ?_,bx3 hb ?_ ?_ ?_ ?_ ?_ ?_⟩
     all_goals first|assumption|assumption)
   replace gb:=Below.refl W1.heap.size W1
   go_wp2_with fail
   refine (zz op to xa xb ng _ _ ln ld _ (i1.to gb) true Hnum.out).mono ?_
   clear ae ah af ai ag ak am au an aw aA aD aB aE aC aF a7 a9 a8 bc bd bf be bh bv bJ bw bK bx bL
   rintro e w2 ⟨rfl,aL⟩
   replace gb:=bS gb aL
   obtain ⟨⟨z0,ae,af,ag,am,an,ah,ai,ak,au,aw⟩,⟨z1,aA,aB,aC,a7,a8,bd,be,aD,aE,aF,a9,bc,bf,bh⟩,⟨z5,bv,bw,bx,bJ,bK,bL⟩⟩:=b7.out _ gb
   go_wp2_with fail
   refine (zg sa xa g n L _ (i2.to gb) HL.out hn _ Hra.out).mono ?_
   rintro e w3 ⟨rfl,rfl⟩
   go_wp2_with fail
   refine (zg sb xb g n L _ (i2.to gb) HL.out hn _ Hrb.out).mono ?_
   rintro e w4 ⟨rfl,rfl⟩
   go_wp2_with fail
   go_ret
   exact ⟨rfl,bS zb gb⟩
  case true =>
   cases rb
   case false =>
    subst ho'
    go_enter Try.func15,Try.ntmps15
    go_wp2_with fail
    obtain ⟨W0,aq⟩:∃ W0,(w.alloc (.cells #[.int .i64 c.ins,.int .i64 c.rows,.int .i64 c.cols,.int .i64 c.regs,.slice a0 n0 c0] 30)).alloc (.cells #[.int .i64 op,.int .i64 to,.int .i64 xa,.int .i64 xb,.bool ng,.slice a1 n1 c1,.slice a2 n2 c2] 27)=W0:=⟨_,rfl⟩
    have al:=Lib.hid (show ∀ W',Below W0.heap.size W0 W'->(Bx5 W' w.heap.size (.int .i64 c.ins) (.int .i64 c.rows) (.int .i64 c.cols) (.int .i64 c.regs) (.slice a0 n0 c0)/\Bx7 W' (w.heap.size+1) (.int .i64 op) (.int .i64 to) (.int .i64 xa) (.int .i64 xb) (.bool ng) (.slice a1 n1 c1) (.slice a2 n2 c2)) from fun W' hb => by
      refine ⟨bx5 hb ?_ ?_ ?_ ?_ ?_ ?_ ?_ ?_ ?_ ?_,bx7 hb ?_ ?_ ?_ ?_ ?_ ?_ ?_ ?_ ?_ ?_ ?_ ?_ ?_ ?_⟩
      all_goals first|assumption|(rw [<- aq];simp [go_sem]))
    have zb:Below w.heap.size w W0:=by rw [<- aq];exact bS (bN _ _) (bN _ _)
    rw [aq]
    clear aq
    have i0:=hc.to zb
    have i1:=hx.to zb
    have i2:=hrow.to zb
    have gb:Below W0.heap.size W0 W0:=Below.refl _ _
    obtain ⟨⟨z0,ae,af,ag,am,an,ah,ai,ak,au,aw⟩,⟨z1,aA,aB,aC,a7,a8,bd,be,aD,aE,aF,a9,bc,bf,bh⟩⟩:=al.out _ gb
    go_wp2_with fail
    refine (zl op sa sb false true _ Hsa.out Hsb.out Hsp.out Hok.out).mono ?_
    clear ae ah af ai ag ak am au an aw aA aD aB aE aC aF a7 a9 a8 bc bd bf be bh
    rintro e w1 ⟨rfl,aT⟩
    replace gb:=bS gb aT
    obtain ⟨⟨z0,ae,af,ag,am,an,ah,ai,ak,au,aw⟩,⟨z1,aA,aB,aC,a7,a8,bd,be,aD,aE,aF,a9,bc,bf,bh⟩⟩:=al.out _ gb
    go_wp2_with fail
    obtain ⟨W1,aK⟩:∃ W1,w1.alloc (.cells #[.bool sa,.bool sb,.bool false] 58)=W1:=⟨_,rfl⟩
    have hb_W1:Below w1.heap.size w1 W1:=by rw [<- aK];exact bN _ _
    have cw:Hid (W1.heap.size=w1.heap.size+1):=by show _=_;rw [<- aK];simp
    clear ae ah af ai ag ak am au an aw aA aD aB aE aC aF a7 a9 a8 bc bd bf be bh
    replace gb:=bS gb hb_W1
    obtain ⟨⟨z0,ae,af,ag,am,an,ah,ai,ak,au,aw⟩,⟨z1,aA,aB,aC,a7,a8,bd,be,aD,aE,aF,a9,bc,bf,bh⟩⟩:=al.out _ gb
    have bv:W1.cell? ⟨w1.heap.size,0,none⟩=some (.bool sa):=by rw [<- aK];simp [go_sem]
    have bJ:W1.frozen? ⟨w1.heap.size,0,none⟩=false:=by rw [<- aK];simp [go_sem]
    have bw:W1.cell? ⟨w1.heap.size,1,none⟩=some (.bool sb):=by rw [<- aK];simp [go_sem]
    have bK:W1.frozen? ⟨w1.heap.size,1,none⟩=false:=by rw [<- aK];simp [go_sem]
    have bx:W1.cell? ⟨w1.heap.size,2,none⟩=some (.bool false):=by rw [<- aK];simp [go_sem]
    have bL:W1.frozen? ⟨w1.heap.size,2,none⟩=false:=by rw [<- aK];simp [go_sem]
    have z5:w1.heap.size<W1.heap.size:=by rw [<- aK];simp
    rw [aK]
    clear aK
    replace i0:=i0.to gb
    replace i1:=i1.to gb
    replace i2:=i2.to gb
    replace zb:=bS zb gb
    have b7:=Lib.hid (show ∀ W',Below W1.heap.size W1 W'->(Bx5 W' w.heap.size (.int .i64 c.ins) (.int .i64 c.rows) (.int .i64 c.cols) (.int .i64 c.regs) (.slice a0 n0 c0)/\Bx7 W' (w.heap.size+1) (.int .i64 op) (.int .i64 to) (.int .i64 xa) (.int .i64 xb) (.bool ng) (.slice a1 n1 c1) (.slice a2 n2 c2)/\Bx3 W' w1.heap.size (.bool sa) (.bool sb) (.bool false)) from fun W' hb => by
      refine ⟨bx5 hb ?_ ?_ ?_ ?_ ?_ ?_ ?_ ?_ ?_ ?_,bx7 hb ?_ ?_ ?_ ?_ ?_ ?_ ?_ ?_ ?_ ?_ ?_ ?_ ?_ ?_,bx3 hb ?_ ?_ ?_ ?_ ?_ ?_⟩
      all_goals first|assumption|assumption)
    replace gb:=Below.refl W1.heap.size W1
    go_wp2_with fail
    refine (zz op to xa xb ng _ _ ln ld _ (i1.to gb) true Hnum.out).mono ?_
    clear ae ah af ai ag ak am au an aw aA aD aB aE aC aF a7 a9 a8 bc bd bf be bh bv bJ bw bK bx bL
    rintro e w2 ⟨rfl,aL⟩
    replace gb:=bS gb aL
    obtain ⟨⟨z0,ae,af,ag,am,an,ah,ai,ak,au,aw⟩,⟨z1,aA,aB,aC,a7,a8,bd,be,aD,aE,aF,a9,bc,bf,bh⟩,⟨z5,bv,bw,bx,bJ,bK,bL⟩⟩:=b7.out _ gb
    go_wp2_with fail
    refine (zg sa xa g n L _ (i2.to gb) HL.out hn _ Hra.out).mono ?_
    rintro e w3 ⟨rfl,rfl⟩
    go_wp2_with fail
    refine (zg sb xb g n L _ (i2.to gb) HL.out hn _ Hrb.out).mono ?_
    rintro e w4 ⟨rfl,rfl⟩
    go_wp2_with fail
    go_ret
    exact ⟨rfl,bS zb gb⟩
   case true =>
    cases q1
    case false =>
     subst ho'
     go_enter Try.func15,Try.ntmps15
     go_wp2_with fail
     obtain ⟨W0,aq⟩:∃ W0,(w.alloc (.cells #[.int .i64 c.ins,.int .i64 c.rows,.int .i64 c.cols,.int .i64 c.regs,.slice a0 n0 c0] 30)).alloc (.cells #[.int .i64 op,.int .i64 to,.int .i64 xa,.int .i64 xb,.bool ng,.slice a1 n1 c1,.slice a2 n2 c2] 27)=W0:=⟨_,rfl⟩
     have al:=Lib.hid (show ∀ W',Below W0.heap.size W0 W'->(Bx5 W' w.heap.size (.int .i64 c.ins) (.int .i64 c.rows) (.int .i64 c.cols) (.int .i64 c.regs) (.slice a0 n0 c0)/\Bx7 W' (w.heap.size+1) (.int .i64 op) (.int .i64 to) (.int .i64 xa) (.int .i64 xb) (.bool ng) (.slice a1 n1 c1) (.slice a2 n2 c2)) from fun W' hb => by
       refine ⟨bx5 hb ?_ ?_ ?_ ?_ ?_ ?_ ?_ ?_ ?_ ?_,bx7 hb ?_ ?_ ?_ ?_ ?_ ?_ ?_ ?_ ?_ ?_ ?_ ?_ ?_ ?_⟩
       all_goals first|assumption|(rw [<- aq];simp [go_sem]))
     have zb:Below w.heap.size w W0:=by rw [<- aq];exact bS (bN _ _) (bN _ _)
     rw [aq]
     clear aq
     have i0:=hc.to zb
     have i1:=hx.to zb
     have i2:=hrow.to zb
     have gb:Below W0.heap.size W0 W0:=Below.refl _ _
     obtain ⟨⟨z0,ae,af,ag,am,an,ah,ai,ak,au,aw⟩,⟨z1,aA,aB,aC,a7,a8,bd,be,aD,aE,aF,a9,bc,bf,bh⟩⟩:=al.out _ gb
     go_wp2_with fail
     refine (zl op sa sb false true _ Hsa.out Hsb.out Hsp.out Hok.out).mono ?_
     clear ae ah af ai ag ak am au an aw aA aD aB aE aC aF a7 a9 a8 bc bd bf be bh
     rintro e w1 ⟨rfl,aT⟩
     replace gb:=bS gb aT
     obtain ⟨⟨z0,ae,af,ag,am,an,ah,ai,ak,au,aw⟩,⟨z1,aA,aB,aC,a7,a8,bd,be,aD,aE,aF,a9,bc,bf,bh⟩⟩:=al.out _ gb
     go_wp2_with fail
     obtain ⟨W1,aK⟩:∃ W1,w1.alloc (.cells #[.bool sa,.bool sb,.bool false] 58)=W1:=⟨_,rfl⟩
     have hb_W1:Below w1.heap.size w1 W1:=by rw [<- aK];exact bN _ _
     have cw:Hid (W1.heap.size=w1.heap.size+1):=by show _=_;rw [<- aK];simp
     clear ae ah af ai ag ak am au an aw aA aD aB aE aC aF a7 a9 a8 bc bd bf be bh
     replace gb:=bS gb hb_W1
     obtain ⟨⟨z0,ae,af,ag,am,an,ah,ai,ak,au,aw⟩,⟨z1,aA,aB,aC,a7,a8,bd,be,aD,aE,aF,a9,bc,bf,bh⟩⟩:=al.out _ gb
     have bv:W1.cell? ⟨w1.heap.size,0,none⟩=some (.bool sa):=by rw [<- aK];simp [go_sem]
     have bJ:W1.frozen? ⟨w1.heap.size,0,none⟩=false:=by rw [<- aK];simp [go_sem]
     have bw:W1.cell? ⟨w1.heap.size,1,none⟩=some (.bool sb):=by rw [<- aK];simp [go_sem]
     have bK:W1.frozen? ⟨w1.heap.size,1,none⟩=false:=by rw [<- aK];simp [go_sem]
     have bx:W1.cell? ⟨w1.heap.size,2,none⟩=some (.bool false):=by rw [<- aK];simp [go_sem]
     have bL:W1.frozen? ⟨w1.heap.size,2,none⟩=false:=by rw [<- aK];simp [go_sem]
     have z5:w1.heap.size<W1.heap.size:=by rw [<- aK];simp
     rw [aK]
     clear aK
     replace i0:=i0.to gb
     replace i1:=i1.to gb
     replace i2:=i2.to gb
     replace zb:=bS zb gb
     have b7:=Lib.hid (show ∀ W',Below W1.heap.size W1 W'->(Bx5 W' w.heap.size (.int .i64 c.ins) (.int .i64 c.rows) (.int .i64 c.cols) (.int .i64 c.regs) (.slice a0 n0 c0)/\Bx7 W' (w.heap.size+1) (.int .i64 op) (.int .i64 to) (.int .i64 xa) (.int .i64 xb) (.bool ng) (.slice a1 n1 c1) (.slice a2 n2 c2)/\Bx3 W' w1.heap.size (.bool sa) (.bool sb) (.bool false)) from fun W' hb => by
       refine ⟨bx5 hb ?_ ?_ ?_ ?_ ?_ ?_ ?_ ?_ ?_ ?_,bx7 hb ?_ ?_ ?_ ?_ ?_ ?_ ?_ ?_ ?_ ?_ ?_ ?_ ?_ ?_,bx3 hb ?_ ?_ ?_ ?_ ?_ ?_⟩
       all_goals first|assumption|assumption)
     replace gb:=Below.refl W1.heap.size W1
     go_wp2_with fail
     refine (zz op to xa xb ng _ _ ln ld _ (i1.to gb) true Hnum.out).mono ?_
     clear ae ah af ai ag ak am au an aw aA aD aB aE aC aF a7 a9 a8 bc bd bf be bh bv bJ bw bK bx bL
     rintro e w2 ⟨rfl,aL⟩
     replace gb:=bS gb aL
     obtain ⟨⟨z0,ae,af,ag,am,an,ah,ai,ak,au,aw⟩,⟨z1,aA,aB,aC,a7,a8,bd,be,aD,aE,aF,a9,bc,bf,bh⟩,⟨z5,bv,bw,bx,bJ,bK,bL⟩⟩:=b7.out _ gb
     go_wp2_with fail
     refine (zg sa xa g n L _ (i2.to gb) HL.out hn _ Hra.out).mono ?_
     rintro e w3 ⟨rfl,rfl⟩
     go_wp2_with fail
     refine (zg sb xb g n L _ (i2.to gb) HL.out hn _ Hrb.out).mono ?_
     rintro e w4 ⟨rfl,rfl⟩
     go_wp2_with fail
     go_ret
     exact ⟨rfl,bS zb gb⟩
    case true =>
     subst ho'
     go_enter Try.func15,Try.ntmps15
     go_wp2_with fail
     obtain ⟨W0,aq⟩:∃ W0,(w.alloc (.cells #[.int .i64 c.ins,.int .i64 c.rows,.int .i64 c.cols,.int .i64 c.regs,.slice a0 n0 c0] 30)).alloc (.cells #[.int .i64 op,.int .i64 to,.int .i64 xa,.int .i64 xb,.bool ng,.slice a1 n1 c1,.slice a2 n2 c2] 27)=W0:=⟨_,rfl⟩
     have al:=Lib.hid (show ∀ W',Below W0.heap.size W0 W'->(Bx5 W' w.heap.size (.int .i64 c.ins) (.int .i64 c.rows) (.int .i64 c.cols) (.int .i64 c.regs) (.slice a0 n0 c0)/\Bx7 W' (w.heap.size+1) (.int .i64 op) (.int .i64 to) (.int .i64 xa) (.int .i64 xb) (.bool ng) (.slice a1 n1 c1) (.slice a2 n2 c2)) from fun W' hb => by
       refine ⟨bx5 hb ?_ ?_ ?_ ?_ ?_ ?_ ?_ ?_ ?_ ?_,bx7 hb ?_ ?_ ?_ ?_ ?_ ?_ ?_ ?_ ?_ ?_ ?_ ?_ ?_ ?_⟩
       all_goals first|assumption|(rw [<- aq];simp [go_sem]))
     have zb:Below w.heap.size w W0:=by rw [<- aq];exact bS (bN _ _) (bN _ _)
     rw [aq]
     clear aq
     have i0:=hc.to zb
     have i1:=hx.to zb
     have i2:=hrow.to zb
     have gb:Below W0.heap.size W0 W0:=Below.refl _ _
     obtain ⟨⟨z0,ae,af,ag,am,an,ah,ai,ak,au,aw⟩,⟨z1,aA,aB,aC,a7,a8,bd,be,aD,aE,aF,a9,bc,bf,bh⟩⟩:=al.out _ gb
     go_wp2_with fail
     refine (zl op sa sb false true _ Hsa.out Hsb.out Hsp.out Hok.out).mono ?_
     clear ae ah af ai ag ak am au an aw aA aD aB aE aC aF a7 a9 a8 bc bd bf be bh
     rintro e w1 ⟨rfl,aT⟩
     replace gb:=bS gb aT
     obtain ⟨⟨z0,ae,af,ag,am,an,ah,ai,ak,au,aw⟩,⟨z1,aA,aB,aC,a7,a8,bd,be,aD,aE,aF,a9,bc,bf,bh⟩⟩:=al.out _ gb
     go_wp2_with fail
     obtain ⟨W1,aK⟩:∃ W1,w1.alloc (.cells #[.bool sa,.bool sb,.bool false] 58)=W1:=⟨_,rfl⟩
     have hb_W1:Below w1.heap.size w1 W1:=by rw [<- aK];exact bN _ _
     have cw:Hid (W1.heap.size=w1.heap.size+1):=by show _=_;rw [<- aK];simp
     clear ae ah af ai ag ak am au an aw aA aD aB aE aC aF a7 a9 a8 bc bd bf be bh
     replace gb:=bS gb hb_W1
     obtain ⟨⟨z0,ae,af,ag,am,an,ah,ai,ak,au,aw⟩,⟨z1,aA,aB,aC,a7,a8,bd,be,aD,aE,aF,a9,bc,bf,bh⟩⟩:=al.out _ gb
     have bv:W1.cell? ⟨w1.heap.size,0,none⟩=some (.bool sa):=by rw [<- aK];simp [go_sem]
     have bJ:W1.frozen? ⟨w1.heap.size,0,none⟩=false:=by rw [<- aK];simp [go_sem]
     have bw:W1.cell? ⟨w1.heap.size,1,none⟩=some (.bool sb):=by rw [<- aK];simp [go_sem]
     have bK:W1.frozen? ⟨w1.heap.size,1,none⟩=false:=by rw [<- aK];simp [go_sem]
     have bx:W1.cell? ⟨w1.heap.size,2,none⟩=some (.bool false):=by rw [<- aK];simp [go_sem]
     have bL:W1.frozen? ⟨w1.heap.size,2,none⟩=false:=by rw [<- aK];simp [go_sem]
     have z5:w1.heap.size<W1.heap.size:=by rw [<- aK];simp
     rw [aK]
     clear aK
     replace i0:=i0.to gb
     replace i1:=i1.to gb
     replace i2:=i2.to gb
     replace zb:=bS zb gb
     have b7:=Lib.hid (show ∀ W',Below W1.heap.size W1 W'->(Bx5 W' w.heap.size (.int .i64 c.ins) (.int .i64 c.rows) (.int .i64 c.cols) (.int .i64 c.regs) (.slice a0 n0 c0)/\Bx7 W' (w.heap.size+1) (.int .i64 op) (.int .i64 to) (.int .i64 xa) (.int .i64 xb) (.bool ng) (.slice a1 n1 c1) (.slice a2 n2 c2)/\Bx3 W' w1.heap.size (.bool sa) (.bool sb) (.bool false)) from fun W' hb => by
       refine ⟨bx5 hb ?_ ?_ ?_ ?_ ?_ ?_ ?_ ?_ ?_ ?_,bx7 hb ?_ ?_ ?_ ?_ ?_ ?_ ?_ ?_ ?_ ?_ ?_ ?_ ?_ ?_,bx3 hb ?_ ?_ ?_ ?_ ?_ ?_⟩
       all_goals first|assumption|assumption)
     replace gb:=Below.refl W1.heap.size W1
     go_wp2_with fail
     refine (zz op to xa xb ng _ _ ln ld _ (i1.to gb) true Hnum.out).mono ?_
     clear ae ah af ai ag ak am au an aw aA aD aB aE aC aF a7 a9 a8 bc bd bf be bh bv bJ bw bK bx bL
     rintro e w2 ⟨rfl,aL⟩
     replace gb:=bS gb aL
     obtain ⟨⟨z0,ae,af,ag,am,an,ah,ai,ak,au,aw⟩,⟨z1,aA,aB,aC,a7,a8,bd,be,aD,aE,aF,a9,bc,bf,bh⟩,⟨z5,bv,bw,bx,bJ,bK,bL⟩⟩:=b7.out _ gb
     go_wp2_with fail
     refine (zg sa xa g n L _ (i2.to gb) HL.out hn _ Hra.out).mono ?_
     rintro e w3 ⟨rfl,rfl⟩
     go_wp2_with fail
     refine (zg sb xb g n L _ (i2.to gb) HL.out hn _ Hrb.out).mono ?_
     rintro e w4 ⟨rfl,rfl⟩
     go_wp2_with fail
     go_ret
     exact ⟨rfl,bS zb gb⟩

theorem zgi (c:Cd) (v:Value) (op to xa xb:Int) (ng:Bool) (vn vd:Value) (ln ld:List Nat) (g n:Nat) (L:List Int) (w:World) (hc:IsC w c v) (hx:IsX w ⟨op,to,xa,xb,⟨ng,ln,ld⟩⟩ vn vd) (hrow:zaA w g n (fun i => .bool (decide ((i:Int) ∈ L)))) (hL:∀ x ∈ L,0<=x/\x<(n:Int)) (hn:n<=100000) (hnr:(n:Int)=c.regs) (hr:1<=c.rows/\c.rows<=40) (hcl:1<=c.cols/\c.cols<=40) (h0:0<=zh op) (hnum:zbo ⟨op,to,xa,xb,⟨ng,ln,ld⟩⟩=true) (h1:op=7) (o:Bool) (ho:zw c L ⟨op,to,xa,xb,⟨ng,ln,ld⟩⟩=o) :
  Calls Try.prog 15 #[aggC c v,.agg #[.int .i64 op,.int .i64 to,.int .i64 xa,.int .i64 xb,.bool ng,vn,vd],.slice (some ⟨g,0,none⟩) n n] w (fun e w' => e=.returned (.bool o)/\Below w.heap.size w w'):=by
 rw [zcU (x:=⟨op,to,xa,xb,⟨ng,ln,ld⟩⟩) h0 hnum,zfB (x:=⟨op,to,xa,xb,⟨ng,ln,ld⟩⟩) h0 (by show op≠0;first|assumption|omega),bOk_pow (x:=⟨op,to,xa,xb,⟨ng,ln,ld⟩⟩) h1] at ho
 obtain ⟨sa,hsa⟩:∃ b,decide (1<=zh op)=b:=⟨_,rfl⟩
 obtain ⟨sb,hsb⟩:∃ b,decide (zh op=2)=b:=⟨_,rfl⟩
 have hsp:decide (op=7)=true:=by simp;exact h1
 obtain ⟨ra,hra⟩:∃ b,(if sa=true then decide (xa ∈ L) else decide (xa=0))=b:=⟨_,rfl⟩
 obtain ⟨rb,hrb⟩:∃ b,(if sb=true then decide (xb ∈ L) else decide (xb=0))=b:=⟨_,rfl⟩
 obtain ⟨p1,tp1⟩:∃ b,decide (0<=xa)=b:=⟨_,rfl⟩
 obtain ⟨p2,tp2⟩:∃ b,decide (xa<c.ins)=b:=⟨_,rfl⟩
 obtain ⟨r1,tr1⟩:∃ b,decide (-21<=xb)=b:=⟨_,rfl⟩
 obtain ⟨r2,tr2⟩:∃ b,decide (xb<=21)=b:=⟨_,rfl⟩
 obtain ⟨q1,tq1⟩:∃ b,decide (0<=to)=b:=⟨_,rfl⟩
 obtain ⟨q2,tq2⟩:∃ b,decide (to<c.regs)=b:=⟨_,rfl⟩
 have t10:(op == 10)=false:=by simp;omega
 have t0:(op == 0)=false:=by simp;omega
 have pb:=zbd hr hcl
 have HM:IntKind.i64.wrap (c.rows*c.cols)=c.rows*c.cols:=IntWalk.i64_in _ (by omega)
 have ho':(ra && (r1 && r2) && q1 && q2)=o:=by
  have e:zJ c ⟨op,to,xa,xb,⟨ng,ln,ld⟩⟩=c.regs:=by unfold zJ;rw [if_neg (by show op≠10;first|assumption|omega)]
  rw [e] at ho
  subst ho hra hrb hsa hsb tp1 tp2 tr1 tr2 tq1 tq2
  rfl
 have Hsa:=Lib.hid hsa
 have Hsb:=Lib.hid hsb
 have Hsp:=Lib.hid hsp
 have Hok:=Lib.hid (decide_eq_true h0)
 have Hnum:=Lib.hid hnum
 have Hra:=Lib.hid hra
 have Hrb:=Lib.hid hrb
 have HL:=Lib.hid hL
 clear ho hsa hsb hsp hra hrb h0 hnum hnr hr hcl hL pb h1
 obtain ⟨a0,n0,c0,rfl,H0,hm0⟩:=hc.1.open
 obtain ⟨a1,n1,c1,rfl,H1,hm1⟩:=hx.1.1.open
 obtain ⟨a2,n2,c2,rfl,H2,hm2⟩:=hx.1.2.1.open
 cases r1
 case false =>
  cases ra
  case false =>
   subst ho'
   go_enter Try.func15,Try.ntmps15
   go_wp2_with fail
   obtain ⟨W0,aq⟩:∃ W0,(w.alloc (.cells #[.int .i64 c.ins,.int .i64 c.rows,.int .i64 c.cols,.int .i64 c.regs,.slice a0 n0 c0] 30)).alloc (.cells #[.int .i64 op,.int .i64 to,.int .i64 xa,.int .i64 xb,.bool ng,.slice a1 n1 c1,.slice a2 n2 c2] 27)=W0:=⟨_,rfl⟩
   have al:=Lib.hid (show ∀ W',Below W0.heap.size W0 W'->(Bx5 W' w.heap.size (.int .i64 c.ins) (.int .i64 c.rows) (.int .i64 c.cols) (.int .i64 c.regs) (.slice a0 n0 c0)/\Bx7 W' (w.heap.size+1) (.int .i64 op) (.int .i64 to) (.int .i64 xa) (.int .i64 xb) (.bool ng) (.slice a1 n1 c1) (.slice a2 n2 c2)) from fun W' hb => by
     refine ⟨bx5 hb ?_ ?_ ?_ ?_ ?_ ?_ ?_ ?_ ?_ ?_,bx7 hb ?_ ?_ ?_ ?_ ?_ ?_ ?_ ?_ ?_ ?_ ?_ ?_ ?_ ?_⟩
     all_goals first|assumption|(rw [<- aq];simp [go_sem]))
   have zb:Below w.heap.size w W0:=by rw [<- aq];exact bS (bN _ _) (bN _ _)
   rw [aq]
   clear aq
   have i0:=hc.to zb
   have i1:=hx.to zb
   have i2:=hrow.to zb
   have gb:Below W0.heap.size W0 W0:=Below.refl _ _
   obtain ⟨⟨z0,ae,af,ag,am,an,ah,ai,ak,au,aw⟩,⟨z1,aA,aB,aC,a7,a8,bd,be,aD,aE,aF,a9,bc,bf,bh⟩⟩:=al.out _ gb
   go_wp2_with fail
   refine (zl op sa sb true true _ Hsa.out Hsb.out Hsp.out Hok.out).mono ?_
   clear ae ah af ai ag ak am au an aw aA aD aB aE aC aF a7 a9 a8 bc bd bf be bh
   rintro e w1 ⟨rfl,aT⟩
   replace gb:=bS gb aT
   obtain ⟨⟨z0,ae,af,ag,am,an,ah,ai,ak,au,aw⟩,⟨z1,aA,aB,aC,a7,a8,bd,be,aD,aE,aF,a9,bc,bf,bh⟩⟩:=al.out _ gb
   go_wp2_with fail
   obtain ⟨W1,aK⟩:∃ W1,w1.alloc (.cells #[.bool sa,.bool sb,.bool true] 58)=W1:=⟨_,rfl⟩
   have hb_W1:Below w1.heap.size w1 W1:=by rw [<- aK];exact bN _ _
   have cw:Hid (W1.heap.size=w1.heap.size+1):=by show _=_;rw [<- aK];simp
   clear ae ah af ai ag ak am au an aw aA aD aB aE aC aF a7 a9 a8 bc bd bf be bh
   replace gb:=bS gb hb_W1
   obtain ⟨⟨z0,ae,af,ag,am,an,ah,ai,ak,au,aw⟩,⟨z1,aA,aB,aC,a7,a8,bd,be,aD,aE,aF,a9,bc,bf,bh⟩⟩:=al.out _ gb
   have bv:W1.cell? ⟨w1.heap.size,0,none⟩=some (.bool sa):=by rw [<- aK];simp [go_sem]
   have bJ:W1.frozen? ⟨w1.heap.size,0,none⟩=false:=by rw [<- aK];simp [go_sem]
   have bw:W1.cell? ⟨w1.heap.size,1,none⟩=some (.bool sb):=by rw [<- aK];simp [go_sem]
   have bK:W1.frozen? ⟨w1.heap.size,1,none⟩=false:=by rw [<- aK];simp [go_sem]
   have bx:W1.cell? ⟨w1.heap.size,2,none⟩=some (.bool true):=by rw [<- aK];simp [go_sem]
   have bL:W1.frozen? ⟨w1.heap.size,2,none⟩=false:=by rw [<- aK];simp [go_sem]
   have z5:w1.heap.size<W1.heap.size:=by rw [<- aK];simp
   rw [aK]
   clear aK
   replace i0:=i0.to gb
   replace i1:=i1.to gb
   replace i2:=i2.to gb
   replace zb:=bS zb gb
   have b7:=Lib.hid (show ∀ W',Below W1.heap.size W1 W'->(Bx5 W' w.heap.size (.int .i64 c.ins) (.int .i64 c.rows) (.int .i64 c.cols) (.int .i64 c.regs) (.slice a0 n0 c0)/\Bx7 W' (w.heap.size+1) (.int .i64 op) (.int .i64 to) (.int .i64 xa) (.int .i64 xb) (.bool ng) (.slice a1 n1 c1) (.slice a2 n2 c2)/\Bx3 W' w1.heap.size (.bool sa) (.bool sb) (.bool true)) from fun W' hb => by
     refine ⟨bx5 hb ?_ ?_ ?_ ?_ ?_ ?_ ?_ ?_ ?_ ?_,bx7 hb ?_ ?_ ?_ ?_ ?_ ?_ ?_ ?_ ?_ ?_ ?_ ?_ ?_ ?_,bx3 hb ?_ ?_ ?_ ?_ ?_ ?_⟩
     all_goals first|assumption|assumption)
   replace gb:=Below.refl W1.heap.size W1
   go_wp2_with fail
   refine (zz op to xa xb ng _ _ ln ld _ (i1.to gb) true Hnum.out).mono ?_
   clear ae ah af ai ag ak am au an aw aA aD aB aE aC aF a7 a9 a8 bc bd bf be bh bv bJ bw bK bx bL
   rintro e w2 ⟨rfl,aL⟩
   replace gb:=bS gb aL
   obtain ⟨⟨z0,ae,af,ag,am,an,ah,ai,ak,au,aw⟩,⟨z1,aA,aB,aC,a7,a8,bd,be,aD,aE,aF,a9,bc,bf,bh⟩,⟨z5,bv,bw,bx,bJ,bK,bL⟩⟩:=b7.out _ gb
   go_wp2_with fail
   refine (zg sa xa g n L _ (i2.to gb) HL.out hn _ Hra.out).mono ?_
   rintro e w3 ⟨rfl,rfl⟩
   go_wp2_with fail
   refine (zg sb xb g n L _ (i2.to gb) HL.out hn _ Hrb.out).mono ?_
   rintro e w4 ⟨rfl,rfl⟩
   go_wp2_with fail
   go_ret
   exact ⟨rfl,bS zb gb⟩
  case true =>
   subst ho'
   go_enter Try.func15,Try.ntmps15
   go_wp2_with fail
   obtain ⟨W0,aq⟩:∃ W0,(w.alloc (.cells #[.int .i64 c.ins,.int .i64 c.rows,.int .i64 c.cols,.int .i64 c.regs,.slice a0 n0 c0] 30)).alloc (.cells #[.int .i64 op,.int .i64 to,.int .i64 xa,.int .i64 xb,.bool ng,.slice a1 n1 c1,.slice a2 n2 c2] 27)=W0:=⟨_,rfl⟩
   have al:=Lib.hid (show ∀ W',Below W0.heap.size W0 W'->(Bx5 W' w.heap.size (.int .i64 c.ins) (.int .i64 c.rows) (.int .i64 c.cols) (.int .i64 c.regs) (.slice a0 n0 c0)/\Bx7 W' (w.heap.size+1) (.int .i64 op) (.int .i64 to) (.int .i64 xa) (.int .i64 xb) (.bool ng) (.slice a1 n1 c1) (.slice a2 n2 c2)) from fun W' hb => by
     refine ⟨bx5 hb ?_ ?_ ?_ ?_ ?_ ?_ ?_ ?_ ?_ ?_,bx7 hb ?_ ?_ ?_ ?_ ?_ ?_ ?_ ?_ ?_ ?_ ?_ ?_ ?_ ?_⟩
     all_goals first|assumption|(rw [<- aq];simp [go_sem]))
   have zb:Below w.heap.size w W0:=by rw [<- aq];exact bS (bN _ _) (bN _ _)
   rw [aq]
   clear aq
   have i0:=hc.to zb
   have i1:=hx.to zb
   have i2:=hrow.to zb
   have gb:Below W0.heap.size W0 W0:=Below.refl _ _
   obtain ⟨⟨z0,ae,af,ag,am,an,ah,ai,ak,au,aw⟩,⟨z1,aA,aB,aC,a7,a8,bd,be,aD,aE,aF,a9,bc,bf,bh⟩⟩:=al.out _ gb
   go_wp2_with fail
   refine (zl op sa sb true true _ Hsa.out Hsb.out Hsp.out Hok.out).mono ?_
   clear ae ah af ai ag ak am au an aw aA aD aB aE aC aF a7 a9 a8 bc bd bf be bh
   rintro e w1 ⟨rfl,aT⟩
   replace gb:=bS gb aT
   obtain ⟨⟨z0,ae,af,ag,am,an,ah,ai,ak,au,aw⟩,⟨z1,aA,aB,aC,a7,a8,bd,be,aD,aE,aF,a9,bc,bf,bh⟩⟩:=al.out _ gb
   go_wp2_with fail
   obtain ⟨W1,aK⟩:∃ W1,w1.alloc (.cells #[.bool sa,.bool sb,.bool true] 58)=W1:=⟨_,rfl⟩
   have hb_W1:Below w1.heap.size w1 W1:=by rw [<- aK];exact bN _ _
   have cw:Hid (W1.heap.size=w1.heap.size+1):=by show _=_;rw [<- aK];simp
   clear ae ah af ai ag ak am au an aw aA aD aB aE aC aF a7 a9 a8 bc bd bf be bh
   replace gb:=bS gb hb_W1
   obtain ⟨⟨z0,ae,af,ag,am,an,ah,ai,ak,au,aw⟩,⟨z1,aA,aB,aC,a7,a8,bd,be,aD,aE,aF,a9,bc,bf,bh⟩⟩:=al.out _ gb
   have bv:W1.cell? ⟨w1.heap.size,0,none⟩=some (.bool sa):=by rw [<- aK];simp [go_sem]
   have bJ:W1.frozen? ⟨w1.heap.size,0,none⟩=false:=by rw [<- aK];simp [go_sem]
   have bw:W1.cell? ⟨w1.heap.size,1,none⟩=some (.bool sb):=by rw [<- aK];simp [go_sem]
   have bK:W1.frozen? ⟨w1.heap.size,1,none⟩=false:=by rw [<- aK];simp [go_sem]
   have bx:W1.cell? ⟨w1.heap.size,2,none⟩=some (.bool true):=by rw [<- aK];simp [go_sem]
   have bL:W1.frozen? ⟨w1.heap.size,2,none⟩=false:=by rw [<- aK];simp [go_sem]
   have z5:w1.heap.size<W1.heap.size:=by rw [<- aK];simp
   rw [aK]
   clear aK
   replace i0:=i0.to gb
   replace i1:=i1.to gb
   replace i2:=i2.to gb
   replace zb:=bS zb gb
   have b7:=Lib.hid (show ∀ W',Below W1.heap.size W1 W'->(Bx5 W' w.heap.size (.int .i64 c.ins) (.int .i64 c.rows) (.int .i64 c.cols) (.int .i64 c.regs) (.slice a0 n0 c0)/\Bx7 W' (w.heap.size+1) (.int .i64 op) (.int .i64 to) (.int .i64 xa) (.int .i64 xb) (.bool ng) (.slice a1 n1 c1) (.slice a2 n2 c2)/\Bx3 W' w1.heap.size (.bool sa) (.bool sb) (.bool true)) from fun W' hb => by
     refine ⟨bx5 hb ?_ ?_ ?_ ?_ ?_ ?_ ?_ ?_ ?_ ?_,bx7 hb ?_ ?_ ?_ ?_ ?_ ?_ ?_ ?_ ?_ ?_ ?_ ?_ ?_ ?_,bx3 hb ?_ ?_ ?_ ?_ ?_ ?_⟩
     all_goals first|assumption|assumption)
   replace gb:=Below.refl W1.heap.size W1
   go_wp2_with fail
   refine (zz op to xa xb ng _ _ ln ld _ (i1.to gb) true Hnum.out).mono ?_
   clear ae ah af ai ag ak am au an aw aA aD aB aE aC aF a7 a9 a8 bc bd bf be bh bv bJ bw bK bx bL
   rintro e w2 ⟨rfl,aL⟩
   replace gb:=bS gb aL
   obtain ⟨⟨z0,ae,af,ag,am,an,ah,ai,ak,au,aw⟩,⟨z1,aA,aB,aC,a7,a8,bd,be,aD,aE,aF,a9,bc,bf,bh⟩,⟨z5,bv,bw,bx,bJ,bK,bL⟩⟩:=b7.out _ gb
   go_wp2_with fail
   refine (zg sa xa g n L _ (i2.to gb) HL.out hn _ Hra.out).mono ?_
   rintro e w3 ⟨rfl,rfl⟩
   go_wp2_with fail
   refine (zg sb xb g n L _ (i2.to gb) HL.out hn _ Hrb.out).mono ?_
   rintro e w4 ⟨rfl,rfl⟩
   go_wp2_with fail
   go_ret
   exact ⟨rfl,bS zb gb⟩
 case true =>
  cases ra
  case false =>
   subst ho'
   go_enter Try.func15,Try.ntmps15
   go_wp2_with fail
   obtain ⟨W0,aq⟩:∃ W0,(w.alloc (.cells #[.int .i64 c.ins,.int .i64 c.rows,.int .i64 c.cols,.int .i64 c.regs,.slice a0 n0 c0] 30)).alloc (.cells #[.int .i64 op,.int .i64 to,.int .i64 xa,.int .i64 xb,.bool ng,.slice a1 n1 c1,.slice a2 n2 c2] 27)=W0:=⟨_,rfl⟩
   have al:=Lib.hid (show ∀ W',Below W0.heap.size W0 W'->(Bx5 W' w.heap.size (.int .i64 c.ins) (.int .i64 c.rows) (.int .i64 c.cols) (.int .i64 c.regs) (.slice a0 n0 c0)/\Bx7 W' (w.heap.size+1) (.int .i64 op) (.int .i64 to) (.int .i64 xa) (.int .i64 xb) (.bool ng) (.slice a1 n1 c1) (.slice a2 n2 c2)) from fun W' hb => by
     refine ⟨bx5 hb ?_ ?_ ?_ ?_ ?_ ?_ ?_ ?_ ?_ ?_,bx7 hb ?_ ?_ ?_ ?_ ?_ ?_ ?_ ?_ ?_ ?_ ?_ ?_ ?_ ?_⟩
     all_goals first|assumption|(rw [<- aq];simp [go_sem]))
   have zb:Below w.heap.size w W0:=by rw [<- aq];exact bS (bN _ _) (bN _ _)
   rw [aq]
   clear aq
   have i0:=hc.to zb
   have i1:=hx.to zb
   have i2:=hrow.to zb
   have gb:Below W0.heap.size W0 W0:=Below.refl _ _
   obtain ⟨⟨z0,ae,af,ag,am,an,ah,ai,ak,au,aw⟩,⟨z1,aA,aB,aC,a7,a8,bd,be,aD,aE,aF,a9,bc,bf,bh⟩⟩:=al.out _ gb
   go_wp2_with fail
   refine (zl op sa sb true true _ Hsa.out Hsb.out Hsp.out Hok.out).mono ?_
   clear ae ah af ai ag ak am au an aw aA aD aB aE aC aF a7 a9 a8 bc bd bf be bh
   rintro e w1 ⟨rfl,aT⟩
   replace gb:=bS gb aT
   obtain ⟨⟨z0,ae,af,ag,am,an,ah,ai,ak,au,aw⟩,⟨z1,aA,aB,aC,a7,a8,bd,be,aD,aE,aF,a9,bc,bf,bh⟩⟩:=al.out _ gb
   go_wp2_with fail
   obtain ⟨W1,aK⟩:∃ W1,w1.alloc (.cells #[.bool sa,.bool sb,.bool true] 58)=W1:=⟨_,rfl⟩
   have hb_W1:Below w1.heap.size w1 W1:=by rw [<- aK];exact bN _ _
   have cw:Hid (W1.heap.size=w1.heap.size+1):=by show _=_;rw [<- aK];simp
   clear ae ah af ai ag ak am au an aw aA aD aB aE aC aF a7 a9 a8 bc bd bf be bh
   replace gb:=bS gb hb_W1
   obtain ⟨⟨z0,ae,af,ag,am,an,ah,ai,ak,au,aw⟩,⟨z1,aA,aB,aC,a7,a8,bd,be,aD,aE,aF,a9,bc,bf,bh⟩⟩:=al.out _ gb
   have bv:W1.cell? ⟨w1.heap.size,0,none⟩=some (.bool sa):=by rw [<- aK];simp [go_sem]
   have bJ:W1.frozen? ⟨w1.heap.size,0,none⟩=false:=by rw [<- aK];simp [go_sem]
   have bw:W1.cell? ⟨w1.heap.size,1,none⟩=some (.bool sb):=by rw [<- aK];simp [go_sem]
   have bK:W1.frozen? ⟨w1.heap.size,1,none⟩=false:=by rw [<- aK];simp [go_sem]
   have bx:W1.cell? ⟨w1.heap.size,2,none⟩=some (.bool true):=by rw [<- aK];simp [go_sem]
   have bL:W1.frozen? ⟨w1.heap.size,2,none⟩=false:=by rw [<- aK];simp [go_sem]
   have z5:w1.heap.size<W1.heap.size:=by rw [<- aK];simp
   rw [aK]
   clear aK
   replace i0:=i0.to gb
   replace i1:=i1.to gb
   replace i2:=i2.to gb
   replace zb:=bS zb gb
   have b7:=Lib.hid (show ∀ W',Below W1.heap.size W1 W'->(Bx5 W' w.heap.size (.int .i64 c.ins) (.int .i64 c.rows) (.int .i64 c.cols) (.int .i64 c.regs) (.slice a0 n0 c0)/\Bx7 W' (w.heap.size+1) (.int .i64 op) (.int .i64 to) (.int .i64 xa) (.int .i64 xb) (.bool ng) (.slice a1 n1 c1) (.slice a2 n2 c2)/\Bx3 W' w1.heap.size (.bool sa) (.bool sb) (.bool true)) from fun W' hb => by
     refine ⟨bx5 hb ?_ ?_ ?_ ?_ ?_ ?_ ?_ ?_ ?_ ?_,bx7 hb ?_ ?_ ?_ ?_ ?_ ?_ ?_ ?_ ?_ ?_ ?_ ?_ ?_ ?_,bx3 hb ?_ ?_ ?_ ?_ ?_ ?_⟩
     all_goals first|assumption|assumption)
   replace gb:=Below.refl W1.heap.size W1
   go_wp2_with fail
   refine (zz op to xa xb ng _ _ ln ld _ (i1.to gb) true Hnum.out).mono ?_
   clear ae ah af ai ag ak am au an aw aA aD aB aE aC aF a7 a9 a8 bc bd bf be bh bv bJ bw bK bx bL
   rintro e w2 ⟨rfl,aL⟩
   replace gb:=bS gb aL
   obtain ⟨⟨z0,ae,af,ag,am,an,ah,ai,ak,au,aw⟩,⟨z1,aA,aB,aC,a7,a8,bd,be,aD,aE,aF,a9,bc,bf,bh⟩,⟨z5,bv,bw,bx,bJ,bK,bL⟩⟩:=b7.out _ gb
   go_wp2_with fail
   refine (zg sa xa g n L _ (i2.to gb) HL.out hn _ Hra.out).mono ?_
   rintro e w3 ⟨rfl,rfl⟩
   go_wp2_with fail
   refine (zg sb xb g n L _ (i2.to gb) HL.out hn _ Hrb.out).mono ?_
   rintro e w4 ⟨rfl,rfl⟩
   go_wp2_with fail
   go_ret
   exact ⟨rfl,bS zb gb⟩
  case true =>
   cases r2
   case false =>
    subst ho'
    go_enter Try.func15,Try.ntmps15
    go_wp2_with fail
    obtain ⟨W0,aq⟩:∃ W0,(w.alloc (.cells #[.int .i64 c.ins,.int .i64 c.rows,.int .i64 c.cols,.int .i64 c.regs,.slice a0 n0 c0] 30)).alloc (.cells #[.int .i64 op,.int .i64 to,.int .i64 xa,.int .i64 xb,.bool ng,.slice a1 n1 c1,.slice a2 n2 c2] 27)=W0:=⟨_,rfl⟩
    have al:=Lib.hid (show ∀ W',Below W0.heap.size W0 W'->(Bx5 W' w.heap.size (.int .i64 c.ins) (.int .i64 c.rows) (.int .i64 c.cols) (.int .i64 c.regs) (.slice a0 n0 c0)/\Bx7 W' (w.heap.size+1) (.int .i64 op) (.int .i64 to) (.int .i64 xa) (.int .i64 xb) (.bool ng) (.slice a1 n1 c1) (.slice a2 n2 c2)) from fun W' hb => by
      refine ⟨bx5 hb ?_ ?_ ?_ ?_ ?_ ?_ ?_ ?_ ?_ ?_,bx7 hb ?_ ?_ ?_ ?_ ?_ ?_ ?_ ?_ ?_ ?_ ?_ ?_ ?_ ?_⟩
      all_goals first|assumption|(rw [<- aq];simp [go_sem]))
    have zb:Below w.heap.size w W0:=by rw [<- aq];exact bS (bN _ _) (bN _ _)
    rw [aq]
    clear aq
    have i0:=hc.to zb
    have i1:=hx.to zb
    have i2:=hrow.to zb
    have gb:Below W0.heap.size W0 W0:=Below.refl _ _
    obtain ⟨⟨z0,ae,af,ag,am,an,ah,ai,ak,au,aw⟩,⟨z1,aA,aB,aC,a7,a8,bd,be,aD,aE,aF,a9,bc,bf,bh⟩⟩:=al.out _ gb
    go_wp2_with fail
    refine (zl op sa sb true true _ Hsa.out Hsb.out Hsp.out Hok.out).mono ?_
    clear ae ah af ai ag ak am au an aw aA aD aB aE aC aF a7 a9 a8 bc bd bf be bh
    rintro e w1 ⟨rfl,aT⟩
    replace gb:=bS gb aT
    obtain ⟨⟨z0,ae,af,ag,am,an,ah,ai,ak,au,aw⟩,⟨z1,aA,aB,aC,a7,a8,bd,be,aD,aE,aF,a9,bc,bf,bh⟩⟩:=al.out _ gb
    go_wp2_with fail
    obtain ⟨W1,aK⟩:∃ W1,w1.alloc (.cells #[.bool sa,.bool sb,.bool true] 58)=W1:=⟨_,rfl⟩
    have hb_W1:Below w1.heap.size w1 W1:=by rw [<- aK];exact bN _ _
    have cw:Hid (W1.heap.size=w1.heap.size+1):=by show _=_;rw [<- aK];simp
    clear ae ah af ai ag ak am au an aw aA aD aB aE aC aF a7 a9 a8 bc bd bf be bh
    replace gb:=bS gb hb_W1
    obtain ⟨⟨z0,ae,af,ag,am,an,ah,ai,ak,au,aw⟩,⟨z1,aA,aB,aC,a7,a8,bd,be,aD,aE,aF,a9,bc,bf,bh⟩⟩:=al.out _ gb
    have bv:W1.cell? ⟨w1.heap.size,0,none⟩=some (.bool sa):=by rw [<- aK];simp [go_sem]
    have bJ:W1.frozen? ⟨w1.heap.size,0,none⟩=false:=by rw [<- aK];simp [go_sem]
    have bw:W1.cell? ⟨w1.heap.size,1,none⟩=some (.bool sb):=by rw [<- aK];simp [go_sem]
    have bK:W1.frozen? ⟨w1.heap.size,1,none⟩=false:=by rw [<- aK];simp [go_sem]
    have bx:W1.cell? ⟨w1.heap.size,2,none⟩=some (.bool true):=by rw [<- aK];simp [go_sem]
    have bL:W1.frozen? ⟨w1.heap.size,2,none⟩=false:=by rw [<- aK];simp [go_sem]
    have z5:w1.heap.size<W1.heap.size:=by rw [<- aK];simp
    rw [aK]
    clear aK
    replace i0:=i0.to gb
    replace i1:=i1.to gb
    replace i2:=i2.to gb
    replace zb:=bS zb gb
    have b7:=Lib.hid (show ∀ W',Below W1.heap.size W1 W'->(Bx5 W' w.heap.size (.int .i64 c.ins) (.int .i64 c.rows) (.int .i64 c.cols) (.int .i64 c.regs) (.slice a0 n0 c0)/\Bx7 W' (w.heap.size+1) (.int .i64 op) (.int .i64 to) (.int .i64 xa) (.int .i64 xb) (.bool ng) (.slice a1 n1 c1) (.slice a2 n2 c2)/\Bx3 W' w1.heap.size (.bool sa) (.bool sb) (.bool true)) from fun W' hb => by
      refine ⟨bx5 hb ?_ ?_ ?_ ?_ ?_ ?_ ?_ ?_ ?_ ?_,bx7 hb ?_ ?_ ?_ ?_ ?_ ?_ ?_ ?_ ?_ ?_ ?_ ?_ ?_ ?_,bx3 hb ?_ ?_ ?_ ?_ ?_ ?_⟩
      all_goals first|assumption|assumption)
    replace gb:=Below.refl W1.heap.size W1
    go_wp2_with fail
    refine (zz op to xa xb ng _ _ ln ld _ (i1.to gb) true Hnum.out).mono ?_
    clear ae ah af ai ag ak am au an aw aA aD aB aE aC aF a7 a9 a8 bc bd bf be bh bv bJ bw bK bx bL
    rintro e w2 ⟨rfl,aL⟩
    replace gb:=bS gb aL
    obtain ⟨⟨z0,ae,af,ag,am,an,ah,ai,ak,au,aw⟩,⟨z1,aA,aB,aC,a7,a8,bd,be,aD,aE,aF,a9,bc,bf,bh⟩,⟨z5,bv,bw,bx,bJ,bK,bL⟩⟩:=b7.out _ gb
    go_wp2_with fail
    refine (zg sa xa g n L _ (i2.to gb) HL.out hn _ Hra.out).mono ?_
    rintro e w3 ⟨rfl,rfl⟩
    go_wp2_with fail
    refine (zg sb xb g n L _ (i2.to gb) HL.out hn _ Hrb.out).mono ?_
    rintro e w4 ⟨rfl,rfl⟩
    go_wp2_with fail
    go_ret
    exact ⟨rfl,bS zb gb⟩
   case true =>
    cases q1
    case false =>
     subst ho'
     go_enter Try.func15,Try.ntmps15
     go_wp2_with fail
     obtain ⟨W0,aq⟩:∃ W0,(w.alloc (.cells #[.int .i64 c.ins,.int .i64 c.rows,.int .i64 c.cols,.int .i64 c.regs,.slice a0 n0 c0] 30)).alloc (.cells #[.int .i64 op,.int .i64 to,.int .i64 xa,.int .i64 xb,.bool ng,.slice a1 n1 c1,.slice a2 n2 c2] 27)=W0:=⟨_,rfl⟩
     have al:=Lib.hid (show ∀ W',Below W0.heap.size W0 W'->(Bx5 W' w.heap.size (.int .i64 c.ins) (.int .i64 c.rows) (.int .i64 c.cols) (.int .i64 c.regs) (.slice a0 n0 c0)/\Bx7 W' (w.heap.size+1) (.int .i64 op) (.int .i64 to) (.int .i64 xa) (.int .i64 xb) (.bool ng) (.slice a1 n1 c1) (.slice a2 n2 c2)) from fun W' hb => by
       refine ⟨bx5 hb ?_ ?_ ?_ ?_ ?_ ?_ ?_ ?_ ?_ ?_,bx7 hb ?_ ?_ ?_ ?_ ?_ ?_ ?_ ?_ ?_ ?_ ?_ ?_ ?_ ?_⟩
       all_goals first|assumption|(rw [<- aq];simp [go_sem]))
     have zb:Below w.heap.size w W0:=by rw [<- aq];exact bS (bN _ _) (bN _ _)
     rw [aq]
     clear aq
     have i0:=hc.to zb
     have i1:=hx.to zb
     have i2:=hrow.to zb
     have gb:Below W0.heap.size W0 W0:=Below.refl _ _
     obtain ⟨⟨z0,ae,af,ag,am,an,ah,ai,ak,au,aw⟩,⟨z1,aA,aB,aC,a7,a8,bd,be,aD,aE,aF,a9,bc,bf,bh⟩⟩:=al.out _ gb
     go_wp2_with fail
     refine (zl op sa sb true true _ Hsa.out Hsb.out Hsp.out Hok.out).mono ?_
     clear ae ah af ai ag ak am au an aw aA aD aB aE aC aF a7 a9 a8 bc bd bf be bh
     rintro e w1 ⟨rfl,aT⟩
     replace gb:=bS gb aT
     obtain ⟨⟨z0,ae,af,ag,am,an,ah,ai,ak,au,aw⟩,⟨z1,aA,aB,aC,a7,a8,bd,be,aD,aE,aF,a9,bc,bf,bh⟩⟩:=al.out _ gb
     go_wp2_with fail
     obtain ⟨W1,aK⟩:∃ W1,w1.alloc (.cells #[.bool sa,.bool sb,.bool true] 58)=W1:=⟨_,rfl⟩
     have hb_W1:Below w1.heap.size w1 W1:=by rw [<- aK];exact bN _ _
     have cw:Hid (W1.heap.size=w1.heap.size+1):=by show _=_;rw [<- aK];simp
     clear ae ah af ai ag ak am au an aw aA aD aB aE aC aF a7 a9 a8 bc bd bf be bh
     replace gb:=bS gb hb_W1
     obtain ⟨⟨z0,ae,af,ag,am,an,ah,ai,ak,au,aw⟩,⟨z1,aA,aB,aC,a7,a8,bd,be,aD,aE,aF,a9,bc,bf,bh⟩⟩:=al.out _ gb
     have bv:W1.cell? ⟨w1.heap.size,0,none⟩=some (.bool sa):=by rw [<- aK];simp [go_sem]
     have bJ:W1.frozen? ⟨w1.heap.size,0,none⟩=false:=by rw [<- aK];simp [go_sem]
     have bw:W1.cell? ⟨w1.heap.size,1,none⟩=some (.bool sb):=by rw [<- aK];simp [go_sem]
     have bK:W1.frozen? ⟨w1.heap.size,1,none⟩=false:=by rw [<- aK];simp [go_sem]
     have bx:W1.cell? ⟨w1.heap.size,2,none⟩=some (.bool true):=by rw [<- aK];simp [go_sem]
     have bL:W1.frozen? ⟨w1.heap.size,2,none⟩=false:=by rw [<- aK];simp [go_sem]
     have z5:w1.heap.size<W1.heap.size:=by rw [<- aK];simp
     rw [aK]
     clear aK
     replace i0:=i0.to gb
     replace i1:=i1.to gb
     replace i2:=i2.to gb
     replace zb:=bS zb gb
     have b7:=Lib.hid (show ∀ W',Below W1.heap.size W1 W'->(Bx5 W' w.heap.size (.int .i64 c.ins) (.int .i64 c.rows) (.int .i64 c.cols) (.int .i64 c.regs) (.slice a0 n0 c0)/\Bx7 W' (w.heap.size+1) (.int .i64 op) (.int .i64 to) (.int .i64 xa) (.int .i64 xb) (.bool ng) (.slice a1 n1 c1) (.slice a2 n2 c2)/\Bx3 W' w1.heap.size (.bool sa) (.bool sb) (.bool true)) from fun W' hb => by
       refine ⟨bx5 hb ?_ ?_ ?_ ?_ ?_ ?_ ?_ ?_ ?_ ?_,bx7 hb ?_ ?_ ?_ ?_ ?_ ?_ ?_ ?_ ?_ ?_ ?_ ?_ ?_ ?_,bx3 hb ?_ ?_ ?_ ?_ ?_ ?_⟩
       all_goals first|assumption|assumption)
     replace gb:=Below.refl W1.heap.size W1
     go_wp2_with fail
     refine (zz op to xa xb ng _ _ ln ld _ (i1.to gb) true Hnum.out).mono ?_
     clear ae ah af ai ag ak am au an aw aA aD aB aE aC aF a7 a9 a8 bc bd bf be bh bv bJ bw bK bx bL
     rintro e w2 ⟨rfl,aL⟩
     replace gb:=bS gb aL
     obtain ⟨⟨z0,ae,af,ag,am,an,ah,ai,ak,au,aw⟩,⟨z1,aA,aB,aC,a7,a8,bd,be,aD,aE,aF,a9,bc,bf,bh⟩,⟨z5,bv,bw,bx,bJ,bK,bL⟩⟩:=b7.out _ gb
     go_wp2_with fail
     refine (zg sa xa g n L _ (i2.to gb) HL.out hn _ Hra.out).mono ?_
     rintro e w3 ⟨rfl,rfl⟩
     go_wp2_with fail
     refine (zg sb xb g n L _ (i2.to gb) HL.out hn _ Hrb.out).mono ?_
     rintro e w4 ⟨rfl,rfl⟩
     go_wp2_with fail
     go_ret
     exact ⟨rfl,bS zb gb⟩
    case true =>
     subst ho'
     go_enter Try.func15,Try.ntmps15
     go_wp2_with fail
     obtain ⟨W0,aq⟩:∃ W0,(w.alloc (.cells #[.int .i64 c.ins,.int .i64 c.rows,.int .i64 c.cols,.int .i64 c.regs,.slice a0 n0 c0] 30)).alloc (.cells #[.int .i64 op,.int .i64 to,.int .i64 xa,.int .i64 xb,.bool ng,.slice a1 n1 c1,.slice a2 n2 c2] 27)=W0:=⟨_,rfl⟩
     have al:=Lib.hid (show ∀ W',Below W0.heap.size W0 W'->(Bx5 W' w.heap.size (.int .i64 c.ins) (.int .i64 c.rows) (.int .i64 c.cols) (.int .i64 c.regs) (.slice a0 n0 c0)/\Bx7 W' (w.heap.size+1) (.int .i64 op) (.int .i64 to) (.int .i64 xa) (.int .i64 xb) (.bool ng) (.slice a1 n1 c1) (.slice a2 n2 c2)) from fun W' hb => by
       refine ⟨bx5 hb ?_ ?_ ?_ ?_ ?_ ?_ ?_ ?_ ?_ ?_,bx7 hb ?_ ?_ ?_ ?_ ?_ ?_ ?_ ?_ ?_ ?_ ?_ ?_ ?_ ?_⟩
       all_goals first|assumption|(rw [<- aq];simp [go_sem]))
     have zb:Below w.heap.size w W0:=by rw [<- aq];exact bS (bN _ _) (bN _ _)
     rw [aq]
     clear aq
     have i0:=hc.to zb
     have i1:=hx.to zb
     have i2:=hrow.to zb
     have gb:Below W0.heap.size W0 W0:=Below.refl _ _
     obtain ⟨⟨z0,ae,af,ag,am,an,ah,ai,ak,au,aw⟩,⟨z1,aA,aB,aC,a7,a8,bd,be,aD,aE,aF,a9,bc,bf,bh⟩⟩:=al.out _ gb
     go_wp2_with fail
     refine (zl op sa sb true true _ Hsa.out Hsb.out Hsp.out Hok.out).mono ?_
     clear ae ah af ai ag ak am au an aw aA aD aB aE aC aF a7 a9 a8 bc bd bf be bh
     rintro e w1 ⟨rfl,aT⟩
     replace gb:=bS gb aT
     obtain ⟨⟨z0,ae,af,ag,am,an,ah,ai,ak,au,aw⟩,⟨z1,aA,aB,aC,a7,a8,bd,be,aD,aE,aF,a9,bc,bf,bh⟩⟩:=al.out _ gb
     go_wp2_with fail
     obtain ⟨W1,aK⟩:∃ W1,w1.alloc (.cells #[.bool sa,.bool sb,.bool true] 58)=W1:=⟨_,rfl⟩
     have hb_W1:Below w1.heap.size w1 W1:=by rw [<- aK];exact bN _ _
     have cw:Hid (W1.heap.size=w1.heap.size+1):=by show _=_;rw [<- aK];simp
     clear ae ah af ai ag ak am au an aw aA aD aB aE aC aF a7 a9 a8 bc bd bf be bh
     replace gb:=bS gb hb_W1
     obtain ⟨⟨z0,ae,af,ag,am,an,ah,ai,ak,au,aw⟩,⟨z1,aA,aB,aC,a7,a8,bd,be,aD,aE,aF,a9,bc,bf,bh⟩⟩:=al.out _ gb
     have bv:W1.cell? ⟨w1.heap.size,0,none⟩=some (.bool sa):=by rw [<- aK];simp [go_sem]
     have bJ:W1.frozen? ⟨w1.heap.size,0,none⟩=false:=by rw [<- aK];simp [go_sem]
     have bw:W1.cell? ⟨w1.heap.size,1,none⟩=some (.bool sb):=by rw [<- aK];simp [go_sem]
     have bK:W1.frozen? ⟨w1.heap.size,1,none⟩=false:=by rw [<- aK];simp [go_sem]
     have bx:W1.cell? ⟨w1.heap.size,2,none⟩=some (.bool true):=by rw [<- aK];simp [go_sem]
     have bL:W1.frozen? ⟨w1.heap.size,2,none⟩=false:=by rw [<- aK];simp [go_sem]
     have z5:w1.heap.size<W1.heap.size:=by rw [<- aK];simp
     rw [aK]
     clear aK
     replace i0:=i0.to gb
     replace i1:=i1.to gb
     replace i2:=i2.to gb
     replace zb:=bS zb gb
     have b7:=Lib.hid (show ∀ W',Below W1.heap.size W1 W'->(Bx5 W' w.heap.size (.int .i64 c.ins) (.int .i64 c.rows) (.int .i64 c.cols) (.int .i64 c.regs) (.slice a0 n0 c0)/\Bx7 W' (w.heap.size+1) (.int .i64 op) (.int .i64 to) (.int .i64 xa) (.int .i64 xb) (.bool ng) (.slice a1 n1 c1) (.slice a2 n2 c2)/\Bx3 W' w1.heap.size (.bool sa) (.bool sb) (.bool true)) from fun W' hb => by
       refine ⟨bx5 hb ?_ ?_ ?_ ?_ ?_ ?_ ?_ ?_ ?_ ?_,bx7 hb ?_ ?_ ?_ ?_ ?_ ?_ ?_ ?_ ?_ ?_ ?_ ?_ ?_ ?_,bx3 hb ?_ ?_ ?_ ?_ ?_ ?_⟩
       all_goals first|assumption|assumption)
     replace gb:=Below.refl W1.heap.size W1
     go_wp2_with fail
     refine (zz op to xa xb ng _ _ ln ld _ (i1.to gb) true Hnum.out).mono ?_
     clear ae ah af ai ag ak am au an aw aA aD aB aE aC aF a7 a9 a8 bc bd bf be bh bv bJ bw bK bx bL
     rintro e w2 ⟨rfl,aL⟩
     replace gb:=bS gb aL
     obtain ⟨⟨z0,ae,af,ag,am,an,ah,ai,ak,au,aw⟩,⟨z1,aA,aB,aC,a7,a8,bd,be,aD,aE,aF,a9,bc,bf,bh⟩,⟨z5,bv,bw,bx,bJ,bK,bL⟩⟩:=b7.out _ gb
     go_wp2_with fail
     refine (zg sa xa g n L _ (i2.to gb) HL.out hn _ Hra.out).mono ?_
     rintro e w3 ⟨rfl,rfl⟩
     go_wp2_with fail
     refine (zg sb xb g n L _ (i2.to gb) HL.out hn _ Hrb.out).mono ?_
     rintro e w4 ⟨rfl,rfl⟩
     go_wp2_with fail
     go_ret
     exact ⟨rfl,bS zb gb⟩

theorem zfd (c:Cd) (v:Value) (op to xa xb:Int) (ng:Bool) (vn vd:Value) (ln ld:List Nat) (g n:Nat) (L:List Int) (w:World) (hc:IsC w c v) (hx:IsX w ⟨op,to,xa,xb,⟨ng,ln,ld⟩⟩ vn vd) (hrow:zaA w g n (fun i => .bool (decide ((i:Int) ∈ L)))) (hL:∀ x ∈ L,0<=x/\x<(n:Int)) (hn:n<=100000) (hnr:(n:Int)=c.regs) (hr:1<=c.rows/\c.rows<=40) (hcl:1<=c.cols/\c.cols<=40) (h0:0<=zh op) (hnum:zbo ⟨op,to,xa,xb,⟨ng,ln,ld⟩⟩=true) (h1:op≠10) (h2:op≠0) (h3:op≠7) (o:Bool) (ho:zw c L ⟨op,to,xa,xb,⟨ng,ln,ld⟩⟩=o) :
  Calls Try.prog 15 #[aggC c v,.agg #[.int .i64 op,.int .i64 to,.int .i64 xa,.int .i64 xb,.bool ng,vn,vd],.slice (some ⟨g,0,none⟩) n n] w (fun e w' => e=.returned (.bool o)/\Below w.heap.size w w'):=by
 rw [zcU (x:=⟨op,to,xa,xb,⟨ng,ln,ld⟩⟩) h0 hnum,zfB (x:=⟨op,to,xa,xb,⟨ng,ln,ld⟩⟩) h0 (by show op≠0;first|assumption|omega),zfC (x:=⟨op,to,xa,xb,⟨ng,ln,ld⟩⟩) (by show op≠7;first|assumption|omega)] at ho
 obtain ⟨sa,hsa⟩:∃ b,decide (1<=zh op)=b:=⟨_,rfl⟩
 obtain ⟨sb,hsb⟩:∃ b,decide (zh op=2)=b:=⟨_,rfl⟩
 have hsp:decide (op=7)=false:=by simp;omega
 obtain ⟨ra,hra⟩:∃ b,(if sa=true then decide (xa ∈ L) else decide (xa=0))=b:=⟨_,rfl⟩
 obtain ⟨rb,hrb⟩:∃ b,(if sb=true then decide (xb ∈ L) else decide (xb=0))=b:=⟨_,rfl⟩
 obtain ⟨p1,tp1⟩:∃ b,decide (0<=xa)=b:=⟨_,rfl⟩
 obtain ⟨p2,tp2⟩:∃ b,decide (xa<c.ins)=b:=⟨_,rfl⟩
 obtain ⟨r1,tr1⟩:∃ b,decide (-21<=xb)=b:=⟨_,rfl⟩
 obtain ⟨r2,tr2⟩:∃ b,decide (xb<=21)=b:=⟨_,rfl⟩
 obtain ⟨q1,tq1⟩:∃ b,decide (0<=to)=b:=⟨_,rfl⟩
 obtain ⟨q2,tq2⟩:∃ b,decide (to<c.regs)=b:=⟨_,rfl⟩
 have t10:(op == 10)=false:=by simp;omega
 have t0:(op == 0)=false:=by simp;omega
 have pb:=zbd hr hcl
 have HM:IntKind.i64.wrap (c.rows*c.cols)=c.rows*c.cols:=IntWalk.i64_in _ (by omega)
 have ho':(ra && rb && q1 && q2)=o:=by
  have e:zJ c ⟨op,to,xa,xb,⟨ng,ln,ld⟩⟩=c.regs:=by unfold zJ;rw [if_neg (by show op≠10;first|assumption|omega)]
  rw [e] at ho
  subst ho hra hrb hsa hsb tp1 tp2 tr1 tr2 tq1 tq2
  rfl
 have Hsa:=Lib.hid hsa
 have Hsb:=Lib.hid hsb
 have Hsp:=Lib.hid hsp
 have Hok:=Lib.hid (decide_eq_true h0)
 have Hnum:=Lib.hid hnum
 have Hra:=Lib.hid hra
 have Hrb:=Lib.hid hrb
 have HL:=Lib.hid hL
 clear ho hsa hsb hsp hra hrb h0 hnum hnr hr hcl hL pb h1 h2 h3
 obtain ⟨a0,n0,c0,rfl,H0,hm0⟩:=hc.1.open
 obtain ⟨a1,n1,c1,rfl,H1,hm1⟩:=hx.1.1.open
 obtain ⟨a2,n2,c2,rfl,H2,hm2⟩:=hx.1.2.1.open
 cases ra
 case false =>
  subst ho'
  go_enter Try.func15,Try.ntmps15
  go_wp2_with fail
  obtain ⟨W0,aq⟩:∃ W0,(w.alloc (.cells #[.int .i64 c.ins,.int .i64 c.rows,.int .i64 c.cols,.int .i64 c.regs,.slice a0 n0 c0] 30)).alloc (.cells #[.int .i64 op,.int .i64 to,.int .i64 xa,.int .i64 xb,.bool ng,.slice a1 n1 c1,.slice a2 n2 c2] 27)=W0:=⟨_,rfl⟩
  have al:=Lib.hid (show ∀ W',Below W0.heap.size W0 W'->(Bx5 W' w.heap.size (.int .i64 c.ins) (.int .i64 c.rows) (.int .i64 c.cols) (.int .i64 c.regs) (.slice a0 n0 c0)/\Bx7 W' (w.heap.size+1) (.int .i64 op) (.int .i64 to) (.int .i64 xa) (.int .i64 xb) (.bool ng) (.slice a1 n1 c1) (.slice a2 n2 c2)) from fun W' hb => by
    refine ⟨bx5 hb ?_ ?_ ?_ ?_ ?_ ?_ ?_ ?_ ?_ ?_,bx7 hb ?_ ?_ ?_ ?_ ?_ ?_ ?_ ?_ ?_ ?_ ?_ ?_ ?_ ?_⟩
    all_goals first|assumption|(rw [<- aq];simp [go_sem]))
  have zb:Below w.heap.size w W0:=by rw [<- aq];exact bS (bN _ _) (bN _ _)
  rw [aq]
  clear aq
  have i0:=hc.to zb
  have i1:=hx.to zb
  have i2:=hrow.to zb
  have gb:Below W0.heap.size W0 W0:=Below.refl _ _
  obtain ⟨⟨z0,ae,af,ag,am,an,ah,ai,ak,au,aw⟩,⟨z1,aA,aB,aC,a7,a8,bd,be,aD,aE,aF,a9,bc,bf,bh⟩⟩:=al.out _ gb
  go_wp2_with fail
  refine (zl op sa sb false true _ Hsa.out Hsb.out Hsp.out Hok.out).mono ?_
  clear ae ah af ai ag ak am au an aw aA aD aB aE aC aF a7 a9 a8 bc bd bf be bh
  rintro e w1 ⟨rfl,aT⟩
  replace gb:=bS gb aT
  obtain ⟨⟨z0,ae,af,ag,am,an,ah,ai,ak,au,aw⟩,⟨z1,aA,aB,aC,a7,a8,bd,be,aD,aE,aF,a9,bc,bf,bh⟩⟩:=al.out _ gb
  go_wp2_with fail
  obtain ⟨W1,aK⟩:∃ W1,w1.alloc (.cells #[.bool sa,.bool sb,.bool false] 58)=W1:=⟨_,rfl⟩
  have hb_W1:Below w1.heap.size w1 W1:=by rw [<- aK];exact bN _ _
  have cw:Hid (W1.heap.size=w1.heap.size+1):=by show _=_;rw [<- aK];simp
  clear ae ah af ai ag ak am au an aw aA aD aB aE aC aF a7 a9 a8 bc bd bf be bh
  replace gb:=bS gb hb_W1
  obtain ⟨⟨z0,ae,af,ag,am,an,ah,ai,ak,au,aw⟩,⟨z1,aA,aB,aC,a7,a8,bd,be,aD,aE,aF,a9,bc,bf,bh⟩⟩:=al.out _ gb
  have bv:W1.cell? ⟨w1.heap.size,0,none⟩=some (.bool sa):=by rw [<- aK];simp [go_sem]
  have bJ:W1.frozen? ⟨w1.heap.size,0,none⟩=false:=by rw [<- aK];simp [go_sem]
  have bw:W1.cell? ⟨w1.heap.size,1,none⟩=some (.bool sb):=by rw [<- aK];simp [go_sem]
  have bK:W1.frozen? ⟨w1.heap.size,1,none⟩=false:=by rw [<- aK];simp [go_sem]
  have bx:W1.cell? ⟨w1.heap.size,2,none⟩=some (.bool false):=by rw [<- aK];simp [go_sem]
  have bL:W1.frozen? ⟨w1.heap.size,2,none⟩=false:=by rw [<- aK];simp [go_sem]
  have z5:w1.heap.size<W1.heap.size:=by rw [<- aK];simp
  rw [aK]
  clear aK
  replace i0:=i0.to gb
  replace i1:=i1.to gb
  replace i2:=i2.to gb
  replace zb:=bS zb gb
  have b7:=Lib.hid (show ∀ W',Below W1.heap.size W1 W'->(Bx5 W' w.heap.size (.int .i64 c.ins) (.int .i64 c.rows) (.int .i64 c.cols) (.int .i64 c.regs) (.slice a0 n0 c0)/\Bx7 W' (w.heap.size+1) (.int .i64 op) (.int .i64 to) (.int .i64 xa) (.int .i64 xb) (.bool ng) (.slice a1 n1 c1) (.slice a2 n2 c2)/\Bx3 W' w1.heap.size (.bool sa) (.bool sb) (.bool false)) from fun W' hb => by
    refine ⟨bx5 hb ?_ ?_ ?_ ?_ ?_ ?_ ?_ ?_ ?_ ?_,bx7 hb ?_ ?_ ?_ ?_ ?_ ?_ ?_ ?_ ?_ ?_ ?_ ?_ ?_ ?_,bx3 hb ?_ ?_ ?_ ?_ ?_ ?_⟩
    all_goals first|assumption|assumption)
  replace gb:=Below.refl W1.heap.size W1
  go_wp2_with fail
  refine (zz op to xa xb ng _ _ ln ld _ (i1.to gb) true Hnum.out).mono ?_
  clear ae ah af ai ag ak am au an aw aA aD aB aE aC aF a7 a9 a8 bc bd bf be bh bv bJ bw bK bx bL
  rintro e w2 ⟨rfl,aL⟩
  replace gb:=bS gb aL
  obtain ⟨⟨z0,ae,af,ag,am,an,ah,ai,ak,au,aw⟩,⟨z1,aA,aB,aC,a7,a8,bd,be,aD,aE,aF,a9,bc,bf,bh⟩,⟨z5,bv,bw,bx,bJ,bK,bL⟩⟩:=b7.out _ gb
  go_wp2_with fail
  refine (zg sa xa g n L _ (i2.to gb) HL.out hn _ Hra.out).mono ?_
  rintro e w3 ⟨rfl,rfl⟩
  go_wp2_with fail
  refine (zg sb xb g n L _ (i2.to gb) HL.out hn _ Hrb.out).mono ?_
  rintro e w4 ⟨rfl,rfl⟩
  go_wp2_with fail
  go_ret
  exact ⟨rfl,bS zb gb⟩
 case true =>
  cases rb
  case false =>
   subst ho'
   go_enter Try.func15,Try.ntmps15
   go_wp2_with fail
   obtain ⟨W0,aq⟩:∃ W0,(w.alloc (.cells #[.int .i64 c.ins,.int .i64 c.rows,.int .i64 c.cols,.int .i64 c.regs,.slice a0 n0 c0] 30)).alloc (.cells #[.int .i64 op,.int .i64 to,.int .i64 xa,.int .i64 xb,.bool ng,.slice a1 n1 c1,.slice a2 n2 c2] 27)=W0:=⟨_,rfl⟩
   have al:=Lib.hid (show ∀ W',Below W0.heap.size W0 W'->(Bx5 W' w.heap.size (.int .i64 c.ins) (.int .i64 c.rows) (.int .i64 c.cols) (.int .i64 c.regs) (.slice a0 n0 c0)/\Bx7 W' (w.heap.size+1) (.int .i64 op) (.int .i64 to) (.int .i64 xa) (.int .i64 xb) (.bool ng) (.slice a1 n1 c1) (.slice a2 n2 c2)) from fun W' hb => by
     refine ⟨bx5 hb ?_ ?_ ?_ ?_ ?_ ?_ ?_ ?_ ?_ ?_,bx7 hb ?_ ?_ ?_ ?_ ?_ ?_ ?_ ?_ ?_ ?_ ?_ ?_ ?_ ?_⟩
     all_goals first|assumption|(rw [<- aq];simp [go_sem]))
   have zb:Below w.heap.size w W0:=by rw [<- aq];exact bS (bN _ _) (bN _ _)
   rw [aq]
   clear aq
   have i0:=hc.to zb
   have i1:=hx.to zb
   have i2:=hrow.to zb
   have gb:Below W0.heap.size W0 W0:=Below.refl _ _
   obtain ⟨⟨z0,ae,af,ag,am,an,ah,ai,ak,au,aw⟩,⟨z1,aA,aB,aC,a7,a8,bd,be,aD,aE,aF,a9,bc,bf,bh⟩⟩:=al.out _ gb
   go_wp2_with fail
   refine (zl op sa sb false true _ Hsa.out Hsb.out Hsp.out Hok.out).mono ?_
   clear ae ah af ai ag ak am au an aw aA aD aB aE aC aF a7 a9 a8 bc bd bf be bh
   rintro e w1 ⟨rfl,aT⟩
   replace gb:=bS gb aT
   obtain ⟨⟨z0,ae,af,ag,am,an,ah,ai,ak,au,aw⟩,⟨z1,aA,aB,aC,a7,a8,bd,be,aD,aE,aF,a9,bc,bf,bh⟩⟩:=al.out _ gb
   go_wp2_with fail
   obtain ⟨W1,aK⟩:∃ W1,w1.alloc (.cells #[.bool sa,.bool sb,.bool false] 58)=W1:=⟨_,rfl⟩
   have hb_W1:Below w1.heap.size w1 W1:=by rw [<- aK];exact bN _ _
   have cw:Hid (W1.heap.size=w1.heap.size+1):=by show _=_;rw [<- aK];simp
   clear ae ah af ai ag ak am au an aw aA aD aB aE aC aF a7 a9 a8 bc bd bf be bh
   replace gb:=bS gb hb_W1
   obtain ⟨⟨z0,ae,af,ag,am,an,ah,ai,ak,au,aw⟩,⟨z1,aA,aB,aC,a7,a8,bd,be,aD,aE,aF,a9,bc,bf,bh⟩⟩:=al.out _ gb
   have bv:W1.cell? ⟨w1.heap.size,0,none⟩=some (.bool sa):=by rw [<- aK];simp [go_sem]
   have bJ:W1.frozen? ⟨w1.heap.size,0,none⟩=false:=by rw [<- aK];simp [go_sem]
   have bw:W1.cell? ⟨w1.heap.size,1,none⟩=some (.bool sb):=by rw [<- aK];simp [go_sem]
   have bK:W1.frozen? ⟨w1.heap.size,1,none⟩=false:=by rw [<- aK];simp [go_sem]
   have bx:W1.cell? ⟨w1.heap.size,2,none⟩=some (.bool false):=by rw [<- aK];simp [go_sem]
   have bL:W1.frozen? ⟨w1.heap.size,2,none⟩=false:=by rw [<- aK];simp [go_sem]
   have z5:w1.heap.size<W1.heap.size:=by rw [<- aK];simp
   rw [aK]
   clear aK
   replace i0:=i0.to gb
   replace i1:=i1.to gb
   replace i2:=i2.to gb
   replace zb:=bS zb gb
   have b7:=Lib.hid (show ∀ W',Below W1.heap.size W1 W'->(Bx5 W' w.heap.size (.int .i64 c.ins) (.int .i64 c.rows) (.int .i64 c.cols) (.int .i64 c.regs) (.slice a0 n0 c0)/\Bx7 W' (w.heap.size+1) (.int .i64 op) (.int .i64 to) (.int .i64 xa) (.int .i64 xb) (.bool ng) (.slice a1 n1 c1) (.slice a2 n2 c2)/\Bx3 W' w1.heap.size (.bool sa) (.bool sb) (.bool false)) from fun W' hb => by
     refine ⟨bx5 hb ?_ ?_ ?_ ?_ ?_ ?_ ?_ ?_ ?_ ?_,bx7 hb ?_ ?_ ?_ ?_ ?_ ?_ ?_ ?_ ?_ ?_ ?_ ?_ ?_ ?_,bx3 hb ?_ ?_ ?_ ?_ ?_ ?_⟩
     all_goals first|assumption|assumption)
   replace gb:=Below.refl W1.heap.size W1
   go_wp2_with fail
   refine (zz op to xa xb ng _ _ ln ld _ (i1.to gb) true Hnum.out).mono ?_
   clear ae ah af ai ag ak am au an aw aA aD aB aE aC aF a7 a9 a8 bc bd bf be bh bv bJ bw bK bx bL
   rintro e w2 ⟨rfl,aL⟩
   replace gb:=bS gb aL
   obtain ⟨⟨z0,ae,af,ag,am,an,ah,ai,ak,au,aw⟩,⟨z1,aA,aB,aC,a7,a8,bd,be,aD,aE,aF,a9,bc,bf,bh⟩,⟨z5,bv,bw,bx,bJ,bK,bL⟩⟩:=b7.out _ gb
   go_wp2_with fail
   refine (zg sa xa g n L _ (i2.to gb) HL.out hn _ Hra.out).mono ?_
   rintro e w3 ⟨rfl,rfl⟩
   go_wp2_with fail
   refine (zg sb xb g n L _ (i2.to gb) HL.out hn _ Hrb.out).mono ?_
   rintro e w4 ⟨rfl,rfl⟩
   go_wp2_with fail
   go_ret
   exact ⟨rfl,bS zb gb⟩
  case true =>
   cases q1
   case false =>
    subst ho'
    go_enter Try.func15,Try.ntmps15
    go_wp2_with fail
    obtain ⟨W0,aq⟩:∃ W0,(w.alloc (.cells #[.int .i64 c.ins,.int .i64 c.rows,.int .i64 c.cols,.int .i64 c.regs,.slice a0 n0 c0] 30)).alloc (.cells #[.int .i64 op,.int .i64 to,.int .i64 xa,.int .i64 xb,.bool ng,.slice a1 n1 c1,.slice a2 n2 c2] 27)=W0:=⟨_,rfl⟩
    have al:=Lib.hid (show ∀ W',Below W0.heap.size W0 W'->(Bx5 W' w.heap.size (.int .i64 c.ins) (.int .i64 c.rows) (.int .i64 c.cols) (.int .i64 c.regs) (.slice a0 n0 c0)/\Bx7 W' (w.heap.size+1) (.int .i64 op) (.int .i64 to) (.int .i64 xa) (.int .i64 xb) (.bool ng) (.slice a1 n1 c1) (.slice a2 n2 c2)) from fun W' hb => by
      refine ⟨bx5 hb ?_ ?_ ?_ ?_ ?_ ?_ ?_ ?_ ?_ ?_,bx7 hb ?_ ?_ ?_ ?_ ?_ ?_ ?_ ?_ ?_ ?_ ?_ ?_ ?_ ?_⟩
      all_goals first|assumption|(rw [<- aq];simp [go_sem]))
    have zb:Below w.heap.size w W0:=by rw [<- aq];exact bS (bN _ _) (bN _ _)
    rw [aq]
    clear aq
    have i0:=hc.to zb
    have i1:=hx.to zb
    have i2:=hrow.to zb
    have gb:Below W0.heap.size W0 W0:=Below.refl _ _
    obtain ⟨⟨z0,ae,af,ag,am,an,ah,ai,ak,au,aw⟩,⟨z1,aA,aB,aC,a7,a8,bd,be,aD,aE,aF,a9,bc,bf,bh⟩⟩:=al.out _ gb
    go_wp2_with fail
    refine (zl op sa sb false true _ Hsa.out Hsb.out Hsp.out Hok.out).mono ?_
    clear ae ah af ai ag ak am au an aw aA aD aB aE aC aF a7 a9 a8 bc bd bf be bh
    rintro e w1 ⟨rfl,aT⟩
    replace gb:=bS gb aT
    obtain ⟨⟨z0,ae,af,ag,am,an,ah,ai,ak,au,aw⟩,⟨z1,aA,aB,aC,a7,a8,bd,be,aD,aE,aF,a9,bc,bf,bh⟩⟩:=al.out _ gb
    go_wp2_with fail
    obtain ⟨W1,aK⟩:∃ W1,w1.alloc (.cells #[.bool sa,.bool sb,.bool false] 58)=W1:=⟨_,rfl⟩
    have hb_W1:Below w1.heap.size w1 W1:=by rw [<- aK];exact bN _ _
    have cw:Hid (W1.heap.size=w1.heap.size+1):=by show _=_;rw [<- aK];simp
    clear ae ah af ai ag ak am au an aw aA aD aB aE aC aF a7 a9 a8 bc bd bf be bh
    replace gb:=bS gb hb_W1
    obtain ⟨⟨z0,ae,af,ag,am,an,ah,ai,ak,au,aw⟩,⟨z1,aA,aB,aC,a7,a8,bd,be,aD,aE,aF,a9,bc,bf,bh⟩⟩:=al.out _ gb
    have bv:W1.cell? ⟨w1.heap.size,0,none⟩=some (.bool sa):=by rw [<- aK];simp [go_sem]
    have bJ:W1.frozen? ⟨w1.heap.size,0,none⟩=false:=by rw [<- aK];simp [go_sem]
    have bw:W1.cell? ⟨w1.heap.size,1,none⟩=some (.bool sb):=by rw [<- aK];simp [go_sem]
    have bK:W1.frozen? ⟨w1.heap.size,1,none⟩=false:=by rw [<- aK];simp [go_sem]
    have bx:W1.cell? ⟨w1.heap.size,2,none⟩=some (.bool false):=by rw [<- aK];simp [go_sem]
    have bL:W1.frozen? ⟨w1.heap.size,2,none⟩=false:=by rw [<- aK];simp [go_sem]
    have z5:w1.heap.size<W1.heap.size:=by rw [<- aK];simp
    rw [aK]
    clear aK
    replace i0:=i0.to gb
    replace i1:=i1.to gb
    replace i2:=i2.to gb
    replace zb:=bS zb gb
    have b7:=Lib.hid (show ∀ W',Below W1.heap.size W1 W'->(Bx5 W' w.heap.size (.int .i64 c.ins) (.int .i64 c.rows) (.int .i64 c.cols) (.int .i64 c.regs) (.slice a0 n0 c0)/\Bx7 W' (w.heap.size+1) (.int .i64 op) (.int .i64 to) (.int .i64 xa) (.int .i64 xb) (.bool ng) (.slice a1 n1 c1) (.slice a2 n2 c2)/\Bx3 W' w1.heap.size (.bool sa) (.bool sb) (.bool false)) from fun W' hb => by
      refine ⟨bx5 hb ?_ ?_ ?_ ?_ ?_ ?_ ?_ ?_ ?_ ?_,bx7 hb ?_ ?_ ?_ ?_ ?_ ?_ ?_ ?_ ?_ ?_ ?_ ?_ ?_ ?_,bx3 hb ?_ ?_ ?_ ?_ ?_ ?_⟩
      all_goals first|assumption|assumption)
    replace gb:=Below.refl W1.heap.size W1
    go_wp2_with fail
    refine (zz op to xa xb ng _ _ ln ld _ (i1.to gb) true Hnum.out).mono ?_
    clear ae ah af ai ag ak am au an aw aA aD aB aE aC aF a7 a9 a8 bc bd bf be bh bv bJ bw bK bx bL
    rintro e w2 ⟨rfl,aL⟩
    replace gb:=bS gb aL
    obtain ⟨⟨z0,ae,af,ag,am,an,ah,ai,ak,au,aw⟩,⟨z1,aA,aB,aC,a7,a8,bd,be,aD,aE,aF,a9,bc,bf,bh⟩,⟨z5,bv,bw,bx,bJ,bK,bL⟩⟩:=b7.out _ gb
    go_wp2_with fail
    refine (zg sa xa g n L _ (i2.to gb) HL.out hn _ Hra.out).mono ?_
    rintro e w3 ⟨rfl,rfl⟩
    go_wp2_with fail
    refine (zg sb xb g n L _ (i2.to gb) HL.out hn _ Hrb.out).mono ?_
    rintro e w4 ⟨rfl,rfl⟩
    go_wp2_with fail
    go_ret
    exact ⟨rfl,bS zb gb⟩
   case true =>
    subst ho'
    go_enter Try.func15,Try.ntmps15
    go_wp2_with fail
    obtain ⟨W0,aq⟩:∃ W0,(w.alloc (.cells #[.int .i64 c.ins,.int .i64 c.rows,.int .i64 c.cols,.int .i64 c.regs,.slice a0 n0 c0] 30)).alloc (.cells #[.int .i64 op,.int .i64 to,.int .i64 xa,.int .i64 xb,.bool ng,.slice a1 n1 c1,.slice a2 n2 c2] 27)=W0:=⟨_,rfl⟩
    have al:=Lib.hid (show ∀ W',Below W0.heap.size W0 W'->(Bx5 W' w.heap.size (.int .i64 c.ins) (.int .i64 c.rows) (.int .i64 c.cols) (.int .i64 c.regs) (.slice a0 n0 c0)/\Bx7 W' (w.heap.size+1) (.int .i64 op) (.int .i64 to) (.int .i64 xa) (.int .i64 xb) (.bool ng) (.slice a1 n1 c1) (.slice a2 n2 c2)) from fun W' hb => by
      refine ⟨bx5 hb ?_ ?_ ?_ ?_ ?_ ?_ ?_ ?_ ?_ ?_,bx7 hb ?_ ?_ ?_ ?_ ?_ ?_ ?_ ?_ ?_ ?_ ?_ ?_ ?_ ?_⟩
      all_goals first|assumption|(rw [<- aq];simp [go_sem]))
    have zb:Below w.heap.size w W0:=by rw [<- aq];exact bS (bN _ _) (bN _ _)
    rw [aq]
    clear aq
    have i0:=hc.to zb
    have i1:=hx.to zb
    have i2:=hrow.to zb
    have gb:Below W0.heap.size W0 W0:=Below.refl _ _
    obtain ⟨⟨z0,ae,af,ag,am,an,ah,ai,ak,au,aw⟩,⟨z1,aA,aB,aC,a7,a8,bd,be,aD,aE,aF,a9,bc,bf,bh⟩⟩:=al.out _ gb
    go_wp2_with fail
    refine (zl op sa sb false true _ Hsa.out Hsb.out Hsp.out Hok.out).mono ?_
    clear ae ah af ai ag ak am au an aw aA aD aB aE aC aF a7 a9 a8 bc bd bf be bh
    rintro e w1 ⟨rfl,aT⟩
    replace gb:=bS gb aT
    obtain ⟨⟨z0,ae,af,ag,am,an,ah,ai,ak,au,aw⟩,⟨z1,aA,aB,aC,a7,a8,bd,be,aD,aE,aF,a9,bc,bf,bh⟩⟩:=al.out _ gb
    go_wp2_with fail
    obtain ⟨W1,aK⟩:∃ W1,w1.alloc (.cells #[.bool sa,.bool sb,.bool false] 58)=W1:=⟨_,rfl⟩
    have hb_W1:Below w1.heap.size w1 W1:=by rw [<- aK];exact bN _ _
    have cw:Hid (W1.heap.size=w1.heap.size+1):=by show _=_;rw [<- aK];simp
    clear ae ah af ai ag ak am au an aw aA aD aB aE aC aF a7 a9 a8 bc bd bf be bh
    replace gb:=bS gb hb_W1
    obtain ⟨⟨z0,ae,af,ag,am,an,ah,ai,ak,au,aw⟩,⟨z1,aA,aB,aC,a7,a8,bd,be,aD,aE,aF,a9,bc,bf,bh⟩⟩:=al.out _ gb
    have bv:W1.cell? ⟨w1.heap.size,0,none⟩=some (.bool sa):=by rw [<- aK];simp [go_sem]
    have bJ:W1.frozen? ⟨w1.heap.size,0,none⟩=false:=by rw [<- aK];simp [go_sem]
    have bw:W1.cell? ⟨w1.heap.size,1,none⟩=some (.bool sb):=by rw [<- aK];simp [go_sem]
    have bK:W1.frozen? ⟨w1.heap.size,1,none⟩=false:=by rw [<- aK];simp [go_sem]
    have bx:W1.cell? ⟨w1.heap.size,2,none⟩=some (.bool false):=by rw [<- aK];simp [go_sem]
    have bL:W1.frozen? ⟨w1.heap.size,2,none⟩=false:=by rw [<- aK];simp [go_sem]
    have z5:w1.heap.size<W1.heap.size:=by rw [<- aK];simp
    rw [aK]
    clear aK
    replace i0:=i0.to gb
    replace i1:=i1.to gb
    replace i2:=i2.to gb
    replace zb:=bS zb gb
    have b7:=Lib.hid (show ∀ W',Below W1.heap.size W1 W'->(Bx5 W' w.heap.size (.int .i64 c.ins) (.int .i64 c.rows) (.int .i64 c.cols) (.int .i64 c.regs) (.slice a0 n0 c0)/\Bx7 W' (w.heap.size+1) (.int .i64 op) (.int .i64 to) (.int .i64 xa) (.int .i64 xb) (.bool ng) (.slice a1 n1 c1) (.slice a2 n2 c2)/\Bx3 W' w1.heap.size (.bool sa) (.bool sb) (.bool false)) from fun W' hb => by
      refine ⟨bx5 hb ?_ ?_ ?_ ?_ ?_ ?_ ?_ ?_ ?_ ?_,bx7 hb ?_ ?_ ?_ ?_ ?_ ?_ ?_ ?_ ?_ ?_ ?_ ?_ ?_ ?_,bx3 hb ?_ ?_ ?_ ?_ ?_ ?_⟩
      all_goals first|assumption|assumption)
    replace gb:=Below.refl W1.heap.size W1
    go_wp2_with fail
    refine (zz op to xa xb ng _ _ ln ld _ (i1.to gb) true Hnum.out).mono ?_
    clear ae ah af ai ag ak am au an aw aA aD aB aE aC aF a7 a9 a8 bc bd bf be bh bv bJ bw bK bx bL
    rintro e w2 ⟨rfl,aL⟩
    replace gb:=bS gb aL
    obtain ⟨⟨z0,ae,af,ag,am,an,ah,ai,ak,au,aw⟩,⟨z1,aA,aB,aC,a7,a8,bd,be,aD,aE,aF,a9,bc,bf,bh⟩,⟨z5,bv,bw,bx,bJ,bK,bL⟩⟩:=b7.out _ gb
    go_wp2_with fail
    refine (zg sa xa g n L _ (i2.to gb) HL.out hn _ Hra.out).mono ?_
    rintro e w3 ⟨rfl,rfl⟩
    go_wp2_with fail
    refine (zg sb xb g n L _ (i2.to gb) HL.out hn _ Hrb.out).mono ?_
    rintro e w4 ⟨rfl,rfl⟩
    go_wp2_with fail
    go_ret
    exact ⟨rfl,bS zb gb⟩

theorem zhn (c:Cd) (v:Value) (op to xa xb:Int) (ng:Bool) (vn vd:Value) (ln ld:List Nat) (g n:Nat) (L:List Int) (w:World) (hc:IsC w c v) (hx:IsX w ⟨op,to,xa,xb,⟨ng,ln,ld⟩⟩ vn vd) (hrow:zaA w g n (fun i => .bool (decide ((i:Int) ∈ L)))) (hL:∀ x ∈ L,0<=x/\x<(n:Int)) (hn:n<=100000) (hnr:(n:Int)=c.regs) (hr:1<=c.rows/\c.rows<=40) (hcl:1<=c.cols/\c.cols<=40) (o:Bool) (ho:zw c L ⟨op,to,xa,xb,⟨ng,ln,ld⟩⟩=o) :
  Calls Try.prog 15 #[aggC c v,.agg #[.int .i64 op,.int .i64 to,.int .i64 xa,.int .i64 xb,.bool ng,vn,vd],.slice (some ⟨g,0,none⟩) n n] w (fun e w' => e=.returned (.bool o)/\Below w.heap.size w w'):=by
 by_cases h0:0<=zh op
 ·cases hnum:zbo ⟨op,to,xa,xb,⟨ng,ln,ld⟩⟩ with
  | false => exact zgh c v op to xa xb ng vn vd ln ld g n L w hc hx hrow hL hn hnr hr hcl h0 hnum o ho
  | true =>
   by_cases h1:op=10
   ·exact zgj c v op to xa xb ng vn vd ln ld g n L w hc hx hrow hL hn hnr hr hcl h0 hnum h1 o ho
   ·by_cases h2:op=0
    ·exact zfe c v op to xa xb ng vn vd ln ld g n L w hc hx hrow hL hn hnr hr hcl h0 hnum h2 o ho
    ·by_cases h3:op=7
     ·exact zgi c v op to xa xb ng vn vd ln ld g n L w hc hx hrow hL hn hnr hr hcl h0 hnum h3 o ho
     ·exact zfd c v op to xa xb ng vn vd ln ld g n L w hc hx hrow hL hn hnr hr hcl h0 hnum h1 h2 h3 o ho
 ·exact zho c v op to xa xb ng vn vd ln ld g n L w hc hx hrow hL hn hnr hr hcl h0 o ho

end Go.Proofs.Ytkjcdnlpjldhaaa

