/-
  The texts VmRow, Vm1, Vm2, merged.
-/
import Derived.Test.YtkjcdnlpjldhaaaGreatK18
import Derived.Deep.AppendLies
import Derived.Test.YtkjcdnlpjldhaaaGreatK11
import Derived.Deep.RegionHeld3
set_option linter.unusedVariables false
set_option linter.unusedSimpArgs false
set_option maxRecDepth 100000
set_option maxHeartbeats 400000000
namespace Go.Proofs.YtkjcdnlpjldhaaaGreat
open Go.RowKit Tw

def zbu (w:World) (g n:Nat) (F:Nat->Value):Prop:=g<w.heap.size/\∀ i,i<n->w.cell? ⟨g,i,none⟩=some (F i)/\w.frozen? ⟨g,i,none⟩=false

section

variable {w w':World} {g n:Nat} {F G:Nat->Value}

theorem zbu.lt (h:zbu w g n F):g<w.heap.size:=h.1

theorem zbu.to (h:zbu w g n F) (hb:Below w.heap.size w w'):zbu w' g n F :=
 ⟨Nat.lt_of_lt_of_le h.1 hb.size,fun i hi => ⟨(hb.cell (p:=⟨g,i,none⟩) h.1).trans (h.2 i hi).1,(hb.frozen (p:=⟨g,i,none⟩) h.1).trans (h.2 i hi).2⟩⟩

theorem zbu.drew (h:zbu w g n F):zbu w.drew g n F:=h.to (Below.refl _ _).drew

theorem zbu.alloc (h:zbu w g n F) (o:Obj):zbu (w.alloc o) g n F:=h.to (bN _ _)

theorem zbu.cast (h:zbu w g n F) (e:∀ i,i<n->F i=G i):zbu w g n G:=⟨h.1,fun i hi => ⟨(h.2 i hi).1.trans (by rw [e i hi]),(h.2 i hi).2⟩⟩

theorem zbu.set (h:zbu w g n F) (i:Nat) (x:Value):zbu (w.setCell ⟨g,i,none⟩ x) g n (fun j => if j=i then x else F j):=by
 refine ⟨by simpa using h.1,fun j hj => ⟨?_,by simp [go_sem,(h.2 j hj).2]⟩⟩
 by_cases e:j=i
 ·subst e;show _=some (if j=j then x else F j);rw [if_pos rfl];exact zh (h.2 j hj).1 x
 ·show _=some (if j=i then x else F j);rw [if_neg e];exact cP (h.2 j hj).1 (.inr e) x

theorem zbu.other (h:zbu w g n F) {b:Nat} (hb:g≠b) (o:Nat) (x:Value):zbu (w.setCell ⟨b,o,none⟩ x) g n F :=
 ⟨by simpa using h.1,fun j hj => ⟨cP (h.2 j hj).1 (.inl hb) x,by simp [go_sem,(h.2 j hj).2]⟩⟩

end

theorem wp_makeF (w:World) {ops:Array Oper} {rest:List Oper} {o:Oper} {a:Act} {Q:Exit->Act->World->Prop} (hg:o.guard=none)
  (l c:Operand) (t e:TypeId) (hop:o.op=Op.makeSlice t l c) (hu:Tryz.prog.underlying t=some (.slice e)) (z:Value) (k bytes:Nat)
  (hi:(Tryz.prog.info? e).map (fun i => (i.zero,i.size,i.bytes))=some (some z,k,bytes)) (hk:z.cells.size=k) (hB:bytes<=100)
  (kl kc:IntKind) (L C:Int) (n:Nat) (hl:a.eval l=Value.int kl L) (hc:a.eval c=Value.int kc C) (hL:L=↑n) (hC:C=↑n) (hn:n<=1000000)
  (hK:∀ w',zbu w' w.heap.size (n*k) (fun j => z.cells[j % k]!)->Below w.heap.size w w' ->
   wpList Tryz.prog ops Q rest (a.put o.dst (.slice (some ⟨w.heap.size,0,none⟩) n n)) w') :
  wpList Tryz.prog ops Q (o :: rest) a w:=by
 obtain ⟨i0,hi0,hz0,hz1,hz2⟩:=info_parts hi
 refine wpList_make_full w hg l c t hop w.heap.size e i0 z k hu hi0 hz0 hz1 kl kc L C n hl hc hL hC ?_ (by simp [maxLen];omega) (Nat.le_refl _) ?_
 ·rw [hz2];exact Nat.le_trans (Nat.mul_le_mul hB hn) (by omega)
 intro w' hown hgrow
 have hb:Below w.heap.size w w':=(Below.refl _ _).grown hgrow (Nat.le_refl _) (fun k hk => by cases hk)
 refine hK w' ⟨(hown.lt w.heap.size rfl).2,fun j hj => ⟨?_,World.ownsRow.frozenAt hown j⟩⟩ hb
 rw [World.ownsRow.cellAt hown j hj]
 simp [madeCells,hj,hk]

def zU (e:TypeId) (base:Nat) (w:World) (v:Value) (xs:List Value):Prop:=w.ownsRow base e 1 v xs.length xs

section

variable {e:TypeId} {base:Nat} {w w':World} {v:Value} {xs:List Value}

theorem zU.nil (e:TypeId) (base:Nat) (w:World):zU e base w (.slice none 0 0) []:=World.ownsRow_nil w base e 1

theorem zU.lt (h:zU e base w v xs):∀ k,v.ownBlock=some k->base<=k/\k<w.heap.size:=World.ownsRow.lt h

theorem zU.to (h:zU e base w v xs) (hb:Below w.heap.size w w'):zU e base w' v xs:=by
 refine ⟨h.1,?_⟩
 rcases h.2 with h2|⟨g,cap,cur,hv,hg,hh,r⟩
 ·exact .inl h2
 ·refine .inr ⟨g,cap,cur,hv,hg,?_,r⟩
  have hlt:g<w.heap.size:=by
   rcases Nat.lt_or_ge g w.heap.size with h|h
   ·exact h
   ·rw [Array.getElem?_eq_none h] at hh;cases hh
  rw [hb.block g hlt];exact hh

theorem zU.alloc (h:zU e base w v xs) (o:Obj):zU e base (w.alloc o) v xs:=h.to (bN _ _)

theorem zU.drew (h:zU e base w v xs):zU e base w.drew v xs:=h.to (Below.refl _ _).drew

theorem zU.open (h:zU e base w v xs):∃ a cap,v=.slice a xs.length cap/\xs.length<=maxLen /\
  ∀ i,i<xs.length->∃ b,a=some ⟨b,0,none⟩/\w.cell? ⟨b,i,none⟩=xs[i]?/\base<=b:=by
 rcases h.2 with ⟨hv,h0⟩|⟨g,cap,cur,hv,hg,hh,hn,hm,hs,hx⟩
 ·exact ⟨none,0,by rw [hv,h0],by rw [h0];simp,fun i hi => absurd hi (by omega)⟩
 ·subst hv
  exact ⟨_,cap,rfl,by omega,fun i hi => ⟨g,rfl,World.ownsRow.cellAt h i (by omega),hg⟩⟩

end

theorem zlk (w:World) {ops:Array Oper} {rest:List Oper} {o:Oper} {a:Act} {Q:Exit->Act->World->Prop} (hg:o.guard=none)
  (s x:Operand) (t e:TypeId) (ho:o.op=Op.call { callee:=Callee.builtin Builtin.append,args:=#[s,x],argTypes:=#[t,t] })
  (hu:Tryz.prog.underlying t=some (.slice e)) (z:Value) (bytes:Nat) (hi:(Tryz.prog.info? e).map (fun i => (i.zero,i.size,i.bytes))=some (some z,1,bytes)) (hz:z.cells.size=1) (hB:bytes<=100)
  (base:Nat) (v:Value) (xs:List Value) (u:Value) (b c:Nat) (hs:a.eval s=v) (hx:a.eval x=.slice (some ⟨b,0,none⟩) 1 c) (hown:zU e base w v xs) (dG:w.cell? ⟨b,0,none⟩=some u) (h1:u.oneCell'=true) (hbase:base<=w.heap.size)
  (hn:xs.length<=1000000)
  (hK:∀ v' w',zU e base w' v' (xs++[u])->Below base w w'->wpList Tryz.prog ops Q rest (a.put o.dst v') w') :
  wpList Tryz.prog ops Q (o :: rest) a w:=by
 obtain ⟨i0,hi0,hz0,hz1,hz2⟩:=info_parts hi
 refine wpList_append_own w hg s x t ho base e i0 z 1 bytes hu hi0 hz0 hz1 hz2 hz (by decide) v xs.length xs hs hown ⟨b,0,none⟩ 1 c [u] hx rfl ?_ ?_ (by simp [maxLen];omega) ?_ hbase ?_
 ·intro j q hj
  rcases j with _|j
  ·simp only [List.getElem?_cons_zero,Option.some.injEq] at hj
   subst hj;exact dG
  ·simp at hj
 ·intro q hq;rw [List.mem_singleton.1 hq];exact h1
 ·exact Nat.le_trans (Nat.mul_le_mul (show xs.length+1<=1000001 by omega) hB) (by omega)
 ·intro v' w' ho' hg' _
  refine hK v' w' ?_ ((Below.refl _ _).grown hg' hbase (fun k hk => (hown.lt k hk).1))
  have:(xs++[u]).length=xs.length+1:=by simp
  unfold zU;rw [this];exact ho'

end Go.Proofs.YtkjcdnlpjldhaaaGreat


namespace Go.Proofs.YtkjcdnlpjldhaaaGreat
open Go.RowKit Tw
attribute [local go_sem ↓] Go.wp_at_zero Go.wp_at_succ

theorem zhd {fn:Func} {k j:Tmp} (h:fn.results=#[.cell k 70,.tmp j]) (tmps:Array Value) (w:World) (b:Nat) (x y z:Value) (hk:tmps.getD k undef=.pointer (some ⟨b,0,none⟩))
  (t:Tri w b x y z):(results fn tmps).run Tryz.prog w=.ok (.tuple #[.agg #[x,y,z],tmps.getD j undef]) w:=by
 have hl:(loadVar 70 ⟨b,0,none⟩).run Tryz.prog w=.ok (.agg #[x,y,z]) w:=by
  simp [go_sem,t.1,t.2.1,t.2.2.1]
 have hk':tmps[k]?.getD undef=.pointer (some ⟨b,0,none⟩):=by simpa using hk
 simp [results,h,asAddr,Sem.run_bind,hl,Result.andThen,hk']

theorem zmx (op:Int):-1<=zd op/\zd op<=2:=by
 unfold zd
 split
 ·omega
 ·split
  ·omega
  ·split <;> omega

theorem vm_shape (op:Int) (w:World)  :
  Calls Tryz.prog 35 #[.int .i64 op] w (fun e w' => e=.returned (.tuple #[.agg #[.bool (decide (1<=zd op)),.bool (decide (zd op=2)),.bool (decide (op=7))],.bool (decide (0<=zd op))])/\Below w.heap.size w w'):=by
 by_cases h:0<=op/\op<=10
 ·have h':op=0\/op=1\/op=2\/op=3\/op=4\/op=5\/op=6\/op=7\/op=8\/op=9\/op=10:=by omega
  clear h
  rcases h' with rfl|rfl|rfl|rfl|rfl|rfl|rfl|rfl|rfl|rfl|rfl
  all_goals
   go_enter Tryz.func35,Tryz.ntmps35
   go_wp2_with fail
   exact bodyPost_ret (zhd Tryz.results35 _ _ _ _ _ _ rfl (zi _ _ _ _ _)) rfl ⟨rfl,bN _ _⟩
 ·have e:zd op=-1:=zhI h
  rw [e]
  have t0:(op == 0)=false:=by simp;omega
  have t1:(op == 1)=false:=by simp;omega
  have t2:(op == 2)=false:=by simp;omega
  have t3:(op == 3)=false:=by simp;omega
  have t4:(op == 4)=false:=by simp;omega
  have t5:(op == 5)=false:=by simp;omega
  have t6:(op == 6)=false:=by simp;omega
  have t7:(op == 7)=false:=by simp;omega
  have t8:(op == 8)=false:=by simp;omega
  have t9:(op == 9)=false:=by simp;omega
  have t10:(op == 10)=false:=by simp;omega
  have t11:decide (op=7)=false:=by simp;omega
  rw [t11]
  clear h
  go_enter Tryz.func35,Tryz.ntmps35
  go_wp2_with fail
  exact bodyPost_ret (zhd Tryz.results35 _ _ _ _ _ _ rfl (zi _ _ _ _ _)) rfl ⟨rfl,bN _ _⟩

theorem zk (is:Bool) (r:Int) (g n:Nat) (L:List Int) (w:World) (hrow:zbu w g n (fun i => .bool (decide ((i:Int) ∈ L)))) (hL:∀ x ∈ L,0<=x/\x<(n:Int)) (hn:n<=100000) (o:Bool) (ho:(if is=true then decide (r ∈ L) else decide (r=0))=o) :
  Calls Tryz.prog 57 #[.bool is,.int .i64 r,.slice (some ⟨g,0,none⟩) n n] w (fun e w' => e=.returned (.bool o)/\w=w'):=by
 cases is with
 | false =>
  rw [if_neg (by decide)] at ho
  have t:(r == 0)=o:=by rw [<- ho];by_cases h:r=0 <;> simp [h]
  clear ho
  go_enter Tryz.func57,Tryz.ntmps57
  go_wp2_with fail
  go_ret
  exact ⟨rfl,rfl⟩
 | true =>
  rw [if_pos rfl] at ho
  by_cases h0:0<=r
  ·by_cases h1:r<(n:Int)
   ·obtain ⟨R,rfl⟩:=Int.eq_ofNat_of_zero_le h0
    have hc:=(hrow.2 R (by omega)).1
    simp only [ho] at hc
    clear hrow hL ho
    go_enter Tryz.func57,Tryz.ntmps57
    go_wp2_with fail
    go_ret
    exact ⟨rfl,rfl⟩
   ·have:o=false:=by rw [<- ho];exact decide_eq_false (fun k => h1 (hL r k).2)
    subst this
    clear hrow hL ho
    go_enter Tryz.func57,Tryz.ntmps57
    go_wp2_with fail
    go_ret
    exact ⟨rfl,rfl⟩
  ·have:o=false:=by rw [<- ho];exact decide_eq_false (fun k => h0 (hL r k).1)
   subst this
   clear hrow hL ho
   go_enter Tryz.func57,Tryz.ntmps57
   go_wp2_with fail
   go_ret
   exact ⟨rfl,rfl⟩

theorem zhs (op to xa xb:Int) (ng:Bool) (vn vd:Value) (ln ld:List Nat)  (w:World) (hx:IsX w ⟨op,to,xa,xb,⟨ng,ln,ld⟩⟩ vn vd) (h1:op≠1) (o:Bool) (ho:zaJ ⟨op,to,xa,xb,⟨ng,ln,ld⟩⟩=o) :
  Calls Tryz.prog 56 #[.agg #[.int .i64 op,.int .i64 to,.int .i64 xa,.int .i64 xb,.bool ng,vn,vd]] w (fun e w' => e=.returned (.bool o)/\Below w.heap.size w w'):=by
 have t:(op != 1)=true:=by simp;exact h1
 have Ho:=Lib.hid ho
 clear ho
 obtain ⟨a0,n0,c0,rfl,H0,hm0⟩:=hx.1.1.open
 obtain ⟨a1,n1,c1,rfl,H1,hm1⟩:=hx.1.2.1.open
 have ho:=Ho.out
 unfold zaJ at ho
 rw [if_neg h1] at ho
 simp only [H0.out,H1.out] at ho
 clear Ho h1
 have q0:∃ b,decide (n0=0)=b:=⟨_,rfl⟩
 have q1:∃ b,decide (n1=0)=b:=⟨_,rfl⟩
 obtain ⟨b0,q0⟩:=q0
 obtain ⟨b1,q1⟩:=q1
 obtain ⟨bg,tg⟩:∃ b,(!ng)=b:=⟨_,rfl⟩
 rw [q0,q1,tg] at ho
 have t0:((n0:Int) == 0)=b0:=by rw [zcE,q0]
 have t1:((n1:Int) == 0)=b1:=by rw [zcE,q1]
 clear q0 q1
 subst ho
 cases bg <;> cases b0 <;> cases b1
 all_goals
  go_enter Tryz.func56,Tryz.ntmps56
  go_wp2_with fail
  obtain ⟨W0,an⟩:∃ W0,w.alloc (.cells #[.int .i64 op,.int .i64 to,.int .i64 xa,.int .i64 xb,.bool ng,.slice a0 n0 c0,.slice a1 n1 c1] 49)=W0:=⟨_,rfl⟩
  have ap:=Lib.hid (show ∀ W',Below W0.heap.size W0 W'->(Bx7 W' w.heap.size (.int .i64 op) (.int .i64 to) (.int .i64 xa) (.int .i64 xb) (.bool ng) (.slice a0 n0 c0) (.slice a1 n1 c1)) from fun W' hb => by
    apply bx7 hb
    all_goals first|assumption|(rw [<- an];simp [go_sem]))
  have zb:Below w.heap.size w W0:=by rw [<- an];exact bN _ _
  rw [an]
  clear an
  have i0:=hx.to zb
  have gb:Below W0.heap.size W0 W0:=Below.refl _ _
  obtain ⟨z0,ae,af,ag,az,aA,bf,bh,ah,ak,al,aJ,aK,bm,bn⟩:=ap.out _ gb
  go_wp2_with fail
  go_ret
  exact ⟨rfl,bS zb gb⟩

theorem zfY (op to xa xb:Int) (ng:Bool) (vn vd:Value) (ln ld:List Nat)  (w:World) (hx:IsX w ⟨op,to,xa,xb,⟨ng,ln,ld⟩⟩ vn vd) (h1:op=1) (o:Bool) (ho:zaJ ⟨op,to,xa,xb,⟨ng,ln,ld⟩⟩=o) :
  Calls Tryz.prog 56 #[.agg #[.int .i64 op,.int .i64 to,.int .i64 xa,.int .i64 xb,.bool ng,vn,vd]] w (fun e w' => e=.returned (.bool o)/\Below w.heap.size w w'):=by
 have t:(op != 1)=false:=by simp;exact h1
 have hn:ln.length<=1000:=hx.1.2.2.2.1
 have hd:ld.length<=1000:=hx.1.2.2.2.2
 unfold zaJ at ho
 rw [if_pos h1] at ho
 clear h1
 obtain ⟨r,hr⟩:∃ r,zcy ng ln ld (Rt.num ⟨ng,ln,ld⟩)=r:=⟨_,rfl⟩
 obtain ⟨b0,q0⟩:∃ b,decide ((zaP (val ln)).length<=40)=b:=⟨_,rfl⟩
 obtain ⟨b1,q1⟩:∃ b,decide ((zaP (val ld)).length<=40)=b:=⟨_,rfl⟩
 have ho':(r && b0 && b1)=o:=by rw [<- hr,<- q0,<- q1];exact ho
 have Hr:=Lib.hid hr
 have t0:decide ((zdo (val ln):Int)<=40)=b0:=by rw [<- q0];unfold zdo;apply decide_eq_decide.2;omega
 have t1:decide ((zdo (val ld):Int)<=40)=b1:=by rw [<- q1];unfold zdo;apply decide_eq_decide.2;omega
 clear ho hr q0 q1
 subst ho'
 obtain ⟨a0,n0,c0,rfl,H0,hm0⟩:=hx.1.1.open
 obtain ⟨a1,n1,c1,rfl,H1,hm1⟩:=hx.1.2.1.open
 cases r
 case false =>
  go_enter Tryz.func56,Tryz.ntmps56
  go_wp2_with fail
  obtain ⟨W0,an⟩:∃ W0,w.alloc (.cells #[.int .i64 op,.int .i64 to,.int .i64 xa,.int .i64 xb,.bool ng,.slice a0 n0 c0,.slice a1 n1 c1] 49)=W0:=⟨_,rfl⟩
  have ap:=Lib.hid (show ∀ W',Below W0.heap.size W0 W'->(Bx7 W' w.heap.size (.int .i64 op) (.int .i64 to) (.int .i64 xa) (.int .i64 xb) (.bool ng) (.slice a0 n0 c0) (.slice a1 n1 c1)) from fun W' hb => by
    apply bx7 hb
    all_goals first|assumption|(rw [<- an];simp [go_sem]))
  have zb:Below w.heap.size w W0:=by rw [<- an];exact bN _ _
  rw [an]
  clear an
  have i0:=hx.to zb
  have gb:Below W0.heap.size W0 W0:=Below.refl _ _
  obtain ⟨z0,ae,af,ag,az,aA,bf,bh,ah,ak,al,aJ,aK,bm,bn⟩:=ap.out _ gb
  go_wp2_with fail
  refine (zdw ng _ _ ln ld _ ((i0.to gb)).1 false Hr.out).mono ?_
  clear ae ah af ak ag al az aJ aA aK bf bm bh bn
  rintro e w1 ⟨rfl,be⟩
  replace gb:=bS gb be
  obtain ⟨z0,ae,af,ag,az,aA,bf,bh,ah,ak,al,aJ,aK,bm,bn⟩:=ap.out _ gb
  go_wp2_with fail
  go_ret
  exact ⟨rfl,bS zb gb⟩
 case true =>
  cases b0
  case false =>
   go_enter Tryz.func56,Tryz.ntmps56
   go_wp2_with fail
   obtain ⟨W0,an⟩:∃ W0,w.alloc (.cells #[.int .i64 op,.int .i64 to,.int .i64 xa,.int .i64 xb,.bool ng,.slice a0 n0 c0,.slice a1 n1 c1] 49)=W0:=⟨_,rfl⟩
   have ap:=Lib.hid (show ∀ W',Below W0.heap.size W0 W'->(Bx7 W' w.heap.size (.int .i64 op) (.int .i64 to) (.int .i64 xa) (.int .i64 xb) (.bool ng) (.slice a0 n0 c0) (.slice a1 n1 c1)) from fun W' hb => by
     apply bx7 hb
     all_goals first|assumption|(rw [<- an];simp [go_sem]))
   have zb:Below w.heap.size w W0:=by rw [<- an];exact bN _ _
   rw [an]
   clear an
   have i0:=hx.to zb
   have gb:Below W0.heap.size W0 W0:=Below.refl _ _
   obtain ⟨z0,ae,af,ag,az,aA,bf,bh,ah,ak,al,aJ,aK,bm,bn⟩:=ap.out _ gb
   go_wp2_with fail
   refine (zdw ng _ _ ln ld _ ((i0.to gb)).1 true Hr.out).mono ?_
   clear ae ah af ak ag al az aJ aA aK bf bm bh bn
   rintro e w1 ⟨rfl,be⟩
   replace gb:=bS gb be
   obtain ⟨z0,ae,af,ag,az,aA,bf,bh,ah,ak,al,aJ,aK,bm,bn⟩:=ap.out _ gb
   go_wp2_with fail
   refine (zdp _ ln _ ((i0.to gb)).1.1 (by omega)).mono ?_
   clear ae ah af ak ag al az aJ aA aK bf bm bh bn
   rintro e w2 ⟨rfl,aZ⟩
   replace gb:=bS gb aZ
   obtain ⟨z0,ae,af,ag,az,aA,bf,bh,ah,ak,al,aJ,aK,bm,bn⟩:=ap.out _ gb
   go_wp2_with fail
   go_ret
   exact ⟨rfl,bS zb gb⟩
  case true =>
   cases b1
   all_goals
    go_enter Tryz.func56,Tryz.ntmps56
    go_wp2_with fail
    obtain ⟨W0,an⟩:∃ W0,w.alloc (.cells #[.int .i64 op,.int .i64 to,.int .i64 xa,.int .i64 xb,.bool ng,.slice a0 n0 c0,.slice a1 n1 c1] 49)=W0:=⟨_,rfl⟩
    have ap:=Lib.hid (show ∀ W',Below W0.heap.size W0 W'->(Bx7 W' w.heap.size (.int .i64 op) (.int .i64 to) (.int .i64 xa) (.int .i64 xb) (.bool ng) (.slice a0 n0 c0) (.slice a1 n1 c1)) from fun W' hb => by
      apply bx7 hb
      all_goals first|assumption|(rw [<- an];simp [go_sem]))
    have zb:Below w.heap.size w W0:=by rw [<- an];exact bN _ _
    rw [an]
    clear an
    have i0:=hx.to zb
    have gb:Below W0.heap.size W0 W0:=Below.refl _ _
    obtain ⟨z0,ae,af,ag,az,aA,bf,bh,ah,ak,al,aJ,aK,bm,bn⟩:=ap.out _ gb
    go_wp2_with fail
    refine (zdw ng _ _ ln ld _ ((i0.to gb)).1 true Hr.out).mono ?_
    clear ae ah af ak ag al az aJ aA aK bf bm bh bn
    rintro e w1 ⟨rfl,be⟩
    replace gb:=bS gb be
    obtain ⟨z0,ae,af,ag,az,aA,bf,bh,ah,ak,al,aJ,aK,bm,bn⟩:=ap.out _ gb
    go_wp2_with fail
    refine (zdp _ ln _ ((i0.to gb)).1.1 (by omega)).mono ?_
    clear ae ah af ak ag al az aJ aA aK bf bm bh bn
    rintro e w2 ⟨rfl,aZ⟩
    replace gb:=bS gb aZ
    obtain ⟨z0,ae,af,ag,az,aA,bf,bh,ah,ak,al,aJ,aK,bm,bn⟩:=ap.out _ gb
    go_wp2_with fail
    refine (zdp _ ld _ ((i0.to gb)).1.2.1 (by omega)).mono ?_
    clear ae ah af ak ag al az aJ aA aK bf bm bh bn
    rintro e w3 ⟨rfl,cl⟩
    replace gb:=bS gb cl
    obtain ⟨z0,ae,af,ag,az,aA,bf,bh,ah,ak,al,aJ,aK,bm,bn⟩:=ap.out _ gb
    go_wp2_with fail
    go_ret
    exact ⟨rfl,bS zb gb⟩

theorem zE (op to xa xb:Int) (ng:Bool) (vn vd:Value) (ln ld:List Nat) (w:World) (hx:IsX w ⟨op,to,xa,xb,⟨ng,ln,ld⟩⟩ vn vd) (o:Bool) (ho:zaJ ⟨op,to,xa,xb,⟨ng,ln,ld⟩⟩=o) :
  Calls Tryz.prog 56 #[.agg #[.int .i64 op,.int .i64 to,.int .i64 xa,.int .i64 xb,.bool ng,vn,vd]] w (fun e w' => e=.returned (.bool o)/\Below w.heap.size w w'):=by
 by_cases h1:op=1
 ·exact zfY _ _ _ _ _ _ _ _ _ w hx h1 o ho
 ·exact zhs _ _ _ _ _ _ _ _ _ w hx h1 o ho

end Go.Proofs.YtkjcdnlpjldhaaaGreat


namespace Go.Proofs.YtkjcdnlpjldhaaaGreat
open Go.RowKit Tw
attribute [local go_sem ↓] Go.wp_at_zero Go.wp_at_succ

theorem zae {r c:Int} (h1:1<=r/\r<=40) (h2:1<=c/\c<=40):1<=r*c/\r*c<=1600:=by
 have a:=Int.mul_le_mul h1.1 h2.1 (by decide) (by omega)
 have b:=Int.mul_le_mul h1.2 h2.2 (by omega) (by decide)
 exact ⟨by simpa using a,by simpa using b⟩

theorem zeB {c:Cd} {L:List Int} {x:Ins} (hk:0<=zd x.op) (hn:zaJ x=true):zp c L x=(aOk c L x && bOk L x && decide (0<=x.to) && decide (x.to<zD c x)):=by
 unfold zp
 rw [decide_eq_true hk,hn,Bool.true_and,Bool.true_and,Bool.decide_and,Bool.and_assoc,Bool.and_assoc,Bool.and_assoc]

theorem zjc {c:Cd} {L:List Int} {x:Ins} (h:x.op=0):aOk c L x=(decide (0<=x.a) && decide (x.a<c.ins)):=by
 unfold aOk;rw [if_pos h,Bool.decide_and]

theorem zcY {c:Cd} {L:List Int} {x:Ins} (hk:0<=zd x.op) (h:x.op≠0):aOk c L x=(if decide (1<=zd x.op)=true then decide (x.a ∈ L) else decide (x.a=0)):=by
 unfold aOk
 rw [if_neg h]
 by_cases h1:x.op=1
 ·rw [if_pos h1,h1];rfl
 ·rw [if_neg h1,if_pos]
  rcases zbj _ hk with e|e|e|e|e|e|e|e|e|e|e <;> first|exact absurd e h|exact absurd e h1|(rw [e];decide)

theorem zln {L:List Int} {x:Ins} (h:x.op=7):bOk L x=(decide (-21<=x.b) && decide (x.b<=21)):=by
 unfold bOk;rw [if_pos h,Bool.decide_and]

theorem zcC {L:List Int} {x:Ins} (h:x.op≠7):bOk L x=(if decide (zd x.op=2)=true then decide (x.b ∈ L) else decide (x.b=0)):=by
 unfold bOk
 rw [if_neg h]
 by_cases h2:zd x.op=2
 ·rw [if_pos h2,if_pos (decide_eq_true h2)]
 ·rw [if_neg h2,if_neg (by simp [h2])]

theorem zv (op:Int) (sa sb sp ok:Bool) (w:World) (h1:decide (1<=zd op)=sa) (h2:decide (zd op=2)=sb) (h3:decide (op=7)=sp) (h4:decide (0<=zd op)=ok) :
  Calls Tryz.prog 35 #[.int .i64 op] w (fun e w' => e=.returned (.tuple #[.agg #[.bool sa,.bool sb,.bool sp],.bool ok])/\Below w.heap.size w w'):=by
 subst h1 h2 h3 h4
 exact vm_shape op w

theorem zkb (c:Cd) (v:Value) (op to xa xb:Int) (ng:Bool) (vn vd:Value) (ln ld:List Nat) (g n:Nat) (L:List Int) (w:World) (hc:IsC w c v) (hx:IsX w ⟨op,to,xa,xb,⟨ng,ln,ld⟩⟩ vn vd) (hrow:zbu w g n (fun i => .bool (decide ((i:Int) ∈ L)))) (hL:∀ x ∈ L,0<=x/\x<(n:Int)) (hn:n<=100000) (hnr:(n:Int)=c.regs) (hr:1<=c.rows/\c.rows<=40) (hcl:1<=c.cols/\c.cols<=40) (h0:¬ 0<=zd op) (o:Bool) (ho:zp c L ⟨op,to,xa,xb,⟨ng,ln,ld⟩⟩=o) :
  Calls Tryz.prog 33 #[aggC c v,.agg #[.int .i64 op,.int .i64 to,.int .i64 xa,.int .i64 xb,.bool ng,vn,vd],.slice (some ⟨g,0,none⟩) n n] w (fun e w' => e=.returned (.bool o)/\Below w.heap.size w w'):=by
 have ho':o=false:=by
  rw [<- ho];unfold zp
  rw [decide_eq_false h0];rfl
 obtain ⟨sa,hsa⟩:∃ b,decide (1<=zd op)=b:=⟨_,rfl⟩
 obtain ⟨sb,hsb⟩:∃ b,decide (zd op=2)=b:=⟨_,rfl⟩
 obtain ⟨sp,hsp⟩:∃ b,decide (op=7)=b:=⟨_,rfl⟩
 have Hsa:=Lib.hid hsa
 have Hsb:=Lib.hid hsb
 have Hsp:=Lib.hid hsp
 have Hok:=Lib.hid (decide_eq_false h0)
 clear ho hsa hsb hsp h0 hnr hr hcl hL
 subst ho'
 obtain ⟨a0,n0,c0,rfl,H0,hm0⟩:=hc.1.open
 obtain ⟨a1,n1,c1,rfl,H1,hm1⟩:=hx.1.1.open
 obtain ⟨a2,n2,c2,rfl,H2,hm2⟩:=hx.1.2.1.open
 go_enter Tryz.func33,Tryz.ntmps33
 go_wp2_with fail
 obtain ⟨W0,an⟩:∃ W0,(w.alloc (.cells #[.int .i64 c.ins,.int .i64 c.rows,.int .i64 c.cols,.int .i64 c.regs,.slice a0 n0 c0] 24)).alloc (.cells #[.int .i64 op,.int .i64 to,.int .i64 xa,.int .i64 xb,.bool ng,.slice a1 n1 c1,.slice a2 n2 c2] 49)=W0:=⟨_,rfl⟩
 have ap:=Lib.hid (show ∀ W',Below W0.heap.size W0 W'->(Bx5 W' w.heap.size (.int .i64 c.ins) (.int .i64 c.rows) (.int .i64 c.cols) (.int .i64 c.regs) (.slice a0 n0 c0)/\Bx7 W' (w.heap.size+1) (.int .i64 op) (.int .i64 to) (.int .i64 xa) (.int .i64 xb) (.bool ng) (.slice a1 n1 c1) (.slice a2 n2 c2)) from fun W' hb => by
   refine ⟨bx5 hb ?_ ?_ ?_ ?_ ?_ ?_ ?_ ?_ ?_ ?_,bx7 hb ?_ ?_ ?_ ?_ ?_ ?_ ?_ ?_ ?_ ?_ ?_ ?_ ?_ ?_⟩
   all_goals first|assumption|(rw [<- an];simp [go_sem]))
 have zb:Below w.heap.size w W0:=by rw [<- an];exact bS (bN _ _) (bN _ _)
 rw [an]
 clear an
 have i0:=hc.to zb
 have i1:=hx.to zb
 have i2:=hrow.to zb
 have gb:Below W0.heap.size W0 W0:=Below.refl _ _
 obtain ⟨⟨z0,ae,af,ag,az,aA,ah,ak,al,aJ,aK⟩,⟨z1,aB,aD,aE,aR,aS,aT,aU,aG,aH,aI,aV,aW,aX,aY⟩⟩:=ap.out _ gb
 go_wp2_with fail
 refine (zv op sa sb sp false _ Hsa.out Hsb.out Hsp.out Hok.out).mono ?_
 clear ae ah af ak ag al az aJ aA aK aB aG aD aH aE aI aR aV aS aW aT aX aU aY
 rintro e w1 ⟨rfl,be⟩
 replace gb:=bS gb be
 obtain ⟨⟨z0,ae,af,ag,az,aA,ah,ak,al,aJ,aK⟩,⟨z1,aB,aD,aE,aR,aS,aT,aU,aG,aH,aI,aV,aW,aX,aY⟩⟩:=ap.out _ gb
 go_wp2_with fail
 obtain ⟨W1,aO⟩:∃ W1,w1.alloc (.cells #[.bool sa,.bool sb,.bool sp] 70)=W1:=⟨_,rfl⟩
 have hb_W1:Below w1.heap.size w1 W1:=by rw [<- aO];exact bN _ _
 have cS:Hid (W1.heap.size=w1.heap.size+1):=by show _=_;rw [<- aO];simp
 clear ae ah af ak ag al az aJ aA aK aB aG aD aH aE aI aR aV aS aW aT aX aU aY
 replace gb:=bS gb hb_W1
 obtain ⟨⟨z0,ae,af,ag,az,aA,ah,ak,al,aJ,aK⟩,⟨z1,aB,aD,aE,aR,aS,aT,aU,aG,aH,aI,aV,aW,aX,aY⟩⟩:=ap.out _ gb
 have bO:W1.cell? ⟨w1.heap.size,0,none⟩=some (.bool sa):=by rw [<- aO];simp [go_sem]
 have bZ:W1.frozen? ⟨w1.heap.size,0,none⟩=false:=by rw [<- aO];simp [go_sem]
 have bP:W1.cell? ⟨w1.heap.size,1,none⟩=some (.bool sb):=by rw [<- aO];simp [go_sem]
 have b7:W1.frozen? ⟨w1.heap.size,1,none⟩=false:=by rw [<- aO];simp [go_sem]
 have bQ:W1.cell? ⟨w1.heap.size,2,none⟩=some (.bool sp):=by rw [<- aO];simp [go_sem]
 have ce:W1.frozen? ⟨w1.heap.size,2,none⟩=false:=by rw [<- aO];simp [go_sem]
 have z5:w1.heap.size<W1.heap.size:=by rw [<- aO];simp
 rw [aO]
 clear aO
 replace i0:=i0.to gb
 replace i1:=i1.to gb
 replace i2:=i2.to gb
 replace zb:=bS zb gb
 have ck:=Lib.hid (show ∀ W',Below W1.heap.size W1 W'->(Bx5 W' w.heap.size (.int .i64 c.ins) (.int .i64 c.rows) (.int .i64 c.cols) (.int .i64 c.regs) (.slice a0 n0 c0)/\Bx7 W' (w.heap.size+1) (.int .i64 op) (.int .i64 to) (.int .i64 xa) (.int .i64 xb) (.bool ng) (.slice a1 n1 c1) (.slice a2 n2 c2)/\Bx3 W' w1.heap.size (.bool sa) (.bool sb) (.bool sp)) from fun W' hb => by
   refine ⟨bx5 hb ?_ ?_ ?_ ?_ ?_ ?_ ?_ ?_ ?_ ?_,bx7 hb ?_ ?_ ?_ ?_ ?_ ?_ ?_ ?_ ?_ ?_ ?_ ?_ ?_ ?_,bx3 hb ?_ ?_ ?_ ?_ ?_ ?_⟩
   all_goals first|assumption|assumption)
 replace gb:=Below.refl W1.heap.size W1
 go_wp2_with fail
 go_ret
 exact ⟨rfl,bS zb gb⟩

theorem ziP (c:Cd) (v:Value) (op to xa xb:Int) (ng:Bool) (vn vd:Value) (ln ld:List Nat) (g n:Nat) (L:List Int) (w:World) (hc:IsC w c v) (hx:IsX w ⟨op,to,xa,xb,⟨ng,ln,ld⟩⟩ vn vd) (hrow:zbu w g n (fun i => .bool (decide ((i:Int) ∈ L)))) (hL:∀ x ∈ L,0<=x/\x<(n:Int)) (hn:n<=100000) (hnr:(n:Int)=c.regs) (hr:1<=c.rows/\c.rows<=40) (hcl:1<=c.cols/\c.cols<=40) (h0:0<=zd op) (h1:zaJ ⟨op,to,xa,xb,⟨ng,ln,ld⟩⟩=false) (o:Bool) (ho:zp c L ⟨op,to,xa,xb,⟨ng,ln,ld⟩⟩=o) :
  Calls Tryz.prog 33 #[aggC c v,.agg #[.int .i64 op,.int .i64 to,.int .i64 xa,.int .i64 xb,.bool ng,vn,vd],.slice (some ⟨g,0,none⟩) n n] w (fun e w' => e=.returned (.bool o)/\Below w.heap.size w w'):=by
 have ho':o=false:=by
  rw [<- ho];unfold zp
  rw [h1,Bool.and_false];rfl
 obtain ⟨sa,hsa⟩:∃ b,decide (1<=zd op)=b:=⟨_,rfl⟩
 obtain ⟨sb,hsb⟩:∃ b,decide (zd op=2)=b:=⟨_,rfl⟩
 obtain ⟨sp,hsp⟩:∃ b,decide (op=7)=b:=⟨_,rfl⟩
 have Hsa:=Lib.hid hsa
 have Hsb:=Lib.hid hsb
 have Hsp:=Lib.hid hsp
 have Hok:=Lib.hid (decide_eq_true h0)
 have Hnum:=Lib.hid h1
 clear ho hsa hsb hsp h0 h1 hnr hr hcl hL
 subst ho'
 obtain ⟨a0,n0,c0,rfl,H0,hm0⟩:=hc.1.open
 obtain ⟨a1,n1,c1,rfl,H1,hm1⟩:=hx.1.1.open
 obtain ⟨a2,n2,c2,rfl,H2,hm2⟩:=hx.1.2.1.open
 go_enter Tryz.func33,Tryz.ntmps33
 go_wp2_with fail
 obtain ⟨W0,an⟩:∃ W0,(w.alloc (.cells #[.int .i64 c.ins,.int .i64 c.rows,.int .i64 c.cols,.int .i64 c.regs,.slice a0 n0 c0] 24)).alloc (.cells #[.int .i64 op,.int .i64 to,.int .i64 xa,.int .i64 xb,.bool ng,.slice a1 n1 c1,.slice a2 n2 c2] 49)=W0:=⟨_,rfl⟩
 have ap:=Lib.hid (show ∀ W',Below W0.heap.size W0 W'->(Bx5 W' w.heap.size (.int .i64 c.ins) (.int .i64 c.rows) (.int .i64 c.cols) (.int .i64 c.regs) (.slice a0 n0 c0)/\Bx7 W' (w.heap.size+1) (.int .i64 op) (.int .i64 to) (.int .i64 xa) (.int .i64 xb) (.bool ng) (.slice a1 n1 c1) (.slice a2 n2 c2)) from fun W' hb => by
   refine ⟨bx5 hb ?_ ?_ ?_ ?_ ?_ ?_ ?_ ?_ ?_ ?_,bx7 hb ?_ ?_ ?_ ?_ ?_ ?_ ?_ ?_ ?_ ?_ ?_ ?_ ?_ ?_⟩
   all_goals first|assumption|(rw [<- an];simp [go_sem]))
 have zb:Below w.heap.size w W0:=by rw [<- an];exact bS (bN _ _) (bN _ _)
 rw [an]
 clear an
 have i0:=hc.to zb
 have i1:=hx.to zb
 have i2:=hrow.to zb
 have gb:Below W0.heap.size W0 W0:=Below.refl _ _
 obtain ⟨⟨z0,ae,af,ag,az,aA,ah,ak,al,aJ,aK⟩,⟨z1,aB,aD,aE,aR,aS,aT,aU,aG,aH,aI,aV,aW,aX,aY⟩⟩:=ap.out _ gb
 go_wp2_with fail
 refine (zv op sa sb sp true _ Hsa.out Hsb.out Hsp.out Hok.out).mono ?_
 clear ae ah af ak ag al az aJ aA aK aB aG aD aH aE aI aR aV aS aW aT aX aU aY
 rintro e w1 ⟨rfl,be⟩
 replace gb:=bS gb be
 obtain ⟨⟨z0,ae,af,ag,az,aA,ah,ak,al,aJ,aK⟩,⟨z1,aB,aD,aE,aR,aS,aT,aU,aG,aH,aI,aV,aW,aX,aY⟩⟩:=ap.out _ gb
 go_wp2_with fail
 obtain ⟨W1,aO⟩:∃ W1,w1.alloc (.cells #[.bool sa,.bool sb,.bool sp] 70)=W1:=⟨_,rfl⟩
 have hb_W1:Below w1.heap.size w1 W1:=by rw [<- aO];exact bN _ _
 have cS:Hid (W1.heap.size=w1.heap.size+1):=by show _=_;rw [<- aO];simp
 clear ae ah af ak ag al az aJ aA aK aB aG aD aH aE aI aR aV aS aW aT aX aU aY
 replace gb:=bS gb hb_W1
 obtain ⟨⟨z0,ae,af,ag,az,aA,ah,ak,al,aJ,aK⟩,⟨z1,aB,aD,aE,aR,aS,aT,aU,aG,aH,aI,aV,aW,aX,aY⟩⟩:=ap.out _ gb
 have bO:W1.cell? ⟨w1.heap.size,0,none⟩=some (.bool sa):=by rw [<- aO];simp [go_sem]
 have bZ:W1.frozen? ⟨w1.heap.size,0,none⟩=false:=by rw [<- aO];simp [go_sem]
 have bP:W1.cell? ⟨w1.heap.size,1,none⟩=some (.bool sb):=by rw [<- aO];simp [go_sem]
 have b7:W1.frozen? ⟨w1.heap.size,1,none⟩=false:=by rw [<- aO];simp [go_sem]
 have bQ:W1.cell? ⟨w1.heap.size,2,none⟩=some (.bool sp):=by rw [<- aO];simp [go_sem]
 have ce:W1.frozen? ⟨w1.heap.size,2,none⟩=false:=by rw [<- aO];simp [go_sem]
 have z5:w1.heap.size<W1.heap.size:=by rw [<- aO];simp
 rw [aO]
 clear aO
 replace i0:=i0.to gb
 replace i1:=i1.to gb
 replace i2:=i2.to gb
 replace zb:=bS zb gb
 have ck:=Lib.hid (show ∀ W',Below W1.heap.size W1 W'->(Bx5 W' w.heap.size (.int .i64 c.ins) (.int .i64 c.rows) (.int .i64 c.cols) (.int .i64 c.regs) (.slice a0 n0 c0)/\Bx7 W' (w.heap.size+1) (.int .i64 op) (.int .i64 to) (.int .i64 xa) (.int .i64 xb) (.bool ng) (.slice a1 n1 c1) (.slice a2 n2 c2)/\Bx3 W' w1.heap.size (.bool sa) (.bool sb) (.bool sp)) from fun W' hb => by
   refine ⟨bx5 hb ?_ ?_ ?_ ?_ ?_ ?_ ?_ ?_ ?_ ?_,bx7 hb ?_ ?_ ?_ ?_ ?_ ?_ ?_ ?_ ?_ ?_ ?_ ?_ ?_ ?_,bx3 hb ?_ ?_ ?_ ?_ ?_ ?_⟩
   all_goals first|assumption|assumption)
 replace gb:=Below.refl W1.heap.size W1
 go_wp2_with fail
 refine (zE op to xa xb ng _ _ ln ld _ (i1.to gb) false Hnum.out).mono ?_
 clear ae ah af ak ag al az aJ aA aK aB aG aD aH aE aI aR aV aS aW aT aX aU aY bO bZ bP b7 bQ ce
 rintro e w2 ⟨rfl,aZ⟩
 replace gb:=bS gb aZ
 obtain ⟨⟨z0,ae,af,ag,az,aA,ah,ak,al,aJ,aK⟩,⟨z1,aB,aD,aE,aR,aS,aT,aU,aG,aH,aI,aV,aW,aX,aY⟩,⟨z5,bO,bP,bQ,bZ,b7,ce⟩⟩:=ck.out _ gb
 go_wp2_with fail
 go_ret
 exact ⟨rfl,bS zb gb⟩

theorem ziR (c:Cd) (v:Value) (op to xa xb:Int) (ng:Bool) (vn vd:Value) (ln ld:List Nat) (g n:Nat) (L:List Int) (w:World) (hc:IsC w c v) (hx:IsX w ⟨op,to,xa,xb,⟨ng,ln,ld⟩⟩ vn vd) (hrow:zbu w g n (fun i => .bool (decide ((i:Int) ∈ L)))) (hL:∀ x ∈ L,0<=x/\x<(n:Int)) (hn:n<=100000) (hnr:(n:Int)=c.regs) (hr:1<=c.rows/\c.rows<=40) (hcl:1<=c.cols/\c.cols<=40) (h0:0<=zd op) (hnum:zaJ ⟨op,to,xa,xb,⟨ng,ln,ld⟩⟩=true) (h1:op=10) (o:Bool) (ho:zp c L ⟨op,to,xa,xb,⟨ng,ln,ld⟩⟩=o) :
  Calls Tryz.prog 33 #[aggC c v,.agg #[.int .i64 op,.int .i64 to,.int .i64 xa,.int .i64 xb,.bool ng,vn,vd],.slice (some ⟨g,0,none⟩) n n] w (fun e w' => e=.returned (.bool o)/\Below w.heap.size w w'):=by
 rw [zeB (x:=⟨op,to,xa,xb,⟨ng,ln,ld⟩⟩) h0 hnum,zcY (x:=⟨op,to,xa,xb,⟨ng,ln,ld⟩⟩) h0 (by show op≠0;first|assumption|omega),zcC (x:=⟨op,to,xa,xb,⟨ng,ln,ld⟩⟩) (by show op≠7;first|assumption|omega)] at ho
 obtain ⟨sa,hsa⟩:∃ b,decide (1<=zd op)=b:=⟨_,rfl⟩
 obtain ⟨sb,hsb⟩:∃ b,decide (zd op=2)=b:=⟨_,rfl⟩
 have hsp:decide (op=7)=false:=by simp;omega
 obtain ⟨ra,hra⟩:∃ b,(if sa=true then decide (xa ∈ L) else decide (xa=0))=b:=⟨_,rfl⟩
 obtain ⟨rb,hrb⟩:∃ b,(if sb=true then decide (xb ∈ L) else decide (xb=0))=b:=⟨_,rfl⟩
 obtain ⟨p1,tp1⟩:∃ b,decide (0<=xa)=b:=⟨_,rfl⟩
 obtain ⟨p2,tp2⟩:∃ b,decide (xa<c.ins)=b:=⟨_,rfl⟩
 obtain ⟨r1,tr1⟩:∃ b,decide (-21<=xb)=b:=⟨_,rfl⟩
 obtain ⟨r2,tr2⟩:∃ b,decide (xb<=21)=b:=⟨_,rfl⟩
 obtain ⟨q1,tq1⟩:∃ b,decide (0<=to)=b:=⟨_,rfl⟩
 obtain ⟨q2,tq2⟩:∃ b,decide (to<c.rows*c.cols)=b:=⟨_,rfl⟩
 have t10:(op == 10)=true:=by simp;omega
 have t0:(op == 0)=false:=by simp;omega
 have pb:=zae hr hcl
 have HM:IntKind.i64.wrap (c.rows*c.cols)=c.rows*c.cols:=IntWalk.i64_in _ (by omega)
 have ho':(ra && rb && q1 && q2)=o:=by
  have e:zD c ⟨op,to,xa,xb,⟨ng,ln,ld⟩⟩=c.rows*c.cols:=by unfold zD;rw [if_pos h1]
  rw [e] at ho
  subst ho hra hrb hsa hsb tp1 tp2 tr1 tr2 tq1 tq2
  rfl
 have Hsa:=Lib.hid hsa
 have Hsb:=Lib.hid hsb
 have Hsp:=Lib.hid hsp
 have Hok:=Lib.hid (decide_eq_true h0)
 have Hnum:=Lib.hid hnum
 have Hra:=Lib.hid hra
 have Hrb:=Lib.hid hrb
 have HL:=Lib.hid hL
 clear ho hsa hsb hsp hra hrb h0 hnum hnr hr hcl hL pb h1
 obtain ⟨a0,n0,c0,rfl,H0,hm0⟩:=hc.1.open
 obtain ⟨a1,n1,c1,rfl,H1,hm1⟩:=hx.1.1.open
 obtain ⟨a2,n2,c2,rfl,H2,hm2⟩:=hx.1.2.1.open
 cases ra
 case false =>
  subst ho'
  go_enter Tryz.func33,Tryz.ntmps33
  go_wp2_with fail
  obtain ⟨W0,an⟩:∃ W0,(w.alloc (.cells #[.int .i64 c.ins,.int .i64 c.rows,.int .i64 c.cols,.int .i64 c.regs,.slice a0 n0 c0] 24)).alloc (.cells #[.int .i64 op,.int .i64 to,.int .i64 xa,.int .i64 xb,.bool ng,.slice a1 n1 c1,.slice a2 n2 c2] 49)=W0:=⟨_,rfl⟩
  have ap:=Lib.hid (show ∀ W',Below W0.heap.size W0 W'->(Bx5 W' w.heap.size (.int .i64 c.ins) (.int .i64 c.rows) (.int .i64 c.cols) (.int .i64 c.regs) (.slice a0 n0 c0)/\Bx7 W' (w.heap.size+1) (.int .i64 op) (.int .i64 to) (.int .i64 xa) (.int .i64 xb) (.bool ng) (.slice a1 n1 c1) (.slice a2 n2 c2)) from fun W' hb => by
    refine ⟨bx5 hb ?_ ?_ ?_ ?_ ?_ ?_ ?_ ?_ ?_ ?_,bx7 hb ?_ ?_ ?_ ?_ ?_ ?_ ?_ ?_ ?_ ?_ ?_ ?_ ?_ ?_⟩
    all_goals first|assumption|(rw [<- an];simp [go_sem]))
  have zb:Below w.heap.size w W0:=by rw [<- an];exact bS (bN _ _) (bN _ _)
  rw [an]
  clear an
  have i0:=hc.to zb
  have i1:=hx.to zb
  have i2:=hrow.to zb
  have gb:Below W0.heap.size W0 W0:=Below.refl _ _
  obtain ⟨⟨z0,ae,af,ag,az,aA,ah,ak,al,aJ,aK⟩,⟨z1,aB,aD,aE,aR,aS,aT,aU,aG,aH,aI,aV,aW,aX,aY⟩⟩:=ap.out _ gb
  go_wp2_with fail
  refine (zv op sa sb false true _ Hsa.out Hsb.out Hsp.out Hok.out).mono ?_
  clear ae ah af ak ag al az aJ aA aK aB aG aD aH aE aI aR aV aS aW aT aX aU aY
  rintro e w1 ⟨rfl,be⟩
  replace gb:=bS gb be
  obtain ⟨⟨z0,ae,af,ag,az,aA,ah,ak,al,aJ,aK⟩,⟨z1,aB,aD,aE,aR,aS,aT,aU,aG,aH,aI,aV,aW,aX,aY⟩⟩:=ap.out _ gb
  go_wp2_with fail
  obtain ⟨W1,aO⟩:∃ W1,w1.alloc (.cells #[.bool sa,.bool sb,.bool false] 70)=W1:=⟨_,rfl⟩
  have hb_W1:Below w1.heap.size w1 W1:=by rw [<- aO];exact bN _ _
  have cS:Hid (W1.heap.size=w1.heap.size+1):=by show _=_;rw [<- aO];simp
  clear ae ah af ak ag al az aJ aA aK aB aG aD aH aE aI aR aV aS aW aT aX aU aY
  replace gb:=bS gb hb_W1
  obtain ⟨⟨z0,ae,af,ag,az,aA,ah,ak,al,aJ,aK⟩,⟨z1,aB,aD,aE,aR,aS,aT,aU,aG,aH,aI,aV,aW,aX,aY⟩⟩:=ap.out _ gb
  have bO:W1.cell? ⟨w1.heap.size,0,none⟩=some (.bool sa):=by rw [<- aO];simp [go_sem]
  have bZ:W1.frozen? ⟨w1.heap.size,0,none⟩=false:=by rw [<- aO];simp [go_sem]
  have bP:W1.cell? ⟨w1.heap.size,1,none⟩=some (.bool sb):=by rw [<- aO];simp [go_sem]
  have b7:W1.frozen? ⟨w1.heap.size,1,none⟩=false:=by rw [<- aO];simp [go_sem]
  have bQ:W1.cell? ⟨w1.heap.size,2,none⟩=some (.bool false):=by rw [<- aO];simp [go_sem]
  have ce:W1.frozen? ⟨w1.heap.size,2,none⟩=false:=by rw [<- aO];simp [go_sem]
  have z5:w1.heap.size<W1.heap.size:=by rw [<- aO];simp
  rw [aO]
  clear aO
  replace i0:=i0.to gb
  replace i1:=i1.to gb
  replace i2:=i2.to gb
  replace zb:=bS zb gb
  have ck:=Lib.hid (show ∀ W',Below W1.heap.size W1 W'->(Bx5 W' w.heap.size (.int .i64 c.ins) (.int .i64 c.rows) (.int .i64 c.cols) (.int .i64 c.regs) (.slice a0 n0 c0)/\Bx7 W' (w.heap.size+1) (.int .i64 op) (.int .i64 to) (.int .i64 xa) (.int .i64 xb) (.bool ng) (.slice a1 n1 c1) (.slice a2 n2 c2)/\Bx3 W' w1.heap.size (.bool sa) (.bool sb) (.bool false)) from fun W' hb => by
    refine ⟨bx5 hb ?_ ?_ ?_ ?_ ?_ ?_ ?_ ?_ ?_ ?_,bx7 hb ?_ ?_ ?_ ?_ ?_ ?_ ?_ ?_ ?_ ?_ ?_ ?_ ?_ ?_,bx3 hb ?_ ?_ ?_ ?_ ?_ ?_⟩
    all_goals first|assumption|assumption)
  replace gb:=Below.refl W1.heap.size W1
  go_wp2_with fail
  refine (zE op to xa xb ng _ _ ln ld _ (i1.to gb) true Hnum.out).mono ?_
  clear ae ah af ak ag al az aJ aA aK aB aG aD aH aE aI aR aV aS aW aT aX aU aY bO bZ bP b7 bQ ce
  rintro e w2 ⟨rfl,aZ⟩
  replace gb:=bS gb aZ
  obtain ⟨⟨z0,ae,af,ag,az,aA,ah,ak,al,aJ,aK⟩,⟨z1,aB,aD,aE,aR,aS,aT,aU,aG,aH,aI,aV,aW,aX,aY⟩,⟨z5,bO,bP,bQ,bZ,b7,ce⟩⟩:=ck.out _ gb
  go_wp2_with fail
  refine (zk sa xa g n L _ (i2.to gb) HL.out hn _ Hra.out).mono ?_
  rintro e w3 ⟨rfl,rfl⟩
  go_wp2_with fail
  refine (zk sb xb g n L _ (i2.to gb) HL.out hn _ Hrb.out).mono ?_
  rintro e w4 ⟨rfl,rfl⟩
  go_wp2_with fail
  go_ret
  exact ⟨rfl,bS zb gb⟩
 case true =>
  cases rb
  case false =>
   subst ho'
   go_enter Tryz.func33,Tryz.ntmps33
   go_wp2_with fail
   obtain ⟨W0,an⟩:∃ W0,(w.alloc (.cells #[.int .i64 c.ins,.int .i64 c.rows,.int .i64 c.cols,.int .i64 c.regs,.slice a0 n0 c0] 24)).alloc (.cells #[.int .i64 op,.int .i64 to,.int .i64 xa,.int .i64 xb,.bool ng,.slice a1 n1 c1,.slice a2 n2 c2] 49)=W0:=⟨_,rfl⟩
   have ap:=Lib.hid (show ∀ W',Below W0.heap.size W0 W'->(Bx5 W' w.heap.size (.int .i64 c.ins) (.int .i64 c.rows) (.int .i64 c.cols) (.int .i64 c.regs) (.slice a0 n0 c0)/\Bx7 W' (w.heap.size+1) (.int .i64 op) (.int .i64 to) (.int .i64 xa) (.int .i64 xb) (.bool ng) (.slice a1 n1 c1) (.slice a2 n2 c2)) from fun W' hb => by
     refine ⟨bx5 hb ?_ ?_ ?_ ?_ ?_ ?_ ?_ ?_ ?_ ?_,bx7 hb ?_ ?_ ?_ ?_ ?_ ?_ ?_ ?_ ?_ ?_ ?_ ?_ ?_ ?_⟩
     all_goals first|assumption|(rw [<- an];simp [go_sem]))
   have zb:Below w.heap.size w W0:=by rw [<- an];exact bS (bN _ _) (bN _ _)
   rw [an]
   clear an
   have i0:=hc.to zb
   have i1:=hx.to zb
   have i2:=hrow.to zb
   have gb:Below W0.heap.size W0 W0:=Below.refl _ _
   obtain ⟨⟨z0,ae,af,ag,az,aA,ah,ak,al,aJ,aK⟩,⟨z1,aB,aD,aE,aR,aS,aT,aU,aG,aH,aI,aV,aW,aX,aY⟩⟩:=ap.out _ gb
   go_wp2_with fail
   refine (zv op sa sb false true _ Hsa.out Hsb.out Hsp.out Hok.out).mono ?_
   clear ae ah af ak ag al az aJ aA aK aB aG aD aH aE aI aR aV aS aW aT aX aU aY
   rintro e w1 ⟨rfl,be⟩
   replace gb:=bS gb be
   obtain ⟨⟨z0,ae,af,ag,az,aA,ah,ak,al,aJ,aK⟩,⟨z1,aB,aD,aE,aR,aS,aT,aU,aG,aH,aI,aV,aW,aX,aY⟩⟩:=ap.out _ gb
   go_wp2_with fail
   obtain ⟨W1,aO⟩:∃ W1,w1.alloc (.cells #[.bool sa,.bool sb,.bool false] 70)=W1:=⟨_,rfl⟩
   have hb_W1:Below w1.heap.size w1 W1:=by rw [<- aO];exact bN _ _
   have cS:Hid (W1.heap.size=w1.heap.size+1):=by show _=_;rw [<- aO];simp
   clear ae ah af ak ag al az aJ aA aK aB aG aD aH aE aI aR aV aS aW aT aX aU aY
   replace gb:=bS gb hb_W1
   obtain ⟨⟨z0,ae,af,ag,az,aA,ah,ak,al,aJ,aK⟩,⟨z1,aB,aD,aE,aR,aS,aT,aU,aG,aH,aI,aV,aW,aX,aY⟩⟩:=ap.out _ gb
   have bO:W1.cell? ⟨w1.heap.size,0,none⟩=some (.bool sa):=by rw [<- aO];simp [go_sem]
   have bZ:W1.frozen? ⟨w1.heap.size,0,none⟩=false:=by rw [<- aO];simp [go_sem]
   have bP:W1.cell? ⟨w1.heap.size,1,none⟩=some (.bool sb):=by rw [<- aO];simp [go_sem]
   have b7:W1.frozen? ⟨w1.heap.size,1,none⟩=false:=by rw [<- aO];simp [go_sem]
   have bQ:W1.cell? ⟨w1.heap.size,2,none⟩=some (.bool false):=by rw [<- aO];simp [go_sem]
   have ce:W1.frozen? ⟨w1.heap.size,2,none⟩=false:=by rw [<- aO];simp [go_sem]
   have z5:w1.heap.size<W1.heap.size:=by rw [<- aO];simp
   rw [aO]
   clear aO
   replace i0:=i0.to gb
   replace i1:=i1.to gb
   replace i2:=i2.to gb
   replace zb:=bS zb gb
   have ck:=Lib.hid (show ∀ W',Below W1.heap.size W1 W'->(Bx5 W' w.heap.size (.int .i64 c.ins) (.int .i64 c.rows) (.int .i64 c.cols) (.int .i64 c.regs) (.slice a0 n0 c0)/\Bx7 W' (w.heap.size+1) (.int .i64 op) (.int .i64 to) (.int .i64 xa) (.int .i64 xb) (.bool ng) (.slice a1 n1 c1) (.slice a2 n2 c2)/\Bx3 W' w1.heap.size (.bool sa) (.bool sb) (.bool false)) from fun W' hb => by
     refine ⟨bx5 hb ?_ ?_ ?_ ?_ ?_ ?_ ?_ ?_ ?_ ?_,bx7 hb ?_ ?_ ?_ ?_ ?_ ?_ ?_ ?_ ?_ ?_ ?_ ?_ ?_ ?_,bx3 hb ?_ ?_ ?_ ?_ ?_ ?_⟩
     all_goals first|assumption|assumption)
   replace gb:=Below.refl W1.heap.size W1
   go_wp2_with fail
   refine (zE op to xa xb ng _ _ ln ld _ (i1.to gb) true Hnum.out).mono ?_
   clear ae ah af ak ag al az aJ aA aK aB aG aD aH aE aI aR aV aS aW aT aX aU aY bO bZ bP b7 bQ ce
   rintro e w2 ⟨rfl,aZ⟩
   replace gb:=bS gb aZ
   obtain ⟨⟨z0,ae,af,ag,az,aA,ah,ak,al,aJ,aK⟩,⟨z1,aB,aD,aE,aR,aS,aT,aU,aG,aH,aI,aV,aW,aX,aY⟩,⟨z5,bO,bP,bQ,bZ,b7,ce⟩⟩:=ck.out _ gb
   go_wp2_with fail
   refine (zk sa xa g n L _ (i2.to gb) HL.out hn _ Hra.out).mono ?_
   rintro e w3 ⟨rfl,rfl⟩
   go_wp2_with fail
   refine (zk sb xb g n L _ (i2.to gb) HL.out hn _ Hrb.out).mono ?_
   rintro e w4 ⟨rfl,rfl⟩
   go_wp2_with fail
   go_ret
   exact ⟨rfl,bS zb gb⟩
  case true =>
   cases q1
   case false =>
    subst ho'
    go_enter Tryz.func33,Tryz.ntmps33
    go_wp2_with fail
    obtain ⟨W0,an⟩:∃ W0,(w.alloc (.cells #[.int .i64 c.ins,.int .i64 c.rows,.int .i64 c.cols,.int .i64 c.regs,.slice a0 n0 c0] 24)).alloc (.cells #[.int .i64 op,.int .i64 to,.int .i64 xa,.int .i64 xb,.bool ng,.slice a1 n1 c1,.slice a2 n2 c2] 49)=W0:=⟨_,rfl⟩
    have ap:=Lib.hid (show ∀ W',Below W0.heap.size W0 W'->(Bx5 W' w.heap.size (.int .i64 c.ins) (.int .i64 c.rows) (.int .i64 c.cols) (.int .i64 c.regs) (.slice a0 n0 c0)/\Bx7 W' (w.heap.size+1) (.int .i64 op) (.int .i64 to) (.int .i64 xa) (.int .i64 xb) (.bool ng) (.slice a1 n1 c1) (.slice a2 n2 c2)) from fun W' hb => by
      refine ⟨bx5 hb ?_ ?_ ?_ ?_ ?_ ?_ ?_ ?_ ?_ ?_,bx7 hb ?_ ?_ ?_ ?_ ?_ ?_ ?_ ?_ ?_ ?_ ?_ ?_ ?_ ?_⟩
      all_goals first|assumption|(rw [<- an];simp [go_sem]))
    have zb:Below w.heap.size w W0:=by rw [<- an];exact bS (bN _ _) (bN _ _)
    rw [an]
    clear an
    have i0:=hc.to zb
    have i1:=hx.to zb
    have i2:=hrow.to zb
    have gb:Below W0.heap.size W0 W0:=Below.refl _ _
    obtain ⟨⟨z0,ae,af,ag,az,aA,ah,ak,al,aJ,aK⟩,⟨z1,aB,aD,aE,aR,aS,aT,aU,aG,aH,aI,aV,aW,aX,aY⟩⟩:=ap.out _ gb
    go_wp2_with fail
    refine (zv op sa sb false true _ Hsa.out Hsb.out Hsp.out Hok.out).mono ?_
    clear ae ah af ak ag al az aJ aA aK aB aG aD aH aE aI aR aV aS aW aT aX aU aY
    rintro e w1 ⟨rfl,be⟩
    replace gb:=bS gb be
    obtain ⟨⟨z0,ae,af,ag,az,aA,ah,ak,al,aJ,aK⟩,⟨z1,aB,aD,aE,aR,aS,aT,aU,aG,aH,aI,aV,aW,aX,aY⟩⟩:=ap.out _ gb
    go_wp2_with fail
    obtain ⟨W1,aO⟩:∃ W1,w1.alloc (.cells #[.bool sa,.bool sb,.bool false] 70)=W1:=⟨_,rfl⟩
    have hb_W1:Below w1.heap.size w1 W1:=by rw [<- aO];exact bN _ _
    have cS:Hid (W1.heap.size=w1.heap.size+1):=by show _=_;rw [<- aO];simp
    clear ae ah af ak ag al az aJ aA aK aB aG aD aH aE aI aR aV aS aW aT aX aU aY
    replace gb:=bS gb hb_W1
    obtain ⟨⟨z0,ae,af,ag,az,aA,ah,ak,al,aJ,aK⟩,⟨z1,aB,aD,aE,aR,aS,aT,aU,aG,aH,aI,aV,aW,aX,aY⟩⟩:=ap.out _ gb
    have bO:W1.cell? ⟨w1.heap.size,0,none⟩=some (.bool sa):=by rw [<- aO];simp [go_sem]
    have bZ:W1.frozen? ⟨w1.heap.size,0,none⟩=false:=by rw [<- aO];simp [go_sem]
    have bP:W1.cell? ⟨w1.heap.size,1,none⟩=some (.bool sb):=by rw [<- aO];simp [go_sem]
    have b7:W1.frozen? ⟨w1.heap.size,1,none⟩=false:=by rw [<- aO];simp [go_sem]
    have bQ:W1.cell? ⟨w1.heap.size,2,none⟩=some (.bool false):=by rw [<- aO];simp [go_sem]
    have ce:W1.frozen? ⟨w1.heap.size,2,none⟩=false:=by rw [<- aO];simp [go_sem]
    have z5:w1.heap.size<W1.heap.size:=by rw [<- aO];simp
    rw [aO]
    clear aO
    replace i0:=i0.to gb
    replace i1:=i1.to gb
    replace i2:=i2.to gb
    replace zb:=bS zb gb
    have ck:=Lib.hid (show ∀ W',Below W1.heap.size W1 W'->(Bx5 W' w.heap.size (.int .i64 c.ins) (.int .i64 c.rows) (.int .i64 c.cols) (.int .i64 c.regs) (.slice a0 n0 c0)/\Bx7 W' (w.heap.size+1) (.int .i64 op) (.int .i64 to) (.int .i64 xa) (.int .i64 xb) (.bool ng) (.slice a1 n1 c1) (.slice a2 n2 c2)/\Bx3 W' w1.heap.size (.bool sa) (.bool sb) (.bool false)) from fun W' hb => by
      refine ⟨bx5 hb ?_ ?_ ?_ ?_ ?_ ?_ ?_ ?_ ?_ ?_,bx7 hb ?_ ?_ ?_ ?_ ?_ ?_ ?_ ?_ ?_ ?_ ?_ ?_ ?_ ?_,bx3 hb ?_ ?_ ?_ ?_ ?_ ?_⟩
      all_goals first|assumption|assumption)
    replace gb:=Below.refl W1.heap.size W1
    go_wp2_with fail
    refine (zE op to xa xb ng _ _ ln ld _ (i1.to gb) true Hnum.out).mono ?_
    clear ae ah af ak ag al az aJ aA aK aB aG aD aH aE aI aR aV aS aW aT aX aU aY bO bZ bP b7 bQ ce
    rintro e w2 ⟨rfl,aZ⟩
    replace gb:=bS gb aZ
    obtain ⟨⟨z0,ae,af,ag,az,aA,ah,ak,al,aJ,aK⟩,⟨z1,aB,aD,aE,aR,aS,aT,aU,aG,aH,aI,aV,aW,aX,aY⟩,⟨z5,bO,bP,bQ,bZ,b7,ce⟩⟩:=ck.out _ gb
    go_wp2_with fail
    refine (zk sa xa g n L _ (i2.to gb) HL.out hn _ Hra.out).mono ?_
    rintro e w3 ⟨rfl,rfl⟩
    go_wp2_with fail
    refine (zk sb xb g n L _ (i2.to gb) HL.out hn _ Hrb.out).mono ?_
    rintro e w4 ⟨rfl,rfl⟩
    go_wp2_with fail
    go_ret
    exact ⟨rfl,bS zb gb⟩
   case true =>
    subst ho'
    go_enter Tryz.func33,Tryz.ntmps33
    go_wp2_with fail
    obtain ⟨W0,an⟩:∃ W0,(w.alloc (.cells #[.int .i64 c.ins,.int .i64 c.rows,.int .i64 c.cols,.int .i64 c.regs,.slice a0 n0 c0] 24)).alloc (.cells #[.int .i64 op,.int .i64 to,.int .i64 xa,.int .i64 xb,.bool ng,.slice a1 n1 c1,.slice a2 n2 c2] 49)=W0:=⟨_,rfl⟩
    have ap:=Lib.hid (show ∀ W',Below W0.heap.size W0 W'->(Bx5 W' w.heap.size (.int .i64 c.ins) (.int .i64 c.rows) (.int .i64 c.cols) (.int .i64 c.regs) (.slice a0 n0 c0)/\Bx7 W' (w.heap.size+1) (.int .i64 op) (.int .i64 to) (.int .i64 xa) (.int .i64 xb) (.bool ng) (.slice a1 n1 c1) (.slice a2 n2 c2)) from fun W' hb => by
      refine ⟨bx5 hb ?_ ?_ ?_ ?_ ?_ ?_ ?_ ?_ ?_ ?_,bx7 hb ?_ ?_ ?_ ?_ ?_ ?_ ?_ ?_ ?_ ?_ ?_ ?_ ?_ ?_⟩
      all_goals first|assumption|(rw [<- an];simp [go_sem]))
    have zb:Below w.heap.size w W0:=by rw [<- an];exact bS (bN _ _) (bN _ _)
    rw [an]
    clear an
    have i0:=hc.to zb
    have i1:=hx.to zb
    have i2:=hrow.to zb
    have gb:Below W0.heap.size W0 W0:=Below.refl _ _
    obtain ⟨⟨z0,ae,af,ag,az,aA,ah,ak,al,aJ,aK⟩,⟨z1,aB,aD,aE,aR,aS,aT,aU,aG,aH,aI,aV,aW,aX,aY⟩⟩:=ap.out _ gb
    go_wp2_with fail
    refine (zv op sa sb false true _ Hsa.out Hsb.out Hsp.out Hok.out).mono ?_
    clear ae ah af ak ag al az aJ aA aK aB aG aD aH aE aI aR aV aS aW aT aX aU aY
    rintro e w1 ⟨rfl,be⟩
    replace gb:=bS gb be
    obtain ⟨⟨z0,ae,af,ag,az,aA,ah,ak,al,aJ,aK⟩,⟨z1,aB,aD,aE,aR,aS,aT,aU,aG,aH,aI,aV,aW,aX,aY⟩⟩:=ap.out _ gb
    go_wp2_with fail
    obtain ⟨W1,aO⟩:∃ W1,w1.alloc (.cells #[.bool sa,.bool sb,.bool false] 70)=W1:=⟨_,rfl⟩
    have hb_W1:Below w1.heap.size w1 W1:=by rw [<- aO];exact bN _ _
    have cS:Hid (W1.heap.size=w1.heap.size+1):=by show _=_;rw [<- aO];simp
    clear ae ah af ak ag al az aJ aA aK aB aG aD aH aE aI aR aV aS aW aT aX aU aY
    replace gb:=bS gb hb_W1
    obtain ⟨⟨z0,ae,af,ag,az,aA,ah,ak,al,aJ,aK⟩,⟨z1,aB,aD,aE,aR,aS,aT,aU,aG,aH,aI,aV,aW,aX,aY⟩⟩:=ap.out _ gb
    have bO:W1.cell? ⟨w1.heap.size,0,none⟩=some (.bool sa):=by rw [<- aO];simp [go_sem]
    have bZ:W1.frozen? ⟨w1.heap.size,0,none⟩=false:=by rw [<- aO];simp [go_sem]
    have bP:W1.cell? ⟨w1.heap.size,1,none⟩=some (.bool sb):=by rw [<- aO];simp [go_sem]
    have b7:W1.frozen? ⟨w1.heap.size,1,none⟩=false:=by rw [<- aO];simp [go_sem]
    have bQ:W1.cell? ⟨w1.heap.size,2,none⟩=some (.bool false):=by rw [<- aO];simp [go_sem]
    have ce:W1.frozen? ⟨w1.heap.size,2,none⟩=false:=by rw [<- aO];simp [go_sem]
    have z5:w1.heap.size<W1.heap.size:=by rw [<- aO];simp
    rw [aO]
    clear aO
    replace i0:=i0.to gb
    replace i1:=i1.to gb
    replace i2:=i2.to gb
    replace zb:=bS zb gb
    have ck:=Lib.hid (show ∀ W',Below W1.heap.size W1 W'->(Bx5 W' w.heap.size (.int .i64 c.ins) (.int .i64 c.rows) (.int .i64 c.cols) (.int .i64 c.regs) (.slice a0 n0 c0)/\Bx7 W' (w.heap.size+1) (.int .i64 op) (.int .i64 to) (.int .i64 xa) (.int .i64 xb) (.bool ng) (.slice a1 n1 c1) (.slice a2 n2 c2)/\Bx3 W' w1.heap.size (.bool sa) (.bool sb) (.bool false)) from fun W' hb => by
      refine ⟨bx5 hb ?_ ?_ ?_ ?_ ?_ ?_ ?_ ?_ ?_ ?_,bx7 hb ?_ ?_ ?_ ?_ ?_ ?_ ?_ ?_ ?_ ?_ ?_ ?_ ?_ ?_,bx3 hb ?_ ?_ ?_ ?_ ?_ ?_⟩
      all_goals first|assumption|assumption)
    replace gb:=Below.refl W1.heap.size W1
    go_wp2_with fail
    refine (zE op to xa xb ng _ _ ln ld _ (i1.to gb) true Hnum.out).mono ?_
    clear ae ah af ak ag al az aJ aA aK aB aG aD aH aE aI aR aV aS aW aT aX aU aY bO bZ bP b7 bQ ce
    rintro e w2 ⟨rfl,aZ⟩
    replace gb:=bS gb aZ
    obtain ⟨⟨z0,ae,af,ag,az,aA,ah,ak,al,aJ,aK⟩,⟨z1,aB,aD,aE,aR,aS,aT,aU,aG,aH,aI,aV,aW,aX,aY⟩,⟨z5,bO,bP,bQ,bZ,b7,ce⟩⟩:=ck.out _ gb
    go_wp2_with fail
    refine (zk sa xa g n L _ (i2.to gb) HL.out hn _ Hra.out).mono ?_
    rintro e w3 ⟨rfl,rfl⟩
    go_wp2_with fail
    refine (zk sb xb g n L _ (i2.to gb) HL.out hn _ Hrb.out).mono ?_
    rintro e w4 ⟨rfl,rfl⟩
    go_wp2_with fail
    go_ret
    exact ⟨rfl,bS zb gb⟩

theorem zhr (c:Cd) (v:Value) (op to xa xb:Int) (ng:Bool) (vn vd:Value) (ln ld:List Nat) (g n:Nat) (L:List Int) (w:World) (hc:IsC w c v) (hx:IsX w ⟨op,to,xa,xb,⟨ng,ln,ld⟩⟩ vn vd) (hrow:zbu w g n (fun i => .bool (decide ((i:Int) ∈ L)))) (hL:∀ x ∈ L,0<=x/\x<(n:Int)) (hn:n<=100000) (hnr:(n:Int)=c.regs) (hr:1<=c.rows/\c.rows<=40) (hcl:1<=c.cols/\c.cols<=40) (h0:0<=zd op) (hnum:zaJ ⟨op,to,xa,xb,⟨ng,ln,ld⟩⟩=true) (h1:op=0) (o:Bool) (ho:zp c L ⟨op,to,xa,xb,⟨ng,ln,ld⟩⟩=o) :
  Calls Tryz.prog 33 #[aggC c v,.agg #[.int .i64 op,.int .i64 to,.int .i64 xa,.int .i64 xb,.bool ng,vn,vd],.slice (some ⟨g,0,none⟩) n n] w (fun e w' => e=.returned (.bool o)/\Below w.heap.size w w'):=by
 rw [zeB (x:=⟨op,to,xa,xb,⟨ng,ln,ld⟩⟩) h0 hnum,zjc (x:=⟨op,to,xa,xb,⟨ng,ln,ld⟩⟩) h1,zcC (x:=⟨op,to,xa,xb,⟨ng,ln,ld⟩⟩) (by show op≠7;first|assumption|omega)] at ho
 obtain ⟨sa,hsa⟩:∃ b,decide (1<=zd op)=b:=⟨_,rfl⟩
 obtain ⟨sb,hsb⟩:∃ b,decide (zd op=2)=b:=⟨_,rfl⟩
 have hsp:decide (op=7)=false:=by simp;omega
 obtain ⟨ra,hra⟩:∃ b,(if sa=true then decide (xa ∈ L) else decide (xa=0))=b:=⟨_,rfl⟩
 obtain ⟨rb,hrb⟩:∃ b,(if sb=true then decide (xb ∈ L) else decide (xb=0))=b:=⟨_,rfl⟩
 obtain ⟨p1,tp1⟩:∃ b,decide (0<=xa)=b:=⟨_,rfl⟩
 obtain ⟨p2,tp2⟩:∃ b,decide (xa<c.ins)=b:=⟨_,rfl⟩
 obtain ⟨r1,tr1⟩:∃ b,decide (-21<=xb)=b:=⟨_,rfl⟩
 obtain ⟨r2,tr2⟩:∃ b,decide (xb<=21)=b:=⟨_,rfl⟩
 obtain ⟨q1,tq1⟩:∃ b,decide (0<=to)=b:=⟨_,rfl⟩
 obtain ⟨q2,tq2⟩:∃ b,decide (to<c.regs)=b:=⟨_,rfl⟩
 have t10:(op == 10)=false:=by simp;omega
 have t0:(op == 0)=true:=by simp;omega
 have pb:=zae hr hcl
 have HM:IntKind.i64.wrap (c.rows*c.cols)=c.rows*c.cols:=IntWalk.i64_in _ (by omega)
 have ho':((p1 && p2) && rb && q1 && q2)=o:=by
  have e:zD c ⟨op,to,xa,xb,⟨ng,ln,ld⟩⟩=c.regs:=by unfold zD;rw [if_neg (by show op≠10;first|assumption|omega)]
  rw [e] at ho
  subst ho hra hrb hsa hsb tp1 tp2 tr1 tr2 tq1 tq2
  rfl
 have Hsa:=Lib.hid hsa
 have Hsb:=Lib.hid hsb
 have Hsp:=Lib.hid hsp
 have Hok:=Lib.hid (decide_eq_true h0)
 have Hnum:=Lib.hid hnum
 have Hra:=Lib.hid hra
 have Hrb:=Lib.hid hrb
 have HL:=Lib.hid hL
 clear ho hsa hsb hsp hra hrb h0 hnum hnr hr hcl hL pb h1
 obtain ⟨a0,n0,c0,rfl,H0,hm0⟩:=hc.1.open
 obtain ⟨a1,n1,c1,rfl,H1,hm1⟩:=hx.1.1.open
 obtain ⟨a2,n2,c2,rfl,H2,hm2⟩:=hx.1.2.1.open
 cases p1
 case false =>
  subst ho'
  go_enter Tryz.func33,Tryz.ntmps33
  go_wp2_with fail
  obtain ⟨W0,an⟩:∃ W0,(w.alloc (.cells #[.int .i64 c.ins,.int .i64 c.rows,.int .i64 c.cols,.int .i64 c.regs,.slice a0 n0 c0] 24)).alloc (.cells #[.int .i64 op,.int .i64 to,.int .i64 xa,.int .i64 xb,.bool ng,.slice a1 n1 c1,.slice a2 n2 c2] 49)=W0:=⟨_,rfl⟩
  have ap:=Lib.hid (show ∀ W',Below W0.heap.size W0 W'->(Bx5 W' w.heap.size (.int .i64 c.ins) (.int .i64 c.rows) (.int .i64 c.cols) (.int .i64 c.regs) (.slice a0 n0 c0)/\Bx7 W' (w.heap.size+1) (.int .i64 op) (.int .i64 to) (.int .i64 xa) (.int .i64 xb) (.bool ng) (.slice a1 n1 c1) (.slice a2 n2 c2)) from fun W' hb => by
    refine ⟨bx5 hb ?_ ?_ ?_ ?_ ?_ ?_ ?_ ?_ ?_ ?_,bx7 hb ?_ ?_ ?_ ?_ ?_ ?_ ?_ ?_ ?_ ?_ ?_ ?_ ?_ ?_⟩
    all_goals first|assumption|(rw [<- an];simp [go_sem]))
  have zb:Below w.heap.size w W0:=by rw [<- an];exact bS (bN _ _) (bN _ _)
  rw [an]
  clear an
  have i0:=hc.to zb
  have i1:=hx.to zb
  have i2:=hrow.to zb
  have gb:Below W0.heap.size W0 W0:=Below.refl _ _
  obtain ⟨⟨z0,ae,af,ag,az,aA,ah,ak,al,aJ,aK⟩,⟨z1,aB,aD,aE,aR,aS,aT,aU,aG,aH,aI,aV,aW,aX,aY⟩⟩:=ap.out _ gb
  go_wp2_with fail
  refine (zv op sa sb false true _ Hsa.out Hsb.out Hsp.out Hok.out).mono ?_
  clear ae ah af ak ag al az aJ aA aK aB aG aD aH aE aI aR aV aS aW aT aX aU aY
  rintro e w1 ⟨rfl,be⟩
  replace gb:=bS gb be
  obtain ⟨⟨z0,ae,af,ag,az,aA,ah,ak,al,aJ,aK⟩,⟨z1,aB,aD,aE,aR,aS,aT,aU,aG,aH,aI,aV,aW,aX,aY⟩⟩:=ap.out _ gb
  go_wp2_with fail
  obtain ⟨W1,aO⟩:∃ W1,w1.alloc (.cells #[.bool sa,.bool sb,.bool false] 70)=W1:=⟨_,rfl⟩
  have hb_W1:Below w1.heap.size w1 W1:=by rw [<- aO];exact bN _ _
  have cS:Hid (W1.heap.size=w1.heap.size+1):=by show _=_;rw [<- aO];simp
  clear ae ah af ak ag al az aJ aA aK aB aG aD aH aE aI aR aV aS aW aT aX aU aY
  replace gb:=bS gb hb_W1
  obtain ⟨⟨z0,ae,af,ag,az,aA,ah,ak,al,aJ,aK⟩,⟨z1,aB,aD,aE,aR,aS,aT,aU,aG,aH,aI,aV,aW,aX,aY⟩⟩:=ap.out _ gb
  have bO:W1.cell? ⟨w1.heap.size,0,none⟩=some (.bool sa):=by rw [<- aO];simp [go_sem]
  have bZ:W1.frozen? ⟨w1.heap.size,0,none⟩=false:=by rw [<- aO];simp [go_sem]
  have bP:W1.cell? ⟨w1.heap.size,1,none⟩=some (.bool sb):=by rw [<- aO];simp [go_sem]
  have b7:W1.frozen? ⟨w1.heap.size,1,none⟩=false:=by rw [<- aO];simp [go_sem]
  have bQ:W1.cell? ⟨w1.heap.size,2,none⟩=some (.bool false):=by rw [<- aO];simp [go_sem]
  have ce:W1.frozen? ⟨w1.heap.size,2,none⟩=false:=by rw [<- aO];simp [go_sem]
  have z5:w1.heap.size<W1.heap.size:=by rw [<- aO];simp
  rw [aO]
  clear aO
  replace i0:=i0.to gb
  replace i1:=i1.to gb
  replace i2:=i2.to gb
  replace zb:=bS zb gb
  have ck:=Lib.hid (show ∀ W',Below W1.heap.size W1 W'->(Bx5 W' w.heap.size (.int .i64 c.ins) (.int .i64 c.rows) (.int .i64 c.cols) (.int .i64 c.regs) (.slice a0 n0 c0)/\Bx7 W' (w.heap.size+1) (.int .i64 op) (.int .i64 to) (.int .i64 xa) (.int .i64 xb) (.bool ng) (.slice a1 n1 c1) (.slice a2 n2 c2)/\Bx3 W' w1.heap.size (.bool sa) (.bool sb) (.bool false)) from fun W' hb => by
    refine ⟨bx5 hb ?_ ?_ ?_ ?_ ?_ ?_ ?_ ?_ ?_ ?_,bx7 hb ?_ ?_ ?_ ?_ ?_ ?_ ?_ ?_ ?_ ?_ ?_ ?_ ?_ ?_,bx3 hb ?_ ?_ ?_ ?_ ?_ ?_⟩
    all_goals first|assumption|assumption)
  replace gb:=Below.refl W1.heap.size W1
  go_wp2_with fail
  refine (zE op to xa xb ng _ _ ln ld _ (i1.to gb) true Hnum.out).mono ?_
  clear ae ah af ak ag al az aJ aA aK aB aG aD aH aE aI aR aV aS aW aT aX aU aY bO bZ bP b7 bQ ce
  rintro e w2 ⟨rfl,aZ⟩
  replace gb:=bS gb aZ
  obtain ⟨⟨z0,ae,af,ag,az,aA,ah,ak,al,aJ,aK⟩,⟨z1,aB,aD,aE,aR,aS,aT,aU,aG,aH,aI,aV,aW,aX,aY⟩,⟨z5,bO,bP,bQ,bZ,b7,ce⟩⟩:=ck.out _ gb
  go_wp2_with fail
  refine (zk sa xa g n L _ (i2.to gb) HL.out hn _ Hra.out).mono ?_
  rintro e w3 ⟨rfl,rfl⟩
  go_wp2_with fail
  refine (zk sb xb g n L _ (i2.to gb) HL.out hn _ Hrb.out).mono ?_
  rintro e w4 ⟨rfl,rfl⟩
  go_wp2_with fail
  go_ret
  exact ⟨rfl,bS zb gb⟩
 case true =>
  cases p2
  case false =>
   subst ho'
   go_enter Tryz.func33,Tryz.ntmps33
   go_wp2_with fail
   obtain ⟨W0,an⟩:∃ W0,(w.alloc (.cells #[.int .i64 c.ins,.int .i64 c.rows,.int .i64 c.cols,.int .i64 c.regs,.slice a0 n0 c0] 24)).alloc (.cells #[.int .i64 op,.int .i64 to,.int .i64 xa,.int .i64 xb,.bool ng,.slice a1 n1 c1,.slice a2 n2 c2] 49)=W0:=⟨_,rfl⟩
   have ap:=Lib.hid (show ∀ W',Below W0.heap.size W0 W'->(Bx5 W' w.heap.size (.int .i64 c.ins) (.int .i64 c.rows) (.int .i64 c.cols) (.int .i64 c.regs) (.slice a0 n0 c0)/\Bx7 W' (w.heap.size+1) (.int .i64 op) (.int .i64 to) (.int .i64 xa) (.int .i64 xb) (.bool ng) (.slice a1 n1 c1) (.slice a2 n2 c2)) from fun W' hb => by
     refine ⟨bx5 hb ?_ ?_ ?_ ?_ ?_ ?_ ?_ ?_ ?_ ?_,bx7 hb ?_ ?_ ?_ ?_ ?_ ?_ ?_ ?_ ?_ ?_ ?_ ?_ ?_ ?_⟩
     all_goals first|assumption|(rw [<- an];simp [go_sem]))
   have zb:Below w.heap.size w W0:=by rw [<- an];exact bS (bN _ _) (bN _ _)
   rw [an]
   clear an
   have i0:=hc.to zb
   have i1:=hx.to zb
   have i2:=hrow.to zb
   have gb:Below W0.heap.size W0 W0:=Below.refl _ _
   obtain ⟨⟨z0,ae,af,ag,az,aA,ah,ak,al,aJ,aK⟩,⟨z1,aB,aD,aE,aR,aS,aT,aU,aG,aH,aI,aV,aW,aX,aY⟩⟩:=ap.out _ gb
   go_wp2_with fail
   refine (zv op sa sb false true _ Hsa.out Hsb.out Hsp.out Hok.out).mono ?_
   clear ae ah af ak ag al az aJ aA aK aB aG aD aH aE aI aR aV aS aW aT aX aU aY
   rintro e w1 ⟨rfl,be⟩
   replace gb:=bS gb be
   obtain ⟨⟨z0,ae,af,ag,az,aA,ah,ak,al,aJ,aK⟩,⟨z1,aB,aD,aE,aR,aS,aT,aU,aG,aH,aI,aV,aW,aX,aY⟩⟩:=ap.out _ gb
   go_wp2_with fail
   obtain ⟨W1,aO⟩:∃ W1,w1.alloc (.cells #[.bool sa,.bool sb,.bool false] 70)=W1:=⟨_,rfl⟩
   have hb_W1:Below w1.heap.size w1 W1:=by rw [<- aO];exact bN _ _
   have cS:Hid (W1.heap.size=w1.heap.size+1):=by show _=_;rw [<- aO];simp
   clear ae ah af ak ag al az aJ aA aK aB aG aD aH aE aI aR aV aS aW aT aX aU aY
   replace gb:=bS gb hb_W1
   obtain ⟨⟨z0,ae,af,ag,az,aA,ah,ak,al,aJ,aK⟩,⟨z1,aB,aD,aE,aR,aS,aT,aU,aG,aH,aI,aV,aW,aX,aY⟩⟩:=ap.out _ gb
   have bO:W1.cell? ⟨w1.heap.size,0,none⟩=some (.bool sa):=by rw [<- aO];simp [go_sem]
   have bZ:W1.frozen? ⟨w1.heap.size,0,none⟩=false:=by rw [<- aO];simp [go_sem]
   have bP:W1.cell? ⟨w1.heap.size,1,none⟩=some (.bool sb):=by rw [<- aO];simp [go_sem]
   have b7:W1.frozen? ⟨w1.heap.size,1,none⟩=false:=by rw [<- aO];simp [go_sem]
   have bQ:W1.cell? ⟨w1.heap.size,2,none⟩=some (.bool false):=by rw [<- aO];simp [go_sem]
   have ce:W1.frozen? ⟨w1.heap.size,2,none⟩=false:=by rw [<- aO];simp [go_sem]
   have z5:w1.heap.size<W1.heap.size:=by rw [<- aO];simp
   rw [aO]
   clear aO
   replace i0:=i0.to gb
   replace i1:=i1.to gb
   replace i2:=i2.to gb
   replace zb:=bS zb gb
   have ck:=Lib.hid (show ∀ W',Below W1.heap.size W1 W'->(Bx5 W' w.heap.size (.int .i64 c.ins) (.int .i64 c.rows) (.int .i64 c.cols) (.int .i64 c.regs) (.slice a0 n0 c0)/\Bx7 W' (w.heap.size+1) (.int .i64 op) (.int .i64 to) (.int .i64 xa) (.int .i64 xb) (.bool ng) (.slice a1 n1 c1) (.slice a2 n2 c2)/\Bx3 W' w1.heap.size (.bool sa) (.bool sb) (.bool false)) from fun W' hb => by
     refine ⟨bx5 hb ?_ ?_ ?_ ?_ ?_ ?_ ?_ ?_ ?_ ?_,bx7 hb ?_ ?_ ?_ ?_ ?_ ?_ ?_ ?_ ?_ ?_ ?_ ?_ ?_ ?_,bx3 hb ?_ ?_ ?_ ?_ ?_ ?_⟩
     all_goals first|assumption|assumption)
   replace gb:=Below.refl W1.heap.size W1
   go_wp2_with fail
   refine (zE op to xa xb ng _ _ ln ld _ (i1.to gb) true Hnum.out).mono ?_
   clear ae ah af ak ag al az aJ aA aK aB aG aD aH aE aI aR aV aS aW aT aX aU aY bO bZ bP b7 bQ ce
   rintro e w2 ⟨rfl,aZ⟩
   replace gb:=bS gb aZ
   obtain ⟨⟨z0,ae,af,ag,az,aA,ah,ak,al,aJ,aK⟩,⟨z1,aB,aD,aE,aR,aS,aT,aU,aG,aH,aI,aV,aW,aX,aY⟩,⟨z5,bO,bP,bQ,bZ,b7,ce⟩⟩:=ck.out _ gb
   go_wp2_with fail
   refine (zk sa xa g n L _ (i2.to gb) HL.out hn _ Hra.out).mono ?_
   rintro e w3 ⟨rfl,rfl⟩
   go_wp2_with fail
   refine (zk sb xb g n L _ (i2.to gb) HL.out hn _ Hrb.out).mono ?_
   rintro e w4 ⟨rfl,rfl⟩
   go_wp2_with fail
   go_ret
   exact ⟨rfl,bS zb gb⟩
  case true =>
   cases rb
   case false =>
    subst ho'
    go_enter Tryz.func33,Tryz.ntmps33
    go_wp2_with fail
    obtain ⟨W0,an⟩:∃ W0,(w.alloc (.cells #[.int .i64 c.ins,.int .i64 c.rows,.int .i64 c.cols,.int .i64 c.regs,.slice a0 n0 c0] 24)).alloc (.cells #[.int .i64 op,.int .i64 to,.int .i64 xa,.int .i64 xb,.bool ng,.slice a1 n1 c1,.slice a2 n2 c2] 49)=W0:=⟨_,rfl⟩
    have ap:=Lib.hid (show ∀ W',Below W0.heap.size W0 W'->(Bx5 W' w.heap.size (.int .i64 c.ins) (.int .i64 c.rows) (.int .i64 c.cols) (.int .i64 c.regs) (.slice a0 n0 c0)/\Bx7 W' (w.heap.size+1) (.int .i64 op) (.int .i64 to) (.int .i64 xa) (.int .i64 xb) (.bool ng) (.slice a1 n1 c1) (.slice a2 n2 c2)) from fun W' hb => by
      refine ⟨bx5 hb ?_ ?_ ?_ ?_ ?_ ?_ ?_ ?_ ?_ ?_,bx7 hb ?_ ?_ ?_ ?_ ?_ ?_ ?_ ?_ ?_ ?_ ?_ ?_ ?_ ?_⟩
      all_goals first|assumption|(rw [<- an];simp [go_sem]))
    have zb:Below w.heap.size w W0:=by rw [<- an];exact bS (bN _ _) (bN _ _)
    rw [an]
    clear an
    have i0:=hc.to zb
    have i1:=hx.to zb
    have i2:=hrow.to zb
    have gb:Below W0.heap.size W0 W0:=Below.refl _ _
    obtain ⟨⟨z0,ae,af,ag,az,aA,ah,ak,al,aJ,aK⟩,⟨z1,aB,aD,aE,aR,aS,aT,aU,aG,aH,aI,aV,aW,aX,aY⟩⟩:=ap.out _ gb
    go_wp2_with fail
    refine (zv op sa sb false true _ Hsa.out Hsb.out Hsp.out Hok.out).mono ?_
    clear ae ah af ak ag al az aJ aA aK aB aG aD aH aE aI aR aV aS aW aT aX aU aY
    rintro e w1 ⟨rfl,be⟩
    replace gb:=bS gb be
    obtain ⟨⟨z0,ae,af,ag,az,aA,ah,ak,al,aJ,aK⟩,⟨z1,aB,aD,aE,aR,aS,aT,aU,aG,aH,aI,aV,aW,aX,aY⟩⟩:=ap.out _ gb
    go_wp2_with fail
    obtain ⟨W1,aO⟩:∃ W1,w1.alloc (.cells #[.bool sa,.bool sb,.bool false] 70)=W1:=⟨_,rfl⟩
    have hb_W1:Below w1.heap.size w1 W1:=by rw [<- aO];exact bN _ _
    have cS:Hid (W1.heap.size=w1.heap.size+1):=by show _=_;rw [<- aO];simp
    clear ae ah af ak ag al az aJ aA aK aB aG aD aH aE aI aR aV aS aW aT aX aU aY
    replace gb:=bS gb hb_W1
    obtain ⟨⟨z0,ae,af,ag,az,aA,ah,ak,al,aJ,aK⟩,⟨z1,aB,aD,aE,aR,aS,aT,aU,aG,aH,aI,aV,aW,aX,aY⟩⟩:=ap.out _ gb
    have bO:W1.cell? ⟨w1.heap.size,0,none⟩=some (.bool sa):=by rw [<- aO];simp [go_sem]
    have bZ:W1.frozen? ⟨w1.heap.size,0,none⟩=false:=by rw [<- aO];simp [go_sem]
    have bP:W1.cell? ⟨w1.heap.size,1,none⟩=some (.bool sb):=by rw [<- aO];simp [go_sem]
    have b7:W1.frozen? ⟨w1.heap.size,1,none⟩=false:=by rw [<- aO];simp [go_sem]
    have bQ:W1.cell? ⟨w1.heap.size,2,none⟩=some (.bool false):=by rw [<- aO];simp [go_sem]
    have ce:W1.frozen? ⟨w1.heap.size,2,none⟩=false:=by rw [<- aO];simp [go_sem]
    have z5:w1.heap.size<W1.heap.size:=by rw [<- aO];simp
    rw [aO]
    clear aO
    replace i0:=i0.to gb
    replace i1:=i1.to gb
    replace i2:=i2.to gb
    replace zb:=bS zb gb
    have ck:=Lib.hid (show ∀ W',Below W1.heap.size W1 W'->(Bx5 W' w.heap.size (.int .i64 c.ins) (.int .i64 c.rows) (.int .i64 c.cols) (.int .i64 c.regs) (.slice a0 n0 c0)/\Bx7 W' (w.heap.size+1) (.int .i64 op) (.int .i64 to) (.int .i64 xa) (.int .i64 xb) (.bool ng) (.slice a1 n1 c1) (.slice a2 n2 c2)/\Bx3 W' w1.heap.size (.bool sa) (.bool sb) (.bool false)) from fun W' hb => by
      refine ⟨bx5 hb ?_ ?_ ?_ ?_ ?_ ?_ ?_ ?_ ?_ ?_,bx7 hb ?_ ?_ ?_ ?_ ?_ ?_ ?_ ?_ ?_ ?_ ?_ ?_ ?_ ?_,bx3 hb ?_ ?_ ?_ ?_ ?_ ?_⟩
      all_goals first|assumption|assumption)
    replace gb:=Below.refl W1.heap.size W1
    go_wp2_with fail
    refine (zE op to xa xb ng _ _ ln ld _ (i1.to gb) true Hnum.out).mono ?_
    clear ae ah af ak ag al az aJ aA aK aB aG aD aH aE aI aR aV aS aW aT aX aU aY bO bZ bP b7 bQ ce
    rintro e w2 ⟨rfl,aZ⟩
    replace gb:=bS gb aZ
    obtain ⟨⟨z0,ae,af,ag,az,aA,ah,ak,al,aJ,aK⟩,⟨z1,aB,aD,aE,aR,aS,aT,aU,aG,aH,aI,aV,aW,aX,aY⟩,⟨z5,bO,bP,bQ,bZ,b7,ce⟩⟩:=ck.out _ gb
    go_wp2_with fail
    refine (zk sa xa g n L _ (i2.to gb) HL.out hn _ Hra.out).mono ?_
    rintro e w3 ⟨rfl,rfl⟩
    go_wp2_with fail
    refine (zk sb xb g n L _ (i2.to gb) HL.out hn _ Hrb.out).mono ?_
    rintro e w4 ⟨rfl,rfl⟩
    go_wp2_with fail
    go_ret
    exact ⟨rfl,bS zb gb⟩
   case true =>
    cases q1
    case false =>
     subst ho'
     go_enter Tryz.func33,Tryz.ntmps33
     go_wp2_with fail
     obtain ⟨W0,an⟩:∃ W0,(w.alloc (.cells #[.int .i64 c.ins,.int .i64 c.rows,.int .i64 c.cols,.int .i64 c.regs,.slice a0 n0 c0] 24)).alloc (.cells #[.int .i64 op,.int .i64 to,.int .i64 xa,.int .i64 xb,.bool ng,.slice a1 n1 c1,.slice a2 n2 c2] 49)=W0:=⟨_,rfl⟩
     have ap:=Lib.hid (show ∀ W',Below W0.heap.size W0 W'->(Bx5 W' w.heap.size (.int .i64 c.ins) (.int .i64 c.rows) (.int .i64 c.cols) (.int .i64 c.regs) (.slice a0 n0 c0)/\Bx7 W' (w.heap.size+1) (.int .i64 op) (.int .i64 to) (.int .i64 xa) (.int .i64 xb) (.bool ng) (.slice a1 n1 c1) (.slice a2 n2 c2)) from fun W' hb => by
       refine ⟨bx5 hb ?_ ?_ ?_ ?_ ?_ ?_ ?_ ?_ ?_ ?_,bx7 hb ?_ ?_ ?_ ?_ ?_ ?_ ?_ ?_ ?_ ?_ ?_ ?_ ?_ ?_⟩
       all_goals first|assumption|(rw [<- an];simp [go_sem]))
     have zb:Below w.heap.size w W0:=by rw [<- an];exact bS (bN _ _) (bN _ _)
     rw [an]
     clear an
     have i0:=hc.to zb
     have i1:=hx.to zb
     have i2:=hrow.to zb
     have gb:Below W0.heap.size W0 W0:=Below.refl _ _
     obtain ⟨⟨z0,ae,af,ag,az,aA,ah,ak,al,aJ,aK⟩,⟨z1,aB,aD,aE,aR,aS,aT,aU,aG,aH,aI,aV,aW,aX,aY⟩⟩:=ap.out _ gb
     go_wp2_with fail
     refine (zv op sa sb false true _ Hsa.out Hsb.out Hsp.out Hok.out).mono ?_
     clear ae ah af ak ag al az aJ aA aK aB aG aD aH aE aI aR aV aS aW aT aX aU aY
     rintro e w1 ⟨rfl,be⟩
     replace gb:=bS gb be
     obtain ⟨⟨z0,ae,af,ag,az,aA,ah,ak,al,aJ,aK⟩,⟨z1,aB,aD,aE,aR,aS,aT,aU,aG,aH,aI,aV,aW,aX,aY⟩⟩:=ap.out _ gb
     go_wp2_with fail
     obtain ⟨W1,aO⟩:∃ W1,w1.alloc (.cells #[.bool sa,.bool sb,.bool false] 70)=W1:=⟨_,rfl⟩
     have hb_W1:Below w1.heap.size w1 W1:=by rw [<- aO];exact bN _ _
     have cS:Hid (W1.heap.size=w1.heap.size+1):=by show _=_;rw [<- aO];simp
     clear ae ah af ak ag al az aJ aA aK aB aG aD aH aE aI aR aV aS aW aT aX aU aY
     replace gb:=bS gb hb_W1
     obtain ⟨⟨z0,ae,af,ag,az,aA,ah,ak,al,aJ,aK⟩,⟨z1,aB,aD,aE,aR,aS,aT,aU,aG,aH,aI,aV,aW,aX,aY⟩⟩:=ap.out _ gb
     have bO:W1.cell? ⟨w1.heap.size,0,none⟩=some (.bool sa):=by rw [<- aO];simp [go_sem]
     have bZ:W1.frozen? ⟨w1.heap.size,0,none⟩=false:=by rw [<- aO];simp [go_sem]
     have bP:W1.cell? ⟨w1.heap.size,1,none⟩=some (.bool sb):=by rw [<- aO];simp [go_sem]
     have b7:W1.frozen? ⟨w1.heap.size,1,none⟩=false:=by rw [<- aO];simp [go_sem]
     have bQ:W1.cell? ⟨w1.heap.size,2,none⟩=some (.bool false):=by rw [<- aO];simp [go_sem]
     have ce:W1.frozen? ⟨w1.heap.size,2,none⟩=false:=by rw [<- aO];simp [go_sem]
     have z5:w1.heap.size<W1.heap.size:=by rw [<- aO];simp
     rw [aO]
     clear aO
     replace i0:=i0.to gb
     replace i1:=i1.to gb
     replace i2:=i2.to gb
     replace zb:=bS zb gb
     have ck:=Lib.hid (show ∀ W',Below W1.heap.size W1 W'->(Bx5 W' w.heap.size (.int .i64 c.ins) (.int .i64 c.rows) (.int .i64 c.cols) (.int .i64 c.regs) (.slice a0 n0 c0)/\Bx7 W' (w.heap.size+1) (.int .i64 op) (.int .i64 to) (.int .i64 xa) (.int .i64 xb) (.bool ng) (.slice a1 n1 c1) (.slice a2 n2 c2)/\Bx3 W' w1.heap.size (.bool sa) (.bool sb) (.bool false)) from fun W' hb => by
       refine ⟨bx5 hb ?_ ?_ ?_ ?_ ?_ ?_ ?_ ?_ ?_ ?_,bx7 hb ?_ ?_ ?_ ?_ ?_ ?_ ?_ ?_ ?_ ?_ ?_ ?_ ?_ ?_,bx3 hb ?_ ?_ ?_ ?_ ?_ ?_⟩
       all_goals first|assumption|assumption)
     replace gb:=Below.refl W1.heap.size W1
     go_wp2_with fail
     refine (zE op to xa xb ng _ _ ln ld _ (i1.to gb) true Hnum.out).mono ?_
     clear ae ah af ak ag al az aJ aA aK aB aG aD aH aE aI aR aV aS aW aT aX aU aY bO bZ bP b7 bQ ce
     rintro e w2 ⟨rfl,aZ⟩
     replace gb:=bS gb aZ
     obtain ⟨⟨z0,ae,af,ag,az,aA,ah,ak,al,aJ,aK⟩,⟨z1,aB,aD,aE,aR,aS,aT,aU,aG,aH,aI,aV,aW,aX,aY⟩,⟨z5,bO,bP,bQ,bZ,b7,ce⟩⟩:=ck.out _ gb
     go_wp2_with fail
     refine (zk sa xa g n L _ (i2.to gb) HL.out hn _ Hra.out).mono ?_
     rintro e w3 ⟨rfl,rfl⟩
     go_wp2_with fail
     refine (zk sb xb g n L _ (i2.to gb) HL.out hn _ Hrb.out).mono ?_
     rintro e w4 ⟨rfl,rfl⟩
     go_wp2_with fail
     go_ret
     exact ⟨rfl,bS zb gb⟩
    case true =>
     subst ho'
     go_enter Tryz.func33,Tryz.ntmps33
     go_wp2_with fail
     obtain ⟨W0,an⟩:∃ W0,(w.alloc (.cells #[.int .i64 c.ins,.int .i64 c.rows,.int .i64 c.cols,.int .i64 c.regs,.slice a0 n0 c0] 24)).alloc (.cells #[.int .i64 op,.int .i64 to,.int .i64 xa,.int .i64 xb,.bool ng,.slice a1 n1 c1,.slice a2 n2 c2] 49)=W0:=⟨_,rfl⟩
     have ap:=Lib.hid (show ∀ W',Below W0.heap.size W0 W'->(Bx5 W' w.heap.size (.int .i64 c.ins) (.int .i64 c.rows) (.int .i64 c.cols) (.int .i64 c.regs) (.slice a0 n0 c0)/\Bx7 W' (w.heap.size+1) (.int .i64 op) (.int .i64 to) (.int .i64 xa) (.int .i64 xb) (.bool ng) (.slice a1 n1 c1) (.slice a2 n2 c2)) from fun W' hb => by
       refine ⟨bx5 hb ?_ ?_ ?_ ?_ ?_ ?_ ?_ ?_ ?_ ?_,bx7 hb ?_ ?_ ?_ ?_ ?_ ?_ ?_ ?_ ?_ ?_ ?_ ?_ ?_ ?_⟩
       all_goals first|assumption|(rw [<- an];simp [go_sem]))
     have zb:Below w.heap.size w W0:=by rw [<- an];exact bS (bN _ _) (bN _ _)
     rw [an]
     clear an
     have i0:=hc.to zb
     have i1:=hx.to zb
     have i2:=hrow.to zb
     have gb:Below W0.heap.size W0 W0:=Below.refl _ _
     obtain ⟨⟨z0,ae,af,ag,az,aA,ah,ak,al,aJ,aK⟩,⟨z1,aB,aD,aE,aR,aS,aT,aU,aG,aH,aI,aV,aW,aX,aY⟩⟩:=ap.out _ gb
     go_wp2_with fail
     refine (zv op sa sb false true _ Hsa.out Hsb.out Hsp.out Hok.out).mono ?_
     clear ae ah af ak ag al az aJ aA aK aB aG aD aH aE aI aR aV aS aW aT aX aU aY
     rintro e w1 ⟨rfl,be⟩
     replace gb:=bS gb be
     obtain ⟨⟨z0,ae,af,ag,az,aA,ah,ak,al,aJ,aK⟩,⟨z1,aB,aD,aE,aR,aS,aT,aU,aG,aH,aI,aV,aW,aX,aY⟩⟩:=ap.out _ gb
     go_wp2_with fail
     obtain ⟨W1,aO⟩:∃ W1,w1.alloc (.cells #[.bool sa,.bool sb,.bool false] 70)=W1:=⟨_,rfl⟩
     have hb_W1:Below w1.heap.size w1 W1:=by rw [<- aO];exact bN _ _
     have cS:Hid (W1.heap.size=w1.heap.size+1):=by show _=_;rw [<- aO];simp
     clear ae ah af ak ag al az aJ aA aK aB aG aD aH aE aI aR aV aS aW aT aX aU aY
     replace gb:=bS gb hb_W1
     obtain ⟨⟨z0,ae,af,ag,az,aA,ah,ak,al,aJ,aK⟩,⟨z1,aB,aD,aE,aR,aS,aT,aU,aG,aH,aI,aV,aW,aX,aY⟩⟩:=ap.out _ gb
     have bO:W1.cell? ⟨w1.heap.size,0,none⟩=some (.bool sa):=by rw [<- aO];simp [go_sem]
     have bZ:W1.frozen? ⟨w1.heap.size,0,none⟩=false:=by rw [<- aO];simp [go_sem]
     have bP:W1.cell? ⟨w1.heap.size,1,none⟩=some (.bool sb):=by rw [<- aO];simp [go_sem]
     have b7:W1.frozen? ⟨w1.heap.size,1,none⟩=false:=by rw [<- aO];simp [go_sem]
     have bQ:W1.cell? ⟨w1.heap.size,2,none⟩=some (.bool false):=by rw [<- aO];simp [go_sem]
     have ce:W1.frozen? ⟨w1.heap.size,2,none⟩=false:=by rw [<- aO];simp [go_sem]
     have z5:w1.heap.size<W1.heap.size:=by rw [<- aO];simp
     rw [aO]
     clear aO
     replace i0:=i0.to gb
     replace i1:=i1.to gb
     replace i2:=i2.to gb
     replace zb:=bS zb gb
     have ck:=Lib.hid (show ∀ W',Below W1.heap.size W1 W'->(Bx5 W' w.heap.size (.int .i64 c.ins) (.int .i64 c.rows) (.int .i64 c.cols) (.int .i64 c.regs) (.slice a0 n0 c0)/\Bx7 W' (w.heap.size+1) (.int .i64 op) (.int .i64 to) (.int .i64 xa) (.int .i64 xb) (.bool ng) (.slice a1 n1 c1) (.slice a2 n2 c2)/\Bx3 W' w1.heap.size (.bool sa) (.bool sb) (.bool false)) from fun W' hb => by
       refine ⟨bx5 hb ?_ ?_ ?_ ?_ ?_ ?_ ?_ ?_ ?_ ?_,bx7 hb ?_ ?_ ?_ ?_ ?_ ?_ ?_ ?_ ?_ ?_ ?_ ?_ ?_ ?_,bx3 hb ?_ ?_ ?_ ?_ ?_ ?_⟩
       all_goals first|assumption|assumption)
     replace gb:=Below.refl W1.heap.size W1
     go_wp2_with fail
     refine (zE op to xa xb ng _ _ ln ld _ (i1.to gb) true Hnum.out).mono ?_
     clear ae ah af ak ag al az aJ aA aK aB aG aD aH aE aI aR aV aS aW aT aX aU aY bO bZ bP b7 bQ ce
     rintro e w2 ⟨rfl,aZ⟩
     replace gb:=bS gb aZ
     obtain ⟨⟨z0,ae,af,ag,az,aA,ah,ak,al,aJ,aK⟩,⟨z1,aB,aD,aE,aR,aS,aT,aU,aG,aH,aI,aV,aW,aX,aY⟩,⟨z5,bO,bP,bQ,bZ,b7,ce⟩⟩:=ck.out _ gb
     go_wp2_with fail
     refine (zk sa xa g n L _ (i2.to gb) HL.out hn _ Hra.out).mono ?_
     rintro e w3 ⟨rfl,rfl⟩
     go_wp2_with fail
     refine (zk sb xb g n L _ (i2.to gb) HL.out hn _ Hrb.out).mono ?_
     rintro e w4 ⟨rfl,rfl⟩
     go_wp2_with fail
     go_ret
     exact ⟨rfl,bS zb gb⟩

theorem ziQ (c:Cd) (v:Value) (op to xa xb:Int) (ng:Bool) (vn vd:Value) (ln ld:List Nat) (g n:Nat) (L:List Int) (w:World) (hc:IsC w c v) (hx:IsX w ⟨op,to,xa,xb,⟨ng,ln,ld⟩⟩ vn vd) (hrow:zbu w g n (fun i => .bool (decide ((i:Int) ∈ L)))) (hL:∀ x ∈ L,0<=x/\x<(n:Int)) (hn:n<=100000) (hnr:(n:Int)=c.regs) (hr:1<=c.rows/\c.rows<=40) (hcl:1<=c.cols/\c.cols<=40) (h0:0<=zd op) (hnum:zaJ ⟨op,to,xa,xb,⟨ng,ln,ld⟩⟩=true) (h1:op=7) (o:Bool) (ho:zp c L ⟨op,to,xa,xb,⟨ng,ln,ld⟩⟩=o) :
  Calls Tryz.prog 33 #[aggC c v,.agg #[.int .i64 op,.int .i64 to,.int .i64 xa,.int .i64 xb,.bool ng,vn,vd],.slice (some ⟨g,0,none⟩) n n] w (fun e w' => e=.returned (.bool o)/\Below w.heap.size w w'):=by
 rw [zeB (x:=⟨op,to,xa,xb,⟨ng,ln,ld⟩⟩) h0 hnum,zcY (x:=⟨op,to,xa,xb,⟨ng,ln,ld⟩⟩) h0 (by show op≠0;first|assumption|omega),zln (x:=⟨op,to,xa,xb,⟨ng,ln,ld⟩⟩) h1] at ho
 obtain ⟨sa,hsa⟩:∃ b,decide (1<=zd op)=b:=⟨_,rfl⟩
 obtain ⟨sb,hsb⟩:∃ b,decide (zd op=2)=b:=⟨_,rfl⟩
 have hsp:decide (op=7)=true:=by simp;exact h1
 obtain ⟨ra,hra⟩:∃ b,(if sa=true then decide (xa ∈ L) else decide (xa=0))=b:=⟨_,rfl⟩
 obtain ⟨rb,hrb⟩:∃ b,(if sb=true then decide (xb ∈ L) else decide (xb=0))=b:=⟨_,rfl⟩
 obtain ⟨p1,tp1⟩:∃ b,decide (0<=xa)=b:=⟨_,rfl⟩
 obtain ⟨p2,tp2⟩:∃ b,decide (xa<c.ins)=b:=⟨_,rfl⟩
 obtain ⟨r1,tr1⟩:∃ b,decide (-21<=xb)=b:=⟨_,rfl⟩
 obtain ⟨r2,tr2⟩:∃ b,decide (xb<=21)=b:=⟨_,rfl⟩
 obtain ⟨q1,tq1⟩:∃ b,decide (0<=to)=b:=⟨_,rfl⟩
 obtain ⟨q2,tq2⟩:∃ b,decide (to<c.regs)=b:=⟨_,rfl⟩
 have t10:(op == 10)=false:=by simp;omega
 have t0:(op == 0)=false:=by simp;omega
 have pb:=zae hr hcl
 have HM:IntKind.i64.wrap (c.rows*c.cols)=c.rows*c.cols:=IntWalk.i64_in _ (by omega)
 have ho':(ra && (r1 && r2) && q1 && q2)=o:=by
  have e:zD c ⟨op,to,xa,xb,⟨ng,ln,ld⟩⟩=c.regs:=by unfold zD;rw [if_neg (by show op≠10;first|assumption|omega)]
  rw [e] at ho
  subst ho hra hrb hsa hsb tp1 tp2 tr1 tr2 tq1 tq2
  rfl
 have Hsa:=Lib.hid hsa
 have Hsb:=Lib.hid hsb
 have Hsp:=Lib.hid hsp
 have Hok:=Lib.hid (decide_eq_true h0)
 have Hnum:=Lib.hid hnum
 have Hra:=Lib.hid hra
 have Hrb:=Lib.hid hrb
 have HL:=Lib.hid hL
 clear ho hsa hsb hsp hra hrb h0 hnum hnr hr hcl hL pb h1
 obtain ⟨a0,n0,c0,rfl,H0,hm0⟩:=hc.1.open
 obtain ⟨a1,n1,c1,rfl,H1,hm1⟩:=hx.1.1.open
 obtain ⟨a2,n2,c2,rfl,H2,hm2⟩:=hx.1.2.1.open
 cases r1
 case false =>
  cases ra
  case false =>
   subst ho'
   go_enter Tryz.func33,Tryz.ntmps33
   go_wp2_with fail
   obtain ⟨W0,an⟩:∃ W0,(w.alloc (.cells #[.int .i64 c.ins,.int .i64 c.rows,.int .i64 c.cols,.int .i64 c.regs,.slice a0 n0 c0] 24)).alloc (.cells #[.int .i64 op,.int .i64 to,.int .i64 xa,.int .i64 xb,.bool ng,.slice a1 n1 c1,.slice a2 n2 c2] 49)=W0:=⟨_,rfl⟩
   have ap:=Lib.hid (show ∀ W',Below W0.heap.size W0 W'->(Bx5 W' w.heap.size (.int .i64 c.ins) (.int .i64 c.rows) (.int .i64 c.cols) (.int .i64 c.regs) (.slice a0 n0 c0)/\Bx7 W' (w.heap.size+1) (.int .i64 op) (.int .i64 to) (.int .i64 xa) (.int .i64 xb) (.bool ng) (.slice a1 n1 c1) (.slice a2 n2 c2)) from fun W' hb => by
     refine ⟨bx5 hb ?_ ?_ ?_ ?_ ?_ ?_ ?_ ?_ ?_ ?_,bx7 hb ?_ ?_ ?_ ?_ ?_ ?_ ?_ ?_ ?_ ?_ ?_ ?_ ?_ ?_⟩
     all_goals first|assumption|(rw [<- an];simp [go_sem]))
   have zb:Below w.heap.size w W0:=by rw [<- an];exact bS (bN _ _) (bN _ _)
   rw [an]
   clear an
   have i0:=hc.to zb
   have i1:=hx.to zb
   have i2:=hrow.to zb
   have gb:Below W0.heap.size W0 W0:=Below.refl _ _
   obtain ⟨⟨z0,ae,af,ag,az,aA,ah,ak,al,aJ,aK⟩,⟨z1,aB,aD,aE,aR,aS,aT,aU,aG,aH,aI,aV,aW,aX,aY⟩⟩:=ap.out _ gb
   go_wp2_with fail
   refine (zv op sa sb true true _ Hsa.out Hsb.out Hsp.out Hok.out).mono ?_
   clear ae ah af ak ag al az aJ aA aK aB aG aD aH aE aI aR aV aS aW aT aX aU aY
   rintro e w1 ⟨rfl,be⟩
   replace gb:=bS gb be
   obtain ⟨⟨z0,ae,af,ag,az,aA,ah,ak,al,aJ,aK⟩,⟨z1,aB,aD,aE,aR,aS,aT,aU,aG,aH,aI,aV,aW,aX,aY⟩⟩:=ap.out _ gb
   go_wp2_with fail
   obtain ⟨W1,aO⟩:∃ W1,w1.alloc (.cells #[.bool sa,.bool sb,.bool true] 70)=W1:=⟨_,rfl⟩
   have hb_W1:Below w1.heap.size w1 W1:=by rw [<- aO];exact bN _ _
   have cS:Hid (W1.heap.size=w1.heap.size+1):=by show _=_;rw [<- aO];simp
   clear ae ah af ak ag al az aJ aA aK aB aG aD aH aE aI aR aV aS aW aT aX aU aY
   replace gb:=bS gb hb_W1
   obtain ⟨⟨z0,ae,af,ag,az,aA,ah,ak,al,aJ,aK⟩,⟨z1,aB,aD,aE,aR,aS,aT,aU,aG,aH,aI,aV,aW,aX,aY⟩⟩:=ap.out _ gb
   have bO:W1.cell? ⟨w1.heap.size,0,none⟩=some (.bool sa):=by rw [<- aO];simp [go_sem]
   have bZ:W1.frozen? ⟨w1.heap.size,0,none⟩=false:=by rw [<- aO];simp [go_sem]
   have bP:W1.cell? ⟨w1.heap.size,1,none⟩=some (.bool sb):=by rw [<- aO];simp [go_sem]
   have b7:W1.frozen? ⟨w1.heap.size,1,none⟩=false:=by rw [<- aO];simp [go_sem]
   have bQ:W1.cell? ⟨w1.heap.size,2,none⟩=some (.bool true):=by rw [<- aO];simp [go_sem]
   have ce:W1.frozen? ⟨w1.heap.size,2,none⟩=false:=by rw [<- aO];simp [go_sem]
   have z5:w1.heap.size<W1.heap.size:=by rw [<- aO];simp
   rw [aO]
   clear aO
   replace i0:=i0.to gb
   replace i1:=i1.to gb
   replace i2:=i2.to gb
   replace zb:=bS zb gb
   have ck:=Lib.hid (show ∀ W',Below W1.heap.size W1 W'->(Bx5 W' w.heap.size (.int .i64 c.ins) (.int .i64 c.rows) (.int .i64 c.cols) (.int .i64 c.regs) (.slice a0 n0 c0)/\Bx7 W' (w.heap.size+1) (.int .i64 op) (.int .i64 to) (.int .i64 xa) (.int .i64 xb) (.bool ng) (.slice a1 n1 c1) (.slice a2 n2 c2)/\Bx3 W' w1.heap.size (.bool sa) (.bool sb) (.bool true)) from fun W' hb => by
     refine ⟨bx5 hb ?_ ?_ ?_ ?_ ?_ ?_ ?_ ?_ ?_ ?_,bx7 hb ?_ ?_ ?_ ?_ ?_ ?_ ?_ ?_ ?_ ?_ ?_ ?_ ?_ ?_,bx3 hb ?_ ?_ ?_ ?_ ?_ ?_⟩
     all_goals first|assumption|assumption)
   replace gb:=Below.refl W1.heap.size W1
   go_wp2_with fail
   refine (zE op to xa xb ng _ _ ln ld _ (i1.to gb) true Hnum.out).mono ?_
   clear ae ah af ak ag al az aJ aA aK aB aG aD aH aE aI aR aV aS aW aT aX aU aY bO bZ bP b7 bQ ce
   rintro e w2 ⟨rfl,aZ⟩
   replace gb:=bS gb aZ
   obtain ⟨⟨z0,ae,af,ag,az,aA,ah,ak,al,aJ,aK⟩,⟨z1,aB,aD,aE,aR,aS,aT,aU,aG,aH,aI,aV,aW,aX,aY⟩,⟨z5,bO,bP,bQ,bZ,b7,ce⟩⟩:=ck.out _ gb
   go_wp2_with fail
   refine (zk sa xa g n L _ (i2.to gb) HL.out hn _ Hra.out).mono ?_
   rintro e w3 ⟨rfl,rfl⟩
   go_wp2_with fail
   refine (zk sb xb g n L _ (i2.to gb) HL.out hn _ Hrb.out).mono ?_
   rintro e w4 ⟨rfl,rfl⟩
   go_wp2_with fail
   go_ret
   exact ⟨rfl,bS zb gb⟩
  case true =>
   subst ho'
   go_enter Tryz.func33,Tryz.ntmps33
   go_wp2_with fail
   obtain ⟨W0,an⟩:∃ W0,(w.alloc (.cells #[.int .i64 c.ins,.int .i64 c.rows,.int .i64 c.cols,.int .i64 c.regs,.slice a0 n0 c0] 24)).alloc (.cells #[.int .i64 op,.int .i64 to,.int .i64 xa,.int .i64 xb,.bool ng,.slice a1 n1 c1,.slice a2 n2 c2] 49)=W0:=⟨_,rfl⟩
   have ap:=Lib.hid (show ∀ W',Below W0.heap.size W0 W'->(Bx5 W' w.heap.size (.int .i64 c.ins) (.int .i64 c.rows) (.int .i64 c.cols) (.int .i64 c.regs) (.slice a0 n0 c0)/\Bx7 W' (w.heap.size+1) (.int .i64 op) (.int .i64 to) (.int .i64 xa) (.int .i64 xb) (.bool ng) (.slice a1 n1 c1) (.slice a2 n2 c2)) from fun W' hb => by
     refine ⟨bx5 hb ?_ ?_ ?_ ?_ ?_ ?_ ?_ ?_ ?_ ?_,bx7 hb ?_ ?_ ?_ ?_ ?_ ?_ ?_ ?_ ?_ ?_ ?_ ?_ ?_ ?_⟩
     all_goals first|assumption|(rw [<- an];simp [go_sem]))
   have zb:Below w.heap.size w W0:=by rw [<- an];exact bS (bN _ _) (bN _ _)
   rw [an]
   clear an
   have i0:=hc.to zb
   have i1:=hx.to zb
   have i2:=hrow.to zb
   have gb:Below W0.heap.size W0 W0:=Below.refl _ _
   obtain ⟨⟨z0,ae,af,ag,az,aA,ah,ak,al,aJ,aK⟩,⟨z1,aB,aD,aE,aR,aS,aT,aU,aG,aH,aI,aV,aW,aX,aY⟩⟩:=ap.out _ gb
   go_wp2_with fail
   refine (zv op sa sb true true _ Hsa.out Hsb.out Hsp.out Hok.out).mono ?_
   clear ae ah af ak ag al az aJ aA aK aB aG aD aH aE aI aR aV aS aW aT aX aU aY
   rintro e w1 ⟨rfl,be⟩
   replace gb:=bS gb be
   obtain ⟨⟨z0,ae,af,ag,az,aA,ah,ak,al,aJ,aK⟩,⟨z1,aB,aD,aE,aR,aS,aT,aU,aG,aH,aI,aV,aW,aX,aY⟩⟩:=ap.out _ gb
   go_wp2_with fail
   obtain ⟨W1,aO⟩:∃ W1,w1.alloc (.cells #[.bool sa,.bool sb,.bool true] 70)=W1:=⟨_,rfl⟩
   have hb_W1:Below w1.heap.size w1 W1:=by rw [<- aO];exact bN _ _
   have cS:Hid (W1.heap.size=w1.heap.size+1):=by show _=_;rw [<- aO];simp
   clear ae ah af ak ag al az aJ aA aK aB aG aD aH aE aI aR aV aS aW aT aX aU aY
   replace gb:=bS gb hb_W1
   obtain ⟨⟨z0,ae,af,ag,az,aA,ah,ak,al,aJ,aK⟩,⟨z1,aB,aD,aE,aR,aS,aT,aU,aG,aH,aI,aV,aW,aX,aY⟩⟩:=ap.out _ gb
   have bO:W1.cell? ⟨w1.heap.size,0,none⟩=some (.bool sa):=by rw [<- aO];simp [go_sem]
   have bZ:W1.frozen? ⟨w1.heap.size,0,none⟩=false:=by rw [<- aO];simp [go_sem]
   have bP:W1.cell? ⟨w1.heap.size,1,none⟩=some (.bool sb):=by rw [<- aO];simp [go_sem]
   have b7:W1.frozen? ⟨w1.heap.size,1,none⟩=false:=by rw [<- aO];simp [go_sem]
   have bQ:W1.cell? ⟨w1.heap.size,2,none⟩=some (.bool true):=by rw [<- aO];simp [go_sem]
   have ce:W1.frozen? ⟨w1.heap.size,2,none⟩=false:=by rw [<- aO];simp [go_sem]
   have z5:w1.heap.size<W1.heap.size:=by rw [<- aO];simp
   rw [aO]
   clear aO
   replace i0:=i0.to gb
   replace i1:=i1.to gb
   replace i2:=i2.to gb
   replace zb:=bS zb gb
   have ck:=Lib.hid (show ∀ W',Below W1.heap.size W1 W'->(Bx5 W' w.heap.size (.int .i64 c.ins) (.int .i64 c.rows) (.int .i64 c.cols) (.int .i64 c.regs) (.slice a0 n0 c0)/\Bx7 W' (w.heap.size+1) (.int .i64 op) (.int .i64 to) (.int .i64 xa) (.int .i64 xb) (.bool ng) (.slice a1 n1 c1) (.slice a2 n2 c2)/\Bx3 W' w1.heap.size (.bool sa) (.bool sb) (.bool true)) from fun W' hb => by
     refine ⟨bx5 hb ?_ ?_ ?_ ?_ ?_ ?_ ?_ ?_ ?_ ?_,bx7 hb ?_ ?_ ?_ ?_ ?_ ?_ ?_ ?_ ?_ ?_ ?_ ?_ ?_ ?_,bx3 hb ?_ ?_ ?_ ?_ ?_ ?_⟩
     all_goals first|assumption|assumption)
   replace gb:=Below.refl W1.heap.size W1
   go_wp2_with fail
   refine (zE op to xa xb ng _ _ ln ld _ (i1.to gb) true Hnum.out).mono ?_
   clear ae ah af ak ag al az aJ aA aK aB aG aD aH aE aI aR aV aS aW aT aX aU aY bO bZ bP b7 bQ ce
   rintro e w2 ⟨rfl,aZ⟩
   replace gb:=bS gb aZ
   obtain ⟨⟨z0,ae,af,ag,az,aA,ah,ak,al,aJ,aK⟩,⟨z1,aB,aD,aE,aR,aS,aT,aU,aG,aH,aI,aV,aW,aX,aY⟩,⟨z5,bO,bP,bQ,bZ,b7,ce⟩⟩:=ck.out _ gb
   go_wp2_with fail
   refine (zk sa xa g n L _ (i2.to gb) HL.out hn _ Hra.out).mono ?_
   rintro e w3 ⟨rfl,rfl⟩
   go_wp2_with fail
   refine (zk sb xb g n L _ (i2.to gb) HL.out hn _ Hrb.out).mono ?_
   rintro e w4 ⟨rfl,rfl⟩
   go_wp2_with fail
   go_ret
   exact ⟨rfl,bS zb gb⟩
 case true =>
  cases ra
  case false =>
   subst ho'
   go_enter Tryz.func33,Tryz.ntmps33
   go_wp2_with fail
   obtain ⟨W0,an⟩:∃ W0,(w.alloc (.cells #[.int .i64 c.ins,.int .i64 c.rows,.int .i64 c.cols,.int .i64 c.regs,.slice a0 n0 c0] 24)).alloc (.cells #[.int .i64 op,.int .i64 to,.int .i64 xa,.int .i64 xb,.bool ng,.slice a1 n1 c1,.slice a2 n2 c2] 49)=W0:=⟨_,rfl⟩
   have ap:=Lib.hid (show ∀ W',Below W0.heap.size W0 W'->(Bx5 W' w.heap.size (.int .i64 c.ins) (.int .i64 c.rows) (.int .i64 c.cols) (.int .i64 c.regs) (.slice a0 n0 c0)/\Bx7 W' (w.heap.size+1) (.int .i64 op) (.int .i64 to) (.int .i64 xa) (.int .i64 xb) (.bool ng) (.slice a1 n1 c1) (.slice a2 n2 c2)) from fun W' hb => by
     refine ⟨bx5 hb ?_ ?_ ?_ ?_ ?_ ?_ ?_ ?_ ?_ ?_,bx7 hb ?_ ?_ ?_ ?_ ?_ ?_ ?_ ?_ ?_ ?_ ?_ ?_ ?_ ?_⟩
     all_goals first|assumption|(rw [<- an];simp [go_sem]))
   have zb:Below w.heap.size w W0:=by rw [<- an];exact bS (bN _ _) (bN _ _)
   rw [an]
   clear an
   have i0:=hc.to zb
   have i1:=hx.to zb
   have i2:=hrow.to zb
   have gb:Below W0.heap.size W0 W0:=Below.refl _ _
   obtain ⟨⟨z0,ae,af,ag,az,aA,ah,ak,al,aJ,aK⟩,⟨z1,aB,aD,aE,aR,aS,aT,aU,aG,aH,aI,aV,aW,aX,aY⟩⟩:=ap.out _ gb
   go_wp2_with fail
   refine (zv op sa sb true true _ Hsa.out Hsb.out Hsp.out Hok.out).mono ?_
   clear ae ah af ak ag al az aJ aA aK aB aG aD aH aE aI aR aV aS aW aT aX aU aY
   rintro e w1 ⟨rfl,be⟩
   replace gb:=bS gb be
   obtain ⟨⟨z0,ae,af,ag,az,aA,ah,ak,al,aJ,aK⟩,⟨z1,aB,aD,aE,aR,aS,aT,aU,aG,aH,aI,aV,aW,aX,aY⟩⟩:=ap.out _ gb
   go_wp2_with fail
   obtain ⟨W1,aO⟩:∃ W1,w1.alloc (.cells #[.bool sa,.bool sb,.bool true] 70)=W1:=⟨_,rfl⟩
   have hb_W1:Below w1.heap.size w1 W1:=by rw [<- aO];exact bN _ _
   have cS:Hid (W1.heap.size=w1.heap.size+1):=by show _=_;rw [<- aO];simp
   clear ae ah af ak ag al az aJ aA aK aB aG aD aH aE aI aR aV aS aW aT aX aU aY
   replace gb:=bS gb hb_W1
   obtain ⟨⟨z0,ae,af,ag,az,aA,ah,ak,al,aJ,aK⟩,⟨z1,aB,aD,aE,aR,aS,aT,aU,aG,aH,aI,aV,aW,aX,aY⟩⟩:=ap.out _ gb
   have bO:W1.cell? ⟨w1.heap.size,0,none⟩=some (.bool sa):=by rw [<- aO];simp [go_sem]
   have bZ:W1.frozen? ⟨w1.heap.size,0,none⟩=false:=by rw [<- aO];simp [go_sem]
   have bP:W1.cell? ⟨w1.heap.size,1,none⟩=some (.bool sb):=by rw [<- aO];simp [go_sem]
   have b7:W1.frozen? ⟨w1.heap.size,1,none⟩=false:=by rw [<- aO];simp [go_sem]
   have bQ:W1.cell? ⟨w1.heap.size,2,none⟩=some (.bool true):=by rw [<- aO];simp [go_sem]
   have ce:W1.frozen? ⟨w1.heap.size,2,none⟩=false:=by rw [<- aO];simp [go_sem]
   have z5:w1.heap.size<W1.heap.size:=by rw [<- aO];simp
   rw [aO]
   clear aO
   replace i0:=i0.to gb
   replace i1:=i1.to gb
   replace i2:=i2.to gb
   replace zb:=bS zb gb
   have ck:=Lib.hid (show ∀ W',Below W1.heap.size W1 W'->(Bx5 W' w.heap.size (.int .i64 c.ins) (.int .i64 c.rows) (.int .i64 c.cols) (.int .i64 c.regs) (.slice a0 n0 c0)/\Bx7 W' (w.heap.size+1) (.int .i64 op) (.int .i64 to) (.int .i64 xa) (.int .i64 xb) (.bool ng) (.slice a1 n1 c1) (.slice a2 n2 c2)/\Bx3 W' w1.heap.size (.bool sa) (.bool sb) (.bool true)) from fun W' hb => by
     refine ⟨bx5 hb ?_ ?_ ?_ ?_ ?_ ?_ ?_ ?_ ?_ ?_,bx7 hb ?_ ?_ ?_ ?_ ?_ ?_ ?_ ?_ ?_ ?_ ?_ ?_ ?_ ?_,bx3 hb ?_ ?_ ?_ ?_ ?_ ?_⟩
     all_goals first|assumption|assumption)
   replace gb:=Below.refl W1.heap.size W1
   go_wp2_with fail
   refine (zE op to xa xb ng _ _ ln ld _ (i1.to gb) true Hnum.out).mono ?_
   clear ae ah af ak ag al az aJ aA aK aB aG aD aH aE aI aR aV aS aW aT aX aU aY bO bZ bP b7 bQ ce
   rintro e w2 ⟨rfl,aZ⟩
   replace gb:=bS gb aZ
   obtain ⟨⟨z0,ae,af,ag,az,aA,ah,ak,al,aJ,aK⟩,⟨z1,aB,aD,aE,aR,aS,aT,aU,aG,aH,aI,aV,aW,aX,aY⟩,⟨z5,bO,bP,bQ,bZ,b7,ce⟩⟩:=ck.out _ gb
   go_wp2_with fail
   refine (zk sa xa g n L _ (i2.to gb) HL.out hn _ Hra.out).mono ?_
   rintro e w3 ⟨rfl,rfl⟩
   go_wp2_with fail
   refine (zk sb xb g n L _ (i2.to gb) HL.out hn _ Hrb.out).mono ?_
   rintro e w4 ⟨rfl,rfl⟩
   go_wp2_with fail
   go_ret
   exact ⟨rfl,bS zb gb⟩
  case true =>
   cases r2
   case false =>
    subst ho'
    go_enter Tryz.func33,Tryz.ntmps33
    go_wp2_with fail
    obtain ⟨W0,an⟩:∃ W0,(w.alloc (.cells #[.int .i64 c.ins,.int .i64 c.rows,.int .i64 c.cols,.int .i64 c.regs,.slice a0 n0 c0] 24)).alloc (.cells #[.int .i64 op,.int .i64 to,.int .i64 xa,.int .i64 xb,.bool ng,.slice a1 n1 c1,.slice a2 n2 c2] 49)=W0:=⟨_,rfl⟩
    have ap:=Lib.hid (show ∀ W',Below W0.heap.size W0 W'->(Bx5 W' w.heap.size (.int .i64 c.ins) (.int .i64 c.rows) (.int .i64 c.cols) (.int .i64 c.regs) (.slice a0 n0 c0)/\Bx7 W' (w.heap.size+1) (.int .i64 op) (.int .i64 to) (.int .i64 xa) (.int .i64 xb) (.bool ng) (.slice a1 n1 c1) (.slice a2 n2 c2)) from fun W' hb => by
      refine ⟨bx5 hb ?_ ?_ ?_ ?_ ?_ ?_ ?_ ?_ ?_ ?_,bx7 hb ?_ ?_ ?_ ?_ ?_ ?_ ?_ ?_ ?_ ?_ ?_ ?_ ?_ ?_⟩
      all_goals first|assumption|(rw [<- an];simp [go_sem]))
    have zb:Below w.heap.size w W0:=by rw [<- an];exact bS (bN _ _) (bN _ _)
    rw [an]
    clear an
    have i0:=hc.to zb
    have i1:=hx.to zb
    have i2:=hrow.to zb
    have gb:Below W0.heap.size W0 W0:=Below.refl _ _
    obtain ⟨⟨z0,ae,af,ag,az,aA,ah,ak,al,aJ,aK⟩,⟨z1,aB,aD,aE,aR,aS,aT,aU,aG,aH,aI,aV,aW,aX,aY⟩⟩:=ap.out _ gb
    go_wp2_with fail
    refine (zv op sa sb true true _ Hsa.out Hsb.out Hsp.out Hok.out).mono ?_
    clear ae ah af ak ag al az aJ aA aK aB aG aD aH aE aI aR aV aS aW aT aX aU aY
    rintro e w1 ⟨rfl,be⟩
    replace gb:=bS gb be
    obtain ⟨⟨z0,ae,af,ag,az,aA,ah,ak,al,aJ,aK⟩,⟨z1,aB,aD,aE,aR,aS,aT,aU,aG,aH,aI,aV,aW,aX,aY⟩⟩:=ap.out _ gb
    go_wp2_with fail
    obtain ⟨W1,aO⟩:∃ W1,w1.alloc (.cells #[.bool sa,.bool sb,.bool true] 70)=W1:=⟨_,rfl⟩
    have hb_W1:Below w1.heap.size w1 W1:=by rw [<- aO];exact bN _ _
    have cS:Hid (W1.heap.size=w1.heap.size+1):=by show _=_;rw [<- aO];simp
    clear ae ah af ak ag al az aJ aA aK aB aG aD aH aE aI aR aV aS aW aT aX aU aY
    replace gb:=bS gb hb_W1
    obtain ⟨⟨z0,ae,af,ag,az,aA,ah,ak,al,aJ,aK⟩,⟨z1,aB,aD,aE,aR,aS,aT,aU,aG,aH,aI,aV,aW,aX,aY⟩⟩:=ap.out _ gb
    have bO:W1.cell? ⟨w1.heap.size,0,none⟩=some (.bool sa):=by rw [<- aO];simp [go_sem]
    have bZ:W1.frozen? ⟨w1.heap.size,0,none⟩=false:=by rw [<- aO];simp [go_sem]
    have bP:W1.cell? ⟨w1.heap.size,1,none⟩=some (.bool sb):=by rw [<- aO];simp [go_sem]
    have b7:W1.frozen? ⟨w1.heap.size,1,none⟩=false:=by rw [<- aO];simp [go_sem]
    have bQ:W1.cell? ⟨w1.heap.size,2,none⟩=some (.bool true):=by rw [<- aO];simp [go_sem]
    have ce:W1.frozen? ⟨w1.heap.size,2,none⟩=false:=by rw [<- aO];simp [go_sem]
    have z5:w1.heap.size<W1.heap.size:=by rw [<- aO];simp
    rw [aO]
    clear aO
    replace i0:=i0.to gb
    replace i1:=i1.to gb
    replace i2:=i2.to gb
    replace zb:=bS zb gb
    have ck:=Lib.hid (show ∀ W',Below W1.heap.size W1 W'->(Bx5 W' w.heap.size (.int .i64 c.ins) (.int .i64 c.rows) (.int .i64 c.cols) (.int .i64 c.regs) (.slice a0 n0 c0)/\Bx7 W' (w.heap.size+1) (.int .i64 op) (.int .i64 to) (.int .i64 xa) (.int .i64 xb) (.bool ng) (.slice a1 n1 c1) (.slice a2 n2 c2)/\Bx3 W' w1.heap.size (.bool sa) (.bool sb) (.bool true)) from fun W' hb => by
      refine ⟨bx5 hb ?_ ?_ ?_ ?_ ?_ ?_ ?_ ?_ ?_ ?_,bx7 hb ?_ ?_ ?_ ?_ ?_ ?_ ?_ ?_ ?_ ?_ ?_ ?_ ?_ ?_,bx3 hb ?_ ?_ ?_ ?_ ?_ ?_⟩
      all_goals first|assumption|assumption)
    replace gb:=Below.refl W1.heap.size W1
    go_wp2_with fail
    refine (zE op to xa xb ng _ _ ln ld _ (i1.to gb) true Hnum.out).mono ?_
    clear ae ah af ak ag al az aJ aA aK aB aG aD aH aE aI aR aV aS aW aT aX aU aY bO bZ bP b7 bQ ce
    rintro e w2 ⟨rfl,aZ⟩
    replace gb:=bS gb aZ
    obtain ⟨⟨z0,ae,af,ag,az,aA,ah,ak,al,aJ,aK⟩,⟨z1,aB,aD,aE,aR,aS,aT,aU,aG,aH,aI,aV,aW,aX,aY⟩,⟨z5,bO,bP,bQ,bZ,b7,ce⟩⟩:=ck.out _ gb
    go_wp2_with fail
    refine (zk sa xa g n L _ (i2.to gb) HL.out hn _ Hra.out).mono ?_
    rintro e w3 ⟨rfl,rfl⟩
    go_wp2_with fail
    refine (zk sb xb g n L _ (i2.to gb) HL.out hn _ Hrb.out).mono ?_
    rintro e w4 ⟨rfl,rfl⟩
    go_wp2_with fail
    go_ret
    exact ⟨rfl,bS zb gb⟩
   case true =>
    cases q1
    case false =>
     subst ho'
     go_enter Tryz.func33,Tryz.ntmps33
     go_wp2_with fail
     obtain ⟨W0,an⟩:∃ W0,(w.alloc (.cells #[.int .i64 c.ins,.int .i64 c.rows,.int .i64 c.cols,.int .i64 c.regs,.slice a0 n0 c0] 24)).alloc (.cells #[.int .i64 op,.int .i64 to,.int .i64 xa,.int .i64 xb,.bool ng,.slice a1 n1 c1,.slice a2 n2 c2] 49)=W0:=⟨_,rfl⟩
     have ap:=Lib.hid (show ∀ W',Below W0.heap.size W0 W'->(Bx5 W' w.heap.size (.int .i64 c.ins) (.int .i64 c.rows) (.int .i64 c.cols) (.int .i64 c.regs) (.slice a0 n0 c0)/\Bx7 W' (w.heap.size+1) (.int .i64 op) (.int .i64 to) (.int .i64 xa) (.int .i64 xb) (.bool ng) (.slice a1 n1 c1) (.slice a2 n2 c2)) from fun W' hb => by
       refine ⟨bx5 hb ?_ ?_ ?_ ?_ ?_ ?_ ?_ ?_ ?_ ?_,bx7 hb ?_ ?_ ?_ ?_ ?_ ?_ ?_ ?_ ?_ ?_ ?_ ?_ ?_ ?_⟩
       all_goals first|assumption|(rw [<- an];simp [go_sem]))
     have zb:Below w.heap.size w W0:=by rw [<- an];exact bS (bN _ _) (bN _ _)
     rw [an]
     clear an
     have i0:=hc.to zb
     have i1:=hx.to zb
     have i2:=hrow.to zb
     have gb:Below W0.heap.size W0 W0:=Below.refl _ _
     obtain ⟨⟨z0,ae,af,ag,az,aA,ah,ak,al,aJ,aK⟩,⟨z1,aB,aD,aE,aR,aS,aT,aU,aG,aH,aI,aV,aW,aX,aY⟩⟩:=ap.out _ gb
     go_wp2_with fail
     refine (zv op sa sb true true _ Hsa.out Hsb.out Hsp.out Hok.out).mono ?_
     clear ae ah af ak ag al az aJ aA aK aB aG aD aH aE aI aR aV aS aW aT aX aU aY
     rintro e w1 ⟨rfl,be⟩
     replace gb:=bS gb be
     obtain ⟨⟨z0,ae,af,ag,az,aA,ah,ak,al,aJ,aK⟩,⟨z1,aB,aD,aE,aR,aS,aT,aU,aG,aH,aI,aV,aW,aX,aY⟩⟩:=ap.out _ gb
     go_wp2_with fail
     obtain ⟨W1,aO⟩:∃ W1,w1.alloc (.cells #[.bool sa,.bool sb,.bool true] 70)=W1:=⟨_,rfl⟩
     have hb_W1:Below w1.heap.size w1 W1:=by rw [<- aO];exact bN _ _
     have cS:Hid (W1.heap.size=w1.heap.size+1):=by show _=_;rw [<- aO];simp
     clear ae ah af ak ag al az aJ aA aK aB aG aD aH aE aI aR aV aS aW aT aX aU aY
     replace gb:=bS gb hb_W1
     obtain ⟨⟨z0,ae,af,ag,az,aA,ah,ak,al,aJ,aK⟩,⟨z1,aB,aD,aE,aR,aS,aT,aU,aG,aH,aI,aV,aW,aX,aY⟩⟩:=ap.out _ gb
     have bO:W1.cell? ⟨w1.heap.size,0,none⟩=some (.bool sa):=by rw [<- aO];simp [go_sem]
     have bZ:W1.frozen? ⟨w1.heap.size,0,none⟩=false:=by rw [<- aO];simp [go_sem]
     have bP:W1.cell? ⟨w1.heap.size,1,none⟩=some (.bool sb):=by rw [<- aO];simp [go_sem]
     have b7:W1.frozen? ⟨w1.heap.size,1,none⟩=false:=by rw [<- aO];simp [go_sem]
     have bQ:W1.cell? ⟨w1.heap.size,2,none⟩=some (.bool true):=by rw [<- aO];simp [go_sem]
     have ce:W1.frozen? ⟨w1.heap.size,2,none⟩=false:=by rw [<- aO];simp [go_sem]
     have z5:w1.heap.size<W1.heap.size:=by rw [<- aO];simp
     rw [aO]
     clear aO
     replace i0:=i0.to gb
     replace i1:=i1.to gb
     replace i2:=i2.to gb
     replace zb:=bS zb gb
     have ck:=Lib.hid (show ∀ W',Below W1.heap.size W1 W'->(Bx5 W' w.heap.size (.int .i64 c.ins) (.int .i64 c.rows) (.int .i64 c.cols) (.int .i64 c.regs) (.slice a0 n0 c0)/\Bx7 W' (w.heap.size+1) (.int .i64 op) (.int .i64 to) (.int .i64 xa) (.int .i64 xb) (.bool ng) (.slice a1 n1 c1) (.slice a2 n2 c2)/\Bx3 W' w1.heap.size (.bool sa) (.bool sb) (.bool true)) from fun W' hb => by
       refine ⟨bx5 hb ?_ ?_ ?_ ?_ ?_ ?_ ?_ ?_ ?_ ?_,bx7 hb ?_ ?_ ?_ ?_ ?_ ?_ ?_ ?_ ?_ ?_ ?_ ?_ ?_ ?_,bx3 hb ?_ ?_ ?_ ?_ ?_ ?_⟩
       all_goals first|assumption|assumption)
     replace gb:=Below.refl W1.heap.size W1
     go_wp2_with fail
     refine (zE op to xa xb ng _ _ ln ld _ (i1.to gb) true Hnum.out).mono ?_
     clear ae ah af ak ag al az aJ aA aK aB aG aD aH aE aI aR aV aS aW aT aX aU aY bO bZ bP b7 bQ ce
     rintro e w2 ⟨rfl,aZ⟩
     replace gb:=bS gb aZ
     obtain ⟨⟨z0,ae,af,ag,az,aA,ah,ak,al,aJ,aK⟩,⟨z1,aB,aD,aE,aR,aS,aT,aU,aG,aH,aI,aV,aW,aX,aY⟩,⟨z5,bO,bP,bQ,bZ,b7,ce⟩⟩:=ck.out _ gb
     go_wp2_with fail
     refine (zk sa xa g n L _ (i2.to gb) HL.out hn _ Hra.out).mono ?_
     rintro e w3 ⟨rfl,rfl⟩
     go_wp2_with fail
     refine (zk sb xb g n L _ (i2.to gb) HL.out hn _ Hrb.out).mono ?_
     rintro e w4 ⟨rfl,rfl⟩
     go_wp2_with fail
     go_ret
     exact ⟨rfl,bS zb gb⟩
    case true =>
     subst ho'
     go_enter Tryz.func33,Tryz.ntmps33
     go_wp2_with fail
     obtain ⟨W0,an⟩:∃ W0,(w.alloc (.cells #[.int .i64 c.ins,.int .i64 c.rows,.int .i64 c.cols,.int .i64 c.regs,.slice a0 n0 c0] 24)).alloc (.cells #[.int .i64 op,.int .i64 to,.int .i64 xa,.int .i64 xb,.bool ng,.slice a1 n1 c1,.slice a2 n2 c2] 49)=W0:=⟨_,rfl⟩
     have ap:=Lib.hid (show ∀ W',Below W0.heap.size W0 W'->(Bx5 W' w.heap.size (.int .i64 c.ins) (.int .i64 c.rows) (.int .i64 c.cols) (.int .i64 c.regs) (.slice a0 n0 c0)/\Bx7 W' (w.heap.size+1) (.int .i64 op) (.int .i64 to) (.int .i64 xa) (.int .i64 xb) (.bool ng) (.slice a1 n1 c1) (.slice a2 n2 c2)) from fun W' hb => by
       refine ⟨bx5 hb ?_ ?_ ?_ ?_ ?_ ?_ ?_ ?_ ?_ ?_,bx7 hb ?_ ?_ ?_ ?_ ?_ ?_ ?_ ?_ ?_ ?_ ?_ ?_ ?_ ?_⟩
       all_goals first|assumption|(rw [<- an];simp [go_sem]))
     have zb:Below w.heap.size w W0:=by rw [<- an];exact bS (bN _ _) (bN _ _)
     rw [an]
     clear an
     have i0:=hc.to zb
     have i1:=hx.to zb
     have i2:=hrow.to zb
     have gb:Below W0.heap.size W0 W0:=Below.refl _ _
     obtain ⟨⟨z0,ae,af,ag,az,aA,ah,ak,al,aJ,aK⟩,⟨z1,aB,aD,aE,aR,aS,aT,aU,aG,aH,aI,aV,aW,aX,aY⟩⟩:=ap.out _ gb
     go_wp2_with fail
     refine (zv op sa sb true true _ Hsa.out Hsb.out Hsp.out Hok.out).mono ?_
     clear ae ah af ak ag al az aJ aA aK aB aG aD aH aE aI aR aV aS aW aT aX aU aY
     rintro e w1 ⟨rfl,be⟩
     replace gb:=bS gb be
     obtain ⟨⟨z0,ae,af,ag,az,aA,ah,ak,al,aJ,aK⟩,⟨z1,aB,aD,aE,aR,aS,aT,aU,aG,aH,aI,aV,aW,aX,aY⟩⟩:=ap.out _ gb
     go_wp2_with fail
     obtain ⟨W1,aO⟩:∃ W1,w1.alloc (.cells #[.bool sa,.bool sb,.bool true] 70)=W1:=⟨_,rfl⟩
     have hb_W1:Below w1.heap.size w1 W1:=by rw [<- aO];exact bN _ _
     have cS:Hid (W1.heap.size=w1.heap.size+1):=by show _=_;rw [<- aO];simp
     clear ae ah af ak ag al az aJ aA aK aB aG aD aH aE aI aR aV aS aW aT aX aU aY
     replace gb:=bS gb hb_W1
     obtain ⟨⟨z0,ae,af,ag,az,aA,ah,ak,al,aJ,aK⟩,⟨z1,aB,aD,aE,aR,aS,aT,aU,aG,aH,aI,aV,aW,aX,aY⟩⟩:=ap.out _ gb
     have bO:W1.cell? ⟨w1.heap.size,0,none⟩=some (.bool sa):=by rw [<- aO];simp [go_sem]
     have bZ:W1.frozen? ⟨w1.heap.size,0,none⟩=false:=by rw [<- aO];simp [go_sem]
     have bP:W1.cell? ⟨w1.heap.size,1,none⟩=some (.bool sb):=by rw [<- aO];simp [go_sem]
     have b7:W1.frozen? ⟨w1.heap.size,1,none⟩=false:=by rw [<- aO];simp [go_sem]
     have bQ:W1.cell? ⟨w1.heap.size,2,none⟩=some (.bool true):=by rw [<- aO];simp [go_sem]
     have ce:W1.frozen? ⟨w1.heap.size,2,none⟩=false:=by rw [<- aO];simp [go_sem]
     have z5:w1.heap.size<W1.heap.size:=by rw [<- aO];simp
     rw [aO]
     clear aO
     replace i0:=i0.to gb
     replace i1:=i1.to gb
     replace i2:=i2.to gb
     replace zb:=bS zb gb
     have ck:=Lib.hid (show ∀ W',Below W1.heap.size W1 W'->(Bx5 W' w.heap.size (.int .i64 c.ins) (.int .i64 c.rows) (.int .i64 c.cols) (.int .i64 c.regs) (.slice a0 n0 c0)/\Bx7 W' (w.heap.size+1) (.int .i64 op) (.int .i64 to) (.int .i64 xa) (.int .i64 xb) (.bool ng) (.slice a1 n1 c1) (.slice a2 n2 c2)/\Bx3 W' w1.heap.size (.bool sa) (.bool sb) (.bool true)) from fun W' hb => by
       refine ⟨bx5 hb ?_ ?_ ?_ ?_ ?_ ?_ ?_ ?_ ?_ ?_,bx7 hb ?_ ?_ ?_ ?_ ?_ ?_ ?_ ?_ ?_ ?_ ?_ ?_ ?_ ?_,bx3 hb ?_ ?_ ?_ ?_ ?_ ?_⟩
       all_goals first|assumption|assumption)
     replace gb:=Below.refl W1.heap.size W1
     go_wp2_with fail
     refine (zE op to xa xb ng _ _ ln ld _ (i1.to gb) true Hnum.out).mono ?_
     clear ae ah af ak ag al az aJ aA aK aB aG aD aH aE aI aR aV aS aW aT aX aU aY bO bZ bP b7 bQ ce
     rintro e w2 ⟨rfl,aZ⟩
     replace gb:=bS gb aZ
     obtain ⟨⟨z0,ae,af,ag,az,aA,ah,ak,al,aJ,aK⟩,⟨z1,aB,aD,aE,aR,aS,aT,aU,aG,aH,aI,aV,aW,aX,aY⟩,⟨z5,bO,bP,bQ,bZ,b7,ce⟩⟩:=ck.out _ gb
     go_wp2_with fail
     refine (zk sa xa g n L _ (i2.to gb) HL.out hn _ Hra.out).mono ?_
     rintro e w3 ⟨rfl,rfl⟩
     go_wp2_with fail
     refine (zk sb xb g n L _ (i2.to gb) HL.out hn _ Hrb.out).mono ?_
     rintro e w4 ⟨rfl,rfl⟩
     go_wp2_with fail
     go_ret
     exact ⟨rfl,bS zb gb⟩

theorem zhq (c:Cd) (v:Value) (op to xa xb:Int) (ng:Bool) (vn vd:Value) (ln ld:List Nat) (g n:Nat) (L:List Int) (w:World) (hc:IsC w c v) (hx:IsX w ⟨op,to,xa,xb,⟨ng,ln,ld⟩⟩ vn vd) (hrow:zbu w g n (fun i => .bool (decide ((i:Int) ∈ L)))) (hL:∀ x ∈ L,0<=x/\x<(n:Int)) (hn:n<=100000) (hnr:(n:Int)=c.regs) (hr:1<=c.rows/\c.rows<=40) (hcl:1<=c.cols/\c.cols<=40) (h0:0<=zd op) (hnum:zaJ ⟨op,to,xa,xb,⟨ng,ln,ld⟩⟩=true) (h1:op≠10) (h2:op≠0) (h3:op≠7) (o:Bool) (ho:zp c L ⟨op,to,xa,xb,⟨ng,ln,ld⟩⟩=o) :
  Calls Tryz.prog 33 #[aggC c v,.agg #[.int .i64 op,.int .i64 to,.int .i64 xa,.int .i64 xb,.bool ng,vn,vd],.slice (some ⟨g,0,none⟩) n n] w (fun e w' => e=.returned (.bool o)/\Below w.heap.size w w'):=by
 rw [zeB (x:=⟨op,to,xa,xb,⟨ng,ln,ld⟩⟩) h0 hnum,zcY (x:=⟨op,to,xa,xb,⟨ng,ln,ld⟩⟩) h0 (by show op≠0;first|assumption|omega),zcC (x:=⟨op,to,xa,xb,⟨ng,ln,ld⟩⟩) (by show op≠7;first|assumption|omega)] at ho
 obtain ⟨sa,hsa⟩:∃ b,decide (1<=zd op)=b:=⟨_,rfl⟩
 obtain ⟨sb,hsb⟩:∃ b,decide (zd op=2)=b:=⟨_,rfl⟩
 have hsp:decide (op=7)=false:=by simp;omega
 obtain ⟨ra,hra⟩:∃ b,(if sa=true then decide (xa ∈ L) else decide (xa=0))=b:=⟨_,rfl⟩
 obtain ⟨rb,hrb⟩:∃ b,(if sb=true then decide (xb ∈ L) else decide (xb=0))=b:=⟨_,rfl⟩
 obtain ⟨p1,tp1⟩:∃ b,decide (0<=xa)=b:=⟨_,rfl⟩
 obtain ⟨p2,tp2⟩:∃ b,decide (xa<c.ins)=b:=⟨_,rfl⟩
 obtain ⟨r1,tr1⟩:∃ b,decide (-21<=xb)=b:=⟨_,rfl⟩
 obtain ⟨r2,tr2⟩:∃ b,decide (xb<=21)=b:=⟨_,rfl⟩
 obtain ⟨q1,tq1⟩:∃ b,decide (0<=to)=b:=⟨_,rfl⟩
 obtain ⟨q2,tq2⟩:∃ b,decide (to<c.regs)=b:=⟨_,rfl⟩
 have t10:(op == 10)=false:=by simp;omega
 have t0:(op == 0)=false:=by simp;omega
 have pb:=zae hr hcl
 have HM:IntKind.i64.wrap (c.rows*c.cols)=c.rows*c.cols:=IntWalk.i64_in _ (by omega)
 have ho':(ra && rb && q1 && q2)=o:=by
  have e:zD c ⟨op,to,xa,xb,⟨ng,ln,ld⟩⟩=c.regs:=by unfold zD;rw [if_neg (by show op≠10;first|assumption|omega)]
  rw [e] at ho
  subst ho hra hrb hsa hsb tp1 tp2 tr1 tr2 tq1 tq2
  rfl
 have Hsa:=Lib.hid hsa
 have Hsb:=Lib.hid hsb
 have Hsp:=Lib.hid hsp
 have Hok:=Lib.hid (decide_eq_true h0)
 have Hnum:=Lib.hid hnum
 have Hra:=Lib.hid hra
 have Hrb:=Lib.hid hrb
 have HL:=Lib.hid hL
 clear ho hsa hsb hsp hra hrb h0 hnum hnr hr hcl hL pb h1 h2 h3
 obtain ⟨a0,n0,c0,rfl,H0,hm0⟩:=hc.1.open
 obtain ⟨a1,n1,c1,rfl,H1,hm1⟩:=hx.1.1.open
 obtain ⟨a2,n2,c2,rfl,H2,hm2⟩:=hx.1.2.1.open
 cases ra
 case false =>
  subst ho'
  go_enter Tryz.func33,Tryz.ntmps33
  go_wp2_with fail
  obtain ⟨W0,an⟩:∃ W0,(w.alloc (.cells #[.int .i64 c.ins,.int .i64 c.rows,.int .i64 c.cols,.int .i64 c.regs,.slice a0 n0 c0] 24)).alloc (.cells #[.int .i64 op,.int .i64 to,.int .i64 xa,.int .i64 xb,.bool ng,.slice a1 n1 c1,.slice a2 n2 c2] 49)=W0:=⟨_,rfl⟩
  have ap:=Lib.hid (show ∀ W',Below W0.heap.size W0 W'->(Bx5 W' w.heap.size (.int .i64 c.ins) (.int .i64 c.rows) (.int .i64 c.cols) (.int .i64 c.regs) (.slice a0 n0 c0)/\Bx7 W' (w.heap.size+1) (.int .i64 op) (.int .i64 to) (.int .i64 xa) (.int .i64 xb) (.bool ng) (.slice a1 n1 c1) (.slice a2 n2 c2)) from fun W' hb => by
    refine ⟨bx5 hb ?_ ?_ ?_ ?_ ?_ ?_ ?_ ?_ ?_ ?_,bx7 hb ?_ ?_ ?_ ?_ ?_ ?_ ?_ ?_ ?_ ?_ ?_ ?_ ?_ ?_⟩
    all_goals first|assumption|(rw [<- an];simp [go_sem]))
  have zb:Below w.heap.size w W0:=by rw [<- an];exact bS (bN _ _) (bN _ _)
  rw [an]
  clear an
  have i0:=hc.to zb
  have i1:=hx.to zb
  have i2:=hrow.to zb
  have gb:Below W0.heap.size W0 W0:=Below.refl _ _
  obtain ⟨⟨z0,ae,af,ag,az,aA,ah,ak,al,aJ,aK⟩,⟨z1,aB,aD,aE,aR,aS,aT,aU,aG,aH,aI,aV,aW,aX,aY⟩⟩:=ap.out _ gb
  go_wp2_with fail
  refine (zv op sa sb false true _ Hsa.out Hsb.out Hsp.out Hok.out).mono ?_
  clear ae ah af ak ag al az aJ aA aK aB aG aD aH aE aI aR aV aS aW aT aX aU aY
  rintro e w1 ⟨rfl,be⟩
  replace gb:=bS gb be
  obtain ⟨⟨z0,ae,af,ag,az,aA,ah,ak,al,aJ,aK⟩,⟨z1,aB,aD,aE,aR,aS,aT,aU,aG,aH,aI,aV,aW,aX,aY⟩⟩:=ap.out _ gb
  go_wp2_with fail
  obtain ⟨W1,aO⟩:∃ W1,w1.alloc (.cells #[.bool sa,.bool sb,.bool false] 70)=W1:=⟨_,rfl⟩
  have hb_W1:Below w1.heap.size w1 W1:=by rw [<- aO];exact bN _ _
  have cS:Hid (W1.heap.size=w1.heap.size+1):=by show _=_;rw [<- aO];simp
  clear ae ah af ak ag al az aJ aA aK aB aG aD aH aE aI aR aV aS aW aT aX aU aY
  replace gb:=bS gb hb_W1
  obtain ⟨⟨z0,ae,af,ag,az,aA,ah,ak,al,aJ,aK⟩,⟨z1,aB,aD,aE,aR,aS,aT,aU,aG,aH,aI,aV,aW,aX,aY⟩⟩:=ap.out _ gb
  have bO:W1.cell? ⟨w1.heap.size,0,none⟩=some (.bool sa):=by rw [<- aO];simp [go_sem]
  have bZ:W1.frozen? ⟨w1.heap.size,0,none⟩=false:=by rw [<- aO];simp [go_sem]
  have bP:W1.cell? ⟨w1.heap.size,1,none⟩=some (.bool sb):=by rw [<- aO];simp [go_sem]
  have b7:W1.frozen? ⟨w1.heap.size,1,none⟩=false:=by rw [<- aO];simp [go_sem]
  have bQ:W1.cell? ⟨w1.heap.size,2,none⟩=some (.bool false):=by rw [<- aO];simp [go_sem]
  have ce:W1.frozen? ⟨w1.heap.size,2,none⟩=false:=by rw [<- aO];simp [go_sem]
  have z5:w1.heap.size<W1.heap.size:=by rw [<- aO];simp
  rw [aO]
  clear aO
  replace i0:=i0.to gb
  replace i1:=i1.to gb
  replace i2:=i2.to gb
  replace zb:=bS zb gb
  have ck:=Lib.hid (show ∀ W',Below W1.heap.size W1 W'->(Bx5 W' w.heap.size (.int .i64 c.ins) (.int .i64 c.rows) (.int .i64 c.cols) (.int .i64 c.regs) (.slice a0 n0 c0)/\Bx7 W' (w.heap.size+1) (.int .i64 op) (.int .i64 to) (.int .i64 xa) (.int .i64 xb) (.bool ng) (.slice a1 n1 c1) (.slice a2 n2 c2)/\Bx3 W' w1.heap.size (.bool sa) (.bool sb) (.bool false)) from fun W' hb => by
    refine ⟨bx5 hb ?_ ?_ ?_ ?_ ?_ ?_ ?_ ?_ ?_ ?_,bx7 hb ?_ ?_ ?_ ?_ ?_ ?_ ?_ ?_ ?_ ?_ ?_ ?_ ?_ ?_,bx3 hb ?_ ?_ ?_ ?_ ?_ ?_⟩
    all_goals first|assumption|assumption)
  replace gb:=Below.refl W1.heap.size W1
  go_wp2_with fail
  refine (zE op to xa xb ng _ _ ln ld _ (i1.to gb) true Hnum.out).mono ?_
  clear ae ah af ak ag al az aJ aA aK aB aG aD aH aE aI aR aV aS aW aT aX aU aY bO bZ bP b7 bQ ce
  rintro e w2 ⟨rfl,aZ⟩
  replace gb:=bS gb aZ
  obtain ⟨⟨z0,ae,af,ag,az,aA,ah,ak,al,aJ,aK⟩,⟨z1,aB,aD,aE,aR,aS,aT,aU,aG,aH,aI,aV,aW,aX,aY⟩,⟨z5,bO,bP,bQ,bZ,b7,ce⟩⟩:=ck.out _ gb
  go_wp2_with fail
  refine (zk sa xa g n L _ (i2.to gb) HL.out hn _ Hra.out).mono ?_
  rintro e w3 ⟨rfl,rfl⟩
  go_wp2_with fail
  refine (zk sb xb g n L _ (i2.to gb) HL.out hn _ Hrb.out).mono ?_
  rintro e w4 ⟨rfl,rfl⟩
  go_wp2_with fail
  go_ret
  exact ⟨rfl,bS zb gb⟩
 case true =>
  cases rb
  case false =>
   subst ho'
   go_enter Tryz.func33,Tryz.ntmps33
   go_wp2_with fail
   obtain ⟨W0,an⟩:∃ W0,(w.alloc (.cells #[.int .i64 c.ins,.int .i64 c.rows,.int .i64 c.cols,.int .i64 c.regs,.slice a0 n0 c0] 24)).alloc (.cells #[.int .i64 op,.int .i64 to,.int .i64 xa,.int .i64 xb,.bool ng,.slice a1 n1 c1,.slice a2 n2 c2] 49)=W0:=⟨_,rfl⟩
   have ap:=Lib.hid (show ∀ W',Below W0.heap.size W0 W'->(Bx5 W' w.heap.size (.int .i64 c.ins) (.int .i64 c.rows) (.int .i64 c.cols) (.int .i64 c.regs) (.slice a0 n0 c0)/\Bx7 W' (w.heap.size+1) (.int .i64 op) (.int .i64 to) (.int .i64 xa) (.int .i64 xb) (.bool ng) (.slice a1 n1 c1) (.slice a2 n2 c2)) from fun W' hb => by
     refine ⟨bx5 hb ?_ ?_ ?_ ?_ ?_ ?_ ?_ ?_ ?_ ?_,bx7 hb ?_ ?_ ?_ ?_ ?_ ?_ ?_ ?_ ?_ ?_ ?_ ?_ ?_ ?_⟩
     all_goals first|assumption|(rw [<- an];simp [go_sem]))
   have zb:Below w.heap.size w W0:=by rw [<- an];exact bS (bN _ _) (bN _ _)
   rw [an]
   clear an
   have i0:=hc.to zb
   have i1:=hx.to zb
   have i2:=hrow.to zb
   have gb:Below W0.heap.size W0 W0:=Below.refl _ _
   obtain ⟨⟨z0,ae,af,ag,az,aA,ah,ak,al,aJ,aK⟩,⟨z1,aB,aD,aE,aR,aS,aT,aU,aG,aH,aI,aV,aW,aX,aY⟩⟩:=ap.out _ gb
   go_wp2_with fail
   refine (zv op sa sb false true _ Hsa.out Hsb.out Hsp.out Hok.out).mono ?_
   clear ae ah af ak ag al az aJ aA aK aB aG aD aH aE aI aR aV aS aW aT aX aU aY
   rintro e w1 ⟨rfl,be⟩
   replace gb:=bS gb be
   obtain ⟨⟨z0,ae,af,ag,az,aA,ah,ak,al,aJ,aK⟩,⟨z1,aB,aD,aE,aR,aS,aT,aU,aG,aH,aI,aV,aW,aX,aY⟩⟩:=ap.out _ gb
   go_wp2_with fail
   obtain ⟨W1,aO⟩:∃ W1,w1.alloc (.cells #[.bool sa,.bool sb,.bool false] 70)=W1:=⟨_,rfl⟩
   have hb_W1:Below w1.heap.size w1 W1:=by rw [<- aO];exact bN _ _
   have cS:Hid (W1.heap.size=w1.heap.size+1):=by show _=_;rw [<- aO];simp
   clear ae ah af ak ag al az aJ aA aK aB aG aD aH aE aI aR aV aS aW aT aX aU aY
   replace gb:=bS gb hb_W1
   obtain ⟨⟨z0,ae,af,ag,az,aA,ah,ak,al,aJ,aK⟩,⟨z1,aB,aD,aE,aR,aS,aT,aU,aG,aH,aI,aV,aW,aX,aY⟩⟩:=ap.out _ gb
   have bO:W1.cell? ⟨w1.heap.size,0,none⟩=some (.bool sa):=by rw [<- aO];simp [go_sem]
   have bZ:W1.frozen? ⟨w1.heap.size,0,none⟩=false:=by rw [<- aO];simp [go_sem]
   have bP:W1.cell? ⟨w1.heap.size,1,none⟩=some (.bool sb):=by rw [<- aO];simp [go_sem]
   have b7:W1.frozen? ⟨w1.heap.size,1,none⟩=false:=by rw [<- aO];simp [go_sem]
   have bQ:W1.cell? ⟨w1.heap.size,2,none⟩=some (.bool false):=by rw [<- aO];simp [go_sem]
   have ce:W1.frozen? ⟨w1.heap.size,2,none⟩=false:=by rw [<- aO];simp [go_sem]
   have z5:w1.heap.size<W1.heap.size:=by rw [<- aO];simp
   rw [aO]
   clear aO
   replace i0:=i0.to gb
   replace i1:=i1.to gb
   replace i2:=i2.to gb
   replace zb:=bS zb gb
   have ck:=Lib.hid (show ∀ W',Below W1.heap.size W1 W'->(Bx5 W' w.heap.size (.int .i64 c.ins) (.int .i64 c.rows) (.int .i64 c.cols) (.int .i64 c.regs) (.slice a0 n0 c0)/\Bx7 W' (w.heap.size+1) (.int .i64 op) (.int .i64 to) (.int .i64 xa) (.int .i64 xb) (.bool ng) (.slice a1 n1 c1) (.slice a2 n2 c2)/\Bx3 W' w1.heap.size (.bool sa) (.bool sb) (.bool false)) from fun W' hb => by
     refine ⟨bx5 hb ?_ ?_ ?_ ?_ ?_ ?_ ?_ ?_ ?_ ?_,bx7 hb ?_ ?_ ?_ ?_ ?_ ?_ ?_ ?_ ?_ ?_ ?_ ?_ ?_ ?_,bx3 hb ?_ ?_ ?_ ?_ ?_ ?_⟩
     all_goals first|assumption|assumption)
   replace gb:=Below.refl W1.heap.size W1
   go_wp2_with fail
   refine (zE op to xa xb ng _ _ ln ld _ (i1.to gb) true Hnum.out).mono ?_
   clear ae ah af ak ag al az aJ aA aK aB aG aD aH aE aI aR aV aS aW aT aX aU aY bO bZ bP b7 bQ ce
   rintro e w2 ⟨rfl,aZ⟩
   replace gb:=bS gb aZ
   obtain ⟨⟨z0,ae,af,ag,az,aA,ah,ak,al,aJ,aK⟩,⟨z1,aB,aD,aE,aR,aS,aT,aU,aG,aH,aI,aV,aW,aX,aY⟩,⟨z5,bO,bP,bQ,bZ,b7,ce⟩⟩:=ck.out _ gb
   go_wp2_with fail
   refine (zk sa xa g n L _ (i2.to gb) HL.out hn _ Hra.out).mono ?_
   rintro e w3 ⟨rfl,rfl⟩
   go_wp2_with fail
   refine (zk sb xb g n L _ (i2.to gb) HL.out hn _ Hrb.out).mono ?_
   rintro e w4 ⟨rfl,rfl⟩
   go_wp2_with fail
   go_ret
   exact ⟨rfl,bS zb gb⟩
  case true =>
   cases q1
   case false =>
    subst ho'
    go_enter Tryz.func33,Tryz.ntmps33
    go_wp2_with fail
    obtain ⟨W0,an⟩:∃ W0,(w.alloc (.cells #[.int .i64 c.ins,.int .i64 c.rows,.int .i64 c.cols,.int .i64 c.regs,.slice a0 n0 c0] 24)).alloc (.cells #[.int .i64 op,.int .i64 to,.int .i64 xa,.int .i64 xb,.bool ng,.slice a1 n1 c1,.slice a2 n2 c2] 49)=W0:=⟨_,rfl⟩
    have ap:=Lib.hid (show ∀ W',Below W0.heap.size W0 W'->(Bx5 W' w.heap.size (.int .i64 c.ins) (.int .i64 c.rows) (.int .i64 c.cols) (.int .i64 c.regs) (.slice a0 n0 c0)/\Bx7 W' (w.heap.size+1) (.int .i64 op) (.int .i64 to) (.int .i64 xa) (.int .i64 xb) (.bool ng) (.slice a1 n1 c1) (.slice a2 n2 c2)) from fun W' hb => by
      refine ⟨bx5 hb ?_ ?_ ?_ ?_ ?_ ?_ ?_ ?_ ?_ ?_,bx7 hb ?_ ?_ ?_ ?_ ?_ ?_ ?_ ?_ ?_ ?_ ?_ ?_ ?_ ?_⟩
      all_goals first|assumption|(rw [<- an];simp [go_sem]))
    have zb:Below w.heap.size w W0:=by rw [<- an];exact bS (bN _ _) (bN _ _)
    rw [an]
    clear an
    have i0:=hc.to zb
    have i1:=hx.to zb
    have i2:=hrow.to zb
    have gb:Below W0.heap.size W0 W0:=Below.refl _ _
    obtain ⟨⟨z0,ae,af,ag,az,aA,ah,ak,al,aJ,aK⟩,⟨z1,aB,aD,aE,aR,aS,aT,aU,aG,aH,aI,aV,aW,aX,aY⟩⟩:=ap.out _ gb
    go_wp2_with fail
    refine (zv op sa sb false true _ Hsa.out Hsb.out Hsp.out Hok.out).mono ?_
    clear ae ah af ak ag al az aJ aA aK aB aG aD aH aE aI aR aV aS aW aT aX aU aY
    rintro e w1 ⟨rfl,be⟩
    replace gb:=bS gb be
    obtain ⟨⟨z0,ae,af,ag,az,aA,ah,ak,al,aJ,aK⟩,⟨z1,aB,aD,aE,aR,aS,aT,aU,aG,aH,aI,aV,aW,aX,aY⟩⟩:=ap.out _ gb
    go_wp2_with fail
    obtain ⟨W1,aO⟩:∃ W1,w1.alloc (.cells #[.bool sa,.bool sb,.bool false] 70)=W1:=⟨_,rfl⟩
    have hb_W1:Below w1.heap.size w1 W1:=by rw [<- aO];exact bN _ _
    have cS:Hid (W1.heap.size=w1.heap.size+1):=by show _=_;rw [<- aO];simp
    clear ae ah af ak ag al az aJ aA aK aB aG aD aH aE aI aR aV aS aW aT aX aU aY
    replace gb:=bS gb hb_W1
    obtain ⟨⟨z0,ae,af,ag,az,aA,ah,ak,al,aJ,aK⟩,⟨z1,aB,aD,aE,aR,aS,aT,aU,aG,aH,aI,aV,aW,aX,aY⟩⟩:=ap.out _ gb
    have bO:W1.cell? ⟨w1.heap.size,0,none⟩=some (.bool sa):=by rw [<- aO];simp [go_sem]
    have bZ:W1.frozen? ⟨w1.heap.size,0,none⟩=false:=by rw [<- aO];simp [go_sem]
    have bP:W1.cell? ⟨w1.heap.size,1,none⟩=some (.bool sb):=by rw [<- aO];simp [go_sem]
    have b7:W1.frozen? ⟨w1.heap.size,1,none⟩=false:=by rw [<- aO];simp [go_sem]
    have bQ:W1.cell? ⟨w1.heap.size,2,none⟩=some (.bool false):=by rw [<- aO];simp [go_sem]
    have ce:W1.frozen? ⟨w1.heap.size,2,none⟩=false:=by rw [<- aO];simp [go_sem]
    have z5:w1.heap.size<W1.heap.size:=by rw [<- aO];simp
    rw [aO]
    clear aO
    replace i0:=i0.to gb
    replace i1:=i1.to gb
    replace i2:=i2.to gb
    replace zb:=bS zb gb
    have ck:=Lib.hid (show ∀ W',Below W1.heap.size W1 W'->(Bx5 W' w.heap.size (.int .i64 c.ins) (.int .i64 c.rows) (.int .i64 c.cols) (.int .i64 c.regs) (.slice a0 n0 c0)/\Bx7 W' (w.heap.size+1) (.int .i64 op) (.int .i64 to) (.int .i64 xa) (.int .i64 xb) (.bool ng) (.slice a1 n1 c1) (.slice a2 n2 c2)/\Bx3 W' w1.heap.size (.bool sa) (.bool sb) (.bool false)) from fun W' hb => by
      refine ⟨bx5 hb ?_ ?_ ?_ ?_ ?_ ?_ ?_ ?_ ?_ ?_,bx7 hb ?_ ?_ ?_ ?_ ?_ ?_ ?_ ?_ ?_ ?_ ?_ ?_ ?_ ?_,bx3 hb ?_ ?_ ?_ ?_ ?_ ?_⟩
      all_goals first|assumption|assumption)
    replace gb:=Below.refl W1.heap.size W1
    go_wp2_with fail
    refine (zE op to xa xb ng _ _ ln ld _ (i1.to gb) true Hnum.out).mono ?_
    clear ae ah af ak ag al az aJ aA aK aB aG aD aH aE aI aR aV aS aW aT aX aU aY bO bZ bP b7 bQ ce
    rintro e w2 ⟨rfl,aZ⟩
    replace gb:=bS gb aZ
    obtain ⟨⟨z0,ae,af,ag,az,aA,ah,ak,al,aJ,aK⟩,⟨z1,aB,aD,aE,aR,aS,aT,aU,aG,aH,aI,aV,aW,aX,aY⟩,⟨z5,bO,bP,bQ,bZ,b7,ce⟩⟩:=ck.out _ gb
    go_wp2_with fail
    refine (zk sa xa g n L _ (i2.to gb) HL.out hn _ Hra.out).mono ?_
    rintro e w3 ⟨rfl,rfl⟩
    go_wp2_with fail
    refine (zk sb xb g n L _ (i2.to gb) HL.out hn _ Hrb.out).mono ?_
    rintro e w4 ⟨rfl,rfl⟩
    go_wp2_with fail
    go_ret
    exact ⟨rfl,bS zb gb⟩
   case true =>
    subst ho'
    go_enter Tryz.func33,Tryz.ntmps33
    go_wp2_with fail
    obtain ⟨W0,an⟩:∃ W0,(w.alloc (.cells #[.int .i64 c.ins,.int .i64 c.rows,.int .i64 c.cols,.int .i64 c.regs,.slice a0 n0 c0] 24)).alloc (.cells #[.int .i64 op,.int .i64 to,.int .i64 xa,.int .i64 xb,.bool ng,.slice a1 n1 c1,.slice a2 n2 c2] 49)=W0:=⟨_,rfl⟩
    have ap:=Lib.hid (show ∀ W',Below W0.heap.size W0 W'->(Bx5 W' w.heap.size (.int .i64 c.ins) (.int .i64 c.rows) (.int .i64 c.cols) (.int .i64 c.regs) (.slice a0 n0 c0)/\Bx7 W' (w.heap.size+1) (.int .i64 op) (.int .i64 to) (.int .i64 xa) (.int .i64 xb) (.bool ng) (.slice a1 n1 c1) (.slice a2 n2 c2)) from fun W' hb => by
      refine ⟨bx5 hb ?_ ?_ ?_ ?_ ?_ ?_ ?_ ?_ ?_ ?_,bx7 hb ?_ ?_ ?_ ?_ ?_ ?_ ?_ ?_ ?_ ?_ ?_ ?_ ?_ ?_⟩
      all_goals first|assumption|(rw [<- an];simp [go_sem]))
    have zb:Below w.heap.size w W0:=by rw [<- an];exact bS (bN _ _) (bN _ _)
    rw [an]
    clear an
    have i0:=hc.to zb
    have i1:=hx.to zb
    have i2:=hrow.to zb
    have gb:Below W0.heap.size W0 W0:=Below.refl _ _
    obtain ⟨⟨z0,ae,af,ag,az,aA,ah,ak,al,aJ,aK⟩,⟨z1,aB,aD,aE,aR,aS,aT,aU,aG,aH,aI,aV,aW,aX,aY⟩⟩:=ap.out _ gb
    go_wp2_with fail
    refine (zv op sa sb false true _ Hsa.out Hsb.out Hsp.out Hok.out).mono ?_
    clear ae ah af ak ag al az aJ aA aK aB aG aD aH aE aI aR aV aS aW aT aX aU aY
    rintro e w1 ⟨rfl,be⟩
    replace gb:=bS gb be
    obtain ⟨⟨z0,ae,af,ag,az,aA,ah,ak,al,aJ,aK⟩,⟨z1,aB,aD,aE,aR,aS,aT,aU,aG,aH,aI,aV,aW,aX,aY⟩⟩:=ap.out _ gb
    go_wp2_with fail
    obtain ⟨W1,aO⟩:∃ W1,w1.alloc (.cells #[.bool sa,.bool sb,.bool false] 70)=W1:=⟨_,rfl⟩
    have hb_W1:Below w1.heap.size w1 W1:=by rw [<- aO];exact bN _ _
    have cS:Hid (W1.heap.size=w1.heap.size+1):=by show _=_;rw [<- aO];simp
    clear ae ah af ak ag al az aJ aA aK aB aG aD aH aE aI aR aV aS aW aT aX aU aY
    replace gb:=bS gb hb_W1
    obtain ⟨⟨z0,ae,af,ag,az,aA,ah,ak,al,aJ,aK⟩,⟨z1,aB,aD,aE,aR,aS,aT,aU,aG,aH,aI,aV,aW,aX,aY⟩⟩:=ap.out _ gb
    have bO:W1.cell? ⟨w1.heap.size,0,none⟩=some (.bool sa):=by rw [<- aO];simp [go_sem]
    have bZ:W1.frozen? ⟨w1.heap.size,0,none⟩=false:=by rw [<- aO];simp [go_sem]
    have bP:W1.cell? ⟨w1.heap.size,1,none⟩=some (.bool sb):=by rw [<- aO];simp [go_sem]
    have b7:W1.frozen? ⟨w1.heap.size,1,none⟩=false:=by rw [<- aO];simp [go_sem]
    have bQ:W1.cell? ⟨w1.heap.size,2,none⟩=some (.bool false):=by rw [<- aO];simp [go_sem]
    have ce:W1.frozen? ⟨w1.heap.size,2,none⟩=false:=by rw [<- aO];simp [go_sem]
    have z5:w1.heap.size<W1.heap.size:=by rw [<- aO];simp
    rw [aO]
    clear aO
    replace i0:=i0.to gb
    replace i1:=i1.to gb
    replace i2:=i2.to gb
    replace zb:=bS zb gb
    have ck:=Lib.hid (show ∀ W',Below W1.heap.size W1 W'->(Bx5 W' w.heap.size (.int .i64 c.ins) (.int .i64 c.rows) (.int .i64 c.cols) (.int .i64 c.regs) (.slice a0 n0 c0)/\Bx7 W' (w.heap.size+1) (.int .i64 op) (.int .i64 to) (.int .i64 xa) (.int .i64 xb) (.bool ng) (.slice a1 n1 c1) (.slice a2 n2 c2)/\Bx3 W' w1.heap.size (.bool sa) (.bool sb) (.bool false)) from fun W' hb => by
      refine ⟨bx5 hb ?_ ?_ ?_ ?_ ?_ ?_ ?_ ?_ ?_ ?_,bx7 hb ?_ ?_ ?_ ?_ ?_ ?_ ?_ ?_ ?_ ?_ ?_ ?_ ?_ ?_,bx3 hb ?_ ?_ ?_ ?_ ?_ ?_⟩
      all_goals first|assumption|assumption)
    replace gb:=Below.refl W1.heap.size W1
    go_wp2_with fail
    refine (zE op to xa xb ng _ _ ln ld _ (i1.to gb) true Hnum.out).mono ?_
    clear ae ah af ak ag al az aJ aA aK aB aG aD aH aE aI aR aV aS aW aT aX aU aY bO bZ bP b7 bQ ce
    rintro e w2 ⟨rfl,aZ⟩
    replace gb:=bS gb aZ
    obtain ⟨⟨z0,ae,af,ag,az,aA,ah,ak,al,aJ,aK⟩,⟨z1,aB,aD,aE,aR,aS,aT,aU,aG,aH,aI,aV,aW,aX,aY⟩,⟨z5,bO,bP,bQ,bZ,b7,ce⟩⟩:=ck.out _ gb
    go_wp2_with fail
    refine (zk sa xa g n L _ (i2.to gb) HL.out hn _ Hra.out).mono ?_
    rintro e w3 ⟨rfl,rfl⟩
    go_wp2_with fail
    refine (zk sb xb g n L _ (i2.to gb) HL.out hn _ Hrb.out).mono ?_
    rintro e w4 ⟨rfl,rfl⟩
    go_wp2_with fail
    go_ret
    exact ⟨rfl,bS zb gb⟩

theorem zka (c:Cd) (v:Value) (op to xa xb:Int) (ng:Bool) (vn vd:Value) (ln ld:List Nat) (g n:Nat) (L:List Int) (w:World) (hc:IsC w c v) (hx:IsX w ⟨op,to,xa,xb,⟨ng,ln,ld⟩⟩ vn vd) (hrow:zbu w g n (fun i => .bool (decide ((i:Int) ∈ L)))) (hL:∀ x ∈ L,0<=x/\x<(n:Int)) (hn:n<=100000) (hnr:(n:Int)=c.regs) (hr:1<=c.rows/\c.rows<=40) (hcl:1<=c.cols/\c.cols<=40) (o:Bool) (ho:zp c L ⟨op,to,xa,xb,⟨ng,ln,ld⟩⟩=o) :
  Calls Tryz.prog 33 #[aggC c v,.agg #[.int .i64 op,.int .i64 to,.int .i64 xa,.int .i64 xb,.bool ng,vn,vd],.slice (some ⟨g,0,none⟩) n n] w (fun e w' => e=.returned (.bool o)/\Below w.heap.size w w'):=by
 by_cases h0:0<=zd op
 ·cases hnum:zaJ ⟨op,to,xa,xb,⟨ng,ln,ld⟩⟩ with
  | false => exact ziP c v op to xa xb ng vn vd ln ld g n L w hc hx hrow hL hn hnr hr hcl h0 hnum o ho
  | true =>
   by_cases h1:op=10
   ·exact ziR c v op to xa xb ng vn vd ln ld g n L w hc hx hrow hL hn hnr hr hcl h0 hnum h1 o ho
   ·by_cases h2:op=0
    ·exact zhr c v op to xa xb ng vn vd ln ld g n L w hc hx hrow hL hn hnr hr hcl h0 hnum h2 o ho
    ·by_cases h3:op=7
     ·exact ziQ c v op to xa xb ng vn vd ln ld g n L w hc hx hrow hL hn hnr hr hcl h0 hnum h3 o ho
     ·exact zhq c v op to xa xb ng vn vd ln ld g n L w hc hx hrow hL hn hnr hr hcl h0 hnum h1 h2 h3 o ho
 ·exact zkb c v op to xa xb ng vn vd ln ld g n L w hc hx hrow hL hn hnr hr hcl h0 o ho

end Go.Proofs.YtkjcdnlpjldhaaaGreat

