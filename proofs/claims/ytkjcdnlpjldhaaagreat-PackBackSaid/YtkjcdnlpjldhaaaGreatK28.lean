/-
  The texts VmStep, VmRel, VmRun, VmRunJ, RunFit, merged.
-/
import Derived.Test.YtkjcdnlpjldhaaaGreatK20
import Derived.Test.YtkjcdnlpjldhaaaGreatK27
import Derived.Test.YtkjcdnlpjldhaaaGreatK11
import Derived.Deep.RegionHeld3
set_option linter.unusedVariables false
set_option linter.unusedSimpArgs false
set_option maxRecDepth 100000
set_option maxHeartbeats 400000000
namespace Go.Proofs.YtkjcdnlpjldhaaaGreat
open Go.RowKit Tw

def zaG (w:World) (g h:Nat) (op to o:Int) (v:Rat) (e:Ending) (w':World):Prop :=
 (o≠0/\e=.returned (.int .i64 o)/\Below w.heap.size w w')\/(o=0/\∃ T:Nat,to=(T:Int)/\zcQ w (if op=10 then h else g) (T*3) v e w')

theorem zbz {w:World} {g N:Nat} {L:List Int} {R:Int->Rat} (hR:zV w g N (fun r => (r:Int) ∈ L) (fun r => R r)) (hL:∀ r ∈ L,0<=r/\r<(N:Int)) {a:Int} (ha:a ∈ L) :
  ∃ (A:Nat) (ng:Bool) (v u:Value),a=(A:Int)/\A<N/\zbW w g (A*3) (.bool ng) v u/\IsK w ng v u (R a):=by
 obtain ⟨A,rfl⟩:=Int.eq_ofNat_of_zero_le (hL a ha).1
 have hA:A<N:=by have:=(hL _ ha).2;omega
 obtain ⟨b,a1,n,c,a',n',c',o1,k1⟩:=hR A hA
 exact ⟨A,b,_,_,rfl,hA,⟨o1.1,o1.2.1,o1.2.2.1⟩,k1 ha⟩

theorem zbc {p:List Rat} {R:Int->Rat} {x:Ins} (h:opE R x=0) (h':szq (opV p R x)<=1000):zaK p R x=0:=by
 unfold zaK
 rw [if_neg (by rw [h];decide),if_neg (by omega)]

theorem zfw {p:List Rat} {R:Int->Rat} {x:Ins} (h:opE R x≠0):zaK p R x=opE R x:=by
 unfold zaK
 rw [if_pos h]

theorem zbI {R:Int->Rat} {x:Ins} (h5:x.op≠5) (h7:x.op≠7):opE R x=0:=by
 unfold opE
 rw [if_neg h5,if_neg h7]

theorem zlu {p:List Rat} {R:Int->Rat} {x:Ins} (h:x.op=2\/x.op=9):opV p R x=R x.a+R x.b:=by
 unfold opV
 rcases h with h|h <;> rw [h] <;> simp

theorem opV_sub {p:List Rat} {R:Int->Rat} {x:Ins} (h:x.op=3):opV p R x=R x.a - R x.b:=by
 unfold opV
 rw [h];simp

theorem zlv {p:List Rat} {R:Int->Rat} {x:Ins} (h:x.op=4\/x.op=8):opV p R x=R x.a*R x.b:=by
 unfold opV
 rcases h with h|h <;> rw [h] <;> simp

theorem opV_div {p:List Rat} {R:Int->Rat} {x:Ins} (h:x.op=5):opV p R x=R x.a / R x.b:=by
 unfold opV
 rw [h];simp

theorem opV_pow {p:List Rat} {R:Int->Rat} {x:Ins} (h:x.op=7):opV p R x=if x.b<0 then (R x.a ^ x.b.natAbs)⁻¹ else R x.a ^ x.b.natAbs:=by
 unfold opV
 rw [h];simp

theorem opE_div {R:Int->Rat} {x:Ins} (h:x.op=5):opE R x=if R x.b=0 then 3 else 0:=by
 unfold opE
 rw [if_pos h]

theorem opE_pow {R:Int->Rat} {x:Ins} (h:x.op=7):opE R x=if R x.a=0/\x.b<0 then 3 else if 4096<szq (R x.a)*x.b.natAbs then 4 else 0:=by
 unfold opE
 rw [if_neg (by omega),if_pos h]

theorem insOk_in {c:Cd} {L:List Int} {x:Ins} (h:zp c L x=true) (h1:x.op=0):0<=x.a/\x.a<c.ins:=by
 unfold zp aOk at h
 rw [if_pos h1] at h
 simp only [Bool.and_eq_true,decide_eq_true_eq] at h
 exact h.1.1.2

theorem zkd (c:Cd) (L:List Int) (R J:Int->Rat) (op to a b:Int) (ng:Bool) (vn vd:Value) (ln ld:List Nat) (mB g N h M cj n1 c1:Nat) (a1:Option Addr) (rows cols:Int) (xs:List Rt) (w:World) (hX:IsX w ⟨op,to,a,b,⟨ng,ln,ld⟩⟩ vn vd) (hok:zp c L ⟨op,to,a,b,⟨ng,ln,ld⟩⟩=true) (hL:∀ r ∈ L,0<=r/\r<(N:Int)) (hreg:c.regs=(N:Int)) (hins:c.ins=(n1:Int)) (hMM:c.rows*c.cols=(M:Int))
  (hm:zM w mB g N (.slice a1 n1 c1) (.slice (some ⟨h,0,none⟩) M cj) rows cols) (hN:N<=100000) (hM1:M<=100000) (hR:zV w g N (fun r => (r:Int) ∈ L) (fun r => R r)) (hJ:zV w h M (fun _ => True) (fun r => J r)) (nh1:h≠g) (nh2:h≠mB)
  (hx:RdR w (.slice a1 n1 c1) xs) (hxl:xs.length=n1) (hxm:n1<=maxLen) (hxs:∀ x ∈ xs,x.n.length<=1000/\x.d.length<=1000) (fit:opE R ⟨op,to,a,b,⟨ng,ln,ld⟩⟩=0->szq (opV (xs.map Rt.num) R ⟨op,to,a,b,⟨ng,ln,ld⟩⟩)<=1000/\(op=7->szq (R a)*b.natAbs<1000)) (hk:op=2) :
  Calls Tryz.prog 39 #[.pointer (some ⟨mB,0,none⟩),.agg #[.int .i64 op,.int .i64 to,.int .i64 a,.int .i64 b,.bool ng,vn,vd]] w (zaG w g h op to (zaK (xs.map Rt.num) R ⟨op,to,a,b,⟨ng,ln,ld⟩⟩) (opV (xs.map Rt.num) R ⟨op,to,a,b,⟨ng,ln,ld⟩⟩)):=by
 have hto:=zag hok
 have ha:=fun h1 => zaz hok h1
 have hb:=fun h1 => zbh hok h1
 simp only at hto ha hb
 subst hk
 have eto:zD c ⟨2,to,a,b,⟨ng,ln,ld⟩⟩=(N:Int):=by rw [<- hreg];exact if_neg (show ¬ ((2:Int)=10) by decide)
 rw [eto] at hto
 obtain ⟨T,rfl⟩:=Int.eq_ofNat_of_zero_le hto.1
 have hT:T<N:=by omega
 obtain ⟨b0,e1,e2,e3,e4,e5,e6,o1,_⟩:=hR T hT
 have hw:=hX.1.isF
 obtain ⟨A,na,va,ua,rfl,hA,ta,ka⟩:=zbz hR hL (ha (by decide))
 obtain ⟨Bb,nb,vb,ub,rfl,hB,tb,kb⟩:=zbz hR hL (hb (by decide))
 have e0:opE R ⟨2,(T:Int),(A:Int),(Bb:Int),⟨ng,ln,ld⟩⟩=0:=zbI (by show (2:Int)≠5;decide) (by show (2:Int)≠7;decide)
 have f:=(fit e0).1
 have ev:=(zlu (p:=xs.map Rt.num) (R:=R) (x:=⟨2,(T:Int),(A:Int),(Bb:Int),⟨ng,ln,ld⟩⟩) (.inl rfl))
 rw [ev] at f
 refine (zkX mB g N _ _ rows cols T _ _ ng vn vd ln ld _ _ _ w hw hm hN hT o1 (Nat.le_trans f (by decide)) (fun V hV => zjy mB g N _ _ rows cols _ _ ng vn vd ln ld A na va ua _ _ Bb nb vb ub _ _ V (hw.to hV) (hm.to hV) hN hA (ta.to hV) (ka.to hV).1 hB (tb.to hV) (kb.to hV).1 _ rfl f)).mono ?_
 intro e w' hs
 refine .inr ⟨zbc e0 (by rw [ev];exact f),T,rfl,?_⟩
 rw [ev]
 exact hs

theorem ziV (c:Cd) (L:List Int) (R J:Int->Rat) (op to a b:Int) (ng:Bool) (vn vd:Value) (ln ld:List Nat) (mB g N h M cj n1 c1:Nat) (a1:Option Addr) (rows cols:Int) (xs:List Rt) (w:World) (hX:IsX w ⟨op,to,a,b,⟨ng,ln,ld⟩⟩ vn vd) (hok:zp c L ⟨op,to,a,b,⟨ng,ln,ld⟩⟩=true) (hL:∀ r ∈ L,0<=r/\r<(N:Int)) (hreg:c.regs=(N:Int)) (hins:c.ins=(n1:Int)) (hMM:c.rows*c.cols=(M:Int))
  (hm:zM w mB g N (.slice a1 n1 c1) (.slice (some ⟨h,0,none⟩) M cj) rows cols) (hN:N<=100000) (hM1:M<=100000) (hR:zV w g N (fun r => (r:Int) ∈ L) (fun r => R r)) (hJ:zV w h M (fun _ => True) (fun r => J r)) (nh1:h≠g) (nh2:h≠mB)
  (hx:RdR w (.slice a1 n1 c1) xs) (hxl:xs.length=n1) (hxm:n1<=maxLen) (hxs:∀ x ∈ xs,x.n.length<=1000/\x.d.length<=1000) (fit:opE R ⟨op,to,a,b,⟨ng,ln,ld⟩⟩=0->szq (opV (xs.map Rt.num) R ⟨op,to,a,b,⟨ng,ln,ld⟩⟩)<=1000/\(op=7->szq (R a)*b.natAbs<1000)) (hk:op=9) :
  Calls Tryz.prog 39 #[.pointer (some ⟨mB,0,none⟩),.agg #[.int .i64 op,.int .i64 to,.int .i64 a,.int .i64 b,.bool ng,vn,vd]] w (zaG w g h op to (zaK (xs.map Rt.num) R ⟨op,to,a,b,⟨ng,ln,ld⟩⟩) (opV (xs.map Rt.num) R ⟨op,to,a,b,⟨ng,ln,ld⟩⟩)):=by
 have hto:=zag hok
 have ha:=fun h1 => zaz hok h1
 have hb:=fun h1 => zbh hok h1
 simp only at hto ha hb
 subst hk
 have eto:zD c ⟨9,to,a,b,⟨ng,ln,ld⟩⟩=(N:Int):=by rw [<- hreg];exact if_neg (show ¬ ((9:Int)=10) by decide)
 rw [eto] at hto
 obtain ⟨T,rfl⟩:=Int.eq_ofNat_of_zero_le hto.1
 have hT:T<N:=by omega
 obtain ⟨b0,e1,e2,e3,e4,e5,e6,o1,_⟩:=hR T hT
 have hw:=hX.1.isF
 obtain ⟨A,na,va,ua,rfl,hA,ta,ka⟩:=zbz hR hL (ha (by decide))
 obtain ⟨Bb,nb,vb,ub,rfl,hB,tb,kb⟩:=zbz hR hL (hb (by decide))
 have e0:opE R ⟨9,(T:Int),(A:Int),(Bb:Int),⟨ng,ln,ld⟩⟩=0:=zbI (by show (9:Int)≠5;decide) (by show (9:Int)≠7;decide)
 have f:=(fit e0).1
 have ev:=(zlu (p:=xs.map Rt.num) (R:=R) (x:=⟨9,(T:Int),(A:Int),(Bb:Int),⟨ng,ln,ld⟩⟩) (.inr rfl))
 rw [ev] at f
 refine (zle mB g N _ _ rows cols T _ _ ng vn vd ln ld _ _ _ w hw hm hN hT o1 (Nat.le_trans f (by decide)) (fun V hV => zjy mB g N _ _ rows cols _ _ ng vn vd ln ld A na va ua _ _ Bb nb vb ub _ _ V (hw.to hV) (hm.to hV) hN hA (ta.to hV) (ka.to hV).1 hB (tb.to hV) (kb.to hV).1 _ rfl f)).mono ?_
 intro e w' hs
 refine .inr ⟨zbc e0 (by rw [ev];exact f),T,rfl,?_⟩
 rw [ev]
 exact hs

theorem zki (c:Cd) (L:List Int) (R J:Int->Rat) (op to a b:Int) (ng:Bool) (vn vd:Value) (ln ld:List Nat) (mB g N h M cj n1 c1:Nat) (a1:Option Addr) (rows cols:Int) (xs:List Rt) (w:World) (hX:IsX w ⟨op,to,a,b,⟨ng,ln,ld⟩⟩ vn vd) (hok:zp c L ⟨op,to,a,b,⟨ng,ln,ld⟩⟩=true) (hL:∀ r ∈ L,0<=r/\r<(N:Int)) (hreg:c.regs=(N:Int)) (hins:c.ins=(n1:Int)) (hMM:c.rows*c.cols=(M:Int))
  (hm:zM w mB g N (.slice a1 n1 c1) (.slice (some ⟨h,0,none⟩) M cj) rows cols) (hN:N<=100000) (hM1:M<=100000) (hR:zV w g N (fun r => (r:Int) ∈ L) (fun r => R r)) (hJ:zV w h M (fun _ => True) (fun r => J r)) (nh1:h≠g) (nh2:h≠mB)
  (hx:RdR w (.slice a1 n1 c1) xs) (hxl:xs.length=n1) (hxm:n1<=maxLen) (hxs:∀ x ∈ xs,x.n.length<=1000/\x.d.length<=1000) (fit:opE R ⟨op,to,a,b,⟨ng,ln,ld⟩⟩=0->szq (opV (xs.map Rt.num) R ⟨op,to,a,b,⟨ng,ln,ld⟩⟩)<=1000/\(op=7->szq (R a)*b.natAbs<1000)) (hk:op=3) :
  Calls Tryz.prog 39 #[.pointer (some ⟨mB,0,none⟩),.agg #[.int .i64 op,.int .i64 to,.int .i64 a,.int .i64 b,.bool ng,vn,vd]] w (zaG w g h op to (zaK (xs.map Rt.num) R ⟨op,to,a,b,⟨ng,ln,ld⟩⟩) (opV (xs.map Rt.num) R ⟨op,to,a,b,⟨ng,ln,ld⟩⟩)):=by
 have hto:=zag hok
 have ha:=fun h1 => zaz hok h1
 have hb:=fun h1 => zbh hok h1
 simp only at hto ha hb
 subst hk
 have eto:zD c ⟨3,to,a,b,⟨ng,ln,ld⟩⟩=(N:Int):=by rw [<- hreg];exact if_neg (show ¬ ((3:Int)=10) by decide)
 rw [eto] at hto
 obtain ⟨T,rfl⟩:=Int.eq_ofNat_of_zero_le hto.1
 have hT:T<N:=by omega
 obtain ⟨b0,e1,e2,e3,e4,e5,e6,o1,_⟩:=hR T hT
 have hw:=hX.1.isF
 obtain ⟨A,na,va,ua,rfl,hA,ta,ka⟩:=zbz hR hL (ha (by decide))
 obtain ⟨Bb,nb,vb,ub,rfl,hB,tb,kb⟩:=zbz hR hL (hb (by decide))
 have e0:opE R ⟨3,(T:Int),(A:Int),(Bb:Int),⟨ng,ln,ld⟩⟩=0:=zbI (by show (3:Int)≠5;decide) (by show (3:Int)≠7;decide)
 have f:=(fit e0).1
 have ev:=(opV_sub (p:=xs.map Rt.num) (R:=R) (x:=⟨3,(T:Int),(A:Int),(Bb:Int),⟨ng,ln,ld⟩⟩) rfl)
 rw [ev] at f
 refine (zkY mB g N _ _ rows cols T _ _ ng vn vd ln ld _ _ _ w hw hm hN hT o1 (Nat.le_trans f (by decide)) (fun V hV => mach_sub mB g N _ _ rows cols _ _ ng vn vd ln ld A na va ua _ _ Bb nb vb ub _ _ V (hw.to hV) (hm.to hV) hN hA (ta.to hV) (ka.to hV).1 hB (tb.to hV) (kb.to hV).1 _ rfl f)).mono ?_
 intro e w' hs
 refine .inr ⟨zbc e0 (by rw [ev];exact f),T,rfl,?_⟩
 rw [ev]
 exact hs

theorem zkf (c:Cd) (L:List Int) (R J:Int->Rat) (op to a b:Int) (ng:Bool) (vn vd:Value) (ln ld:List Nat) (mB g N h M cj n1 c1:Nat) (a1:Option Addr) (rows cols:Int) (xs:List Rt) (w:World) (hX:IsX w ⟨op,to,a,b,⟨ng,ln,ld⟩⟩ vn vd) (hok:zp c L ⟨op,to,a,b,⟨ng,ln,ld⟩⟩=true) (hL:∀ r ∈ L,0<=r/\r<(N:Int)) (hreg:c.regs=(N:Int)) (hins:c.ins=(n1:Int)) (hMM:c.rows*c.cols=(M:Int))
  (hm:zM w mB g N (.slice a1 n1 c1) (.slice (some ⟨h,0,none⟩) M cj) rows cols) (hN:N<=100000) (hM1:M<=100000) (hR:zV w g N (fun r => (r:Int) ∈ L) (fun r => R r)) (hJ:zV w h M (fun _ => True) (fun r => J r)) (nh1:h≠g) (nh2:h≠mB)
  (hx:RdR w (.slice a1 n1 c1) xs) (hxl:xs.length=n1) (hxm:n1<=maxLen) (hxs:∀ x ∈ xs,x.n.length<=1000/\x.d.length<=1000) (fit:opE R ⟨op,to,a,b,⟨ng,ln,ld⟩⟩=0->szq (opV (xs.map Rt.num) R ⟨op,to,a,b,⟨ng,ln,ld⟩⟩)<=1000/\(op=7->szq (R a)*b.natAbs<1000)) (hk:op=4) :
  Calls Tryz.prog 39 #[.pointer (some ⟨mB,0,none⟩),.agg #[.int .i64 op,.int .i64 to,.int .i64 a,.int .i64 b,.bool ng,vn,vd]] w (zaG w g h op to (zaK (xs.map Rt.num) R ⟨op,to,a,b,⟨ng,ln,ld⟩⟩) (opV (xs.map Rt.num) R ⟨op,to,a,b,⟨ng,ln,ld⟩⟩)):=by
 have hto:=zag hok
 have ha:=fun h1 => zaz hok h1
 have hb:=fun h1 => zbh hok h1
 simp only at hto ha hb
 subst hk
 have eto:zD c ⟨4,to,a,b,⟨ng,ln,ld⟩⟩=(N:Int):=by rw [<- hreg];exact if_neg (show ¬ ((4:Int)=10) by decide)
 rw [eto] at hto
 obtain ⟨T,rfl⟩:=Int.eq_ofNat_of_zero_le hto.1
 have hT:T<N:=by omega
 obtain ⟨b0,e1,e2,e3,e4,e5,e6,o1,_⟩:=hR T hT
 have hw:=hX.1.isF
 obtain ⟨A,na,va,ua,rfl,hA,ta,ka⟩:=zbz hR hL (ha (by decide))
 obtain ⟨Bb,nb,vb,ub,rfl,hB,tb,kb⟩:=zbz hR hL (hb (by decide))
 have e0:opE R ⟨4,(T:Int),(A:Int),(Bb:Int),⟨ng,ln,ld⟩⟩=0:=zbI (by show (4:Int)≠5;decide) (by show (4:Int)≠7;decide)
 have f:=(fit e0).1
 have ev:=(zlv (p:=xs.map Rt.num) (R:=R) (x:=⟨4,(T:Int),(A:Int),(Bb:Int),⟨ng,ln,ld⟩⟩) (.inl rfl))
 rw [ev] at f
 refine (zkZ mB g N _ _ rows cols T _ _ ng vn vd ln ld _ _ _ w hw hm hN hT o1 (Nat.le_trans f (by decide)) (fun V hV => zjA mB g N _ _ rows cols _ _ ng vn vd ln ld A na va ua _ _ Bb nb vb ub _ _ V (hw.to hV) (hm.to hV) hN hA (ta.to hV) (ka.to hV).1 hB (tb.to hV) (kb.to hV).1 _ rfl f)).mono ?_
 intro e w' hs
 refine .inr ⟨zbc e0 (by rw [ev];exact f),T,rfl,?_⟩
 rw [ev]
 exact hs

theorem zhv (c:Cd) (L:List Int) (R J:Int->Rat) (op to a b:Int) (ng:Bool) (vn vd:Value) (ln ld:List Nat) (mB g N h M cj n1 c1:Nat) (a1:Option Addr) (rows cols:Int) (xs:List Rt) (w:World) (hX:IsX w ⟨op,to,a,b,⟨ng,ln,ld⟩⟩ vn vd) (hok:zp c L ⟨op,to,a,b,⟨ng,ln,ld⟩⟩=true) (hL:∀ r ∈ L,0<=r/\r<(N:Int)) (hreg:c.regs=(N:Int)) (hins:c.ins=(n1:Int)) (hMM:c.rows*c.cols=(M:Int))
  (hm:zM w mB g N (.slice a1 n1 c1) (.slice (some ⟨h,0,none⟩) M cj) rows cols) (hN:N<=100000) (hM1:M<=100000) (hR:zV w g N (fun r => (r:Int) ∈ L) (fun r => R r)) (hJ:zV w h M (fun _ => True) (fun r => J r)) (nh1:h≠g) (nh2:h≠mB)
  (hx:RdR w (.slice a1 n1 c1) xs) (hxl:xs.length=n1) (hxm:n1<=maxLen) (hxs:∀ x ∈ xs,x.n.length<=1000/\x.d.length<=1000) (fit:opE R ⟨op,to,a,b,⟨ng,ln,ld⟩⟩=0->szq (opV (xs.map Rt.num) R ⟨op,to,a,b,⟨ng,ln,ld⟩⟩)<=1000/\(op=7->szq (R a)*b.natAbs<1000)) (hk:op=8) :
  Calls Tryz.prog 39 #[.pointer (some ⟨mB,0,none⟩),.agg #[.int .i64 op,.int .i64 to,.int .i64 a,.int .i64 b,.bool ng,vn,vd]] w (zaG w g h op to (zaK (xs.map Rt.num) R ⟨op,to,a,b,⟨ng,ln,ld⟩⟩) (opV (xs.map Rt.num) R ⟨op,to,a,b,⟨ng,ln,ld⟩⟩)):=by
 have hto:=zag hok
 have ha:=fun h1 => zaz hok h1
 have hb:=fun h1 => zbh hok h1
 simp only at hto ha hb
 subst hk
 have eto:zD c ⟨8,to,a,b,⟨ng,ln,ld⟩⟩=(N:Int):=by rw [<- hreg];exact if_neg (show ¬ ((8:Int)=10) by decide)
 rw [eto] at hto
 obtain ⟨T,rfl⟩:=Int.eq_ofNat_of_zero_le hto.1
 have hT:T<N:=by omega
 obtain ⟨b0,e1,e2,e3,e4,e5,e6,o1,_⟩:=hR T hT
 have hw:=hX.1.isF
 obtain ⟨A,na,va,ua,rfl,hA,ta,ka⟩:=zbz hR hL (ha (by decide))
 obtain ⟨Bb,nb,vb,ub,rfl,hB,tb,kb⟩:=zbz hR hL (hb (by decide))
 have e0:opE R ⟨8,(T:Int),(A:Int),(Bb:Int),⟨ng,ln,ld⟩⟩=0:=zbI (by show (8:Int)≠5;decide) (by show (8:Int)≠7;decide)
 have f:=(fit e0).1
 have ev:=(zlv (p:=xs.map Rt.num) (R:=R) (x:=⟨8,(T:Int),(A:Int),(Bb:Int),⟨ng,ln,ld⟩⟩) (.inr rfl))
 rw [ev] at f
 refine (zld mB g N _ _ rows cols T _ _ ng vn vd ln ld _ _ _ w hw hm hN hT o1 (Nat.le_trans f (by decide)) (fun V hV => zjA mB g N _ _ rows cols _ _ ng vn vd ln ld A na va ua _ _ Bb nb vb ub _ _ V (hw.to hV) (hm.to hV) hN hA (ta.to hV) (ka.to hV).1 hB (tb.to hV) (kb.to hV).1 _ rfl f)).mono ?_
 intro e w' hs
 refine .inr ⟨zbc e0 (by rw [ev];exact f),T,rfl,?_⟩
 rw [ev]
 exact hs

theorem zkg (c:Cd) (L:List Int) (R J:Int->Rat) (op to a b:Int) (ng:Bool) (vn vd:Value) (ln ld:List Nat) (mB g N h M cj n1 c1:Nat) (a1:Option Addr) (rows cols:Int) (xs:List Rt) (w:World) (hX:IsX w ⟨op,to,a,b,⟨ng,ln,ld⟩⟩ vn vd) (hok:zp c L ⟨op,to,a,b,⟨ng,ln,ld⟩⟩=true) (hL:∀ r ∈ L,0<=r/\r<(N:Int)) (hreg:c.regs=(N:Int)) (hins:c.ins=(n1:Int)) (hMM:c.rows*c.cols=(M:Int))
  (hm:zM w mB g N (.slice a1 n1 c1) (.slice (some ⟨h,0,none⟩) M cj) rows cols) (hN:N<=100000) (hM1:M<=100000) (hR:zV w g N (fun r => (r:Int) ∈ L) (fun r => R r)) (hJ:zV w h M (fun _ => True) (fun r => J r)) (nh1:h≠g) (nh2:h≠mB)
  (hx:RdR w (.slice a1 n1 c1) xs) (hxl:xs.length=n1) (hxm:n1<=maxLen) (hxs:∀ x ∈ xs,x.n.length<=1000/\x.d.length<=1000) (fit:opE R ⟨op,to,a,b,⟨ng,ln,ld⟩⟩=0->szq (opV (xs.map Rt.num) R ⟨op,to,a,b,⟨ng,ln,ld⟩⟩)<=1000/\(op=7->szq (R a)*b.natAbs<1000)) (hk:op=6) :
  Calls Tryz.prog 39 #[.pointer (some ⟨mB,0,none⟩),.agg #[.int .i64 op,.int .i64 to,.int .i64 a,.int .i64 b,.bool ng,vn,vd]] w (zaG w g h op to (zaK (xs.map Rt.num) R ⟨op,to,a,b,⟨ng,ln,ld⟩⟩) (opV (xs.map Rt.num) R ⟨op,to,a,b,⟨ng,ln,ld⟩⟩)):=by
 have hto:=zag hok
 have ha:=fun h1 => zaz hok h1
 have hb:=fun h1 => zbh hok h1
 simp only at hto ha hb
 subst hk
 have eto:zD c ⟨6,to,a,b,⟨ng,ln,ld⟩⟩=(N:Int):=by rw [<- hreg];exact if_neg (show ¬ ((6:Int)=10) by decide)
 rw [eto] at hto
 obtain ⟨T,rfl⟩:=Int.eq_ofNat_of_zero_le hto.1
 have hT:T<N:=by omega
 obtain ⟨b0,e1,e2,e3,e4,e5,e6,o1,_⟩:=hR T hT
 have hw:=hX.1.isF
 obtain ⟨A,na,va,ua,rfl,hA,ta,ka⟩:=zbz hR hL (ha (by decide))
 have e0:opE R ⟨6,(T:Int),(A:Int),b,⟨ng,ln,ld⟩⟩=0:=zbI (by show (6:Int)≠5;decide) (by show (6:Int)≠7;decide)
 have f:=(fit e0).1
 have ev:=zlx (p:=xs.map Rt.num) (R:=R) (x:=⟨6,(T:Int),(A:Int),b,⟨ng,ln,ld⟩⟩) rfl
 rw [ev] at f
 refine (zlb mB g N _ _ rows cols T _ _ ng vn vd ln ld _ _ _ w hw hm hN hT o1 (Nat.le_trans f (by decide)) (fun V hV => mach_neg mB g N _ _ rows cols _ _ _ ng vn vd ln ld A na va ua _ _ V (hw.to hV) (hm.to hV) hN hA (ta.to hV) (ka.to hV).1 _ rfl f)).mono ?_
 intro e w' hs
 refine .inr ⟨zbc e0 (by rw [ev];exact f),T,rfl,?_⟩
 rw [ev]
 exact hs

theorem zke (c:Cd) (L:List Int) (R J:Int->Rat) (op to a b:Int) (ng:Bool) (vn vd:Value) (ln ld:List Nat) (mB g N h M cj n1 c1:Nat) (a1:Option Addr) (rows cols:Int) (xs:List Rt) (w:World) (hX:IsX w ⟨op,to,a,b,⟨ng,ln,ld⟩⟩ vn vd) (hok:zp c L ⟨op,to,a,b,⟨ng,ln,ld⟩⟩=true) (hL:∀ r ∈ L,0<=r/\r<(N:Int)) (hreg:c.regs=(N:Int)) (hins:c.ins=(n1:Int)) (hMM:c.rows*c.cols=(M:Int))
  (hm:zM w mB g N (.slice a1 n1 c1) (.slice (some ⟨h,0,none⟩) M cj) rows cols) (hN:N<=100000) (hM1:M<=100000) (hR:zV w g N (fun r => (r:Int) ∈ L) (fun r => R r)) (hJ:zV w h M (fun _ => True) (fun r => J r)) (nh1:h≠g) (nh2:h≠mB)
  (hx:RdR w (.slice a1 n1 c1) xs) (hxl:xs.length=n1) (hxm:n1<=maxLen) (hxs:∀ x ∈ xs,x.n.length<=1000/\x.d.length<=1000) (fit:opE R ⟨op,to,a,b,⟨ng,ln,ld⟩⟩=0->szq (opV (xs.map Rt.num) R ⟨op,to,a,b,⟨ng,ln,ld⟩⟩)<=1000/\(op=7->szq (R a)*b.natAbs<1000)) (hk:op=5) :
  Calls Tryz.prog 39 #[.pointer (some ⟨mB,0,none⟩),.agg #[.int .i64 op,.int .i64 to,.int .i64 a,.int .i64 b,.bool ng,vn,vd]] w (zaG w g h op to (zaK (xs.map Rt.num) R ⟨op,to,a,b,⟨ng,ln,ld⟩⟩) (opV (xs.map Rt.num) R ⟨op,to,a,b,⟨ng,ln,ld⟩⟩)):=by
 have hto:=zag hok
 have ha:=fun h1 => zaz hok h1
 have hb:=fun h1 => zbh hok h1
 simp only at hto ha hb
 subst hk
 have eto:zD c ⟨5,to,a,b,⟨ng,ln,ld⟩⟩=(N:Int):=by rw [<- hreg];exact if_neg (show ¬ ((5:Int)=10) by decide)
 rw [eto] at hto
 obtain ⟨T,rfl⟩:=Int.eq_ofNat_of_zero_le hto.1
 have hT:T<N:=by omega
 obtain ⟨b0,e1,e2,e3,e4,e5,e6,o1,_⟩:=hR T hT
 have hw:=hX.1.isF
 obtain ⟨A,na,va,ua,rfl,hA,ta,ka⟩:=zbz hR hL (ha (by decide))
 obtain ⟨Bb,nb,vb,ub,rfl,hB,tb,kb⟩:=zbz hR hL (hb (by decide))
 have eE:=opE_div (R:=R) (x:=⟨5,(T:Int),(A:Int),(Bb:Int),⟨ng,ln,ld⟩⟩) rfl
 by_cases h0:R (Bb:Int)=0
 ·have e0:opE R ⟨5,(T:Int),(A:Int),(Bb:Int),⟨ng,ln,ld⟩⟩=3:=by rw [eE];exact if_pos h0
  refine (ziG mB g N _ _ rows cols T _ _ ng vn vd ln ld _ _ _ w hw hm hN hT o1 (fun V hV => zjz mB g N _ _ rows cols _ _ ng vn vd ln ld A na va ua _ _ Bb nb vb ub _ _ V (hw.to hV) (hm.to hV) hN hA (ta.to hV) (ka.to hV).1 hB (tb.to hV) (kb.to hV).1 h0)).mono ?_
  intro e w' hs
  have es:zaK (xs.map Rt.num) R ⟨5,(T:Int),(A:Int),(Bb:Int),⟨ng,ln,ld⟩⟩=3:=by rw [zfw (by rw [e0];decide),e0]
  rw [es]
  exact .inl ⟨by decide,hs.1,hs.2⟩
 ·have e0:opE R ⟨5,(T:Int),(A:Int),(Bb:Int),⟨ng,ln,ld⟩⟩=0:=by rw [eE];exact if_neg h0
  have f:=(fit e0).1
  have ev:=opV_div (p:=xs.map Rt.num) (R:=R) (x:=⟨5,(T:Int),(A:Int),(Bb:Int),⟨ng,ln,ld⟩⟩) rfl
  rw [ev] at f
  refine (zla mB g N _ _ rows cols T _ _ ng vn vd ln ld _ _ _ w hw hm hN hT o1 (Nat.le_trans f (by decide)) (fun V hV => mach_div mB g N _ _ rows cols _ _ ng vn vd ln ld A na va ua _ _ Bb nb vb ub _ _ V (hw.to hV) (hm.to hV) hN hA (ta.to hV) (ka.to hV).1 hB (tb.to hV) (kb.to hV).1 _ rfl f h0)).mono ?_
  intro e w' hs
  refine .inr ⟨zbc e0 (by rw [ev];exact f),T,rfl,?_⟩
  rw [ev]
  exact hs

theorem zkh (c:Cd) (L:List Int) (R J:Int->Rat) (op to a b:Int) (ng:Bool) (vn vd:Value) (ln ld:List Nat) (mB g N h M cj n1 c1:Nat) (a1:Option Addr) (rows cols:Int) (xs:List Rt) (w:World) (hX:IsX w ⟨op,to,a,b,⟨ng,ln,ld⟩⟩ vn vd) (hok:zp c L ⟨op,to,a,b,⟨ng,ln,ld⟩⟩=true) (hL:∀ r ∈ L,0<=r/\r<(N:Int)) (hreg:c.regs=(N:Int)) (hins:c.ins=(n1:Int)) (hMM:c.rows*c.cols=(M:Int))
  (hm:zM w mB g N (.slice a1 n1 c1) (.slice (some ⟨h,0,none⟩) M cj) rows cols) (hN:N<=100000) (hM1:M<=100000) (hR:zV w g N (fun r => (r:Int) ∈ L) (fun r => R r)) (hJ:zV w h M (fun _ => True) (fun r => J r)) (nh1:h≠g) (nh2:h≠mB)
  (hx:RdR w (.slice a1 n1 c1) xs) (hxl:xs.length=n1) (hxm:n1<=maxLen) (hxs:∀ x ∈ xs,x.n.length<=1000/\x.d.length<=1000) (fit:opE R ⟨op,to,a,b,⟨ng,ln,ld⟩⟩=0->szq (opV (xs.map Rt.num) R ⟨op,to,a,b,⟨ng,ln,ld⟩⟩)<=1000/\(op=7->szq (R a)*b.natAbs<1000)) (hk:op=7) :
  Calls Tryz.prog 39 #[.pointer (some ⟨mB,0,none⟩),.agg #[.int .i64 op,.int .i64 to,.int .i64 a,.int .i64 b,.bool ng,vn,vd]] w (zaG w g h op to (zaK (xs.map Rt.num) R ⟨op,to,a,b,⟨ng,ln,ld⟩⟩) (opV (xs.map Rt.num) R ⟨op,to,a,b,⟨ng,ln,ld⟩⟩)):=by
 have hto:=zag hok
 have ha:=fun h1 => zaz hok h1
 have hb:=fun h1 => zbh hok h1
 simp only at hto ha hb
 subst hk
 have eto:zD c ⟨7,to,a,b,⟨ng,ln,ld⟩⟩=(N:Int):=by rw [<- hreg];exact if_neg (show ¬ ((7:Int)=10) by decide)
 rw [eto] at hto
 obtain ⟨T,rfl⟩:=Int.eq_ofNat_of_zero_le hto.1
 have hT:T<N:=by omega
 obtain ⟨b0,e1,e2,e3,e4,e5,e6,o1,_⟩:=hR T hT
 have hw:=hX.1.isF
 have eN:=zhD hok rfl
 simp only at eN
 obtain ⟨A,na,va,ua,rfl,hA,ta,ka⟩:=zbz hR hL (ha (by decide))
 have eE:=opE_pow (R:=R) (x:=⟨7,(T:Int),(A:Int),b,⟨ng,ln,ld⟩⟩) rfl
 simp only at eE
 by_cases h0:R (A:Int)=0/\b<0
 ·have e0:opE R ⟨7,(T:Int),(A:Int),b,⟨ng,ln,ld⟩⟩=3:=by rw [eE,if_pos h0]
  refine (ziH mB g N _ _ rows cols T _ _ ng vn vd ln ld _ _ _ w hw hm hN hT o1 (fun V hV => zhk mB g N _ _ rows cols _ _ _ ng vn vd ln ld A na va ua V (hw.to hV) (hm.to hV) hN hA (ta.to hV) (ka.to hV) eN h0.1 h0.2)).mono ?_
  intro e w' hs
  have es:zaK (xs.map Rt.num) R ⟨7,(T:Int),(A:Int),b,⟨ng,ln,ld⟩⟩=3:=by rw [zfw (by rw [e0];decide),e0]
  rw [es]
  exact .inl ⟨by decide,hs.1,hs.2⟩
 rw [if_neg h0] at eE
 by_cases hl:4096<szq (R (A:Int))*b.natAbs
 ·have e0:opE R ⟨7,(T:Int),(A:Int),b,⟨ng,ln,ld⟩⟩=4:=by rw [eE,if_pos hl]
  refine (ziI mB g N _ _ rows cols T _ _ ng vn vd ln ld _ _ _ w hw hm hN hT o1 (fun V hV => ?_)).mono ?_
  ·by_cases hz:R (A:Int)=0
   ·exact zfS mB g N _ _ rows cols _ _ _ ng vn vd ln ld A na va ua V (hw.to hV) (hm.to hV) hN hA (ta.to hV) (ka.to hV) eN (fun k => h0 ⟨hz,k⟩) hz hl
   ·exact zfR mB g N _ _ rows cols _ _ _ ng vn vd ln ld A na va ua V (hw.to hV) (hm.to hV) hN hA (ta.to hV) (ka.to hV) eN hz hl
  intro e w' hs
  have es:zaK (xs.map Rt.num) R ⟨7,(T:Int),(A:Int),b,⟨ng,ln,ld⟩⟩=4:=by rw [zfw (by rw [e0];decide),e0]
  rw [es]
  exact .inl ⟨by decide,hs.1,hs.2⟩
 have e0:opE R ⟨7,(T:Int),(A:Int),b,⟨ng,ln,ld⟩⟩=0:=by rw [eE,if_neg hl]
 have f:=fit e0
 have f7:=f.2 rfl
 have ev:=opV_pow (p:=xs.map Rt.num) (R:=R) (x:=⟨7,(T:Int),(A:Int),b,⟨ng,ln,ld⟩⟩) rfl
 simp only at ev
 have fv:=f.1
 refine (zlc mB g N _ _ rows cols T _ _ ng vn vd ln ld _ _ _ w hw hm hN hT o1 (Nat.le_trans fv (by decide)) (fun V hV => ?_)).mono ?_
 ·rw [ev]
  by_cases hn:b<0
  ·have hz:R (A:Int)≠0:=fun k => h0 ⟨k,hn⟩
   rw [if_pos hn,show b.natAbs=(-b).toNat by omega]
   exact zim mB g N _ _ rows cols _ _ _ ng vn vd ln ld A na va ua V (hw.to hV) (hm.to hV) hN hA (ta.to hV) (ka.to hV) eN hz hn hz (by rw [show (-b).toNat=b.natAbs by omega];omega)
  ·rw [if_neg hn,show b.natAbs=b.toNat by omega]
   have hl':szq (R (A:Int))*b.toNat<=999:=by rw [show b.toNat=b.natAbs by omega];omega
   by_cases hz:R (A:Int)=0
   ·exact zio mB g N _ _ rows cols _ _ _ ng vn vd ln ld A na va ua V (hw.to hV) (hm.to hV) hN hA (ta.to hV) (ka.to hV) eN hn hz (by omega) hl'
   ·exact zin mB g N _ _ rows cols _ _ _ ng vn vd ln ld A na va ua V (hw.to hV) (hm.to hV) hN hA (ta.to hV) (ka.to hV) eN hz (by omega) hl'
 intro e w' hs
 exact .inr ⟨zbc e0 fv,T,rfl,hs⟩

theorem zht (c:Cd) (L:List Int) (R J:Int->Rat) (op to a b:Int) (ng:Bool) (vn vd:Value) (ln ld:List Nat) (mB g N h M cj n1 c1:Nat) (a1:Option Addr) (rows cols:Int) (xs:List Rt) (w:World) (hX:IsX w ⟨op,to,a,b,⟨ng,ln,ld⟩⟩ vn vd) (hok:zp c L ⟨op,to,a,b,⟨ng,ln,ld⟩⟩=true) (hL:∀ r ∈ L,0<=r/\r<(N:Int)) (hreg:c.regs=(N:Int)) (hins:c.ins=(n1:Int)) (hMM:c.rows*c.cols=(M:Int))
  (hm:zM w mB g N (.slice a1 n1 c1) (.slice (some ⟨h,0,none⟩) M cj) rows cols) (hN:N<=100000) (hM1:M<=100000) (hR:zV w g N (fun r => (r:Int) ∈ L) (fun r => R r)) (hJ:zV w h M (fun _ => True) (fun r => J r)) (nh1:h≠g) (nh2:h≠mB)
  (hx:RdR w (.slice a1 n1 c1) xs) (hxl:xs.length=n1) (hxm:n1<=maxLen) (hxs:∀ x ∈ xs,x.n.length<=1000/\x.d.length<=1000) (fit:opE R ⟨op,to,a,b,⟨ng,ln,ld⟩⟩=0->szq (opV (xs.map Rt.num) R ⟨op,to,a,b,⟨ng,ln,ld⟩⟩)<=1000/\(op=7->szq (R a)*b.natAbs<1000)) (hk:op=1) :
  Calls Tryz.prog 39 #[.pointer (some ⟨mB,0,none⟩),.agg #[.int .i64 op,.int .i64 to,.int .i64 a,.int .i64 b,.bool ng,vn,vd]] w (zaG w g h op to (zaK (xs.map Rt.num) R ⟨op,to,a,b,⟨ng,ln,ld⟩⟩) (opV (xs.map Rt.num) R ⟨op,to,a,b,⟨ng,ln,ld⟩⟩)):=by
 have hto:=zag hok
 have ha:=fun h1 => zaz hok h1
 have hb:=fun h1 => zbh hok h1
 simp only at hto ha hb
 subst hk
 have eto:zD c ⟨1,to,a,b,⟨ng,ln,ld⟩⟩=(N:Int):=by rw [<- hreg];exact if_neg (show ¬ ((1:Int)=10) by decide)
 rw [eto] at hto
 obtain ⟨T,rfl⟩:=Int.eq_ofNat_of_zero_le hto.1
 have hT:T<N:=by omega
 obtain ⟨b0,e1,e2,e3,e4,e5,e6,o1,_⟩:=hR T hT
 have hw:=hX.1.isF
 have e0:opE R ⟨1,(T:Int),a,b,⟨ng,ln,ld⟩⟩=0:=zbI (by show (1:Int)≠5;decide) (by show (1:Int)≠7;decide)
 have f:=(fit e0).1
 have ev:=zlw (p:=xs.map Rt.num) (R:=R) (x:=⟨1,(T:Int),a,b,⟨ng,ln,ld⟩⟩) rfl
 rw [ev] at f
 refine (zkW mB g N _ _ rows cols T _ _ ng vn vd ln ld _ _ _ w hw hm hN hT o1 (Nat.le_trans f (by decide)) (fun V hV => zkC _ _ _ _ _ ng vn vd ln ld V (hX.1.to hV) f)).mono ?_
 intro e w' hs
 refine .inr ⟨zbc e0 (by rw [ev];exact f),T,rfl,?_⟩
 rw [ev]
 exact hs

theorem zhu (c:Cd) (L:List Int) (R J:Int->Rat) (op to a b:Int) (ng:Bool) (vn vd:Value) (ln ld:List Nat) (mB g N h M cj n1 c1:Nat) (a1:Option Addr) (rows cols:Int) (xs:List Rt) (w:World) (hX:IsX w ⟨op,to,a,b,⟨ng,ln,ld⟩⟩ vn vd) (hok:zp c L ⟨op,to,a,b,⟨ng,ln,ld⟩⟩=true) (hL:∀ r ∈ L,0<=r/\r<(N:Int)) (hreg:c.regs=(N:Int)) (hins:c.ins=(n1:Int)) (hMM:c.rows*c.cols=(M:Int))
  (hm:zM w mB g N (.slice a1 n1 c1) (.slice (some ⟨h,0,none⟩) M cj) rows cols) (hN:N<=100000) (hM1:M<=100000) (hR:zV w g N (fun r => (r:Int) ∈ L) (fun r => R r)) (hJ:zV w h M (fun _ => True) (fun r => J r)) (nh1:h≠g) (nh2:h≠mB)
  (hx:RdR w (.slice a1 n1 c1) xs) (hxl:xs.length=n1) (hxm:n1<=maxLen) (hxs:∀ x ∈ xs,x.n.length<=1000/\x.d.length<=1000) (fit:opE R ⟨op,to,a,b,⟨ng,ln,ld⟩⟩=0->szq (opV (xs.map Rt.num) R ⟨op,to,a,b,⟨ng,ln,ld⟩⟩)<=1000/\(op=7->szq (R a)*b.natAbs<1000)) (hk:op=0) :
  Calls Tryz.prog 39 #[.pointer (some ⟨mB,0,none⟩),.agg #[.int .i64 op,.int .i64 to,.int .i64 a,.int .i64 b,.bool ng,vn,vd]] w (zaG w g h op to (zaK (xs.map Rt.num) R ⟨op,to,a,b,⟨ng,ln,ld⟩⟩) (opV (xs.map Rt.num) R ⟨op,to,a,b,⟨ng,ln,ld⟩⟩)):=by
 have hin:=insOk_in hok hk
 simp only at hin
 have hto:=zag hok
 have ha:=fun h1 => zaz hok h1
 have hb:=fun h1 => zbh hok h1
 simp only at hto ha hb
 subst hk
 have eto:zD c ⟨0,to,a,b,⟨ng,ln,ld⟩⟩=(N:Int):=by rw [<- hreg];exact if_neg (show ¬ ((0:Int)=10) by decide)
 rw [eto] at hto
 obtain ⟨T,rfl⟩:=Int.eq_ofNat_of_zero_le hto.1
 have hT:T<N:=by omega
 obtain ⟨b0,e1,e2,e3,e4,e5,e6,o1,_⟩:=hR T hT
 have hw:=hX.1.isF
 obtain ⟨A,rfl⟩:=Int.eq_ofNat_of_zero_le hin.1
 have hA:A<n1:=by omega
 have hAl:A<xs.length:=by omega
 obtain ⟨bb,off,rfl,h3⟩:=hx.nth hAl
 have hsz:=hxs _ (List.getElem_mem hAl)
 obtain ⟨v3,u3,s0,s1,s2,hq⟩:=h3.isQ hsz.1 hsz.2
 have e0:opE R ⟨0,(T:Int),(A:Int),b,⟨ng,ln,ld⟩⟩=0:=zbI (by show (0:Int)≠5;decide) (by show (0:Int)≠7;decide)
 have f:=(fit e0).1
 have ev:=zjF (p:=xs.map Rt.num) (R:=R) (x:=⟨0,(T:Int),(A:Int),b,⟨ng,ln,ld⟩⟩) rfl
 have ev2:opV (xs.map Rt.num) R ⟨0,(T:Int),(A:Int),b,⟨ng,ln,ld⟩⟩=xs[A].num:=by rw [ev];simp [hAl]
 rw [ev2] at f
 refine (zkV mB g N _ _ rows cols T _ _ ng vn vd ln ld _ _ _ w hw hm hN hT o1 (Nat.le_trans f (by decide)) (fun V hV => zkD mB g N _ rows cols bb off n1 c1 A _ _ _ ng vn vd ln ld _ v3 u3 _ _ V (hw.to hV) (hm.to hV) hxm hA (zbW.to ⟨s0,s1,s2⟩ hV) (hq.to hV) f)).mono ?_
 intro e w' hs
 refine .inr ⟨zbc e0 (by rw [ev2];exact f),T,rfl,?_⟩
 rw [ev2]
 exact hs

theorem ziW (c:Cd) (L:List Int) (R J:Int->Rat) (op to a b:Int) (ng:Bool) (vn vd:Value) (ln ld:List Nat) (mB g N h M cj n1 c1:Nat) (a1:Option Addr) (rows cols:Int) (xs:List Rt) (w:World) (hX:IsX w ⟨op,to,a,b,⟨ng,ln,ld⟩⟩ vn vd) (hok:zp c L ⟨op,to,a,b,⟨ng,ln,ld⟩⟩=true) (hL:∀ r ∈ L,0<=r/\r<(N:Int)) (hreg:c.regs=(N:Int)) (hins:c.ins=(n1:Int)) (hMM:c.rows*c.cols=(M:Int))
  (hm:zM w mB g N (.slice a1 n1 c1) (.slice (some ⟨h,0,none⟩) M cj) rows cols) (hN:N<=100000) (hM1:M<=100000) (hR:zV w g N (fun r => (r:Int) ∈ L) (fun r => R r)) (hJ:zV w h M (fun _ => True) (fun r => J r)) (nh1:h≠g) (nh2:h≠mB)
  (hx:RdR w (.slice a1 n1 c1) xs) (hxl:xs.length=n1) (hxm:n1<=maxLen) (hxs:∀ x ∈ xs,x.n.length<=1000/\x.d.length<=1000) (fit:opE R ⟨op,to,a,b,⟨ng,ln,ld⟩⟩=0->szq (opV (xs.map Rt.num) R ⟨op,to,a,b,⟨ng,ln,ld⟩⟩)<=1000/\(op=7->szq (R a)*b.natAbs<1000)) (hk:op=10) :
  Calls Tryz.prog 39 #[.pointer (some ⟨mB,0,none⟩),.agg #[.int .i64 op,.int .i64 to,.int .i64 a,.int .i64 b,.bool ng,vn,vd]] w (zaG w g h op to (zaK (xs.map Rt.num) R ⟨op,to,a,b,⟨ng,ln,ld⟩⟩) (opV (xs.map Rt.num) R ⟨op,to,a,b,⟨ng,ln,ld⟩⟩)):=by
 have hto:=zag hok
 have ha:=fun h1 => zaz hok h1
 simp only at hto ha
 subst hk
 have eto:zD c ⟨10,to,a,b,⟨ng,ln,ld⟩⟩=(M:Int):=by rw [<- hMM];exact if_pos rfl
 rw [eto] at hto
 obtain ⟨T,rfl⟩:=Int.eq_ofNat_of_zero_le hto.1
 have hT:T<M:=by omega
 obtain ⟨b0,e1,e2,e3,e4,e5,e6,o1,_⟩:=hJ T hT
 have hw:=hX.1.isF
 obtain ⟨A,na,va,ua,rfl,hA,ta,ka⟩:=zbz hR hL (ha (by decide))
 have e0:opE R ⟨10,(T:Int),(A:Int),b,⟨ng,ln,ld⟩⟩=0:=zbI (by show (10:Int)≠5;decide) (by show (10:Int)≠7;decide)
 have f:=(fit e0).1
 have ev:=zly (p:=xs.map Rt.num) (R:=R) (x:=⟨10,(T:Int),(A:Int),b,⟨ng,ln,ld⟩⟩) rfl
 refine (zmS mB g N h M cj _ rows cols T _ ng vn vd ln ld _ _ _ A na va ua w hw hm hN hM1 hT o1 hA ta ka nh1 nh2).mono ?_
 intro e w' hs
 refine .inr ⟨zbc e0 f,T,rfl,?_⟩
 rw [ev,if_pos rfl]
 exact hs

theorem vm_step (c:Cd) (L:List Int) (R J:Int->Rat) (op to a b:Int) (ng:Bool) (vn vd:Value) (ln ld:List Nat) (mB g N h M cj n1 c1:Nat) (a1:Option Addr) (rows cols:Int) (xs:List Rt) (w:World) (hX:IsX w ⟨op,to,a,b,⟨ng,ln,ld⟩⟩ vn vd) (hok:zp c L ⟨op,to,a,b,⟨ng,ln,ld⟩⟩=true) (hL:∀ r ∈ L,0<=r/\r<(N:Int)) (hreg:c.regs=(N:Int)) (hins:c.ins=(n1:Int)) (hMM:c.rows*c.cols=(M:Int))
  (hm:zM w mB g N (.slice a1 n1 c1) (.slice (some ⟨h,0,none⟩) M cj) rows cols) (hN:N<=100000) (hM1:M<=100000) (hR:zV w g N (fun r => (r:Int) ∈ L) (fun r => R r)) (hJ:zV w h M (fun _ => True) (fun r => J r)) (nh1:h≠g) (nh2:h≠mB)
  (hx:RdR w (.slice a1 n1 c1) xs) (hxl:xs.length=n1) (hxm:n1<=maxLen) (hxs:∀ x ∈ xs,x.n.length<=1000/\x.d.length<=1000) (fit:opE R ⟨op,to,a,b,⟨ng,ln,ld⟩⟩=0->szq (opV (xs.map Rt.num) R ⟨op,to,a,b,⟨ng,ln,ld⟩⟩)<=1000/\(op=7->szq (R a)*b.natAbs<1000)) :
  Calls Tryz.prog 39 #[.pointer (some ⟨mB,0,none⟩),.agg #[.int .i64 op,.int .i64 to,.int .i64 a,.int .i64 b,.bool ng,vn,vd]] w (zaG w g h op to (zaK (xs.map Rt.num) R ⟨op,to,a,b,⟨ng,ln,ld⟩⟩) (opV (xs.map Rt.num) R ⟨op,to,a,b,⟨ng,ln,ld⟩⟩)):=by
 rcases zbj op (zgC hok) with e|e|e|e|e|e|e|e|e|e|e
 ·exact zhu c L R J op to a b ng vn vd ln ld mB g N h M cj n1 c1 a1 rows cols xs w hX hok hL hreg hins hMM hm hN hM1 hR hJ nh1 nh2 hx hxl hxm hxs fit e
 ·exact zht c L R J op to a b ng vn vd ln ld mB g N h M cj n1 c1 a1 rows cols xs w hX hok hL hreg hins hMM hm hN hM1 hR hJ nh1 nh2 hx hxl hxm hxs fit e
 ·exact zkd c L R J op to a b ng vn vd ln ld mB g N h M cj n1 c1 a1 rows cols xs w hX hok hL hreg hins hMM hm hN hM1 hR hJ nh1 nh2 hx hxl hxm hxs fit e
 ·exact zki c L R J op to a b ng vn vd ln ld mB g N h M cj n1 c1 a1 rows cols xs w hX hok hL hreg hins hMM hm hN hM1 hR hJ nh1 nh2 hx hxl hxm hxs fit e
 ·exact zkf c L R J op to a b ng vn vd ln ld mB g N h M cj n1 c1 a1 rows cols xs w hX hok hL hreg hins hMM hm hN hM1 hR hJ nh1 nh2 hx hxl hxm hxs fit e
 ·exact zke c L R J op to a b ng vn vd ln ld mB g N h M cj n1 c1 a1 rows cols xs w hX hok hL hreg hins hMM hm hN hM1 hR hJ nh1 nh2 hx hxl hxm hxs fit e
 ·exact zkg c L R J op to a b ng vn vd ln ld mB g N h M cj n1 c1 a1 rows cols xs w hX hok hL hreg hins hMM hm hN hM1 hR hJ nh1 nh2 hx hxl hxm hxs fit e
 ·exact zkh c L R J op to a b ng vn vd ln ld mB g N h M cj n1 c1 a1 rows cols xs w hX hok hL hreg hins hMM hm hN hM1 hR hJ nh1 nh2 hx hxl hxm hxs fit e
 ·exact zhv c L R J op to a b ng vn vd ln ld mB g N h M cj n1 c1 a1 rows cols xs w hX hok hL hreg hins hMM hm hN hM1 hR hJ nh1 nh2 hx hxl hxm hxs fit e
 ·exact ziV c L R J op to a b ng vn vd ln ld mB g N h M cj n1 c1 a1 rows cols xs w hX hok hL hreg hins hMM hm hN hM1 hR hJ nh1 nh2 hx hxl hxm hxs fit e
 ·exact ziW c L R J op to a b ng vn vd ln ld mB g N h M cj n1 c1 a1 rows cols xs w hX hok hL hreg hins hMM hm hN hM1 hR hJ nh1 nh2 hx hxl hxm hxs fit e

end Go.Proofs.YtkjcdnlpjldhaaaGreat


namespace Go.Proofs.YtkjcdnlpjldhaaaGreat
open Go.RowKit Tw

section

variable {w w':World} {v u:Value} {q:Rat}

theorem zai.setOne {b o B p:Nat} {c0 c1 c2:Value} (h:zai w b o c0 c1 c2) (hne:b≠B) (x:Value):zai (w.setCell ⟨B,p,none⟩ x) b o c0 c1 c2 :=
 ⟨cP h.1 (.inl hne) _,cP h.2.1 (.inl hne) _,cP h.2.2.1 (.inl hne) _,by simp [go_sem,h.2.2.2.1],by simp [go_sem,h.2.2.2.2.1],by simp [go_sem,h.2.2.2.2.2]⟩

theorem zV.setI {g N B p:Nat} {P:Nat->Prop} {R:Nat->Rat} (h:zV w g N P R) (hne:g≠B) {z:Int} (hc:w.cell? ⟨B,p,none⟩=some (.int .i64 z)) (x:Value):zV (w.setCell ⟨B,p,none⟩ x) g N P R:=fun r hr =>
 let ⟨b,a,n,c,a',n',c',h1,h2⟩:=h r hr
 ⟨b,a,n,c,a',n',c',h1.setOne hne x,fun hp => ⟨⟨(h2 hp).1.1.put hc (fun z e => by cases e) x,(h2 hp).1.2.1.put hc (fun z e => by cases e) x,(h2 hp).1.2.2⟩,(h2 hp).2⟩⟩

theorem zV.setP {g N B p:Nat} {P:Nat->Prop} {R:Nat->Rat} (h:zV w g N P R) (hne:g≠B) {c0:Value} (hc:w.cell? ⟨B,p,none⟩=some c0) (hn:∀ z,c0≠.int .u32 z) (x:Value):zV (w.setCell ⟨B,p,none⟩ x) g N P R:=fun r hr =>
 let ⟨b,a,n,c,a',n',c',h1,h2⟩:=h r hr
 ⟨b,a,n,c,a',n',c',h1.setOne hne x,fun hp => ⟨⟨(h2 hp).1.1.put hc hn x,(h2 hp).1.2.1.put hc hn x,(h2 hp).1.2.2⟩,(h2 hp).2⟩⟩

theorem zV.low {g N B:Nat} {R R':Nat->Rat} (h:zV w g N (fun _ => False) R) (hb:Below B w w') (hg:g<B):zV w' g N (fun _ => False) R':=fun r hr =>
 let ⟨b,a,n,c,a',n',c',h1,_⟩:=h r hr
 ⟨b,a,n,c,a',n',c',⟨(hb.cell (p:=⟨g,r*3,none⟩) hg).trans h1.1,(hb.cell (p:=⟨g,r*3+1,none⟩) hg).trans h1.2.1,(hb.cell (p:=⟨g,r*3+2,none⟩) hg).trans h1.2.2.1,
  (hb.frozen (p:=⟨g,r*3,none⟩) hg).trans h1.2.2.2.1,(hb.frozen (p:=⟨g,r*3+1,none⟩) hg).trans h1.2.2.2.2.1,(hb.frozen (p:=⟨g,r*3+2,none⟩) hg).trans h1.2.2.2.2.2⟩,fun hp => hp.elim⟩

theorem zM.setOne {B N g b o:Nat} {rows cols:Int} (h:zM w B g N u v rows cols) (hne:B≠b) (x:Value):zM (w.setCell ⟨b,o,none⟩ x) B g N u v rows cols :=
 ⟨cP h.1 (.inl hne) _,cP h.2.1 (.inl hne) _,cP h.2.2.1 (.inl hne) _,cP h.2.2.2.1 (.inl hne) _,cP h.2.2.2.2 (.inl hne) _⟩

theorem zM.put3 {B N g b o:Nat} {rows cols:Int} (h:zM w B g N u v rows cols) (hne:B≠b) (x y z:Value):zM (put3 w b o x y z) B g N u v rows cols :=
 ((h.setOne hne x).setOne hne y).setOne hne z

theorem Duo.put3 {B b o:Nat} {x y:Value} (h:Duo w B x y) (hne:B≠b) (x' y' z':Value):Duo (Go.Proofs.YtkjcdnlpjldhaaaGreat.put3 w b o x' y' z') B x y :=
 ⟨zcm h.1 (.inl hne) _ _ _,zcm h.2.1 (.inl hne) _ _ _,zbZ h.2.2.1 _ _ _,zbZ h.2.2.2 _ _ _⟩

theorem zgv {n b o:Nat} (h:Below n w w') (hB:n<=b) (x y z:Value):Below n w (put3 w' b o x y z):=((h.setCell (by exact hB) _).setCell (by exact hB) _).setCell (by exact hB) _

def zcd (W0 ww:World) (g h nB N M cj:Nat) (u:Value) (rows cols:Int) (L:List Int) (s:St):Prop :=
 (Below W0.heap.size W0 ww/\zM ww (g+1) g N u (.slice (some ⟨h,0,none⟩) M cj) rows cols)/\zV ww g N (fun r => (r:Int) ∈ L) (fun r => s.R r)/\zV ww h M (fun _ => True) (fun i => s.J i) /\
  Duo ww nB (.int .i64 s.k) (.int .i64 s.t)/\W0.heap.size<=g/\g+1<h/\h<nB

variable {W0 ww:World} {g h nB N M cj:Nat} {rows cols:Int} {L:List Int} {s:St} {ng:Bool} {a a':Option Addr} {n c n' c' T:Nat}

theorem zcd.to (hr:zcd W0 ww g h nB N M cj u rows cols L s) (hb:Below ww.heap.size ww w'):zcd W0 w' g h nB N M cj u rows cols L s :=
 ⟨⟨bS hr.1.1 hb,hr.1.2.to hb⟩,hr.2.1.to hb,hr.2.2.1.to hb,hr.2.2.2.1.to hb,hr.2.2.2.2⟩

theorem zcd.reg (hr:zcd W0 ww g h nB N M cj u rows cols L s) (hT:T<N) (hk:IsK ww ng (.slice a n c) (.slice a' n' c') q) :
  zcd W0 (put3 ww g (T*3) (.bool ng) (.slice a n c) (.slice a' n' c')) g h nB N M cj u rows cols (L++[(T:Int)]) { s with R:=upd s.R (T:Int) q }:=by
 obtain ⟨⟨h1,h2⟩,h3,h4,h5,h6,h7,h8⟩:=hr
 obtain ⟨b0,a0,n0,c0,a0',n0',c0',o0,_⟩:=h3 T hT
 refine ⟨⟨zgv h1 h6 _ _ _,h2.put3 (by omega) _ _ _⟩,(h3.put hT hk).cast (fun r hr hp => ?_),h4.other (by omega) o0 _ _ _,h5.put3 (by omega) _ _ _,h6,h7,h8⟩
 by_cases e:r=T
 ·subst e
  exact ⟨.inl rfl,by show (if r=r then q else _)=upd s.R (r:Int) q (r:Int);rw [if_pos rfl,zcc]⟩
 ·have hne:(r:Int)≠(T:Int):=by omega
  refine ⟨.inr ?_,by show (if r=T then q else s.R r)=upd s.R (T:Int) q (r:Int);rw [if_neg e,zbG _ _ hne]⟩
  rcases List.mem_append.1 hp with hp|hp
  ·exact hp
  ·exact absurd (List.mem_singleton.1 hp) hne

theorem zcd.tell (hr:zcd W0 ww g h nB N M cj u rows cols L s) (hT:T<M) (hk:IsK ww ng (.slice a n c) (.slice a' n' c') q) :
  zcd W0 (put3 ww h (T*3) (.bool ng) (.slice a n c) (.slice a' n' c')) g h nB N M cj u rows cols L { s with J:=upd s.J (T:Int) q }:=by
 obtain ⟨⟨h1,h2⟩,h3,h4,h5,h6,h7,h8⟩:=hr
 obtain ⟨b0,a0,n0,c0,a0',n0',c0',o0,_⟩:=h4 T hT
 refine ⟨⟨zgv h1 (by omega) _ _ _,h2.put3 (by omega) _ _ _⟩,h3.other (by omega) o0 _ _ _,(h4.put hT hk).cast (fun r hr hp => ?_),h5.put3 (by omega) _ _ _,h6,h7,h8⟩
 by_cases e:r=T
 ·subst e
  exact ⟨.inl rfl,by show (if r=r then q else _)=upd s.J (r:Int) q (r:Int);rw [if_pos rfl,zcc]⟩
 ·have hne:(r:Int)≠(T:Int):=by omega
  exact ⟨.inr trivial,by show (if r=T then q else s.J r)=upd s.J (T:Int) q (r:Int);rw [if_neg e,zbG _ _ hne]⟩

theorem zcd.count (hr:zcd W0 ww g h nB N M cj u rows cols L s) (k:Int):zcd W0 (ww.setCell ⟨nB,0,none⟩ (.int .i64 k)) g h nB N M cj u rows cols L { s with k:=k }:=by
 obtain ⟨⟨h1,h2⟩,h3,h4,h5,h6,h7,h8⟩:=hr
 exact ⟨⟨h1.setCell (show W0.heap.size<=nB by omega) _,h2.setOne (by omega) _⟩,h3.setI (by omega) h5.1 _,h4.setI (by omega) h5.1 _,
  ⟨zh h5.1 _,cP h5.2.1 (.inr (by decide)) _,by simp [go_sem,h5.2.2.1],by simp [go_sem,h5.2.2.2]⟩,h6,h7,h8⟩

theorem zcd.times (hr:zcd W0 ww g h nB N M cj u rows cols L s) (t:Int):zcd W0 (ww.setCell ⟨nB,1,none⟩ (.int .i64 t)) g h nB N M cj u rows cols L { s with t:=t }:=by
 obtain ⟨⟨h1,h2⟩,h3,h4,h5,h6,h7,h8⟩:=hr
 exact ⟨⟨h1.setCell (show W0.heap.size<=nB by omega) _,h2.setOne (by omega) _⟩,h3.setI (by omega) h5.2.1 _,h4.setI (by omega) h5.2.1 _,
  ⟨cP h5.1 (.inr (by decide)) _,zh h5.2.1 _,by simp [go_sem,h5.2.2.1],by simp [go_sem,h5.2.2.2]⟩,h6,h7,h8⟩

theorem zcd.drew (hr:zcd W0 ww g h nB N M cj u rows cols L s):zcd W0 ww.drew g h nB N M cj u rows cols L s:=hr.to (Below.refl _ _).drew

theorem zcd.step {W3:World} {op to:Int} {e:Ending} {p:List Rat} {C:Cd} (x:Ins) (hop:x.op=op) (hto:x.to=to) (hr:zcd W0 W3 g h nB N M cj u rows cols L s) (hok:zp C L x=true) (hreg:C.regs=(N:Int)) (hMM:C.rows*C.cols=(M:Int))
  (hs:∃ T:Nat,to=(T:Int)/\zcQ W3 (if op=10 then h else g) (T*3) (opV p s.R x) e w') :
  e=.returned (.int .i64 0)/\zcd W0 w' g h nB N M cj u rows cols (more L x) { s.next p x with k:=s.k,t:=s.t }/\(∀ B o v,W3.cell? ⟨B,o,none⟩=some v->B≠g->B≠h->w'.cell? ⟨B,o,none⟩=some v)/\W3.heap.size<=w'.heap.size:=by
 subst hop
 obtain ⟨T,rfl,w2,ng,v2,u2,rfl,aZ,hk2,hw⟩:=hs
 have hr2:=hr.to aZ
 obtain ⟨a1,n1,c1,rfl,_,_⟩:=hk2.1.1.open
 obtain ⟨a2,n2,c2,rfl,_,_⟩:=hk2.1.2.1.open
 have hTo:=zag hok
 rw [hto] at hTo
 have key:∀ w5,w5=put3 w2 (if x.op=10 then h else g) (T*3) (.bool ng) (.slice a1 n1 c1) (.slice a2 n2 c2) ->
   zcd W0 w5 g h nB N M cj u rows cols (more L x) { s.next p x with k:=s.k,t:=s.t }/\(∀ B o v,W3.cell? ⟨B,o,none⟩=some v->B≠g->B≠h->w5.cell? ⟨B,o,none⟩=some v)/\W3.heap.size<=w5.heap.size:=by
  intro w5 e5
  have hcell:∀ B o v,W3.cell? ⟨B,o,none⟩=some v->B≠g->B≠h->w5.cell? ⟨B,o,none⟩=some v:=by
   intro B o v hv h1 h2
   rw [e5]
   refine zcm ((aZ.cell (p:=⟨B,o,none⟩) (zm hv)).trans hv) (.inl ?_) _ _ _
   split <;> assumption
  have hsize:W3.heap.size<=w5.heap.size:=by rw [e5];simp;exact aZ.size
  by_cases e10:x.op=10
  ·unfold zD at hTo
   rw [if_pos e10] at e5
   rw [if_pos e10,hMM] at hTo
   have hT:T<M:=by omega
   have hm:more L x=L:=by unfold more;rw [if_pos e10]
   have hn:({ s.next p x with k:=s.k,t:=s.t }:St)={ s with J:=upd s.J (T:Int) (opV p s.R x) }:=by unfold St.next;rw [if_pos e10,hto]
   refine ⟨?_,hcell,hsize⟩
   rw [hm,hn,e5]
   exact hr2.tell hT hk2
  ·unfold zD at hTo
   rw [if_neg e10] at e5
   rw [if_neg e10,hreg] at hTo
   have hT:T<N:=by omega
   have hm:more L x=L++[(T:Int)]:=by unfold more;rw [if_neg e10,hto]
   have hn:({ s.next p x with k:=s.k,t:=s.t }:St)={ s with R:=upd s.R (T:Int) (opV p s.R x) }:=by unfold St.next;rw [if_neg e10,hto]
   refine ⟨?_,hcell,hsize⟩
   rw [hm,hn,e5]
   exact hr2.reg hT hk2
 rcases hw with hw|hw
 ·exact ⟨rfl,key _ hw⟩
 ·have k:=key _ rfl
  rw [hw]
  exact ⟨rfl,k.1.drew,fun B o v hv h1 h2 => k.2.1 B o v hv h1 h2,k.2.2⟩

theorem zdJ {p:List Rat} {x:Ins}:(s.next p x).k=s.k+1/\(s.next p x).t=if x.op=8 then s.t+1 else s.t:=by
 unfold St.next
 by_cases e:x.op=10
 ·rw [if_pos e,if_neg (by omega)]
  exact ⟨rfl,rfl⟩
 ·rw [if_neg e]
  exact ⟨rfl,rfl⟩

theorem next_eq1 {p:List Rat} {x:Ins} {m:Int} (hk:s.k=m) (h8:x.op≠8):({ { s.next p x with k:=s.k,t:=s.t } with k:=m+1 }:St)=s.next p x:=by
 have h:=zdJ (s:=s) (p:=p) (x:=x)
 cases hh:s.next p x with
 | mk R J k t =>
  rw [hh,if_neg h8] at h
  simp only at h
  show St.mk R J (m+1) s.t=St.mk R J k t
  rw [h.1,h.2,hk]

theorem next_eq2 {p:List Rat} {x:Ins} {m tt:Int} (hk:s.k=m) (ht:s.t=tt) (h8:x.op=8):({ { { s.next p x with k:=s.k,t:=s.t } with k:=m+1 } with t:=tt+1 }:St)=s.next p x:=by
 have h:=zdJ (s:=s) (p:=p) (x:=x)
 cases hh:s.next p x with
 | mk R J k t =>
  rw [hh,if_pos h8] at h
  simp only at h
  show St.mk R J (m+1) (tt+1)=St.mk R J k t
  rw [h.1,h.2,hk,ht]

theorem zks {w:World} {g N cap:Nat} {J:Int->Rat} {rows cols:Int} (h:zV w g N (fun _ => True) (fun i => J i)) (hN:rows*cols=(N:Int)) (h1:N<=cap) (h2:cap<=maxLen):RdR w (.slice (some ⟨g,0,none⟩) N cap) (((List.range (rows*cols).toNat).map fun (i:Nat) => J (i:Int)).map zak):=by
 have:=h.rdR (fun _ _ => trivial) h1 h2
 rw [hN,Int.toNat_natCast,List.map_map]
 exact this

end

theorem zmO {p:List Rat} {s:St} {l:List Ins} {k:Nat} (h:k<l.length):runE p s (l.drop k)=if zaK p s.R l[k]≠0 then zaK p s.R l[k] else runE p (s.next p l[k]) (l.drop (k+1)):=by
 rw [List.drop_eq_getElem_cons h];rfl

theorem zmP {p:List Rat} {s:St} {l:List Ins} {k:Nat} (h:k<l.length):zeP p s (l.drop k)=zeP p (s.next p l[k]) (l.drop (k+1)):=by
 rw [List.drop_eq_getElem_cons h];rfl

theorem zkt {S:Nat} {p:List Rat} {s:St} {l:List Ins} {k:Nat} (h:k<l.length) (hf:zdj S p s (l.drop k)) :
  (opE s.R l[k]=0->szq (opV p s.R l[k])<=S/\(l[k].op=7->szq (s.R l[k].a)*l[k].b.natAbs<S))/\(zaK p s.R l[k]=0->zdj S p (s.next p l[k]) (l.drop (k+1))):=by
 rw [List.drop_eq_getElem_cons h] at hf;exact hf

end Go.Proofs.YtkjcdnlpjldhaaaGreat


namespace Go.Proofs.YtkjcdnlpjldhaaaGreat
open Go.RowKit Tw
attribute [local go_sem ↓] Go.wp_at_zero Go.wp_at_succ

theorem zcx {fn:Func} {k j i:Tmp} (h:fn.results=#[.cell k 32,.cell j 34,.tmp i]) (tmps:Array Value) (w:World) (b b':Nat) (x y z p q:Value) (hk:tmps.getD k undef=.pointer (some ⟨b,0,none⟩)) (hj:tmps.getD j undef=.pointer (some ⟨b',0,none⟩))
  (t:Tri w b x y z) (d:Duo w b' p q):(results fn tmps).run Tryz.prog w=.ok (.tuple #[.agg #[x,y,z],.agg #[p,q],tmps.getD i undef]) w:=by
 have hl:(loadVar 32 ⟨b,0,none⟩).run Tryz.prog w=.ok (.agg #[x,y,z]) w:=by simp [go_sem,t.1,t.2.1,t.2.2.1]
 have hd:(loadVar 34 ⟨b',0,none⟩).run Tryz.prog w=.ok (.agg #[p,q]) w:=by simp [go_sem,d.1,d.2.1]
 have hk':tmps[k]?.getD undef=.pointer (some ⟨b,0,none⟩):=by simpa using hk
 have hj':tmps[j]?.getD undef=.pointer (some ⟨b',0,none⟩):=by simpa using hj
 simp [results,h,asAddr,Sem.run_bind,hl,hd,Result.andThen,hk',hj']

theorem zhe {w:World} {b b':Nat} {x0 y0 z0 p0 q0:Value} (t:Tri w b x0 y0 z0) (d:Duo w b' p0 q0) (hne:b≠b') (x y z p q:Value) :
  Tri (set2 (set3 w b x y z) b' p q) b x y z/\Duo (set2 (set3 w b x y z) b' p q) b' p q:=by
 have t1:=t.set x y z
 have d1:Duo (set3 w b x y z) b' p0 q0:=⟨cP (cP (cP d.1 (.inl (Ne.symm hne)) _) (.inl (Ne.symm hne)) _) (.inl (Ne.symm hne)) _,cP (cP (cP d.2.1 (.inl (Ne.symm hne)) _) (.inl (Ne.symm hne)) _) (.inl (Ne.symm hne)) _,
  by simp [go_sem,d.2.2.1],by simp [go_sem,d.2.2.2]⟩
 exact ⟨⟨cP (cP t1.1 (.inl hne) _) (.inl hne) _,cP (cP t1.2.1 (.inl hne) _) (.inl hne) _,cP (cP t1.2.2.1 (.inl hne) _) (.inl hne) _,
  by simp [go_sem,t.2.2.2.1],by simp [go_sem,t.2.2.2.2.1],by simp [go_sem,t.2.2.2.2.2]⟩,d1.set p q⟩

def GivesJ (w:World) (rows cols:Int) (qs:List Rat) (k t:Int) (e:Ending) (w':World):Prop :=
 ∃ a n c,e=.returned (.tuple #[.agg #[.int .i64 rows,.int .i64 cols,.slice a n c],.agg #[.int .i64 k,.int .i64 t],.int .i64 0])/\RdR w' (.slice a n c) (qs.map zak)/\(∀ b o,a=some ⟨b,o,none⟩->w.heap.size<=b)/\Below w.heap.size w w'

def NoJ (w:World) (o:Int) (e:Ending) (w':World):Prop :=
 e=.returned (.tuple #[.agg #[.int .i64 0,.int .i64 0,.slice none 0 0],.agg #[.int .i64 0,.int .i64 0],.int .i64 o])/\Below w.heap.size w w'

def zii (rows cols:Int) (J:Int->Rat):List Rat:=(List.range (rows*cols).toNat).map fun (i:Nat) => J (i:Int)

def zga (w:World) (c:Cd) (p:List Rat) (o:Int) (e:Ending) (w':World):Prop :=
 (o≠0/\NoJ w o e w')\/(o=0/\GivesJ w c.rows c.cols (zii c.rows c.cols (zeP p St.zero c.all).J) (zeP p St.zero c.all).k (zeP p St.zero c.all).t e w')

theorem zkc (c:Cd) (v u:Value) (xs:List Rt) (w:World) (hc:IsC w c v) (hs:zbo 1000 c.all) (hx:RdR w u xs) (h0:zF c=false) :
  Calls Tryz.prog 19 #[aggC c v,u] w (NoJ w 11):=by
 have Hs:=Lib.hid hs
 have Hr0:=Lib.hid h0
 clear hs h0
 obtain ⟨a0,n0,c0,rfl,H0,hm0⟩:=hc.1.open
 obtain ⟨a1,n1,c1,rfl,H1,hm1⟩:=hx.open
 go_enter Tryz.func19,Tryz.ntmps19
 go_wp2_with fail
 obtain ⟨W0,an⟩:∃ W0,((w.alloc (.cells #[.int .i64 c.ins,.int .i64 c.rows,.int .i64 c.cols,.int .i64 c.regs,.slice a0 n0 c0] 24)).alloc (.cells #[.int .i64 0,.int .i64 0,.slice none 0 0] 32)).alloc (.cells #[.int .i64 0,.int .i64 0] 34)=W0:=⟨_,rfl⟩
 have ap:=Lib.hid (show ∀ W',Below W0.heap.size W0 W'->(Bx5 W' w.heap.size (.int .i64 c.ins) (.int .i64 c.rows) (.int .i64 c.cols) (.int .i64 c.regs) (.slice a0 n0 c0)/\Bx3 W' (w.heap.size+1) (.int .i64 0) (.int .i64 0) (.slice none 0 0)/\Bx2 W' (w.heap.size+1+1) (.int .i64 0) (.int .i64 0)) from fun W' hb => by
   refine ⟨bx5 hb ?_ ?_ ?_ ?_ ?_ ?_ ?_ ?_ ?_ ?_,bx3 hb ?_ ?_ ?_ ?_ ?_ ?_,bx2 hb ?_ ?_ ?_ ?_⟩
   all_goals first|assumption|(rw [<- an];simp [go_sem]))
 have zb:Below w.heap.size w W0:=by rw [<- an];exact bS (bS (bN _ _) (bN _ _)) (bN _ _)
 rw [an]
 clear an
 have i0:=hc.to zb
 have i1:=hx.to zb
 have gb:Below W0.heap.size W0 W0:=Below.refl _ _
 obtain ⟨⟨z0,ae,af,ag,az,aA,ah,ak,al,aJ,aK⟩,⟨z1,aB,aD,aE,aG,aH,aI⟩,⟨z2,bu,bv,bV,bW⟩⟩:=ap.out _ gb
 go_wp2_with fail
 refine (zdF c _ _ (i0.to gb) Hs.out false Hr0.out).mono ?_
 clear ae ah af ak ag al az aJ aA aK aB aG aD aH aE aI bu bV bv bW
 rintro e w1 ⟨rfl,be⟩
 replace gb:=bS gb be
 obtain ⟨⟨z0,ae,af,ag,az,aA,ah,ak,al,aJ,aK⟩,⟨z1,aB,aD,aE,aG,aH,aI⟩,⟨z2,bu,bv,bV,bW⟩⟩:=ap.out _ gb
 go_wp2_with fail
 have rt:=zhe ⟨aB,aD,aE,aG,aH,aI⟩ ⟨bu,bv,bV,bW⟩ (show w.heap.size+1≠w.heap.size+1+1 by omega) (.int .i64 0) (.int .i64 0) (.slice none 0 0) (.int .i64 0) (.int .i64 0)
 exact bodyPost_ret (zcx Tryz.results19 _ _ _ _ _ _ _ _ _ rfl rfl rt.1 rt.2) rfl ⟨rfl,bD (bT (bS zb gb) (by omega) _ _ _) (by omega) _ _⟩

theorem ziU (c:Cd) (v u:Value) (xs:List Rt) (w:World) (hc:IsC w c v) (hs:zbo 1000 c.all) (hx:RdR w u xs) (h1:zF c=true) (hl:(xs.length:Int)≠c.ins) :
  Calls Tryz.prog 19 #[aggC c v,u] w (NoJ w 8):=by
 have Hs:=Lib.hid hs
 have Hr0:=Lib.hid h1
 clear hs h1
 obtain ⟨a0,n0,c0,rfl,H0,hm0⟩:=hc.1.open
 obtain ⟨a1,n1,c1,rfl,H1,hm1⟩:=hx.open
 have hl1:(n1:Int)≠c.ins:=by rw [<- H1.out];exact hl
 have t0:((n1:Int) != c.ins)=true:=by simp;exact hl1
 clear hl hl1
 go_enter Tryz.func19,Tryz.ntmps19
 go_wp2_with fail
 obtain ⟨W0,an⟩:∃ W0,((w.alloc (.cells #[.int .i64 c.ins,.int .i64 c.rows,.int .i64 c.cols,.int .i64 c.regs,.slice a0 n0 c0] 24)).alloc (.cells #[.int .i64 0,.int .i64 0,.slice none 0 0] 32)).alloc (.cells #[.int .i64 0,.int .i64 0] 34)=W0:=⟨_,rfl⟩
 have ap:=Lib.hid (show ∀ W',Below W0.heap.size W0 W'->(Bx5 W' w.heap.size (.int .i64 c.ins) (.int .i64 c.rows) (.int .i64 c.cols) (.int .i64 c.regs) (.slice a0 n0 c0)/\Bx3 W' (w.heap.size+1) (.int .i64 0) (.int .i64 0) (.slice none 0 0)/\Bx2 W' (w.heap.size+1+1) (.int .i64 0) (.int .i64 0)) from fun W' hb => by
   refine ⟨bx5 hb ?_ ?_ ?_ ?_ ?_ ?_ ?_ ?_ ?_ ?_,bx3 hb ?_ ?_ ?_ ?_ ?_ ?_,bx2 hb ?_ ?_ ?_ ?_⟩
   all_goals first|assumption|(rw [<- an];simp [go_sem]))
 have zb:Below w.heap.size w W0:=by rw [<- an];exact bS (bS (bN _ _) (bN _ _)) (bN _ _)
 rw [an]
 clear an
 have i0:=hc.to zb
 have i1:=hx.to zb
 have gb:Below W0.heap.size W0 W0:=Below.refl _ _
 obtain ⟨⟨z0,ae,af,ag,az,aA,ah,ak,al,aJ,aK⟩,⟨z1,aB,aD,aE,aG,aH,aI⟩,⟨z2,bu,bv,bV,bW⟩⟩:=ap.out _ gb
 go_wp2_with fail
 refine (zdF c _ _ (i0.to gb) Hs.out true Hr0.out).mono ?_
 clear ae ah af ak ag al az aJ aA aK aB aG aD aH aE aI bu bV bv bW
 rintro e w1 ⟨rfl,be⟩
 replace gb:=bS gb be
 obtain ⟨⟨z0,ae,af,ag,az,aA,ah,ak,al,aJ,aK⟩,⟨z1,aB,aD,aE,aG,aH,aI⟩,⟨z2,bu,bv,bV,bW⟩⟩:=ap.out _ gb
 go_wp2_with fail
 have rt:=zhe ⟨aB,aD,aE,aG,aH,aI⟩ ⟨bu,bv,bV,bW⟩ (show w.heap.size+1≠w.heap.size+1+1 by omega) (.int .i64 0) (.int .i64 0) (.slice none 0 0) (.int .i64 0) (.int .i64 0)
 exact bodyPost_ret (zcx Tryz.results19 _ _ _ _ _ _ _ _ _ rfl rfl rt.1 rt.2) rfl ⟨rfl,bD (bT (bS zb gb) (by omega) _ _ _) (by omega) _ _⟩

theorem vm_run (c:Cd) (v u:Value) (xs:List Rt) (w:World) (hc:IsC w c v) (hs:zbo 1000 c.all) (hx:RdR w u xs) (hxs:∀ x ∈ xs,x.n.length<=1000/\x.d.length<=1000) (h1:zF c=true) (hl:(xs.length:Int)=c.ins) (hf:zdj 1000 (xs.map Rt.num) St.zero c.all) (o:Int) (ho:runE (xs.map Rt.num) St.zero c.all=o) :
  Calls Tryz.prog 19 #[aggC c v,u] w (zga w c (xs.map Rt.num) o):=by
 obtain ⟨ins,rows,cols,regs,all⟩:=c
 have h0:zbX ⟨ins,rows,cols,regs,all⟩=true:=by unfold zF at h1;simp only [Bool.and_eq_true] at h1;exact h1.1
 have ha:zaq ⟨ins,rows,cols,regs,all⟩ [] all=true:=by unfold zF at h1;simp only [Bool.and_eq_true] at h1;exact h1.2
 have hh:=h0
 unfold zbX at hh
 simp only [decide_eq_true_eq] at hh
 obtain ⟨N,rfl⟩:=Int.eq_ofNat_of_zero_le hh.2.2.2.2.2.1
 have hN1:N<=100000:=by omega
 have hin:xs.length<=40:=by have:(xs.length:Int)=ins:=hl;omega
 have hr:1<=rows/\rows<=40:=by omega
 have hcl:1<=cols/\cols<=40:=by omega
 have hlen:all.length<=100000:=hh.2.2.2.2.2.2.2
 have pb:=zae hr hcl
 obtain ⟨M,hM⟩:=Int.eq_ofNat_of_zero_le (show 0<=rows*cols by omega)
 have hM1:1<=M/\M<=1600:=by omega
 have HM:IntKind.i64.wrap (rows*cols)=(M:Int):=by rw [IntWalk.i64_in _ (by omega),hM]
 obtain ⟨a1,n1,c1,rfl,H1,hm1⟩:=hx.open
 obtain rfl:ins=(n1:Int):=by rw [<- H1.out];exact hl.symm
 have hn1:n1<=40:=by have:=H1.out;omega
 have hn1':1<=n1:=by omega
 obtain ⟨a0,n0,c0,rfl,H0,hm0⟩:=hc.1.open
 have hn0:n0<=100000:=by have:all.length=n0:=H0.out;omega
 have Hs:Hid (zbo 1000 all):=hs
 have Hxs:=Lib.hid hxs
 have Ho:Hid (runE (xs.map Rt.num) St.zero all=o):=ho
 have Hf:Hid (zdj 1000 (xs.map Rt.num) St.zero all):=hf
 have Ha:=Lib.hid ha
 have Hrt:=Lib.hid h1
 have HMM:=Lib.hid hM
 clear hs hxs ho hf ha h1 h0 hh hl hM hlen pb
 obtain ⟨CL,hCL⟩:∃ CL,madeCells #[.bool false,.slice none 0 0,.slice none 0 0] (N*3)=CL:=⟨_,rfl⟩
 have hmk:∀ w':World,(Instr.makeSlice 29 (.int .i64 (N:Int)) (.int .i64 (N:Int))).run Tryz.prog w'=.ok (.slice (some ⟨w'.heap.size,0,none⟩) N N) (w'.alloc (.cells CL 47)):=fun w' => by
  obtain ⟨i0,hi0,hz0,hz1,hz2⟩:=info_parts (show (Tryz.prog.info? 47).map (fun i => (i.zero,i.size,i.bytes))=some (some (.agg #[.bool false,.slice none 0 0,.slice none 0 0]),3,56) by kernel_rfl)
  have:=run_make (P:=Tryz.prog) w' 29 47 i0 _ Tryz.underlying29 hi0 hz0 .i64 .i64 (N:Int) (N:Int) (by omega) (Int.le_refl _) (by rw [hz2];omega) (by omega)
  rw [this,hz1,<- hCL,Int.toNat_natCast];rfl
 have HCL:=Lib.hid hCL
 clear hCL
 go_enter Tryz.func19,Tryz.ntmps19
 go_wp2_with fail
 obtain ⟨W0,an⟩:∃ W0,((w.alloc (.cells #[.int .i64 (n1:Int),.int .i64 rows,.int .i64 cols,.int .i64 (N:Int),.slice a0 n0 c0] 24)).alloc (.cells #[.int .i64 0,.int .i64 0,.slice none 0 0] 32)).alloc (.cells #[.int .i64 0,.int .i64 0] 34)=W0:=⟨_,rfl⟩
 have ap:=Lib.hid (show ∀ W',Below W0.heap.size W0 W'->(Bx5 W' w.heap.size (.int .i64 (n1:Int)) (.int .i64 rows) (.int .i64 cols) (.int .i64 (N:Int)) (.slice a0 n0 c0)/\Bx3 W' (w.heap.size+1) (.int .i64 0) (.int .i64 0) (.slice none 0 0)/\Bx2 W' (w.heap.size+1+1) (.int .i64 0) (.int .i64 0)) from fun W' hb => by
   refine ⟨bx5 hb ?_ ?_ ?_ ?_ ?_ ?_ ?_ ?_ ?_ ?_,bx3 hb ?_ ?_ ?_ ?_ ?_ ?_,bx2 hb ?_ ?_ ?_ ?_⟩
   all_goals first|assumption|(rw [<- an];simp [go_sem]))
 have zb:Below w.heap.size w W0:=by rw [<- an];exact bS (bS (bN _ _) (bN _ _)) (bN _ _)
 rw [an]
 clear an
 have i0:=hc.to zb
 have i1:=hx.to zb
 have gb:Below W0.heap.size W0 W0:=Below.refl _ _
 obtain ⟨⟨z0,ae,af,ag,az,aA,ah,ak,al,aJ,aK⟩,⟨z1,aB,aD,aE,aG,aH,aI⟩,⟨z2,bu,bv,bV,bW⟩⟩:=ap.out _ gb
 go_wp2_with fail
 refine (zdF _ _ _ (i0.to gb) Hs.out true Hrt.out).mono ?_
 clear ae ah af ak ag al az aJ aA aK aB aG aD aH aE aI bu bV bv bW
 rintro e w1 ⟨rfl,be⟩
 replace gb:=bS gb be
 obtain ⟨⟨z0,ae,af,ag,az,aA,ah,ak,al,aJ,aK⟩,⟨z1,aB,aD,aE,aG,aH,aI⟩,⟨z2,bu,bv,bV,bW⟩⟩:=ap.out _ gb
 go_wp2_with fail
 have gba:Below W0.heap.size W0 (w1.alloc (.cells CL 47)):=bS gb (bN _ _)
 obtain ⟨⟨az0,ax0_0,ax0_1,ax0_2,ax0_3,ax0_4,ay0_0,ay0_1,ay0_2,ay0_3,ay0_4⟩,⟨az1,ax1_0,ax1_1,ax1_2,ay1_0,ay1_1,ay1_2⟩,⟨az2,ax2_0,ax2_1,ay2_0,ay2_1⟩⟩:=ap.out _ gba
 go_region
 clear gba ax0_0 ay0_0 ax0_1 ay0_1 ax0_2 ay0_2 ax0_3 ay0_3 ax0_4 ay0_4 ax1_0 ay1_0 ax1_1 ay1_1 ax1_2 ay1_2 ax2_0 ay2_0 ax2_1 ay2_1 az0 az1 az2
 obtain ⟨g,hg⟩:∃ g,w1.heap.size=g:=⟨_,rfl⟩
 obtain ⟨W1,aO⟩:∃ W1,((w1.alloc (.cells CL 47)).alloc (.cells #[.slice a1 n1 c1,.slice (some ⟨w1.heap.size,0,none⟩) N N,.int .i64 rows,.int .i64 cols,.slice none 0 0] 77)).drew=W1:=⟨_,rfl⟩
 have hbW:Below w1.heap.size w1 W1:=by rw [<- aO];exact (bS (bN _ _) (bN _ _)).drew
 have hB1:Below (g+1) (w1.alloc (.cells CL 47)) W1:=by
  have:=(bN (w1.alloc (.cells CL 47)) (.cells #[.slice a1 n1 c1,.slice (some ⟨w1.heap.size,0,none⟩) N N,.int .i64 rows,.int .i64 cols,.slice none 0 0] 77)).drew
  rw [aO,show (w1.alloc (.cells CL 47)).heap.size=g+1 by rw [<- hg];simp] at this
  exact this
 have hM0:zM W1 (g+1) g N (.slice a1 n1 c1) (.slice none 0 0) rows cols:=by
  rw [<- aO,<- hg]
  refine ⟨?_,?_,?_,?_,?_⟩ <;> simp [go_sem]
 have hF0:W1.frozen? ⟨g+1,4,none⟩=false:=by rw [<- aO,<- hg];simp [go_sem]
 have hR0:zV W1 g N (fun _ => False) (fun _ => 0):=by
  refine row3_new (t:=47) (cs:=CL) ?_ (fun r hr => by rw [<- HCL.out];exact made3 hr _ _ _) _
  rw [hB1.block g (by omega),<- hg]
  exact heap_alloc_new _ _
 have hgw:W0.heap.size<=g:=by rw [<- hg];exact gb.size
 rw [aO,hg]
 clear aO hB1 hmk
 clear ae ah af ak ag al az aJ aA aK aB aG aD aH aE aI bu bV bv bW
 have gb:=bS gb hbW
 clear hbW hg
 obtain ⟨⟨z0,ae,af,ag,az,aA,ah,ak,al,aJ,aK⟩,⟨z1,aB,aD,aE,aG,aH,aI⟩,⟨z2,bu,bv,bV,bW⟩⟩:=ap.out _ gb
 go_wp2_with fail
 go_loopw [42] (fun i ww => ∃ (k:Nat) (vJ:Value),k<=M/\i=.int .i64 k/\Below (g+1) W1 ww/\zM ww (g+1) g N (.slice a1 n1 c1) vJ rows cols/\ww.frozen? ⟨g+1,4,none⟩=false/\zbt (g+1+1) ww vJ (List.replicate k 0)) (fun i _ => M - (intOf i).toNat)
 case atStart => exact ⟨0,.slice none 0 0,Nat.zero_le _,rfl,Below.refl _ _,hM0,hF0,zbt.nil _ _⟩
 case round =>
  clear ae ah af ak ag al az aJ aA aK aB aG aD aH aE aI bu bV bv bW
  clear hM0 hF0
  obtain ⟨k,vJ,hk,rfl,hbk,hMk,hFk,hOk⟩:=hrel
  have gbw:=gb.trans (hbk.mono (show W0.heap.size<=g+1 by omega))
  obtain ⟨aj,cj,hvj,hvo⟩:=hOk.form
  rw [List.length_replicate] at hvj
  subst hvj
  have hlk:=hMk.lt
  have hne:(Value.slice aj k cj).ownBlock≠some (g+1):=fun e => by have:=(hOk.lt _ e).1;omega
  obtain ⟨⟨z0,ae,af,ag,az,aA,ah,ak,al,aJ,aK⟩,⟨z1,aB,aD,aE,aG,aH,aI⟩,⟨z2,bu,bv,bV,bW⟩⟩:=ap.out _ gbw
  obtain ⟨e0,e1,e2,e3,e4⟩:=hMk
  by_cases hkM:k<M
  ·have hki:(k:Int)<(M:Int):=by omega
   have HMk:=Lib.hid (show zM wr (g+1) g N (.slice a1 n1 c1) (.slice aj k cj) rows cols from ⟨e0,e1,e2,e3,e4⟩)
   obtain ⟨xs9,hxs⟩:=hOk.drew.len
   rw [List.length_replicate] at hxs
   obtain ⟨i0',hi0,hq0,hq1,hq2⟩:=info_parts (show (Tryz.prog.info? 47).map (fun i => (i.zero,i.size,i.bytes))=some (some (.agg #[.bool false,.slice none 0 0,.slice none 0 0]),3,56) by kernel_rfl)
   go_wp2_with fail
   go_region_law (first|(go_simp;go_at_call 38;(with_reducible refine (ziB 0 0 _ rfl (by decide) (by decide)).mono ?_);rintro e w2 ⟨ng2,a2_,n2_,c2_,p2_,m2_,k2_,rfl,g2,aZ⟩;have hM2:=HMk.out.drew.to aZ;obtain ⟨e0,e1,e2,e3,e4⟩:=hM2;have HMa:=Lib.hid (HMk.out.drew.to (bS aZ (bN w2 (.cells #[.bool ng2,.slice a2_ n2_ c2_,.slice p2_ m2_ k2_] 47))));obtain ⟨f0,f1,f2,f3,f4⟩:=HMa.out;have hz2:wr.heap.size<=w2.heap.size:=aZ.size;have hFa:=((bS aZ (bN w2 (.cells #[.bool ng2,.slice a2_ n2_ c2_,.slice p2_ m2_ k2_] 47))).frozen (p:=⟨g+1,4,none⟩) (show g+1<wr.drew.heap.size from hlk)).trans (show wr.drew.frozen? ⟨g+1,4,none⟩=false from hFk))|(refine step_append_lies _ rfl (.tmp 49) (.tmp 51) 29 rfl (g+1+1) 47 i0' (.agg #[.bool false,.slice none 0 0,.slice none 0 0]) 3 56 Tryz.underlying29 hi0 hq0 hq1 hq2 (by rfl) (by decide) (.slice aj k cj) k xs9 rfl (zbQ (zbQ hxs aZ) (bN _ _)) ⟨w2.heap.size,0,none⟩ 1 1 _ rfl rfl zmB push_one (by decide) (by simp [maxLen];omega) (by omega) (by simp;omega) _ rfl ?_;intro g4 cj4 w4 hown4 hgrow4 hat4 hlt4;have hF4:=(hgrow4.frozen_far ⟨g+1,4,none⟩ (show g+1<_ from HMa.out.lt) (fun e => hne e.symm)).trans hFa;have HM4:=Lib.hid (HMa.out.grown hgrow4 hne);obtain ⟨e0,e1,e2,e3,e4⟩:=HM4.out))
   all_goals
    have hp:=zmA (List.length_replicate ..) hOk.drew hxs aZ g2 (show g+1+1<=wr.heap.size by omega) hown4 hgrow4 hat4
    have hne4:(Value.slice (some ⟨g4,0,none⟩) (k+1) cj4).ownBlock≠some (g+1):=fun e => by have:=(World.ownsRow.lt hown4 _ e).1;omega
    have hO5:=hp.1.setB hne4 HM4.out.2.2.2.2 (.slice (some ⟨g4,0,none⟩) (k+1) cj4)
    have cU:Below (g+1) W1 (w4.setCell ⟨g+1,4,none⟩ (.slice (some ⟨g4,0,none⟩) (k+1) cj4)):=(hbk.drew.trans (hp.2.mono (by omega))).setCell (Nat.le_refl _) _
    have hM5:=HM4.out.setJ (.slice (some ⟨g4,0,none⟩) (k+1) cj4)
    have hF5:(w4.setCell ⟨g+1,4,none⟩ (.slice (some ⟨g4,0,none⟩) (k+1) cj4)).frozen? ⟨g+1,4,none⟩=false:=by simp [go_sem,hF4]
    have hO6:zbt (g+1+1) (w4.setCell ⟨g+1,4,none⟩ (.slice (some ⟨g4,0,none⟩) (k+1) cj4)) (.slice (some ⟨g4,0,none⟩) (k+1) cj4) (List.replicate (k+1) 0):=by rw [List.replicate_succ'];exact hO5
    clear e0 e1 e2 e3 e4 f0 f1 f2 f3 f4
    clear ae ah af ak ag al az aJ aA aK aB aG aD aH aE aI bu bV bv bW
    obtain ⟨w5,hw5⟩:∃ w5,w4.setCell ⟨g+1,4,none⟩ (.slice (some ⟨g4,0,none⟩) (k+1) cj4)=w5:=⟨_,rfl⟩
    rw [hw5] at cU hM5 hF5 hO6
    rw [hw5]
    clear hw5 hO5 hp hF4 hFa
    go_wp2_with fail
    go_roundw
    case rel => exact ⟨k+1,_,by omega,by go_num,cU,hM5,hF5,hO6⟩
    case measure => simp [intOf] <;> omega
  ·obtain rfl:k=M:=by omega
   have hki:¬ ((k:Int)<(k:Int)):=by omega
   obtain ⟨h,rfl,hgh,hhs⟩:=hvo (by rw [List.length_replicate];omega)
   obtain ⟨nB,hnB⟩:∃ nB,wr.heap.size=nB:=⟨_,rfl⟩
   have hrow:zV wr g N (fun r => (r:Int) ∈ ([]:List Int)) (fun r => St.zero.R r):=(hR0.low (R':=fun r => St.zero.R r) hbk (by omega)).cast (fun r hr hp => by cases hp)
   have hOl:(List.replicate k (0:Rat)).length=k:=List.length_replicate
   have hrowJ:zV wr h k (fun _ => True) (fun i => St.zero.J i):=by
    have hO':zbt (g+1+1) wr (.slice (some ⟨h,0,none⟩) (List.replicate k (0:Rat)).length cj) (List.replicate k 0):=by rw [hOl];exact hOk
    have:=hO'.row3
    rw [hOl] at this
    exact this.cast (fun r hr _ => ⟨trivial,by simp [hr,St.zero]⟩)
   have hcjm:k<=cj/\cj<=maxLen:=by
    obtain ⟨xs9,h9,_⟩:=hOk
    rcases h9.2 with ⟨h9,_⟩|⟨_,_,_,h9,_,_,q1,q2,_⟩
    ·cases h9
    ·injection h9 with q3 q4 q5
     subst q5
     rw [hOl] at q1
     exact ⟨q1,q2⟩
   have hMW:zM wr (g+1) g N (.slice a1 n1 c1) (.slice (some ⟨h,0,none⟩) k cj) rows cols:=⟨e0,e1,e2,e3,e4⟩
   have hn2:Below wr.heap.size wr (wr.alloc (.cells #[.int .i64 0,.int .i64 0] 34)):=bN _ _
   have REL0:zcd W0 (wr.alloc (.cells #[.int .i64 0,.int .i64 0] 34)) g h nB N k cj (.slice a1 n1 c1) rows cols [] St.zero :=
    ⟨⟨bS gbw hn2,hMW.to hn2⟩,hrow.to hn2,hrowJ.to hn2,by rw [<- hnB];exact zay _ _ _ _,hgw,by omega,by omega⟩
   have HnB:=Lib.hid hnB
   clear hvo hrow hrowJ hMW hR0 hFk hne hbk hki hnB
   go_wp2_with fail
   obtain ⟨W2,dp⟩:∃ W2,wr.alloc (.cells #[.int .i64 0,.int .i64 0] 34)=W2:=⟨_,rfl⟩
   rw [dp] at REL0 hn2
   rw [HnB.out,dp]
   clear dp e0 e1 e2 e3 e4
   go_loopw [61] (fun i ww => ∃ (m:Nat) (L:List Int) (s:St),m<=n0/\i=.int .i64 m/\zcd W0 ww g h nB N k cj (.slice a1 n1 c1) rows cols L s/\Hid (zaq ⟨(n1:Int),rows,cols,(N:Int),all⟩ L (all.drop m)=true)/\Hid (runE (xs.map Rt.num) s (all.drop m)=o) /\
     Hid (zeP (xs.map Rt.num) s (all.drop m)=zeP (xs.map Rt.num) St.zero all)/\Hid (zdj 1000 (xs.map Rt.num) s (all.drop m))/\Hid (∀ x ∈ L,0<=x/\x<(N:Int))/\Hid (0<=s.t/\s.t<=(m:Int)/\s.k=(m:Int))) (fun i _ => n0 - (intOf i).toNat)
   case atStart => exact ⟨0,[],St.zero,Nat.zero_le _,rfl,REL0,by rw [List.drop_zero];exact Ha.out,by rw [List.drop_zero];exact Ho.out,by rw [List.drop_zero];rfl,by rw [List.drop_zero];exact Hf.out,fun x hx => (by cases hx),⟨by decide,by decide,rfl⟩⟩
   case round =>
    clear ae ah af ak ag al az aJ aA aK aB aG aD aH aE aI bu bV bv bW
    clear REL0 hn2 gbw
    obtain ⟨m,L,s,hm,rfl,REL,HA,HE,HS,HF,HL,HT⟩:=hrel
    have gbw:=REL.1.1
    obtain ⟨⟨z0,ae,af,ag,az,aA,ah,ak,al,aJ,aK⟩,⟨z1,aB,aD,aE,aG,aH,aI⟩,⟨z2,bu,bv,bV,bW⟩⟩:=ap.out _ gbw
    by_cases hmn:m<n0
    ·have hmi:(m:Int)<(n0:Int):=by omega
     have hml:m<all.length:=by have:all.length=n0:=H0.out;omega
     obtain ⟨b,off,rfl,h7⟩:=(i0.to gbw).1.nth hml
     have HA1:=HA.out
     rw [zed hml] at HA1
     have HE1:=HE.out
     rw [zmO hml] at HE1
     have HS1:=HS.out
     rw [zmP hml] at HS1
     have HF1:=zkt hml HF.out
     have hsx:=Hs.out _ (List.getElem_mem hml)
     simp only at h7
     obtain ⟨x,hx9⟩:∃ x,all[m]=x:=⟨_,rfl⟩
     rw [hx9] at HA1 HE1 HS1 HF1 hsx h7
     obtain ⟨hok,hA1⟩:=(Bool.and_eq_true _ _).mp HA1
     obtain ⟨vn,vd,s0,s1,s2,s3,s4,s5,s6,hX⟩:=h7.isX hsx.1 hsx.2
     obtain ⟨a5,n5,c5,rfl,H5,hm5⟩:=hX.1.1.open
     obtain ⟨a6,n6,c6,rfl,H6,hm6⟩:=hX.1.2.1.open
     have HX1:=Lib.hid hX
     have Hok:=Lib.hid hok
     have HA2:=Lib.hid hA1
     have HE2:=Lib.hid HE1
     have HS2:=Lib.hid HS1
     have HF2:=Lib.hid HF1
     have HREL:=Lib.hid REL
     clear HA HA1 HE HE1 HS HS1 HF HF1 hok hA1 h7 hsx hx9 hX REL
     go_wp2_with fail
     clear s0 s1 s2 s3 s4 s5 s6
     obtain ⟨W3,eJ⟩:∃ W3,wr.alloc (.cells #[.int .i64 x.op,.int .i64 x.to,.int .i64 x.a,.int .i64 x.b,.bool x.q.ng,.slice a5 n5 c5,.slice a6 n6 c6] 49)=W3:=⟨_,rfl⟩
     obtain ⟨xB,hxB⟩:∃ xB,wr.heap.size=xB:=⟨_,rfl⟩
     have cl:Below wr.heap.size wr W3:=by rw [<- eJ];exact bN _ _
     have hq0:W3.cell? ⟨xB,0,none⟩=some (.int .i64 x.op):=by rw [<- eJ,<- hxB];simp [go_sem]
     have hbn:nB<xB:=by rw [<- hxB];exact HREL.out.2.2.2.1.lt
     have hsz:xB<W3.heap.size:=by rw [<- eJ,<- hxB];simp
     rw [eJ,hxB]
     clear eJ
     clear ae ah af ak ag al az aJ aA aK aB aG aD aH aE aI bu bV bv bW
     have gb3:=bS gbw cl
     clear hxB
     obtain ⟨z,hz9⟩:∃ z,zaK (xs.map Rt.num) s.R x=z:=⟨_,rfl⟩
     have hrl:=HREL.out.2.2.2.2
     have hhg:h≠g:=by omega
     refine (vm_step ⟨(n1:Int),rows,cols,(N:Int),all⟩ L s.R s.J x.op x.to x.a x.b x.q.ng _ _ x.q.n x.q.d (g+1) g N h k cj n1 c1 a1 rows cols xs W3 (HX1.out.to cl) Hok.out HL.out rfl rfl HMM.out (HREL.out.to cl).1.2 hN1 (by omega) (HREL.out.to cl).2.1 (HREL.out.to cl).2.2.1 hhg (by omega) ((i1.to gbw).to cl) H1.out hm1 Hxs.out HF2.out.1).mono ?_
     intro e w6 hpost0
     have hpost:zaG W3 g h x.op x.to z (opV (xs.map Rt.num) s.R x) e w6:=by rw [<- hz9];exact hpost0
     clear hpost0
     rcases hpost with ⟨hz0,rfl,dF⟩|⟨hz0,hT6⟩
     ·have gb6:=bS gb3 dF
      have t:(z != 0)=true:=by simp;exact hz0
      have HE3:=HE2.out
      rw [hz9,if_pos hz0] at HE3
      have Hz9:=Lib.hid hz0
      clear hz9 hz0
      obtain ⟨⟨z0,ae,af,ag,az,aA,ah,ak,al,aJ,aK⟩,⟨z1,aB,aD,aE,aG,aH,aI⟩,⟨z2,bu,bv,bV,bW⟩⟩:=ap.out _ gb6
      subst HE3
      go_wp2_with fail
      have gb:=gb6
      have rt:=zhe ⟨aB,aD,aE,aG,aH,aI⟩ ⟨bu,bv,bV,bW⟩ (show w.heap.size+1≠w.heap.size+1+1 by omega) (.int .i64 0) (.int .i64 0) (.slice none 0 0) (.int .i64 0) (.int .i64 0)
      exact bodyPost_ret (zcx Tryz.results19 _ _ _ _ _ _ _ _ _ rfl rfl rt.1 rt.2) rfl (.inl ⟨Hz9.out,⟨rfl,bD (bT (bS zb gb) (by omega) _ _ _) (by omega) _ _⟩⟩)
     ·obtain ⟨rfl,REL6,hcells,hsize⟩:=zcd.step x rfl rfl (HREL.out.to cl) Hok.out (C:=⟨(n1:Int),rows,cols,(N:Int),all⟩) rfl HMM.out hT6
      have gb6:=REL6.1.1
      have hk9:s.k=(m:Int):=HT.out.2.2
      obtain ⟨tt,htt⟩:∃ tt,s.t=tt:=⟨_,rfl⟩
      have hD:Duo w6 nB (.int .i64 (m:Int)) (.int .i64 tt):=by rw [<- hk9,<- htt];exact REL6.2.2.2.1
      have hq6:=hcells xB 0 _ hq0 (by omega) (by omega)
      have htb:=HT.out.1
      have htc:=HT.out.2.1
      rw [htt] at htb htc
      have hne1:nB≠xB:=by omega
      have hne2:xB≠nB:=by omega
      obtain ⟨d0,d1,d2,d3⟩:=hD
      have HREL6:=Lib.hid REL6
      have hA2:=HA2.out
      have hz1:zaK (xs.map Rt.num) s.R x=0:=by rw [hz9];exact hz0
      have HE3:Hid (runE (xs.map Rt.num) (s.next (xs.map Rt.num) x) (all.drop (m+1))=o):=by have:=HE2.out;rw [if_neg (by rw [hz1];decide)] at this;exact this
      have HF3:Hid (zdj 1000 (xs.map Rt.num) (s.next (xs.map Rt.num) x) (all.drop (m+1))):=HF2.out.2 hz1
      have HL3:Hid (∀ y ∈ more L x,0<=y/\y<(N:Int)):=zls (c:=⟨(n1:Int),rows,cols,(N:Int),all⟩) HL.out Hok.out
      have HA3:=Lib.hid hA2
      have Hk9:=Lib.hid hk9
      have Htt:=Lib.hid htt
      have hsum:IntKind.i64.wrap (tt+1)=tt+1:=IntWalk.i64_in _ (by omega)
      clear REL6 hcells hT6 hz9 hz0 hz1 hA2 hk9 htt hq0
      by_cases h8:x.op=8
      ·have t:(x.op == 8)=true:=by simp;exact h8
       have H8:=Lib.hid h8
       have HT3:Hid (0<=(s.next (xs.map Rt.num) x).t/\(s.next (xs.map Rt.num) x).t<=((m+1:Nat):Int)/\(s.next (xs.map Rt.num) x).k=((m+1:Nat):Int)):=by
        show _/\_/\_
        rw [zdJ.1,zdJ.2,if_pos h8,Hk9.out,Htt.out];omega
       clear h8
       go_wp2_with fail
       go_roundw
       case rel => exact ⟨m+1,more L x,s.next (xs.map Rt.num) x,by omega,by go_num,by rw [<- next_eq2 (p:=xs.map Rt.num) Hk9.out Htt.out H8.out];exact (HREL6.out.count ((m:Int)+1)).times (tt+1),HA3,HE3,HS2,HF3,HL3,HT3⟩
       case measure => simp [intOf] <;> omega
      ·have t:(x.op == 8)=false:=by simp;exact h8
       have H8:=Lib.hid h8
       have HT3:Hid (0<=(s.next (xs.map Rt.num) x).t/\(s.next (xs.map Rt.num) x).t<=((m+1:Nat):Int)/\(s.next (xs.map Rt.num) x).k=((m+1:Nat):Int)):=by
        show _/\_/\_
        rw [zdJ.1,zdJ.2,if_neg h8,Hk9.out,Htt.out];omega
       clear h8
       go_wp2_with fail
       go_roundw
       case rel => exact ⟨m+1,more L x,s.next (xs.map Rt.num) x,by omega,by go_num,by rw [<- next_eq1 (p:=xs.map Rt.num) Hk9.out H8.out];exact HREL6.out.count ((m:Int)+1),HA3,HE3,HS2,HF3,HL3,HT3⟩
       case measure => simp [intOf] <;> omega
    ·obtain rfl:m=n0:=by omega
     have ho:0=o:=by
      have:=HE.out
      rw [<- show all.length=m from H0.out,List.drop_length] at this
      exact this
     subst ho
     have hS:s=zeP (xs.map Rt.num) St.zero all:=by
      have:=HS.out
      rw [<- show all.length=m from H0.out,List.drop_length] at this
      exact this
     have HREL:=Lib.hid REL
     have HSS:=Lib.hid hS
     obtain ⟨⟨_,e0,e1,e2,e3,e4⟩,_,_,⟨d0,d1,d2,d3⟩,_⟩:=REL
     obtain ⟨sk,hsk⟩:∃ z,s.k=z:=⟨_,rfl⟩
     obtain ⟨st,hst⟩:∃ z,s.t=z:=⟨_,rfl⟩
     rw [hsk] at d0
     rw [hst] at d1
     have Hsk:=Lib.hid hsk
     have Hst:=Lib.hid hst
     clear hS hsk hst
     go_wp2_with fail
     go_region
     have HR9:=Lib.hid (show zga w ⟨(n1:Int),rows,cols,(N:Int),all⟩ (xs.map Rt.num) 0 (.returned (.tuple #[.agg #[.int .i64 rows,.int .i64 cols,.slice (some ⟨h,0,none⟩) k cj],.agg #[.int .i64 sk,.int .i64 st],.int .i64 0]))
       (set2 (set3 wr (w.heap.size+1) (.int .i64 rows) (.int .i64 cols) (.slice (some ⟨h,0,none⟩) k cj)) (w.heap.size+1+1) (.int .i64 sk) (.int .i64 st)).drew from by
      refine .inr ⟨rfl,_,_,_,by rw [<- Hsk.out,<- Hst.out,HSS.out],?_,(fun b o e => by have hrl:=HREL.out.2.2.2.2;have hz:=zb.size;injection e with e;injection e with e1 e2;omega),(bD (bT (bS zb gbw) (by omega) _ _ _) (by omega) _ _).drew⟩
      have hrl:=HREL.out.2.2.2.2
      have r1:=HREL.out.2.2.1
      have r2:=(((r1.setP (B:=w.heap.size+1) (by omega) aB (fun z e => by cases e) (.int .i64 rows)).setP (B:=w.heap.size+1) (by omega) (cP aD (.inr (by decide)) _) (fun z e => by cases e) (.int .i64 cols)).setP (B:=w.heap.size+1) (by omega) (cP (cP aE (.inr (by decide)) _) (.inr (by decide)) _) (fun z e => by cases e) (.slice (some ⟨h,0,none⟩) k cj))
      have r3:=((r2.setP (B:=w.heap.size+1+1) (by omega) (cP (cP (cP bu (.inl (by omega)) _) (.inl (by omega)) _) (.inl (by omega)) _) (fun z e => by cases e) (.int .i64 sk)).setP (B:=w.heap.size+1+1) (by omega) (cP (cP (cP (cP bv (.inl (by omega)) _) (.inl (by omega)) _) (.inl (by omega)) _) (.inr (by decide)) _) (fun z e => by cases e) (.int .i64 st))
      have r4:=zks (r3.to (Below.refl _ _).drew) HMM.out hcjm.1 hcjm.2
      have e9:(zeP (xs.map Rt.num) St.zero all).J=s.J:=by rw [<- HSS.out]
      show RdR _ _ ((zii rows cols (zeP (xs.map Rt.num) St.zero all).J).map zak)
      rw [e9]
      exact r4)
     have rt:=zhe ⟨aB,aD,aE,aG,aH,aI⟩ ⟨bu,bv,bV,bW⟩ (show w.heap.size+1≠w.heap.size+1+1 by omega) (.int .i64 rows) (.int .i64 cols) (.slice (some ⟨h,0,none⟩) k cj) (.int .i64 sk) (.int .i64 st)
     go_wp2_with fail
     exact bodyPost_ret (zcx Tryz.results19 _ _ _ _ _ _ _ _ _ rfl rfl (rt.1.drew) (rt.2.drew)) rfl HR9.out

end Go.Proofs.YtkjcdnlpjldhaaaGreat


namespace Go.Proofs.YtkjcdnlpjldhaaaGreat
open Go.RowKit Tw

def RunJ (w:World) (rows cols:Int) (qs:List Rat) (k t o:Int) (e:Ending) (w':World):Prop :=
 ∃ a n c,e=.returned (.tuple #[.agg #[.int .i64 rows,.int .i64 cols,.slice a n c],.agg #[.int .i64 k,.int .i64 t],.int .i64 o])/\RdR w' (.slice a n c) (qs.map zak)/\(∀ b o,a=some ⟨b,o,none⟩->w.heap.size<=b)/\Below w.heap.size w w'

def runO (c:Cd) (p:List Rat) (n:Nat):Int:=if zF c=false then 11 else if (n:Int)≠c.ins then 8 else runE p St.zero c.all

def jRows (c:Cd) (o:Int):Int:=if o=0 then c.rows else 0

def jCols (c:Cd) (o:Int):Int:=if o=0 then c.cols else 0

def jAll (c:Cd) (p:List Rat) (o:Int):List Rat:=if o=0 then zii c.rows c.cols (zeP p St.zero c.all).J else []

def jK (c:Cd) (p:List Rat) (o:Int):Int:=if o=0 then (zeP p St.zero c.all).k else 0

def jT (c:Cd) (p:List Rat) (o:Int):Int:=if o=0 then (zeP p St.zero c.all).t else 0

abbrev zjb (w:World) (c:Cd) (p:List Rat) (o:Int):=RunJ w (jRows c o) (jCols c o) (jAll c p o) (jK c p o) (jT c p o) o

theorem RdR.nil (w:World):RdR w (.slice none 0 0) []:=⟨none,0,rfl,Nat.le_refl _,Nat.zero_le _,fun i h => absurd h (by simp)⟩

theorem NoJ.runOf {w:World} {c:Cd} {p:List Rat} {o:Int} {e:Ending} {w':World} (h:NoJ w o e w') (ho:o≠0):zjb w c p o e w':=by
 unfold zjb jRows jCols jAll jK jT
 rw [if_neg ho,if_neg ho,if_neg ho,if_neg ho,if_neg ho]
 exact ⟨none,0,0,h.1,RdR.nil _,(fun b o e => (by cases e)),h.2⟩

theorem zga.runOf {w:World} {c:Cd} {p:List Rat} {o:Int} {e:Ending} {w':World} (h:zga w c p o e w'):zjb w c p o e w':=by
 rcases h with ⟨ho,h⟩|⟨rfl,h⟩
 ·exact h.runOf ho
 ·obtain ⟨a,n,c',h1,h2,h3,h4⟩:=h
  exact ⟨a,n,c',h1,h2,h3,h4⟩

theorem vm_runJ (c:Cd) (v u:Value) (xs:List Rt) (w:World) (hc:IsC w c v) (hs:zbo 1000 c.all) (hx:RdR w u xs)
  (hf:zF c=true->(xs.length:Int)=c.ins->(∀ x ∈ xs,x.n.length<=1000/\x.d.length<=1000)/\zdj 1000 (xs.map Rt.num) St.zero c.all) (o:Int) (ho:runO c (xs.map Rt.num) xs.length=o) :
  Calls Tryz.prog 19 #[aggC c v,u] w (zjb w c (xs.map Rt.num) o):=by
 unfold runO at ho
 cases h0:zF c with
 | false =>
  rw [if_pos h0] at ho
  subst ho
  exact (zkc c v u xs w hc hs hx h0).mono fun e w' h => h.runOf (by decide)
 | true =>
  rw [if_neg (by rw [h0];decide)] at ho
  by_cases hl:(xs.length:Int)=c.ins
  ·rw [if_neg (fun k => k hl)] at ho
   have:=hf h0 hl
   exact (vm_run c v u xs w hc hs hx this.1 h0 hl this.2 o ho).mono fun e w' h => h.runOf
  ·rw [if_pos hl] at ho
   subst ho
   exact (ziU c v u xs w hc hs hx h0 hl).mono fun e w' h => h.runOf (by decide)

theorem RdR.setP {w:World} {a:Option Addr} {n c:Nat} {l:List Rt} (h:RdR w (.slice a n c) l) {B p:Nat} (hne:∀ b o,a=some ⟨b,o,none⟩->b≠B) {c0:Value} (hc:w.cell? ⟨B,p,none⟩=some c0) (hn:∀ z,c0≠.int .u32 z) (x:Value):RdR (w.setCell ⟨B,p,none⟩ x) (.slice a n c) l:=by
 obtain ⟨a',cap,hv,h1,h2,h3⟩:=h
 injection hv with e1 e2 e3
 subst e1 e3
 refine ⟨a,c,by rw [e2],h1,h2,fun i hi => ?_⟩
 obtain ⟨b,off,e,vn,vd,s0,s1,s2,k1,k2⟩:=h3 i hi
 have hb:=hne b off e
 exact ⟨b,off,e,vn,vd,cP s0 (.inl hb) _,cP s1 (.inl hb) _,cP s2 (.inl hb) _,k1.put hc hn x,k2.put hc hn x⟩

section

variable {W w2:World} {BJ BK:Nat} {a:Option Addr} {n c:Nat} {rows cols k t:Int} {qs:List Rat} {lo hi:Nat} {tj tk:TypeId}

end

theorem RdR.hi {w:World} {a:Option Addr} {n c:Nat} {l:List Rt} (h:RdR w (.slice a n c) l):∀ b o,a=some ⟨b,o,none⟩->0<n->b<w.heap.size:=fun b o e hn => by
 obtain ⟨a',cap,hv,q1,q2,q3⟩:=h
 injection hv with e1 e2 e3
 obtain ⟨b',off,e',k⟩:=q3 0 (by omega)
 rw [<- e1,e] at e'
 injection e' with e'
 injection e' with e' _
 obtain ⟨_,_,s0,_⟩:=k
 have:=zm s0
 omega

theorem lit_rdR {w:World} {B:Nat} {ng:Bool} {v u:Value} {q:Rat} (h:Tri w B (.bool ng) v u) (hk:IsK w ng v u q):RdR w (.slice (some ⟨B,0,none⟩) 1 1) [zak q]:=by
 refine ⟨_,1,rfl,Nat.le_refl _,by decide,fun i hi => ?_⟩
 have:i=0:=by simp at hi;exact hi
 subst this
 refine ⟨B,0,rfl,v,u,?_,h.2.1,h.2.2.1,hk.1.1,hk.1.2.1⟩
 rw [show ([zak q][0]).ng=ng from hk.2]
 exact h.1

end Go.Proofs.YtkjcdnlpjldhaaaGreat


namespace Go.Proofs.YtkjcdnlpjldhaaaGreat
open Go.RowKit Tw

end Go.Proofs.YtkjcdnlpjldhaaaGreat

