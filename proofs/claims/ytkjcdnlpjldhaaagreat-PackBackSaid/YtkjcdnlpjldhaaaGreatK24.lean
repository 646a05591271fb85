/-
  The texts PackBy, PackRefC, PackRefN, merged.
-/
import Derived.Test.YtkjcdnlpjldhaaaGreatK05
import Derived.Test.YtkjcdnlpjldhaaaGreatK18
import Derived.BigQuiet
import Derived.RegionTactic
import Derived.Lib.Hide
import Derived.Test.YtkjcdnlpjldhaaaGreatK21
set_option linter.unusedVariables false
set_option linter.unusedSimpArgs false
set_option maxRecDepth 100000
set_option maxHeartbeats 400000000
namespace Go.Proofs.YtkjcdnlpjldhaaaGreat
open Go.RowKit Tw

def RX (N R:Nat) (w:World) (b:List Nat) (k:Nat) (bad:Bool):Prop :=
 ∃ a m c,w.cell? ⟨R,0,none⟩=some (.slice a m c)/\w.cell? ⟨R,1,none⟩=some (.int .i64 (k:Int))/\w.cell? ⟨R,2,none⟩=some (.bool bad)/\w.frozen? ⟨R,1,none⟩=false/\w.frozen? ⟨R,2,none⟩=false /\
  RdB w (.slice a m c) b/\FarB (.slice a m c) R/\R<N/\N<=w.heap.size/\(∀ p,a=some p->0<m->p.block<N)/\k<=b.length/\b.length<=4000

section

variable {w w':World} {N R k:Nat} {b:List Nat} {bad:Bool}

theorem RX.toN (h:RX N R w b k bad) (hb:Below N w w'):RX N R w' b k bad:=by
 obtain ⟨a,m,c,h0,h1,h2,f1,f2,hB,hF,hR,hN,hl,hk,hbl⟩:=h
 exact ⟨a,m,c,(hb.cell (p:=⟨R,0,none⟩) hR).trans h0,(hb.cell (p:=⟨R,1,none⟩) hR).trans h1,(hb.cell (p:=⟨R,2,none⟩) hR).trans h2,(hb.frozen (p:=⟨R,1,none⟩) hR).trans f1,(hb.frozen (p:=⟨R,2,none⟩) hR).trans f2,hB.toN hb hl,hF,hR,Nat.le_trans hN hb.size,hl,hk,hbl⟩

theorem RX.to (h:RX N R w b k bad) (hb:Below w.heap.size w w'):RX N R w' b k bad:=by
 have h4:N<=w.heap.size:=by obtain ⟨_,_,_,_,_,_,_,_,_,_,_,h4,_⟩:=h;exact h4
 exact h.toN (hb.mono h4)

theorem RX.pos (h:RX N R w b k bad):k<=b.length/\b.length<=4000:=by
 obtain ⟨_,_,_,_,_,_,_,_,_,_,_,_,_,hk,hbl⟩:=h
 exact ⟨hk,hbl⟩

theorem RX.set2 (h:RX N R w b k bad) (z:Bool):RX N R (w.setCell ⟨R,2,none⟩ (.bool z)) b k z:=by
 obtain ⟨a,m,c,h0,h1,h2,f1,f2,hB,hF,hR,hN,hl,hk,hbl⟩:=h
 exact ⟨a,m,c,zcR h0 (.inr (by decide)) _,zcR h1 (.inr (by decide)) _,zcZ h2 _,by simpa using f1,by simpa using f2,hB.grown (zH (o:=2) (x:=.bool z) (World.grownBy.refl w (some R))) (fun q e => by cases e;exact hF),hF,hR,by simpa using hN,hl,hk,hbl⟩

theorem RX.set1 (h:RX N R w b k bad) {j:Nat} (hj:j<=b.length):RX N R (w.setCell ⟨R,1,none⟩ (.int .i64 (j:Int))) b j bad:=by
 obtain ⟨a,m,c,h0,h1,h2,f1,f2,hB,hF,hR,hN,hl,hk,hbl⟩:=h
 exact ⟨a,m,c,zcR h0 (.inr (by decide)) _,zcZ h1 _,zcR h2 (.inr (by decide)) _,by simpa using f1,by simpa using f2,hB.grown (zH (o:=1) (x:=.int .i64 (j:Int)) (World.grownBy.refl w (some R))) (fun q e => by cases e;exact hF),hF,hR,by simpa using hN,hl,hj,hbl⟩

theorem RX.drew (h:RX N R w b k bad):RX N R w.drew b k bad:=h.to (Below.refl _ _).drew

end

theorem zeb (N R:Nat) (b:List Nat) (bad:Bool) (w:World) (h:RX N R w b b.length bad) :
  Calls Tryz.prog 82 #[.pointer (some ⟨R,0,none⟩)] w (fun e w' => e=.returned (.int .i64 0)/\RX N R w' b b.length true/\w.grownBy w' (some R)):=by
 have H:=Lib.hid h
 obtain ⟨a,m,c,h0,h1,h2,f1,f2,hB,hF,hR,hN,hl,hk,hbl⟩:=h
 obtain ⟨a',m',c',e,Hm,hmc,hcm⟩:=hB.open
 injection e with e1 e2 e3
 subst e1 e2 e3
 obtain ⟨k,hkk⟩:∃ k,b.length=k:=⟨_,rfl⟩
 rw [hkk] at h1 H
 have hb:=hkk
 have hm:=Hm.out
 obtain rfl:k=m:=by omega
 have hb:=Lib.hid hb
 clear hk hbl hB hF hm hkk
 have hge:(k:Int)<=(k:Int):=Int.le_refl _
 go_enter Tryz.func82,Tryz.ntmps82
 go_wp2_with fail
 go_quiet (fail)
 go_wp2_with fail
 go_ret
 rw [hb.out]
 exact ⟨rfl,(H.out.to (below_drewN (Below.refl _ _) nq)).set2 true,zH (zW (below_drewN (Below.refl _ _) nq) _)⟩

theorem zec (N R:Nat) (b:List Nat) (k x:Nat) (bad:Bool) (w:World) (h:RX N R w b k bad) (hx:b[k]?=some x) :
  Calls Tryz.prog 82 #[.pointer (some ⟨R,0,none⟩)] w (fun e w' => e=.returned (.int .i64 (x:Int))/\RX N R w' b (k+1) bad/\w.grownBy w' (some R)):=by
 have H:=Lib.hid h
 obtain ⟨a,m,c,h0,h1,h2,f1,f2,hB,hF,hR,hN,hl,hk,hbl⟩:=h
 have Hw:=Lib.hid hB
 obtain ⟨a',m',c',e,Hm,hmc,hcm⟩:=hB.open
 injection e with e1 e2 e3
 subst e1 e2 e3
 have hm:=Hm.out
 have hkl:k<b.length:=by
  rcases Nat.lt_or_ge k b.length with h|h
  ·exact h
  ·rw [List.getElem?_eq_none h] at hx;cases hx
 rw [List.getElem?_eq_getElem hkl] at hx
 replace hx:=Option.some.inj hx
 have hxb:x<256:=by rw [<- hx];exact hB.1 _ (List.getElem_mem hkl)
 obtain ⟨_,a2,c2,e2,_,_,h3⟩:=id hB
 injection e2 with e2 e3 e4
 subst e2 e4
 obtain ⟨bb,off,rfl,hcell⟩:=h3 k hkl
 rw [hx] at hcell
 have hne:bb≠R:=hF ⟨bb,off,none⟩ m c rfl (by omega)
 have hcell:w.cell? ⟨bb,off+k,none⟩=some (.int .u8 (x:Int)):=hcell
 have hge:¬ ((m:Int)<=(k:Int)):=by omega
 have hlt:(k:Int)<(m:Int):=by omega
 have hw1:IntKind.i64.wrap ((k:Int)+1)=(k:Int)+1:=IntWalk.i64_in _ (by omega)
 have Hkl:=Lib.hid hkl
 clear hB hF hl h3 hx e3 hk hm hkl
 go_enter Tryz.func82,Tryz.ntmps82
 go_wp2_with fail
 go_quiet (fail)
 go_wp2_with fail
 have HX:=(H.out.to (below_drewN (Below.refl _ _) nq)).set1 (j:=k+1) (by have:=Hkl.out;omega)
 have hgr:=zH (o:=1) (x:=.int .i64 ((k+1:Nat):Int)) (zW (below_drewN (Below.refl w.heap.size w) nq) (some R))
 have hcW:=hgr.cell hcell (fun e => hne (Option.some.inj e))
 have hg0:=zcR (((below_drewN (Below.refl w.heap.size w) nq).cell (p:=⟨R,0,none⟩) (show R<w.heap.size by omega)).trans h0) (b':=R) (o':=1) (.inr (by decide)) (.int .i64 ((k+1:Nat):Int))
 obtain ⟨W1,aO⟩:∃ W1,(w.drewN nq).setCell ⟨R,1,none⟩ (.int .i64 ((k+1:Nat):Int))=W1:=⟨_,rfl⟩
 rw [aO] at HX hgr hcW hg0
 have aO:(w.drewN nq).setCell ⟨R,1,none⟩ (.int .i64 ((k:Int)+1))=W1:=aO
 rw [aO]
 have HX2:=Lib.hid HX
 obtain ⟨_,_,_,_,g1,_⟩:=HX
 have g1:W1.cell? ⟨R,1,none⟩=some (.int .i64 ((k:Int)+1)):=g1
 clear h0 h1 h2 f1 f2 hcell aO
 have hw2:IntKind.i64.wrap ((k:Int)+1 - 1)=(k:Int):=by rw [show (k:Int)+1 - 1=(k:Int) by omega];exact IntWalk.i64_in _ (by omega)
 have hxw:IntKind.i64.wrap (x:Int)=(x:Int):=IntWalk.i64_in _ (by omega)
 go_quiet (fail)
 go_wp2_with fail
 go_ret
 exact ⟨rfl,HX2.out.to (below_drewN (Below.refl _ _) _),hgr.trans (zW (below_drewN (Below.refl _ _) _) _)⟩

end Go.Proofs.YtkjcdnlpjldhaaaGreat


namespace Go.Proofs.YtkjcdnlpjldhaaaGreat
open Go.RowKit Tw

def XS {α:Type} (o:Option (α × List Nat)) (v:α) (b:List Nat) (j:Nat) (bd:Bool):Prop :=
 match o with
 | some y => bd=false/\v=y.1/\b.drop j=y.2
 | none => bd=true

theorem RX.size {w:World} {N R k:Nat} {b:List Nat} {bad:Bool} (h:RX N R w b k bad):R<N/\N<=w.heap.size:=by
 obtain ⟨_,_,_,_,_,_,_,_,_,_,h1,h2,_⟩:=h
 exact ⟨h1,h2⟩

def zgs (N R:Nat) (w:World) (b:List Nat) (o:Option (Nat × List Nat)) (e:Ending) (w':World):Prop :=
 w.grownBy w' (some R)/\∃ v j bd,e=.returned (.int .i64 ((v:Nat):Int))/\v<268435456/\RX N R w' b j bd/\XS o v b j bd

theorem zgs.mk {N R:Nat} {w w':World} {b:List Nat} {o:Option (Nat × List Nat)} {e:Ending} (h1:w.grownBy w' (some R)) (v j:Nat) (bd:Bool) (h2:e=.returned (.int .i64 ((v:Nat):Int))) (h3:v<268435456) (h4:RX N R w' b j bd) (h5:XS o v b j bd):zgs N R w b o e w':=⟨h1,v,j,bd,h2,h3,h4,h5⟩

theorem zfW (N R k0:Nat) (b:List Nat) (w:World) (h:RX N R w b k0 false) :
  Calls Tryz.prog 54 #[.pointer (some ⟨R,0,none⟩)] w (zgs N R w b (zc (b.drop k0))):=by
 have H:=Lib.hid h
 clear h
 go_enter Tryz.func54,Tryz.ntmps54
 go_wp2_with fail
 go_loopw [3,4,5,6] (fun sn sf si _ ww => ∃ (k n f p:Nat),k<=4/\sn=.int .i64 n/\sf=.int .i64 f/\si=.int .i64 k/\RX N R ww b p false/\w.grownBy ww (some R)/\Hid (zc (b.drop k0)=(rdC (4 - k) (decide (k=0)) (b.drop p)).map fun y => (n+f*y.1,y.2))/\Hid (f=128 ^ k)/\n<f) (fun _ _ i _ _ => 4 - (intOf i).toNat)
 case atStart =>
  refine ⟨0,0,1,k0,Nat.zero_le _,rfl,rfl,rfl,H.out,World.grownBy.refl _ _,Lib.hid ?_,Lib.hid rfl,by decide⟩
  cases h:rdC (4 - 0) (decide (0=0)) (b.drop k0) with
  | none => exact h
  | some y => rw [show zc (b.drop k0)=some y from h];simp
 case round =>
  obtain ⟨k,n,f,p,hk,rfl,rfl,rfl,hR,hg,HE,HF,hn⟩:=hrel
  have HR:=Lib.hid hR
  obtain ⟨a,m,c,c0,c1,c2,f1,f2,_⟩:=hR
  by_cases hk4:k<4
  ·have hki:(k:Int)<4:=by omega
   have hf:1<=f/\f<=2097152:=by
    rw [HF.out]
    have:k=0\/k=1\/k=2\/k=3:=by omega
    rcases this with rfl|rfl|rfl|rfl <;> decide
   go_wp2_with fail
   clear c0 c1 c2 f1 f2
   rcases Nat.lt_or_ge p b.length with hp|hp
   ·obtain ⟨x,hx⟩:∃ x,b[p]=x:=⟨_,rfl⟩
    have hxb:x<256:=by
     obtain ⟨_,_,_,_,_,_,_,_,hB,_⟩:=HR.out
     rw [<- hx];exact hB.1 _ (List.getElem_mem hp)
    have Hdrop:=Lib.hid (show b.drop p=x :: b.drop (p+1) by rw [List.drop_eq_getElem_cons hp,hx])
    have hxo:b[p]?=some x:=by rw [List.getElem?_eq_getElem hp,hx]
    have Hxo:=Lib.hid hxo
    obtain ⟨r,hr⟩:∃ r,x % 128=r:=⟨_,rfl⟩
    obtain ⟨q,hq⟩:∃ q,r*f=q:=⟨_,rfl⟩
    have hpb:q<=127*f:=by rw [<- hq];exact Nat.mul_le_mul (by omega) (Nat.le_refl _)
    have Hr:=Lib.hid hr
    have Hq:=Lib.hid hq
    clear hx hxo hr hq
    refine (zec N R b p x false _ HR.out Hxo.out).mono ?_
    rintro e w1 ⟨rfl,hR1,hg1⟩
    have hg2:=hg.trans hg1
    have HR1:=Lib.hid hR1
    obtain ⟨_,_,_,c0,c1,c2,f1,f2,_⟩:=hR1
    by_cases hx:x<128
    ·have hxi:(x:Int)<128:=by omega
     have hrx:r=x:=by rw [<- Hr.out,Nat.mod_eq_of_lt hx]
     subst hrx
     have hpi:(r:Int)*(f:Int)=(q:Int):=by rw [<- Hq.out];push_cast;rfl
     by_cases hx0:r=0
     ·by_cases hk0:k=0
      ·have HS:=Lib.hid (show zc (b.drop k0)=some (n+q,b.drop (p+1)) by
        rw [HE.out,Hdrop.out,show 4 - k=(3 - k)+1 by omega,rdC,if_pos hx,if_neg (fun h => by simp [hk0] at h),<- Hq.out,Nat.mul_comm r f];rfl)
       subst hx0 hk0
       go_wp2_with fail
       go_ret
       exact zgs.mk (hg2) (n+q) (p+1) false (by congr 2 <;> go_num) (by omega) (HR1.out) (by rw [HS.out];exact ⟨rfl,rfl,rfl⟩)
      ·have HN:=Lib.hid (show zc (b.drop k0)=none by
        rw [HE.out,Hdrop.out,show 4 - k=(3 - k)+1 by omega,rdC,if_pos hx,if_pos ⟨hx0,decide_eq_false hk0⟩];rfl)
       subst hx0
       have hkp:(0:Int)<(k:Int):=by omega
       go_wp2_with fail
       go_ret
       exact zgs.mk (zH hg2) (n+q) (p+1) true (by congr 2 <;> go_num) (by omega) (HR1.out.set2 true) (by rw [HN.out];exact rfl)
     ·have hxb:((r:Int) == 0)=false:=by simp;exact hx0
      have HS:=Lib.hid (show zc (b.drop k0)=some (n+q,b.drop (p+1)) by
       rw [HE.out,Hdrop.out,show 4 - k=(3 - k)+1 by omega,rdC,if_pos hx,if_neg (fun h => hx0 h.1),<- Hq.out,Nat.mul_comm r f];rfl)
      go_wp2_with fail
      go_ret
      exact zgs.mk (hg2) (n+q) (p+1) false (by congr 2 <;> go_num) (by omega) (HR1.out) (by rw [HS.out];exact ⟨rfl,rfl,rfl⟩)
    ·have hxi:¬ ((x:Int)<128):=by omega
     have hx1:(x:Int) - 128=(r:Int):=by rw [<- Hr.out];omega
     have hpi:(r:Int)*(f:Int)=(q:Int):=by rw [<- Hq.out];push_cast;rfl
     go_wp2_with fail
     go_roundw
     case rel =>
      refine ⟨k+1,n+q,128*f,p+1,by omega,by go_num,by go_num,by go_num,HR1.out,hg2,Lib.hid ?_,Lib.hid (by rw [HF.out,Nat.pow_succ];omega),by omega⟩
      rw [HE.out,Hdrop.out,show 4 - k=(3 - k)+1 by omega,show 4 - (k+1)=3 - k by omega]
      rw [rdC,if_neg hx,decide_eq_false (show ¬ (k+1=0) by omega)]
      cases rdC (3 - k) false (b.drop (p+1)) with
      | none => rfl
      | some y =>
       show some (n+f*(x % 128+128*y.1),y.2)=some (n+q+128*f*y.1,y.2)
       rw [<- Hq.out,<- Hr.out]
       congr 2
       rw [Nat.mul_add,Nat.mul_comm f (x % 128),<- Nat.add_assoc,Nat.mul_comm 128 f,Nat.mul_assoc]
     case measure => simp [intOf] <;> omega
   ·have hpl:p=b.length:=by have:=HR.out.pos;omega
    subst hpl
    have HN:=Lib.hid (show zc (b.drop k0)=none by
     rw [HE.out,List.drop_length,show 4 - k=(3 - k)+1 by omega];rfl)
    refine (zeb N R b false _ HR.out).mono ?_
    rintro e w1 ⟨rfl,hR1,hg1⟩
    have hg2:=hg.trans hg1
    have HR1:=Lib.hid hR1
    obtain ⟨_,_,_,c0,c1,c2,f1,f2,_⟩:=hR1
    by_cases hk0:k=0
    ·subst hk0
     go_wp2_with fail
     go_ret
     exact zgs.mk (hg2) (n) (b.length) true (by congr 2 <;> go_num) (by omega) (HR1.out) (by rw [HN.out];exact rfl)
    ·have hkp:(0:Int)<(k:Int):=by omega
     go_wp2_with fail
     go_ret
     exact zgs.mk (zH hg2) (n) (b.length) true (by congr 2 <;> go_num) (by omega) (HR1.out.set2 true) (by rw [HN.out];exact rfl)
  ·obtain rfl:k=4:=by omega
   have hki:¬ ((4:Int)<4):=by decide
   have HN:=Lib.hid (show zc (b.drop k0)=none by have h:=HE.out;exact h)
   go_wp2_with fail
   go_ret
   exact zgs.mk (zH hg) 0 p true rfl (by omega) (HR.out.set2 true) (by rw [HN.out];exact rfl)

theorem zfq (N R k0:Nat) (b:List Nat) (w:World) (h:RX N R w b k0 true) :
  Calls Tryz.prog 54 #[.pointer (some ⟨R,0,none⟩)] w (zgs N R w b none):=by
 have H:=Lib.hid h
 obtain ⟨a,m,c,c0,c1,c2,f1,f2,_⟩:=h
 go_enter Tryz.func54,Tryz.ntmps54
 go_wp2_with fail
 go_loopw [3,4,5,6] (fun _ _ si _ ww => si=.int .i64 0/\ww=w) (fun _ _ i _ _ => 0)
 case atStart => exact ⟨rfl,rfl⟩
 case round =>
  obtain ⟨rfl,rfl⟩:=hrel
  go_wp2_with fail
  go_ret
  exact zgs.mk (zH (World.grownBy.refl _ _)) 0 k0 true rfl (by omega) (H.out.set2 true) rfl

def RS (N R:Nat) (w:World) (b:List Nat) (st:Option (List Nat)):Prop :=
 ∃ k bd,RX N R w b k bd/\match st with
  | some t => bd=false/\b.drop k=t
  | none => bd=true

theorem RS.to {w w':World} {N R:Nat} {b:List Nat} {st:Option (List Nat)} (h:RS N R w b st) (hb:Below w.heap.size w w'):RS N R w' b st:=by
 obtain ⟨k,bd,h1,h2⟩:=h
 exact ⟨k,bd,h1.to hb,h2⟩

theorem RS.of_xs {α:Type} {w:World} {N R j:Nat} {b:List Nat} {o:Option (α × List Nat)} {v:α} {bd:Bool} (h:RX N R w b j bd) (hx:XS o v b j bd):RS N R w b (o.map (·.2))/\∀ y,o=some y->v=y.1:=by
 cases o with
 | none => exact ⟨⟨j,bd,h,hx⟩,fun y e => by cases e⟩
 | some y =>
  obtain ⟨h1,h2,h3⟩:=hx
  exact ⟨⟨j,bd,h,h1,h3⟩,fun z e => by cases e;exact h2⟩

def CntS (N R:Nat) (w:World) (b:List Nat) (o:Option (Nat × List Nat)) (e:Ending) (w':World):Prop :=
 w.grownBy w' (some R)/\∃ v,e=.returned (.int .i64 ((v:Nat):Int))/\v<268435456/\RS N R w' b (o.map (·.2))/\∀ y,o=some y->v=y.1

theorem zR (N R:Nat) (b:List Nat) (st:Option (List Nat)) (w:World) (h:RS N R w b st) :
  Calls Tryz.prog 54 #[.pointer (some ⟨R,0,none⟩)] w (CntS N R w b (st.bind zc)):=by
 obtain ⟨k,bd,h1,h2⟩:=h
 cases st with
 | none =>
  have h2:bd=true:=h2
  subst h2
  refine (zfq N R k b w h1).mono ?_
  rintro e w' ⟨hg,v,j,bd,he,hv,hR,hx⟩
  obtain ⟨k1,k2⟩:=RS.of_xs hR hx
  exact ⟨hg,v,he,hv,k1,k2⟩
 | some t =>
  obtain ⟨h2,h3⟩:=h2
  subst h2 h3
  refine (zfW N R k b w h1).mono ?_
  rintro e w' ⟨hg,v,j,bd,he,hv,hR,hx⟩
  obtain ⟨k1,k2⟩:=RS.of_xs hR hx
  exact ⟨hg,v,he,hv,k1,k2⟩

end Go.Proofs.YtkjcdnlpjldhaaaGreat


namespace Go.Proofs.YtkjcdnlpjldhaaaGreat
open Go.RowKit Tw

def rdB1:Rdg Nat
 | [] => none
 | x :: t => some (x,t)

def zeJ:Nat->Rdg Nat
 | 0,l => some (0,l)
 | k+1,l => (rdB1 l).bind fun x => (zeJ k x.2).map fun y => (x.1+256*y.1,y.2)

theorem rdW_bk (l:List Nat):rdW l=zeJ 4 l:=by
 match l with
 | [] => rfl
 | [_] => rfl
 | [_,_] => rfl
 | [_,_,_] => rfl
 | a :: b :: c :: d :: t =>
  show some (a+256*b+65536*c+16777216*d,t)=some (a+256*(b+256*(c+256*(d+256*0))),t)
  congr 2
  omega

theorem RS.size {w:World} {N R:Nat} {b:List Nat} {st:Option (List Nat)} (h:RS N R w b st):R<N/\N<=w.heap.size:=by
 obtain ⟨k,bd,h1,_⟩:=h
 exact h1.size

theorem RS.toN {w w':World} {N R:Nat} {b:List Nat} {st:Option (List Nat)} (h:RS N R w b st) (hb:Below N w w'):RS N R w' b st:=by
 obtain ⟨k,bd,h1,h2⟩:=h
 exact ⟨k,bd,h1.toN hb,h2⟩

def ByteS (N R:Nat) (w:World) (b:List Nat) (o:Option (Nat × List Nat)) (e:Ending) (w':World):Prop :=
 w.grownBy w' (some R)/\∃ v,e=.returned (.int .i64 ((v:Nat):Int))/\v<256/\RS N R w' b (o.map (·.2))/\∀ y,o=some y->v=y.1

theorem zcI (N R:Nat) (b:List Nat) (st:Option (List Nat)) (w:World) (h:RS N R w b st) :
  Calls Tryz.prog 82 #[.pointer (some ⟨R,0,none⟩)] w (ByteS N R w b (st.bind rdB1)):=by
 obtain ⟨k,bd,h1,h2⟩:=h
 rcases Nat.lt_or_ge k b.length with hk|hk
 ·refine (zec N R b k b[k] bd w h1 (List.getElem?_eq_getElem hk)).mono ?_
  rintro e w' ⟨he,hR,hg⟩
  have hx:b[k]<256:=by
   obtain ⟨_,_,_,_,_,_,_,_,hB,_⟩:=h1
   exact hB.1 _ (List.getElem_mem hk)
  refine ⟨hg,b[k],he,hx,?_⟩
  cases st with
  | none => exact ⟨⟨k+1,bd,hR,h2⟩,fun y e => by cases e⟩
  | some t =>
   obtain ⟨h3,h4⟩:=h2
   rw [List.drop_eq_getElem_cons hk] at h4
   subst h4
   exact ⟨⟨k+1,bd,hR,h3,rfl⟩,fun y e => by cases e;rfl⟩
 ·have hkl:k=b.length:=by have:=h1.pos;omega
  subst hkl
  refine (zeb N R b bd w h1).mono ?_
  rintro e w' ⟨he,hR,hg⟩
  refine ⟨hg,0,he,by decide,?_⟩
  cases st with
  | none => exact ⟨⟨_,true,hR,rfl⟩,fun y e => by cases e⟩
  | some t =>
   obtain ⟨h3,h4⟩:=h2
   rw [List.drop_length] at h4
   subst h4
   exact ⟨⟨_,true,hR,rfl⟩,fun y e => by cases e⟩

def NatS (N R:Nat) (w:World) (b:List Nat) (o:Option (List Nat × List Nat)) (e:Ending) (w':World):Prop :=
 w.grownBy w' (some R)/\∃ v l,e=.returned v/\Own w.heap.size w' v l/\RS N R w' b (o.map (·.2))/\∀ y,o=some y->l=y.1

theorem zgd {st:Option (List Nat)} {k wv f f2:Nat} (hf:f2=256*f) :
  (st.bind fun l => (zeJ (k+1) l).map fun y => (wv+f*y.1,y.2))=(st.bind rdB1).bind fun x => (zeJ k x.2).map fun y => (wv+f*x.1+f2*y.1,y.2):=by
 cases st with
 | none => rfl
 | some l =>
  cases l with
  | nil => rfl
  | cons x t =>
   show Option.map _ (Option.map _ (zeJ k t))=Option.map _ (zeJ k t)
   cases zeJ k t with
   | none => rfl
   | some y =>
    show some (wv+f*(x+256*y.1),y.2)=some (wv+f*x+f2*y.1,y.2)
    congr 2
    rw [hf,Nat.mul_add,<- Nat.add_assoc,<- Nat.mul_assoc,Nat.mul_comm f 256]

theorem zes {o:Option (Nat × List Nat)} {k wv f f2 v:Nat} (hv:∀ y,o=some y->v=y.1) :
  (o.bind fun x => (zeJ k x.2).map fun y => (wv+f*x.1+f2*y.1,y.2))=(o.map (·.2)).bind fun l => (zeJ k l).map fun y => (wv+f*v+f2*y.1,y.2):=by
 cases o with
 | none => rfl
 | some x => rw [hv x rfl];rfl

theorem ws_step {st:Option (List Nat)} {k:Nat} {t dn:List Nat} {u:Nat} (h:rdW t=st.bind fun l => (zeJ 0 l).map fun y => (u+4294967296*y.1,y.2)) :
  ((zbx (k+1) t).map fun z => (dn++z.1,z.2))=st.bind fun l => (zbx k l).map fun z => ((dn++[u])++z.1,z.2):=by
 show Option.map _ ((rdW t).bind _)=_
 rw [h]
 cases st with
 | none => rfl
 | some l =>
  show Option.map _ (Option.map _ (zbx k l))=Option.map _ (zbx k l)
  cases zbx k l with
  | none => rfl
  | some z =>
   show some (dn++((u+4294967296*0) :: z.1),z.2)=some ((dn++[u])++z.1,z.2)
   rw [List.append_assoc]
   rfl

theorem zdf (N R:Nat) (b:List Nat) (st:Option (List Nat)) (w:World) (h:RS N R w b st) :
  Calls Tryz.prog 55 #[.pointer (some ⟨R,0,none⟩)] w (NatS N R w b (st.bind rdN)):=by
 have hsz:=h.size
 have H:=Lib.hid h
 clear h
 go_enter Tryz.func55,Tryz.ntmps55
 go_wp2_with fail
 refine (zR N R b st _ H.out).mono ?_
 rintro e w1 ⟨hg1,n,rfl,hn28,hR1,hval⟩
 have HE0:=Lib.hid (show st.bind rdN=((st.bind zc).map (·.2)).bind fun t => (zbx (n - 0) t).map fun z => ([]++z.1,z.2) by
  cases st with
  | none => rfl
  | some l =>
   show (zc l).bind _=_
   cases hc:zc l with
   | none => rw [show (some l).bind zc=zc l from rfl,hc];rfl
   | some y =>
    rw [show (some l).bind zc=zc l from rfl,hc,hval y hc]
    show zbx y.1 y.2=Option.map _ (zbx y.1 y.2)
    cases zbx y.1 y.2 <;> rfl)
 go_wp2_with fail
 go_loopw [4,5,6,7,8] (fun so si _ _ _ ww => ∃ (k:Nat) (dn:List Nat) (s:Option (List Nat)),k<=n/\si=.int .i64 (k:Int)/\RS N R ww b s/\w.grownBy ww (some R)/\Own w.heap.size ww so dn/\Hid (st.bind rdN=s.bind fun t => (zbx (n - k) t).map fun z => (dn++z.1,z.2))/\Hid (dn.length=k)) (fun _ i _ _ _ _ => n - (intOf i).toNat)
 case atStart => exact ⟨0,[],_,Nat.zero_le _,rfl,hR1,hg1,Own.nil _ _,HE0,Lib.hid rfl⟩
 case round =>
  clear HE0 hR1 hg1
  obtain ⟨k,dn,s,hk,rfl,hR,hg,hO,HE,HD⟩:=hrel
  have HR:=Lib.hid hR
  obtain ⟨p,bd,hX,hS⟩:=hR
  obtain ⟨a,m,c,c0,c1,c2,f1,f2,_⟩:=hX
  by_cases hkn:k<n
  ·have hki:(k:Int)<(n:Int):=by omega
   cases s with
   | none =>
    have hS:bd=true:=hS
    subst hS
    have HN:=Lib.hid (show st.bind rdN=none from HE.out)
    go_wp2_with fail
    go_ret
    refine ⟨hg,_,dn,rfl,hO,?_,?_⟩
    ·rw [HN.out];exact HR.out
    ·intro y e;rw [HN.out] at e;cases e
   | some t =>
    obtain ⟨hS,_⟩:=hS
    subst hS
    go_wp2_with fail
    clear c0 c1 c2 f1 f2
    obtain ⟨Wv,hWv⟩:∃ W,W=wr:=⟨_,rfl⟩
    subst hWv
    go_loopw [6,7,8] (fun sw sf sk ww => ∃ (kk wv:Nat) (s':Option (List Nat)),kk<=4/\sw=.int .u32 (wv:Int)/\sf=.int .u32 ((256 ^ kk % 4294967296:Nat):Int)/\sk=.int .i64 (kk:Int)/\RS N R ww b s'/\Wv.grownBy ww (some R)/\Hid (rdW t=s'.bind fun l => (zeJ (4 - kk) l).map fun y => (wv+256 ^ kk*y.1,y.2))/\Hid (wv<256 ^ kk)) (fun _ _ i _ => 4 - (intOf i).toNat)
    case atStart =>
     refine ⟨0,0,some t,by decide,rfl,rfl,rfl,HR.out,World.grownBy.refl _ _,Lib.hid ?_,Lib.hid (by decide)⟩
     rw [rdW_bk]
     show zeJ 4 t=Option.map _ (zeJ 4 t)
     cases zeJ 4 t with
     | none => rfl
     | some y => show some y=some (0+256 ^ 0*y.1,y.2);simp
    case round =>
    obtain ⟨kk,wv,s',hkk,rfl,rfl,rfl,hR',hg',HW,HB⟩:=hrel
    by_cases hk4:kk<4
    ·have hk':kk=0\/kk=1\/kk=2\/kk=3:=by omega
     rcases hk' with rfl|rfl|rfl|rfl
     ·have hji:(((0:Nat):Int))<4:=by decide
      have hwb:wv<1:=HB.out
      go_wp2_with fail
      refine (zcI N R b s' _ hR').mono ?_
      rintro e w2 ⟨hg2,v,rfl,hv,hR2,hval2⟩
      have HV:=Lib.hid hval2
      clear hval2
      go_wp2_with fail
      refine ⟨⟨1,wv+1*v,_,by decide,?_,?_,?_,hR2,hg'.trans hg2,Lib.hid ?_,Lib.hid (by show _<256;omega)⟩,by simp [intOf]⟩
      ·go_num
      ·rfl
      ·rfl
      ·rw [HW.out]
       exact (zgd (k:=3) (f:=1) (f2:=256) rfl).trans (zes HV.out)
     ·have hji:(((1:Nat):Int))<4:=by decide
      have hwb:wv<256:=HB.out
      go_wp2_with fail
      refine (zcI N R b s' _ hR').mono ?_
      rintro e w2 ⟨hg2,v,rfl,hv,hR2,hval2⟩
      have HV:=Lib.hid hval2
      clear hval2
      go_wp2_with fail
      refine ⟨⟨2,wv+256*v,_,by decide,?_,?_,?_,hR2,hg'.trans hg2,Lib.hid ?_,Lib.hid (by show _<65536;omega)⟩,by simp [intOf]⟩
      ·go_num
      ·rfl
      ·rfl
      ·rw [HW.out]
       exact (zgd (k:=2) (f:=256) (f2:=65536) rfl).trans (zes HV.out)
     ·have hji:(((2:Nat):Int))<4:=by decide
      have hwb:wv<65536:=HB.out
      go_wp2_with fail
      refine (zcI N R b s' _ hR').mono ?_
      rintro e w2 ⟨hg2,v,rfl,hv,hR2,hval2⟩
      have HV:=Lib.hid hval2
      clear hval2
      go_wp2_with fail
      refine ⟨⟨3,wv+65536*v,_,by decide,?_,?_,?_,hR2,hg'.trans hg2,Lib.hid ?_,Lib.hid (by show _<16777216;omega)⟩,by simp [intOf]⟩
      ·go_num
      ·rfl
      ·rfl
      ·rw [HW.out]
       exact (zgd (k:=1) (f:=65536) (f2:=16777216) rfl).trans (zes HV.out)
     ·have hji:(((3:Nat):Int))<4:=by decide
      have hwb:wv<16777216:=HB.out
      go_wp2_with fail
      refine (zcI N R b s' _ hR').mono ?_
      rintro e w2 ⟨hg2,v,rfl,hv,hR2,hval2⟩
      have HV:=Lib.hid hval2
      clear hval2
      go_wp2_with fail
      refine ⟨⟨4,wv+16777216*v,_,by decide,?_,?_,?_,hR2,hg'.trans hg2,Lib.hid ?_,Lib.hid (by show _<4294967296;omega)⟩,by simp [intOf]⟩
      ·go_num
      ·rfl
      ·rfl
      ·rw [HW.out]
       exact (zgd (k:=0) (f:=16777216) (f2:=4294967296) rfl).trans (zes HV.out)
    ·obtain rfl:kk=4:=by omega
     have hub:wv<4294967296:=HB.out
     have Hub:=Lib.hid hub
     have HR2:=Lib.hid hR'
     have hg2:=hg.trans hg'
     have hlw:=hg2.size
     have HO:=Lib.hid (hO.grown hg' (fun k e => by injection e with e;omega))
     have HDL:=Lib.hid (show dn.length+1<=1099511627776 by have:=HD.out;omega)
     have hji:¬ ((4:Int)<4):=by decide
     clear hub
     go_wp2_with (at_builtin;refine zbn _ rfl (.tmp 36) (.tmp 38) rfl w.heap.size _ _ dn [wv] rfl rfl (HO.out.alloc _) (zaR _ _ [wv] rfl (zce Hub.out) (by simp [maxLen])).rd (by simp;omega) (by simpa using HDL.out) ?_;intro v5 w5 hO5 cU eH)
     refine ⟨⟨k+1,dn++[wv],s',by omega,by go_num,(HR2.out.to (bN _ _)).toN (cU.mono hsz.2),zr hg2 (((Below.refl _ _).alloc hlw _).trans cU),hO5,Lib.hid ?_,Lib.hid (by rw [List.length_append,HD.out];rfl)⟩,by simp [intOf] <;> omega⟩
     rw [HE.out,show n - k=(n - (k+1))+1 by omega]
     exact ws_step HW.out
  ·obtain rfl:k=n:=by omega
   have hki:¬ ((k:Int)<(k:Int)):=by omega
   have HS:=Lib.hid (show st.bind rdN=s.map (fun t => (dn,t)) by rw [HE.out,Nat.sub_self];cases s <;> simp [zbx])
   go_wp2_with fail
   go_ret
   refine ⟨hg,_,dn,rfl,hO,?_,?_⟩
   ·rw [HS.out]
    have h:=HR.out
    cases s <;> exact h
   ·intro y e;rw [HS.out] at e;cases s with
    | none => cases e
    | some t => cases e;rfl

end Go.Proofs.YtkjcdnlpjldhaaaGreat

