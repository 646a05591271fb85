/-
  The texts PackTake, BytesOpen, merged.
-/
import Derived.Test.YtkjcdnlpjldhaaaGreatK04
import Derived.Defers
import Derived.Recover
import Derived.WalkSmall
import Derived.Deep.AppendLies
set_option linter.unusedVariables false
set_option linter.unusedSimpArgs false
set_option maxRecDepth 100000
set_option maxHeartbeats 400000000
namespace Go.Proofs.YtkjcdnlpjldhaaaGreat
open Go.RowKit Tw

def zix:List PanicEntry:=[{ v:=.iface 35 (.int .i64 11),recovered:=false }]

theorem zaC (w:World):Calls Tryz.prog 80 #[.bool false] w (fun e w' => e=.returned (.tuple #[])/\Below w.heap.size w w'):=by
 go_enter Tryz.func80,Tryz.ntmps80
 go_wp2_with fail
 go_end0
 exact ⟨rfl,Below.refl _ _⟩

theorem zad (w:World):Calls Tryz.prog 80 #[.bool true] w (fun e w' => e=.panicked zix/\Below w.heap.size w w'):=by
 go_enter Tryz.func80,Tryz.ntmps80
 go_wp2_with fail
 exact ⟨rfl,rfl,Below.refl _ _⟩

def RdB (w:World) (v:Value) (l:List Nat):Prop :=
 (∀ x ∈ l,x<256)/\∃ a cap,v=.slice a l.length cap/\l.length<=cap/\cap<=maxLen/\∀ i (h:i<l.length),∃ b off,a=some ⟨b,off,none⟩/\w.cell? ⟨b,off+i,none⟩=some (u8v l[i])

def FarB (v:Value) (R:Nat):Prop:=∀ p n c,v=.slice (some p) n c->0<n->p.block≠R

section

variable {w w':World} {v:Value} {l:List Nat} {row:Option Nat} {R:Nat} {a:Option Addr} {n m c:Nat}

theorem RdB.grown (h:RdB w v l) (hg:w.grownBy w' row) (hf:∀ k,row=some k->FarB v k):RdB w' v l:=by
 obtain ⟨h0,a,cap,hv,h1,h2,h3⟩:=h
 refine ⟨h0,a,cap,hv,h1,h2,fun i hi => ?_⟩
 obtain ⟨b,off,e,k⟩:=h3 i hi
 refine ⟨b,off,e,hg.cell k (fun e2 => ?_)⟩
 subst e
 exact hf b e2.symm ⟨b,off,none⟩ l.length cap hv (by omega) rfl

theorem RdB.to (h:RdB w v l) (hb:Below w.heap.size w w'):RdB w' v l:=h.grown (row:=none) ⟨hb.os,hb.tape,hb.output,hb.size,fun k hk _ => hb.block k hk⟩ (fun k e => by cases e)

theorem RdB.open (h:RdB w v l):∃ a n cap,v=.slice a n cap/\Hid (l.length=n)/\n<=cap/\cap<=maxLen:=by
 obtain ⟨h0,a,cap,hv,h1,h2,h3⟩:=h
 exact ⟨a,_,cap,hv,rfl,h1,h2⟩

theorem RdB.take (h:RdB w (.slice a m c) l) (hn:n<=l.length):RdB w (.slice a n c) (l.take n):=by
 obtain ⟨h0,a',cap,hv,h1,h2,h3⟩:=h
 injection hv with e1 e2 e3
 subst e1 e3
 have hl:(l.take n).length=n:=by rw [List.length_take];omega
 refine ⟨fun x hx => h0 x (List.mem_of_mem_take hx),a,c,by rw [hl],by omega,h2,fun i hi => ?_⟩
 obtain ⟨b,off,e,k⟩:=h3 i (by omega)
 exact ⟨b,off,e,by rw [List.getElem_take];exact k⟩

theorem RdB.drop (h:RdB w (.slice a m c) l) (hn:n<=l.length):RdB w (.slice (Option.map (fun x => x.add n) a) (m - n) (c - n)) (l.drop n):=by
 obtain ⟨h0,a',cap,hv,h1,h2,h3⟩:=h
 injection hv with e1 e2 e3
 subst e1 e2 e3
 refine ⟨fun x hx => h0 x (List.mem_of_mem_drop hx),_,c - n,by rw [List.length_drop],by rw [List.length_drop];omega,by omega,fun i hi => ?_⟩
 rw [List.length_drop] at hi
 obtain ⟨b,off,e,k⟩:=h3 (n+i) (by omega)
 refine ⟨b,off+n,by rw [e];show some ((⟨b,off,none⟩:Addr).add n)=_;rw [zbH],?_⟩
 rw [List.getElem_drop,Nat.add_assoc]
 exact k

theorem RdB.drop_all (h:RdB w (.slice a m n) l) (hn:n<=l.length):RdB w (.slice a (m - n) 0) (l.drop n):=by
 obtain ⟨h0,a',cap,hv,h1,h2,h3⟩:=h
 injection hv with e1 e2 e3
 subst e1 e2 e3
 have hl:(l.drop n).length=0:=by rw [List.length_drop];omega
 refine ⟨fun x hx => h0 x (List.mem_of_mem_drop hx),_,0,by rw [hl,show l.length - n=0 by omega],by omega,by omega,fun i hi => by omega⟩

theorem zcR {w:World} {b o:Nat} {v:Value} (h:w.cell? ⟨b,o,none⟩=some v) {b' o':Nat} (hne:b≠b'\/o≠o') (x:Value):(w.setCell ⟨b',o',none⟩ x).cell? ⟨b,o,none⟩=some v:=by
 have e:(⟨b',o',none⟩:Addr)≠⟨b,o,none⟩:=fun k => by
  injection k with k1 k2 k3
  rcases hne with h|h
  ·exact h k1.symm
  ·exact h k2.symm
 rw [World.cell?_setCell_other (h:=by first|exact e|exact e.symm),h]

theorem zcZ {w:World} {b o:Nat} {v:Value} (h:w.cell? ⟨b,o,none⟩=some v) (x:Value):(w.setCell ⟨b,o,none⟩ x).cell? ⟨b,o,none⟩=some x :=
 World.cell?_setCell_same' _ _ _ (by rw [h];rfl)

theorem zhw (p:Addr) (n:Nat):(p.add n).block=p.block:=by
 unfold Addr.add
 split <;> rfl

theorem FarB.cut (h:FarB (.slice a m c) R) {n' c':Nat} (hn:n'<=m):FarB (.slice a n' c') R:=fun p n k e h0 => by
 injection e with e1 e2 e3
 exact h p m c (by rw [e1]) (by omega)

theorem FarB.drop (h:FarB (.slice a m c) R) {c':Nat}:FarB (.slice (Option.map (fun x => x.add n) a) (m - n) c') R:=fun p k d e h0 => by
 injection e with e1 e2 e3
 cases a with
 | none => cases e1
 | some x =>
  have e1:x.add n=p:=Option.some.inj e1
  rw [<- e1,zhw]
  exact h x m c rfl (by omega)

theorem zH {o:Nat} {x:Value} (h:w.grownBy w' (some R)):w.grownBy (w'.setCell ⟨R,o,none⟩ x) (some R) :=
 h.trans ⟨rfl,rfl,rfl,by simp,fun k _ hk => heap_setCell_other w' ⟨R,o,none⟩ k x (fun e => hk (by rw [e]))⟩

theorem zW (h:Below w.heap.size w w') (row:Option Nat):w.grownBy w' row:=⟨h.os,h.tape,h.output,h.size,fun k hk _ => h.block k hk⟩

end

def RB (N R:Nat) (w:World) (l:List Nat):Prop:=∃ a m c,w.cell? ⟨R,0,none⟩=some (.slice a m c)/\w.frozen? ⟨R,0,none⟩=false/\RdB w (.slice a m c) l/\FarB (.slice a m c) R/\R<N/\N<=w.heap.size/\(∀ p,a=some p->0<m->p.block<N)

theorem RdB.toN {w w':World} {l:List Nat} {N m c:Nat} {a:Option Addr} (h:RdB w (.slice a m c) l) (hb:Below N w w') (hN:∀ p,a=some p->0<m->p.block<N):RdB w' (.slice a m c) l:=by
 obtain ⟨h0,a',cap,hv,h1,h2,h3⟩:=h
 injection hv with e1 e2 e3
 subst e1 e2 e3
 refine ⟨h0,a,c,rfl,h1,h2,fun i hi => ?_⟩
 obtain ⟨b,off,e,k⟩:=h3 i hi
 exact ⟨b,off,e,(hb.cell (p:=⟨b,off+i,none⟩) (hN ⟨b,off,none⟩ e (by omega))).trans k⟩

theorem RB.toN {w w':World} {N R:Nat} {l:List Nat} (h:RB N R w l) (hb:Below N w w'):RB N R w' l:=by
 obtain ⟨a,m,c,h0,hf,h1,h2,h3,h4,h5⟩:=h
 exact ⟨a,m,c,(hb.cell (p:=⟨R,0,none⟩) h3).trans h0,(hb.frozen (p:=⟨R,0,none⟩) h3).trans hf,h1.toN hb h5,h2,h3,Nat.le_trans h4 hb.size,h5⟩

theorem RB.to {w w':World} {N R:Nat} {l:List Nat} (h:RB N R w l) (hb:Below w.heap.size w w'):RB N R w' l:=by
 have h4:N<=w.heap.size:=by obtain ⟨_,_,_,_,_,_,_,_,h4,_⟩:=h;exact h4
 exact h.toN (hb.mono h4)

theorem RB.lt {w:World} {N R:Nat} {l:List Nat} (h:RB N R w l):R<w.heap.size/\N<=w.heap.size/\R<N:=by
 obtain ⟨_,_,_,_,_,_,_,h3,h4,_⟩:=h
 exact ⟨by omega,h4,h3⟩

theorem zr {w w1 w2:World} {row:Option Nat} (h:w.grownBy w1 row) (hb:Below w.heap.size w1 w2):w.grownBy w2 row :=
 ⟨hb.os.trans h.os,hb.tape.trans h.tape,hb.output.trans h.output,Nat.le_trans h.size hb.size,fun k hk hne => (hb.block k hk).trans (h.block k hk hne)⟩

theorem ziw (N R n:Nat) (l:List Nat) (w:World) (h:RB N R w l) (hn:l.length<n) :
  Calls Tryz.prog 105 #[.pointer (some ⟨R,0,none⟩),.int .i64 n] w (fun e w' => e=.panicked zix/\Below w.heap.size w w'):=by
 obtain ⟨a,m,c,h0,hf,h1,h2,h3,h4,h5⟩:=h
 obtain ⟨a',m',c',e,Hm,hmc,hcm⟩:=h1.open
 injection e with e1 e2 e3
 subst e1 e2 e3
 have hmn:(m:Int)<(n:Int):=by have:=Hm.out;omega
 go_enter Tryz.func105,Tryz.ntmps105
 go_wp2_with fail
 refine (zad _).mono ?_
 rintro e w1 ⟨rfl,be⟩
 exact ⟨rfl,rfl,be⟩

theorem zeI (N R n:Nat) (l:List Nat) (w:World) (h:RB N R w l) (hn:n<=l.length) :
  Calls Tryz.prog 105 #[.pointer (some ⟨R,0,none⟩),.int .i64 n] w (fun e w' => ∃ a c,e=.returned (.slice a n c)/\RdB w' (.slice a n c) (l.take n)/\FarB (.slice a n c) R/\RB N R w' (l.drop n)/\w.grownBy w' (some R)):=by
 obtain ⟨a,m,c,h0,hf,h1,h2,h3,h4,h5⟩:=h
 obtain ⟨a',m',c',e,Hm,hmc,hcm⟩:=h1.open
 injection e with e1 e2 e3
 subst e1 e2 e3
 have hmn:¬ ((m:Int)<(n:Int)):=by have:=Hm.out;omega
 have hnm:(n:Int)<=(m:Int):=by omega
 have hnc:(n:Int)<=(c:Int):=by omega
 have H1:=Lib.hid h1
 have H2:=Lib.hid h2
 have H0:=Lib.hid h0
 have Hf:=Lib.hid hf
 clear h1 h2
 go_enter Tryz.func105,Tryz.ntmps105
 go_wp2_with fail
 refine (zaC _).mono ?_
 rintro e w1 ⟨rfl,be⟩
 have hl:=Lib.hid (zm h0)
 have c1:=(be.cell (p:=⟨R,0,none⟩) hl.out).trans h0
 have f1:=(be.frozen (p:=⟨R,0,none⟩) hl.out).trans hf
 clear h0 hf
 have hg1:=zW be (some R)
 have hR1:=H1.out.to be
 go_wp2_with fail
 ·subst h
  go_ret
  refine ⟨a,c,rfl,(hR1.grown (zH (World.grownBy.refl _ _)) (fun k e => by have e:R=k:=Option.some.inj e;subst e;exact H2.out)).take hn,H2.out.cut (by omega),⟨a,m - c,0,zcZ c1 _,by simp [go_sem,f1],?_,H2.out.cut (by omega),h3,by simp [go_sem];have:=be.size;omega,fun p e h0 => h5 p e (by omega)⟩,zH hg1⟩
  exact (hR1.drop_all hn).grown (zH (World.grownBy.refl _ _)) (fun k e => by have e:R=k:=Option.some.inj e;subst e;exact H2.out.cut (by omega))
 ·go_ret
  refine ⟨a,c,rfl,(hR1.grown (zH (World.grownBy.refl _ _)) (fun k e => by have e:R=k:=Option.some.inj e;subst e;exact H2.out)).take hn,H2.out.cut (by omega),⟨_,m - n,c - n,zcZ c1 _,by simp [go_sem,f1],?_,H2.out.drop,h3,by simp [go_sem];have:=be.size;omega,fun p e h0 => ?_⟩,zH hg1⟩
  rotate_left
  ·cases a with
   | none => cases e
   | some x =>
    have e:x.add n=p:=Option.some.inj e
    rw [<- e,zhw]
    exact h5 x rfl (by omega)
  exact (hR1.drop hn).grown (zH (World.grownBy.refl _ _)) (fun k e => by have e:R=k:=Option.some.inj e;subst e;exact H2.out.drop)

end Go.Proofs.YtkjcdnlpjldhaaaGreat


namespace Go.Proofs.YtkjcdnlpjldhaaaGreat
open Go.RowKit Tw

theorem rdB_of_row {w:World} {a:Option Addr} {len cap:Nat} {zs:List Int}
  (h:(a=none/\len=0/\cap=0/\zs=[])\/∃ x,a=some x/\len<=cap/\cap<=maxLen/\zs.length=cap/\(∀ i,i<zs.length->w.cell? (x.add i)=some (.int .u8 (zs.getD i 0)))/\∀ n ∈ zs,(Lit.int .u8 n).wf=true) :
  ∃ l,RdB w (.slice a len cap) l:=by
 rcases h with ⟨rfl,rfl,rfl,_⟩|⟨x,rfl,hl,hm,hz,hcell,hwf⟩
 ·exact ⟨[],fun x hx => (by cases hx),none,0,rfl,Nat.le_refl _,Nat.zero_le _,fun i hi => absurd hi (by simp)⟩
 ·have hlen:((zs.take len).map Int.toNat).length=len:=by rw [List.length_map,List.length_take];omega
  have hb:∀ n,n ∈ zs->0<=n/\n<256:=fun n hn => by
   have:=hwf n hn
   simp [Lit.wf,IntKind.min,IntKind.max,IntKind.signed,IntKind.bits] at this
   omega
  refine ⟨(zs.take len).map Int.toNat,fun y hy => ?_,some x,cap,by rw [hlen],by omega,hm,fun i hi => ?_⟩
  ·obtain ⟨z,hz1,rfl⟩:=List.mem_map.1 hy
   have:=hb z (List.mem_of_mem_take hz1)
   omega
  ·rw [hlen] at hi
   obtain ⟨b,off,spot⟩:=x
   have hc:=hcell 0 (by omega)
   have hspot:spot=none:=by simpa [Addr.add] using World.cell?_spot hc
   subst hspot
   refine ⟨b,off,rfl,?_⟩
   have h1:=hcell i (by omega)
   rw [zbH] at h1
   rw [h1]
   have hi2:i<zs.length:=by omega
   have e:zs.getD i 0=zs[i]:=by rw [List.getD_eq_getElem?_getD,List.getElem?_eq_getElem hi2];rfl
   have hp:=hb zs[i] (List.getElem_mem hi2)
   rw [e]
   congr 1
   simp only [List.getElem_map,List.getElem_take]
   show Value.int .u8 zs[i]=.int .u8 ((zs[i].toNat:Nat):Int)
   rw [Int.toNat_of_nonneg hp.1]

end Go.Proofs.YtkjcdnlpjldhaaaGreat

