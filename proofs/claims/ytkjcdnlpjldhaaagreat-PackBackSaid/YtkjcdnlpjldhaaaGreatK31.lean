/-
  The texts VmOpen, merged.
-/
import Derived.Test.YtkjcdnlpjldhaaaGreatK18
import Derived.OpenShut
import Derived.Lib.SmallJoins
import Derived.Deep.Slices
import Derived.Deep.Fields
import Derived.ChangeSame
set_option linter.unusedVariables false
set_option linter.unusedSimpArgs false
set_option maxRecDepth 100000
set_option maxHeartbeats 400000000
namespace Go.Proofs.YtkjcdnlpjldhaaaGreat
open Go.ChangeShapes Go.WideShapes Go.Deep Go.RowKit Go.Joins Tw

section

variable {H:Type} {enc:TypeId × Value->H} {W:World} {base:Nat}

theorem zgQ {fuel:Nat} {v:Value} {x:DataW H × List MemPlace} (h:DataW.trod enc Tryz.prog W base (fun _ => true) true fuel 45 [v]=some x):∃ l,Rd W v l:=by
 rcases open_ints Tryz.underlying45 Tryz.underlying97 (by kernel_rfl) h with ⟨hcs,_⟩|⟨a,l,c,zs,hcs,_,hl,hm,hz,_,hcell,hwz⟩
 ·simp only [List.cons.injEq,and_true] at hcs
  subst hcs
  exact ⟨[],Rd.nil _⟩
 ·simp only [List.cons.injEq,and_true] at hcs
  subst hcs
  exact rd_of_row (.inr ⟨_,rfl,hl,hm,by simpa using hz,hcell,hwz⟩)

theorem zbY {fuel:Nat} {v:Value} {x:DataW H × List MemPlace} (h:DataW.trod enc Tryz.prog W base (fun _ => true) true fuel 3 [v]=some x):∃ z,v=.int .i64 z/\I64 z:=by
 obtain ⟨n,hcs,_,hw⟩:=DataW.trod_int Tryz.underlying3 h
 simp only [List.cons.injEq,and_true] at hcs
 refine ⟨n,hcs,?_⟩
 simp [Lit.wf,IntKind.min,IntKind.max,IntKind.signed,IntKind.bits] at hw
 unfold I64
 omega

theorem open_bit {fuel:Nat} {v:Value} {x:DataW H × List MemPlace} (h:DataW.trod enc Tryz.prog W base (fun _ => true) true fuel 4 [v]=some x):∃ b,v=.bool b:=by
 obtain ⟨b,hcs,_⟩:=DataW.trod_bool Tryz.underlying4 h
 simp only [List.cons.injEq,and_true] at hcs
 exact ⟨b,hcs⟩

theorem k_int:Tryz.prog.cellsOf 3=1:=by kernel_rfl

theorem k_bool:Tryz.prog.cellsOf 4=1:=by kernel_rfl

theorem k_words:Tryz.prog.cellsOf 45=1:=by kernel_rfl

theorem k_rat:Tryz.prog.cellsOf 47=3:=by kernel_rfl

theorem zlq:Tryz.prog.cellsOf 49=7:=by kernel_rfl

theorem k_code:Tryz.prog.cellsOf 24=5:=by kernel_rfl

theorem k_instrs:Tryz.prog.cellsOf 22=1:=by kernel_rfl

theorem len3 {α:Type} {l:List α} (h:l.length=3):∃ a b c,l=[a,b,c]:=by
 match l,h with
 | [a,b,c],_ => exact ⟨a,b,c,rfl⟩

theorem len5 {α:Type} {l:List α} (h:l.length=5):∃ a b c d e,l=[a,b,c,d,e]:=by
 match l,h with
 | [a,b,c,d,e],_ => exact ⟨a,b,c,d,e,rfl⟩

theorem len7 {α:Type} {l:List α} (h:l.length=7):∃ a b c d e f g,l=[a,b,c,d,e,f,g]:=by
 match l,h with
 | [a,b,c,d,e,f,g],_ => exact ⟨a,b,c,d,e,f,g,rfl⟩

theorem zgb (b o n:Nat):(⟨b,o,none⟩:Addr).add n=⟨b,o+n,none⟩:=by unfold Addr.add;split <;> simp_all

theorem zgO {fuel:Nat} {cs:List Value} {x:DataW H × List MemPlace} (h:DataW.trod enc Tryz.prog W base (fun _ => true) true fuel 47 cs=some x) :
  ∃ ng vn vd ln ld,cs=[.bool ng,vn,vd]/\Rd W vn ln/\Rd W vd ld:=by
 obtain ⟨xs,n,_,hx,hl,hlen,hg⟩:=DataW.trod_struct Tryz.underlying47 h
 rw [k_rat] at hl
 obtain ⟨c0,c1,c2,rfl⟩:=len3 hl
 obtain ⟨y0,y1,y2,rfl⟩:=len3 (show xs.length=3 from hlen)
 have e0:=hg 0 _ rfl
 have e1:=hg 1 _ rfl
 have e2:=hg 2 _ rfl
 simp [k_bool,k_words] at e0 e1 e2
 obtain ⟨b,rfl⟩:=open_bit e0
 obtain ⟨l1,h1⟩:=zgQ e1
 obtain ⟨l2,h2⟩:=zgQ e2
 exact ⟨b,c1,c2,l1,l2,rfl,h1,h2⟩

theorem zgN {fuel:Nat} {cs:List Value} {x:DataW H × List MemPlace} (h:DataW.trod enc Tryz.prog W base (fun _ => true) true fuel 49 cs=some x) :
  ∃ op to a b ng vn vd ln ld,cs=[.int .i64 op,.int .i64 to,.int .i64 a,.int .i64 b,.bool ng,vn,vd]/\Rd W vn ln/\Rd W vd ld/\I64 op/\I64 to/\I64 a/\I64 b:=by
 obtain ⟨xs,n,_,hx,hl,hlen,hg⟩:=DataW.trod_struct Tryz.underlying49 h
 rw [zlq] at hl
 obtain ⟨c0,c1,c2,c3,c4,c5,c6,rfl⟩:=len7 hl
 obtain ⟨y0,y1,y2,y3,y4,rfl⟩:=len5 (show xs.length=5 from hlen)
 have e0:=hg 0 _ rfl
 have e1:=hg 1 _ rfl
 have e2:=hg 2 _ rfl
 have e3:=hg 3 _ rfl
 have e4:=hg 4 _ rfl
 simp [k_int,k_rat] at e0 e1 e2 e3 e4
 obtain ⟨z0,rfl,i0⟩:=zbY e0
 obtain ⟨z1,rfl,i1⟩:=zbY e1
 obtain ⟨z2,rfl,i2⟩:=zbY e2
 obtain ⟨z3,rfl,i3⟩:=zbY e3
 obtain ⟨ng,vn,vd,ln,ld,e,h1,h2⟩:=zgO e4
 simp only [List.cons.injEq,and_true] at e
 obtain ⟨rfl,rfl,rfl⟩:=e
 exact ⟨z0,z1,z2,z3,ng,_,_,ln,ld,rfl,h1,h2,i0,i1,i2,i3⟩

theorem zgm {α:Type} {n:Nat} {p:Nat->α->Prop} (h:∀ i,i<n->∃ x,p i x):∃ l:List α,l.length=n/\∀ i (hi:i<l.length),p i l[i]:=by
 induction n with
 | zero => exact ⟨[],rfl,fun i hi => absurd hi (by simp)⟩
 | succ n ih =>
  obtain ⟨l,hl,hp⟩:=ih (fun i hi => h i (by omega))
  obtain ⟨x,hx⟩:=h n (by omega)
  refine ⟨l++[x],by simp [hl],fun i hi => ?_⟩
  rcases Nat.lt_or_ge i l.length with k|k
  ·rw [List.getElem_append_left k];exact hp i k
  ·have:i=l.length:=by simp at hi;omega
   subst this
   rw [List.getElem_append_right (Nat.le_refl _)]
   simp only [Nat.sub_self,List.getElem_cons_zero]
   rw [hl];exact hx

theorem zmy {fuel:Nat} {v:Value} {x:DataW H × List MemPlace} (h:DataW.trod enc Tryz.prog W base (fun _ => true) true fuel 22 [v]=some x):∃ l,RdC W v l:=by
 rcases open_slice Tryz.underlying22 h with ⟨hcs,_⟩|⟨a,len,cap,m,n,D,Pl,hcs,_,hl,hm,hmm,_,hi⟩
 ·simp only [List.cons.injEq,and_true] at hcs
  subst hcs
  exact ⟨[],none,0,rfl,Nat.le_refl _,Nat.zero_le _,fun i hi => absurd hi (by simp)⟩
 ·simp only [List.cons.injEq,and_true] at hcs
  subst hcs
  rw [zlq] at hi
  have hsp:0<len->a.spot=none:=fun h0 => by
   obtain ⟨cs,hc,ht⟩:=hi 0 (by simp only [hmm,if_true];omega)
   obtain ⟨op,to,xa,xb,ng,vn,vd,ln,ld,rfl,h1,h2,i0,i1,i2,i3⟩:=zgN ht
   obtain ⟨_,hcl,hat⟩:=World.cells?_some hc
   have g0:=hat 0 (by simp)
   rw [show (a.add (0*7)).add 0=a by simp [Addr.add]] at g0
   exact World.cell?_spot g0
  have key:∀ i,i<len->∃ y:Ins,∃ b off,some a=some ⟨b,off,none⟩/\At7 W b (off+i*7) y:=by
   intro i hil
   obtain ⟨cs,hc,ht⟩:=hi i (by simp only [hmm,if_true];omega)
   obtain ⟨op,to,xa,xb,ng,vn,vd,ln,ld,rfl,h1,h2,i0,i1,i2,i3⟩:=zgN ht
   obtain ⟨_,hcl,hat⟩:=World.cells?_some hc
   obtain ⟨b,off,spot⟩:=a
   have hspot:spot=none:=hsp (by omega)
   subst hspot
   have g0:=hat 0 (by simp)
   have g1:=hat 1 (by simp)
   have g2:=hat 2 (by simp)
   have g3:=hat 3 (by simp)
   have g4:=hat 4 (by simp)
   have g5:=hat 5 (by simp)
   have g6:=hat 6 (by simp)
   simp only [zgb,Nat.add_zero,List.getElem?_cons_zero,List.getElem?_cons_succ] at g0 g1 g2 g3 g4 g5 g6
   exact ⟨⟨op,to,xa,xb,⟨ng,ln,ld⟩⟩,b,off,rfl,g0,g1,g2,g3,⟨vn,vd,g4,g5,g6,h1,h2⟩,i0,i1,i2,i3⟩
  obtain ⟨l,hl1,hl2⟩:=zgm key
  subst hl1
  exact ⟨l,some a,cap,rfl,hl,hm,fun i hi => let ⟨b,off,e,k⟩:=hl2 i hi;⟨b,off,e,k⟩⟩

theorem open_codeV {r:Reach} {b0:Nat} {v:Value} {d:DataW H} {p:List MemPlace} (hv:Value.okWide Tryz.prog W r b0 24 v) (h:DataW.Trod enc Tryz.prog W base (fun _ => true) true 24 v d p) :
  ∃ (c:Cd) (u:Value),v=aggC c u/\IsC W c u:=by
 obtain ⟨cs,rfl,hsz⟩:=okWide_struct Tryz.underlying24 hv
 obtain ⟨l⟩:=cs
 rw [k_code] at hsz
 match l,hsz with
 | [c0,c1,c2,c3,c4],_ =>
  obtain ⟨fuel,hf⟩:=h
  obtain ⟨xs,n,_,hx,hl,hlen,hg⟩:=DataW.trod_struct Tryz.underlying24 hf
  have hxs:xs.length=5:=hlen
  match xs,hxs with
  | [y0,y1,y2,y3,y4],_ =>
   have e0:=hg 0 _ rfl
   have e1:=hg 1 _ rfl
   have e2:=hg 2 _ rfl
   have e3:=hg 3 _ rfl
   have e4:=hg 4 _ rfl
   simp [k_int,k_instrs,Value.cells] at e0 e1 e2 e3 e4
   obtain ⟨z0,rfl,i0⟩:=zbY e0
   obtain ⟨z1,rfl,i1⟩:=zbY e1
   obtain ⟨z2,rfl,i2⟩:=zbY e2
   obtain ⟨z3,rfl,i3⟩:=zbY e3
   obtain ⟨m,hm⟩:=zmy e4
   exact ⟨⟨z0,z1,z2,z3,m⟩,c4,rfl,hm,i0,i1,i2,i3⟩

theorem zmz {fuel:Nat} {v:Value} {x:DataW H × List MemPlace} (h:DataW.trod enc Tryz.prog W base (fun _ => true) true fuel 29 [v]=some x):∃ l,RdR W v l:=by
 rcases open_slice Tryz.underlying29 h with ⟨hcs,_⟩|⟨a,len,cap,m,n,D,Pl,hcs,_,hl,hm,hmm,_,hi⟩
 ·simp only [List.cons.injEq,and_true] at hcs
  subst hcs
  exact ⟨[],none,0,rfl,Nat.le_refl _,Nat.zero_le _,fun i hi => absurd hi (by simp)⟩
 ·simp only [List.cons.injEq,and_true] at hcs
  subst hcs
  rw [k_rat] at hi
  have hsp:0<len->a.spot=none:=fun h0 => by
   obtain ⟨cs,hc,ht⟩:=hi 0 (by simp only [hmm,if_true];omega)
   obtain ⟨ng,vn,vd,ln,ld,rfl,h1,h2⟩:=zgO ht
   obtain ⟨_,hcl,hat⟩:=World.cells?_some hc
   have g0:=hat 0 (by simp)
   rw [show (a.add (0*3)).add 0=a by simp [Addr.add]] at g0
   exact World.cell?_spot g0
  have key:∀ i,i<len->∃ y:Rt,∃ b off,some a=some ⟨b,off,none⟩/\At3 W b (off+i*3) y:=by
   intro i hil
   obtain ⟨cs,hc,ht⟩:=hi i (by simp only [hmm,if_true];omega)
   obtain ⟨ng,vn,vd,ln,ld,rfl,h1,h2⟩:=zgO ht
   obtain ⟨_,hcl,hat⟩:=World.cells?_some hc
   obtain ⟨b,off,spot⟩:=a
   have hspot:spot=none:=hsp (by omega)
   subst hspot
   have g0:=hat 0 (by simp)
   have g1:=hat 1 (by simp)
   have g2:=hat 2 (by simp)
   simp only [zgb,Nat.add_zero,List.getElem?_cons_zero,List.getElem?_cons_succ] at g0 g1 g2
   exact ⟨⟨ng,ln,ld⟩,b,off,rfl,vn,vd,g0,g1,g2,h1,h2⟩
  obtain ⟨l,hl1,hl2⟩:=zgm key
  subst hl1
  exact ⟨l,some a,cap,rfl,hl,hm,fun i hi => let ⟨b,off,e,k⟩:=hl2 i hi;⟨b,off,e,k⟩⟩

theorem open_ratsV {r:Reach} {b0:Nat} {v:Value} {d:DataW H} {p:List MemPlace} (hv:Value.okWide Tryz.prog W r b0 29 v) (h:DataW.Trod enc Tryz.prog W base (fun _ => true) true 29 v d p) :
  ∃ l,RdR W v l:=by
 obtain ⟨a,len,cap,rfl⟩:=okWide_slice Tryz.underlying29 hv
 obtain ⟨fuel,hf⟩:=h
 exact zmz hf

end

end Go.Proofs.YtkjcdnlpjldhaaaGreat

