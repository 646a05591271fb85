/-
  The texts Bytes, merged.
-/
import Derived.Test.YtkjcdnlpjldhaaaG02
import Derived.Test.YtkjcdnlpjldhaaaG08
set_option linter.unusedVariables false
set_option linter.unusedSimpArgs false
set_option maxRecDepth 100000
set_option maxHeartbeats 400000000
namespace Go.Proofs.Ytkjcdnlpjldhaaa
open Go.RowKit Tw

abbrev u8v (x:Nat):Value:=.int .u8 (x:Int)

def zaP (base:Nat) (w:World) (v:Value) (l:List Nat):Prop :=
 (∀ x,x ∈ l->x<256)/\w.ownsRow base 5 1 v l.length (l.map u8v)

theorem zaP.nil (base:Nat) (w:World):zaP base w (.slice none 0 0) []:=⟨(fun _ h => by cases h),World.ownsRow_nil w base _ 1⟩

theorem zaP.mono {base base':Nat} {w:World} {v:Value} {l:List Nat} (h:zaP base w v l) (hb:base'<=base):zaP base' w v l:=by
 refine ⟨h.1,h.2.1,?_⟩
 rcases h.2.2 with h2|⟨g,cap,cur,hv,hg,r⟩
 ·exact .inl h2
 ·exact .inr ⟨g,cap,cur,hv,Nat.le_trans hb hg,r⟩

theorem zaP.to {base:Nat} {w w':World} {v:Value} {l:List Nat} (h:zaP base w v l) (hb:Below w.heap.size w w'):zaP base w' v l:=by
 refine ⟨h.1,h.2.1,?_⟩
 rcases h.2.2 with h2|⟨g,cap,cur,hv,hg,hh,r⟩
 ·exact .inl h2
 ·exact .inr ⟨g,cap,cur,hv,hg,by rw [hb.block g (Array.getElem?_eq_some_iff.1 hh).1];exact hh,r⟩

theorem zaP.alloc {base:Nat} {w:World} {v:Value} {l:List Nat} (h:zaP base w v l) (o:Obj):zaP base (w.alloc o) v l :=
 h.to ((Below.refl _ _).alloc (Nat.le_refl _) _)

theorem zaP.drew {base:Nat} {w:World} {v:Value} {l:List Nat} (h:zaP base w v l):zaP base w.drew v l:=h.to (Below.refl _ _).drew

theorem zaP.open {base:Nat} {w:World} {v:Value} {l:List Nat} (h:zaP base w v l):∃ a n cap,v=.slice a n cap/\Hid (l.length=n)/\(0<n->∃ g,a=some ⟨g,0,none⟩/\base<=g/\g<w.heap.size):=by
 rcases h.2.2 with ⟨rfl,h0⟩|⟨g,cap,cur,rfl,hg,hh,_⟩
 ·exact ⟨none,0,0,rfl,h0,fun h => absurd h (by omega)⟩
 ·exact ⟨_,_,cap,rfl,rfl,fun _ => ⟨g,rfl,hg,(Array.getElem?_eq_some_iff.1 hh).1⟩⟩

theorem info8:(Try.prog.info? 5).map (fun i => (i.zero,i.size,i.bytes))=some (some (.int .u8 0),1,1):=by kernel_rfl

theorem zeW (w:World) {ops:Array Oper} {rest:List Oper} {o:Oper} {a:Act} {Q:Exit->Act->World->Prop} (hg:o.guard=none)
  (s x:Operand) (ho:o.op=Op.call { callee:=Callee.builtin Builtin.append,args:=#[s,x],argTypes:=#[118,118] })
  (base:Nat) (v:Value) (b:Nat) (l:List Nat) (c:Nat) (hs:a.eval s=v) (hx:a.eval x=.slice (some ⟨b,0,none⟩) 1 1) (hown:zaP base w v l) (hc:c<256) (hcell:w.cell? ⟨b,0,none⟩=some (u8v c)) (hbase:base<=w.heap.size)
  (hn:l.length<=1099511627776)
  (hK:∀ v' w',zaP base w' v' (l++[c])->Below base w w'->base<=w'.heap.size->w.grownBy w' v.ownBlock->wpList Try.prog ops Q rest (a.put o.dst v') w') :
  wpList Try.prog ops Q (o :: rest) a w:=by
 obtain ⟨i0,hi,hz0,hz1,hz2⟩:=info_parts info8
 refine wpList_append_own w hg s x 118 ho base 5 i0 (.int .u8 0) 1 1 Try.underlying118 hi hz0 hz1 hz2 rfl (by decide) v l.length (l.map u8v) hs hown.2 ⟨b,0,none⟩ 1 1 [u8v c]
  hx (by simp) (fun j u hj => ?_) (fun u hu => ?_) (by simp [maxLen];omega) (by omega) hbase ?_
 ·cases j with
  | zero => simp at hj;subst hj;rw [zcj];exact hcell
  | succ j => simp at hj
 ·rw [List.mem_singleton] at hu;subst hu;rfl
 ·intro v' w' hown' hgrow _
  refine hK v' w' ⟨fun y hy => ?_,?_⟩ ((Below.refl _ _).grown hgrow hbase (fun k hk => (hown.2.lt k hk).1)) (Nat.le_trans hbase hgrow.size) hgrow
  ·rcases List.mem_append.1 hy with hy|hy
   ·exact hown.1 y hy
   ·rw [List.mem_singleton] at hy;subst hy;exact hc
  ·rw [List.length_append,List.map_append];exact hown'

theorem zdd {base:Nat} {w:World} {a:Option Addr} {n cap:Nat} {l:List Nat} (h:zaP base w (.slice a n cap) l):n=l.length:=by
 rcases h.2.2 with ⟨h2,h3⟩|⟨g',cap',cur,hv,_⟩
 ·injection h2 with _ h4 _;omega
 ·injection hv

theorem zdz {base:Nat} {w:World} {g n cap:Nat} {l:List Nat} (h:zaP base w (.slice (some ⟨g,0,none⟩) n cap) l) {i:Nat} (hi:i<l.length) :
  w.cell? ⟨g,i,none⟩=some (u8v (nth l i))/\w.frozen? ⟨g,i,none⟩=false:=by
 have hn:=zdd h
 subst hn
 have h1:=World.ownsRow.cellAt (w:=w) (base:=base) (e:=5) (size:=1) (xs:=l.map u8v) h.2 i (by omega)
 have h2:=World.ownsRow.frozenAt (w:=w) (base:=base) (e:=5) (size:=1) (xs:=l.map u8v) h.2 i
 refine ⟨?_,h2⟩
 rw [h1,List.getElem?_map,zaH hi,List.getElem?_eq_getElem hi];rfl

theorem zeJ {base:Nat} {w:World} {g n cap:Nat} {l:List Nat} (h:zaP base w (.slice (some ⟨g,0,none⟩) n cap) l) (i x:Nat) (hx:x<256) :
  zaP base (w.setCell ⟨g,i,none⟩ (u8v x)) (.slice (some ⟨g,0,none⟩) n cap) (l.set i x):=by
 have hn:=zdd h
 subst hn
 have h1:=(World.ownsRow.stored (w:=w) (base:=base) (e:=5) (size:=1) (xs:=l.map u8v) h.2 i (u8v x)).1
 refine ⟨fun y hy => ?_,?_⟩
 ·rcases List.mem_or_eq_of_mem_set hy with hy|rfl
  ·exact h.1 y hy
  ·exact hx
 ·rw [List.length_set,List.map_set];exact h1

theorem Own.grown {base:Nat} {w w':World} {row:Option Nat} {v:Value} {l:List Nat} (h:Own base w v l) (hg:w.grownBy w' row) (hr:∀ k,row=some k->k<base):Own base w' v l:=by
 refine ⟨h.1,h.2.1,?_⟩
 rcases h.2.2 with h2|⟨g,cap,cur,hv,hb,hh,r⟩
 ·exact .inl h2
 ·exact .inr ⟨g,cap,cur,hv,hb,by rw [hg.block g (Array.getElem?_eq_some_iff.1 hh).1 (fun e => absurd (hr g e.symm) (by omega))];exact hh,r⟩

theorem zjJ (w:World) (b n cap:Nat) (l:List Nat) (hn:l.length=n) (h:∀ i,i<l.length->w.cell? ⟨b,i,none⟩=some (u8v (nth l i))) :
  (convert 118 9 (.slice (some ⟨b,0,none⟩) n cap)).run Try.prog w=.ok (.string (ba l)) w:=by
 rw [run_convert_bytes_string w 118 9 5 _ _ _ Try.underlying118 Try.underlying5 Try.underlying9]
 have hl:=run_loadCells_list (P:=Try.prog) (w:=w) ⟨b,0,none⟩ (l.map u8v) (fun j v hj => by
  rw [List.getElem?_map] at hj
  by_cases hjl:j<l.length
  ·rw [List.getElem?_eq_getElem hjl] at hj
   injection hj with hj
   subst hj
   rw [zcj,Nat.zero_add,h j hjl,zaH hjl]
  ·rw [List.getElem?_eq_none (by omega)] at hj;cases hj)
 rw [List.length_map,hn] at hl
 have e:(l.map u8v)=(l.map (fun (x:Nat) => (x:Int))).map (Value.int .u8):=by rw [List.map_map];rfl
 rw [e] at hl
 rw [run_bytesToString w ⟨b,0,none⟩ n cap _ hl]
 congr 2
 have key:∀ (m:List Nat) (r:ByteArray),(m.map (fun (x:Nat) => (x:Int))).foldl (fun r n => r.push (UInt8.ofNat n.toNat)) r=r++ba m:=by
  intro m
  induction m with
  | nil =>
   intro r
   apply ByteArray.ext
   simp [ba,ByteArray.data_append]
  | cons x t ih =>
   intro r
   rw [List.map_cons,List.foldl_cons,ih]
   apply ByteArray.ext
   simp [ba,ByteArray.data_append,ByteArray.push]
 rw [key]
 apply ByteArray.ext
 simp [ByteArray.data_append]

theorem zaP.conv {base:Nat} {w:World} {g n cap:Nat} {l:List Nat} (h:zaP base w (.slice (some ⟨g,0,none⟩) n cap) l) :
  (convert 118 9 (.slice (some ⟨g,0,none⟩) n cap)).run Try.prog w=.ok (.string (ba l)) w :=
 zjJ w g n cap l (zdd h).symm (fun i hi => (zdz h hi).1)

def Half (l Z:List Nat) (k:Nat):Prop:=Z.length=l.length/\∀ i,i<l.length->nth Z i=if i<k\/l.length - k<=i then nth l (l.length - 1 - i) else nth l i

theorem zhM (l:List Nat):Half l l 0:=⟨rfl,fun i hi => by rw [if_neg (by omega)]⟩

theorem zjk {l Z:List Nat} {k j:Nat} (h:Half l Z k) (hkj:k<j) (hj:j+k+1=l.length):Half l ((Z.set k (nth Z j)).set j (nth Z k)) (k+1):=by
 refine ⟨by simpa using h.1,fun i hi => ?_⟩
 have h1:=h.2 k (by omega)
 have h2:=h.2 j (by omega)
 rw [if_neg (by omega)] at h1 h2
 by_cases hij:i=j
 ·subst hij
  rw [zaI (by simp [h.1];omega),h1,if_pos (by omega)]
  congr 1;omega
 ·rw [zbC (Ne.symm hij)]
  by_cases hik:i=k
  ·subst hik
   rw [zaI (by rw [h.1];omega),h2,if_pos (by omega)]
   congr 1;omega
  ·rw [zbC (Ne.symm hik),h.2 i hi]
   by_cases hc:i<k\/l.length - k<=i
   ·rw [if_pos hc,if_pos (by omega)]
   ·rw [if_neg hc,if_neg (by omega)]

theorem half_end {l Z:List Nat} {k:Nat} (h:Half l Z k) (hk:l.length<=2*k+1):Z=l.reverse:=by
 apply List.ext_getElem
 ·rw [h.1,List.length_reverse]
 ·intro i h1 h2
  have h3:i<l.length:=by rw [<- h.1];exact h1
  have h4:=h.2 i h3
  rw [zaH h1] at h4
  rw [h4,List.getElem_reverse]
  have h5:l.length - 1 - i<l.length:=by omega
  by_cases hc:i<k\/l.length - k<=i
  ·rw [if_pos hc,zaH h5]
  ·rw [if_neg hc]
   rw [<- zaH h5]
   congr 1;omega

theorem zgU (base g n cap:Nat) (l:List Nat) (w:World) (hown:zaP base w (.slice (some ⟨g,0,none⟩) n cap) l) (hg:base<=g) (h0:0<n) (h1:n<=1000000) :
  Calls Try.prog 86 #[.slice (some ⟨g,0,none⟩) n cap] w fun e w' => e=.returned (.tuple #[])/\zaP base w' (.slice (some ⟨g,0,none⟩) n cap) l.reverse/\Below base w w':=by
 have Hn:=Lib.hid (zdd hown)
 go_enter Try.func86,Try.ntmps86
 go_wp2_with fail
 go_loopw [2,3] (fun i j ww => ∃ k:Nat,2*k<=n/\i=.int .i64 k/\j=.int .i64 ((n:Int) - 1 - k)/\Below base w ww/\Hid (∃ Z,zaP base ww (.slice (some ⟨g,0,none⟩) n cap) Z/\Half l Z k)) (fun i _ _ => n - (intOf i).toNat)
 case atStart => exact ⟨0,by omega,rfl,by simp,Below.refl _ _,l,hown,zhM l⟩
 case round =>
  obtain ⟨k,hk,rfl,rfl,hbw,HZ⟩:=hrel
  obtain ⟨Z,hz,hh⟩:=HZ.out
  have Hh:=Lib.hid hh
  clear HZ hh
  by_cases hkj:2*k+1<n
  ·obtain ⟨j,hj⟩:∃ j,j+k+1=n:=⟨n - 1 - k,by omega⟩
   have hji:(n:Int) - 1 - k=(j:Int):=by omega
   rw [hji]
   have Hj:=Lib.hid hj
   have hlt:(k:Int)<(j:Int):=by omega
   have hkn:(k:Int)<(n:Int):=by omega
   have hjn:(j:Int)<(n:Int):=by omega
   have hzl:Z.length=n:=by rw [Hh.out.1];exact Hn.out.symm
   obtain ⟨c1,f1⟩:=zdz hz (show k<Z.length by omega)
   obtain ⟨c2,f2⟩:=zdz hz (show j<Z.length by omega)
   clear hji hj hzl
   go_wp2_with fail
   go_region_with (fail)
   all_goals
    have hx:=hz.1 (nth Z j) (by rw [zaH (by have:=Hh.out.1;have:=Hn.out;omega)];exact List.getElem_mem _)
    have hy:=hz.1 (nth Z k) (by rw [zaH (by have:=Hh.out.1;have:=Hn.out;omega)];exact List.getElem_mem _)
    have hz2:=(zeJ (zeJ hz k _ hx) j _ hy).drew
    have aL:=((hbw.setCell (p:=⟨g,k,none⟩) hg (u8v (nth Z j))).setCell (p:=⟨g,j,none⟩) hg (u8v (nth Z k))).drew
    have H2:=Lib.hid (zjk (k:=k) (j:=j) Hh.out (by omega) (by have:=Hj.out;have:=Hn.out;omega))
    clear c1 c2 f1 f2
    go_wp2_with fail
    go_roundw
    case rel => exact ⟨k+1,by omega,by go_num,zr (by have:=Hj.out;omega),aL,_,hz2,H2.out⟩
    case measure => simp [intOf];omega
  ·have Hf:=Lib.hid (half_end Hh.out (by have:=Hn.out;omega))
   have hlt:¬ (k:Int)<(n:Int) - 1 - k:=by omega
   go_wp2_with fail
   go_end0
   exact ⟨rfl,by rw [<- Hf.out];exact hz,hbw⟩

end Go.Proofs.Ytkjcdnlpjldhaaa

