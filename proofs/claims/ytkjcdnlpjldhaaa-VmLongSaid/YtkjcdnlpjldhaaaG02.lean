/-
  The texts Base, merged.
-/
import Derived.Test.YtkjcdnlpjldhaaaRows
import Derived.Test.YtkjcdnlpjldhaaaG01
import Derived.WalkKit
import Derived.WalkSpells
import Derived.WalkLawsBesides
import Derived.Laws.CopyOwn
import Derived.Laws.AppendOwnNone
import Derived.Lib.Hide
import Derived.Lib.AppendZeros
import Derived.Deep.QuietTactic
import Derived.BigQuiet
set_option linter.unusedVariables false
set_option linter.unusedSimpArgs false
set_option maxRecDepth 100000
set_option maxHeartbeats 400000000
namespace Go.Proofs.Ytkjcdnlpjldhaaa
open Go.RowKit Tw

theorem zr {k:IntKind} {a b:Int} (h:a=b):Value.int k a=.int k b:=by rw [h]

theorem zfU {a b c d:Value} (h1:a=c) (h2:b=d):Ending.returned (.tuple #[a,b])=.returned (.tuple #[c,d]):=by rw [h1,h2]

theorem zft {a b c d e f:Value} (h1:a=d) (h2:b=e) (h3:c=f):Ending.returned (.tuple #[a,b,c])=.returned (.tuple #[d,e,f]):=by rw [h1,h2,h3]

theorem zo {a b:Value} (h1:a=b):Ending.returned a=.returned b:=by rw [h1]

theorem quiet_l {P:Program} {f:FuncId} {args:Array Value} {w:World} {n:Nat} {v:Value}
  (h:Calls P f args (w.drewN n) fun e w' => e=.returned v/\w.drewN n=w'):Calls P f args (w.drewN n) fun e w'' => e=.returned v/\∃ m,w''=w.drewN m :=
 h.mono fun _ _ hh => ⟨hh.1,n,hh.2.symm⟩

abbrev zau (x:Nat):Value:=.int .u32 (x:Int)

def Rd (w:World) (v:Value) (l:List Nat):Prop :=
 Small l/\((l=[]/\∃ a cap,v=.slice a 0 cap/\cap<=maxLen/\(a=none->cap=0)) \/
  ∃ b off cap,v=.slice (some ⟨b,off,none⟩) l.length cap/\0<l.length/\l.length<=cap/\cap<=maxLen /\
   ∀ i,i<l.length->w.cell? ⟨b,off+i,none⟩=some (zau (nth l i)))

def Own (base:Nat) (w:World) (v:Value) (l:List Nat):Prop :=
 Small l/\w.ownsRow base 31 1 v l.length (l.map zau)

theorem zj {w:World} {b o:Nat} {u:Value} (h:w.cell? ⟨b,o,none⟩=some u):b<w.heap.size :=
 World.block_lt_of_cell? w ⟨b,o,none⟩ h

theorem Rd.below {w w':World} {v:Value} {l:List Nat} {B:Nat} (h:Rd w v l) (hb:Below B w w') (hB:w.heap.size<=B):Rd w' v l:=by
 refine ⟨h.1,?_⟩
 rcases h.2 with h|⟨b,off,cap,hv,hl,hc,hm,hcell⟩
 ·exact .inl h
 ·refine .inr ⟨b,off,cap,hv,hl,hc,hm,fun i hi => ?_⟩
  have h1:=hcell i hi
  rw [hb.cell (p:=⟨b,off+i,none⟩) (Nat.lt_of_lt_of_le (zj h1) hB)]
  exact h1

theorem Rd.to {w w':World} {v:Value} {l:List Nat} (h:Rd w v l) (hb:Below w.heap.size w w'):Rd w' v l:=h.below hb (Nat.le_refl _)

theorem Rd.alloc {w:World} {v:Value} {l:List Nat} (h:Rd w v l) (o:Obj):Rd (w.alloc o) v l :=
 h.to ((Below.refl _ _).alloc (Nat.le_refl _) _)

theorem Rd.drew {w:World} {v:Value} {l:List Nat} (h:Rd w v l):Rd w.drew v l:=h.to (Below.refl _ _).drew

theorem Rd.drewN {w:World} {v:Value} {l:List Nat} (h:Rd w v l) (n:Nat):Rd (w.drewN n) v l:=h.to (below_drewN (Below.refl _ _) n)

theorem Rd.len_le {w v l} (h:Rd w v l):l.length<=maxLen:=by
 rcases h.2 with ⟨rfl,_⟩|⟨b,off,cap,hv,hl,hc,hm,hcell⟩
 ·simp
 ·omega

theorem Rd.open {w:World} {v:Value} {l:List Nat} (h:Rd w v l):∃ a n cap,v=.slice a n cap/\Hid (l.length=n)/\n<=maxLen:=by
 have hm:=h.len_le
 rcases h.2 with ⟨rfl,a,cap,hv,_⟩|⟨b,off,cap,hv,_⟩
 ·exact ⟨a,0,cap,hv,rfl,by simp⟩
 ·exact ⟨_,_,cap,hv,rfl,hm⟩

theorem Rd.nil (w:World):Rd w (.slice none 0 0) []:=⟨zbv,.inl ⟨rfl,none,0,rfl,by simp,fun _ => rfl⟩⟩

theorem Rd.shape {w:World} {v:Value} {l:List Nat} (h:Rd w v l):∃ a cap,v=.slice a l.length cap:=by
 rcases h.2 with ⟨rfl,a,cap,hv,_⟩|⟨b,off,cap,hv,_⟩
 ·exact ⟨a,cap,hv⟩
 ·exact ⟨_,cap,hv⟩

theorem Rd.take {w:World} {a:Option Addr} {len cap:Nat} {l:List Nat} (h:Rd w (.slice a len cap) l) (n:Nat) (hn:n<=l.length):Rd w (.slice a n cap) (l.take n):=by
 have hlen:(l.take n).length=n:=by rw [List.length_take];omega
 refine ⟨h.1.take n,?_⟩
 rcases h.2 with ⟨rfl,a',cap',hv,hm,hnone⟩|⟨b,off,cap',hv,hl,hc,hm,hcell⟩
 ·injection hv with h1 h2 h3
  subst h1;subst h3
  have:n=0:=by simpa using hn
  subst this
  exact .inl ⟨rfl,a,cap,rfl,hm,hnone⟩
 ·injection hv with h1 h2 h3
  subst h1;subst h3
  by_cases h0:n=0
  ·subst h0
   exact .inl ⟨by simp,_,cap,rfl,hm,fun h => by cases h⟩
  ·refine .inr ⟨b,off,cap,by rw [hlen],by omega,by omega,hm,fun i hi => ?_⟩
   rw [hlen] at hi
   rw [zeI hi]
   exact hcell i (by omega)

theorem Rd.len_cap {w:World} {a:Option Addr} {len cap:Nat} {l:List Nat} (h:Rd w (.slice a len cap) l):l.length<=cap:=by
 rcases h.2 with ⟨rfl,_⟩|⟨b,off,cap',hv,hl,hc,hm,hcell⟩
 ·simp
 ·injection hv with h1 h2 h3
  omega

theorem Rd.at {w:World} {a:Option Addr} {len cap:Nat} {l:List Nat} (h:Rd w (.slice a len cap) l) (h0:0<l.length) :
  ∃ b off,a=some ⟨b,off,none⟩/\len=l.length/\l.length<=cap/\cap<=maxLen/\∀ i,i<l.length->w.cell? ⟨b,off+i,none⟩=some (zau (nth l i)):=by
 rcases h.2 with ⟨rfl,_⟩|⟨b,off,cap',hv,hl,hc,hm,hcell⟩
 ·simp at h0
 ·injection hv with h1 h2 h3
  subst h3
  exact ⟨b,off,h1,h2,hc,hm,hcell⟩

theorem Rd.cells {w:World} {a:Option Addr} {len cap:Nat} {l:List Nat} (h:Rd w (.slice a len cap) l) (h0:0<l.length) :
  ∃ b off,a=some ⟨b,off,none⟩/\∀ i,i<l.length->w.cell? ⟨b,off+i,none⟩=some (zau (nth l i)) :=
 let ⟨b,off,h1,_,_,_,h2⟩:=h.at h0
 ⟨b,off,h1,h2⟩

theorem Own.rd {base:Nat} {w:World} {v:Value} {l:List Nat} (h:Own base w v l):Rd w v l:=by
 refine ⟨h.1,?_⟩
 obtain ⟨hl,h2⟩:=h.2
 rcases h2 with ⟨rfl,h0⟩|⟨g,cap,cur,rfl,hg,hh,hn,hm,hs,hx⟩
 ·have:l=[]:=List.eq_nil_of_length_eq_zero h0
  subst this
  exact .inl ⟨rfl,none,0,rfl,by simp,fun _ => rfl⟩
 ·by_cases h0:l.length=0
  ·have:l=[]:=List.eq_nil_of_length_eq_zero h0
   subst this
   exact .inl ⟨rfl,_,cap,rfl,hm,fun h => by cases h⟩
  ·refine .inr ⟨g,0,cap,rfl,by omega,hn,hm,fun i hi => ?_⟩
   have:=World.ownsRow.cellAt (w:=w) (base:=base) (e:=31) (size:=1) (g:=g) (n:=l.length) (cap:=cap) (xs:=l.map zau) h.2 i (by omega)
   rw [Nat.zero_add,this,List.getElem?_map,zaH hi,List.getElem?_eq_getElem hi]
   rfl

theorem Own.mono {base base':Nat} {w:World} {v:Value} {l:List Nat} (h:Own base w v l) (hb:base'<=base):Own base' w v l:=by
 refine ⟨h.1,h.2.1,?_⟩
 rcases h.2.2 with h2|⟨g,cap,cur,hv,hg,r⟩
 ·exact .inl h2
 ·exact .inr ⟨g,cap,cur,hv,Nat.le_trans hb hg,r⟩

theorem Own.lt {base:Nat} {w:World} {v:Value} {l:List Nat} (h:Own base w v l):∀ k,v.ownBlock=some k->base<=k/\k<w.heap.size:=h.2.lt

theorem Own.to {base:Nat} {w w':World} {v:Value} {l:List Nat} (h:Own base w v l) (hb:Below w.heap.size w w'):Own base w' v l:=by
 refine ⟨h.1,h.2.1,?_⟩
 rcases h.2.2 with h2|⟨g,cap,cur,hv,hg,hh,r⟩
 ·exact .inl h2
 ·refine .inr ⟨g,cap,cur,hv,hg,?_,r⟩
  have hlt:g<w.heap.size:=by
   rcases Nat.lt_or_ge g w.heap.size with h|h
   ·exact h
   ·rw [Array.getElem?_eq_none h] at hh;cases hh
  rw [hb.block g hlt];exact hh

theorem Own.alloc {base:Nat} {w:World} {v:Value} {l:List Nat} (h:Own base w v l) (o:Obj):Own base (w.alloc o) v l :=
 h.to ((Below.refl _ _).alloc (Nat.le_refl _) _)

theorem Own.drew {base:Nat} {w:World} {v:Value} {l:List Nat} (h:Own base w v l):Own base w.drew v l:=h.to (Below.refl _ _).drew

theorem Own.nil (base:Nat) (w:World):Own base w (.slice none 0 0) []:=⟨zbv,World.ownsRow_nil w base _ 1⟩

theorem bS {w w1 w2:World} (h:Below w.heap.size w w1) (k:Below w1.heap.size w1 w2):Below w.heap.size w w2 :=
 h.trans (k.mono h.size)

def zcg (w:World) (l:List Nat) (e:Ending) (w':World):Prop :=
 ∃ v,e=.returned v/\Own w.heap.size w' v l/\Below w.heap.size w w'

theorem zbK (w:World) (l:List Nat) (hs:Small l) (hm:l.length<=maxLen) :
  Own w.heap.size (w.alloc (.cells (l.map zau).toArray 31)) (.slice (some ⟨w.heap.size,0,none⟩) l.length l.length) l:=by
 have:=World.ownsRow_lit (base:=w.heap.size) (e:=31) (size:=1) w (l.map zau).toArray l.length (Nat.le_refl _) hm (by simp)
 exact ⟨hs,by simpa using this⟩

theorem zaJ (w:World) (n:Nat) (l:List Nat) (hn:n=w.heap.size) (hs:Small l) (hm:l.length<=maxLen) :
  Own w.heap.size (w.alloc (.cells (l.map zau).toArray 31)) (.slice (some ⟨n,0,none⟩) l.length l.length) l:=by
 subst hn
 exact zbK w l hs hm

theorem zcj (b off j:Nat):(⟨b,off,none⟩:Addr).add j=⟨b,off+j,none⟩:=by
 unfold Addr.add
 split <;> simp_all

theorem zhO:(Try.prog.info? 31).map (fun i => (i.zero,i.size,i.bytes))=some (some (.int .u32 0),1,4):=by kernel_rfl

theorem zgD (l:List Nat) (u:Value) (h:u ∈ l.map zau):u.oneCell'=true:=by
 obtain ⟨x,_,rfl⟩:=List.mem_map.1 h
 rfl

theorem map_getElem? {l:List Nat} {j:Nat} {u:Value} (h:(l.map zau)[j]?=some u):j<l.length/\u=zau (nth l j):=by
 rw [List.getElem?_map] at h
 by_cases hj:j<l.length
 ·rw [List.getElem?_eq_getElem hj] at h
  refine ⟨hj,?_⟩
  rw [zaH hj]
  simpa using h.symm
 ·rw [List.getElem?_eq_none (by omega)] at h;cases h

theorem zbN (w:World) {ops:Array Oper} {rest:List Oper} {o:Oper} {a:Act} {Q:Exit->Act->World->Prop} (hg:o.guard=none)
  (l c:Operand) (hop:o.op=Op.makeSlice 23 l c) (kl kc:IntKind) (L C:Int) (n:Nat) (hl:a.eval l=Value.int kl L) (hc:a.eval c=Value.int kc C) (hL:L=↑n) (hC:C=↑n)
  (hn:n<=1099511627776)
  (hK:∀ w',Own w.heap.size w' (.slice (some ⟨w.heap.size,0,none⟩) n n) (List.replicate n 0)->Below w.heap.size w w'->w.heap.size<w'.heap.size ->
   wpList Try.prog ops Q rest (a.put o.dst (.slice (some ⟨w.heap.size,0,none⟩) n n)) w') :
  wpList Try.prog ops Q (o :: rest) a w:=by
 obtain ⟨i0,hi,hz0,hz1,hz2⟩:=info_parts zhO
 refine wpList_make_full w hg l c 23 hop w.heap.size 31 i0 (.int .u32 0) 1 Try.underlying23 hi hz0 hz1 kl kc L C n hl hc hL hC (by rw [hz2];omega) (by simp [maxLen];omega) (Nat.le_refl _) ?_
 intro w' hown hgrow
 have e:(madeCells (Value.int .u32 0).cells (n*1)).toList=(List.replicate n 0).map zau:=by
  rw [Nat.mul_one,show (Value.int .u32 0).cells=#[.int .u32 0] from rfl,toList_madeCells_one,List.map_replicate]
  rfl
 rw [e] at hown
 have hb:Below w.heap.size w w':=(Below.refl _ _).grown hgrow (Nat.le_refl _) (fun k hk => by cases hk)
 have hlt:=(hown.lt w.heap.size rfl).2
 exact hK w' ⟨zed n,by simpa using hown⟩ hb hlt

theorem zaZ (w:World) {ops:Array Oper} {rest:List Oper} {o:Oper} {a:Act} {Q:Exit->Act->World->Prop} (hg:o.guard=none)
  (s x:Operand) (ho:o.op=Op.call { callee:=Callee.builtin Builtin.append,args:=#[s,x],argTypes:=#[23,23] })
  (base:Nat) (v vx:Value) (l m:List Nat) (hs:a.eval s=v) (hx:a.eval x=vx) (hown:Own base w v l) (hrd:Rd w vx m) (hbase:base<=w.heap.size)
  (hn:l.length+m.length<=1099511627776)
  (hK:∀ v' w',Own base w' v' (l++m)->Below base w w'->base<=w'.heap.size->wpList Try.prog ops Q rest (a.put o.dst v') w') :
  wpList Try.prog ops Q (o :: rest) a w:=by
 obtain ⟨i0,hi,hz0,hz1,hz2⟩:=info_parts zhO
 have hsm:Small (l++m):=zfW.2 ⟨hown.1,hrd.1⟩
 have fin:∀ (ad:Addr) (c:Nat),vx=.slice (some ad) m.length c->(∀ j u,(m.map zau)[j]?=some u->w.cell? (ad.add j)=some u) ->
   wpList Try.prog ops Q (o :: rest) a w:=by
  intro ad c hv hcells
  refine wpList_append_own w hg s x 23 ho base 31 i0 (.int .u32 0) 1 4 Try.underlying23 hi hz0 hz1 hz2 rfl (by decide) v l.length (l.map zau) hs hown.2 ad m.length c (m.map zau)
   (by rw [hx,hv]) (by simp) hcells (zgD m) (by simp [maxLen];omega) (by omega) hbase ?_
  intro v' w' hown' hgrow _
  refine hK v' w' ⟨hsm,?_⟩ ((Below.refl _ _).grown hgrow hbase (fun k hk => (hown.lt k hk).1)) (Nat.le_trans hbase hgrow.size)
  rw [List.length_append,List.map_append];exact hown'
 rcases hrd.2 with ⟨rfl,ad,cap,hv,hm,hnone⟩|⟨b,off,cap,hv,hl,hc,hm,hcell⟩
 ·cases ad with
  | none =>
   have:=hnone rfl
   subst this
   refine wpList_append_own_none hg s x 23 ho base 31 i0 1 Try.underlying23 hi v l.length (l.map zau) hs hown.2 (by rw [hx,hv]) ?_
   have:=hK v w (by simpa using hown) (Below.refl _ _) hbase
   exact this
  | some ad => exact fin ad cap hv (by simp)
 ·refine fin ⟨b,off,none⟩ cap hv (fun j u hj => ?_)
  obtain ⟨h1,rfl⟩:=map_getElem? hj
  rw [zcj];exact hcell j h1

theorem wp_copy (w:World) {ops:Array Oper} {rest:List Oper} {o:Oper} {a:Act} {Q:Exit->Act->World->Prop} (hg:o.guard=none)
  (d s:Operand) (ho:o.op=Op.call { callee:=Callee.builtin Builtin.copy,args:=#[d,s],argTypes:=#[23,23] })
  (base g n cap:Nat) (vx:Value) (z l:List Nat) (hd:a.eval d=.slice (some ⟨g,0,none⟩) n cap) (hs:a.eval s=vx)
  (hown:Own base w (.slice (some ⟨g,0,none⟩) n cap) z) (hrd:Rd w vx l) (hn:n<=l.length)
  (hK:∀ w',Own base w' (.slice (some ⟨g,0,none⟩) n cap) (l.take n)->Below base w w'->base<=w'.heap.size->wpList Try.prog ops Q rest (a.put o.dst (.int .i64 n)) w') :
  wpList Try.prog ops Q (o :: rest) a w:=by
 obtain ⟨i0,hi,hz0,hz1,hz2⟩:=info_parts zhO
 have hsz:Option.map (fun x => x.size) (Try.prog.info? 31)=some 1:=by rw [hi];simp [hz1]
 have hnz:n=z.length:=by
  rcases hown.2.2 with ⟨h2,_⟩|⟨g',cap',cur,hv,_⟩
  ·cases h2
  ·injection hv
 obtain ⟨ax,capx,rfl⟩:=hrd.shape
 rcases hown.2.2 with ⟨h4,_⟩|⟨g',cap',cur,hv,hbg,hh,hnc,hcm,hcs,htake⟩
 ·cases h4
 ·injection hv with hv1 hv2 hv3
  injection hv1 with hv1
  injection hv1 with hv1 _
  subst hv1;subst hv3
  have hlen:((l.take n).map zau).length=n:=by rw [List.length_map,List.length_take];omega
  refine wpList_copy_splice hg d s 23 23 ho 31 Try.underlying23 hsz (some ⟨g,0,none⟩) ax n cap l.length capx hd hs g 0 cur.toList 31 (by simpa using hh) ((l.take n).map zau)
   (by rw [hlen];exact (Nat.min_eq_right hn).symm) ?_ (by rw [hlen];simp;omega) (zgD _) base w (Below.refl _ _) hbg ?_
  ·intro hp
   refine ⟨rfl,?_⟩
   rw [hlen] at hp
   obtain ⟨b,off,rfl,_,_,_,hcell⟩:=hrd.at (by omega)
   refine ⟨_,rfl,fun j u hj => ?_⟩
   obtain ⟨h1,rfl⟩:=map_getElem? hj
   rw [List.length_take] at h1
   rw [zcj,zeI (by omega)]
   exact hcell j (by omega)
  ·intro w' hw' hb'
   have hge:base<=w'.heap.size:=by
    have h1:=hb'.size
    have h2:g<w.heap.size:=(hown.lt g rfl).2
    omega
   have hown':Own base w' (.slice (some ⟨g,0,none⟩) n cap) (l.take n):=by
    refine ⟨hrd.1.take n,by simp,.inr ⟨g,cap,_,?_,hbg,hw'.out,?_,hcm,?_,?_⟩⟩
    ·rw [List.length_take,Nat.min_eq_left hn]
    ·rw [List.length_take];omega
    ·simp only [List.size_toArray]
     rw [length_splice _ _ _ (by rw [hlen];simp;omega)];simpa using hcs
    ·simp only [splice,List.take_zero,List.nil_append,Nat.mul_one]
     have hlt:(l.take n).length=n:=by rw [List.length_take];omega
     rw [hlt,List.take_append_of_le_length (by rw [hlen];exact Nat.le_refl _),List.take_of_length_le (by rw [hlen];exact Nat.le_refl _)]
   have e:goInt ((l.take n).map zau).length=.int .i64 n:=by rw [hlen];rfl
   have:=hK w' hown' hb' hge
   rw [e];exact this

theorem zgR {base:Nat} {w:World} {g n cap:Nat} {l:List Nat} (h:Own base w (.slice (some ⟨g,0,none⟩) n cap) l) {i:Nat} (hi:i<l.length) :
  w.cell? ⟨g,i,none⟩=some (zau (nth l i))/\w.frozen? ⟨g,i,none⟩=false/\g<w.heap.size/\base<=g/\n=l.length/\n<=cap/\cap<=maxLen:=by
 have hn:n=l.length:=by
  rcases h.2.2 with ⟨h2,_⟩|⟨g',cap',cur,hv,_⟩
  ·cases h2
  ·injection hv
 subst hn
 have h1:=World.ownsRow.cellAt (w:=w) (base:=base) (e:=31) (size:=1) (xs:=l.map zau) h.2 i (by omega)
 have h2:=World.ownsRow.frozenAt (w:=w) (base:=base) (e:=31) (size:=1) (xs:=l.map zau) h.2 i
 have h3:=h.2.lt g rfl
 refine ⟨?_,h2,h3.2,h3.1,rfl,?_⟩
 ·rw [h1,List.getElem?_map,zaH hi,List.getElem?_eq_getElem hi];rfl
 ·rcases h.2.2 with ⟨h4,_⟩|⟨g',cap',cur,hv,hg,hh,hn,hm,_⟩
  ·cases h4
  ·injection hv with _ _ hc
   subst hc
   exact ⟨hn,hm⟩

theorem zay {base:Nat} {w:World} {g n cap:Nat} {l:List Nat} (h:Own base w (.slice (some ⟨g,0,none⟩) n cap) l) {i:Nat} (hi:i<l.length) :
  w.cell? ⟨g,i,none⟩=some (zau (nth l i))/\w.frozen? ⟨g,i,none⟩=false:=⟨(zgR h hi).1,(zgR h hi).2.1⟩

theorem own_len {base:Nat} {w:World} {a:Option Addr} {n cap:Nat} {l:List Nat} (h:Own base w (.slice a n cap) l):n=l.length:=by
 rcases h.2.2 with ⟨h2,h3⟩|⟨g',cap',cur,hv,_⟩
 ·injection h2 with _ h4 _;omega
 ·injection hv

theorem zaY {base:Nat} {w:World} {g n cap:Nat} {l:List Nat} (h:Own base w (.slice (some ⟨g,0,none⟩) n cap) l) (i x:Nat) (hx:x<B) :
  Own base (w.setCell ⟨g,i,none⟩ (zau x)) (.slice (some ⟨g,0,none⟩) n cap) (l.set i x):=by
 have hn:=own_len h
 subst hn
 have h1:=(World.ownsRow.stored (w:=w) (base:=base) (e:=31) (size:=1) (xs:=l.map zau) h.2 i (zau x)).1
 refine ⟨fun y hy => ?_,?_⟩
 ·rcases List.mem_or_eq_of_mem_set hy with hy|rfl
  ·exact h.1 y hy
  ·exact hx
 ·rw [List.length_set,List.map_set];exact h1

end Go.Proofs.Ytkjcdnlpjldhaaa

