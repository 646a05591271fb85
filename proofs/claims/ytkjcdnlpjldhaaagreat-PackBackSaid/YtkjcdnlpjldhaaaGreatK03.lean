/-
  The texts DeciMath, merged.
-/
import Derived.Test.YtkjcdnlpjldhaaaGreatK01
import Derived.Laws.Concat
set_option linter.unusedVariables false
set_option linter.unusedSimpArgs false
set_option maxRecDepth 100000
set_option maxHeartbeats 400000000
namespace Go.Proofs.YtkjcdnlpjldhaaaGreat
open Tw

def zfC:Nat->Nat->List Nat
 | 0,n => [48+n]
 | f+1,n => if n<10 then [48+n] else zfC f (n / 10)++[48+n % 10]

def zaP (n:Nat):List Nat:=zfC n n

theorem digsF_eq:∀ (n f g:Nat),n<=f->n<=g->zfC f n=zfC g n:=by
 intro n
 induction n using Nat.strongRecOn with
 | ind n ih =>
  intro f g hf hg
  by_cases h:n<10
  ·cases f <;> cases g <;> simp [zfC,h]
  ·obtain ⟨f,rfl⟩:∃ k,f=k+1:=⟨f - 1,by omega⟩
   obtain ⟨g,rfl⟩:∃ k,g=k+1:=⟨g - 1,by omega⟩
   simp only [zfC,if_neg h]
   rw [ih (n / 10) (by omega) f g (by omega) (by omega)]

theorem zbL {n:Nat} (h:n<10):zaP n=[48+n]:=by
 unfold zaP
 cases n with
 | zero => rfl
 | succ n => simp [zfC,h]

theorem zcS {n:Nat} (h:10<=n):zaP n=zaP (n / 10)++[48+n % 10]:=by
 unfold zaP
 obtain ⟨k,rfl⟩:∃ k,n=k+1:=⟨n - 1,by omega⟩
 have h1:¬ (k+1<10):=by omega
 show (if k+1<10 then [48+(k+1)] else zfC k ((k+1) / 10)++[48+(k+1) % 10])=_
 rw [if_neg h1,digsF_eq ((k+1) / 10) k ((k+1) / 10) (by omega) (Nat.le_refl _)]

def dval (l:List Nat):Nat:=l.foldl (fun a d => a*10+(d - 48)) 0

theorem zhA (l:List Nat) (d:Nat):dval (l++[d])=dval l*10+(d - 48):=by
 unfold dval;rw [List.foldl_append];rfl

theorem snoc_ind {P:List Nat->Prop} (h0:P []) (h1:∀ l d,P l->P (l++[d])):∀ l,P l:=by
 intro l
 rw [<- List.reverse_reverse l]
 induction l.reverse with
 | nil => exact h0
 | cons d t ih => rw [List.reverse_cons];exact h1 _ _ ih

theorem zmb (n:Nat):dval (zaP n)=n:=by
 induction n using Nat.strongRecOn with
 | ind n ih =>
  by_cases h:n<10
  ·rw [zbL h];simp [dval]
  ·rw [zcS (by omega),zhA,ih (n / 10) (by omega)]
   omega

def IsDig (d:Nat):Prop:=48<=d/\d<=57

theorem digs_dig (n:Nat):∀ d,d ∈ zaP n->IsDig d:=by
 induction n using Nat.strongRecOn with
 | ind n ih =>
  intro d hd
  by_cases h:n<10
  ·rw [zbL h,List.mem_singleton] at hd
   subst hd;exact ⟨by omega,by omega⟩
  ·rw [zcS (by omega),List.mem_append,List.mem_singleton] at hd
   rcases hd with hd|rfl
   ·exact ih (n / 10) (by omega) d hd
   ·exact ⟨by omega,by omega⟩

theorem zlp (n:Nat):zaP n≠[]:=by
 by_cases h:n<10
 ·rw [zbL h];simp
 ·rw [zcS (by omega)];simp

theorem zfE {l m:List Nat} (h:l≠[]):(l++m).head?=l.head?:=by
 cases l with
 | nil => exact absurd rfl h
 | cons x t => rfl

theorem zma {n:Nat} (h:n≠0):(zaP n).head?≠some 48:=by
 induction n using Nat.strongRecOn with
 | ind n ih =>
  by_cases h1:n<10
  ·rw [zbL h1]
   intro e
   injection e with e
   omega
  ·rw [zcS (by omega),zfE (zlp _)]
   exact ih (n / 10) (by omega) (by omega)

def OkText (l:List Nat):Prop:=l≠[]/\(∀ d,d ∈ l->IsDig d)/\(l.head?=some 48->l.length=1)

theorem dval_ge {l:List Nat} (h:l≠[]) (hd:∀ d,d ∈ l->IsDig d) (hh:l.head?≠some 48):10 ^ (l.length - 1)<=dval l:=by
 revert h hd hh
 induction l using snoc_ind with
 | h0 => intro h;exact absurd rfl h
 | h1 l d ih =>
  intro _ hd hh
  rw [zhA,List.length_append,List.length_singleton,Nat.add_sub_cancel]
  by_cases hl:l=[]
  ·subst hl
   have h1:=hd d (by simp)
   have h2:d≠48:=fun e => hh (by simp [e])
   have h3:=h1.1
   simp;omega
  ·have h1:=ih hl (fun x hx => hd x (List.mem_append_left _ hx)) (by rwa [zfE hl] at hh)
   obtain ⟨k,hk⟩:∃ k,l.length=k+1:=by
    cases l with
    | nil => exact absurd rfl hl
    | cons x t => exact ⟨t.length,rfl⟩
   rw [hk,Nat.add_sub_cancel] at h1
   rw [hk,Nat.pow_succ]
   omega

def zdo (n:Nat):Nat:=(zaP n).length

theorem ndig_ge {n:Nat} (h:n≠0):10 ^ (zdo n - 1)<=n:=by
 have:=dval_ge (zlp n) (digs_dig n) (zma h)
 rwa [zmb] at this

theorem ndig_le {n k:Nat} (hk:1<=k) (h:n<10 ^ k):zdo n<=k:=by
 by_cases h0:n=0
 ·subst h0;exact hk
 ·have h1:=ndig_ge h0
  rcases Nat.lt_or_ge k (zdo n) with h2|h2
  ·have:=Nat.pow_le_pow_right (n:=10) (by omega) (show k<=zdo n - 1 by omega)
   omega
  ·exact h2

def zfP (N X:Nat) (E:List Nat):Prop:=if X=0/\E≠[] then zaP N=E.reverse else zaP N=zaP X++E.reverse

theorem zlh (N:Nat):zfP N N []:=by
 unfold zfP;rw [if_neg (by simp)];simp

theorem zhY {N X:Nat} {E:List Nat} (h:zfP N X E) (hx:X≠0\/E=[]):zfP N (X / 10) (E++[48+X % 10]):=by
 unfold zfP at h ⊢
 rw [if_neg (by rintro ⟨h1,h2⟩;rcases hx with hx|hx <;> contradiction)] at h
 by_cases h1:X<10
 ·rw [if_pos ⟨by omega,by simp⟩,h,zbL h1,List.reverse_append]
  simp;omega
 ·rw [if_neg (by rintro ⟨h2,_⟩;omega),h,zcS (by omega),List.reverse_append]
  simp

theorem told_end {N:Nat} {E:List Nat} (h:zfP N 0 E) (he:E≠[]):E.reverse=zaP N:=by
 unfold zfP at h
 rw [if_pos ⟨rfl,he⟩] at h
 exact h.symm

theorem told_len {N X:Nat} {E:List Nat} (h:zfP N X E):E.length<=zdo N:=by
 unfold zfP at h
 unfold zdo
 split at h <;> rw [h] <;> simp

def zcr (N X:Nat) (E:List Nat):Prop:=zaP N=(if X=0 then E else zaP X++E)

theorem zjZ {N:Nat} (h:N≠0):zcr N N []:=by unfold zcr;rw [if_neg h];simp

theorem zlg {N X:Nat} {E:List Nat} (h:zcr N X E) (hx:X≠0):zcr N (X / 10) ((48+X % 10) :: E):=by
 unfold zcr at h ⊢
 rw [if_neg hx] at h
 by_cases h1:X<10
 ·rw [if_pos (by omega),h,zbL h1,show X % 10=X by omega];rfl
 ·rw [if_neg (by omega),h,zcS (by omega)];simp

theorem zmU {N:Nat} {E:List Nat} (h:zcr N 0 E):E=zaP N:=by
 unfold zcr at h;rw [if_pos rfl] at h;exact h.symm

theorem zmV {N X:Nat} {E:List Nat} (h:zcr N X E):E.length<=zdo N:=by
 unfold zcr at h
 unfold zdo
 split at h <;> rw [h] <;> simp

def ba (l:List Nat):ByteArray:=⟨(l.map UInt8.ofNat).toArray⟩

theorem zlU (l m:List Nat):ba l++ba m=ba (l++m):=by
 unfold ba
 rw [ByteArray.mk_append_mk,List.map_append]

theorem zgc (l:List Nat):(ba l).size=l.length:=by
 show ((l.map UInt8.ofNat).toArray).size=_
 simp

end Go.Proofs.YtkjcdnlpjldhaaaGreat

