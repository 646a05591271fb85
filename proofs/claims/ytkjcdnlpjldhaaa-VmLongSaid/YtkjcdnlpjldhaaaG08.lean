/-
  The texts DeciMath, merged.
-/
import Derived.Test.YtkjcdnlpjldhaaaG01
import Derived.Laws.Concat
set_option linter.unusedVariables false
set_option linter.unusedSimpArgs false
set_option maxRecDepth 100000
set_option maxHeartbeats 400000000
namespace Go.Proofs.Ytkjcdnlpjldhaaa
open Tw

def zdP:Nat->Nat->List Nat
 | 0,n => [48+n]
 | f+1,n => if n<10 then [48+n] else zdP f (n / 10)++[48+n % 10]

def zbH (n:Nat):List Nat:=zdP n n

theorem digsF_eq:∀ (n f g:Nat),n<=f->n<=g->zdP f n=zdP g n:=by
 intro n
 induction n using Nat.strongRecOn with
 | ind n ih =>
  intro f g hf hg
  by_cases h:n<10
  ·cases f <;> cases g <;> simp [zdP,h]
  ·obtain ⟨f,rfl⟩:∃ k,f=k+1:=⟨f - 1,by omega⟩
   obtain ⟨g,rfl⟩:∃ k,g=k+1:=⟨g - 1,by omega⟩
   simp only [zdP,if_neg h]
   rw [ih (n / 10) (by omega) f g (by omega) (by omega)]

theorem zbA {n:Nat} (h:n<10):zbH n=[48+n]:=by
 unfold zbH
 cases n with
 | zero => rfl
 | succ n => simp [zdP,h]

theorem zcl {n:Nat} (h:10<=n):zbH n=zbH (n / 10)++[48+n % 10]:=by
 unfold zbH
 obtain ⟨k,rfl⟩:∃ k,n=k+1:=⟨n - 1,by omega⟩
 have h1:¬ (k+1<10):=by omega
 show (if k+1<10 then [48+(k+1)] else zdP k ((k+1) / 10)++[48+(k+1) % 10])=_
 rw [if_neg h1,digsF_eq ((k+1) / 10) k ((k+1) / 10) (by omega) (Nat.le_refl _)]

def dval (l:List Nat):Nat:=l.foldl (fun a d => a*10+(d - 48)) 0

theorem zfl (l:List Nat) (d:Nat):dval (l++[d])=dval l*10+(d - 48):=by
 unfold dval;rw [List.foldl_append];rfl

theorem snoc_ind {P:List Nat->Prop} (h0:P []) (h1:∀ l d,P l->P (l++[d])):∀ l,P l:=by
 intro l
 rw [<- List.reverse_reverse l]
 induction l.reverse with
 | nil => exact h0
 | cons d t ih => rw [List.reverse_cons];exact h1 _ _ ih

theorem zjg (n:Nat):dval (zbH n)=n:=by
 induction n using Nat.strongRecOn with
 | ind n ih =>
  by_cases h:n<10
  ·rw [zbA h];simp [dval]
  ·rw [zcl (by omega),zfl,ih (n / 10) (by omega)]
   omega

def IsDig (d:Nat):Prop:=48<=d/\d<=57

theorem digs_dig (n:Nat):∀ d,d ∈ zbH n->IsDig d:=by
 induction n using Nat.strongRecOn with
 | ind n ih =>
  intro d hd
  by_cases h:n<10
  ·rw [zbA h,List.mem_singleton] at hd
   subst hd;exact ⟨by omega,by omega⟩
  ·rw [zcl (by omega),List.mem_append,List.mem_singleton] at hd
   rcases hd with hd|rfl
   ·exact ih (n / 10) (by omega) d hd
   ·exact ⟨by omega,by omega⟩

theorem ziu (n:Nat):zbH n≠[]:=by
 by_cases h:n<10
 ·rw [zbA h];simp
 ·rw [zcl (by omega)];simp

theorem zdR {l m:List Nat} (h:l≠[]):(l++m).head?=l.head?:=by
 cases l with
 | nil => exact absurd rfl h
 | cons x t => rfl

theorem zjd {n:Nat} (h:n≠0):(zbH n).head?≠some 48:=by
 induction n using Nat.strongRecOn with
 | ind n ih =>
  by_cases h1:n<10
  ·rw [zbA h1]
   intro e
   injection e with e
   omega
  ·rw [zcl (by omega),zdR (ziu _)]
   exact ih (n / 10) (by omega) (by omega)

theorem dval_ge {l:List Nat} (h:l≠[]) (hd:∀ d,d ∈ l->IsDig d) (hh:l.head?≠some 48):10 ^ (l.length - 1)<=dval l:=by
 revert h hd hh
 induction l using snoc_ind with
 | h0 => intro h;exact absurd rfl h
 | h1 l d ih =>
  intro _ hd hh
  rw [zfl,List.length_append,List.length_singleton,Nat.add_sub_cancel]
  by_cases hl:l=[]
  ·subst hl
   have h1:=hd d (by simp)
   have h2:d≠48:=fun e => hh (by simp [e])
   have h3:=h1.1
   simp;omega
  ·have h1:=ih hl (fun x hx => hd x (List.mem_append_left _ hx)) (by rwa [zdR hl] at hh)
   obtain ⟨k,hk⟩:∃ k,l.length=k+1:=by
    cases l with
    | nil => exact absurd rfl hl
    | cons x t => exact ⟨t.length,rfl⟩
   rw [hk,Nat.add_sub_cancel] at h1
   rw [hk,Nat.pow_succ]
   omega

def zdb (n:Nat):Nat:=(zbH n).length

theorem ndig_ge {n:Nat} (h:n≠0):10 ^ (zdb n - 1)<=n:=by
 have:=dval_ge (ziu n) (digs_dig n) (zjd h)
 rwa [zjg] at this

theorem ndig_le {n k:Nat} (hk:1<=k) (h:n<10 ^ k):zdb n<=k:=by
 by_cases h0:n=0
 ·subst h0;exact hk
 ·have h1:=ndig_ge h0
  rcases Nat.lt_or_ge k (zdb n) with h2|h2
  ·have:=Nat.pow_le_pow_right (n:=10) (by omega) (show k<=zdb n - 1 by omega)
   omega
  ·exact h2

def zdY (N X:Nat) (E:List Nat):Prop:=if X=0/\E≠[] then zbH N=E.reverse else zbH N=zbH X++E.reverse

theorem ziq (N:Nat):zdY N N []:=by
 unfold zdY;rw [if_neg (by simp)];simp

theorem zfz {N X:Nat} {E:List Nat} (h:zdY N X E) (hx:X≠0\/E=[]):zdY N (X / 10) (E++[48+X % 10]):=by
 unfold zdY at h ⊢
 rw [if_neg (by rintro ⟨h1,h2⟩;rcases hx with hx|hx <;> contradiction)] at h
 by_cases h1:X<10
 ·rw [if_pos ⟨by omega,by simp⟩,h,zbA h1,List.reverse_append]
  simp;omega
 ·rw [if_neg (by rintro ⟨h2,_⟩;omega),h,zcl (by omega),List.reverse_append]
  simp

theorem told_end {N:Nat} {E:List Nat} (h:zdY N 0 E) (he:E≠[]):E.reverse=zbH N:=by
 unfold zdY at h
 rw [if_pos ⟨rfl,he⟩] at h
 exact h.symm

theorem told_len {N X:Nat} {E:List Nat} (h:zdY N X E):E.length<=zdb N:=by
 unfold zdY at h
 unfold zdb
 split at h <;> rw [h] <;> simp

def ba (l:List Nat):ByteArray:=⟨(l.map UInt8.ofNat).toArray⟩

theorem ba_size (l:List Nat):(ba l).size=l.length:=by
 show ((l.map UInt8.ofNat).toArray).size=_
 simp

end Go.Proofs.Ytkjcdnlpjldhaaa

