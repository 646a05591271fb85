/-
  The texts Math, DivMath, WholeMath, RatMath, GcdMath, merged.
-/

set_option linter.unusedVariables false
set_option linter.unusedSimpArgs false
set_option maxRecDepth 100000
set_option maxHeartbeats 400000000
namespace Go.Proofs.YtkjcdnlpjldhaaaGreat.Tw

def B:Nat:=4294967296

theorem zax:B=4294967296:=rfl

theorem zdn:0<B:=by decide

def nth (l:List Nat) (i:Nat):Nat:=l.getD i 0

theorem zap (l:List Nat) (i:Nat):nth l i=l.getD i 0:=rfl

theorem zaY {l:List Nat} {i:Nat} (h:i<l.length):nth l i=l[i]:=by
 rw [zap,List.getD_eq_getElem?_getD,List.getElem?_eq_getElem h];rfl

theorem zer {l:List Nat} {i:Nat} (h:l.length<=i):nth l i=0:=by
 rw [zap,List.getD_eq_getElem?_getD,List.getElem?_eq_none h];rfl

def val:List Nat->Nat
 | [] => 0
 | x :: t => x+B*val t

def zcO:Nat->Nat->List Nat
 | 0,_ => []
 | f+1,n => if n=0 then [] else n % B :: zcO f (n / B)

def zc (n:Nat):List Nat:=zcO n n

def Small (l:List Nat):Prop:=∀ x,x ∈ l->x<B

theorem zcL {n:Nat} (h:n≠0):n / B<n:=Nat.div_lt_self (Nat.pos_of_ne_zero h) (by decide)

theorem zky:∀ (n f g:Nat),n<=f->n<=g->zcO f n=zcO g n:=by
 intro n
 induction n using Nat.strongRecOn with
 | ind n ih =>
  intro f g hf hg
  by_cases h0:n=0
  ·subst h0
   cases f <;> cases g <;> simp [zcO]
  ·obtain ⟨f,rfl⟩:∃ k,f=k+1:=⟨f - 1,by omega⟩
   obtain ⟨g,rfl⟩:∃ k,g=k+1:=⟨g - 1,by omega⟩
   have hd:=zcL h0
   simp only [zcO,if_neg h0]
   rw [ih (n / B) hd f g (by omega) (by omega)]

theorem zw:zc 0=[]:=rfl

theorem zaN {n:Nat} (h:n≠0):zc n=n % B :: zc (n / B):=by
 obtain ⟨k,rfl⟩:∃ k,n=k+1:=⟨n - 1,by omega⟩
 have hd:=zcL h
 show zcO (k+1) (k+1)=_
 simp only [zcO,if_neg h]
 rw [zky _ k ((k+1) / B) (by omega) (Nat.le_refl _)]
 rfl

theorem zdY (x:Nat) (t:List Nat):val (x :: t)=x+B*val t:=rfl

theorem vL (n:Nat):val (zc n)=n:=by
 induction n using Nat.strongRecOn with
 | ind n ih =>
  by_cases h0:n=0
  ·subst h0;rfl
  ·rw [zaN h0,zdY,ih _ (zcL h0)]
   exact Nat.mod_add_div n B

theorem zbO:Small []:=fun _ h => by cases h

theorem zR {x:Nat} {t:List Nat}:Small (x :: t) ↔ x<B/\Small t :=
 ⟨fun h => ⟨h x (by simp),fun y hy => h y (by simp [hy])⟩,fun h y hy => by
  rcases List.mem_cons.1 hy with rfl|hy
  ·exact h.1
  ·exact h.2 y hy⟩

theorem zhu {a b:List Nat}:Small (a++b) ↔ Small a/\Small b :=
 ⟨fun h => ⟨fun x hx => h x (by simp [hx]),fun x hx => h x (by simp [hx])⟩,fun h x hx => by
  rcases List.mem_append.1 hx with hx|hx
  ·exact h.1 x hx
  ·exact h.2 x hx⟩

theorem Small.take {l:List Nat} (h:Small l) (n:Nat):Small (l.take n):=fun x hx => h x (List.mem_of_mem_take hx)

theorem Small.drop {l:List Nat} (h:Small l) (n:Nat):Small (l.drop n):=fun x hx => h x (List.mem_of_mem_drop hx)

theorem Small.nth {l:List Nat} (h:Small l) (i:Nat):nth l i<B:=by
 rw [zap,List.getD_eq_getElem?_getD]
 by_cases hi:i<l.length
 ·simp [hi];exact h _ (List.getElem_mem hi)
 ·simp [Nat.not_lt.1 hi];decide

theorem zfc (n:Nat):Small (List.replicate n 0):=fun x hx => by
 rw [(List.mem_replicate.1 hx).2];decide

theorem zD (n:Nat):Small (zc n):=by
 induction n using Nat.strongRecOn with
 | ind n ih =>
  by_cases h0:n=0
  ·subst h0;exact zbO
  ·rw [zaN h0]
   exact zR.2 ⟨Nat.mod_lt _ zdn,ih _ (zcL h0)⟩

theorem zbX (a b:List Nat):val (a++b)=val a+B ^ a.length*val b:=by
 induction a with
 | nil => simp [val]
 | cons x t ih =>
  simp only [List.cons_append,val,List.length_cons,ih,Nat.pow_succ]
  rw [Nat.mul_add,Nat.add_assoc,Nat.mul_comm (B ^ t.length) B,Nat.mul_assoc]

theorem zcl (n:Nat):val (List.replicate n 0)=0:=by
 induction n with
 | zero => rfl
 | succ n ih => simp [List.replicate_succ,val,ih]

theorem zbY {l:List Nat} (h:Small l):val l<B ^ l.length:=by
 induction l with
 | nil => simp [val]
 | cons x t ih =>
  have hx:=(zR.1 h).1
  have ht:=ih (zR.1 h).2
  simp only [val,List.length_cons,Nat.pow_succ]
  have:B*(val t+1)<=B*B ^ t.length:=Nat.mul_le_mul_left _ ht
  rw [Nat.mul_comm (B ^ t.length)]
  rw [Nat.mul_add] at this
  omega

theorem zeZ {n k:Nat} (h:n<B ^ k):(zc n).length<=k:=by
 induction k generalizing n with
 | zero =>
   have:n=0:=by simpa using h
   subst this;simp [zw]
 | succ k ih =>
  by_cases h0:n=0
  ·subst h0;simp [zw]
  ·rw [zaN h0]
   have:n / B<B ^ k:=by
    rw [Nat.div_lt_iff_lt_mul zdn];rwa [Nat.pow_succ] at h
   have:=ih this
   simp;omega

theorem zhd (n:Nat):n<B ^ (zc n).length:=by
 have:=zbY (zD n)
 rwa [vL] at this

theorem zcH {n:Nat} (h:n≠0):B ^ ((zc n).length - 1)<=n:=by
 induction n using Nat.strongRecOn with
 | ind n ih =>
  rw [zaN h]
  simp only [List.length_cons,Nat.add_sub_cancel]
  by_cases hd:n / B=0
  ·rw [hd,zw];simp;omega
  ·have h1:=ih _ (zcL h) hd
   have h2:(zc (n / B)).length≠0:=by rw [zaN hd];simp
   obtain ⟨k,hk⟩:∃ k,(zc (n / B)).length=k+1:=⟨_,(Nat.succ_pred h2).symm⟩
   rw [hk] at h1 ⊢
   simp only [Nat.add_sub_cancel] at h1
   rw [Nat.pow_succ]
   exact Nat.le_trans (Nat.mul_le_mul_right _ h1) (Nat.div_mul_le_self n B)

def sz (n:Nat):Nat:=(zc n).length

theorem zd (n:Nat):(zc n).length=sz n:=rfl

theorem zcW {n k:Nat} (h:n<B ^ k):sz n<=k:=zeZ h

theorem zdP (n:Nat):n<B ^ sz n:=zhd n

theorem zae {m n:Nat} (h:m<=n):sz m<=sz n:=zcW (Nat.lt_of_le_of_lt h (zdP n))

theorem zu {l:List Nat} (h:Small l):sz (val l)<=l.length:=zcW (zbY h)

theorem zeF (m n:Nat):sz (m+n)<=max (sz m) (sz n)+1:=by
 apply zcW
 have h1:m<B ^ max (sz m) (sz n):=Nat.lt_of_lt_of_le (zdP m) (Nat.pow_le_pow_right zdn (Nat.le_max_left _ _))
 have h2:n<B ^ max (sz m) (sz n):=Nat.lt_of_lt_of_le (zdP n) (Nat.pow_le_pow_right zdn (Nat.le_max_right _ _))
 rw [Nat.pow_succ,zax]
 rw [zax] at h1 h2
 omega

theorem zaA (m n:Nat):sz (m*n)<=sz m+sz n:=by
 apply zcW
 rw [Nat.pow_add]
 exact Nat.mul_lt_mul'' (zdP m) (zdP n)

theorem zcj (m n:Nat):sz (m - n)<=sz m:=zae (Nat.sub_le _ _)

theorem zdB (m n:Nat):sz (m / n)<=sz m:=zae (Nat.div_le_self _ _)

theorem sz_mod (m n:Nat):sz (m % n)<=sz m:=zae (Nat.mod_le _ _)

theorem zcE {n:Nat} (h:n<4294967296):sz n<=1:=zcW (by rw [zax];simpa using h)

theorem zkd:sz 0=0:=rfl

theorem zz {n:Nat}:sz n=0 ↔ n=0:=by
 constructor
 ·intro h
  have:=zdP n
  rw [h] at this
  simpa using this
 ·intro h;subst h;rfl

theorem zcb {l:List Nat} (h:Small l) (hl:l=[]\/nth l (l.length - 1)≠0):zc (val l)=l:=by
 induction l with
 | nil => rfl
 | cons x t ih =>
  have hx:=(zR.1 h).1
  have hs:=(zR.1 h).2
  have hlast:x+B*val t≠0/\(t=[]\/nth t (t.length - 1)≠0):=by
   rcases hl with hl|hl
   ·cases hl
   ·cases t with
    | nil => simp [zap] at hl;exact ⟨by simp [val];omega,.inl rfl⟩
    | cons y u =>
     simp [zap] at hl
     refine ⟨?_,.inr (by simpa [zap] using hl)⟩
     intro h0
     have hv:val (y :: u)=0:=by
      have:B*val (y :: u)=0:=by omega
      rcases Nat.mul_eq_zero.1 this with h1|h1
      ·exact absurd h1 (by decide)
      ·exact h1
     have hr:=ih hs (.inr (by simpa [zap] using hl))
     rw [hv,zw] at hr
     cases hr
  rw [zdY,zaN hlast.1]
  rw [Nat.add_mul_mod_self_left,Nat.mod_eq_of_lt hx,Nat.add_mul_div_left _ _ zdn,Nat.div_eq_of_lt hx,Nat.zero_add,ih hs hlast.2]

theorem zaw {l:List Nat} {n:Nat} (hn:n<l.length) (h:nth l n=0):val (l.take (n+1))=val (l.take n):=by
 rw [List.take_add_one,zbX]
 have:l[n]?=some 0:=by
  rw [zap,List.getD_eq_getElem?_getD,List.getElem?_eq_getElem hn] at h
  rw [List.getElem?_eq_getElem hn];simpa using h
 simp [this,val]

theorem zdq {l:List Nat} (h:Small l) {n:Nat} (hn:n<=l.length) (hv:val (l.take n)=val l) (hlast:n=0\/nth l (n - 1)≠0) :
  zc (val l)=l.take n:=by
 rw [<- hv]
 apply zcb (h.take n)
 by_cases h1:n=0
 ·left;subst h1;rfl
 ·right
  have h0:nth l (n - 1)≠0:=hlast.resolve_left h1
  rw [List.length_take,Nat.min_eq_left hn]
  rw [zap,List.getD_eq_getElem?_getD,List.getElem?_take_of_lt (by omega),<- List.getD_eq_getElem?_getD,<- zap]
  exact h0

theorem zaT {l:List Nat} (h:Small l):zc (val l)=l.take (sz (val l)):=by
 -- by induction from the end
 have key:∀ n,n<=l.length->∃ m,m<=n/\val (l.take m)=val (l.take n)/\(m=0\/nth l (m - 1)≠0):=by
  intro n
  induction n with
  | zero => intro _;exact ⟨0,Nat.le_refl _,rfl,.inl rfl⟩
  | succ n ih =>
   intro hn
   by_cases h0:nth l n=0
   ·obtain ⟨m,hm,hv,hl⟩:=ih (by omega)
    exact ⟨m,by omega,by rw [hv,zaw (by omega) h0],hl⟩
   ·exact ⟨n+1,Nat.le_refl _,rfl,.inr (by simpa using h0)⟩
 obtain ⟨m,hm,hv,hl⟩:=key l.length (Nat.le_refl _)
 rw [List.take_length] at hv
 have:=zdq h hm hv hl
 have hs:sz (val l)=m:=by rw [<- zd,this,List.length_take,Nat.min_eq_left hm]
 rw [hs,this]

theorem zdr {l:List Nat} (h:Small l):zc (val l)=l ↔ sz (val l)=l.length:=by
 constructor
 ·intro e;rw [<- zd,e]
 ·intro e;rw [zaT h,e,List.take_length]

theorem zfJ {l:List Nat} {i n:Nat} (h:i<n):nth (l.take n) i=nth l i:=by
 simp [zap,List.getD_eq_getElem?_getD,List.getElem?_take_of_lt h]

theorem zbP {l:List Nat} {k:Nat} (h:k<l.length):l.take (k+1)=l.take k++[nth l k]:=by
 rw [List.take_add_one,zaY h,List.getElem?_eq_getElem h];rfl

theorem zcX (a:List Nat) (x:Nat):val (a++[x])=val a+B ^ a.length*x:=by
 rw [zbX];simp [val]

theorem zbw {l:List Nat} {k:Nat} (h:k<l.length):val (l.take (k+1))=val (l.take k)+B ^ k*nth l k:=by
 rw [zbP h,zcX,List.length_take,Nat.min_eq_left (Nat.le_of_lt h)]

theorem zaZ {l:List Nat} {i x:Nat} (h:i<l.length):nth (l.set i x) i=x:=by
 rw [zaY (by simpa using h)];simp

theorem zbU {l:List Nat} {i j x:Nat} (h:i≠j):nth (l.set i x) j=nth l j:=by
 simp [zap,List.getD_eq_getElem?_getD,List.getElem?_set_ne h]

theorem zeU {l:List Nat} {i k x:Nat} (h:k<=i):(l.set i x).take k=l.take k:=by
 rw [List.take_set]
 apply List.set_eq_of_length_le
 rw [List.length_take];omega

theorem zdZ {l:List Nat} {i x:Nat} (h:i<l.length):val ((l.set i x).take (i+1))=val (l.take i)+B ^ i*x:=by
 rw [zbw (by simpa using h),zeU (Nat.le_refl _),zaZ h]

theorem zcu {l:List Nat} {k:Nat} (h:k<l.length):val (l.drop k)=nth l k+B*val (l.drop (k+1)):=by
 rw [List.drop_eq_getElem_cons h,zdY,zaY h]

def zF (n:Nat):Nat:=if n=0 then 0 else n.log2+1

theorem zdR (n:Nat):n<2 ^ zF n:=by
 unfold zF
 by_cases h:n=0
 ·simp [h]
 ·rw [if_neg h];exact Nat.lt_log2_self

theorem zbT {n k:Nat}:zF n<=k ↔ n<2 ^ k:=by
 constructor
 ·intro h;exact Nat.lt_of_lt_of_le (zdR n) (Nat.pow_le_pow_right (by decide) h)
 ·intro h
  unfold zF
  by_cases h0:n=0
  ·simp [h0]
  ·rw [if_neg h0];exact (Nat.log2_lt h0).2 h

theorem nbits_eq {n k:Nat} (h1:2 ^ k<=n) (h2:n<2 ^ (k+1)):zF n=k+1:=by
 have a:zF n<=k+1:=zbT.2 h2
 have b:¬ zF n<=k:=fun h => by have:=zbT.1 h;omega
 omega

theorem zkC {n:Nat} (h:n≠0):∃ k,zF n=k+1/\2 ^ k<=n/\n<2 ^ (k+1) :=
 ⟨n.log2,by simp [zF,h],Nat.log2_self_le h,Nat.lt_log2_self⟩

theorem zaU {n:Nat}:zF n=0 ↔ n=0:=by
 constructor
 ·intro h;have:=zdR n;rw [h] at this;simpa using this
 ·intro h;subst h;rfl

theorem zjg {m n:Nat} (h:m<=n):zF m<=zF n:=zbT.2 (Nat.lt_of_le_of_lt h (zdR n))

theorem zkD {a:List Nat} {x:Nat} (ha:Small a) (hx:x≠0):zF (val (a++[x]))=32*a.length+zF x:=by
 obtain ⟨k,hk,h1,h2⟩:=zkC hx
 rw [hk,<- Nat.add_assoc]
 have hB:B ^ a.length=2 ^ (32*a.length):=by
  rw [Nat.pow_mul];rfl
 have hv:=zbY ha
 rw [zcX]
 apply nbits_eq
 ·rw [Nat.pow_add,<- hB]
  exact Nat.le_trans (Nat.mul_le_mul_left _ h1) (Nat.le_add_left _ _)
 ·rw [Nat.add_assoc,Nat.pow_add,<- hB]
  calc val a+B ^ a.length*x<B ^ a.length+B ^ a.length*x:=by omega
   _=B ^ a.length*(x+1):=by rw [Nat.mul_add,Nat.mul_one,Nat.add_comm]
   _<=_:=Nat.mul_le_mul_left _ h2

def zaX (a b:Nat):Int:=if a<b then -1 else if b<a then 1 else 0

theorem zfk {a b:Nat} (h:a<b):zaX a b=-1:=by simp [zaX,h]

theorem zgY {a b:Nat} (h:b<a):zaX a b=1:=by
 have:¬ a<b:=by omega
 simp [zaX,h,this]

theorem zgX {a b:Nat} (h:a=b):zaX a b=0:=by subst h;simp [zaX]

theorem zhT {a b:Nat}:zaX a b<0 ↔ a<b:=by unfold zaX;split <;> (try split) <;> omega

theorem zfj {a b:Nat}:0<=zaX a b ↔ b<=a:=by unfold zaX;split <;> (try split) <;> omega

theorem zei {a b:Nat}:zaX a b=0 ↔ a=b:=by unfold zaX;split <;> (try split) <;> omega

theorem zx {l:List Nat} {k:Nat} (h:l.length<=k):val (l.take k)=val l:=by
 rw [List.take_of_length_le h]

theorem zn (l:List Nat) (k:Nat):val (l.take (k+1))=val (l.take k)+B ^ k*nth l k:=by
 by_cases h:k<l.length
 ·exact zbw h
 ·rw [zx (by omega),zx (by omega),zer (by omega)];simp

theorem zaK {l:List Nat} (h:Small l):val (l.take (sz (val l)))=val l:=by
 rw [<- zaT h,vL]

theorem zeW {l:List Nat} (h:Small l) {n:Nat} (hn:sz (val l)<=n):val (l.take n)=val l:=by
 have e:=zaK h
 have h1:∀ d,val (l.take (sz (val l)+d))=val l:=by
  intro d
  induction d with
  | zero => exact e
  | succ d ih =>
   have h2:nth l (sz (val l)+d)=0:=by
    rcases Nat.lt_or_ge (sz (val l)+d) l.length with h3|h3
    ·
     rcases Nat.eq_zero_or_pos (nth l (sz (val l)+d)) with h4|h4
     ·exact h4
     ·have h5:val l=val (l.take (sz (val l)+d+1))+B ^ (sz (val l)+d+1)*val (l.drop (sz (val l)+d+1)):=by
       have h6:=zbX (l.take (sz (val l)+d+1)) (l.drop (sz (val l)+d+1))
       rw [List.take_append_drop,List.length_take,Nat.min_eq_left (by omega)] at h6
       exact h6
      rw [zbw h3,ih] at h5
      have h7:0<B ^ (sz (val l)+d)*nth l (sz (val l)+d):=Nat.mul_pos (Nat.pow_pos zdn) h4
      omega
    ·exact zer h3
   rw [<- Nat.add_assoc,zn,h2,ih];simp
 have h8:=h1 (n - sz (val l))
 rwa [show sz (val l)+(n - sz (val l))=n by omega] at h8

theorem zfE {m n:Nat} (h:sz m<sz n):m<n:=by
 have hn:n≠0:=fun e => by rw [e,zkd] at h;omega
 have h1:=zcH hn
 rw [zd] at h1
 have h2:=zdP m
 have h3:=Nat.pow_le_pow_right (n:=B) zdn (show sz m<=sz n - 1 by omega)
 omega

theorem zkl {m n:Nat} (h:sz m<sz n):zaX m n=-1:=zfk (zfE h)

theorem zkk {m n:Nat} (h:sz n<sz m):zaX m n=1:=zgY (zfE h)

def zah (a b:List Nat) (k:Nat):Prop:=∃ T,val a=val (a.take k)+B ^ k*T/\val b=val (b.take k)+B ^ k*T

theorem zah.step {a b:List Nat} {k:Nat} (h:zah a b (k+1)) (e:nth a k=nth b k):zah a b k:=by
 obtain ⟨T,h1,h2⟩:=h
 refine ⟨nth a k+B*T,?_,?_⟩
 ·rw [h1,zn,Nat.mul_add,Nat.pow_succ,Nat.mul_assoc,Nat.add_assoc]
 ·rw [h2,zn,e,Nat.mul_add,Nat.pow_succ,Nat.mul_assoc,Nat.add_assoc]

theorem zcY {l:List Nat} (h:Small l) (k:Nat):val (l.take k)<B ^ k:=by
 have h1:=zbY (h.take k)
 exact Nat.lt_of_lt_of_le h1 (Nat.pow_le_pow_right zdn (by rw [List.length_take];exact Nat.min_le_left _ _))

theorem zah.lt {a b:List Nat} {k:Nat} (h:zah a b (k+1)) (hs:Small a) (e:nth a k<nth b k):val a<val b:=by
 obtain ⟨T,h1,h2⟩:=h
 rw [h1,h2,zn,zn]
 have h3:=zcY hs k
 have h4:B ^ k*(nth a k+1)<=B ^ k*nth b k:=Nat.mul_le_mul_left _ e
 rw [Nat.mul_add] at h4
 omega

theorem zht {a b:List Nat} {n:Nat} (hna:a.length<=n) (hnb:b.length<=n):zah a b n :=
 ⟨0,by rw [zx hna];simp,by rw [zx hnb];simp⟩

theorem zah.symm {a b:List Nat} {k:Nat} (h:zah a b k):zah b a k:=let ⟨T,h1,h2⟩:=h;⟨T,h2,h1⟩

theorem zah.zero {a b:List Nat} (h:zah a b 0):val a=val b:=by
 obtain ⟨T,h1,h2⟩:=h
 rw [h1,h2];simp

theorem zgn {a b:List Nat} (ha:Small a) (hb:Small b) {n:Nat} (hna:sz (val a)=n) (hnb:sz (val b)=n):zah a b n :=
 ⟨0,by rw [<- hna,zaK ha];simp,by rw [<- hnb,zaK hb];simp⟩

theorem zil {l:List Nat} (h:Small l) (h0:sz (val l)≠0):nth l (sz (val l) - 1)≠0:=by
 have hv:val l≠0:=fun e => h0 (by rw [e];rfl)
 have h1:=zcH hv
 intro hz
 have hle:=zu h
 rw [zd] at h1
 have e:val (l.take (sz (val l)))=val l:=by rw [<- zaT h,vL]
 have hs:sz (val l)=sz (val l) - 1+1:=by omega
 rw [hs,zaw (by omega) hz] at e
 have:=zbY (h.take (sz (val l) - 1))
 rw [e,List.length_take,Nat.min_eq_left (by omega)] at this
 omega

theorem zkE {l:List Nat} (h:Small l) (h0:sz (val l)≠0):zF (val l)=32*(sz (val l) - 1)+zF (nth l (sz (val l) - 1)):=by
 have h1:=zil h h0
 have hle:=zu h
 have e:=zaK h
 obtain ⟨k,hk⟩:∃ k,sz (val l)=k+1:=⟨sz (val l) - 1,by omega⟩
 rw [hk] at e h1 hle ⊢
 rw [Nat.add_sub_cancel] at h1 ⊢
 rw [<- e,zbP (by omega),zkD (h.take k) h1,List.length_take]
 congr 2
 omega

theorem zik {m n:Nat} (hn:2 ^ n<=m):n<zF m:=by
 have:=zdR m
 rcases Nat.lt_or_ge n (zF m) with h1|h1
 ·exact h1
 ·have:=Nat.pow_le_pow_right (n:=2) (by omega) h1
  omega

theorem B_two:2<=B:=by rw [zax];omega

end Go.Proofs.YtkjcdnlpjldhaaaGreat.Tw


namespace Go.Proofs.YtkjcdnlpjldhaaaGreat
open Tw

theorem guess_ge {r b t P:Nat} (hP:0<P) (ht:0<t) (hb:t*P<=b):r / b<=r / P / t:=by
 rw [Nat.div_div_eq_div_mul]
 exact Nat.div_le_div_left (by rw [Nat.mul_comm];exact hb) (Nat.mul_pos hP ht)

theorem div_step (x y b:Nat) (hb:0<b):(x+B*y) / b=(x+B*(y % b)) / b+B*(y / b):=by
 have h:x+B*y=(x+B*(y % b))+b*(B*(y / b)):=by
  have h1:=Nat.mod_add_div y b
  have h2:B*y=B*(y % b)+B*(b*(y / b)):=by rw [<- Nat.mul_add,h1]
  rw [h2,Nat.mul_left_comm b];omega
 rw [h,Nat.add_mul_div_left _ _ hb]

theorem mod_step (x y b:Nat):(x+B*y) % b=(x+B*(y % b)) % b:=by
 have h:x+B*y=(x+B*(y % b))+b*(B*(y / b)):=by
  have h1:=Nat.mod_add_div y b
  have h2:B*y=B*(y % b)+B*(b*(y / b)):=by rw [<- Nat.mul_add,h1]
  rw [h2,Nat.mul_left_comm b];omega
 rw [h,Nat.add_mul_mod_self_left]

theorem zjZ {x r b:Nat} (hx:x<B) (hr:r<b):x+B*r<B*b:=by
 have h:B*r+B<=B*b:=by rw [<- Nat.mul_succ];exact Nat.mul_le_mul_left B hr
 omega

theorem zhW {x r b:Nat} (hx:x<B) (hr:r<b):(x+B*r) / b<B:=by
 rw [Nat.div_lt_iff_lt_mul (by omega)]
 exact zjZ hx hr

theorem digit_eq {rest b q:Nat} (hb:0<b) (h1:b*q<=rest) (h2:rest / b<=q):q=rest / b :=
 Nat.le_antisymm ((Nat.le_div_iff_mul_le hb).2 (by rw [Nat.mul_comm];exact h1)) h2

theorem ziQ {rest b q:Nat} (hb:0<b) (h1:rest<b*q) (h2:rest / b<=q):0<q/\rest / b<=q - 1:=by
 have h3:rest / b<q:=(Nat.div_lt_iff_lt_mul hb).2 (by rw [Nat.mul_comm];exact h1)
 exact ⟨Nat.lt_of_le_of_lt (Nat.zero_le _) h3,Nat.le_sub_one_of_lt h3⟩

theorem ziR {rest b:Nat}:rest - b*(rest / b)=rest % b:=by
 have:=Nat.mod_add_div rest b
 omega

theorem zis {a b p:Nat} (hp:0<p):a*p / (b*p)=a / b:=Nat.mul_div_mul_right a b hp

theorem zit {a b p:Nat} (hp:0<p):a*p % (b*p) / p=a % b:=by
 rw [Nat.mul_mod_mul_right,Nat.mul_div_cancel _ hp]

theorem zlc {l:List Nat} {k:Nat} (hk:k<=l.length):val l=val (l.take k)+B ^ k*val (l.drop k):=by
 conv => lhs;rw [<- List.take_append_drop k l]
 rw [zbX,List.length_take,Nat.min_eq_left hk]

theorem zki {l:List Nat} (h:Small l) {k:Nat} (hk:k<=l.length):val l / B ^ k=val (l.drop k):=by
 rw [zlc hk,Nat.add_mul_div_left _ _ (Nat.pow_pos zdn),Nat.div_eq_of_lt (zcY h k),Nat.zero_add]

theorem bit_eq {l:List Nat} (h:Small l) {k r:Nat} (hk:k<l.length) (hr:r<32):val l / 2 ^ (32*k+r) % 2=nth l k / 2 ^ r % 2:=by
 have h1:(2:Nat) ^ (32*k+r)=B ^ k*2 ^ r:=by rw [Nat.pow_add,Nat.pow_mul];rfl
 rw [h1,<- Nat.div_div_eq_div_mul,zki h (by omega),zcu hk]
 obtain ⟨Y,hY⟩:∃ Y,val (l.drop (k+1))=Y:=⟨_,rfl⟩
 have h2:B=2 ^ r*(2*2 ^ (31 - r)):=by
  rw [<- Nat.pow_succ',<- Nat.pow_add,show r+(31 - r).succ=32 by omega];rfl
 have h3:B*Y=2 ^ r*(2*(2 ^ (31 - r)*Y)):=by rw [h2];simp only [Nat.mul_assoc]
 rw [hY,h3,Nat.add_mul_div_left _ _ (Nat.pow_pos (by omega)),Nat.add_mul_mod_self_left]

theorem bit_div {x y b:Nat} (hb:0<b) (hx:x<2):(2*y+x) / b=2*(y / b)+(if b<=2*(y % b)+x then 1 else 0):=by
 have h1:=Nat.mod_add_div y b
 have h2:=Nat.mod_lt y hb
 have h:2*y+x=(2*(y % b)+x)+b*(2*(y / b)):=by
  rw [Nat.mul_left_comm b];omega
 rw [h,Nat.add_mul_div_left _ _ hb]
 split
 ·next h3 =>
  have:(2*(y % b)+x) / b=1:=by
   rw [Nat.div_eq_of_lt_le] <;> omega
  omega
 ·next h3 => rw [Nat.div_eq_of_lt (by omega)];omega

theorem bit_mod {x y b:Nat} (hb:0<b) (hx:x<2):(2*y+x) % b=if b<=2*(y % b)+x then 2*(y % b)+x - b else 2*(y % b)+x:=by
 have h1:=Nat.mod_add_div y b
 have h2:=Nat.mod_lt y hb
 have h:2*y+x=(2*(y % b)+x)+b*(2*(y / b)):=by
  rw [Nat.mul_left_comm b];omega
 rw [h,Nat.add_mul_mod_self_left]
 split
 ·next h3 => rw [Nat.mod_eq_sub_mod h3,Nat.mod_eq_of_lt (by omega)]
 ·next h3 => rw [Nat.mod_eq_of_lt (by omega)]

theorem zhD {Z:List Nat} {j x:Nat} (h:j<Z.length):val ((Z.set j x).drop j)=x+B*val (Z.drop (j+1)):=by
 rw [zcu (by simpa using h),zaZ h,List.drop_set_of_lt (by omega)]

theorem ziJ {Z la:List Nat} {j d:Nat} (hd:0<d) (hZ:j<Z.length) (hl:j<la.length) (hv:val (Z.drop (j+1))=val (la.drop (j+1)) / d) :
  val ((Z.set j ((nth la j+B*(val (la.drop (j+1)) % d)) / d)).drop j)=val (la.drop j) / d:=by
 rw [zhD hZ,hv,zcu hl]
 exact (div_step _ _ _ hd).symm

theorem ziK {la:List Nat} {j d:Nat} (hl:j<la.length):val (la.drop j) % d=(nth la j+B*(val (la.drop (j+1)) % d)) % d:=by
 rw [zcu hl]
 exact mod_step _ _ _

theorem zby {l:List Nat} {n:Nat} (h:l.length<=n):val (l.drop n)=0:=by
 rw [List.drop_eq_nil_of_le h];rfl

theorem zek {R D n:Nat} (hD:0<D) (hn:sz D=n) (hR:R<B*D):sz R<=n+1:=by
 apply zcW
 have h1:=zdP D
 rw [hn] at h1
 rw [Nat.pow_succ,Nat.mul_comm]
 exact Nat.lt_of_lt_of_le hR (Nat.mul_le_mul_left _ (Nat.le_of_lt h1))

theorem zhk {D n:Nat} (hD:0<D) (hn:sz D=n+1):0<nth (zc D) n/\nth (zc D) n*B ^ n<=D:=by
 have h0:sz (val (zc D))≠0:=by rw [vL];omega
 have h1:=zil (zD D) h0
 rw [vL,hn,Nat.add_sub_cancel] at h1
 refine ⟨Nat.pos_of_ne_zero h1,?_⟩
 have h2:=zn (zc D) n
 rw [zx (by rw [zd];omega),vL] at h2
 rw [Nat.mul_comm];omega

theorem zlb {R n:Nat} (hn:sz R<=n+2) (hl:n<sz R):R / B ^ n=nth (zc R) n+B*nth (zc R) (n+1):=by
 have h1:=zki (zD R) (k:=n) (by rw [zd];omega)
 rw [vL] at h1
 rw [h1,zcu (by rw [zd];exact hl)]
 congr 2
 by_cases h:n+1<sz R
 ·rw [zcu (by rw [zd];exact h),zby (by rw [zd];omega)];omega
 ·rw [zby (by rw [zd];omega),zer (by rw [zd];omega)]

theorem guess_ok {R D n:Nat} (hD:0<D) (hn:sz D=n+1) (hR:R<B*D) (hl:n<sz R) :
  R / D<=(nth (zc R) (n+1)*4294967296+nth (zc R) n) / nth (zc D) n:=by
 obtain ⟨h1,h2⟩:=zhk hD hn
 have h3:=guess_ge (r:=R) (Nat.pow_pos (n:=n) zdn) h1 h2
 rw [zlb (zek hD hn hR) hl,zax] at h3
 rw [Nat.mul_comm (nth (zc R) (n+1)),Nat.add_comm]
 exact h3

theorem zeK {x r d:Nat} (hx:x<4294967296) (hd:0<d) (hr:r<d):(r*4294967296+x) / d<4294967296:=by
 rw [Nat.div_lt_iff_lt_mul hd,Nat.mul_comm 4294967296]
 have:(r+1)*4294967296<=d*4294967296:=Nat.mul_le_mul_right _ hr
 omega

theorem ziW {R D:Nat} (h:sz R<sz D):R / D=0:=Nat.div_eq_of_lt (zfE h)

theorem zkq {R D:Nat} (hD:0<D) (hR:R<B*D):R / D<=4294967295:=by
 have:R / D<B:=(Nat.div_lt_iff_lt_mul hD).2 hR
 rw [zax] at this;omega

end Go.Proofs.YtkjcdnlpjldhaaaGreat


namespace Go.Proofs.YtkjcdnlpjldhaaaGreat
open Tw

def sgn (b:Bool) (n:Nat):Int:=if b then -(n:Int) else n

theorem zeB (z:Int):sgn (decide (z<0)) z.natAbs=z:=by
 unfold sgn
 by_cases h:z<0
 ·simp [h];omega
 ·simp [h];omega

theorem zdW (b:Bool) (n:Nat):(sgn b n).natAbs=n:=by
 unfold sgn;cases b <;> simp

theorem sgn_neg (b:Bool) (n:Nat):decide (sgn b n<0)=(b && decide (0<n)):=by
 unfold sgn
 cases b <;> simp <;> omega

theorem sgn_not (b:Bool) (n:Nat):sgn (!b) n=- sgn b n:=by
 unfold sgn;cases b <;> simp

theorem sgn_zero (b:Bool):sgn b 0=0:=by unfold sgn;cases b <;> rfl

theorem sgn_same (b:Bool) (m n:Nat):sgn b (m+n)=sgn b m+sgn b n:=by
 unfold sgn;cases b <;> simp <;> omega

theorem sgn_less {b c:Bool} {m n:Nat} (hbc:b≠c) (h:n<=m):sgn b (m - n)=sgn b m+sgn c n:=by
 unfold sgn;cases b <;> cases c <;> simp_all <;> omega

theorem sgn_more {b c:Bool} {m n:Nat} (hbc:b≠c) (h:m<n):sgn c (n - m)=sgn b m+sgn c n:=by
 unfold sgn;cases b <;> cases c <;> simp_all <;> omega

theorem zkb (b c:Bool) (m n:Nat):sgn (b != c) (m*n)=sgn b m*sgn c n:=by
 unfold sgn;cases b <;> cases c <;> simp [Int.neg_mul,Int.mul_neg]

theorem zbN (n:Nat):sgn false n=n:=rfl

theorem zir (n:Nat):sgn true n=-(n:Int):=rfl

def szi (z:Int):Nat:=sz z.natAbs

theorem szi_sgn (b:Bool) (n:Nat):szi (sgn b n)=sz n:=by unfold szi;rw [zdW]

theorem zke (x y:Int):szi (x+y)<=max (szi x) (szi y)+1:=by
 unfold szi
 exact Nat.le_trans (zae (Int.natAbs_add_le x y)) (zeF _ _)

theorem zcF (x y:Int):szi (x*y)<=szi x+szi y:=by
 unfold szi;rw [Int.natAbs_mul];exact zaA _ _

end Go.Proofs.YtkjcdnlpjldhaaaGreat


namespace Go.Proofs.YtkjcdnlpjldhaaaGreat
namespace Tw

def rat (b:Bool) (n d:Nat):Rat:=mkRat (sgn b n) d

theorem zbI (b:Bool) (n:Nat):rat b n 0=0:=Rat.mkRat_zero _

theorem zbJ (b:Bool) (d:Nat):rat b 0 d=0:=by unfold rat;rw [sgn_zero];exact Rat.zero_mkRat _

theorem zeQ {b:Bool} {n d:Nat} (hd:d≠0):rat b n d=0 ↔ n=0:=by
 unfold rat
 rw [Rat.mkRat_eq_zero hd]
 unfold sgn
 cases b <;> simp

theorem zhp {b:Bool} {n d:Nat} (hd:d≠0):(rat b n d).num.natAbs=n / Nat.gcd n d:=by
 unfold rat
 rw [Rat.num_mkRat,if_neg hd,zdW,Nat.gcd_comm]
 have h:((Nat.gcd n d:Nat):Int) ∣ sgn b n:=by
  unfold sgn
  cases b
  ·exact Int.ofNat_dvd.2 (Nat.gcd_dvd_left n d)
  ·exact Int.dvd_neg.2 (Int.ofNat_dvd.2 (Nat.gcd_dvd_left n d))
 rw [Int.natAbs_ediv_of_dvd h,zdW]
 rfl

theorem zho {b:Bool} {n d:Nat} (hd:d≠0):(rat b n d).den=d / Nat.gcd n d:=by
 unfold rat
 rw [Rat.den_mkRat,if_neg hd,zdW,Nat.gcd_comm]

theorem zcz (q:Rat):decide (q<0)=decide (q.num<0):=by
 congr 1
 have h:0<=q.num ↔ 0<=q:=Rat.num_nonneg
 apply propext
 rw [<- Rat.not_le,<- h]
 omega

theorem zkc (q:Rat):sgn (decide (q<0)) q.num.natAbs=q.num:=by rw [zcz,zeB]

theorem zcs (q:Rat):rat (decide (q<0)) q.num.natAbs q.den=q:=by
 unfold rat
 rw [zkc,Rat.mkRat_self]

theorem zjX (b:Bool) {n d:Nat} (hd:d≠0) (hn:n≠0):decide (rat b n d<0)=b:=by
 have hq:rat b n d≠0:=fun h => hn ((zeQ hd).1 h)
 cases b with
 | false =>
  have:0<=rat false n d:=by
   unfold rat
   rw [<- Rat.divInt_ofNat]
   exact Rat.divInt_nonneg (by rw [zbN];omega) (by omega)
  exact decide_eq_false (fun h => absurd this (Rat.not_le.2 h))
 | true =>
  have h1:- rat true n d=rat false n d:=by
   unfold rat
   rw [Rat.neg_mkRat,zir,zbN,Int.neg_neg]
  have h2:0<=rat false n d:=by
   unfold rat
   rw [<- Rat.divInt_ofNat]
   exact Rat.divInt_nonneg (by rw [zbN];omega) (by omega)
  refine decide_eq_true (Rat.not_le.1 fun h => hq ?_)
  exact Rat.nonneg_antisymm h (by rw [h1];exact h2)

theorem zeo (z:Int) (d:Nat):mkRat z d=rat (decide (z<0)) z.natAbs d:=by unfold rat;rw [zeB]

theorem zfp (b c:Bool) (m n d e:Nat):rat b m d*rat c n e=rat (b != c) (m*n) (d*e):=by
 unfold rat
 rw [Rat.mkRat_mul_mkRat,zkb]

theorem rat_not (b:Bool) (n d:Nat):rat (!b) n d=- rat b n d:=by
 unfold rat
 rw [Rat.neg_mkRat,sgn_not]

def szq (q:Rat):Nat:=max (sz q.num.natAbs) (sz q.den)

theorem zak (q:Rat):sz q.num.natAbs<=szq q:=Nat.le_max_left _ _

theorem zX (q:Rat):sz q.den<=szq q:=Nat.le_max_right _ _

theorem zdm (b:Bool) (n d:Nat):szq (rat b n d)<=max 1 (max (sz n) (sz d)):=by
 by_cases hd:d=0
 ·subst hd
  rw [zbI]
  have:szq 0<=1:=by decide +kernel
  omega
 ·unfold szq
  rw [zhp hd,zho hd]
  have h1:=zdB n (Nat.gcd n d)
  have h2:=zdB d (Nat.gcd n d)
  omega

theorem zhB (q:Rat):szq (-q)=szq q:=by unfold szq;rw [Rat.neg_num,Rat.neg_den,Int.natAbs_neg]

theorem zdl (q:Rat):1<=szq q:=by
 have h:=zX q
 have:sz q.den≠0:=fun e => q.den_nz (zz.1 e)
 omega

theorem zkf (q r:Rat):szq (q+r)<=szq q+szq r+1:=by
 rw [Rat.add_def',zeo]
 refine Nat.le_trans (zdm _ _ _) ?_
 have h1:=zke (q.num*(r.den:Int)) (r.num*(q.den:Int))
 have h2:=zcF q.num (r.den:Int)
 have h3:=zcF r.num (q.den:Int)
 have h4:=zaA q.den r.den
 have a1:=zak q
 have a2:=zX q
 have a3:=zak r
 have a4:=zX r
 have o1:=zdl q
 unfold szi at h1 h2 h3
 rw [Int.natAbs_natCast] at h2 h3
 omega

theorem zhA (q r:Rat):szq (q*r)<=szq q+szq r:=by
 rw [Rat.mul_def',zeo]
 refine Nat.le_trans (zdm _ _ _) ?_
 have h1:=zcF q.num r.num
 have h4:=zaA q.den r.den
 have a1:=zak q
 have a2:=zX q
 have a3:=zak r
 have a4:=zX r
 have o1:=zdl q
 unfold szi at h1
 omega

theorem szq_sub (q r:Rat):szq (q - r)<=szq q+szq r+1:=by
 rw [Rat.sub_eq_add_neg]
 have:=zkf q (-r)
 rwa [zhB] at this

theorem zhz (q:Rat):szq q⁻¹<=szq q:=by
 unfold szq
 rw [Rat.num_inv,Rat.den_inv]
 split
 ·rename_i h
  rw [h]
  have:sz q.den≠0:=fun e => q.den_nz (zz.1 e)
  have h1:sz ((0:Int).sign*(q.den:Int)).natAbs=0:=by simp [zkd]
  rw [h1]
  have:sz 1<=1:=by decide +kernel
  omega
 ·rename_i h
  rw [Int.natAbs_mul,Int.natAbs_sign_of_ne_zero h,Nat.one_mul,Int.natAbs_natCast]
  omega

theorem szq_div (q r:Rat):szq (q / r)<=szq q+szq r:=by
 rw [Rat.div_def]
 have h1:=zhA q r⁻¹
 have h2:=zhz r
 omega

end Tw
end Go.Proofs.YtkjcdnlpjldhaaaGreat


namespace Go.Proofs.YtkjcdnlpjldhaaaGreat
open Tw

theorem zim {y:Nat} (h:y % 2=1) (j:Nat):Nat.Coprime (2 ^ j) y:=by
 apply Nat.Coprime.pow_left
 show Nat.gcd 2 y=1
 rw [Nat.gcd_rec,h];rfl

theorem zfl {m y:Nat} (j:Nat) (h:y % 2=1):Nat.gcd (m*2 ^ j) y=Nat.gcd m y :=
 Nat.Coprime.gcd_mul_right_cancel m (zim h j)

theorem zgz {x y:Nat} (h:y<=x):Nat.gcd (x - y) y=Nat.gcd x y:=Nat.gcd_sub_self_left h

theorem gcd_twos {x y n k:Nat} (hx:x % 2=1) (hy:y % 2=1):Nat.gcd (x*2 ^ n) (y*2 ^ k)=Nat.gcd x y*2 ^ min n k:=by
 rcases Nat.le_total n k with h|h
 ·obtain ⟨j,rfl⟩:=Nat.exists_eq_add_of_le h
  rw [Nat.min_eq_left h,Nat.add_comm n j,Nat.pow_add,<- Nat.mul_assoc,Nat.gcd_mul_right]
  congr 1
  rw [Nat.gcd_comm,zfl j hx,Nat.gcd_comm]
 ·obtain ⟨j,rfl⟩:=Nat.exists_eq_add_of_le h
  rw [Nat.min_eq_right h,Nat.add_comm k j,Nat.pow_add,<- Nat.mul_assoc,Nat.gcd_mul_right,zfl j hy]

theorem gcd_step (a b:Nat):Nat.gcd b (a % b)=Nat.gcd a b:=by
 rw [Nat.gcd_comm b,<- Nat.gcd_rec,Nat.gcd_comm]

theorem zjc {n:Nat} (h:n≠0):nth (zc n) 0 % 2=n % 2:=by
 rw [zaN h]
 show n % B % 2=n % 2
 rw [zax];omega

theorem zcP {m k n:Nat} (h:n=m*2 ^ k) (hn:n≠0):k<zF n:=by
 apply zik
 rcases Nat.eq_zero_or_pos m with rfl|hm
 ·rw [Nat.zero_mul] at h;exact absurd h hn
 ·rw [h];exact Nat.le_mul_of_pos_left _ hm

theorem zdp {a b:Nat} (h:0<b):0<Nat.gcd a b:=Nat.gcd_pos_of_pos_right a h

end Go.Proofs.YtkjcdnlpjldhaaaGreat

