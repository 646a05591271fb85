/-
  The texts Math, DivMath, WholeMath, RatMath, GcdMath, merged.
-/

set_option linter.unusedVariables false
set_option linter.unusedSimpArgs false
set_option maxRecDepth 100000
set_option maxHeartbeats 400000000
namespace Go.Proofs.YtkjcdnlpjldhaaaGreat.Tw

def B:Nat:=4294967296

theorem zaU:B=4294967296:=rfl

theorem zdV:0<B:=by decide

def nth (l:List Nat) (i:Nat):Nat:=l.getD i 0

theorem zaE (l:List Nat) (i:Nat):nth l i=l.getD i 0:=rfl

theorem zaQ {l:List Nat} {i:Nat} (h:i<l.length):nth l i=l[i]:=by
 rw [zaE,List.getD_eq_getElem?_getD,List.getElem?_eq_getElem h];rfl

theorem zfi {l:List Nat} {i:Nat} (h:l.length<=i):nth l i=0:=by
 rw [zaE,List.getD_eq_getElem?_getD,List.getElem?_eq_none h];rfl

def val:List Nat->Nat
 | [] => 0
 | x :: t => x+B*val t

def zdr:Nat->Nat->List Nat
 | 0,_ => []
 | f+1,n => if n=0 then [] else n % B :: zdr f (n / B)

def za (n:Nat):List Nat:=zdr n n

def Small (l:List Nat):Prop:=∀ x,x ∈ l->x<B

theorem zdq {n:Nat} (h:n≠0):n / B<n:=Nat.div_lt_self (Nat.pos_of_ne_zero h) (by decide)

theorem zmn:∀ (n f g:Nat),n<=f->n<=g->zdr f n=zdr g n:=by
 intro n
 induction n using Nat.strongRecOn with
 | ind n ih =>
  intro f g hf hg
  by_cases h0:n=0
  ·subst h0
   cases f <;> cases g <;> simp [zdr]
  ·obtain ⟨f,rfl⟩:∃ k,f=k+1:=⟨f - 1,by omega⟩
   obtain ⟨g,rfl⟩:∃ k,g=k+1:=⟨g - 1,by omega⟩
   have hd:=zdq h0
   simp only [zdr,if_neg h0]
   rw [ih (n / B) hd f g (by omega) (by omega)]

theorem zz:za 0=[]:=rfl

theorem zbi {n:Nat} (h:n≠0):za n=n % B :: za (n / B):=by
 obtain ⟨k,rfl⟩:∃ k,n=k+1:=⟨n - 1,by omega⟩
 have hd:=zdq h
 show zdr (k+1) (k+1)=_
 simp only [zdr,if_neg h]
 rw [zmn _ k ((k+1) / B) (by omega) (Nat.le_refl _)]
 rfl

theorem zeS (x:Nat) (t:List Nat):val (x :: t)=x+B*val t:=rfl

theorem vL (n:Nat):val (za n)=n:=by
 induction n using Nat.strongRecOn with
 | ind n ih =>
  by_cases h0:n=0
  ·subst h0;rfl
  ·rw [zbi h0,zeS,ih _ (zdq h0)]
   exact Nat.mod_add_div n B

theorem zco:Small []:=fun _ h => by cases h

theorem zZ {x:Nat} {t:List Nat}:Small (x :: t) ↔ x<B/\Small t :=
 ⟨fun h => ⟨h x (by simp),fun y hy => h y (by simp [hy])⟩,fun h y hy => by
  rcases List.mem_cons.1 hy with rfl|hy
  ·exact h.1
  ·exact h.2 y hy⟩

theorem ziF {a b:List Nat}:Small (a++b) ↔ Small a/\Small b :=
 ⟨fun h => ⟨fun x hx => h x (by simp [hx]),fun x hx => h x (by simp [hx])⟩,fun h x hx => by
  rcases List.mem_append.1 hx with hx|hx
  ·exact h.1 x hx
  ·exact h.2 x hx⟩

theorem Small.take {l:List Nat} (h:Small l) (n:Nat):Small (l.take n):=fun x hx => h x (List.mem_of_mem_take hx)

theorem Small.drop {l:List Nat} (h:Small l) (n:Nat):Small (l.drop n):=fun x hx => h x (List.mem_of_mem_drop hx)

theorem Small.nth {l:List Nat} (h:Small l) (i:Nat):nth l i<B:=by
 rw [zaE,List.getD_eq_getElem?_getD]
 by_cases hi:i<l.length
 ·simp [hi];exact h _ (List.getElem_mem hi)
 ·simp [Nat.not_lt.1 hi];decide

theorem zfX (n:Nat):Small (List.replicate n 0):=fun x hx => by
 rw [(List.mem_replicate.1 hx).2];decide

theorem zI (n:Nat):Small (za n):=by
 induction n using Nat.strongRecOn with
 | ind n ih =>
  by_cases h0:n=0
  ·subst h0;exact zco
  ·rw [zbi h0]
   exact zZ.2 ⟨Nat.mod_lt _ zdV,ih _ (zdq h0)⟩

theorem zcA (a b:List Nat):val (a++b)=val a+B ^ a.length*val b:=by
 induction a with
 | nil => simp [val]
 | cons x t ih =>
  simp only [List.cons_append,val,List.length_cons,ih,Nat.pow_succ]
  rw [Nat.mul_add,Nat.add_assoc,Nat.mul_comm (B ^ t.length) B,Nat.mul_assoc]

theorem zcO (n:Nat):val (List.replicate n 0)=0:=by
 induction n with
 | zero => rfl
 | succ n ih => simp [List.replicate_succ,val,ih]

theorem zcB {l:List Nat} (h:Small l):val l<B ^ l.length:=by
 induction l with
 | nil => simp [val]
 | cons x t ih =>
  have hx:=(zZ.1 h).1
  have ht:=ih (zZ.1 h).2
  simp only [val,List.length_cons,Nat.pow_succ]
  have:B*(val t+1)<=B*B ^ t.length:=Nat.mul_le_mul_left _ ht
  rw [Nat.mul_comm (B ^ t.length)]
  rw [Nat.mul_add] at this
  omega

theorem zfQ {n k:Nat} (h:n<B ^ k):(za n).length<=k:=by
 induction k generalizing n with
 | zero =>
   have:n=0:=by simpa using h
   subst this;simp [zz]
 | succ k ih =>
  by_cases h0:n=0
  ·subst h0;simp [zz]
  ·rw [zbi h0]
   have:n / B<B ^ k:=by
    rw [Nat.div_lt_iff_lt_mul zdV];rwa [Nat.pow_succ] at h
   have:=ih this
   simp;omega

theorem zil (n:Nat):n<B ^ (za n).length:=by
 have:=zcB (zI n)
 rwa [vL] at this

theorem zdm {n:Nat} (h:n≠0):B ^ ((za n).length - 1)<=n:=by
 induction n using Nat.strongRecOn with
 | ind n ih =>
  rw [zbi h]
  simp only [List.length_cons,Nat.add_sub_cancel]
  by_cases hd:n / B=0
  ·rw [hd,zz];simp;omega
  ·have h1:=ih _ (zdq h) hd
   have h2:(za (n / B)).length≠0:=by rw [zbi hd];simp
   obtain ⟨k,hk⟩:∃ k,(za (n / B)).length=k+1:=⟨_,(Nat.succ_pred h2).symm⟩
   rw [hk] at h1 ⊢
   simp only [Nat.add_sub_cancel] at h1
   rw [Nat.pow_succ]
   exact Nat.le_trans (Nat.mul_le_mul_right _ h1) (Nat.div_mul_le_self n B)

def sz (n:Nat):Nat:=(za n).length

theorem ze (n:Nat):(za n).length=sz n:=rfl

theorem zdC {n k:Nat} (h:n<B ^ k):sz n<=k:=zfQ h

theorem zeC (n:Nat):n<B ^ sz n:=zil n

theorem zas {m n:Nat} (h:m<=n):sz m<=sz n:=zdC (Nat.lt_of_le_of_lt h (zeC n))

theorem zy {l:List Nat} (h:Small l):sz (val l)<=l.length:=zdC (zcB h)

theorem zfx (m n:Nat):sz (m+n)<=max (sz m) (sz n)+1:=by
 apply zdC
 have h1:m<B ^ max (sz m) (sz n):=Nat.lt_of_lt_of_le (zeC m) (Nat.pow_le_pow_right zdV (Nat.le_max_left _ _))
 have h2:n<B ^ max (sz m) (sz n):=Nat.lt_of_lt_of_le (zeC n) (Nat.pow_le_pow_right zdV (Nat.le_max_right _ _))
 rw [Nat.pow_succ,zaU]
 rw [zaU] at h1 h2
 omega

theorem zaZ (m n:Nat):sz (m*n)<=sz m+sz n:=by
 apply zdC
 rw [Nat.pow_add]
 exact Nat.mul_lt_mul'' (zeC m) (zeC n)

theorem zcN (m n:Nat):sz (m - n)<=sz m:=zas (Nat.sub_le _ _)

theorem zdB (m n:Nat):sz (m / n)<=sz m:=zas (Nat.div_le_self _ _)

theorem sz_mod (m n:Nat):sz (m % n)<=sz m:=zas (Nat.mod_le _ _)

theorem zdg {n:Nat} (h:n<4294967296):sz n<=1:=zdC (by rw [zaU];simpa using h)

theorem zlK:sz 0=0:=rfl

theorem zA {n:Nat}:sz n=0 ↔ n=0:=by
 constructor
 ·intro h
  have:=zeC n
  rw [h] at this
  simpa using this
 ·intro h;subst h;rfl

theorem zcF {l:List Nat} (h:Small l) (hl:l=[]\/nth l (l.length - 1)≠0):za (val l)=l:=by
 induction l with
 | nil => rfl
 | cons x t ih =>
  have hx:=(zZ.1 h).1
  have hs:=(zZ.1 h).2
  have hlast:x+B*val t≠0/\(t=[]\/nth t (t.length - 1)≠0):=by
   rcases hl with hl|hl
   ·cases hl
   ·cases t with
    | nil => simp [zaE] at hl;exact ⟨by simp [val];omega,.inl rfl⟩
    | cons y u =>
     simp [zaE] at hl
     refine ⟨?_,.inr (by simpa [zaE] using hl)⟩
     intro h0
     have hv:val (y :: u)=0:=by
      have:B*val (y :: u)=0:=by omega
      rcases Nat.mul_eq_zero.1 this with h1|h1
      ·exact absurd h1 (by decide)
      ·exact h1
     have hr:=ih hs (.inr (by simpa [zaE] using hl))
     rw [hv,zz] at hr
     cases hr
  rw [zeS,zbi hlast.1]
  rw [Nat.add_mul_mod_self_left,Nat.mod_eq_of_lt hx,Nat.add_mul_div_left _ _ zdV,Nat.div_eq_of_lt hx,Nat.zero_add,ih hs hlast.2]

theorem zaT {l:List Nat} {n:Nat} (hn:n<l.length) (h:nth l n=0):val (l.take (n+1))=val (l.take n):=by
 rw [List.take_add_one,zcA]
 have:l[n]?=some 0:=by
  rw [zaE,List.getD_eq_getElem?_getD,List.getElem?_eq_getElem hn] at h
  rw [List.getElem?_eq_getElem hn];simpa using h
 simp [this,val]

theorem zdY {l:List Nat} (h:Small l) {n:Nat} (hn:n<=l.length) (hv:val (l.take n)=val l) (hlast:n=0\/nth l (n - 1)≠0) :
  za (val l)=l.take n:=by
 rw [<- hv]
 apply zcF (h.take n)
 by_cases h1:n=0
 ·left;subst h1;rfl
 ·right
  have h0:nth l (n - 1)≠0:=hlast.resolve_left h1
  rw [List.length_take,Nat.min_eq_left hn]
  rw [zaE,List.getD_eq_getElem?_getD,List.getElem?_take_of_lt (by omega),<- List.getD_eq_getElem?_getD,<- zaE]
  exact h0

theorem zbr {l:List Nat} (h:Small l):za (val l)=l.take (sz (val l)):=by
 -- by induction from the end
 have key:∀ n,n<=l.length->∃ m,m<=n/\val (l.take m)=val (l.take n)/\(m=0\/nth l (m - 1)≠0):=by
  intro n
  induction n with
  | zero => intro _;exact ⟨0,Nat.le_refl _,rfl,.inl rfl⟩
  | succ n ih =>
   intro hn
   by_cases h0:nth l n=0
   ·obtain ⟨m,hm,hv,hl⟩:=ih (by omega)
    exact ⟨m,by omega,by rw [hv,zaT (by omega) h0],hl⟩
   ·exact ⟨n+1,Nat.le_refl _,rfl,.inr (by simpa using h0)⟩
 obtain ⟨m,hm,hv,hl⟩:=key l.length (Nat.le_refl _)
 rw [List.take_length] at hv
 have:=zdY h hm hv hl
 have hs:sz (val l)=m:=by rw [<- ze,this,List.length_take,Nat.min_eq_left hm]
 rw [hs,this]

theorem zdZ {l:List Nat} (h:Small l):za (val l)=l ↔ sz (val l)=l.length:=by
 constructor
 ·intro e;rw [<- ze,e]
 ·intro e;rw [zbr h,e,List.take_length]

theorem zgL {l:List Nat} {i n:Nat} (h:i<n):nth (l.take n) i=nth l i:=by
 simp [zaE,List.getD_eq_getElem?_getD,List.getElem?_take_of_lt h]

theorem zcp {l:List Nat} {k:Nat} (h:k<l.length):l.take (k+1)=l.take k++[nth l k]:=by
 rw [List.take_add_one,zaQ h,List.getElem?_eq_getElem h];rfl

theorem zdD (a:List Nat) (x:Nat):val (a++[x])=val a+B ^ a.length*x:=by
 rw [zcA];simp [val]

theorem zbU {l:List Nat} {k:Nat} (h:k<l.length):val (l.take (k+1))=val (l.take k)+B ^ k*nth l k:=by
 rw [zcp h,zdD,List.length_take,Nat.min_eq_left (Nat.le_of_lt h)]

theorem zbw {l:List Nat} {i x:Nat} (h:i<l.length):nth (l.set i x) i=x:=by
 rw [zaQ (by simpa using h)];simp

theorem zcv {l:List Nat} {i j x:Nat} (h:i≠j):nth (l.set i x) j=nth l j:=by
 simp [zaE,List.getD_eq_getElem?_getD,List.getElem?_set_ne h]

theorem zfK {l:List Nat} {i k x:Nat} (h:k<=i):(l.set i x).take k=l.take k:=by
 rw [List.take_set]
 apply List.set_eq_of_length_le
 rw [List.length_take];omega

theorem zeT {l:List Nat} {i x:Nat} (h:i<l.length):val ((l.set i x).take (i+1))=val (l.take i)+B ^ i*x:=by
 rw [zbU (by simpa using h),zfK (Nat.le_refl _),zbw h]

theorem zcX {l:List Nat} {k:Nat} (h:k<l.length):val (l.drop k)=nth l k+B*val (l.drop (k+1)):=by
 rw [List.drop_eq_getElem_cons h,zeS,zaQ h]

def zK (n:Nat):Nat:=if n=0 then 0 else n.log2+1

theorem zeE (n:Nat):n<2 ^ zK n:=by
 unfold zK
 by_cases h:n=0
 ·simp [h]
 ·rw [if_neg h];exact Nat.lt_log2_self

theorem zcu {n k:Nat}:zK n<=k ↔ n<2 ^ k:=by
 constructor
 ·intro h;exact Nat.lt_of_lt_of_le (zeE n) (Nat.pow_le_pow_right (by decide) h)
 ·intro h
  unfold zK
  by_cases h0:n=0
  ·simp [h0]
  ·rw [if_neg h0];exact (Nat.log2_lt h0).2 h

theorem nbits_eq {n k:Nat} (h1:2 ^ k<=n) (h2:n<2 ^ (k+1)):zK n=k+1:=by
 have a:zK n<=k+1:=zcu.2 h2
 have b:¬ zK n<=k:=fun h => by have:=zcu.1 h;omega
 omega

theorem zmt {n:Nat} (h:n≠0):∃ k,zK n=k+1/\2 ^ k<=n/\n<2 ^ (k+1) :=
 ⟨n.log2,by simp [zK,h],Nat.log2_self_le h,Nat.lt_log2_self⟩

theorem zbs {n:Nat}:zK n=0 ↔ n=0:=by
 constructor
 ·intro h;have:=zeE n;rw [h] at this;simpa using this
 ·intro h;subst h;rfl

theorem zkF {m n:Nat} (h:m<=n):zK m<=zK n:=zcu.2 (Nat.lt_of_le_of_lt h (zeE n))

theorem zmu {a:List Nat} {x:Nat} (ha:Small a) (hx:x≠0):zK (val (a++[x]))=32*a.length+zK x:=by
 obtain ⟨k,hk,h1,h2⟩:=zmt hx
 rw [hk,<- Nat.add_assoc]
 have hB:B ^ a.length=2 ^ (32*a.length):=by
  rw [Nat.pow_mul];rfl
 have hv:=zcB ha
 rw [zdD]
 apply nbits_eq
 ·rw [Nat.pow_add,<- hB]
  exact Nat.le_trans (Nat.mul_le_mul_left _ h1) (Nat.le_add_left _ _)
 ·rw [Nat.add_assoc,Nat.pow_add,<- hB]
  calc val a+B ^ a.length*x<B ^ a.length+B ^ a.length*x:=by omega
   _=B ^ a.length*(x+1):=by rw [Nat.mul_add,Nat.mul_one,Nat.add_comm]
   _<=_:=Nat.mul_le_mul_left _ h2

def zbv (a b:Nat):Int:=if a<b then -1 else if b<a then 1 else 0

theorem zgk {a b:Nat} (h:a<b):zbv a b=-1:=by simp [zbv,h]

theorem zig {a b:Nat} (h:b<a):zbv a b=1:=by
 have:¬ a<b:=by omega
 simp [zbv,h,this]

theorem zif {a b:Nat} (h:a=b):zbv a b=0:=by subst h;simp [zbv]

theorem zjg {a b:Nat}:zbv a b<0 ↔ a<b:=by unfold zbv;split <;> (try split) <;> omega

theorem zgj {a b:Nat}:0<=zbv a b ↔ b<=a:=by unfold zbv;split <;> (try split) <;> omega

theorem zeZ {a b:Nat}:zbv a b=0 ↔ a=b:=by unfold zbv;split <;> (try split) <;> omega

theorem zB {l:List Nat} {k:Nat} (h:l.length<=k):val (l.take k)=val l:=by
 rw [List.take_of_length_le h]

theorem zq (l:List Nat) (k:Nat):val (l.take (k+1))=val (l.take k)+B ^ k*nth l k:=by
 by_cases h:k<l.length
 ·exact zbU h
 ·rw [zB (by omega),zB (by omega),zfi (by omega)];simp

theorem zbf {l:List Nat} (h:Small l):val (l.take (sz (val l)))=val l:=by
 rw [<- zbr h,vL]

theorem zfM {l:List Nat} (h:Small l) {n:Nat} (hn:sz (val l)<=n):val (l.take n)=val l:=by
 have e:=zbf h
 have h1:∀ d,val (l.take (sz (val l)+d))=val l:=by
  intro d
  induction d with
  | zero => exact e
  | succ d ih =>
   have h2:nth l (sz (val l)+d)=0:=by
    rcases Nat.lt_or_ge (sz (val l)+d) l.length with h3|h3
    ·
     rcases Nat.eq_zero_or_pos (nth l (sz (val l)+d)) with h4|h4
     ·exact h4
     ·have h5:val l=val (l.take (sz (val l)+d+1))+B ^ (sz (val l)+d+1)*val (l.drop (sz (val l)+d+1)):=by
       have h6:=zcA (l.take (sz (val l)+d+1)) (l.drop (sz (val l)+d+1))
       rw [List.take_append_drop,List.length_take,Nat.min_eq_left (by omega)] at h6
       exact h6
      rw [zbU h3,ih] at h5
      have h7:0<B ^ (sz (val l)+d)*nth l (sz (val l)+d):=Nat.mul_pos (Nat.pow_pos zdV) h4
      omega
    ·exact zfi h3
   rw [<- Nat.add_assoc,zq,h2,ih];simp
 have h8:=h1 (n - sz (val l))
 rwa [show sz (val l)+(n - sz (val l))=n by omega] at h8

theorem zgH {m n:Nat} (h:sz m<sz n):m<n:=by
 have hn:n≠0:=fun e => by rw [e,zlK] at h;omega
 have h1:=zdm hn
 rw [ze] at h1
 have h2:=zeC m
 have h3:=Nat.pow_le_pow_right (n:=B) zdV (show sz m<=sz n - 1 by omega)
 omega

theorem zlX {m n:Nat} (h:sz m<sz n):zbv m n=-1:=zgk (zgH h)

theorem zlW {m n:Nat} (h:sz n<sz m):zbv m n=1:=zig (zgH h)

def zax (a b:List Nat) (k:Nat):Prop:=∃ T,val a=val (a.take k)+B ^ k*T/\val b=val (b.take k)+B ^ k*T

theorem zax.step {a b:List Nat} {k:Nat} (h:zax a b (k+1)) (e:nth a k=nth b k):zax a b k:=by
 obtain ⟨T,h1,h2⟩:=h
 refine ⟨nth a k+B*T,?_,?_⟩
 ·rw [h1,zq,Nat.mul_add,Nat.pow_succ,Nat.mul_assoc,Nat.add_assoc]
 ·rw [h2,zq,e,Nat.mul_add,Nat.pow_succ,Nat.mul_assoc,Nat.add_assoc]

theorem zdE {l:List Nat} (h:Small l) (k:Nat):val (l.take k)<B ^ k:=by
 have h1:=zcB (h.take k)
 exact Nat.lt_of_lt_of_le h1 (Nat.pow_le_pow_right zdV (by rw [List.length_take];exact Nat.min_le_left _ _))

theorem zax.lt {a b:List Nat} {k:Nat} (h:zax a b (k+1)) (hs:Small a) (e:nth a k<nth b k):val a<val b:=by
 obtain ⟨T,h1,h2⟩:=h
 rw [h1,h2,zq,zq]
 have h3:=zdE hs k
 have h4:B ^ k*(nth a k+1)<=B ^ k*nth b k:=Nat.mul_le_mul_left _ e
 rw [Nat.mul_add] at h4
 omega

theorem ziE {a b:List Nat} {n:Nat} (hna:a.length<=n) (hnb:b.length<=n):zax a b n :=
 ⟨0,by rw [zB hna];simp,by rw [zB hnb];simp⟩

theorem zax.symm {a b:List Nat} {k:Nat} (h:zax a b k):zax b a k:=let ⟨T,h1,h2⟩:=h;⟨T,h2,h1⟩

theorem zax.zero {a b:List Nat} (h:zax a b 0):val a=val b:=by
 obtain ⟨T,h1,h2⟩:=h
 rw [h1,h2];simp

theorem zho {a b:List Nat} (ha:Small a) (hb:Small b) {n:Nat} (hna:sz (val a)=n) (hnb:sz (val b)=n):zax a b n :=
 ⟨0,by rw [<- hna,zbf ha];simp,by rw [<- hnb,zbf hb];simp⟩

theorem zjD {l:List Nat} (h:Small l) (h0:sz (val l)≠0):nth l (sz (val l) - 1)≠0:=by
 have hv:val l≠0:=fun e => h0 (by rw [e];rfl)
 have h1:=zdm hv
 intro hz
 have hle:=zy h
 rw [ze] at h1
 have e:val (l.take (sz (val l)))=val l:=by rw [<- zbr h,vL]
 have hs:sz (val l)=sz (val l) - 1+1:=by omega
 rw [hs,zaT (by omega) hz] at e
 have:=zcB (h.take (sz (val l) - 1))
 rw [e,List.length_take,Nat.min_eq_left (by omega)] at this
 omega

theorem zmv {l:List Nat} (h:Small l) (h0:sz (val l)≠0):zK (val l)=32*(sz (val l) - 1)+zK (nth l (sz (val l) - 1)):=by
 have h1:=zjD h h0
 have hle:=zy h
 have e:=zbf h
 obtain ⟨k,hk⟩:∃ k,sz (val l)=k+1:=⟨sz (val l) - 1,by omega⟩
 rw [hk] at e h1 hle ⊢
 rw [Nat.add_sub_cancel] at h1 ⊢
 rw [<- e,zcp (by omega),zmu (h.take k) h1,List.length_take]
 congr 2
 omega

theorem zjC {m n:Nat} (hn:2 ^ n<=m):n<zK m:=by
 have:=zeE m
 rcases Nat.lt_or_ge n (zK m) with h1|h1
 ·exact h1
 ·have:=Nat.pow_le_pow_right (n:=2) (by omega) h1
  omega

theorem B_two:2<=B:=by rw [zaU];omega

end Go.Proofs.YtkjcdnlpjldhaaaGreat.Tw


namespace Go.Proofs.YtkjcdnlpjldhaaaGreat
open Tw

theorem guess_ge {r b t P:Nat} (hP:0<P) (ht:0<t) (hb:t*P<=b):r / b<=r / P / t:=by
 rw [Nat.div_div_eq_div_mul]
 exact Nat.div_le_div_left (by rw [Nat.mul_comm];exact hb) (Nat.mul_pos hP ht)

theorem div_step (x y b:Nat) (hb:0<b):(x+B*y) / b=(x+B*(y % b)) / b+B*(y / b):=by
 have h:x+B*y=(x+B*(y % b))+b*(B*(y / b)):=by
  have h1:=Nat.mod_add_div y b
  have h2:B*y=B*(y % b)+B*(b*(y / b)):=by rw [<- Nat.mul_add,h1]
  rw [h2,Nat.mul_left_comm b];omega
 rw [h,Nat.add_mul_div_left _ _ hb]

theorem mod_step (x y b:Nat):(x+B*y) % b=(x+B*(y % b)) % b:=by
 have h:x+B*y=(x+B*(y % b))+b*(B*(y / b)):=by
  have h1:=Nat.mod_add_div y b
  have h2:B*y=B*(y % b)+B*(b*(y / b)):=by rw [<- Nat.mul_add,h1]
  rw [h2,Nat.mul_left_comm b];omega
 rw [h,Nat.add_mul_mod_self_left]

theorem zlH {x r b:Nat} (hx:x<B) (hr:r<b):x+B*r<B*b:=by
 have h:B*r+B<=B*b:=by rw [<- Nat.mul_succ];exact Nat.mul_le_mul_left B hr
 omega

theorem zjk {x r b:Nat} (hx:x<B) (hr:r<b):(x+B*r) / b<B:=by
 rw [Nat.div_lt_iff_lt_mul (by omega)]
 exact zlH hx hr

theorem digit_eq {rest b q:Nat} (hb:0<b) (h1:b*q<=rest) (h2:rest / b<=q):q=rest / b :=
 Nat.le_antisymm ((Nat.le_div_iff_mul_le hb).2 (by rw [Nat.mul_comm];exact h1)) h2

theorem zkq {rest b q:Nat} (hb:0<b) (h1:rest<b*q) (h2:rest / b<=q):0<q/\rest / b<=q - 1:=by
 have h3:rest / b<q:=(Nat.div_lt_iff_lt_mul hb).2 (by rw [Nat.mul_comm];exact h1)
 exact ⟨Nat.lt_of_le_of_lt (Nat.zero_le _) h3,Nat.le_sub_one_of_lt h3⟩

theorem zkr {rest b:Nat}:rest - b*(rest / b)=rest % b:=by
 have:=Nat.mod_add_div rest b
 omega

theorem zjU {a b p:Nat} (hp:0<p):a*p / (b*p)=a / b:=Nat.mul_div_mul_right a b hp

theorem zjV {a b p:Nat} (hp:0<p):a*p % (b*p) / p=a % b:=by
 rw [Nat.mul_mod_mul_right,Nat.mul_div_cancel _ hp]

theorem zmY {l:List Nat} {k:Nat} (hk:k<=l.length):val l=val (l.take k)+B ^ k*val (l.drop k):=by
 conv => lhs;rw [<- List.take_append_drop k l]
 rw [zcA,List.length_take,Nat.min_eq_left hk]

theorem zlQ {l:List Nat} (h:Small l) {k:Nat} (hk:k<=l.length):val l / B ^ k=val (l.drop k):=by
 rw [zmY hk,Nat.add_mul_div_left _ _ (Nat.pow_pos zdV),Nat.div_eq_of_lt (zdE h k),Nat.zero_add]

theorem bit_eq {l:List Nat} (h:Small l) {k r:Nat} (hk:k<l.length) (hr:r<32):val l / 2 ^ (32*k+r) % 2=nth l k / 2 ^ r % 2:=by
 have h1:(2:Nat) ^ (32*k+r)=B ^ k*2 ^ r:=by rw [Nat.pow_add,Nat.pow_mul];rfl
 rw [h1,<- Nat.div_div_eq_div_mul,zlQ h (by omega),zcX hk]
 obtain ⟨Y,hY⟩:∃ Y,val (l.drop (k+1))=Y:=⟨_,rfl⟩
 have h2:B=2 ^ r*(2*2 ^ (31 - r)):=by
  rw [<- Nat.pow_succ',<- Nat.pow_add,show r+(31 - r).succ=32 by omega];rfl
 have h3:B*Y=2 ^ r*(2*(2 ^ (31 - r)*Y)):=by rw [h2];simp only [Nat.mul_assoc]
 rw [hY,h3,Nat.add_mul_div_left _ _ (Nat.pow_pos (by omega)),Nat.add_mul_mod_self_left]

theorem bit_div {x y b:Nat} (hb:0<b) (hx:x<2):(2*y+x) / b=2*(y / b)+(if b<=2*(y % b)+x then 1 else 0):=by
 have h1:=Nat.mod_add_div y b
 have h2:=Nat.mod_lt y hb
 have h:2*y+x=(2*(y % b)+x)+b*(2*(y / b)):=by
  rw [Nat.mul_left_comm b];omega
 rw [h,Nat.add_mul_div_left _ _ hb]
 split
 ·next h3 =>
  have:(2*(y % b)+x) / b=1:=by
   rw [Nat.div_eq_of_lt_le] <;> omega
  omega
 ·next h3 => rw [Nat.div_eq_of_lt (by omega)];omega

theorem bit_mod {x y b:Nat} (hb:0<b) (hx:x<2):(2*y+x) % b=if b<=2*(y % b)+x then 2*(y % b)+x - b else 2*(y % b)+x:=by
 have h1:=Nat.mod_add_div y b
 have h2:=Nat.mod_lt y hb
 have h:2*y+x=(2*(y % b)+x)+b*(2*(y / b)):=by
  rw [Nat.mul_left_comm b];omega
 rw [h,Nat.add_mul_mod_self_left]
 split
 ·next h3 => rw [Nat.mod_eq_sub_mod h3,Nat.mod_eq_of_lt (by omega)]
 ·next h3 => rw [Nat.mod_eq_of_lt (by omega)]

theorem ziO {Z:List Nat} {j x:Nat} (h:j<Z.length):val ((Z.set j x).drop j)=x+B*val (Z.drop (j+1)):=by
 rw [zcX (by simpa using h),zbw h,List.drop_set_of_lt (by omega)]

theorem zkk {Z la:List Nat} {j d:Nat} (hd:0<d) (hZ:j<Z.length) (hl:j<la.length) (hv:val (Z.drop (j+1))=val (la.drop (j+1)) / d) :
  val ((Z.set j ((nth la j+B*(val (la.drop (j+1)) % d)) / d)).drop j)=val (la.drop j) / d:=by
 rw [ziO hZ,hv,zcX hl]
 exact (div_step _ _ _ hd).symm

theorem zkl {la:List Nat} {j d:Nat} (hl:j<la.length):val (la.drop j) % d=(nth la j+B*(val (la.drop (j+1)) % d)) % d:=by
 rw [zcX hl]
 exact mod_step _ _ _

theorem drop_all {l:List Nat} {n:Nat} (h:l.length<=n):val (l.drop n)=0:=by
 rw [List.drop_eq_nil_of_le h];rfl

theorem zfb {R D n:Nat} (hD:0<D) (hn:sz D=n) (hR:R<B*D):sz R<=n+1:=by
 apply zdC
 have h1:=zeC D
 rw [hn] at h1
 rw [Nat.pow_succ,Nat.mul_comm]
 exact Nat.lt_of_lt_of_le hR (Nat.mul_le_mul_left _ (Nat.le_of_lt h1))

theorem zit {D n:Nat} (hD:0<D) (hn:sz D=n+1):0<nth (za D) n/\nth (za D) n*B ^ n<=D:=by
 have h0:sz (val (za D))≠0:=by rw [vL];omega
 have h1:=zjD (zI D) h0
 rw [vL,hn,Nat.add_sub_cancel] at h1
 refine ⟨Nat.pos_of_ne_zero h1,?_⟩
 have h2:=zq (za D) n
 rw [zB (by rw [ze];omega),vL] at h2
 rw [Nat.mul_comm];omega

theorem zmX {R n:Nat} (hn:sz R<=n+2) (hl:n<sz R):R / B ^ n=nth (za R) n+B*nth (za R) (n+1):=by
 have h1:=zlQ (zI R) (k:=n) (by rw [ze];omega)
 rw [vL] at h1
 rw [h1,zcX (by rw [ze];exact hl)]
 congr 2
 by_cases h:n+1<sz R
 ·rw [zcX (by rw [ze];exact h),drop_all (by rw [ze];omega)];omega
 ·rw [drop_all (by rw [ze];omega),zfi (by rw [ze];omega)]

theorem guess_ok {R D n:Nat} (hD:0<D) (hn:sz D=n+1) (hR:R<B*D) (hl:n<sz R) :
  R / D<=(nth (za R) (n+1)*4294967296+nth (za R) n) / nth (za D) n:=by
 obtain ⟨h1,h2⟩:=zit hD hn
 have h3:=guess_ge (r:=R) (Nat.pow_pos (n:=n) zdV) h1 h2
 rw [zmX (zfb hD hn hR) hl,zaU] at h3
 rw [Nat.mul_comm (nth (za R) (n+1)),Nat.add_comm]
 exact h3

theorem zfB {x r d:Nat} (hx:x<4294967296) (hd:0<d) (hr:r<d):(r*4294967296+x) / d<4294967296:=by
 rw [Nat.div_lt_iff_lt_mul hd,Nat.mul_comm 4294967296]
 have:(r+1)*4294967296<=d*4294967296:=Nat.mul_le_mul_right _ hr
 omega

theorem zkv {R D:Nat} (h:sz R<sz D):R / D=0:=Nat.div_eq_of_lt (zgH h)

theorem zmf {R D:Nat} (hD:0<D) (hR:R<B*D):R / D<=4294967295:=by
 have:R / D<B:=(Nat.div_lt_iff_lt_mul hD).2 hR
 rw [zaU] at this;omega

end Go.Proofs.YtkjcdnlpjldhaaaGreat


namespace Go.Proofs.YtkjcdnlpjldhaaaGreat
open Tw

def sgn (b:Bool) (n:Nat):Int:=if b then -(n:Int) else n

theorem zfu (z:Int):sgn (decide (z<0)) z.natAbs=z:=by
 unfold sgn
 by_cases h:z<0
 ·simp [h];omega
 ·simp [h];omega

theorem zgr (b:Bool) (n:Nat):(sgn b n).natAbs=n:=by
 unfold sgn;cases b <;> simp

theorem sgn_neg (b:Bool) (n:Nat):decide (sgn b n<0)=(b && decide (0<n)):=by
 unfold sgn
 cases b <;> simp <;> omega

theorem sgn_not (b:Bool) (n:Nat):sgn (!b) n=- sgn b n:=by
 unfold sgn;cases b <;> simp

theorem sgn_zero (b:Bool):sgn b 0=0:=by unfold sgn;cases b <;> rfl

theorem sgn_same (b:Bool) (m n:Nat):sgn b (m+n)=sgn b m+sgn b n:=by
 unfold sgn;cases b <;> simp <;> omega

theorem sgn_less {b c:Bool} {m n:Nat} (hbc:b≠c) (h:n<=m):sgn b (m - n)=sgn b m+sgn c n:=by
 unfold sgn;cases b <;> cases c <;> simp_all <;> omega

theorem sgn_more {b c:Bool} {m n:Nat} (hbc:b≠c) (h:m<n):sgn c (n - m)=sgn b m+sgn c n:=by
 unfold sgn;cases b <;> cases c <;> simp_all <;> omega

theorem zlI (b c:Bool) (m n:Nat):sgn (b != c) (m*n)=sgn b m*sgn c n:=by
 unfold sgn;cases b <;> cases c <;> simp [Int.neg_mul,Int.mul_neg]

theorem zcn (n:Nat):sgn false n=n:=rfl

theorem zjT (n:Nat):sgn true n=-(n:Int):=rfl

def szi (z:Int):Nat:=sz z.natAbs

theorem zlL (x y:Int):szi (x+y)<=max (szi x) (szi y)+1:=by
 unfold szi
 exact Nat.le_trans (zas (Int.natAbs_add_le x y)) (zfx _ _)

theorem zdh (x y:Int):szi (x*y)<=szi x+szi y:=by
 unfold szi;rw [Int.natAbs_mul];exact zaZ _ _

end Go.Proofs.YtkjcdnlpjldhaaaGreat


namespace Go.Proofs.YtkjcdnlpjldhaaaGreat
namespace Tw

def rat (b:Bool) (n d:Nat):Rat:=mkRat (sgn b n) d

theorem zcj (b:Bool) (n:Nat):rat b n 0=0:=Rat.mkRat_zero _

theorem zck (b:Bool) (d:Nat):rat b 0 d=0:=by unfold rat;rw [sgn_zero];exact Rat.zero_mkRat _

theorem zfH {b:Bool} {n d:Nat} (hd:d≠0):rat b n d=0 ↔ n=0:=by
 unfold rat
 rw [Rat.mkRat_eq_zero hd]
 unfold sgn
 cases b <;> simp

theorem ziz {b:Bool} {n d:Nat} (hd:d≠0):(rat b n d).num.natAbs=n / Nat.gcd n d:=by
 unfold rat
 rw [Rat.num_mkRat,if_neg hd,zgr,Nat.gcd_comm]
 have h:((Nat.gcd n d:Nat):Int) ∣ sgn b n:=by
  unfold sgn
  cases b
  ·exact Int.ofNat_dvd.2 (Nat.gcd_dvd_left n d)
  ·exact Int.dvd_neg.2 (Int.ofNat_dvd.2 (Nat.gcd_dvd_left n d))
 rw [Int.natAbs_ediv_of_dvd h,zgr]
 rfl

theorem ziy {b:Bool} {n d:Nat} (hd:d≠0):(rat b n d).den=d / Nat.gcd n d:=by
 unfold rat
 rw [Rat.den_mkRat,if_neg hd,zgr,Nat.gcd_comm]

theorem zdc (q:Rat):decide (q<0)=decide (q.num<0):=by
 congr 1
 have h:0<=q.num ↔ 0<=q:=Rat.num_nonneg
 apply propext
 rw [<- Rat.not_le,<- h]
 omega

theorem zlJ (q:Rat):sgn (decide (q<0)) q.num.natAbs=q.num:=by rw [zdc,zfu]

theorem zcV (q:Rat):rat (decide (q<0)) q.num.natAbs q.den=q:=by
 unfold rat
 rw [zlJ,Rat.mkRat_self]

theorem zlE (b:Bool) {n d:Nat} (hd:d≠0) (hn:n≠0):decide (rat b n d<0)=b:=by
 have hq:rat b n d≠0:=fun h => hn ((zfH hd).1 h)
 cases b with
 | false =>
  have:0<=rat false n d:=by
   unfold rat
   rw [<- Rat.divInt_ofNat]
   exact Rat.divInt_nonneg (by rw [zcn];omega) (by omega)
  exact decide_eq_false (fun h => absurd this (Rat.not_le.2 h))
 | true =>
  have h1:- rat true n d=rat false n d:=by
   unfold rat
   rw [Rat.neg_mkRat,zjT,zcn,Int.neg_neg]
  have h2:0<=rat false n d:=by
   unfold rat
   rw [<- Rat.divInt_ofNat]
   exact Rat.divInt_nonneg (by rw [zcn];omega) (by omega)
  refine decide_eq_true (Rat.not_le.1 fun h => hq ?_)
  exact Rat.nonneg_antisymm h (by rw [h1];exact h2)

theorem zff (z:Int) (d:Nat):mkRat z d=rat (decide (z<0)) z.natAbs d:=by unfold rat;rw [zfu]

theorem zgp (b c:Bool) (m n d e:Nat):rat b m d*rat c n e=rat (b != c) (m*n) (d*e):=by
 unfold rat
 rw [Rat.mkRat_mul_mkRat,zlI]

theorem rat_not (b:Bool) (n d:Nat):rat (!b) n d=- rat b n d:=by
 unfold rat
 rw [Rat.neg_mkRat,sgn_not]

def szq (q:Rat):Nat:=max (sz q.num.natAbs) (sz q.den)

theorem zaF (q:Rat):sz q.num.natAbs<=szq q:=Nat.le_max_left _ _

theorem zam (q:Rat):sz q.den<=szq q:=Nat.le_max_right _ _

theorem zeR (b:Bool) (n d:Nat):szq (rat b n d)<=max 1 (max (sz n) (sz d)):=by
 by_cases hd:d=0
 ·subst hd
  rw [zcj]
  have:szq 0<=1:=by decide +kernel
  omega
 ·unfold szq
  rw [ziz hd,ziy hd]
  have h1:=zdB n (Nat.gcd n d)
  have h2:=zdB d (Nat.gcd n d)
  omega

theorem ziM (q:Rat):szq (-q)=szq q:=by unfold szq;rw [Rat.neg_num,Rat.neg_den,Int.natAbs_neg]

theorem zdT (q:Rat):1<=szq q:=by
 have h:=zam q
 have:sz q.den≠0:=fun e => q.den_nz (zA.1 e)
 omega

theorem zlM (q r:Rat):szq (q+r)<=szq q+szq r+1:=by
 rw [Rat.add_def',zff]
 refine Nat.le_trans (zeR _ _ _) ?_
 have h1:=zlL (q.num*(r.den:Int)) (r.num*(q.den:Int))
 have h2:=zdh q.num (r.den:Int)
 have h3:=zdh r.num (q.den:Int)
 have h4:=zaZ q.den r.den
 have a1:=zaF q
 have a2:=zam q
 have a3:=zaF r
 have a4:=zam r
 have o1:=zdT q
 unfold szi at h1 h2 h3
 rw [Int.natAbs_natCast] at h2 h3
 omega

theorem ziL (q r:Rat):szq (q*r)<=szq q+szq r:=by
 rw [Rat.mul_def',zff]
 refine Nat.le_trans (zeR _ _ _) ?_
 have h1:=zdh q.num r.num
 have h4:=zaZ q.den r.den
 have a1:=zaF q
 have a2:=zam q
 have a3:=zaF r
 have a4:=zam r
 have o1:=zdT q
 unfold szi at h1
 omega

theorem szq_sub (q r:Rat):szq (q - r)<=szq q+szq r+1:=by
 rw [Rat.sub_eq_add_neg]
 have:=zlM q (-r)
 rwa [ziM] at this

theorem ziK (q:Rat):szq q⁻¹<=szq q:=by
 unfold szq
 rw [Rat.num_inv,Rat.den_inv]
 split
 ·rename_i h
  rw [h]
  have:sz q.den≠0:=fun e => q.den_nz (zA.1 e)
  have h1:sz ((0:Int).sign*(q.den:Int)).natAbs=0:=by simp [zlK]
  rw [h1]
  have:sz 1<=1:=by decide +kernel
  omega
 ·rename_i h
  rw [Int.natAbs_mul,Int.natAbs_sign_of_ne_zero h,Nat.one_mul,Int.natAbs_natCast]
  omega

theorem szq_div (q r:Rat):szq (q / r)<=szq q+szq r:=by
 rw [Rat.div_def]
 have h1:=ziL q r⁻¹
 have h2:=ziK r
 omega

end Tw
end Go.Proofs.YtkjcdnlpjldhaaaGreat


namespace Go.Proofs.YtkjcdnlpjldhaaaGreat
open Tw

theorem zjE {y:Nat} (h:y % 2=1) (j:Nat):Nat.Coprime (2 ^ j) y:=by
 apply Nat.Coprime.pow_left
 show Nat.gcd 2 y=1
 rw [Nat.gcd_rec,h];rfl

theorem zgl {m y:Nat} (j:Nat) (h:y % 2=1):Nat.gcd (m*2 ^ j) y=Nat.gcd m y :=
 Nat.Coprime.gcd_mul_right_cancel m (zjE h j)

theorem zhC {x y:Nat} (h:y<=x):Nat.gcd (x - y) y=Nat.gcd x y:=Nat.gcd_sub_self_left h

theorem gcd_twos {x y n k:Nat} (hx:x % 2=1) (hy:y % 2=1):Nat.gcd (x*2 ^ n) (y*2 ^ k)=Nat.gcd x y*2 ^ min n k:=by
 rcases Nat.le_total n k with h|h
 ·obtain ⟨j,rfl⟩:=Nat.exists_eq_add_of_le h
  rw [Nat.min_eq_left h,Nat.add_comm n j,Nat.pow_add,<- Nat.mul_assoc,Nat.gcd_mul_right]
  congr 1
  rw [Nat.gcd_comm,zgl j hx,Nat.gcd_comm]
 ·obtain ⟨j,rfl⟩:=Nat.exists_eq_add_of_le h
  rw [Nat.min_eq_right h,Nat.add_comm k j,Nat.pow_add,<- Nat.mul_assoc,Nat.gcd_mul_right,zgl j hy]

theorem gcd_step (a b:Nat):Nat.gcd b (a % b)=Nat.gcd a b:=by
 rw [Nat.gcd_comm b,<- Nat.gcd_rec,Nat.gcd_comm]

theorem zkB {n:Nat} (h:n≠0):nth (za n) 0 % 2=n % 2:=by
 rw [zbi h]
 show n % B % 2=n % 2
 rw [zaU];omega

theorem zdv {m k n:Nat} (h:n=m*2 ^ k) (hn:n≠0):k<zK n:=by
 apply zjC
 rcases Nat.eq_zero_or_pos m with rfl|hm
 ·rw [Nat.zero_mul] at h;exact absurd h hn
 ·rw [h];exact Nat.le_mul_of_pos_left _ hm

theorem zdX {a b:Nat} (h:0<b):0<Nat.gcd a b:=Nat.gcd_pos_of_pos_right a h

end Go.Proofs.YtkjcdnlpjldhaaaGreat

