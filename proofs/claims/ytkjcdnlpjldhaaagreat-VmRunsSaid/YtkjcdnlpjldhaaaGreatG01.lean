/-
  The texts Math, DivMath, WholeMath, RatMath, GcdMath, merged.
-/

set_option linter.unusedVariables false
set_option linter.unusedSimpArgs false
set_option maxRecDepth 100000
set_option maxHeartbeats 400000000
namespace Go.Proofs.YtkjcdnlpjldhaaaGreat.Tw

def B:Nat:=4294967296

theorem zaz:B=4294967296:=rfl

theorem zdw:0<B:=by decide

def nth (l:List Nat) (i:Nat):Nat:=l.getD i 0

theorem zav (l:List Nat) (i:Nat):nth l i=l.getD i 0:=rfl

theorem zbg {l:List Nat} {i:Nat} (h:i<l.length):nth l i=l[i]:=by
 rw [zav,List.getD_eq_getElem?_getD,List.getElem?_eq_getElem h];rfl

theorem zez {l:List Nat} {i:Nat} (h:l.length<=i):nth l i=0:=by
 rw [zav,List.getD_eq_getElem?_getD,List.getElem?_eq_none h];rfl

def val:List Nat->Nat
 | [] => 0
 | x :: t => x+B*val t

def zdf:Nat->Nat->List Nat
 | 0,_ => []
 | f+1,n => if n=0 then [] else n % B :: zdf f (n / B)

def zc (n:Nat):List Nat:=zdf n n

def zx (l:List Nat):Prop:=∀ x,x ∈ l->x<B

theorem zda {n:Nat} (h:n≠0):n / B<n:=Nat.div_lt_self (Nat.pos_of_ne_zero h) (by decide)

theorem zlx:∀ (n f g:Nat),n<=f->n<=g->zdf f n=zdf g n:=by
 intro n
 induction n using Nat.strongRecOn with
 | ind n ih =>
  intro f g hf hg
  by_cases h0:n=0
  ·subst h0
   cases f <;> cases g <;> simp [zdf]
  ·obtain ⟨f,rfl⟩:∃ k,f=k+1:=⟨f - 1,by omega⟩
   obtain ⟨g,rfl⟩:∃ k,g=k+1:=⟨g - 1,by omega⟩
   have hd:=zda h0
   simp only [zdf,if_neg h0]
   rw [ih (n / B) hd f g (by omega) (by omega)]

theorem zD:zc 0=[]:=rfl

theorem zaR {n:Nat} (h:n≠0):zc n=n % B :: zc (n / B):=by
 obtain ⟨k,rfl⟩:∃ k,n=k+1:=⟨n - 1,by omega⟩
 have hd:=zda h
 show zdf (k+1) (k+1)=_
 simp only [zdf,if_neg h]
 rw [zlx _ k ((k+1) / B) (by omega) (Nat.le_refl _)]
 rfl

theorem zec (x:Nat) (t:List Nat):val (x :: t)=x+B*val t:=rfl

theorem vL (n:Nat):val (zc n)=n:=by
 induction n using Nat.strongRecOn with
 | ind n ih =>
  by_cases h0:n=0
  ·subst h0;rfl
  ·rw [zaR h0,zec,ih _ (zda h0)]
   exact Nat.mod_add_div n B

theorem zbX:zx []:=fun _ h => by cases h

theorem zZ {x:Nat} {t:List Nat}:zx (x :: t) ↔ x<B/\zx t :=
 ⟨fun h => ⟨h x (by simp),fun y hy => h y (by simp [hy])⟩,fun h y hy => by
  rcases List.mem_cons.1 hy with rfl|hy
  ·exact h.1
  ·exact h.2 y hy⟩

theorem zdG {a b:List Nat}:zx (a++b) ↔ zx a/\zx b :=
 ⟨fun h => ⟨fun x hx => h x (by simp [hx]),fun x hx => h x (by simp [hx])⟩,fun h x hx => by
  rcases List.mem_append.1 hx with hx|hx
  ·exact h.1 x hx
  ·exact h.2 x hx⟩

theorem zx.take {l:List Nat} (h:zx l) (n:Nat):zx (l.take n):=fun x hx => h x (List.mem_of_mem_take hx)

theorem zx.drop {l:List Nat} (h:zx l) (n:Nat):zx (l.drop n):=fun x hx => h x (List.mem_of_mem_drop hx)

theorem zx.nth {l:List Nat} (h:zx l) (i:Nat):nth l i<B:=by
 rw [zav,List.getD_eq_getElem?_getD]
 by_cases hi:i<l.length
 ·simp [hi];exact h _ (List.getElem_mem hi)
 ·simp [Nat.not_lt.1 hi];decide

theorem zcU (n:Nat):zx (List.replicate n 0):=fun x hx => by
 rw [(List.mem_replicate.1 hx).2];decide

theorem zad (n:Nat):zx (zc n):=by
 induction n using Nat.strongRecOn with
 | ind n ih =>
  by_cases h0:n=0
  ·subst h0;exact zbX
  ·rw [zaR h0]
   exact zZ.2 ⟨Nat.mod_lt _ zdw,ih _ (zda h0)⟩

theorem zbC (a b:List Nat):val (a++b)=val a+B ^ a.length*val b:=by
 induction a with
 | nil => simp [val]
 | cons x t ih =>
  simp only [List.cons_append,val,List.length_cons,ih,Nat.pow_succ]
  rw [Nat.mul_add,Nat.add_assoc,Nat.mul_comm (B ^ t.length) B,Nat.mul_assoc]

theorem zbF (n:Nat):val (List.replicate n 0)=0:=by
 induction n with
 | zero => rfl
 | succ n ih => simp [List.replicate_succ,val,ih]

theorem zck {l:List Nat} (h:zx l):val l<B ^ l.length:=by
 induction l with
 | nil => simp [val]
 | cons x t ih =>
  have hx:=(zZ.1 h).1
  have ht:=ih (zZ.1 h).2
  simp only [val,List.length_cons,Nat.pow_succ]
  have:B*(val t+1)<=B*B ^ t.length:=Nat.mul_le_mul_left _ ht
  rw [Nat.mul_comm (B ^ t.length)]
  rw [Nat.mul_add] at this
  omega

theorem zfl {n k:Nat} (h:n<B ^ k):(zc n).length<=k:=by
 induction k generalizing n with
 | zero =>
   have:n=0:=by simpa using h
   subst this;simp [zD]
 | succ k ih =>
  by_cases h0:n=0
  ·subst h0;simp [zD]
  ·rw [zaR h0]
   have:n / B<B ^ k:=by
    rw [Nat.div_lt_iff_lt_mul zdw];rwa [Nat.pow_succ] at h
   have:=ih this
   simp;omega

theorem zhu (n:Nat):n<B ^ (zc n).length:=by
 have:=zck (zad n)
 rwa [vL] at this

theorem zcV {n:Nat} (h:n≠0):B ^ ((zc n).length - 1)<=n:=by
 induction n using Nat.strongRecOn with
 | ind n ih =>
  rw [zaR h]
  simp only [List.length_cons,Nat.add_sub_cancel]
  by_cases hd:n / B=0
  ·rw [hd,zD];simp;omega
  ·have h1:=ih _ (zda h) hd
   have h2:(zc (n / B)).length≠0:=by rw [zaR hd];simp
   obtain ⟨k,hk⟩:∃ k,(zc (n / B)).length=k+1:=⟨_,(Nat.succ_pred h2).symm⟩
   rw [hk] at h1 ⊢
   simp only [Nat.add_sub_cancel] at h1
   rw [Nat.pow_succ]
   exact Nat.le_trans (Nat.mul_le_mul_right _ h1) (Nat.div_mul_le_self n B)

def sz (n:Nat):Nat:=(zc n).length

theorem ze (n:Nat):(zc n).length=sz n:=rfl

theorem zel {n k:Nat} (h:n<B ^ k):sz n<=k:=zfl h

theorem zeh (n:Nat):n<B ^ sz n:=zhu n

theorem zak {m n:Nat} (h:m<=n):sz m<=sz n:=zel (Nat.lt_of_le_of_lt h (zeh n))

theorem zv {l:List Nat} (h:zx l):sz (val l)<=l.length:=zel (zck h)

theorem zcZ (m n:Nat):sz (m+n)<=max (sz m) (sz n)+1:=by
 apply zel
 have h1:m<B ^ max (sz m) (sz n):=Nat.lt_of_lt_of_le (zeh m) (Nat.pow_le_pow_right zdw (Nat.le_max_left _ _))
 have h2:n<B ^ max (sz m) (sz n):=Nat.lt_of_lt_of_le (zeh n) (Nat.pow_le_pow_right zdw (Nat.le_max_right _ _))
 rw [Nat.pow_succ,zaz]
 rw [zaz] at h1 h2
 omega

theorem zaf (m n:Nat):sz (m*n)<=sz m+sz n:=by
 apply zel
 rw [Nat.pow_add]
 exact Nat.mul_lt_mul'' (zeh m) (zeh n)

theorem zbs (m n:Nat):sz (m - n)<=sz m:=zak (Nat.sub_le _ _)

theorem zde (m n:Nat):sz (m / n)<=sz m:=zak (Nat.div_le_self _ _)

theorem sz_mod (m n:Nat):sz (m % n)<=sz m:=zak (Nat.mod_le _ _)

theorem zcp {n:Nat} (h:n<4294967296):sz n<=1:=zel (by rw [zaz];simpa using h)

theorem zhO:sz 0=0:=rfl

theorem zz {n:Nat}:sz n=0 ↔ n=0:=by
 constructor
 ·intro h
  have:=zeh n
  rw [h] at this
  simpa using this
 ·intro h;subst h;rfl

theorem zcm {l:List Nat} (h:zx l) (hl:l=[]\/nth l (l.length - 1)≠0):zc (val l)=l:=by
 induction l with
 | nil => rfl
 | cons x t ih =>
  have hx:=(zZ.1 h).1
  have hs:=(zZ.1 h).2
  have hlast:x+B*val t≠0/\(t=[]\/nth t (t.length - 1)≠0):=by
   rcases hl with hl|hl
   ·cases hl
   ·cases t with
    | nil => simp [zav] at hl;exact ⟨by simp [val];omega,.inl rfl⟩
    | cons y u =>
     simp [zav] at hl
     refine ⟨?_,.inr (by simpa [zav] using hl)⟩
     intro h0
     have hv:val (y :: u)=0:=by
      have:B*val (y :: u)=0:=by omega
      rcases Nat.mul_eq_zero.1 this with h1|h1
      ·exact absurd h1 (by decide)
      ·exact h1
     have hr:=ih hs (.inr (by simpa [zav] using hl))
     rw [hv,zD] at hr
     cases hr
  rw [zec,zaR hlast.1]
  rw [Nat.add_mul_mod_self_left,Nat.mod_eq_of_lt hx,Nat.add_mul_div_left _ _ zdw,Nat.div_eq_of_lt hx,Nat.zero_add,ih hs hlast.2]

theorem zaB {l:List Nat} {n:Nat} (hn:n<l.length) (h:nth l n=0):val (l.take (n+1))=val (l.take n):=by
 rw [List.take_add_one,zbC]
 have:l[n]?=some 0:=by
  rw [zav,List.getD_eq_getElem?_getD,List.getElem?_eq_getElem hn] at h
  rw [List.getElem?_eq_getElem hn];simpa using h
 simp [this,val]

theorem zdx {l:List Nat} (h:zx l) {n:Nat} (hn:n<=l.length) (hv:val (l.take n)=val l) (hlast:n=0\/nth l (n - 1)≠0) :
  zc (val l)=l.take n:=by
 rw [<- hv]
 apply zcm (h.take n)
 by_cases h1:n=0
 ·left;subst h1;rfl
 ·right
  have h0:nth l (n - 1)≠0:=hlast.resolve_left h1
  rw [List.length_take,Nat.min_eq_left hn]
  rw [zav,List.getD_eq_getElem?_getD,List.getElem?_take_of_lt (by omega),<- List.getD_eq_getElem?_getD,<- zav]
  exact h0

theorem zaZ {l:List Nat} (h:zx l):zc (val l)=l.take (sz (val l)):=by
 -- by induction from the end
 have key:∀ n,n<=l.length->∃ m,m<=n/\val (l.take m)=val (l.take n)/\(m=0\/nth l (m - 1)≠0):=by
  intro n
  induction n with
  | zero => intro _;exact ⟨0,Nat.le_refl _,rfl,.inl rfl⟩
  | succ n ih =>
   intro hn
   by_cases h0:nth l n=0
   ·obtain ⟨m,hm,hv,hl⟩:=ih (by omega)
    exact ⟨m,by omega,by rw [hv,zaB (by omega) h0],hl⟩
   ·exact ⟨n+1,Nat.le_refl _,rfl,.inr (by simpa using h0)⟩
 obtain ⟨m,hm,hv,hl⟩:=key l.length (Nat.le_refl _)
 rw [List.take_length] at hv
 have:=zdx h hm hv hl
 have hs:sz (val l)=m:=by rw [<- ze,this,List.length_take,Nat.min_eq_left hm]
 rw [hs,this]

theorem zdu {l:List Nat} (h:zx l):zc (val l)=l ↔ sz (val l)=l.length:=by
 constructor
 ·intro e;rw [<- ze,e]
 ·intro e;rw [zaZ h,e,List.take_length]

theorem zfS {l:List Nat} {i n:Nat} (h:i<n):nth (l.take n) i=nth l i:=by
 simp [zav,List.getD_eq_getElem?_getD,List.getElem?_take_of_lt h]

theorem zbZ {l:List Nat} {k:Nat} (h:k<l.length):l.take (k+1)=l.take k++[nth l k]:=by
 rw [List.take_add_one,zbg h,List.getElem?_eq_getElem h];rfl

theorem zcC (a:List Nat) (x:Nat):val (a++[x])=val a+B ^ a.length*x:=by
 rw [zbC];simp [val]

theorem zbE {l:List Nat} {k:Nat} (h:k<l.length):val (l.take (k+1))=val (l.take k)+B ^ k*nth l k:=by
 rw [zbZ h,zcC,List.length_take,Nat.min_eq_left (Nat.le_of_lt h)]

theorem zbd {l:List Nat} {i x:Nat} (h:i<l.length):nth (l.set i x) i=x:=by
 rw [zbg (by simpa using h)];simp

theorem zcl {l:List Nat} {i j x:Nat} (h:i≠j):nth (l.set i x) j=nth l j:=by
 simp [zav,List.getD_eq_getElem?_getD,List.getElem?_set_ne h]

theorem zeW {l:List Nat} {i k x:Nat} (h:k<=i):(l.set i x).take k=l.take k:=by
 rw [List.take_set]
 apply List.set_eq_of_length_le
 rw [List.length_take];omega

theorem zdU {l:List Nat} {i x:Nat} (h:i<l.length):val ((l.set i x).take (i+1))=val (l.take i)+B ^ i*x:=by
 rw [zbE (by simpa using h),zeW (Nat.le_refl _),zbd h]

theorem zcx {l:List Nat} {k:Nat} (h:k<l.length):val (l.drop k)=nth l k+B*val (l.drop (k+1)):=by
 rw [List.drop_eq_getElem_cons h,zec,zbg h]

def zO (n:Nat):Nat:=if n=0 then 0 else n.log2+1

theorem zei (n:Nat):n<2 ^ zO n:=by
 unfold zO
 by_cases h:n=0
 ·simp [h]
 ·rw [if_neg h];exact Nat.lt_log2_self

theorem zcg {n k:Nat}:zO n<=k ↔ n<2 ^ k:=by
 constructor
 ·intro h;exact Nat.lt_of_lt_of_le (zei n) (Nat.pow_le_pow_right (by decide) h)
 ·intro h
  unfold zO
  by_cases h0:n=0
  ·simp [h0]
  ·rw [if_neg h0];exact (Nat.log2_lt h0).2 h

theorem nbits_eq {n k:Nat} (h1:2 ^ k<=n) (h2:n<2 ^ (k+1)):zO n=k+1:=by
 have a:zO n<=k+1:=zcg.2 h2
 have b:¬ zO n<=k:=fun h => by have:=zcg.1 h;omega
 omega

theorem zlv {n:Nat} (h:n≠0):∃ k,zO n=k+1/\2 ^ k<=n/\n<2 ^ (k+1) :=
 ⟨n.log2,by simp [zO,h],Nat.log2_self_le h,Nat.lt_log2_self⟩

theorem zaX {n:Nat}:zO n=0 ↔ n=0:=by
 constructor
 ·intro h;have:=zei n;rw [h] at this;simpa using this
 ·intro h;subst h;rfl

theorem zjP {m n:Nat} (h:m<=n):zO m<=zO n:=zcg.2 (Nat.lt_of_le_of_lt h (zei n))

theorem zlf {a:List Nat} {x:Nat} (ha:zx a) (hx:x≠0):zO (val (a++[x]))=32*a.length+zO x:=by
 obtain ⟨k,hk,h1,h2⟩:=zlv hx
 rw [hk,<- Nat.add_assoc]
 have hB:B ^ a.length=2 ^ (32*a.length):=by
  rw [Nat.pow_mul];rfl
 have hv:=zck ha
 rw [zcC]
 apply nbits_eq
 ·rw [Nat.pow_add,<- hB]
  exact Nat.le_trans (Nat.mul_le_mul_left _ h1) (Nat.le_add_left _ _)
 ·rw [Nat.add_assoc,Nat.pow_add,<- hB]
  calc val a+B ^ a.length*x<B ^ a.length+B ^ a.length*x:=by omega
   _=B ^ a.length*(x+1):=by rw [Nat.mul_add,Nat.mul_one,Nat.add_comm]
   _<=_:=Nat.mul_le_mul_left _ h2

def zaU (a b:Nat):Int:=if a<b then -1 else if b<a then 1 else 0

theorem zef {a b:Nat} (h:a<b):zaU a b=-1:=by simp [zaU,h]

theorem zho {a b:Nat} (h:b<a):zaU a b=1:=by
 have:¬ a<b:=by omega
 simp [zaU,h,this]

theorem zgZ {a b:Nat} (h:a=b):zaU a b=0:=by subst h;simp [zaU]

theorem zjb {a b:Nat}:zaU a b<0 ↔ a<b:=by unfold zaU;split <;> (try split) <;> omega

theorem zdH {a b:Nat}:0<=zaU a b ↔ b<=a:=by unfold zaU;split <;> (try split) <;> omega

theorem zeC {a b:Nat}:zaU a b=0 ↔ a=b:=by unfold zaU;split <;> (try split) <;> omega

theorem zt {l:List Nat} {k:Nat} (h:l.length<=k):val (l.take k)=val l:=by
 rw [List.take_of_length_le h]

theorem zp (l:List Nat) (k:Nat):val (l.take (k+1))=val (l.take k)+B ^ k*nth l k:=by
 by_cases h:k<l.length
 ·exact zbE h
 ·rw [zt (by omega),zt (by omega),zez (by omega)];simp

theorem zaM {l:List Nat} (h:zx l):val (l.take (sz (val l)))=val l:=by
 rw [<- zaZ h,vL]

theorem zeT {l:List Nat} (h:zx l) {n:Nat} (hn:sz (val l)<=n):val (l.take n)=val l:=by
 have e:=zaM h
 have h1:∀ d,val (l.take (sz (val l)+d))=val l:=by
  intro d
  induction d with
  | zero => exact e
  | succ d ih =>
   have h2:nth l (sz (val l)+d)=0:=by
    rcases Nat.lt_or_ge (sz (val l)+d) l.length with h3|h3
    ·
     rcases Nat.eq_zero_or_pos (nth l (sz (val l)+d)) with h4|h4
     ·exact h4
     ·have h5:val l=val (l.take (sz (val l)+d+1))+B ^ (sz (val l)+d+1)*val (l.drop (sz (val l)+d+1)):=by
       have h6:=zbC (l.take (sz (val l)+d+1)) (l.drop (sz (val l)+d+1))
       rw [List.take_append_drop,List.length_take,Nat.min_eq_left (by omega)] at h6
       exact h6
      rw [zbE h3,ih] at h5
      have h7:0<B ^ (sz (val l)+d)*nth l (sz (val l)+d):=Nat.mul_pos (Nat.pow_pos zdw) h4
      omega
    ·exact zez h3
   rw [<- Nat.add_assoc,zp,h2,ih];simp
 have h8:=h1 (n - sz (val l))
 rwa [show sz (val l)+(n - sz (val l))=n by omega] at h8

theorem zfN {m n:Nat} (h:sz m<sz n):m<n:=by
 have hn:n≠0:=fun e => by rw [e,zhO] at h;omega
 have h1:=zcV hn
 rw [ze] at h1
 have h2:=zeh m
 have h3:=Nat.pow_le_pow_right (n:=B) zdw (show sz m<=sz n - 1 by omega)
 omega

theorem zkE {m n:Nat} (h:sz m<sz n):zaU m n=-1:=zef (zfN h)

theorem zkV {m n:Nat} (h:sz n<sz m):zaU m n=1:=zho (zfN h)

def zau (a b:List Nat) (k:Nat):Prop:=∃ T,val a=val (a.take k)+B ^ k*T/\val b=val (b.take k)+B ^ k*T

theorem zau.step {a b:List Nat} {k:Nat} (h:zau a b (k+1)) (e:nth a k=nth b k):zau a b k:=by
 obtain ⟨T,h1,h2⟩:=h
 refine ⟨nth a k+B*T,?_,?_⟩
 ·rw [h1,zp,Nat.mul_add,Nat.pow_succ,Nat.mul_assoc,Nat.add_assoc]
 ·rw [h2,zp,e,Nat.mul_add,Nat.pow_succ,Nat.mul_assoc,Nat.add_assoc]

theorem zbK {l:List Nat} (h:zx l) (k:Nat):val (l.take k)<B ^ k:=by
 have h1:=zck (h.take k)
 exact Nat.lt_of_lt_of_le h1 (Nat.pow_le_pow_right zdw (by rw [List.length_take];exact Nat.min_le_left _ _))

theorem zau.lt {a b:List Nat} {k:Nat} (h:zau a b (k+1)) (hs:zx a) (e:nth a k<nth b k):val a<val b:=by
 obtain ⟨T,h1,h2⟩:=h
 rw [h1,h2,zp,zp]
 have h3:=zbK hs k
 have h4:B ^ k*(nth a k+1)<=B ^ k*nth b k:=Nat.mul_le_mul_left _ e
 rw [Nat.mul_add] at h4
 omega

theorem zhd {a b:List Nat} {n:Nat} (hna:a.length<=n) (hnb:b.length<=n):zau a b n :=
 ⟨0,by rw [zt hna];simp,by rw [zt hnb];simp⟩

theorem zau.symm {a b:List Nat} {k:Nat} (h:zau a b k):zau b a k:=let ⟨T,h1,h2⟩:=h;⟨T,h2,h1⟩

theorem zau.zero {a b:List Nat} (h:zau a b 0):val a=val b:=by
 obtain ⟨T,h1,h2⟩:=h
 rw [h1,h2];simp

theorem zgm {a b:List Nat} (ha:zx a) (hb:zx b) {n:Nat} (hna:sz (val a)=n) (hnb:sz (val b)=n):zau a b n :=
 ⟨0,by rw [<- hna,zaM ha];simp,by rw [<- hnb,zaM hb];simp⟩

theorem zie {l:List Nat} (h:zx l) (h0:sz (val l)≠0):nth l (sz (val l) - 1)≠0:=by
 have hv:val l≠0:=fun e => h0 (by rw [e];rfl)
 have h1:=zcV hv
 intro hz
 have hle:=zv h
 rw [ze] at h1
 have e:val (l.take (sz (val l)))=val l:=by rw [<- zaZ h,vL]
 have hs:sz (val l)=sz (val l) - 1+1:=by omega
 rw [hs,zaB (by omega) hz] at e
 have:=zck (h.take (sz (val l) - 1))
 rw [e,List.length_take,Nat.min_eq_left (by omega)] at this
 omega

theorem zlw {l:List Nat} (h:zx l) (h0:sz (val l)≠0):zO (val l)=32*(sz (val l) - 1)+zO (nth l (sz (val l) - 1)):=by
 have h1:=zie h h0
 have hle:=zv h
 have e:=zaM h
 obtain ⟨k,hk⟩:∃ k,sz (val l)=k+1:=⟨sz (val l) - 1,by omega⟩
 rw [hk] at e h1 hle ⊢
 rw [Nat.add_sub_cancel] at h1 ⊢
 rw [<- e,zbZ (by omega),zlf (h.take k) h1,List.length_take]
 congr 2
 omega

theorem ziv {m n:Nat} (hn:2 ^ n<=m):n<zO m:=by
 have:=zei m
 rcases Nat.lt_or_ge n (zO m) with h1|h1
 ·exact h1
 ·have:=Nat.pow_le_pow_right (n:=2) (by omega) h1
  omega

theorem B_two:2<=B:=by rw [zaz];omega

theorem zjt {S a b c n:Nat} (h1:S+B ^ (n+1)*c=a+b) (h2:a<B ^ n) (h3:b<B ^ n):S=a+b:=by
 have h5:B ^ n*2<=B ^ (n+1):=by rw [Nat.pow_succ];exact Nat.mul_le_mul_left _ B_two
 have h6:∀ p q:Nat,S+q*c=a+b->a<p->b<p->p*2<=q->S=a+b:=by
  intro p q k1 k2 k3 k4
  rcases Nat.eq_zero_or_pos c with h|h
  ·subst h;rw [Nat.mul_zero] at k1;omega
  ·have h4:q*1<=q*c:=Nat.mul_le_mul_left _ h
   omega
 exact h6 _ _ h1 h2 h3 h5

end Go.Proofs.YtkjcdnlpjldhaaaGreat.Tw


namespace Go.Proofs.YtkjcdnlpjldhaaaGreat
open Tw

theorem guess_ge {r b t P:Nat} (hP:0<P) (ht:0<t) (hb:t*P<=b):r / b<=r / P / t:=by
 rw [Nat.div_div_eq_div_mul]
 exact Nat.div_le_div_left (by rw [Nat.mul_comm];exact hb) (Nat.mul_pos hP ht)

theorem div_step (x y b:Nat) (hb:0<b):(x+B*y) / b=(x+B*(y % b)) / b+B*(y / b):=by
 have h:x+B*y=(x+B*(y % b))+b*(B*(y / b)):=by
  have h1:=Nat.mod_add_div y b
  have h2:B*y=B*(y % b)+B*(b*(y / b)):=by rw [<- Nat.mul_add,h1]
  rw [h2,Nat.mul_left_comm b];omega
 rw [h,Nat.add_mul_div_left _ _ hb]

theorem mod_step (x y b:Nat):(x+B*y) % b=(x+B*(y % b)) % b:=by
 have h:x+B*y=(x+B*(y % b))+b*(B*(y / b)):=by
  have h1:=Nat.mod_add_div y b
  have h2:B*y=B*(y % b)+B*(b*(y / b)):=by rw [<- Nat.mul_add,h1]
  rw [h2,Nat.mul_left_comm b];omega
 rw [h,Nat.add_mul_mod_self_left]

theorem zkl {x r b:Nat} (hx:x<B) (hr:r<b):x+B*r<B*b:=by
 have h:B*r+B<=B*b:=by rw [<- Nat.mul_succ];exact Nat.mul_le_mul_left B hr
 omega

theorem zim {x r b:Nat} (hx:x<B) (hr:r<b):(x+B*r) / b<B:=by
 rw [Nat.div_lt_iff_lt_mul (by omega)]
 exact zkl hx hr

theorem digit_eq {rest b q:Nat} (hb:0<b) (h1:b*q<=rest) (h2:rest / b<=q):q=rest / b :=
 Nat.le_antisymm ((Nat.le_div_iff_mul_le hb).2 (by rw [Nat.mul_comm];exact h1)) h2

theorem zjN {rest b q:Nat} (hb:0<b) (h1:rest<b*q) (h2:rest / b<=q):0<q/\rest / b<=q - 1:=by
 have h3:rest / b<q:=(Nat.div_lt_iff_lt_mul hb).2 (by rw [Nat.mul_comm];exact h1)
 exact ⟨Nat.lt_of_le_of_lt (Nat.zero_le _) h3,Nat.le_sub_one_of_lt h3⟩

theorem zjo {rest b:Nat}:rest - b*(rest / b)=rest % b:=by
 have:=Nat.mod_add_div rest b
 omega

theorem zig {a b p:Nat} (hp:0<p):a*p / (b*p)=a / b:=Nat.mul_div_mul_right a b hp

theorem zin {a b p:Nat} (hp:0<p):a*p % (b*p) / p=a % b:=by
 rw [Nat.mul_mod_mul_right,Nat.mul_div_cancel _ hp]

theorem zkG {l:List Nat} {k:Nat} (hk:k<=l.length):val l=val (l.take k)+B ^ k*val (l.drop k):=by
 conv => lhs;rw [<- List.take_append_drop k l]
 rw [zbC,List.length_take,Nat.min_eq_left hk]

theorem zkB {l:List Nat} (h:zx l) {k:Nat} (hk:k<=l.length):val l / B ^ k=val (l.drop k):=by
 rw [zkG hk,Nat.add_mul_div_left _ _ (Nat.pow_pos zdw),Nat.div_eq_of_lt (zbK h k),Nat.zero_add]

theorem bit_eq {l:List Nat} (h:zx l) {k r:Nat} (hk:k<l.length) (hr:r<32):val l / 2 ^ (32*k+r) % 2=nth l k / 2 ^ r % 2:=by
 have h1:(2:Nat) ^ (32*k+r)=B ^ k*2 ^ r:=by rw [Nat.pow_add,Nat.pow_mul];rfl
 rw [h1,<- Nat.div_div_eq_div_mul,zkB h (by omega),zcx hk]
 obtain ⟨Y,hY⟩:∃ Y,val (l.drop (k+1))=Y:=⟨_,rfl⟩
 have h2:B=2 ^ r*(2*2 ^ (31 - r)):=by
  rw [<- Nat.pow_succ',<- Nat.pow_add,show r+(31 - r).succ=32 by omega];rfl
 have h3:B*Y=2 ^ r*(2*(2 ^ (31 - r)*Y)):=by rw [h2];simp only [Nat.mul_assoc]
 rw [hY,h3,Nat.add_mul_div_left _ _ (Nat.pow_pos (by omega)),Nat.add_mul_mod_self_left]

theorem bit_div {x y b:Nat} (hb:0<b) (hx:x<2):(2*y+x) / b=2*(y / b)+(if b<=2*(y % b)+x then 1 else 0):=by
 have h1:=Nat.mod_add_div y b
 have h2:=Nat.mod_lt y hb
 have h:2*y+x=(2*(y % b)+x)+b*(2*(y / b)):=by
  rw [Nat.mul_left_comm b];omega
 rw [h,Nat.add_mul_div_left _ _ hb]
 split
 ·next h3 =>
  have:(2*(y % b)+x) / b=1:=by
   rw [Nat.div_eq_of_lt_le] <;> omega
  omega
 ·next h3 => rw [Nat.div_eq_of_lt (by omega)];omega

theorem bit_mod {x y b:Nat} (hb:0<b) (hx:x<2):(2*y+x) % b=if b<=2*(y % b)+x then 2*(y % b)+x - b else 2*(y % b)+x:=by
 have h1:=Nat.mod_add_div y b
 have h2:=Nat.mod_lt y hb
 have h:2*y+x=(2*(y % b)+x)+b*(2*(y / b)):=by
  rw [Nat.mul_left_comm b];omega
 rw [h,Nat.add_mul_mod_self_left]
 split
 ·next h3 => rw [Nat.mod_eq_sub_mod h3,Nat.mod_eq_of_lt (by omega)]
 ·next h3 => rw [Nat.mod_eq_of_lt (by omega)]

theorem zhM {Z:List Nat} {j x:Nat} (h:j<Z.length):val ((Z.set j x).drop j)=x+B*val (Z.drop (j+1)):=by
 rw [zcx (by simpa using h),zbd h,List.drop_set_of_lt (by omega)]

theorem ziY {Z la:List Nat} {j d:Nat} (hd:0<d) (hZ:j<Z.length) (hl:j<la.length) (hv:val (Z.drop (j+1))=val (la.drop (j+1)) / d) :
  val ((Z.set j ((nth la j+B*(val (la.drop (j+1)) % d)) / d)).drop j)=val (la.drop j) / d:=by
 rw [zhM hZ,hv,zcx hl]
 exact (div_step _ _ _ hd).symm

theorem ziG {la:List Nat} {j d:Nat} (hl:j<la.length):val (la.drop j) % d=(nth la j+B*(val (la.drop (j+1)) % d)) % d:=by
 rw [zcx hl]
 exact mod_step _ _ _

theorem zbI {l:List Nat} {n:Nat} (h:l.length<=n):val (l.drop n)=0:=by
 rw [List.drop_eq_nil_of_le h];rfl

theorem zes {R D n:Nat} (hD:0<D) (hn:sz D=n) (hR:R<B*D):sz R<=n+1:=by
 apply zel
 have h1:=zeh D
 rw [hn] at h1
 rw [Nat.pow_succ,Nat.mul_comm]
 exact Nat.lt_of_lt_of_le hR (Nat.mul_le_mul_left _ (Nat.le_of_lt h1))

theorem zgY {D n:Nat} (hD:0<D) (hn:sz D=n+1):0<nth (zc D) n/\nth (zc D) n*B ^ n<=D:=by
 have h0:sz (val (zc D))≠0:=by rw [vL];omega
 have h1:=zie (zad D) h0
 rw [vL,hn,Nat.add_sub_cancel] at h1
 refine ⟨Nat.pos_of_ne_zero h1,?_⟩
 have h2:=zp (zc D) n
 rw [zt (by rw [ze];omega),vL] at h2
 rw [Nat.mul_comm];omega

theorem zkK {R n:Nat} (hn:sz R<=n+2) (hl:n<sz R):R / B ^ n=nth (zc R) n+B*nth (zc R) (n+1):=by
 have h1:=zkB (zad R) (k:=n) (by rw [ze];omega)
 rw [vL] at h1
 rw [h1,zcx (by rw [ze];exact hl)]
 congr 2
 by_cases h:n+1<sz R
 ·rw [zcx (by rw [ze];exact h),zbI (by rw [ze];omega)];omega
 ·rw [zbI (by rw [ze];omega),zez (by rw [ze];omega)]

theorem guess_ok {R D n:Nat} (hD:0<D) (hn:sz D=n+1) (hR:R<B*D) (hl:n<sz R) :
  R / D<=(nth (zc R) (n+1)*4294967296+nth (zc R) n) / nth (zc D) n:=by
 obtain ⟨h1,h2⟩:=zgY hD hn
 have h3:=guess_ge (r:=R) (Nat.pow_pos (n:=n) zdw) h1 h2
 rw [zkK (zes hD hn hR) hl,zaz] at h3
 rw [Nat.mul_comm (nth (zc R) (n+1)),Nat.add_comm]
 exact h3

theorem zeX {x r d:Nat} (hx:x<4294967296) (hd:0<d) (hr:r<d):(r*4294967296+x) / d<4294967296:=by
 rw [Nat.div_lt_iff_lt_mul hd,Nat.mul_comm 4294967296]
 have:(r+1)*4294967296<=d*4294967296:=Nat.mul_le_mul_right _ hr
 omega

theorem zkd {R D:Nat} (h:sz R<sz D):R / D=0:=Nat.div_eq_of_lt (zfN h)

theorem zkT {R D:Nat} (hD:0<D) (hR:R<B*D):R / D<=4294967295:=by
 have:R / D<B:=(Nat.div_lt_iff_lt_mul hD).2 hR
 rw [zaz] at this;omega

end Go.Proofs.YtkjcdnlpjldhaaaGreat


namespace Go.Proofs.YtkjcdnlpjldhaaaGreat
open Tw

def sgn (b:Bool) (n:Nat):Int:=if b then -(n:Int) else n

theorem zeA (z:Int):sgn (decide (z<0)) z.natAbs=z:=by
 unfold sgn
 by_cases h:z<0
 ·simp [h];omega
 ·simp [h];omega

theorem zdn (b:Bool) (n:Nat):(sgn b n).natAbs=n:=by
 unfold sgn;cases b <;> simp

theorem sgn_neg (b:Bool) (n:Nat):decide (sgn b n<0)=(b && decide (0<n)):=by
 unfold sgn
 cases b <;> simp <;> omega

theorem sgn_not (b:Bool) (n:Nat):sgn (!b) n=- sgn b n:=by
 unfold sgn;cases b <;> simp

theorem sgn_zero (b:Bool):sgn b 0=0:=by unfold sgn;cases b <;> rfl

theorem zje (b:Bool) (m n:Nat):sgn b (m+n)=sgn b m+sgn b n:=by
 unfold sgn;cases b <;> simp <;> omega

theorem ziT {b c:Bool} {m n:Nat} (hbc:b≠c) (h:n<=m):sgn b (m - n)=sgn b m+sgn c n:=by
 unfold sgn;cases b <;> cases c <;> simp_all <;> omega

theorem zil {b c:Bool} {m n:Nat} (hbc:b≠c) (h:m<n):sgn c (n - m)=sgn b m+sgn c n:=by
 unfold sgn;cases b <;> cases c <;> simp_all <;> omega

theorem zhm (b c:Bool) (m n:Nat):sgn (b != c) (m*n)=sgn b m*sgn c n:=by
 unfold sgn;cases b <;> cases c <;> simp [Int.neg_mul,Int.mul_neg]

theorem zcd (n:Nat):sgn false n=n:=rfl

theorem ziy (n:Nat):sgn true n=-(n:Int):=rfl

def szi (z:Int):Nat:=sz z.natAbs

theorem szi_sgn (b:Bool) (n:Nat):szi (sgn b n)=sz n:=by unfold szi;rw [zdn]

theorem zkn (x y:Int):szi (x+y)<=max (szi x) (szi y)+1:=by
 unfold szi
 exact Nat.le_trans (zak (Int.natAbs_add_le x y)) (zcZ _ _)

theorem zcK (x y:Int):szi (x*y)<=szi x+szi y:=by
 unfold szi;rw [Int.natAbs_mul];exact zaf _ _

end Go.Proofs.YtkjcdnlpjldhaaaGreat


namespace Go.Proofs.YtkjcdnlpjldhaaaGreat
namespace Tw

def rat (b:Bool) (n d:Nat):Rat:=mkRat (sgn b n) d

theorem zbW (b:Bool) (n:Nat):rat b n 0=0:=Rat.mkRat_zero _

theorem zbT (b:Bool) (d:Nat):rat b 0 d=0:=by unfold rat;rw [sgn_zero];exact Rat.zero_mkRat _

theorem zfb {b:Bool} {n d:Nat} (hd:d≠0):rat b n d=0 ↔ n=0:=by
 unfold rat
 rw [Rat.mkRat_eq_zero hd]
 unfold sgn
 cases b <;> simp

theorem zhh {b:Bool} {n d:Nat} (hd:d≠0):(rat b n d).num.natAbs=n / Nat.gcd n d:=by
 unfold rat
 rw [Rat.num_mkRat,if_neg hd,zdn,Nat.gcd_comm]
 have h:((Nat.gcd n d:Nat):Int) ∣ sgn b n:=by
  unfold sgn
  cases b
  ·exact Int.ofNat_dvd.2 (Nat.gcd_dvd_left n d)
  ·exact Int.dvd_neg.2 (Int.ofNat_dvd.2 (Nat.gcd_dvd_left n d))
 rw [Int.natAbs_ediv_of_dvd h,zdn]
 rfl

theorem zhD {b:Bool} {n d:Nat} (hd:d≠0):(rat b n d).den=d / Nat.gcd n d:=by
 unfold rat
 rw [Rat.den_mkRat,if_neg hd,zdn,Nat.gcd_comm]

theorem zbo (q:Rat):decide (q<0)=decide (q.num<0):=by
 congr 1
 have h:0<=q.num ↔ 0<=q:=Rat.num_nonneg
 apply propext
 rw [<- Rat.not_le,<- h]
 omega

theorem zkp (q:Rat):sgn (decide (q<0)) q.num.natAbs=q.num:=by rw [zbo,zeA]

theorem zbm (q:Rat):rat (decide (q<0)) q.num.natAbs q.den=q:=by
 unfold rat
 rw [zkp,Rat.mkRat_self]

theorem zky (b:Bool) {n d:Nat} (hd:d≠0) (hn:n≠0):decide (rat b n d<0)=b:=by
 have hq:rat b n d≠0:=fun h => hn ((zfb hd).1 h)
 cases b with
 | false =>
  have:0<=rat false n d:=by
   unfold rat
   rw [<- Rat.divInt_ofNat]
   exact Rat.divInt_nonneg (by rw [zcd];omega) (by omega)
  exact decide_eq_false (fun h => absurd this (Rat.not_le.2 h))
 | true =>
  have h1:- rat true n d=rat false n d:=by
   unfold rat
   rw [Rat.neg_mkRat,ziy,zcd,Int.neg_neg]
  have h2:0<=rat false n d:=by
   unfold rat
   rw [<- Rat.divInt_ofNat]
   exact Rat.divInt_nonneg (by rw [zcd];omega) (by omega)
  refine decide_eq_true (Rat.not_le.1 fun h => hq ?_)
  exact Rat.nonneg_antisymm h (by rw [h1];exact h2)

theorem zdo (z:Int) (d:Nat):mkRat z d=rat (decide (z<0)) z.natAbs d:=by unfold rat;rw [zeA]

theorem zdZ (b c:Bool) (m n d e:Nat):rat b m d*rat c n e=rat (b != c) (m*n) (d*e):=by
 unfold rat
 rw [Rat.mkRat_mul_mkRat,zhm]

theorem rat_not (b:Bool) (n d:Nat):rat (!b) n d=- rat b n d:=by
 unfold rat
 rw [Rat.neg_mkRat,sgn_not]

def szq (q:Rat):Nat:=max (sz q.num.natAbs) (sz q.den)

theorem zaw (q:Rat):sz q.num.natAbs<=szq q:=Nat.le_max_left _ _

theorem zah (q:Rat):sz q.den<=szq q:=Nat.le_max_right _ _

theorem zfq (b:Bool) (n d:Nat):szq (rat b n d)<=max 1 (max (sz n) (sz d)):=by
 by_cases hd:d=0
 ·subst hd
  rw [zbW]
  have:szq 0<=1:=by decide +kernel
  omega
 ·unfold szq
  rw [zhh hd,zhD hd]
  have h1:=zde n (Nat.gcd n d)
  have h2:=zde d (Nat.gcd n d)
  omega

theorem zfy (q:Rat):szq (-q)=szq q:=by unfold szq;rw [Rat.neg_num,Rat.neg_den,Int.natAbs_neg]

theorem zdp (q:Rat):1<=szq q:=by
 have h:=zah q
 have:sz q.den≠0:=fun e => q.den_nz (zz.1 e)
 omega

theorem zkv (q r:Rat):szq (q+r)<=szq q+szq r+1:=by
 rw [Rat.add_def',zdo]
 refine Nat.le_trans (zfq _ _ _) ?_
 have h1:=zkn (q.num*(r.den:Int)) (r.num*(q.den:Int))
 have h2:=zcK q.num (r.den:Int)
 have h3:=zcK r.num (q.den:Int)
 have h4:=zaf q.den r.den
 have a1:=zaw q
 have a2:=zah q
 have a3:=zaw r
 have a4:=zah r
 have o1:=zdp q
 unfold szi at h1 h2 h3
 rw [Int.natAbs_natCast] at h2 h3
 omega

theorem zhp (q r:Rat):szq (q*r)<=szq q+szq r:=by
 rw [Rat.mul_def',zdo]
 refine Nat.le_trans (zfq _ _ _) ?_
 have h1:=zcK q.num r.num
 have h4:=zaf q.den r.den
 have a1:=zaw q
 have a2:=zah q
 have a3:=zaw r
 have a4:=zah r
 have o1:=zdp q
 unfold szi at h1
 omega

theorem szq_sub (q r:Rat):szq (q - r)<=szq q+szq r+1:=by
 rw [Rat.sub_eq_add_neg]
 have:=zkv q (-r)
 rwa [zfy] at this

theorem zdT (q:Rat):szq q⁻¹<=szq q:=by
 unfold szq
 rw [Rat.num_inv,Rat.den_inv]
 split
 ·rename_i h
  rw [h]
  have:sz q.den≠0:=fun e => q.den_nz (zz.1 e)
  have h1:sz ((0:Int).sign*(q.den:Int)).natAbs=0:=by simp [zhO]
  rw [h1]
  have:sz 1<=1:=by decide +kernel
  omega
 ·rename_i h
  rw [Int.natAbs_mul,Int.natAbs_sign_of_ne_zero h,Nat.one_mul,Int.natAbs_natCast]
  omega

theorem szq_div (q r:Rat):szq (q / r)<=szq q+szq r:=by
 rw [Rat.div_def]
 have h1:=zhp q r⁻¹
 have h2:=zdT r
 omega

end Tw
end Go.Proofs.YtkjcdnlpjldhaaaGreat


namespace Go.Proofs.YtkjcdnlpjldhaaaGreat
open Tw

theorem zij {y:Nat} (h:y % 2=1) (j:Nat):Nat.Coprime (2 ^ j) y:=by
 apply Nat.Coprime.pow_left
 show Nat.gcd 2 y=1
 rw [Nat.gcd_rec,h];rfl

theorem zfB {m y:Nat} (j:Nat) (h:y % 2=1):Nat.gcd (m*2 ^ j) y=Nat.gcd m y :=
 Nat.Coprime.gcd_mul_right_cancel m (zij h j)

theorem zgS {x y:Nat} (h:y<=x):Nat.gcd (x - y) y=Nat.gcd x y:=Nat.gcd_sub_self_left h

theorem gcd_twos {x y n k:Nat} (hx:x % 2=1) (hy:y % 2=1):Nat.gcd (x*2 ^ n) (y*2 ^ k)=Nat.gcd x y*2 ^ min n k:=by
 rcases Nat.le_total n k with h|h
 ·obtain ⟨j,rfl⟩:=Nat.exists_eq_add_of_le h
  rw [Nat.min_eq_left h,Nat.add_comm n j,Nat.pow_add,<- Nat.mul_assoc,Nat.gcd_mul_right]
  congr 1
  rw [Nat.gcd_comm,zfB j hx,Nat.gcd_comm]
 ·obtain ⟨j,rfl⟩:=Nat.exists_eq_add_of_le h
  rw [Nat.min_eq_right h,Nat.add_comm k j,Nat.pow_add,<- Nat.mul_assoc,Nat.gcd_mul_right,zfB j hy]

theorem gcd_step (a b:Nat):Nat.gcd b (a % b)=Nat.gcd a b:=by
 rw [Nat.gcd_comm b,<- Nat.gcd_rec,Nat.gcd_comm]

theorem zke {n:Nat} (h:n≠0):nth (zc n) 0 % 2=n % 2:=by
 rw [zaR h]
 show n % B % 2=n % 2
 rw [zaz];omega

theorem zdk {m k n:Nat} (h:n=m*2 ^ k) (hn:n≠0):k<zO n:=by
 apply ziv
 rcases Nat.eq_zero_or_pos m with rfl|hm
 ·rw [Nat.zero_mul] at h;exact absurd h hn
 ·rw [h];exact Nat.le_mul_of_pos_left _ hm

theorem zdt {a b:Nat} (h:0<b):0<Nat.gcd a b:=Nat.gcd_pos_of_pos_right a h

end Go.Proofs.YtkjcdnlpjldhaaaGreat

