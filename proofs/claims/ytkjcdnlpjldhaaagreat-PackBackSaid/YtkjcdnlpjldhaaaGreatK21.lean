/-
  The texts PackCount, PackNat, InsSet, merged.
-/
import Derived.Test.YtkjcdnlpjldhaaaGreatK05
import Derived.Test.YtkjcdnlpjldhaaaGreatK18
import Derived.Lib.Hide
import Derived.Test.YtkjcdnlpjldhaaaGreatK07
import Derived.Test.YtkjcdnlpjldhaaaGreatK20
set_option linter.unusedVariables false
set_option linter.unusedSimpArgs false
set_option maxRecDepth 100000
set_option maxHeartbeats 400000000
namespace Go.Proofs.YtkjcdnlpjldhaaaGreat
open Go.RowKit Tw

def Reads {α:Type} (N R:Nat) (w:World) (enc:α->World->Value->Prop) (o:Option (α × List Nat)) (e:Ending) (w':World):Prop :=
 w.grownBy w' (some R)/\match o with
  | some y => (∃ v,e=.returned v/\enc y.1 w' v)/\RB N R w' y.2
  | none => e=.panicked zix

def encN (n:Nat) (_:World) (v:Value):Prop:=v=.int .i64 (n:Int)

theorem zac (N R:Nat) (l:List Nat) (w:World) (h:RB N R w l) :
  Calls Tryz.prog 79 #[.pointer (some ⟨R,0,none⟩)] w (Reads N R w encN (zc l)):=by
 have H:=Lib.hid h
 clear h
 go_enter Tryz.func79,Tryz.ntmps79
 go_wp2_with fail
 go_loopw [3,4,7] (fun sn sf si ww => ∃ (k n f:Nat) (l':List Nat),k<=4/\sn=.int .i64 n/\sf=.int .i64 f/\si=.int .i64 k/\RB N R ww l'/\w.grownBy ww (some R)/\Hid (zc l=(rdC (4 - k) (decide (k=0)) l').map fun y => (n+f*y.1,y.2))/\Hid (f=128 ^ k)/\n<f) (fun _ _ i _ => 4 - (intOf i).toNat)
 case atStart =>
  refine ⟨0,0,1,l,Nat.zero_le _,rfl,rfl,rfl,H.out,World.grownBy.refl _ _,Lib.hid ?_,Lib.hid rfl,by decide⟩
  cases h:rdC (4 - 0) (decide (0=0)) l with
  | none => exact h
  | some y => rw [show zc l=some y from h];simp
 case round =>
  obtain ⟨k,n,f,l',hk,rfl,rfl,rfl,hR,hg,HE,HF,hn⟩:=hrel
  by_cases hk4:k<4
  ·have hki:(k:Int)<4:=by omega
   have hf:1<=f/\f<=2097152:=by
    rw [HF.out]
    have:k=0\/k=1\/k=2\/k=3:=by omega
    rcases this with rfl|rfl|rfl|rfl <;> decide
   cases l' with
   | nil =>
    have HN:=Lib.hid (show zc l=none by rw [HE.out,show 4 - k=(3 - k)+1 by omega];rfl)
    go_wp2_with fail
    refine (ziw N R 1 [] _ hR (by decide)).mono ?_
    rintro e w1 ⟨rfl,be⟩
    refine ⟨rfl,hg.trans (zW be _),?_⟩
    rw [HN.out]
   | cons x t =>
    have hx256:x<256:=by
     obtain ⟨_,_,_,_,_,h,_⟩:=hR
     exact h.1 x (List.mem_cons_self ..)
    obtain ⟨r,hr⟩:∃ r,x % 128=r:=⟨_,rfl⟩
    have hx1:(x:Int) % 128=(r:Int):=by omega
    obtain ⟨p,hp⟩:∃ p,r*f=p:=⟨_,rfl⟩
    have hpi:(r:Int)*(f:Int)=(p:Int):=by rw [<- hp];push_cast;rfl
    have hpb:p<=127*f:=by rw [<- hp];exact Nat.mul_le_mul (by omega) (Nat.le_refl _)
    have hxw:IntKind.i64.wrap (x:Int)=(x:Int):=IntWalk.i64_in _ (by omega)
    have Hr:=Lib.hid hr
    have Hp:=Lib.hid hp
    clear hr hp
    go_wp2_with fail
    refine (zeI N R 1 (x :: t) _ hR (by simp)).mono ?_
    rintro e w1 ⟨a1,c1,rfl,h1,_,hR1,hg1⟩
    obtain ⟨_,a1',c1',e1,_,_,h1⟩:=h1
    injection e1 with e1 e2 e3
    subst e1 e3
    obtain ⟨b1,o1,rfl,hc1⟩:=h1 0 (by simp)
    have hc1:w1.cell? ⟨b1,o1,none⟩=some (.int .u8 (x:Int)):=hc1
    have hR2:RB N R w1 t:=hR1
    clear hR hR1 e2
    have hg2:=hg.trans hg1
    by_cases hx:x<128
    ·have hxi:(x:Int)<128:=by omega
     by_cases hx0:x=0
     ·subst hx0
      by_cases hk0:k=0
      ·subst hk0
       have HS:=Lib.hid (show zc l=some (n,t) by rw [HE.out];show some (n+f*0,t)=_;simp)
       go_wp2_with fail
       refine (zaC _).mono ?_
       rintro e w2 ⟨rfl,aZ⟩
       go_wp2_with fail
       go_ret
       refine ⟨hg2.trans (zW aZ _),?_⟩
       rw [HS.out]
       exact ⟨⟨_,rfl,by show _=_;go_num⟩,hR2.to aZ⟩
      ·have hkp:decide (0<k)=true:=decide_eq_true (by omega)
       have HN:=Lib.hid (show zc l=none by rw [HE.out,show 4 - k=(3 - k)+1 by omega,decide_eq_false hk0];rfl)
       go_wp2_with fail
       refine (zad _).mono ?_
       rintro e w2 ⟨rfl,aZ⟩
       refine ⟨rfl,hg2.trans (zW aZ _),?_⟩
       rw [HN.out]
     ·have hxb:((x:Int) == 0)=false:=by simp;exact hx0
      have HS:=Lib.hid (show zc l=some (n+p,t) by
       rw [HE.out,show 4 - k=(3 - k)+1 by omega]
       show Option.map _ (rdC (3 - k+1) _ (x :: t))=_
       unfold rdC
       rw [if_pos hx,if_neg (fun h => hx0 h.1),<- Hp.out,<- Hr.out,Nat.mod_eq_of_lt hx,Nat.mul_comm x f];rfl)
      go_wp2_with fail
      refine (zaC _).mono ?_
      rintro e w2 ⟨rfl,aZ⟩
      go_wp2_with fail
      go_ret
      refine ⟨hg2.trans (zW aZ _),?_⟩
      rw [HS.out]
      exact ⟨⟨_,rfl,by show _=_;go_num⟩,hR2.to aZ⟩
    ·have hxi:¬ ((x:Int)<128):=by omega
     go_wp2_with fail
     go_roundw
     case rel =>
      refine ⟨k+1,n+p,128*f,t,by omega,by go_num,by go_num,by go_num,hR2,hg2,Lib.hid ?_,Lib.hid (by rw [HF.out,Nat.pow_succ];omega),by omega⟩
      rw [HE.out,show 4 - k=(3 - k)+1 by omega,show 4 - (k+1)=3 - k by omega]
      show Option.map _ (rdC (3 - k+1) _ (x :: t))=_
      rw [rdC,if_neg hx,decide_eq_false (show ¬ (k+1=0) by omega)]
      cases rdC (3 - k) false t with
      | none => rfl
      | some y =>
       show some (n+f*(x % 128+128*y.1),y.2)=some (n+p+128*f*y.1,y.2)
       rw [<- Hp.out,<- Hr.out]
       congr 2
       rw [Nat.mul_add,Nat.mul_comm f (x % 128),<- Nat.add_assoc,Nat.mul_comm 128 f,Nat.mul_assoc]
     case measure => simp [intOf] <;> omega
  ·obtain rfl:k=4:=by omega
   have hki:¬ ((4:Int)<4):=by decide
   have HN:=Lib.hid (show zc l=none by have h:=HE.out;exact h)
   go_wp2_with fail
   refine (zad _).mono ?_
   rintro e w1 ⟨rfl,be⟩
   refine ⟨rfl,hg.trans (zW be _),?_⟩
   rw [HN.out]

end Go.Proofs.YtkjcdnlpjldhaaaGreat


namespace Go.Proofs.YtkjcdnlpjldhaaaGreat
open Go.RowKit Tw

theorem zbT:∀ (k:Nat) (b:Bool) (l:List Nat) (y:Nat × List Nat),rdC k b l=some y->y.2.length<l.length
 | 0,_,_,_,h => by cases h
 | k+1,b,[],_,h => by cases h
 | k+1,b,x :: t,y,h => by
  unfold rdC at h
  by_cases h1:x<128
  ·rw [if_pos h1] at h
   by_cases h2:x=0/\b=false
   ·rw [if_pos h2] at h;cases h
   ·rw [if_neg h2] at h
    injection h with h
    rw [<- h]
    simp
  ·rw [if_neg h1] at h
   cases h3:rdC k false t with
   | none => rw [h3] at h;cases h
   | some z =>
    rw [h3] at h
    injection h with h
    have:=zbT k false t z h3
    rw [<- h]
    simp only [List.length_cons]
    omega

theorem zjP:∀ (k:Nat) (l:List Nat) (y:List Nat × List Nat),zbx k l=some y->y.2.length+4*k=l.length/\y.1.length=k
 | 0,l,y,h => by injection h with h;rw [<- h];simp
 | k+1,[],y,h => by cases h
 | k+1,[_],y,h => by cases h
 | k+1,[_,_],y,h => by cases h
 | k+1,[_,_,_],y,h => by cases h
 | k+1,a :: b :: c :: d :: t,y,h => by
  have h:(zbx k t).map (fun z => ((a+256*b+65536*c+16777216*d) :: z.1,z.2))=some y:=h
  cases h1:zbx k t with
  | none => rw [h1] at h;cases h
  | some z =>
   rw [h1] at h
   injection h with h
   obtain ⟨k1,k2⟩:=zjP k t z h1
   rw [<- h]
   simp only [List.length_cons]
   omega

theorem zgq {l:List Nat} {y:List Nat × List Nat} (h:rdN l=some y):y.2.length+4*y.1.length<l.length:=by
 unfold rdN at h
 cases h1:zc l with
 | none => rw [h1] at h;cases h
 | some a =>
  rw [h1] at h
  simp only [Option.bind_some] at h
  have h2:=zbT _ _ _ _ h1
  obtain ⟨h3,h4⟩:=zjP _ _ _ h
  omega

theorem zgW:∀ (k:Nat) (l:List Nat),l.length<4*k->zbx k l=none
 | 0,l,h => by omega
 | k+1,[],h => rfl
 | k+1,[_],h => rfl
 | k+1,[_,_],h => rfl
 | k+1,[_,_,_],h => rfl
 | k+1,a :: b :: c :: d :: t,h => by
  show (zbx k t).map _=none
  rw [zgW k t (by simp at h;omega)]
  rfl

theorem or32 (k u x K:Nat) (hK:K=2 ^ k) (hu:u<K) (hK2:K<=4294967296) (h:x*K<4294967296):bits .or .u32 (u:Int) ((x:Int)*(K:Int))=((u+x*K:Nat):Int):=by
 have e:(x:Int)*(K:Int)=((x*K:Nat):Int):=by push_cast;rfl
 rw [e,u32_or_nat u (x*K) (by omega) h,Nat.or_comm,nat_join k (x*K) u (by rw [hK];exact Nat.mul_mod_left x _) (hK ▸ hu),Nat.add_comm]

def encO (base:Nat) (l:List Nat) (w:World) (v:Value):Prop:=Own base w v l

def pw (x0 x1 x2 x3:Nat):Nat->Nat
 | 0 => 0
 | 1 => x0
 | 2 => x0+256*x1
 | 3 => x0+256*x1+65536*x2
 | _ => x0+256*x1+65536*x2+16777216*x3

theorem zdN (N R:Nat) (l:List Nat) (w:World) (h:RB N R w l) (hl:l.length<=4000) :
  Calls Tryz.prog 106 #[.pointer (some ⟨R,0,none⟩)] w (Reads N R w (encO w.heap.size) (rdN l)):=by
 have H:=Lib.hid h
 have hlt:=h.lt
 have Hl:=Lib.hid hl
 clear h hl
 go_enter Tryz.func106,Tryz.ntmps106
 go_wp2_with fail
 refine (zac N R l _ H.out).mono ?_
 rintro e w1 ⟨hg1,h1⟩
 cases hc:zc l with
 | none =>
  rw [hc] at h1
  obtain rfl:=h1
  refine ⟨rfl,hg1,?_⟩
  rw [show rdN l=none by unfold rdN;rw [hc];rfl]
 | some y =>
  rw [hc] at h1
  obtain ⟨⟨v1,rfl,rfl⟩,hR1⟩:=h1
  obtain ⟨n,l1⟩:=y
  simp only at hR1
  have HN:=Lib.hid (show rdN l=zbx n l1 by unfold rdN;rw [hc];rfl)
  have Hl1:=Lib.hid (show l1.length<=4000 by have:=zbT 4 true l _ hc;have:=Hl.out;simp only at *;omega)
  clear hc
  obtain ⟨a,m,c,c1,f1,hB,_⟩:=id hR1
  have hm:l1.length=m:=by
   obtain ⟨_,_,_,e,_⟩:=hB
   injection e with _ e2 _
   exact e2.symm
  obtain ⟨q,hq⟩:∃ q,m / 4=q:=⟨_,rfl⟩
  have hqi:(m:Int) / 4=(q:Int):=by omega
  have hm4:m<=4000:=by rw [<- hm];exact Hl1.out
  have hqw:wrap64 (q:Int)=(q:Int):=by unfold wrap64;omega
  by_cases hnq:q<n
  ·have hni:(q:Int)<(n:Int):=by omega
   have HN2:=Lib.hid (show rdN l=none by rw [HN.out];exact zgW n l1 (by omega))
   clear hB
   go_wp2_with fail
   refine (zad _).mono ?_
   rintro e w2 ⟨rfl,aZ⟩
   refine ⟨rfl,hg1.trans (zW aZ _),?_⟩
   rw [HN2.out]
  ·have hni:¬ ((q:Int)<(n:Int)):=by omega
   have H4:=Lib.hid (show 4*n<=l1.length by omega)
   have hn1:n<=1000:=by have:=Hl1.out;omega
   clear hB hm hq
   go_wp2_with fail
   refine (zaC _).mono ?_
   rintro e w2 ⟨rfl,aZ⟩
   have hR2:=hR1.to aZ
   have hg2:=hg1.trans (zW aZ _)
   clear c1 f1
   go_wp2_with fail
   go_loopw [4,20] (fun so si ww => ∃ (k:Nat) (dn l':List Nat),k<=n/\si=.int .i64 (k:Int)/\RB N R ww l'/\w.grownBy ww (some R)/\Own w.heap.size ww so dn/\Hid (rdN l=(zbx (n - k) l').map fun z => (dn++z.1,z.2))/\Hid (4*(n - k)<=l'.length)/\Hid (dn.length=k)) (fun _ i _ => n - (intOf i).toNat)
   case atStart =>
    refine ⟨0,[],l1,Nat.zero_le _,rfl,hR2,hg2,Own.nil _ _,Lib.hid ?_,H4,Lib.hid rfl⟩
    rw [HN.out]
    show zbx n l1=Option.map _ (zbx n l1)
    cases zbx n l1 <;> rfl
   case round =>
   clear hg2 hR2
   obtain ⟨k,dn,l',hk,rfl,hR,hg,hO,HE,H4',HD⟩:=hrel
   by_cases hkn:k<n
   ·have hki:(k:Int)<(n:Int):=by omega
    obtain ⟨x0,x1,x2,x3,t,rfl⟩:∃ x0 x1 x2 x3 t,l'=x0 :: x1 :: x2 :: x3 :: t:=by
     have h4:=H4'.out
     match l',h4 with
     | a :: b :: c :: d :: t,_ => exact ⟨a,b,c,d,t,rfl⟩
     | [],h => simp at h;omega
     | [_],h => simp at h;omega
     | [_,_],h => simp at h;omega
     | [_,_,_],h => simp at h;omega
    go_wp2_with fail
    refine (zeI N R 4 (x0 :: x1 :: x2 :: x3 :: t) _ hR (by simp)).mono ?_
    rintro e w3 ⟨a3,c3,rfl,h3,_,hR3,hg3⟩
    have hR4:RB N R w3 t:=hR3
    have HB3:=Lib.hid (show RdB w3 (.slice a3 4 c3) [x0,x1,x2,x3] from h3)
    have hx:x0<256/\x1<256/\x2<256/\x3<256:=by
     have:=HB3.out.1
     exact ⟨this x0 (by simp),this x1 (by simp),this x2 (by simp),this x3 (by simp)⟩
    have hO3:=hO.grown hg3 (fun k e => by injection e with e;omega)
    have hg4:=hg.trans hg3
    clear hR hR3 h3 hO hg hg3
    obtain ⟨_,a3',c3',e3,_,_,h3⟩:=HB3.out
    injection e3 with e1 _ e2
    subst e1 e2
    obtain ⟨b3,o3,rfl,hc0⟩:=h3 0 (by simp)
    have hcc:∀ i (hi:i<4),w3.cell? ⟨b3,o3+i,none⟩=some (u8v ([x0,x1,x2,x3][i]'hi)):=fun i hi => by
     obtain ⟨b',o',e,k⟩:=h3 i hi
     injection e with e
     injection e with e1 e2
     subst e1 e2
     exact k
    have q0:w3.cell? ⟨b3,o3,none⟩=some (.int .u8 (x0:Int)):=hcc 0 (by decide)
    have q1:w3.cell? ⟨b3,o3+1,none⟩=some (.int .u8 (x1:Int)):=hcc 1 (by decide)
    have q2:w3.cell? ⟨b3,o3+2,none⟩=some (.int .u8 (x2:Int)):=hcc 2 (by decide)
    have q3:w3.cell? ⟨b3,o3+3,none⟩=some (.int .u8 (x3:Int)):=hcc 3 (by decide)
    clear hcc hc0 h3
    go_wp2_with fail
    obtain ⟨Wv,hWv⟩:∃ W,W=w3:=⟨_,rfl⟩
    subst hWv
    go_loopw [5,25] (fun su si ww => ∃ (j u:Nat),j<=4/\su=.int .u32 (u:Int)/\si=.int .i64 (j:Int)/\Wv=ww/\Hid (u=pw x0 x1 x2 x3 j)) (fun _ i _ => 4 - (intOf i).toNat)
    case atStart => exact ⟨0,0,by decide,rfl,rfl,rfl,Lib.hid rfl⟩
    case round =>
    obtain ⟨j,u,hj,rfl,rfl,rfl,HU⟩:=hrel
    by_cases hj4:j<4
    ·have hj':j=0\/j=1\/j=2\/j=3:=by omega
     rcases hj' with rfl|rfl|rfl|rfl
     ·have hji:(((0:Nat):Int))<4:=by decide
      have hu:u=pw x0 x1 x2 x3 0:=HU.out
      go_wp2_with fail
      refine ⟨⟨1,pw x0 x1 x2 x3 1,by decide,?_,rfl,trivial,Lib.hid rfl⟩,by simp [intOf]⟩
      have ho:=or32 32 0 0 4294967296 rfl (by decide) (by decide) (by decide)
      show Value.int IntKind.u32 (bits .or .u32 (((0:Nat)):Int) (x0:Int))=Value.int IntKind.u32 ((x0:Nat):Int)
      rw [u32_or_nat 0 x0 (by decide) (by omega),Nat.zero_or]
     ·have hji:(((1:Nat):Int))<4:=by decide
      have hu:u=pw x0 x1 x2 x3 1:=HU.out
      go_wp2_with fail
      refine ⟨⟨2,pw x0 x1 x2 x3 2,by decide,?_,rfl,trivial,Lib.hid rfl⟩,by simp [intOf]⟩
      have ho:=or32 8 (x0) x1 256 rfl (by omega) (by decide) (by omega)
      show Value.int IntKind.u32 (bits .or .u32 (((x0:Nat)):Int) ((x1:Int)*((256:Nat):Int)))=Value.int IntKind.u32 ((x0+256*x1:Nat):Int)
      rw [ho]
      congr 2
      omega
     ·have hji:(((2:Nat):Int))<4:=by decide
      have hu:u=pw x0 x1 x2 x3 2:=HU.out
      go_wp2_with fail
      refine ⟨⟨3,pw x0 x1 x2 x3 3,by decide,?_,rfl,trivial,Lib.hid rfl⟩,by simp [intOf]⟩
      have ho:=or32 16 (x0+256*x1) x2 65536 rfl (by omega) (by decide) (by omega)
      show Value.int IntKind.u32 (bits .or .u32 (((x0+256*x1:Nat)):Int) ((x2:Int)*((65536:Nat):Int)))=Value.int IntKind.u32 ((x0+256*x1+65536*x2:Nat):Int)
      rw [ho]
      congr 2
      omega
     ·have hji:(((3:Nat):Int))<4:=by decide
      have hu:u=pw x0 x1 x2 x3 3:=HU.out
      go_wp2_with fail
      refine ⟨⟨4,pw x0 x1 x2 x3 4,by decide,?_,rfl,trivial,Lib.hid rfl⟩,by simp [intOf]⟩
      have ho:=or32 24 (x0+256*x1+65536*x2) x3 16777216 rfl (by omega) (by decide) (by omega)
      show Value.int IntKind.u32 (bits .or .u32 (((x0+256*x1+65536*x2:Nat)):Int) ((x3:Int)*((16777216:Nat):Int)))=Value.int IntKind.u32 ((x0+256*x1+65536*x2+16777216*x3:Nat):Int)
      rw [ho]
      congr 2
      omega
    ·obtain rfl:j=4:=by omega
     have hji:¬ ((((4:Nat):Int))<4):=by decide
     have hu:u=x0+256*x1+65536*x2+16777216*x3:=HU.out
     have hub:u<4294967296:=by omega
     have Hu:=Lib.hid hu
     have Hub:=Lib.hid hub
     have hlw:=hg4.size
     have HDL:=Lib.hid (show dn.length+1<=1099511627776 by have:=HD.out;omega)
     clear hu hub hji
     have hji:¬ ((4:Int)<4):=by decide
     go_wp2_with (at_builtin;refine zbn _ rfl (.tmp 38) (.tmp 40) rfl w.heap.size _ _ dn [u] rfl rfl (hO3.alloc _) (zaR Wv _ [u] rfl (zce Hub.out) (by simp [maxLen])).rd (by simp;omega) (by simpa using HDL.out) ?_;intro v5 w5 hO5 cU eH)
     refine ⟨⟨k+1,dn++[u],t,by omega,by go_num,(hR4.to (bN _ _)).toN (cU.mono hlt.2.1),zr hg4 (((Below.refl _ _).alloc hlw _).trans cU),hO5,Lib.hid ?_,Lib.hid (by have:=H4'.out;simp at this;omega),Lib.hid (by rw [List.length_append,HD.out];rfl)⟩,by simp [intOf] <;> omega⟩
     rw [HE.out,show n - k=(n - (k+1))+1 by omega]
     show Option.map _ (Option.map _ (zbx (n - (k+1)) t))=_
     cases zbx (n - (k+1)) t with
     | none => rfl
     | some z =>
      show some (dn++((x0+256*x1+65536*x2+16777216*x3) :: z.1),z.2)=some ((dn++[u])++z.1,z.2)
      rw [Hu.out,List.append_assoc]
      rfl
   ·obtain rfl:k=n:=by omega
    have hki:¬ ((k:Int)<(k:Int)):=by omega
    have HS:=Lib.hid (show rdN l=some (dn,l') by rw [HE.out,Nat.sub_self];simp [zbx])
    go_wp2_with fail
    go_ret
    refine ⟨hg,?_⟩
    rw [HS.out]
    exact ⟨⟨_,rfl,hO⟩,hR⟩

end Go.Proofs.YtkjcdnlpjldhaaaGreat


namespace Go.Proofs.YtkjcdnlpjldhaaaGreat
open Go.RowKit Tw

section

variable {w w':World} {base:Nat} {l:List Ins} {xs:List Value} {y:Ins} {g cap n k o:Nat} {a1 a2:Option Addr} {n1 c1 n2 c2:Nat} {v0 v1 v2 v3 v4 v5 v6:Value}

def set7 (w:World) (g o:Nat) (v0 v1 v2 v3 v4 v5 v6:Value):World :=
 ((((((w.setCell ⟨g,o,none⟩ v0).setCell ⟨g,o+1,none⟩ v1).setCell ⟨g,o+2,none⟩ v2).setCell ⟨g,o+3,none⟩ v3).setCell ⟨g,o+4,none⟩ v4).setCell ⟨g,o+5,none⟩ v5).setCell ⟨g,o+6,none⟩ v6

def zjw (xs:List Value) (o:Nat) (v0 v1 v2 v3 v4 v5 v6:Value):List Value :=
 ((((((xs.set o v0).set (o+1) v1).set (o+2) v2).set (o+3) v3).set (o+4) v4).set (o+5) v5).set (o+6) v6

theorem zjx {i:Nat} (h:i<o\/o+7<=i):(zjw xs o v0 v1 v2 v3 v4 v5 v6)[i]?=xs[i]?:=by
 unfold zjw
 rw [List.getElem?_set_ne (by omega),List.getElem?_set_ne (by omega),List.getElem?_set_ne (by omega),List.getElem?_set_ne (by omega),List.getElem?_set_ne (by omega),List.getElem?_set_ne (by omega),List.getElem?_set_ne (by omega)]

theorem lset7_at (h:o+6<xs.length) {j:Nat} (hj:j<7):(zjw xs o v0 v1 v2 v3 v4 v5 v6)[o+j]?=[v0,v1,v2,v3,v4,v5,v6][j]?:=by
 have hj':j=0\/j=1\/j=2\/j=3\/j=4\/j=5\/j=6:=by omega
 unfold zjw
 rcases hj' with rfl|rfl|rfl|rfl|rfl|rfl|rfl
 ·rw [List.getElem?_set_ne (by omega),List.getElem?_set_ne (by omega),List.getElem?_set_ne (by omega),List.getElem?_set_ne (by omega),List.getElem?_set_ne (by omega),List.getElem?_set_ne (by omega)]
  exact List.getElem?_set_self (by omega)
 ·rw [List.getElem?_set_ne (by omega),List.getElem?_set_ne (by omega),List.getElem?_set_ne (by omega),List.getElem?_set_ne (by omega),List.getElem?_set_ne (by omega)]
  exact List.getElem?_set_self (by simp only [List.length_set];omega)
 ·rw [List.getElem?_set_ne (by omega),List.getElem?_set_ne (by omega),List.getElem?_set_ne (by omega),List.getElem?_set_ne (by omega)]
  exact List.getElem?_set_self (by simp only [List.length_set];omega)
 ·rw [List.getElem?_set_ne (by omega),List.getElem?_set_ne (by omega),List.getElem?_set_ne (by omega)]
  exact List.getElem?_set_self (by simp only [List.length_set];omega)
 ·rw [List.getElem?_set_ne (by omega),List.getElem?_set_ne (by omega)]
  exact List.getElem?_set_self (by simp only [List.length_set];omega)
 ·rw [List.getElem?_set_ne (by omega)]
  exact List.getElem?_set_self (by simp only [List.length_set];omega)
 ·exact List.getElem?_set_self (by simp only [List.length_set];omega)

theorem set7_row {e:TypeId} {s:Nat} (h:w.ownsRow base e s (.slice (some ⟨g,0,none⟩) n cap) n xs) :
  (set7 w g o v0 v1 v2 v3 v4 v5 v6).ownsRow base e s (.slice (some ⟨g,0,none⟩) n cap) n (zjw xs o v0 v1 v2 v3 v4 v5 v6)/\w.grownBy (set7 w g o v0 v1 v2 v3 v4 v5 v6) (some g):=by
 obtain ⟨h0,g0⟩:=World.ownsRow.stored h o v0
 obtain ⟨h1,g1⟩:=World.ownsRow.stored h0 (o+1) v1
 obtain ⟨h2,g2⟩:=World.ownsRow.stored h1 (o+2) v2
 obtain ⟨h3,g3⟩:=World.ownsRow.stored h2 (o+3) v3
 obtain ⟨h4,g4⟩:=World.ownsRow.stored h3 (o+4) v4
 obtain ⟨h5,g5⟩:=World.ownsRow.stored h4 (o+5) v5
 obtain ⟨h6,g6⟩:=World.ownsRow.stored h5 (o+6) v6
 exact ⟨h6,g0.trans (g1.trans (g2.trans (g3.trans (g4.trans (g5.trans g6)))))⟩

theorem zbS (h:base<=g):Below base w (set7 w g o v0 v1 v2 v3 v4 v5 v6) :=
 (((((((Below.refl _ _).setCell (p:=⟨g,o,none⟩) h _).setCell (p:=⟨g,o+1,none⟩) h _).setCell (p:=⟨g,o+2,none⟩) h _).setCell (p:=⟨g,o+3,none⟩) h _).setCell (p:=⟨g,o+4,none⟩) h _).setCell (p:=⟨g,o+5,none⟩) h _).setCell (p:=⟨g,o+6,none⟩) h _

theorem zau.set7 (h:zau base w (.slice (some ⟨g,0,none⟩) n cap) l) (hk:k<l.length) (hn:Rd w (.slice a1 n1 c1) y.q.n) (hd:Rd w (.slice a2 n2 c2) y.q.d) (f1:Far (.slice a1 n1 c1) (some g)) (f2:Far (.slice a2 n2 c2) (some g)) (hi:zbV y) :
  zau base (set7 w g (k*7) (.int .i64 y.op) (.int .i64 y.to) (.int .i64 y.a) (.int .i64 y.b) (.bool y.q.ng) (.slice a1 n1 c1) (.slice a2 n2 c2)) (.slice (some ⟨g,0,none⟩) n cap) (l.set k y) /\
  w.grownBy (set7 w g (k*7) (.int .i64 y.op) (.int .i64 y.to) (.int .i64 y.a) (.int .i64 y.b) (.bool y.q.ng) (.slice a1 n1 c1) (.slice a2 n2 c2)) (some g):=by
 obtain ⟨xs,h1,h2⟩:=h
 have hnl:n=l.length:=by
  rcases h1.2 with ⟨hv,_⟩|⟨g',cap',cur,hv,_⟩
  ·cases hv
  ·injection hv
 subst hnl
 obtain ⟨hr,hg⟩:=set7_row (o:=k*7) (v0:=.int .i64 y.op) (v1:=.int .i64 y.to) (v2:=.int .i64 y.a) (v3:=.int .i64 y.b) (v4:=.bool y.q.ng) (v5:=.slice a1 n1 c1) (v6:=.slice a2 n2 c2) h1
 have hlen:xs.length=l.length*7:=h1.1
 refine ⟨⟨_,by rw [List.length_set];exact hr,fun i hi' => ?_⟩,hg⟩
 rw [List.length_set] at hi'
 by_cases e:k=i
 ·subst e
  have ey:(l.set k y)[k]'(by rw [List.length_set];exact hk)=y:=List.getElem_set_self _
  rw [ey]
  exact ⟨a1,n1,c1,a2,n2,c2,fun j hj => lset7_at (by omega) hj,hn.grown hg f1,hd.grown hg f2,f1,f2,hi⟩
 ·obtain ⟨b1,m1,d1,b2,m2,d2,s,k1,k2,g1,g2,i1⟩:=h2 i hi'
  have ey:(l.set k y)[i]'(by rw [List.length_set];exact hi')=l[i]:=List.getElem_set_ne e _
  rw [ey]
  exact ⟨b1,m1,d1,b2,m2,d2,fun j hj => by rw [zjx (by omega)];exact s j hj,k1.grown hg g1,k2.grown hg g2,g1,g2,i1⟩

theorem zau.at (h:zau base w (.slice (some ⟨g,0,none⟩) n cap) l) (hk:k<l.length):∃ a1 n1 c1 a2 n2 c2,w.cell? ⟨g,k*7,none⟩=some (.int .i64 l[k].op)/\w.cell? ⟨g,k*7+1,none⟩=some (.int .i64 l[k].to)/\w.cell? ⟨g,k*7+2,none⟩=some (.int .i64 l[k].a)/\w.cell? ⟨g,k*7+3,none⟩=some (.int .i64 l[k].b) /\
  w.cell? ⟨g,k*7+4,none⟩=some (.bool l[k].q.ng)/\w.cell? ⟨g,k*7+5,none⟩=some (.slice a1 n1 c1)/\w.cell? ⟨g,k*7+6,none⟩=some (.slice a2 n2 c2)/\(∀ j,w.frozen? ⟨g,j,none⟩=false) /\
  Rd w (.slice a1 n1 c1) l[k].q.n/\Rd w (.slice a2 n2 c2) l[k].q.d/\Far (.slice a1 n1 c1) (some g)/\Far (.slice a2 n2 c2) (some g)/\zbV l[k]:=by
 obtain ⟨xs,h1,h2⟩:=h
 have hnl:n=l.length:=by
  rcases h1.2 with ⟨hv,_⟩|⟨g',cap',cur,hv,_⟩
  ·cases hv
  ·injection hv
 subst hnl
 obtain ⟨a,n,c,a',n',c',s,k1,k2,f1,f2,hi64⟩:=h2 k hk
 have key:∀ j,j<7->w.cell? ⟨g,k*7+j,none⟩=(zal l[k] (.slice a n c) (.slice a' n' c'))[j]?:=fun j hj => by
  rw [World.ownsRow.cellAt h1 _ (by omega)];exact s j hj
 exact ⟨a,n,c,a',n',c',key 0 (by decide),key 1 (by decide),key 2 (by decide),key 3 (by decide),key 4 (by decide),key 5 (by decide),key 6 (by decide),fun j => World.ownsRow.frozenAt h1 j,k1,k2,f1,f2,hi64⟩

end

end Go.Proofs.YtkjcdnlpjldhaaaGreat

