/-
  The texts Deci, DeciPrint, Ref6, merged.
-/
import Derived.Test.YtkjcdnlpjldhaaaGreatK09
import Derived.Test.YtkjcdnlpjldhaaaGreatK03
import Derived.Lib.OthersKept
import Derived.Laws.RangeAny
import Derived.Test.YtkjcdnlpjldhaaaGreatK04
set_option linter.unusedVariables false
set_option linter.unusedSimpArgs false
set_option maxRecDepth 100000
set_option maxHeartbeats 400000000
namespace Go.Proofs.YtkjcdnlpjldhaaaGreat
open Go.RowKit Tw

end Go.Proofs.YtkjcdnlpjldhaaaGreat


namespace Go.Proofs.YtkjcdnlpjldhaaaGreat
open Go.RowKit Tw

def ziv:Value->Nat
 | .slice _ n _ => if n=0 then 1 else 0
 | _ => 0

theorem zek {l:List Nat} (h:Small l):zdo (val l)<=10*l.length+1:=by
 apply ndig_le (by omega)
 have h1:=zcB h
 have h2:B ^ l.length<=(10 ^ 10) ^ l.length:=Nat.pow_le_pow_left (by rw [zaU];omega) _
 rw [<- Nat.pow_mul] at h2
 have h3:=Nat.pow_le_pow_right (n:=10) (by omega) (show 10*l.length<=10*l.length+1 by omega)
 omega

theorem zkp (va:Value) (la:List Nat) (w:World) (ha:Rd w va la) (hla:la.length<=5000) :
  Calls Tryz.prog 109 #[va] w fun e w' => e=.returned (.string (ba (zaP (val la))))/\Below w.heap.size w w':=by
 have hnd:=zek ha.1
 have Hnd:=Lib.hid (show zdo (val la)<=50001 by omega)
 clear hnd
 go_enter Tryz.func109,Tryz.ntmps109
 go_wp2_with fail
 go_loopw [0,3] (fun a out ww => ∃ (X:Nat) (lx E:List Nat),Rd ww a lx/\Hid (val lx=X)/\lx.length<=5000/\zaj w.heap.size ww out E/\Hid (zfP (val la) X E)/\Below w.heap.size w ww) (fun a out ww => 2*zfI ww a+ziv out)
 case atStart => exact ⟨val la,la,[],ha,rfl,hla,zaj.nil _ _,zlh _,Below.refl _ _⟩
 case round =>
  obtain ⟨X,lx,E,hx,HX,hlx,hE,HT,hbw⟩:=hrel
  have hEl:=Nat.le_trans (told_len HT.out) Hnd.out
  have hsw:=hbw.size
  have Hrd:=Lib.hid (zaB hx)
  have hE2:=hE
  obtain ⟨ao,no,co,rfl,Hno,hno⟩:=hE.open
  rcases Nat.eq_zero_or_pos X with hX0|hXp
  ·have Hn:=Lib.hid (show zK (val lx)=0 by rw [HX.out,hX0];rfl)
   have HX0:=Lib.hid hX0
   rcases Nat.eq_zero_or_pos no with hn0|hnp
   ·have hE0:E=[]:=List.eq_nil_of_length_eq_zero (by rw [Hno.out];exact hn0)
    have Hn0:=Lib.hid hn0
    obtain ⟨r,hr,hr10⟩:∃ r,X % 10=r/\r<10:=⟨_,rfl,Nat.mod_lt _ (by omega)⟩
    have HR:=Lib.hid (show val lx % (10:Int).toNat=r by rw [HX.out];exact hr)
    have Hst:=Lib.hid (show zfP (val la) (X / 10) (E++[48+r]) by rw [<- hr];exact zhY HT.out (.inr hE0))
    have hlq:(za (X / 10)).length<=5000:=by
     have h1:=zdB X 10
     have h2:=zy hx.1
     rw [HX.out] at h2
     rw [ze];omega
    have hEn:E.length<=1000000:=by omega
    clear hr
    subst hn0
    clear hE0 hX0
    go_wp2_with fail
    refine (zbb _ lx _ hx (by omega)).mono ?_
    rintro e w' ⟨rfl,rfl⟩
    rw [Hn.out]
    go_wp2_with fail
    refine (zdA _ lx 10 _ hx (by omega) (by omega) (by omega)).mono ?_
    rintro e w2 ⟨vq,rfl,hq,aZ⟩
    rw [HR.out]
    replace hq:Own wr.heap.size w2 vq (za (X / 10)):=by rw [HX.out] at hq;exact hq
    have hE3:=hE2.to aZ
    have dZ:=aZ.size
    go_wp2_with (at_builtin;refine zhg _ rfl (.tmp 21) (.tmp 25) rfl w.heap.size _ w2.heap.size E (48+r) rfl rfl (hE3.alloc _) (by omega) (by simp [go_sem]) (by simp;omega) (by omega) ?_;intro v5 w5 hE5 cU eH hg5)
    go_roundw
    case rel => exact ⟨X / 10,za (X / 10),E++[48+r],((hq.alloc _).grown hg5 (fun k hk => (hE2.2.lt k hk).2)).rd,vL _,hlq,hE5,Hst.out,(bS hbw (bS aZ (bN _ _))).trans cU⟩
    case measure =>
     obtain ⟨a5,n5,c5,rfl,Hn5,_⟩:=hE5.open
     have hn5:n5≠0:=by have:=Hn5.out;rw [List.length_append] at this;simp at this;omega
     rw [Hrd.out,HX.out,zaB ((hq.alloc _).grown hg5 (fun k hk => (hE2.2.lt k hk).2)).rd,vL]
     simp only [ziv,if_neg hn5]
     have:=HX0.out;simp;omega
   ·obtain ⟨g,rfl,hg1,hg2⟩:=hno hnp
    have hne:((no:Int) == 0)=false:=by simp;omega
    have hn1:no<=1000000:=by have:=Hno.out;omega
    have Hrev:=Lib.hid (show E.reverse=zaP (val la) from told_end (by rw [<- HX0.out];exact HT.out) (fun e => by have:=Hno.out;rw [e] at this;simp at this;omega))
    clear hX0
    go_wp2_with fail
    refine (zbb _ lx _ hx (by omega)).mono ?_
    rintro e w' ⟨rfl,rfl⟩
    rw [Hn.out]
    go_wp2_with fail
    refine (zjR w.heap.size g no co E _ hE2 hg1 hnp hn1).mono ?_
    rintro e w2 ⟨rfl,hE3,aZ⟩
    have hcv:=hE3.conv
    rw [Hrev.out] at hcv
    go_wp2_with fail
    go_ret
    exact ⟨rfl,hbw.trans aZ⟩
  ·have hnb:0<zK (val lx):=Nat.pos_of_ne_zero (fun e => by have:=zbs.1 e;rw [HX.out] at this;omega)
   obtain ⟨r,hr,hr10⟩:∃ r,X % 10=r/\r<10:=⟨_,rfl,Nat.mod_lt _ (by omega)⟩
   have HR:=Lib.hid (show val lx % (10:Int).toNat=r by rw [HX.out];exact hr)
   have Hst:=Lib.hid (show zfP (val la) (X / 10) (E++[48+r]) by rw [<- hr];exact zhY HT.out (.inl (by omega)))
   have hlq:(za (X / 10)).length<=5000:=by
    have h1:=zdB X 10
    have h2:=zy hx.1
    rw [HX.out] at h2
    rw [ze];omega
   have hEn:E.length<=1000000:=by omega
   clear hr
   go_wp2_with fail
   refine (zbb _ lx _ hx (by omega)).mono ?_
   rintro e w' ⟨rfl,rfl⟩
   go_wp2_with fail
   refine (zdA _ lx 10 _ hx (by omega) (by omega) (by omega)).mono ?_
   rintro e w2 ⟨vq,rfl,hq,aZ⟩
   rw [HR.out]
   replace hq:Own wr.heap.size w2 vq (za (X / 10)):=by rw [HX.out] at hq;exact hq
   have hE3:=hE2.to aZ
   have dZ:=aZ.size
   go_wp2_with (at_builtin;refine zhg _ rfl (.tmp 21) (.tmp 25) rfl w.heap.size _ w2.heap.size E (48+r) rfl rfl (hE3.alloc _) (by omega) (by simp [go_sem]) (by simp;omega) (by omega) ?_;intro v5 w5 hE5 cU eH hg5)
   go_roundw
   case rel => exact ⟨X / 10,za (X / 10),E++[48+r],((hq.alloc _).grown hg5 (fun k hk => (hE2.2.lt k hk).2)).rd,vL _,hlq,hE5,Hst.out,(bS hbw (bS aZ (bN _ _))).trans cU⟩
   case measure =>
    obtain ⟨a5,n5,c5,rfl,Hn5,_⟩:=hE5.open
    have hn5:n5≠0:=by have:=Hn5.out;rw [List.length_append] at this;simp at this;omega
    rw [Hrd.out,HX.out,zaB ((hq.alloc _).grown hg5 (fun k hk => (hE2.2.lt k hk).2)).rd,vL]
    simp only [ziv,if_neg hn5]
    omega

theorem zdp (va:Value) (la:List Nat) (w:World) (ha:Rd w va la) (hla:la.length<=5000) :
  Calls Tryz.prog 84 #[va] w fun e w' => e=.returned (.int .i64 (zdo (val la):Nat))/\Below w.heap.size w w':=by
 have Hl:=Lib.hid (show (ba (zaP (val la))).size=zdo (val la) from zgc _)
 go_enter Tryz.func84,Tryz.ntmps84
 go_wp2_with fail
 refine (zkp _ la _ ha hla).mono ?_
 rintro e w1 ⟨rfl,be⟩
 generalize ba (zaP (val la))=s at *
 go_wp2_with fail
 go_ret
 exact ⟨zu (zx (by rw [<- Hl.out])),be⟩

end Go.Proofs.YtkjcdnlpjldhaaaGreat


namespace Go.Proofs.YtkjcdnlpjldhaaaGreat
open Go.RowKit Tw

theorem run_byte (w:World) (b:Nat) (c:Nat) (h:w.cell? ⟨b,0,none⟩=some (u8v c)) :
  (convert 54 9 (.slice (some ⟨b,0,none⟩) 1 1)).run Tryz.prog w=.ok (.string (ba [c])) w :=
 zhT w b 1 1 [c] rfl (fun i hi => by
  have:i=0:=by simpa using hi
  subst this;exact h)

theorem zem (va:Value) (la:List Nat) (w:World) (ha:Rd w va la) (hla:la.length<=5000) :
  Calls Tryz.prog 60 #[va] w fun e w' => e=.returned (.string (ba (zaP (val la))))/\Below w.heap.size w w':=by
 have hnd:=zek ha.1
 have hsa:=zy ha.1
 have Hnd:=Lib.hid (show zdo (val la)<=50001 by omega)
 clear hnd
 rcases Nat.eq_zero_or_pos (val la) with h0|h0
 ·have Hl:=Lib.hid (show za (val la)=[] by rw [h0];rfl)
  have Hd:=Lib.hid (show ba (zaP (val la))=⟨#[48]⟩ by rw [h0];decide +kernel)
  clear h0
  rw [Hd.out]
  go_enter Tryz.func60,Tryz.ntmps60
  go_wp2_with fail
  refine (zX _ la _ ha (by omega)).mono ?_
  rintro e w1 ⟨v1,rfl,hv1,be⟩
  rw [Hl.out] at hv1
  obtain ⟨a1,c1,rfl⟩:=hv1.rd.shape
  go_wp2_with fail
  go_ret
  exact ⟨rfl,be⟩
 ·have hl0:0<(za (val la)).length:=by rw [ze];have:=mt zA.1 (Nat.ne_of_gt h0);omega
  have H0:=Lib.hid h0
  clear h0
  go_enter Tryz.func60,Tryz.ntmps60
  go_wp2_with fail
  refine (zX _ la _ ha (by omega)).mono ?_
  rintro e w1 ⟨v1,rfl,hv1,be⟩
  obtain ⟨a1,n1,c1,rfl,Hn1,_⟩:=hv1.rd.open
  have hn1:0<n1:=by have:=Hn1.out;omega
  have hnz:((n1:Int) == 0)=false:=by rw [beq_eq_false_iff_ne];omega
  go_wp2_with fail
  go_loopw [3,4] (fun x out ww => ∃ (X:Nat) (E:List Nat),Rd ww x (za X)/\sz X<=5000/\out=.string (ba E)/\Hid (zcr (val la) X E)/\Hid (∀ d,d ∈ E->d<256)/\Below w.heap.size w ww) (fun x _ ww => zfI ww x)
  case atStart => exact ⟨val la,[],hv1.rd,by omega,rfl,zjZ (by have:=H0.out;omega),by unfold Hid;simp,be⟩
  case round =>
   obtain ⟨X,E,hx,hX,rfl,HT,HE,hbw⟩:=hrel
   have hEl:=Nat.le_trans (zmV HT.out) Hnd.out
   obtain ⟨ax,nx,cx,rfl,Hnx,_⟩:=hx.open
   have Hrd:=Lib.hid ((zaB hx).trans (vL X))
   rcases Nat.eq_zero_or_pos X with hX0|hXp
   ·have hnx:nx=0:=by rw [<- Hnx.out,hX0];rfl
    subst hnx
    have Hf:=Lib.hid (show E=zaP (val la) from zmU (by rw [<- hX0];exact HT.out))
    clear hX0
    go_wp2_with fail
    go_ret
    exact ⟨zu (congrArg (fun l => Value.string (ba l)) Hf.out),hbw⟩
   ·have hnx:0<nx:=by have:=Hnx.out;rw [ze] at this;have:=mt zA.1 (Nat.ne_of_gt hXp);omega
    obtain ⟨r,hr,hr10⟩:∃ r,X % 10=r/\r<10:=⟨_,rfl,Nat.mod_lt _ (by omega)⟩
    have HR:=Lib.hid (show val (za X) % (10:Int).toNat=r by rw [vL];exact hr)
    have Hst:=Lib.hid (show zcr (val la) (X / 10) ((48+r) :: E) by rw [<- hr];exact zlg HT.out (by omega))
    have hsq:=zdB X 10
    have Hlt:=Lib.hid (show X / 10<X by omega)
    have hba:∀ (ww:World),(Op.stringOp .add (ba [48+r]) (ba E)).run Tryz.prog ww=.ok (.string (ba ((48+r) :: E))) ww:=fun ww => by
     rw [run_string_add_sum ww _ _ (by rw [zgc,zgc];simp;omega),zlU];rfl
    clear hr
    go_wp2_with fail
    refine (zgZ _ _ 10 _ hx (by rw [ze];omega) (by omega) (by omega)).mono ?_
    rintro e w2 ⟨vq,rfl,hq,aZ⟩
    rw [HR.out]
    replace hq:Own wr.heap.size w2 vq (za (X / 10)):=by rw [vL] at hq;exact hq
    have hcv:=run_byte (w2.alloc (.cells #[.int .u8 (48+(r:Int))] 5)) w2.heap.size (48+r) (by simp [go_sem])
    go_wp2_with fail
    go_roundw
    case rel => exact ⟨X / 10,(48+r) :: E,hq.rd.alloc _,by omega,rfl,Hst,by unfold Hid;intro d hd;rcases List.mem_cons.1 hd with rfl|hd;omega;exact HE.out d hd,bS hbw (bS aZ (bN _ _))⟩
    case measure => rw [Hrd.out,zaB (hq.rd.alloc _),vL];exact Hlt.out

end Go.Proofs.YtkjcdnlpjldhaaaGreat

