/-
  The texts Deci, DeciPrint, Ref6, merged.
-/
import Derived.Test.YtkjcdnlpjldhaaaGreatK09
import Derived.Test.YtkjcdnlpjldhaaaGreatK03
import Derived.Lib.OthersKept
import Derived.Laws.RangeAny
import Derived.Test.YtkjcdnlpjldhaaaGreatK04
set_option linter.unusedVariables false
set_option linter.unusedSimpArgs false
set_option maxRecDepth 100000
set_option maxHeartbeats 400000000
namespace Go.Proofs.YtkjcdnlpjldhaaaGreat
open Go.RowKit Tw

end Go.Proofs.YtkjcdnlpjldhaaaGreat


namespace Go.Proofs.YtkjcdnlpjldhaaaGreat
open Go.RowKit Tw

def zgp:Value->Nat
 | .slice _ n _ => if n=0 then 1 else 0
 | _ => 0

theorem zio {l:List Nat} (h:Small l):zds (val l)<=10*l.length+1:=by
 apply ndig_le (by omega)
 have h1:=zbY h
 have h2:B ^ l.length<=(10 ^ 10) ^ l.length:=Nat.pow_le_pow_left (by rw [zay];omega) _
 rw [<- Nat.pow_mul] at h2
 have h3:=Nat.pow_le_pow_right (n:=10) (by omega) (show 10*l.length<=10*l.length+1 by omega)
 omega

theorem zhW (va:Value) (la:List Nat) (w:World) (ha:Rd w va la) (hla:la.length<=5000) :
  Calls Tryz.prog 109 #[va] w fun e w' => e=.returned (.string (ba (zbZ (val la))))/\Below w.heap.size w w':=by
 have hnd:=zio ha.1
 have Hnd:=Lib.hid (show zds (val la)<=50001 by omega)
 clear hnd
 go_enter Tryz.func109,Tryz.ntmps109
 go_wp2_with fail
 go_loopw [0,3] (fun a out ww => ∃ (X:Nat) (lx E:List Nat),Rd ww a lx/\Hid (val lx=X)/\lx.length<=5000/\zR w.heap.size ww out E/\Hid (zel (val la) X E)/\Below w.heap.size w ww) (fun a out ww => 2*zfa ww a+zgp out)
 case atStart => exact ⟨val la,la,[],ha,rfl,hla,zR.nil _ _,ziQ _,Below.refl _ _⟩
 case round =>
  obtain ⟨X,lx,E,hx,HX,hlx,hE,HT,hbw⟩:=hrel
  have hEl:=Nat.le_trans (told_len HT.out) Hnd.out
  have hsw:=hbw.size
  have Hrd:=Lib.hid (zaA hx)
  have hE2:=hE
  obtain ⟨ao,no,co,rfl,Hno,hno⟩:=hE.open
  rcases Nat.eq_zero_or_pos X with hX0|hXp
  ·have Hn:=Lib.hid (show zC (val lx)=0 by rw [HX.out,hX0];rfl)
   have HX0:=Lib.hid hX0
   rcases Nat.eq_zero_or_pos no with hn0|hnp
   ·have hE0:E=[]:=List.eq_nil_of_length_eq_zero (by rw [Hno.out];exact hn0)
    have Hn0:=Lib.hid hn0
    obtain ⟨r,hr,hr10⟩:∃ r,X % 10=r/\r<10:=⟨_,rfl,Nat.mod_lt _ (by omega)⟩
    have HR:=Lib.hid (show val lx % (10:Int).toNat=r by rw [HX.out];exact hr)
    have Hst:=Lib.hid (show zel (val la) (X / 10) (E++[48+r]) by rw [<- hr];exact zfV HT.out (.inr hE0))
    have hlq:(za (X / 10)).length<=5000:=by
     have h1:=zdg X 10
     have h2:=zu hx.1
     rw [HX.out] at h2
     rw [zc];omega
    have hEn:E.length<=1000000:=by omega
    clear hr
    subst hn0
    clear hE0 hX0
    go_wp2_with fail
    refine (zaH _ lx _ hx (by omega)).mono ?_
    rintro e w' ⟨rfl,rfl⟩
    rw [Hn.out]
    go_wp2_with fail
    refine (zcK _ lx 10 _ hx (by omega) (by omega) (by omega)).mono ?_
    rintro e w2 ⟨vq,rfl,hq,aM⟩
    rw [HR.out]
    replace hq:Own wr.heap.size w2 vq (za (X / 10)):=by rw [HX.out] at hq;exact hq
    have hE3:=hE2.to aM
    have dF:=aM.size
    go_wp2_with (at_builtin;refine zfo _ rfl (.tmp 21) (.tmp 25) rfl w.heap.size _ w2.heap.size E (48+r) rfl rfl (hE3.alloc _) (by omega) (by simp [go_sem]) (by simp;omega) (by omega) ?_;intro v5 w5 hE5 cV gk hg5)
    go_roundw
    case rel => exact ⟨X / 10,za (X / 10),E++[48+r],((hq.alloc _).grown hg5 (fun k hk => (hE2.2.lt k hk).2)).rd,vL _,hlq,hE5,Hst.out,(bS hbw (bS aM (bN _ _))).trans cV⟩
    case measure =>
     obtain ⟨a5,n5,c5,rfl,Hn5,_⟩:=hE5.open
     have hn5:n5≠0:=by have:=Hn5.out;rw [List.length_append] at this;simp at this;omega
     rw [Hrd.out,HX.out,zaA ((hq.alloc _).grown hg5 (fun k hk => (hE2.2.lt k hk).2)).rd,vL]
     simp only [zgp,if_neg hn5]
     have:=HX0.out;simp;omega
   ·obtain ⟨g,rfl,hg1,hg2⟩:=hno hnp
    have hne:((no:Int) == 0)=false:=by simp;omega
    have hn1:no<=1000000:=by have:=Hno.out;omega
    have Hrev:=Lib.hid (show E.reverse=zbZ (val la) from told_end (by rw [<- HX0.out];exact HT.out) (fun e => by have:=Hno.out;rw [e] at this;simp at this;omega))
    clear hX0
    go_wp2_with fail
    refine (zaH _ lx _ hx (by omega)).mono ?_
    rintro e w' ⟨rfl,rfl⟩
    rw [Hn.out]
    go_wp2_with fail
    refine (zhz w.heap.size g no co E _ hE2 hg1 hnp hn1).mono ?_
    rintro e w2 ⟨rfl,hE3,aM⟩
    have hcv:=hE3.conv
    rw [Hrev.out] at hcv
    go_wp2_with fail
    go_ret
    exact ⟨rfl,hbw.trans aM⟩
  ·have hnb:0<zC (val lx):=Nat.pos_of_ne_zero (fun e => by have:=zaV.1 e;rw [HX.out] at this;omega)
   obtain ⟨r,hr,hr10⟩:∃ r,X % 10=r/\r<10:=⟨_,rfl,Nat.mod_lt _ (by omega)⟩
   have HR:=Lib.hid (show val lx % (10:Int).toNat=r by rw [HX.out];exact hr)
   have Hst:=Lib.hid (show zel (val la) (X / 10) (E++[48+r]) by rw [<- hr];exact zfV HT.out (.inl (by omega)))
   have hlq:(za (X / 10)).length<=5000:=by
    have h1:=zdg X 10
    have h2:=zu hx.1
    rw [HX.out] at h2
    rw [zc];omega
   have hEn:E.length<=1000000:=by omega
   clear hr
   go_wp2_with fail
   refine (zaH _ lx _ hx (by omega)).mono ?_
   rintro e w' ⟨rfl,rfl⟩
   go_wp2_with fail
   refine (zcK _ lx 10 _ hx (by omega) (by omega) (by omega)).mono ?_
   rintro e w2 ⟨vq,rfl,hq,aM⟩
   rw [HR.out]
   replace hq:Own wr.heap.size w2 vq (za (X / 10)):=by rw [HX.out] at hq;exact hq
   have hE3:=hE2.to aM
   have dF:=aM.size
   go_wp2_with (at_builtin;refine zfo _ rfl (.tmp 21) (.tmp 25) rfl w.heap.size _ w2.heap.size E (48+r) rfl rfl (hE3.alloc _) (by omega) (by simp [go_sem]) (by simp;omega) (by omega) ?_;intro v5 w5 hE5 cV gk hg5)
   go_roundw
   case rel => exact ⟨X / 10,za (X / 10),E++[48+r],((hq.alloc _).grown hg5 (fun k hk => (hE2.2.lt k hk).2)).rd,vL _,hlq,hE5,Hst.out,(bS hbw (bS aM (bN _ _))).trans cV⟩
   case measure =>
    obtain ⟨a5,n5,c5,rfl,Hn5,_⟩:=hE5.open
    have hn5:n5≠0:=by have:=Hn5.out;rw [List.length_append] at this;simp at this;omega
    rw [Hrd.out,HX.out,zaA ((hq.alloc _).grown hg5 (fun k hk => (hE2.2.lt k hk).2)).rd,vL]
    simp only [zgp,if_neg hn5]
    omega

theorem zcC (va:Value) (la:List Nat) (w:World) (ha:Rd w va la) (hla:la.length<=5000) :
  Calls Tryz.prog 84 #[va] w fun e w' => e=.returned (.int .i64 (zds (val la):Nat))/\Below w.heap.size w w':=by
 have Hl:=Lib.hid (show (ba (zbZ (val la))).size=zds (val la) from ba_size _)
 go_enter Tryz.func84,Tryz.ntmps84
 go_wp2_with fail
 refine (zhW _ la _ ha hla).mono ?_
 rintro e w1 ⟨rfl,aS⟩
 generalize ba (zbZ (val la))=s at *
 go_wp2_with fail
 go_ret
 exact ⟨zo (zr (by rw [<- Hl.out])),aS⟩

end Go.Proofs.YtkjcdnlpjldhaaaGreat


namespace Go.Proofs.YtkjcdnlpjldhaaaGreat
open Go.RowKit Tw

end Go.Proofs.YtkjcdnlpjldhaaaGreat

