/-
  The texts Deci, DeciPrint, Ref6, merged.
-/
import Derived.Test.YtkjcdnlpjldhaaaG06
import Derived.Test.YtkjcdnlpjldhaaaG08
import Derived.Lib.OthersKept
import Derived.Laws.RangeAny
import Derived.Test.YtkjcdnlpjldhaaaG09
set_option linter.unusedVariables false
set_option linter.unusedSimpArgs false
set_option maxRecDepth 100000
set_option maxHeartbeats 400000000
namespace Go.Proofs.Ytkjcdnlpjldhaaa
open Go.RowKit Tw

end Go.Proofs.Ytkjcdnlpjldhaaa


namespace Go.Proofs.Ytkjcdnlpjldhaaa
open Go.RowKit Tw

def zfQ:Value->Nat
 | .slice _ n _ => if n=0 then 1 else 0
 | _ => 0

theorem zhS {l:List Nat} (h:Small l):zdb (val l)<=10*l.length+1:=by
 apply ndig_le (by omega)
 have h1:=zbG h
 have h2:B ^ l.length<=(10 ^ 10) ^ l.length:=Nat.pow_le_pow_left (by rw [zam];omega) _
 rw [<- Nat.pow_mul] at h2
 have h3:=Nat.pow_le_pow_right (n:=10) (by omega) (show 10*l.length<=10*l.length+1 by omega)
 omega

theorem zhF (va:Value) (la:List Nat) (w:World) (ha:Rd w va la) (hla:la.length<=5000) :
  Calls Try.prog 67 #[va] w fun e w' => e=.returned (.string (ba (zbH (val la))))/\Below w.heap.size w w':=by
 have hnd:=zhS ha.1
 have Hnd:=Lib.hid (show zdb (val la)<=50001 by omega)
 clear hnd
 go_enter Try.func67,Try.ntmps67
 go_wp2_with fail
 go_loopw [0,3] (fun a out ww => ∃ (X:Nat) (lx E:List Nat),Rd ww a lx/\Hid (val lx=X)/\lx.length<=5000/\zaP w.heap.size ww out E/\Hid (zdY (val la) X E)/\Below w.heap.size w ww) (fun a out ww => 2*zeL ww a+zfQ out)
 case atStart => exact ⟨val la,la,[],ha,rfl,hla,zaP.nil _ _,ziq _,Below.refl _ _⟩
 case round =>
  obtain ⟨X,lx,E,hx,HX,hlx,hE,HT,hbw⟩:=hrel
  have hEl:=Nat.le_trans (told_len HT.out) Hnd.out
  have hsw:=hbw.size
  have Hrd:=Lib.hid (zao hx)
  have hE2:=hE
  obtain ⟨ao,no,co,rfl,Hno,hno⟩:=hE.open
  rcases Nat.eq_zero_or_pos X with hX0|hXp
  ·have Hn:=Lib.hid (show zD (val lx)=0 by rw [HX.out,hX0];rfl)
   have HX0:=Lib.hid hX0
   rcases Nat.eq_zero_or_pos no with hn0|hnp
   ·have hE0:E=[]:=List.eq_nil_of_length_eq_zero (by rw [Hno.out];exact hn0)
    have Hn0:=Lib.hid hn0
    obtain ⟨r,hr,hr10⟩:∃ r,X % 10=r/\r<10:=⟨_,rfl,Nat.mod_lt _ (by omega)⟩
    have HR:=Lib.hid (show val lx % (10:Int).toNat=r by rw [HX.out];exact hr)
    have Hst:=Lib.hid (show zdY (val la) (X / 10) (E++[48+r]) by rw [<- hr];exact zfz HT.out (.inr hE0))
    have hlq:(zc (X / 10)).length<=5000:=by
     have h1:=zcN X 10
     have h2:=zu hx.1
     rw [HX.out] at h2
     rw [ze];omega
    have hEn:E.length<=1000000:=by omega
    clear hr
    subst hn0
    clear hE0 hX0
    go_wp2_with fail
    refine (zat _ lx _ hx (by omega)).mono ?_
    rintro e w' ⟨rfl,rfl⟩
    rw [Hn.out]
    go_wp2_with fail
    refine (zcs _ lx 10 _ hx (by omega) (by omega) (by omega)).mono ?_
    rintro e w2 ⟨vq,rfl,hq,aL⟩
    rw [HR.out]
    replace hq:Own wr.heap.size w2 vq (zc (X / 10)):=by rw [HX.out] at hq;exact hq
    have hE3:=hE2.to aL
    have da:=aL.size
    go_wp2_with (at_builtin;refine zeW _ rfl (.tmp 21) (.tmp 25) rfl w.heap.size _ w2.heap.size E (48+r) rfl rfl (hE3.alloc _) (by omega) (by simp [go_sem]) (by simp;omega) (by omega) ?_;intro v5 w5 hE5 c9 ic hg5)
    go_roundw
    case rel => exact ⟨X / 10,zc (X / 10),E++[48+r],((hq.alloc _).grown hg5 (fun k hk => (hE2.2.lt k hk).2)).rd,vL _,hlq,hE5,Hst.out,(bS hbw (bS aL (bN _ _))).trans c9⟩
    case measure =>
     obtain ⟨a5,n5,c5,rfl,Hn5,_⟩:=hE5.open
     have hn5:n5≠0:=by have:=Hn5.out;rw [List.length_append] at this;simp at this;omega
     rw [Hrd.out,HX.out,zao ((hq.alloc _).grown hg5 (fun k hk => (hE2.2.lt k hk).2)).rd,vL]
     simp only [zfQ,if_neg hn5]
     have:=HX0.out;simp;omega
   ·obtain ⟨g,rfl,hg1,hg2⟩:=hno hnp
    have hne:((no:Int) == 0)=false:=by simp;omega
    have hn1:no<=1000000:=by have:=Hno.out;omega
    have Hrev:=Lib.hid (show E.reverse=zbH (val la) from told_end (by rw [<- HX0.out];exact HT.out) (fun e => by have:=Hno.out;rw [e] at this;simp at this;omega))
    clear hX0
    go_wp2_with fail
    refine (zat _ lx _ hx (by omega)).mono ?_
    rintro e w' ⟨rfl,rfl⟩
    rw [Hn.out]
    go_wp2_with fail
    refine (zgU w.heap.size g no co E _ hE2 hg1 hnp hn1).mono ?_
    rintro e w2 ⟨rfl,hE3,aL⟩
    have hcv:=hE3.conv
    rw [Hrev.out] at hcv
    go_wp2_with fail
    go_ret
    exact ⟨rfl,hbw.trans aL⟩
  ·have hnb:0<zD (val lx):=Nat.pos_of_ne_zero (fun e => by have:=zaC.1 e;rw [HX.out] at this;omega)
   obtain ⟨r,hr,hr10⟩:∃ r,X % 10=r/\r<10:=⟨_,rfl,Nat.mod_lt _ (by omega)⟩
   have HR:=Lib.hid (show val lx % (10:Int).toNat=r by rw [HX.out];exact hr)
   have Hst:=Lib.hid (show zdY (val la) (X / 10) (E++[48+r]) by rw [<- hr];exact zfz HT.out (.inl (by omega)))
   have hlq:(zc (X / 10)).length<=5000:=by
    have h1:=zcN X 10
    have h2:=zu hx.1
    rw [HX.out] at h2
    rw [ze];omega
   have hEn:E.length<=1000000:=by omega
   clear hr
   go_wp2_with fail
   refine (zat _ lx _ hx (by omega)).mono ?_
   rintro e w' ⟨rfl,rfl⟩
   go_wp2_with fail
   refine (zcs _ lx 10 _ hx (by omega) (by omega) (by omega)).mono ?_
   rintro e w2 ⟨vq,rfl,hq,aL⟩
   rw [HR.out]
   replace hq:Own wr.heap.size w2 vq (zc (X / 10)):=by rw [HX.out] at hq;exact hq
   have hE3:=hE2.to aL
   have da:=aL.size
   go_wp2_with (at_builtin;refine zeW _ rfl (.tmp 21) (.tmp 25) rfl w.heap.size _ w2.heap.size E (48+r) rfl rfl (hE3.alloc _) (by omega) (by simp [go_sem]) (by simp;omega) (by omega) ?_;intro v5 w5 hE5 c9 ic hg5)
   go_roundw
   case rel => exact ⟨X / 10,zc (X / 10),E++[48+r],((hq.alloc _).grown hg5 (fun k hk => (hE2.2.lt k hk).2)).rd,vL _,hlq,hE5,Hst.out,(bS hbw (bS aL (bN _ _))).trans c9⟩
   case measure =>
    obtain ⟨a5,n5,c5,rfl,Hn5,_⟩:=hE5.open
    have hn5:n5≠0:=by have:=Hn5.out;rw [List.length_append] at this;simp at this;omega
    rw [Hrd.out,HX.out,zao ((hq.alloc _).grown hg5 (fun k hk => (hE2.2.lt k hk).2)).rd,vL]
    simp only [zfQ,if_neg hn5]
    omega

theorem zck (va:Value) (la:List Nat) (w:World) (ha:Rd w va la) (hla:la.length<=5000) :
  Calls Try.prog 45 #[va] w fun e w' => e=.returned (.int .i64 (zdb (val la):Nat))/\Below w.heap.size w w':=by
 have Hl:=Lib.hid (show (ba (zbH (val la))).size=zdb (val la) from ba_size _)
 go_enter Try.func45,Try.ntmps45
 go_wp2_with fail
 refine (zhF _ la _ ha hla).mono ?_
 rintro e w1 ⟨rfl,aT⟩
 generalize ba (zbH (val la))=s at *
 go_wp2_with fail
 go_ret
 exact ⟨zo (zr (by rw [<- Hl.out])),aT⟩

end Go.Proofs.Ytkjcdnlpjldhaaa


namespace Go.Proofs.Ytkjcdnlpjldhaaa
open Go.RowKit Tw

end Go.Proofs.Ytkjcdnlpjldhaaa

