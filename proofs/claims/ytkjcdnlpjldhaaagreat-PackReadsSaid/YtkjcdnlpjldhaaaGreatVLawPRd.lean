/-
  The walk of PackReads.
-/
import Derived.Test.YtkjcdnlpjldhaaaGreatK30
import Derived.Test.YtkjcdnlpjldhaaaGreatK05
import Derived.Test.YtkjcdnlpjldhaaaGreatK34
set_option linter.unusedVariables false
set_option linter.unusedSimpArgs false
set_option maxRecDepth 100000
set_option maxHeartbeats 400000000
namespace Go.Proofs.YtkjcdnlpjldhaaaGreat
open Go.RowKit Tw
attribute [local go_sem ↓] Go.wp_at_zero Go.wp_at_succ

theorem walk_PackReads (v:Value) (b:List Nat) (w:World) (h:RdB w v b) :
  Calls Tryz.prog 8 #[v] w (Holds w):=by
 have h256:=h.1
 obtain ⟨a,m,c0,rfl,Hm,hmc,hcm⟩:=h.open
 have H:=Lib.hid h
 have H256:=Lib.hid h256
 clear h h256
 go_enter Tryz.func8,Tryz.ntmps8
 go_wp2_with fail
 refine (zib _).mono ?_
 rintro e w1 ⟨rfl,be⟩
 by_cases hm2:200<m
 ·have hmi:(200:Int)<(m:Int):=by omega
  go_wp2_with fail
  go_ret
  exact ⟨rfl,be⟩
 ·have hmi:¬ ((200:Int)<(m:Int)):=by omega
  have Hb:=Lib.hid (show b.length<=200 by have:=Hm.out;omega)
  go_wp2_with fail
  refine (zcH _ b _ (H.out.to be) (by have:=Hb.out;omega)).mono ?_
  rintro e w2 ⟨aZ,h2⟩
  have dl:=bS be aZ
  cases hd:zC b with
  | none =>
   have Hd:=Lib.hid hd
   rw [hd] at h2
   obtain rfl:=h2
   clear hd
   go_upto_region 5 with fail
   obtain ⟨W2,hW⟩:∃ W,w2.alloc (.cells #[.int .i64 zaO.ins,.int .i64 zaO.rows,.int .i64 zaO.cols,.int .i64 zaO.regs,.slice none 0 0] 24)=W:=⟨_,rfl⟩
   have hbn2:Below w2.heap.size w2 W2:=by rw [<- hW];exact bN _ _
   have hC2:B5 W2 w2.heap.size (.int .i64 zaO.ins) (.int .i64 zaO.rows) (.int .i64 zaO.cols) (.int .i64 zaO.regs) (.slice none 0 0):=by
    rw [<- hW]
    unfold B5
    and_intros <;> first|(simp [go_sem];done)|(simp [go_sem];omega)
   rw [hW]
   clear hW
   go_wp2_with fail
   refine (zeM _ b _ (H.out.to (bS dl hbn2)) (by have:=Hb.out;omega)).mono ?_
   rintro e w3 ⟨cl,h3⟩
   rw [Hd.out] at h3
   obtain rfl:=h3
   go_upto_region 6 with fail
   obtain ⟨W3,hW⟩:∃ W,w3.alloc (.cells #[.int .i64 zaO.ins,.int .i64 zaO.rows,.int .i64 zaO.cols,.int .i64 zaO.regs,.slice none 0 0] 24)=W:=⟨_,rfl⟩
   have hbn3:Below w3.heap.size w3 W3:=by rw [<- hW];exact bN _ _
   have hC3:B5 W3 w3.heap.size (.int .i64 zaO.ins) (.int .i64 zaO.rows) (.int .i64 zaO.cols) (.int .i64 zaO.regs) (.slice none 0 0):=by
    rw [<- hW]
    unfold B5
    and_intros <;> first|(simp [go_sem];done)|(simp [go_sem];omega)
   rw [hW]
   clear hW
   obtain ⟨cz,c0_,c1_,c2_,c3_,c4_,cf0,cf1,cf2,cf3,cf4⟩:=hC2.to (bS cl hbn3)
   obtain ⟨dz,d0_,d1_,d2_,d3_,d4_,df0,df1,df2,df3,df4⟩:=id hC3
   go_wp2_with fail
   have hz:IsC W3 zaO (.slice none 0 0):=⟨⟨none,0,rfl,Nat.le_refl _,Nat.zero_le _,fun i hi => absurd hi (by simp [zaO])⟩,by unfold I64 zaO;decide,by unfold I64 zaO;decide,by unfold I64 zaO;decide,by unfold I64 zaO;decide⟩
   refine (zde zaO _ _ _ hz hz).mono ?_
   rintro e w4 ⟨rfl,dd⟩
   go_wp2_with fail
   go_ret
   exact ⟨rfl,bS dl (bS hbn2 (bS cl (bS hbn3 dd)))⟩
  | some c =>
   have Hd:=Lib.hid hd
   rw [hd] at h2
   obtain ⟨u,rfl,hO⟩:=h2
   obtain ⟨au,cu,hform,_⟩:=hO.form
   have HIC:=Lib.hid (zik H256.out hd hO)
   obtain ⟨nu,hnu⟩:∃ n,c.all.length=n:=⟨_,rfl⟩
   rw [hnu] at hform
   subst hform
   have Hnu:=Lib.hid hnu
   clear hO hd hnu
   go_upto_region 5 with fail
   obtain ⟨W2,hW⟩:∃ W,w2.alloc (.cells #[.int .i64 c.ins,.int .i64 c.rows,.int .i64 c.cols,.int .i64 c.regs,.slice au nu cu] 24)=W:=⟨_,rfl⟩
   have hbn2:Below w2.heap.size w2 W2:=by rw [<- hW];exact bN _ _
   have hC2:B5 W2 w2.heap.size (.int .i64 c.ins) (.int .i64 c.rows) (.int .i64 c.cols) (.int .i64 c.regs) (.slice au nu cu):=by
    rw [<- hW]
    unfold B5
    and_intros <;> first|(simp [go_sem];done)|(simp [go_sem];omega)
   rw [hW]
   clear hW
   go_wp2_with fail
   refine (zeM _ b _ (H.out.to (bS dl hbn2)) (by have:=Hb.out;omega)).mono ?_
   rintro e w3 ⟨cl,h3⟩
   rw [Hd.out] at h3
   obtain ⟨u2,rfl,hO2⟩:=h3
   have HIC2:=Lib.hid (zik H256.out Hd.out hO2)
   obtain ⟨av,cv,hform,_⟩:=hO2.form
   rw [Hnu.out] at hform
   subst hform
   clear hO2
   go_upto_region 6 with fail
   obtain ⟨W3,hW⟩:∃ W,w3.alloc (.cells #[.int .i64 c.ins,.int .i64 c.rows,.int .i64 c.cols,.int .i64 c.regs,.slice av nu cv] 24)=W:=⟨_,rfl⟩
   have hbn3:Below w3.heap.size w3 W3:=by rw [<- hW];exact bN _ _
   have hC3:B5 W3 w3.heap.size (.int .i64 c.ins) (.int .i64 c.rows) (.int .i64 c.cols) (.int .i64 c.regs) (.slice av nu cv):=by
    rw [<- hW]
    unfold B5
    and_intros <;> first|(simp [go_sem];done)|(simp [go_sem];omega)
   rw [hW]
   clear hW
   obtain ⟨cz,c0_,c1_,c2_,c3_,c4_,cf0,cf1,cf2,cf3,cf4⟩:=hC2.to (bS cl hbn3)
   obtain ⟨dz,d0_,d1_,d2_,d3_,d4_,df0,df1,df2,df3,df4⟩:=id hC3
   go_wp2_with fail
   refine (zde c _ _ _ (HIC.out.to (bS hbn2 (bS cl hbn3))) (HIC2.out.to hbn3)).mono ?_
   rintro e w4 ⟨rfl,dd⟩
   go_wp2_with fail
   go_ret
   exact ⟨rfl,bS dl (bS hbn2 (bS cl (bS hbn3 dd)))⟩

end Go.Proofs.YtkjcdnlpjldhaaaGreat

