/-
  The walk of PackRuns.
-/
import Derived.Test.YtkjcdnlpjldhaaaGreatK29
import Derived.Test.YtkjcdnlpjldhaaaGreatK05
import Derived.Test.YtkjcdnlpjldhaaaGreatK31
import Derived.Test.YtkjcdnlpjldhaaaGreatK27
import Derived.Test.YtkjcdnlpjldhaaaGreatK32
import Derived.Test.YtkjcdnlpjldhaaaGreatK25
import Derived.Test.YtkjcdnlpjldhaaaGreatK18
set_option linter.unusedVariables false
set_option linter.unusedSimpArgs false
set_option maxRecDepth 100000
set_option maxHeartbeats 400000000
namespace Go.Proofs.YtkjcdnlpjldhaaaGreat
open Go.RowKit Tw
attribute [local go_sem ↓] Go.wp_at_zero Go.wp_at_succ

theorem lt_digs (n:Nat):n<10 ^ (zbZ n).length:=by
 induction n using Nat.strongRecOn with
 | ind n ih =>
  by_cases h:n<10
  ·rw [zbQ h];simpa using h
  ·rw [zcD (by omega),List.length_append]
   have:=ih (n / 10) (by omega)
   show n<10 ^ ((zbZ (n / 10)).length+1)
   rw [Nat.pow_succ]
   omega

theorem zaay {n:Nat} (h:(zbZ n).length<=40):sz n<=5:=by
 refine zdA (Nat.lt_of_lt_of_le (lt_digs n) (Nat.le_trans (Nat.pow_le_pow_right (by decide) h) ?_))
 decide +kernel

theorem zabe {c:Cd} (h:zU c=true):zbA 6 c.all:=by
 unfold zU at h
 rw [Bool.and_eq_true] at h
 have key:∀ (l:List Ins) (L:List Int),zbN c L l=true->∀ x ∈ l,x.q.n.length<=6/\x.q.d.length<=6:=by
  intro l
  induction l with
  | nil => intro L _ x hx;cases hx
  | cons y t ih =>
   intro L ha x hx
   unfold zbN at ha
   rw [Bool.and_eq_true] at ha
   rcases List.mem_cons.1 hx with hx|hx
   ·rw [hx]
    have h1:=ha.1
    unfold zA at h1
    simp only [Bool.and_eq_true] at h1
    have h2:=h1.1.1.1.2
    unfold zcd at h2
    by_cases e:y.op=1
    ·rw [if_pos e] at h2
     simp only [Bool.and_eq_true,decide_eq_true_eq] at h2
     obtain ⟨⟨h3,h4⟩,h5⟩:=h2
     unfold zdQ at h3
     simp only [Bool.and_eq_true,decide_eq_true_eq] at h3
     obtain ⟨⟨_,h6⟩,h7⟩:=h3
     have e1:y.q.n.length=sz (val y.q.n):=by rw [<- h6,vL];rfl
     have e2:y.q.d.length=sz (val y.q.d):=by rw [<- h7,vL];rfl
     have:=zaay h4
     have:=zaay h5
     omega
    ·rw [if_neg e] at h2
     simp only [Bool.and_eq_true,decide_eq_true_eq] at h2
     omega
   ·exact ih _ ha.2 x hx
 exact key c.all [] h.2

theorem stepE_ne (p:List Rat) (R:Int->Rat) (x:Ins):zau p R x≠11:=by
 unfold zau
 have ho:opE R x≠11:=by
  unfold opE
  repeat' split
  all_goals decide
 split
 ·exact ho
 ·split <;> decide

theorem zabq (p:List Rat):∀ (l:List Ins) (s:St),zaas p s l≠11
 | [],s => by unfold zaas;decide
 | x :: t,s => by
  unfold zaas
  split
  ·exact stepE_ne _ _ _
  ·exact zabq p t _

theorem runO_ne {c:Cd} {p:List Rat} {n:Nat} (h:zU c=true):runO c p n≠11:=by
 unfold runO
 rw [if_neg (by rw [h];decide)]
 split
 ·decide
 ·exact zabq _ _ _

theorem walk_PackRuns (v:Value) (b:List Nat) (a1:Int) (u:Value) (s:List Sn) (w:World) (h:RdB w v b) (h10:0<=a1) (h11:a1<256) (hs:RdSn w u s) :
  Calls Tryz.prog 11 #[v,.int .u8 a1,u] w (Holds w):=by
 obtain ⟨ka,rfl⟩:=Int.eq_ofNat_of_zero_le h10
 have h256:=h.1
 obtain ⟨a,m,c0,rfl,Hm,hmc,hcm⟩:=h.open
 obtain ⟨au,mu,cu,rfl,Hmu,hmu⟩:=hs.open
 have H:=Lib.hid h
 have Hs:=Lib.hid hs
 have H256:=Lib.hid h256
 obtain ⟨n5,hn5⟩:∃ z,ka % 5=z:=⟨_,rfl⟩
 have hn5i:(ka:Int) % 5=(n5:Int):=by omega
 have bn5:n5<5:=by omega
 clear h h256 hs hn5
 go_enter Tryz.func11,Tryz.ntmps11
 go_wp2_with fail
 refine (zabl _).mono ?_
 rintro e w1 ⟨rfl,aS⟩
 by_cases hm2:200<m
 ·have hmi:(200:Int)<(m:Int):=by omega
  go_wp2_with fail
  go_ret
  exact ⟨rfl,aS⟩
 ·have hmi:¬ ((200:Int)<(m:Int)):=by omega
  have Hb:=Lib.hid (show b.length<=200 by have:=Hm.out;omega)
  go_wp2_with fail
  refine (zbv _ b _ (H.out.to aS) (by have:=Hb.out;omega)).mono ?_
  rintro e w2 ⟨aM,h2⟩
  have da:=bS aS aM
  cases hd:zw b with
  | none =>
   rw [hd] at h2
   obtain rfl:=h2
   have Hd:=Lib.hid hd
   clear hd
   go_wp2_with fail
   have hbn:Below w2.heap.size w2 (w2.alloc (.cells #[.int .i64 zae.ins,.int .i64 zae.rows,.int .i64 zae.cols,.int .i64 zae.regs,.slice none 0 0] 24)):=bN _ _
   refine (zaah n5 _ s _ (Hs.out.to (bS da hbn)) (by omega)).mono ?_
   rintro e w3 ⟨ax,cx,rfl,hx,bY⟩
   have dZ:=bS da (bS hbn bY)
   go_wp2_with fail
   refine (zaau _ _ b _ (H.out.to dZ) (by have:=Hb.out;omega) Hd.out).mono ?_
   rintro e w4 ⟨rfl,di⟩
   go_wp2_with fail
   go_ret
   exact ⟨rfl,((bS dZ di).alloc (by have:=(bS dZ di).size;omega) _).alloc (by have:=(bS dZ di).size;simp;omega) _⟩
  | some c =>
   rw [hd] at h2
   obtain ⟨x,rfl,hO⟩:=h2
   obtain ⟨hbc,hwc,hrc⟩:=zdZ H256.out hd
   have hIC:=ziV H256.out hd hO
   have hF:=zabe hrc
   have HIC:=Lib.hid hIC
   have Hd:=Lib.hid hd
   have Hrc:=Lib.hid hrc
   have Hs6:=Lib.hid hF
   have Hs1:=Lib.hid (show zbA 1000 c.all from fun x hx => by have:=hF x hx;omega)
   obtain ⟨ao,co,hform,_⟩:=hO.form
   obtain ⟨no,hno⟩:∃ n,c.all.length=n:=⟨_,rfl⟩
   rw [hno] at hform
   subst hform
   clear hO hIC hd hbc hwc hrc hF hno
   obtain ⟨hv,hhv⟩:∃ z,zig c=z:=⟨_,rfl⟩
   have Hhv:=Lib.hid hhv
   clear hhv
   go_upto_region 5 with fail
   obtain ⟨W2,d6⟩:∃ W2,w2.alloc (.cells #[.int .i64 c.ins,.int .i64 c.rows,.int .i64 c.cols,.int .i64 c.regs,.slice ao no co] 24)=W2:=⟨_,rfl⟩
   have hbn2:Below w2.heap.size w2 W2:=by rw [<- d6];exact bN _ _
   have hC2:B5 W2 w2.heap.size (.int .i64 c.ins) (.int .i64 c.rows) (.int .i64 c.cols) (.int .i64 c.regs) (.slice ao no co):=by
    rw [<- d6]
    unfold B5
    and_intros <;> first|(simp [go_sem];done)|(simp [go_sem];omega)
   rw [d6]
   clear d6
   have dO:=bS da hbn2
   obtain ⟨cz,c0_,c1_,c2_,c3_,c4_,cf0,cf1,cf2,cf3,cf4⟩:=id hC2
   go_wp2_with fail
   refine (vm_heavy c _ _ (HIC.out.to hbn2) Hs1.out hv Hhv.out).mono ?_
   rintro e w3 ⟨rfl,bY⟩
   clear cz c0_ c1_ c2_ c3_ c4_ cf0 cf1 cf2 cf3 cf4
   have bA:=bS dO bY
   by_cases h20:20<hv
   ·have hd20:decide (20<hv)=true:=decide_eq_true h20
    go_wp2_with fail
    go_ret
    exact ⟨rfl,bA⟩
   ·have hd20:decide (20<hv)=false:=decide_eq_false h20
    have H20:=Lib.hid (show zig c<=20 by rw [Hhv.out];omega)
    go_wp2_with fail
    refine (zaah n5 _ s _ (Hs.out.to bA) (by omega)).mono ?_
    rintro e w4 ⟨ax,cx,rfl,hx,di⟩
    have gs:=bS bA di
    obtain ⟨ps,hps⟩:∃ z,zaag n5 s=z:=⟨_,rfl⟩
    have hp:∀ x ∈ ps.map zaq,x.n.length<=6/\x.d.length<=6:=by rw [<- hps];exact zaaz _ _ Hs.out.rng
    have hnum:(ps.map zaq).map Rt.num=ps:=by rw [<- hps];exact zabj _ _
    rw [hps] at hx
    have Hx:=Lib.hid hx
    obtain ⟨o,ho⟩:∃ o,runO c ((ps.map zaq).map Rt.num) (ps.map zaq).length=o:=⟨_,rfl⟩
    have hone:o≠11:=by rw [<- ho];exact runO_ne Hrc.out
    have hob:((o:Int) != 11)=true:=by simp;exact hone
    obtain ⟨rows,hrows⟩:∃ z,jRows c o=z:=⟨_,rfl⟩
    obtain ⟨cols,hcols⟩:∃ z,jCols c o=z:=⟨_,rfl⟩
    obtain ⟨qs,hqs⟩:∃ z,jAll c ((ps.map zaq).map Rt.num) o=z:=⟨_,rfl⟩
    obtain ⟨k,hk⟩:∃ z,jK c ((ps.map zaq).map Rt.num) o=z:=⟨_,rfl⟩
    obtain ⟨t,ht⟩:∃ z,jT c ((ps.map zaq).map Rt.num) o=z:=⟨_,rfl⟩
    have hRun:∀ (W:World) (x:Value),IsC W c x->RdR W (.slice ax n5 cx) (ps.map zaq)->Calls Tryz.prog 19 #[aggC c x,.slice ax n5 cx] W (RunJ W rows cols qs k t o):=fun W x hc hx => by
     have h:=zabr c x _ (ps.map zaq) W hc Hs1.out hx (fits_few hc hx Hs6.out hp H20.out) o ho
     unfold zgU at h
     rw [hrows,hcols,hqs,hk,ht] at h
     exact h
    have HRun:=Lib.hid hRun
    have hql:qs.length<=1600:=by
     rw [<- hqs]
     unfold jAll
     split
     ·unfold zgg
      rw [List.length_map,List.length_range]
      have hr:=Hrc.out
      unfold zU at hr
      rw [Bool.and_eq_true] at hr
      have h0:=hr.1
      unfold zda at h0
      simp only [decide_eq_true_eq] at h0
      have h9:c.cols<=40:=by omega
      have h10':0<=c.cols:=by omega
      have h11':c.rows*c.cols<=40*c.cols:=Int.mul_le_mul_of_nonneg_right h0.2.2.2.1 h10'
      omega
     ·exact Nat.zero_le _
    have Hql:=Lib.hid (show (qs.map zaq).length<=100000 by rw [List.length_map];omega)
    clear hx hps hp hnum ho hone hrows hcols hqs hk ht hRun hql
    go_wp2_with fail
    refine (zfs _ _ b c (ps.map zaq) _ (H.out.to gs) (by have:=Hb.out;omega) Hx.out Hd.out rows cols k t o qs HRun.out).mono ?_
    rintro e w5 ⟨aj,nj,cj,rfl,hrd,_,cV⟩
    have Hrd:=Lib.hid hrd
    clear hrd
    have eV:=bS gs cV
    go_upto_region 9 with fail
    obtain ⟨W5,eL⟩:∃ W5,(w5.alloc (.cells #[.int .i64 rows,.int .i64 cols,.slice aj nj cj] 32)).alloc (.cells #[.int .i64 k,.int .i64 t] 34)=W5:=⟨_,rfl⟩
    have hbn5:Below w5.heap.size w5 W5:=by rw [<- eL];exact bS (bN _ _) (bN _ _)
    have tJ:Tri W5 w5.heap.size (.int .i64 rows) (.int .i64 cols) (.slice aj nj cj):=by rw [<- eL];exact (zd _ _ _ _ _).alloc _
    have tK:Duo W5 (w5.heap.size+1) (.int .i64 k) (.int .i64 t):=by rw [<- eL];exact zhc _ _ _ _ _
    rw [eL]
    clear eL
    have gh:=bS bY (bS di (bS cV hbn5))
    have hb0W:=bS eV hbn5
    obtain ⟨cz,c0_,c1_,c2_,c3_,c4_,cf0,cf1,cf2,cf3,cf4⟩:=hC2.to gh
    go_wp2_with fail
    refine (HRun.out _ _ (HIC.out.to (bS hbn2 gh)) (Hx.out.to (bS cV hbn5))).mono ?_
    rintro e w6 ⟨ai,ni,ci,rfl,hri,_,ee⟩
    have Hri:=Lib.hid hri
    clear hri cz c0_ c1_ c2_ c3_ c4_ cf0 cf1 cf2 cf3 cf4
    go_upto_region 12 with fail
    obtain ⟨W6,zaby⟩:∃ W6,(w6.alloc (.cells #[.int .i64 rows,.int .i64 cols,.slice ai ni ci] 32)).alloc (.cells #[.int .i64 k,.int .i64 t] 34)=W6:=⟨_,rfl⟩
    have hbn6:Below w6.heap.size w6 W6:=by rw [<- zaby];exact bS (bN _ _) (bN _ _)
    have tJ2:Tri W6 w6.heap.size (.int .i64 rows) (.int .i64 cols) (.slice ai ni ci):=by rw [<- zaby];exact (zd _ _ _ _ _).alloc _
    have tK2:Duo W6 (w6.heap.size+1) (.int .i64 k) (.int .i64 t):=by rw [<- zaby];exact zhc _ _ _ _ _
    rw [zaby]
    clear zaby
    have gi:=bS ee hbn6
    obtain ⟨j0,j1,j2,_⟩:=tJ.to gi
    obtain ⟨k0,k1,_⟩:=tK.to gi
    obtain ⟨l0,l1,l2,_⟩:=tJ2
    obtain ⟨m0,m1,_⟩:=tK2
    go_wp2_with fail
    refine (zaai rows cols _ _ _ _ (Hrd.out.to (bS hbn5 gi)) (Hri.out.to hbn6) Hql.out).mono ?_
    rintro e w7 ⟨rfl,ek⟩
    go_wp2_with fail
    go_ret
    exact ⟨rfl,bS hb0W (bS gi ek)⟩

end Go.Proofs.YtkjcdnlpjldhaaaGreat

