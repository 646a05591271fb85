/-
  The texts Rat1, merged.
-/
import Derived.Test.YtkjcdnlpjldhaaaG12
import Derived.Test.YtkjcdnlpjldhaaaG13
import Derived.Deep.RegionHeld3
import Derived.Deep.DrawnRows
import Derived.Laws.EntriesVeiled
set_option linter.unusedVariables false
set_option linter.unusedSimpArgs false
set_option maxRecDepth 100000
set_option maxHeartbeats 400000000
namespace Go.Proofs.Ytkjcdnlpjldhaaa
open Go.RowKit Tw
attribute [local go_sem ↓] Go.wp_at_zero Go.wp_at_succ

theorem canZ {w w':World} {a:Option Addr} {n c:Nat} (g:Own w.heap.size w' (.slice a n c) (zc (1:Int).toNat)) (hs:w.heap.size<=w'.heap.size) :
  zW w.heap.size w'.heap.size w' false (.slice none 0 0) (.slice a n c) 0 :=
 zeh (by rw [show zc (0:Rat).num.natAbs=[] by decide +kernel];exact Own.nil _ _) g (by decide +kernel) (by decide +kernel)

theorem zeD {m n:Nat} (hm:0<m) (hn:0<n):0<m / Nat.gcd m n:=Nat.div_pos (Nat.le_of_dvd hm (Nat.gcd_dvd_left m n)) (Nat.gcd_pos_of_pos_left n hm)

theorem canR {lo:Nat} {w':World} {b:Bool} {v u:Value} {m n:Nat} (g:Own lo w' v (zc (m / Nat.gcd m n))) (d:Own lo w' u (zc (n / Nat.gcd m n))) (h0:0<n) (h3:0<m) (hs:szq (rat b m n)<=4097) :
  zW lo w'.heap.size w' b v u (rat b m n) :=
 zeh (by rw [zer (by omega)];exact g) (by rw [zeq (by omega)];exact d) (ziI b (by omega) (by omega)) hs

theorem zjq (b:Bool) (v u:Value) (ln ld:List Nat) (w:World) (hv:Rd w v ln) (hu:Rd w u ld) (h1:ln.length<=15000) (h2:ld.length<=15000) (h0:val ld=0) :
  Calls Try.prog 18 #[.bool b,v,u] w (zae w (rat b (val ln) (val ld))):=by
 rw [h0,zbq]
 have Z0:=Lib.hid h0
 clear h0
 obtain ⟨a0,n0,c0,rfl,H0,hm0⟩:=hv.open
 obtain ⟨a1,n1,c1,rfl,H1,hm1⟩:=hu.open
 go_enter Try.func18,Try.ntmps18
 go_wp2_with fail
 obtain ⟨W0,aq⟩:∃ W0,w.alloc (.cells #[.bool false,.slice none 0 0,.slice none 0 0] 25)=W0:=⟨_,rfl⟩
 have al:=Lib.hid (show ∀ W',Below W0.heap.size W0 W'->(Bx3 W' w.heap.size (.bool false) (.slice none 0 0) (.slice none 0 0)) from fun W' hb => by
   apply bx3 hb
   all_goals first|assumption|(rw [<- aq];simp [go_sem]))
 have zb:Below w.heap.size w W0:=by rw [<- aq];exact bN _ _
 rw [aq]
 clear aq
 have i0:=hv.to zb
 have i1:=hu.to zb
 have gb:Below W0.heap.size W0 W0:=Below.refl _ _
 obtain ⟨z0,ae,af,ag,ah,ai,ak⟩:=al.out _ gb
 refine (zdr _ _ ln ld _ (i0.to gb) (i1.to gb) (by omega) Z0.out).mono ?_
 clear ae ah af ai ag ak
 rintro e w1 ⟨rfl,aT⟩
 replace gb:=bS gb aT
 obtain ⟨z0,ae,af,ag,ah,ai,ak⟩:=al.out _ gb
 go_wp2_with fail
 refine (zcb 1 _ (by omega) (by omega)).mono ?_
 clear ae ah af ai ag ak
 rintro e w2 ⟨v2,rfl,g2,aL⟩
 obtain ⟨a2_,n2_,c2_,rfl,H2,hm2⟩:=g2.rd.open
 replace gb:=bS gb aL
 obtain ⟨z0,ae,af,ag,ah,ai,ak⟩:=al.out _ gb
 go_wp2_with fail
 have gg:=canZ g2 aL.size
 refine bodyPost_ret (zU Try.results18 _ _ _ _ _ _ rfl (Tri.set (x0:=.bool false) (y0:=.slice none 0 0) (z0:=.slice none 0 0) ⟨ae,af,ag,ah,ai,ak⟩ _ _ _)) rfl (zds (bS zb gb) (by omega) ?_ gg)
 omega

theorem zgG (b:Bool) (v u:Value) (ln ld:List Nat) (w:World) (hv:Rd w v ln) (hu:Rd w u ld) (h1:ln.length<=15000) (h2:ld.length<=15000) (h0:0<val ld) (h3:val ln=0) :
  Calls Try.prog 18 #[.bool b,v,u] w (zae w (rat b (val ln) (val ld))):=by
 rw [h3,zbr]
 have Z0:=Lib.hid h0
 have Z3:=Lib.hid (show zc (val ln / Nat.gcd (val ln) (val ld))=[] by rw [h3,Nat.zero_div];rfl)
 clear h0 h3
 obtain ⟨a0,n0,c0,rfl,H0,hm0⟩:=hv.open
 obtain ⟨a1,n1,c1,rfl,H1,hm1⟩:=hu.open
 go_enter Try.func18,Try.ntmps18
 go_wp2_with fail
 obtain ⟨W0,aq⟩:∃ W0,w.alloc (.cells #[.bool false,.slice none 0 0,.slice none 0 0] 25)=W0:=⟨_,rfl⟩
 have al:=Lib.hid (show ∀ W',Below W0.heap.size W0 W'->(Bx3 W' w.heap.size (.bool false) (.slice none 0 0) (.slice none 0 0)) from fun W' hb => by
   apply bx3 hb
   all_goals first|assumption|(rw [<- aq];simp [go_sem]))
 have zb:Below w.heap.size w W0:=by rw [<- aq];exact bN _ _
 rw [aq]
 clear aq
 have i0:=hv.to zb
 have i1:=hu.to zb
 have gb:Below W0.heap.size W0 W0:=Below.refl _ _
 obtain ⟨z0,ae,af,ag,ah,ai,ak⟩:=al.out _ gb
 refine (zcF _ _ ln ld _ (i0.to gb) (i1.to gb) (by omega) (by omega) Z0.out).mono ?_
 clear ae ah af ai ag ak
 rintro e w1 ⟨v1,u1,rfl,g1,d1,aT⟩
 obtain ⟨a1_,n1_,c1_,rfl,H1,hm1⟩:=g1.rd.open
 obtain ⟨p1_,m1_,k1_,rfl,J1,jm1⟩:=d1.rd.open
 replace gb:=bS gb aT
 obtain ⟨z0,ae,af,ag,ah,ai,ak⟩:=al.out _ gb
 obtain rfl:n1_=0:=by rw [<- H1.out,Z3.out];rfl
 go_wp2_with fail
 refine (zcb 1 _ (by omega) (by omega)).mono ?_
 clear ae ah af ai ag ak
 rintro e w2 ⟨v2,rfl,g2,aL⟩
 obtain ⟨a2_,n2_,c2_,rfl,H2,hm2⟩:=g2.rd.open
 replace g1:=g1.to aL
 replace d1:=d1.to aL
 replace gb:=bS gb aL
 obtain ⟨z0,ae,af,ag,ah,ai,ak⟩:=al.out _ gb
 go_wp2_with fail
 have gg:=canZ g2 aL.size
 refine bodyPost_ret (zU Try.results18 _ _ _ _ _ _ rfl (Tri.set (x0:=.bool false) (y0:=.slice none 0 0) (z0:=.slice none 0 0) ⟨ae,af,ag,ah,ai,ak⟩ _ _ _)) rfl (zds (bS zb gb) (by omega) ?_ gg)
 omega

theorem zgF (b:Bool) (v u:Value) (ln ld:List Nat) (w:World) (hv:Rd w v ln) (hu:Rd w u ld) (h1:ln.length<=15000) (h2:ld.length<=15000) (h0:0<val ld) (h3:0<val ln) (hs:szq (rat b (val ln) (val ld))<=4097) :
  Calls Try.prog 18 #[.bool b,v,u] w (zae w (rat b (val ln) (val ld))):=by
 have Z0:=Lib.hid h0
 have Z3:=Lib.hid h3
 have Hs:=Lib.hid hs
 have H4:=Lib.hid (Nat.ne_of_gt (zeD h3 h0))
 clear h0 h3 hs
 obtain ⟨a0,n0,c0,rfl,H0,hm0⟩:=hv.open
 obtain ⟨a1,n1,c1,rfl,H1,hm1⟩:=hu.open
 go_enter Try.func18,Try.ntmps18
 go_wp2_with fail
 obtain ⟨W0,aq⟩:∃ W0,w.alloc (.cells #[.bool false,.slice none 0 0,.slice none 0 0] 25)=W0:=⟨_,rfl⟩
 have al:=Lib.hid (show ∀ W',Below W0.heap.size W0 W'->(Bx3 W' w.heap.size (.bool false) (.slice none 0 0) (.slice none 0 0)) from fun W' hb => by
   apply bx3 hb
   all_goals first|assumption|(rw [<- aq];simp [go_sem]))
 have zb:Below w.heap.size w W0:=by rw [<- aq];exact bN _ _
 rw [aq]
 clear aq
 have i0:=hv.to zb
 have i1:=hu.to zb
 have gb:Below W0.heap.size W0 W0:=Below.refl _ _
 obtain ⟨z0,ae,af,ag,ah,ai,ak⟩:=al.out _ gb
 refine (zcF _ _ ln ld _ (i0.to gb) (i1.to gb) (by omega) (by omega) Z0.out).mono ?_
 clear ae ah af ai ag ak
 rintro e w1 ⟨v1,u1,rfl,g1,d1,aT⟩
 obtain ⟨a1_,n1_,c1_,rfl,H1,hm1⟩:=g1.rd.open
 obtain ⟨p1_,m1_,k1_,rfl,J1,jm1⟩:=d1.rd.open
 replace gb:=bS gb aT
 obtain ⟨z0,ae,af,ag,ah,ai,ak⟩:=al.out _ gb
 have hn1:0<n1_:=by rw [<- H1.out];have:=H4.out;rw [ze];exact Nat.pos_of_ne_zero fun e => this (zA.1 e)
 go_wp2_with fail
 have gg:=canR g1 d1 Z0.out Z3.out Hs.out
 refine bodyPost_ret (zU Try.results18 _ _ _ _ _ _ rfl (Tri.set (x0:=.bool false) (y0:=.slice none 0 0) (z0:=.slice none 0 0) ⟨ae,af,ag,ah,ai,ak⟩ _ _ _)) rfl (zds (bS zb gb) (by omega) ?_ gg)
 omega

theorem zO (b:Bool) (v u:Value) (ln ld:List Nat) (w:World) (hv:Rd w v ln) (hu:Rd w u ld) (h1:ln.length<=15000) (h2:ld.length<=15000) (q:Rat) (hq:rat b (val ln) (val ld)=q) (hs:Hid (szq q<=4097)) :
  Calls Try.prog 18 #[.bool b,v,u] w (zae w q):=by
 subst hq
 rcases Nat.eq_zero_or_pos (val ld) with h0|h0
 ·exact zjq b v u ln ld w hv hu h1 h2 h0
 rcases Nat.eq_zero_or_pos (val ln) with h3|h3
 ·exact zgG b v u ln ld w hv hu h1 h2 h0 h3
 ·exact zgF b v u ln ld w hv hu h1 h2 h0 h3 hs.out

theorem zcA {x:Rat} (b:Bool) (v u:Value) (ln ld:List Nat) (w:World) (h:IsQ w b v u ln ld x) (q:Rat) (hq:x=q) (hs:Hid (szq q<=4097)) :
  Calls Try.prog 20 #[aggR b v u] w (zae w q):=by
 have H9:=Lib.hid (show rat b (val ln) (val ld)=q by rw [h.2.2.1,hq])
 obtain ⟨a0,n0,c0,rfl,H0,hm0⟩:=h.1.open
 obtain ⟨a1,n1,c1,rfl,H1,hm1⟩:=h.2.1.open
 clear hq
 go_enter Try.func20,Try.ntmps20
 go_wp2_with fail
 obtain ⟨W0,aq⟩:∃ W0,(w.alloc (.cells #[.bool b,.slice a0 n0 c0,.slice a1 n1 c1] 25)).alloc (.cells #[.bool false,.slice none 0 0,.slice none 0 0] 25)=W0:=⟨_,rfl⟩
 have al:=Lib.hid (show ∀ W',Below W0.heap.size W0 W'->(Bx3 W' w.heap.size (.bool b) (.slice a0 n0 c0) (.slice a1 n1 c1)/\Bx3 W' (w.heap.size+1) (.bool false) (.slice none 0 0) (.slice none 0 0)) from fun W' hb => by
   refine ⟨bx3 hb ?_ ?_ ?_ ?_ ?_ ?_,bx3 hb ?_ ?_ ?_ ?_ ?_ ?_⟩
   all_goals first|assumption|(rw [<- aq];simp [go_sem]))
 have zb:Below w.heap.size w W0:=by rw [<- aq];exact bS (bN _ _) (bN _ _)
 rw [aq]
 clear aq
 have i0:=h.to zb
 have gb:Below W0.heap.size W0 W0:=Below.refl _ _
 obtain ⟨⟨z0,ae,af,ag,ah,ai,ak⟩,⟨z1,aA,aB,aC,aD,aE,aF⟩⟩:=al.out _ gb
 refine (zO b _ _ ln ld _ (i0.to gb).1 (i0.to gb).2.1 (Nat.le_trans h.2.2.2.1 (by omega)) (Nat.le_trans h.2.2.2.2 (by omega)) q H9.out hs).mono ?_
 clear ae ah af ai ag ak aA aD aB aE aC aF
 rintro e w1 ⟨ng1,a1_,n1_,c1_,p1_,m1_,k1_,rfl,g1,aT⟩
 replace gb:=bS gb aT
 obtain ⟨⟨z0,ae,af,ag,ah,ai,ak⟩,⟨z1,aA,aB,aC,aD,aE,aF⟩⟩:=al.out _ gb
 go_wp2_with fail
 refine bodyPost_ret (zU Try.results20 _ _ _ _ _ _ rfl (Tri.set (x0:=.bool false) (y0:=.slice none 0 0) (z0:=.slice none 0 0) ⟨aA,aB,aC,aD,aE,aF⟩ _ _ _)) rfl (zds (bS zb gb) (by omega) ?_ g1)
 omega

theorem zfs {x:Rat} (b:Bool) (v u:Value) (ln ld:List Nat) (w:World) (h:IsQ w b v u ln ld x) (q:Rat) (hq:-x=q) (hs:Hid (szq q<=4097)) :
  Calls Try.prog 56 #[aggR b v u] w (zae w q):=by
 have H9:=Lib.hid (show rat (!b) (val ln) (val ld)=q by rw [rat_not,h.2.2.1,hq])
 obtain ⟨a0,n0,c0,rfl,H0,hm0⟩:=h.1.open
 obtain ⟨a1,n1,c1,rfl,H1,hm1⟩:=h.2.1.open
 clear hq
 go_enter Try.func56,Try.ntmps56
 go_wp2_with fail
 obtain ⟨W0,aq⟩:∃ W0,(w.alloc (.cells #[.bool b,.slice a0 n0 c0,.slice a1 n1 c1] 25)).alloc (.cells #[.bool false,.slice none 0 0,.slice none 0 0] 25)=W0:=⟨_,rfl⟩
 have al:=Lib.hid (show ∀ W',Below W0.heap.size W0 W'->(Bx3 W' w.heap.size (.bool b) (.slice a0 n0 c0) (.slice a1 n1 c1)/\Bx3 W' (w.heap.size+1) (.bool false) (.slice none 0 0) (.slice none 0 0)) from fun W' hb => by
   refine ⟨bx3 hb ?_ ?_ ?_ ?_ ?_ ?_,bx3 hb ?_ ?_ ?_ ?_ ?_ ?_⟩
   all_goals first|assumption|(rw [<- aq];simp [go_sem]))
 have zb:Below w.heap.size w W0:=by rw [<- aq];exact bS (bN _ _) (bN _ _)
 rw [aq]
 clear aq
 have i0:=h.to zb
 have gb:Below W0.heap.size W0 W0:=Below.refl _ _
 obtain ⟨⟨z0,ae,af,ag,ah,ai,ak⟩,⟨z1,aA,aB,aC,aD,aE,aF⟩⟩:=al.out _ gb
 refine (zO (!b) _ _ ln ld _ (i0.to gb).1 (i0.to gb).2.1 (Nat.le_trans h.2.2.2.1 (by omega)) (Nat.le_trans h.2.2.2.2 (by omega)) q H9.out hs).mono ?_
 clear ae ah af ai ag ak aA aD aB aE aC aF
 rintro e w1 ⟨ng1,a1_,n1_,c1_,p1_,m1_,k1_,rfl,g1,aT⟩
 replace gb:=bS gb aT
 obtain ⟨⟨z0,ae,af,ag,ah,ai,ak⟩,⟨z1,aA,aB,aC,aD,aE,aF⟩⟩:=al.out _ gb
 go_wp2_with fail
 refine bodyPost_ret (zU Try.results56 _ _ _ _ _ _ rfl (Tri.set (x0:=.bool false) (y0:=.slice none 0 0) (z0:=.slice none 0 0) ⟨aA,aB,aC,aD,aE,aF⟩ _ _ _)) rfl (zds (bS zb gb) (by omega) ?_ g1)
 omega

theorem zaM {x:Rat} (b:Bool) (v u:Value) (ln ld:List Nat) (w:World) (h:IsQ w b v u ln ld x) :
  Calls Try.prog 79 #[aggR b v u] w (fun e w' => e=.returned (aggI b v)/\Below w.heap.size w w'):=by
 obtain ⟨a0,n0,c0,rfl,H0,hm0⟩:=h.1.open
 obtain ⟨a1,n1,c1,rfl,H1,hm1⟩:=h.2.1.open
 go_enter Try.func79,Try.ntmps79
 go_wp2_with fail
 refine bodyPost_ret (zQ Try.results79 _ _ _ _ _ rfl (by simp [go_sem]) (by simp [go_sem])) rfl ⟨rfl,bS (bN _ _) (bN _ _)⟩

theorem zaN {x:Rat} (b:Bool) (v u:Value) (ln ld:List Nat) (w:World) (h:IsQ w b v u ln ld x) :
  Calls Try.prog 80 #[aggR b v u] w (fun e w' => e=.returned (aggI false u)/\Below w.heap.size w w'):=by
 obtain ⟨a0,n0,c0,rfl,H0,hm0⟩:=h.1.open
 obtain ⟨a1,n1,c1,rfl,H1,hm1⟩:=h.2.1.open
 go_enter Try.func80,Try.ntmps80
 go_wp2_with fail
 refine bodyPost_ret (zQ Try.results80 _ _ _ _ _ rfl (by simp [go_sem]) (by simp [go_sem])) rfl ⟨rfl,bS (bN _ _) (bN _ _)⟩

end Go.Proofs.Ytkjcdnlpjldhaaa

