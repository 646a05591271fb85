/-
  The texts Awake25, DoesAll, Last, JRow, merged.
-/
import Derived.Test.YtkjcdnlpjldhaaaGreatG23
import Derived.Test.YtkjcdnlpjldhaaaGreatG18
import Derived.Test.YtkjcdnlpjldhaaaGreatG24
import Derived.Test.YtkjcdnlpjldhaaaGreatG05
import Derived.Test.YtkjcdnlpjldhaaaGreatG10
import Derived.Deep.RegionHeld3
import Derived.Test.YtkjcdnlpjldhaaaGreatG25
import Derived.Test.YtkjcdnlpjldhaaaGreatG22
import Derived.Test.YtkjcdnlpjldhaaaGreatG15
set_option linter.unusedVariables false
set_option linter.unusedSimpArgs false
set_option maxRecDepth 100000
set_option maxHeartbeats 400000000
namespace Go.Proofs.YtkjcdnlpjldhaaaGreat
open Go.RowKit Tw
attribute [local go_sem ↓] Go.wp_at_zero Go.wp_at_succ

def zab:Cd:=⟨1,1,1,2,[⟨0,0,0,0,⟨false,[],[]⟩⟩,⟨8,1,0,0,⟨false,[],[]⟩⟩,⟨10,0,1,0,⟨false,[],[]⟩⟩]⟩

theorem zdQ:zF zab=true:=by decide +kernel

theorem zdX:zcv zab=2:=by decide +kernel

theorem cAwake_o:runO zab [3] 1=0:=by decide +kernel

theorem zjx:jAll zab [3] 0=[9]:=by decide +kernel

theorem zds:jK zab [3] 0=3/\jT zab [3] 0=1/\jRows zab 0=1/\jCols zab 0=1:=by decide +kernel

theorem zjr:zbv 1000 [3] St.zero zab.all:=zgQ (c:=zab) (p:=[3]) (by decide +kernel) (by decide +kernel) zdQ (by rw [zdX];decide)

theorem zcP:zW 1000 zab.all:=by
 intro x hx
 simp only [zab,List.mem_cons,List.not_mem_nil,or_false] at hx
 rcases hx with rfl|rfl|rfl <;> exact ⟨by decide,by decide⟩

theorem zkb:∀ x ∈ zab.all,I64 x.op/\I64 x.to/\I64 x.a/\I64 x.b:=by
 intro x hx
 simp only [zab,List.mem_cons,List.not_mem_nil,or_false] at hx
 rcases hx with rfl|rfl|rfl <;> (unfold I64;decide)

theorem zkD (v u:Value) (w:World) (hc:IsC w zab v) (hx:RdR w u [zB ((3:Int):Rat)]) :
  Calls Tryz.prog 19 #[.agg #[.int .i64 1,.int .i64 1,.int .i64 1,.int .i64 2,v],u] w (RunJ w 1 1 [9] 3 1 0):=by
 have hm:[zB ((3:Int):Rat)].map Rt.num=[3]:=by simp only [List.map_cons,List.map_nil,zkM];rfl
 have:=zkz zab v u [zB ((3:Int):Rat)] w hc zcP hx (fun _ _ => ⟨by
  intro x hx
  rw [List.mem_singleton.1 hx]
  decide +kernel,by rw [hm];exact zjr⟩) 0 (by rw [hm];exact cAwake_o)
 unfold zeP at this
 rw [hm,zjx,zds.1,zds.2.1,zds.2.2.1,zds.2.2.2] at this
 exact this

theorem ziO (v:Value) (w:World) (hc:IsC w zab v) :
  Calls Tryz.prog 14 #[.agg #[.int .i64 1,.int .i64 1,.int .i64 1,.int .i64 2,v]] w (fun e w' => e=.returned (.bool true)/\Below w.heap.size w w') :=
 zcA zab v w hc zcP true zdQ

theorem zjd (v:Value) (w:World) (hc:IsC w zab v) :
  Calls Tryz.prog 16 #[.agg #[.int .i64 1,.int .i64 1,.int .i64 1,.int .i64 2,v]] w (fun e w' => e=.returned (.int .i64 2)/\Below w.heap.size w w') :=
 vm_heavy zab v w hc zcP 2 zdX

abbrev zex (op to a b:Int):List Value:=[.int .i64 op,.int .i64 to,.int .i64 a,.int .i64 b,.bool false,.slice none 0 0,.slice none 0 0]

theorem lit_code {w:World} {t:TypeId} {fr:Nat × Nat} {B:Nat} (h:w.heap[B]?=some (.cells (zex 0 0 0 0++zex 8 1 0 0++zex 10 0 1 0).toArray t fr)):RdC w (.slice (some ⟨B,0,none⟩) 3 3) zab.all:=by
 have hc:∀ o,w.cell? ⟨B,o,none⟩=(zex 0 0 0 0++zex 8 1 0 0++zex 10 0 1 0).toArray[o]?:=fun o => cell_of_row w B o _ t fr h
 refine ⟨_,3,rfl,Nat.le_refl _,by decide,fun i hi => ⟨B,0,rfl,?_⟩⟩
 have i64:=zkb _ (List.getElem_mem hi)
 have hi':i<3:=hi
 have hi3:i=0\/i=1\/i=2:=by omega
 rcases hi3 with rfl|rfl|rfl
 all_goals exact ⟨hc _,hc _,hc _,hc _,⟨.slice none 0 0,.slice none 0 0,hc _,hc _,hc _,Rd.nil _,Rd.nil _⟩,i64⟩

theorem zdM  (w:World)  :
  Calls Tryz.prog 12 #[] w (Holds w):=by
 go_enter Tryz.func12,Tryz.ntmps12
 go_wp2_with fail
 obtain ⟨W0,az⟩:∃ W0,w=W0:=⟨_,rfl⟩
 have zb:Below w.heap.size w W0:=by rw [<- az];exact Below.refl _ _
 subst az
 
 have gb:Below w.heap.size w w:=Below.refl _ _
 
 obtain ⟨W00,gA⟩:∃ W00,w.alloc (.cells #[.int .i64 0,.int .i64 0,.int .i64 0,.int .i64 0,.bool false,.slice none 0 0,.slice none 0 0,.int .i64 8,.int .i64 1,.int .i64 0,.int .i64 0,.bool false,.slice none 0 0,.slice none 0 0,.int .i64 10,.int .i64 0,.int .i64 1,.int .i64 0,.bool false,.slice none 0 0,.slice none 0 0] 49)=W00:=⟨_,rfl⟩
 have hc00:RdC W00 (.slice (some ⟨w.heap.size,0,none⟩) 3 3) zab.all:=lit_code (t:=49) (fr:=(0,0)) (by rw [<- gA];exact heap_alloc_new _ _)
 have g0:IsC W00 zab (.slice (some ⟨w.heap.size,0,none⟩) 3 3):=⟨hc00,by unfold I64 zab;decide,by unfold I64 zab;decide,by unfold I64 zab;decide,by unfold I64 zab;decide⟩
 have kh:Below w.heap.size w W00:=by rw [<- gA];exact bN _ _
 obtain ⟨B0,hB0⟩:∃ B0,w.heap.size=B0:=⟨_,rfl⟩
 have HB0:=Lib.hid hB0
 rw [hB0] at g0
 have gb:=kh
 have dv:w.heap.size+1=W00.heap.size:=by rw [<- gA];simp
 rw [gA,dv,hB0]
 clear gA hc00 kh hB0 dv
 obtain ⟨W1,aO⟩:∃ W1,W00.alloc (.cells #[.int .i64 1,.int .i64 1,.int .i64 1,.int .i64 2,.slice (some ⟨B0,0,none⟩) 3 3] 24)=W1:=⟨_,rfl⟩
 have hb_W1:Below W00.heap.size W00 W1:=by rw [<- aO];exact bN _ _
 have cu:Hid (W1.heap.size=W00.heap.size+1):=by show _=_;rw [<- aO];simp
 replace g0:=g0.to hb_W1
 replace gb:=bS gb hb_W1
 have ak:W1.cell? ⟨W00.heap.size,0,none⟩=some (.int .i64 1):=by rw [<- aO];simp [go_sem]
 have ap:W1.frozen? ⟨W00.heap.size,0,none⟩=false:=by rw [<- aO];simp [go_sem]
 have al:W1.cell? ⟨W00.heap.size,1,none⟩=some (.int .i64 1):=by rw [<- aO];simp [go_sem]
 have aq:W1.frozen? ⟨W00.heap.size,1,none⟩=false:=by rw [<- aO];simp [go_sem]
 have au:W1.cell? ⟨W00.heap.size,2,none⟩=some (.int .i64 1):=by rw [<- aO];simp [go_sem]
 have aA:W1.frozen? ⟨W00.heap.size,2,none⟩=false:=by rw [<- aO];simp [go_sem]
 have aR:W1.cell? ⟨W00.heap.size,3,none⟩=some (.int .i64 2):=by rw [<- aO];simp [go_sem]
 have aT:W1.frozen? ⟨W00.heap.size,3,none⟩=false:=by rw [<- aO];simp [go_sem]
 have aS:W1.cell? ⟨W00.heap.size,4,none⟩=some (.slice (some ⟨B0,0,none⟩) 3 3):=by rw [<- aO];simp [go_sem]
 have aU:W1.frozen? ⟨W00.heap.size,4,none⟩=false:=by rw [<- aO];simp [go_sem]
 have z1:W00.heap.size<W1.heap.size:=by rw [<- aO];simp
 rw [aO]
 clear aO
 replace zb:=bS zb gb
 have bU:=Lib.hid (show ∀ W',Below W1.heap.size W1 W'->(W'.cell? ⟨W00.heap.size,0,none⟩=some (.int .i64 1)/\W'.cell? ⟨W00.heap.size,1,none⟩=some (.int .i64 1)/\W'.cell? ⟨W00.heap.size,2,none⟩=some (.int .i64 1)/\W'.cell? ⟨W00.heap.size,3,none⟩=some (.int .i64 2)/\W'.cell? ⟨W00.heap.size,4,none⟩=some (.slice (some ⟨B0,0,none⟩) 3 3)) from fun W' hb =>
  by and_intros <;> exact kc hb (by first|assumption|assumption))
 have lv:=Lib.hid (show ∀ W',Below W1.heap.size W1 W'->(W'.frozen? ⟨W00.heap.size,0,none⟩=false/\W'.frozen? ⟨W00.heap.size,1,none⟩=false/\W'.frozen? ⟨W00.heap.size,2,none⟩=false/\W'.frozen? ⟨W00.heap.size,3,none⟩=false/\W'.frozen? ⟨W00.heap.size,4,none⟩=false) from fun W' hb =>
  by and_intros <;> refine (hb.frozen ?_).trans ?_ <;> first|assumption|assumption)
 have lw:=Lib.hid (show ∀ W',Below W1.heap.size W1 W'->(W00.heap.size<W'.heap.size) from fun W' hb =>
  Nat.lt_of_lt_of_le z1 hb.size)
 replace gb:=Below.refl W1.heap.size W1
 have hgb:=gb
 go_upto_region 2 with fail
 go_cut [2,3,4] from 10 (fun s2 s3 s4 wx => JK W1 (1) (1) ([9]) (3) (1) s2 s3 wx/\s4=.int .i64 (0))
 case first =>
  go_region_held3 (fun W' => W'.cell? ⟨W00.heap.size,0,none⟩=some (.int .i64 1)/\W'.cell? ⟨W00.heap.size,1,none⟩=some (.int .i64 1)/\W'.cell? ⟨W00.heap.size,2,none⟩=some (.int .i64 1)/\W'.cell? ⟨W00.heap.size,3,none⟩=some (.int .i64 2)/\W'.cell? ⟨W00.heap.size,4,none⟩=some (.slice (some ⟨B0,0,none⟩) 3 3)) (first|(with_reducible exact bU.out _ gb)|((with_reducible refine bU.out _ ?_);first|((with_reducible refine Below.drew ?_);first|(with_reducible exact gb)|((with_reducible refine bT ?_ ?_ _ _ _);rotate_left;omega;first|(with_reducible exact gb)|((with_reducible refine bT ?_ ?_ _ _ _);rotate_left;omega;first|(with_reducible exact gb)|((with_reducible refine bT ?_ ?_ _ _ _);rotate_left;omega;with_reducible exact gb)|((with_reducible refine bD ?_ ?_ _ _);rotate_left;omega;with_reducible exact gb)|((with_reducible refine bS ?_ (bN _ _));with_reducible exact gb))|((with_reducible refine bD ?_ ?_ _ _);rotate_left;omega;first|(with_reducible exact gb)|((with_reducible refine bT ?_ ?_ _ _ _);rotate_left;omega;with_reducible exact gb)|((with_reducible refine bD ?_ ?_ _ _);rotate_left;omega;with_reducible exact gb)|((with_reducible refine bS ?_ (bN _ _));with_reducible exact gb))|((with_reducible refine bS ?_ (bN _ _));first|(with_reducible exact gb)|((with_reducible refine bT ?_ ?_ _ _ _);rotate_left;omega;with_reducible exact gb)|((with_reducible refine bD ?_ ?_ _ _);rotate_left;omega;with_reducible exact gb)|((with_reducible refine bS ?_ (bN _ _));with_reducible exact gb)))|((with_reducible refine bD ?_ ?_ _ _);rotate_left;omega;first|(with_reducible exact gb)|((with_reducible refine bT ?_ ?_ _ _ _);rotate_left;omega;first|(with_reducible exact gb)|((with_reducible refine bT ?_ ?_ _ _ _);rotate_left;omega;with_reducible exact gb)|((with_reducible refine bD ?_ ?_ _ _);rotate_left;omega;with_reducible exact gb)|((with_reducible refine bS ?_ (bN _ _));with_reducible exact gb))|((with_reducible refine bD ?_ ?_ _ _);rotate_left;omega;first|(with_reducible exact gb)|((with_reducible refine bT ?_ ?_ _ _ _);rotate_left;omega;with_reducible exact gb)|((with_reducible refine bD ?_ ?_ _ _);rotate_left;omega;with_reducible exact gb)|((with_reducible refine bS ?_ (bN _ _));with_reducible exact gb))|((with_reducible refine bS ?_ (bN _ _));first|(with_reducible exact gb)|((with_reducible refine bT ?_ ?_ _ _ _);rotate_left;omega;with_reducible exact gb)|((with_reducible refine bD ?_ ?_ _ _);rotate_left;omega;with_reducible exact gb)|((with_reducible refine bS ?_ (bN _ _));with_reducible exact gb)))|((with_reducible refine bS ?_ (bN _ _));first|(with_reducible exact gb)|((with_reducible refine bT ?_ ?_ _ _ _);rotate_left;omega;first|(with_reducible exact gb)|((with_reducible refine bT ?_ ?_ _ _ _);rotate_left;omega;with_reducible exact gb)|((with_reducible refine bD ?_ ?_ _ _);rotate_left;omega;with_reducible exact gb)|((with_reducible refine bS ?_ (bN _ _));with_reducible exact gb))|((with_reducible refine bD ?_ ?_ _ _);rotate_left;omega;first|(with_reducible exact gb)|((with_reducible refine bT ?_ ?_ _ _ _);rotate_left;omega;with_reducible exact gb)|((with_reducible refine bD ?_ ?_ _ _);rotate_left;omega;with_reducible exact gb)|((with_reducible refine bS ?_ (bN _ _));with_reducible exact gb))|((with_reducible refine bS ?_ (bN _ _));first|(with_reducible exact gb)|((with_reducible refine bT ?_ ?_ _ _ _);rotate_left;omega;with_reducible exact gb)|((with_reducible refine bD ?_ ?_ _ _);rotate_left;omega;with_reducible exact gb)|((with_reducible refine bS ?_ (bN _ _));with_reducible exact gb))))|(first|(with_reducible exact gb)|((with_reducible refine bT ?_ ?_ _ _ _);rotate_left;omega;first|(with_reducible exact gb)|((with_reducible refine bT ?_ ?_ _ _ _);rotate_left;omega;first|(with_reducible exact gb)|((with_reducible refine bT ?_ ?_ _ _ _);rotate_left;omega;first|(with_reducible exact gb)|((with_reducible refine bT ?_ ?_ _ _ _);rotate_left;omega;first|(with_reducible exact gb)|((with_reducible refine bT ?_ ?_ _ _ _);rotate_left;omega;with_reducible exact gb)|((with_reducible refine bD ?_ ?_ _ _);rotate_left;omega;with_reducible exact gb)|((with_reducible refine bS ?_ (bN _ _));with_reducible exact gb))|((with_reducible refine bD ?_ ?_ _ _);rotate_left;omega;first|(with_reducible exact gb)|((with_reducible refine bT ?_ ?_ _ _ _);rotate_left;omega;with_reducible exact gb)|((with_reducible refine bD ?_ ?_ _ _);rotate_left;omega;with_reducible exact gb)|((with_reducible refine bS ?_ (bN _ _));with_reducible exact gb))|((with_reducible refine bS ?_ (bN _ _));first|(with_reducible exact gb)|((with_reducible refine bT ?_ ?_ _ _ _);rotate_left;omega;with_reducible exact gb)|((with_reducible refine bD ?_ ?_ _ _);rotate_left;omega;with_reducible exact gb)|((with_reducible refine bS ?_ (bN _ _));with_reducible exact gb)))|((with_reducible refine bD ?_ ?_ _ _);rotate_left;omega;first|(with_reducible exact gb)|((with_reducible refine bT ?_ ?_ _ _ _);rotate_left;omega;first|(with_reducible exact gb)|((with_reducible refine bT ?_ ?_ _ _ _);rotate_left;omega;with_reducible exact gb)|((with_reducible refine bD ?_ ?_ _ _);rotate_left;omega;with_reducible exact gb)|((with_reducible refine bS ?_ (bN _ _));with_reducible exact gb))|((with_reducible refine bD ?_ ?_ _ _);rotate_left;omega;first|(with_reducible exact gb)|((with_reducible refine bT ?_ ?_ _ _ _);rotate_left;omega;with_reducible exact gb)|((with_reducible refine bD ?_ ?_ _ _);rotate_left;omega;with_reducible exact gb)|((with_reducible refine bS ?_ (bN _ _));with_reducible exact gb))|((with_reducible refine bS ?_ (bN _ _));first|(with_reducible exact gb)|((with_reducible refine bT ?_ ?_ _ _ _);rotate_left;omega;with_reducible exact gb)|((with_reducible refine bD ?_ ?_ _ _);rotate_left;omega;with_reducible exact gb)|((with_reducible refine bS ?_ (bN _ _));with_reducible exact gb)))|((with_reducible refine bS ?_ (bN _ _));first|(with_reducible exact gb)|((with_reducible refine bT ?_ ?_ _ _ _);rotate_left;omega;first|(with_reducible exact gb)|((with_reducible refine bT ?_ ?_ _ _ _);rotate_left;omega;with_reducible exact gb)|((with_reducible refine bD ?_ ?_ _ _);rotate_left;omega;with_reducible exact gb)|((with_reducible refine bS ?_ (bN _ _));with_reducible exact gb))|((with_reducible refine bD ?_ ?_ _ _);rotate_left;omega;first|(with_reducible exact gb)|((with_reducible refine bT ?_ ?_ _ _ _);rotate_left;omega;with_reducible exact gb)|((with_reducible refine bD ?_ ?_ _ _);rotate_left;omega;with_reducible exact gb)|((with_reducible refine bS ?_ (bN _ _));with_reducible exact gb))|((with_reducible refine bS ?_ (bN _ _));first|(with_reducible exact gb)|((with_reducible refine bT ?_ ?_ _ _ _);rotate_left;omega;with_reducible exact gb)|((with_reducible refine bD ?_ ?_ _ _);rotate_left;omega;with_reducible exact gb)|((with_reducible refine bS ?_ (bN _ _));with_reducible exact gb))))|((with_reducible refine bD ?_ ?_ _ _);rotate_left;omega;first|(with_reducible exact gb)|((with_reducible refine bT ?_ ?_ _ _ _);rotate_left;omega;first|(with_reducible exact gb)|((with_reducible refine bT ?_ ?_ _ _ _);rotate_left;omega;first|(with_reducible exact gb)|((with_reducible refine bT ?_ ?_ _ _ _);rotate_left;omega;with_reducible exact gb)|((with_reducible refine bD ?_ ?_ _ _);rotate_left;omega;with_reducible exact gb)|((with_reducible refine bS ?_ (bN _ _));with_reducible exact gb))|((with_reducible refine bD ?_ ?_ _ _);rotate_left;omega;first|(with_reducible exact gb)|((with_reducible refine bT ?_ ?_ _ _ _);rotate_left;omega;with_reducible exact gb)|((with_reducible refine bD ?_ ?_ _ _);rotate_left;omega;with_reducible exact gb)|((with_reducible refine bS ?_ (bN _ _));with_reducible exact gb))|((with_reducible refine bS ?_ (bN _ _));first|(with_reducible exact gb)|((with_reducible refine bT ?_ ?_ _ _ _);rotate_left;omega;with_reducible exact gb)|((with_reducible refine bD ?_ ?_ _ _);rotate_left;omega;with_reducible exact gb)|((with_reducible refine bS ?_ (bN _ _));with_reducible exact gb)))|((with_reducible refine bD ?_ ?_ _ _);rotate_left;omega;first|(with_reducible exact gb)|((with_reducible refine bT ?_ ?_ _ _ _);rotate_left;omega;first|(with_reducible exact gb)|((with_reducible refine bT ?_ ?_ _ _ _);rotate_left;omega;with_reducible exact gb)|((with_reducible refine bD ?_ ?_ _ _);rotate_left;omega;with_reducible exact gb)|((with_reducible refine bS ?_ (bN _ _));with_reducible exact gb))|((with_reducible refine bD ?_ ?_ _ _);rotate_left;omega;first|(with_reducible exact gb)|((with_reducible refine bT ?_ ?_ _ _ _);rotate_left;omega;with_reducible exact gb)|((with_reducible refine bD ?_ ?_ _ _);rotate_left;omega;with_reducible exact gb)|((with_reducible refine bS ?_ (bN _ _));with_reducible exact gb))|((with_reducible refine bS ?_ (bN _ _));first|(with_reducible exact gb)|((with_reducible refine bT ?_ ?_ _ _ _);rotate_left;omega;with_reducible exact gb)|((with_reducible refine bD ?_ ?_ _ _);rotate_left;omega;with_reducible exact gb)|((with_reducible refine bS ?_ (bN _ _));with_reducible exact gb)))|((with_reducible refine bS ?_ (bN _ _));first|(with_reducible exact gb)|((with_reducible refine bT ?_ ?_ _ _ _);rotate_left;omega;first|(with_reducible exact gb)|((with_reducible refine bT ?_ ?_ _ _ _);rotate_left;omega;with_reducible exact gb)|((with_reducible refine bD ?_ ?_ _ _);rotate_left;omega;with_reducible exact gb)|((with_reducible refine bS ?_ (bN _ _));with_reducible exact gb))|((with_reducible refine bD ?_ ?_ _ _);rotate_left;omega;first|(with_reducible exact gb)|((with_reducible refine bT ?_ ?_ _ _ _);rotate_left;omega;with_reducible exact gb)|((with_reducible refine bD ?_ ?_ _ _);rotate_left;omega;with_reducible exact gb)|((with_reducible refine bS ?_ (bN _ _));with_reducible exact gb))|((with_reducible refine bS ?_ (bN _ _));first|(with_reducible exact gb)|((with_reducible refine bT ?_ ?_ _ _ _);rotate_left;omega;with_reducible exact gb)|((with_reducible refine bD ?_ ?_ _ _);rotate_left;omega;with_reducible exact gb)|((with_reducible refine bS ?_ (bN _ _));with_reducible exact gb))))|((with_reducible refine bS ?_ (bN _ _));first|(with_reducible exact gb)|((with_reducible refine bT ?_ ?_ _ _ _);rotate_left;omega;first|(with_reducible exact gb)|((with_reducible refine bT ?_ ?_ _ _ _);rotate_left;omega;first|(with_reducible exact gb)|((with_reducible refine bT ?_ ?_ _ _ _);rotate_left;omega;with_reducible exact gb)|((with_reducible refine bD ?_ ?_ _ _);rotate_left;omega;with_reducible exact gb)|((with_reducible refine bS ?_ (bN _ _));with_reducible exact gb))|((with_reducible refine bD ?_ ?_ _ _);rotate_left;omega;first|(with_reducible exact gb)|((with_reducible refine bT ?_ ?_ _ _ _);rotate_left;omega;with_reducible exact gb)|((with_reducible refine bD ?_ ?_ _ _);rotate_left;omega;with_reducible exact gb)|((with_reducible refine bS ?_ (bN _ _));with_reducible exact gb))|((with_reducible refine bS ?_ (bN _ _));first|(with_reducible exact gb)|((with_reducible refine bT ?_ ?_ _ _ _);rotate_left;omega;with_reducible exact gb)|((with_reducible refine bD ?_ ?_ _ _);rotate_left;omega;with_reducible exact gb)|((with_reducible refine bS ?_ (bN _ _));with_reducible exact gb)))|((with_reducible refine bD ?_ ?_ _ _);rotate_left;omega;first|(with_reducible exact gb)|((with_reducible refine bT ?_ ?_ _ _ _);rotate_left;omega;first|(with_reducible exact gb)|((with_reducible refine bT ?_ ?_ _ _ _);rotate_left;omega;with_reducible exact gb)|((with_reducible refine bD ?_ ?_ _ _);rotate_left;omega;with_reducible exact gb)|((with_reducible refine bS ?_ (bN _ _));with_reducible exact gb))|((with_reducible refine bD ?_ ?_ _ _);rotate_left;omega;first|(with_reducible exact gb)|((with_reducible refine bT ?_ ?_ _ _ _);rotate_left;omega;with_reducible exact gb)|((with_reducible refine bD ?_ ?_ _ _);rotate_left;omega;with_reducible exact gb)|((with_reducible refine bS ?_ (bN _ _));with_reducible exact gb))|((with_reducible refine bS ?_ (bN _ _));first|(with_reducible exact gb)|((with_reducible refine bT ?_ ?_ _ _ _);rotate_left;omega;with_reducible exact gb)|((with_reducible refine bD ?_ ?_ _ _);rotate_left;omega;with_reducible exact gb)|((with_reducible refine bS ?_ (bN _ _));with_reducible exact gb)))|((with_reducible refine bS ?_ (bN _ _));first|(with_reducible exact gb)|((with_reducible refine bT ?_ ?_ _ _ _);rotate_left;omega;first|(with_reducible exact gb)|((with_reducible refine bT ?_ ?_ _ _ _);rotate_left;omega;with_reducible exact gb)|((with_reducible refine bD ?_ ?_ _ _);rotate_left;omega;with_reducible exact gb)|((with_reducible refine bS ?_ (bN _ _));with_reducible exact gb))|((with_reducible refine bD ?_ ?_ _ _);rotate_left;omega;first|(with_reducible exact gb)|((with_reducible refine bT ?_ ?_ _ _ _);rotate_left;omega;with_reducible exact gb)|((with_reducible refine bD ?_ ?_ _ _);rotate_left;omega;with_reducible exact gb)|((with_reducible refine bS ?_ (bN _ _));with_reducible exact gb))|((with_reducible refine bS ?_ (bN _ _));first|(with_reducible exact gb)|((with_reducible refine bT ?_ ?_ _ _ _);rotate_left;omega;with_reducible exact gb)|((with_reducible refine bD ?_ ?_ _ _);rotate_left;omega;with_reducible exact gb)|((with_reducible refine bS ?_ (bN _ _));with_reducible exact gb)))))|((with_reducible refine bD ?_ ?_ _ _);rotate_left;omega;first|(with_reducible exact gb)|((with_reducible refine bT ?_ ?_ _ _ _);rotate_left;omega;first|(with_reducible exact gb)|((with_reducible refine bT ?_ ?_ _ _ _);rotate_left;omega;first|(with_reducible exact gb)|((with_reducible refine bT ?_ ?_ _ _ _);rotate_left;omega;first|(with_reducible exact gb)|((with_reducible refine bT ?_ ?_ _ _ _);rotate_left;omega;with_reducible exact gb)|((with_reducible refine bD ?_ ?_ _ _);rotate_left;omega;with_reducible exact gb)|((with_reducible refine bS ?_ (bN _ _));with_reducible exact gb))|((with_reducible refine bD ?_ ?_ _ _);rotate_left;omega;first|(with_reducible exact gb)|((with_reducible refine bT ?_ ?_ _ _ _);rotate_left;omega;with_reducible exact gb)|((with_reducible refine bD ?_ ?_ _ _);rotate_left;omega;with_reducible exact gb)|((with_reducible refine bS ?_ (bN _ _));with_reducible exact gb))|((with_reducible refine bS ?_ (bN _ _));first|(with_reducible exact gb)|((with_reducible refine bT ?_ ?_ _ _ _);rotate_left;omega;with_reducible exact gb)|((with_reducible refine bD ?_ ?_ _ _);rotate_left;omega;with_reducible exact gb)|((with_reducible refine bS ?_ (bN _ _));with_reducible exact gb)))|((with_reducible refine bD ?_ ?_ _ _);rotate_left;omega;first|(with_reducible exact gb)|((with_reducible refine bT ?_ ?_ _ _ _);rotate_left;omega;first|(with_reducible exact gb)|((with_reducible refine bT ?_ ?_ _ _ _);rotate_left;omega;with_reducible exact gb)|((with_reducible refine bD ?_ ?_ _ _);rotate_left;omega;with_reducible exact gb)|((with_reducible refine bS ?_ (bN _ _));with_reducible exact gb))|((with_reducible refine bD ?_ ?_ _ _);rotate_left;omega;first|(with_reducible exact gb)|((with_reducible refine bT ?_ ?_ _ _ _);rotate_left;omega;with_reducible exact gb)|((with_reducible refine bD ?_ ?_ _ _);rotate_left;omega;with_reducible exact gb)|((with_reducible refine bS ?_ (bN _ _));with_reducible exact gb))|((with_reducible refine bS ?_ (bN _ _));first|(with_reducible exact gb)|((with_reducible refine bT ?_ ?_ _ _ _);rotate_left;omega;with_reducible exact gb)|((with_reducible refine bD ?_ ?_ _ _);rotate_left;omega;with_reducible exact gb)|((with_reducible refine bS ?_ (bN _ _));with_reducible exact gb)))|((with_reducible refine bS ?_ (bN _ _));first|(with_reducible exact gb)|((with_reducible refine bT ?_ ?_ _ _ _);rotate_left;omega;first|(with_reducible exact gb)|((with_reducible refine bT ?_ ?_ _ _ _);rotate_left;omega;with_reducible exact gb)|((with_reducible refine bD ?_ ?_ _ _);rotate_left;omega;with_reducible exact gb)|((with_reducible refine bS ?_ (bN _ _));with_reducible exact gb))|((with_reducible refine bD ?_ ?_ _ _);rotate_left;omega;first|(with_reducible exact gb)|((with_reducible refine bT ?_ ?_ _ _ _);rotate_left;omega;with_reducible exact gb)|((with_reducible refine bD ?_ ?_ _ _);rotate_left;omega;with_reducible exact gb)|((with_reducible refine bS ?_ (bN _ _));with_reducible exact gb))|((with_reducible refine bS ?_ (bN _ _));first|(with_reducible exact gb)|((with_reducible refine bT ?_ ?_ _ _ _);rotate_left;omega;with_reducible exact gb)|((with_reducible refine bD ?_ ?_ _ _);rotate_left;omega;with_reducible exact gb)|((with_reducible refine bS ?_ (bN _ _));with_reducible exact gb))))|((with_reducible refine bD ?_ ?_ _ _);rotate_left;omega;first|(with_reducible exact gb)|((with_reducible refine bT ?_ ?_ _ _ _);rotate_left;omega;first|(with_reducible exact gb)|((with_reducible refine bT ?_ ?_ _ _ _);rotate_left;omega;first|(with_reducible exact gb)|((with_reducible refine bT ?_ ?_ _ _ _);rotate_left;omega;with_reducible exact gb)|((with_reducible refine bD ?_ ?_ _ _);rotate_left;omega;with_reducible exact gb)|((with_reducible refine bS ?_ (bN _ _));with_reducible exact gb))|((with_reducible refine bD ?_ ?_ _ _);rotate_left;omega;first|(with_reducible exact gb)|((with_reducible refine bT ?_ ?_ _ _ _);rotate_left;omega;with_reducible exact gb)|((with_reducible refine bD ?_ ?_ _ _);rotate_left;omega;with_reducible exact gb)|((with_reducible refine bS ?_ (bN _ _));with_reducible exact gb))|((with_reducible refine bS ?_ (bN _ _));first|(with_reducible exact gb)|((with_reducible refine bT ?_ ?_ _ _ _);rotate_left;omega;with_reducible exact gb)|((with_reducible refine bD ?_ ?_ _ _);rotate_left;omega;with_reducible exact gb)|((with_reducible refine bS ?_ (bN _ _));with_reducible exact gb)))|((with_reducible refine bD ?_ ?_ _ _);rotate_left;omega;first|(with_reducible exact gb)|((with_reducible refine bT ?_ ?_ _ _ _);rotate_left;omega;first|(with_reducible exact gb)|((with_reducible refine bT ?_ ?_ _ _ _);rotate_left;omega;with_reducible exact gb)|((with_reducible refine bD ?_ ?_ _ _);rotate_left;omega;with_reducible exact gb)|((with_reducible refine bS ?_ (bN _ _));with_reducible exact gb))|((with_reducible refine bD ?_ ?_ _ _);rotate_left;omega;first|(with_reducible exact gb)|((with_reducible refine bT ?_ ?_ _ _ _);rotate_left;omega;with_reducible exact gb)|((with_reducible refine bD ?_ ?_ _ _);rotate_left;omega;with_reducible exact gb)|((with_reducible refine bS ?_ (bN _ _));with_reducible exact gb))|((with_reducible refine bS ?_ (bN _ _));first|(with_reducible exact gb)|((with_reducible refine bT ?_ ?_ _ _ _);rotate_left;omega;with_reducible exact gb)|((with_reducible refine bD ?_ ?_ _ _);rotate_left;omega;with_reducible exact gb)|((with_reducible refine bS ?_ (bN _ _));with_reducible exact gb)))|((with_reducible refine bS ?_ (bN _ _));first|(with_reducible exact gb)|((with_reducible refine bT ?_ ?_ _ _ _);rotate_left;omega;first|(with_reducible exact gb)|((with_reducible refine bT ?_ ?_ _ _ _);rotate_left;omega;with_reducible exact gb)|((with_reducible refine bD ?_ ?_ _ _);rotate_left;omega;with_reducible exact gb)|((with_reducible refine bS ?_ (bN _ _));with_reducible exact gb))|((with_reducible refine bD ?_ ?_ _ _);rotate_left;omega;first|(with_reducible exact gb)|((with_reducible refine bT ?_ ?_ _ _ _);rotate_left;omega;with_reducible exact gb)|((with_reducible refine bD ?_ ?_ _ _);rotate_left;omega;with_reducible exact gb)|((with_reducible refine bS ?_ (bN _ _));with_reducible exact gb))|((with_reducible refine bS ?_ (bN _ _));first|(with_reducible exact gb)|((with_reducible refine bT ?_ ?_ _ _ _);rotate_left;omega;with_reducible exact gb)|((with_reducible refine bD ?_ ?_ _ _);rotate_left;omega;with_reducible exact gb)|((with_reducible refine bS ?_ (bN _ _));with_reducible exact gb))))|((with_reducible refine bS ?_ (bN _ _));first|(with_reducible exact gb)|((with_reducible refine bT ?_ ?_ _ _ _);rotate_left;omega;first|(with_reducible exact gb)|((with_reducible refine bT ?_ ?_ _ _ _);rotate_left;omega;first|(with_reducible exact gb)|((with_reducible refine bT ?_ ?_ _ _ _);rotate_left;omega;with_reducible exact gb)|((with_reducible refine bD ?_ ?_ _ _);rotate_left;omega;with_reducible exact gb)|((with_reducible refine bS ?_ (bN _ _));with_reducible exact gb))|((with_reducible refine bD ?_ ?_ _ _);rotate_left;omega;first|(with_reducible exact gb)|((with_reducible refine bT ?_ ?_ _ _ _);rotate_left;omega;with_reducible exact gb)|((with_reducible refine bD ?_ ?_ _ _);rotate_left;omega;with_reducible exact gb)|((with_reducible refine bS ?_ (bN _ _));with_reducible exact gb))|((with_reducible refine bS ?_ (bN _ _));first|(with_reducible exact gb)|((with_reducible refine bT ?_ ?_ _ _ _);rotate_left;omega;with_reducible exact gb)|((with_reducible refine bD ?_ ?_ _ _);rotate_left;omega;with_reducible exact gb)|((with_reducible refine bS ?_ (bN _ _));with_reducible exact gb)))|((with_reducible refine bD ?_ ?_ _ _);rotate_left;omega;first|(with_reducible exact gb)|((with_reducible refine bT ?_ ?_ _ _ _);rotate_left;omega;first|(with_reducible exact gb)|((with_reducible refine bT ?_ ?_ _ _ _);rotate_left;omega;with_reducible exact gb)|((with_reducible refine bD ?_ ?_ _ _);rotate_left;omega;with_reducible exact gb)|((with_reducible refine bS ?_ (bN _ _));with_reducible exact gb))|((with_reducible refine bD ?_ ?_ _ _);rotate_left;omega;first|(with_reducible exact gb)|((with_reducible refine bT ?_ ?_ _ _ _);rotate_left;omega;with_reducible exact gb)|((with_reducible refine bD ?_ ?_ _ _);rotate_left;omega;with_reducible exact gb)|((with_reducible refine bS ?_ (bN _ _));with_reducible exact gb))|((with_reducible refine bS ?_ (bN _ _));first|(with_reducible exact gb)|((with_reducible refine bT ?_ ?_ _ _ _);rotate_left;omega;with_reducible exact gb)|((with_reducible refine bD ?_ ?_ _ _);rotate_left;omega;with_reducible exact gb)|((with_reducible refine bS ?_ (bN _ _));with_reducible exact gb)))|((with_reducible refine bS ?_ (bN _ _));first|(with_reducible exact gb)|((with_reducible refine bT ?_ ?_ _ _ _);rotate_left;omega;first|(with_reducible exact gb)|((with_reducible refine bT ?_ ?_ _ _ _);rotate_left;omega;with_reducible exact gb)|((with_reducible refine bD ?_ ?_ _ _);rotate_left;omega;with_reducible exact gb)|((with_reducible refine bS ?_ (bN _ _));with_reducible exact gb))|((with_reducible refine bD ?_ ?_ _ _);rotate_left;omega;first|(with_reducible exact gb)|((with_reducible refine bT ?_ ?_ _ _ _);rotate_left;omega;with_reducible exact gb)|((with_reducible refine bD ?_ ?_ _ _);rotate_left;omega;with_reducible exact gb)|((with_reducible refine bS ?_ (bN _ _));with_reducible exact gb))|((with_reducible refine bS ?_ (bN _ _));first|(with_reducible exact gb)|((with_reducible refine bT ?_ ?_ _ _ _);rotate_left;omega;with_reducible exact gb)|((with_reducible refine bD ?_ ?_ _ _);rotate_left;omega;with_reducible exact gb)|((with_reducible refine bS ?_ (bN _ _));with_reducible exact gb)))))|((with_reducible refine bS ?_ (bN _ _));first|(with_reducible exact gb)|((with_reducible refine bT ?_ ?_ _ _ _);rotate_left;omega;first|(with_reducible exact gb)|((with_reducible refine bT ?_ ?_ _ _ _);rotate_left;omega;first|(with_reducible exact gb)|((with_reducible refine bT ?_ ?_ _ _ _);rotate_left;omega;first|(with_reducible exact gb)|((with_reducible refine bT ?_ ?_ _ _ _);rotate_left;omega;with_reducible exact gb)|((with_reducible refine bD ?_ ?_ _ _);rotate_left;omega;with_reducible exact gb)|((with_reducible refine bS ?_ (bN _ _));with_reducible exact gb))|((with_reducible refine bD ?_ ?_ _ _);rotate_left;omega;first|(with_reducible exact gb)|((with_reducible refine bT ?_ ?_ _ _ _);rotate_left;omega;with_reducible exact gb)|((with_reducible refine bD ?_ ?_ _ _);rotate_left;omega;with_reducible exact gb)|((with_reducible refine bS ?_ (bN _ _));with_reducible exact gb))|((with_reducible refine bS ?_ (bN _ _));first|(with_reducible exact gb)|((with_reducible refine bT ?_ ?_ _ _ _);rotate_left;omega;with_reducible exact gb)|((with_reducible refine bD ?_ ?_ _ _);rotate_left;omega;with_reducible exact gb)|((with_reducible refine bS ?_ (bN _ _));with_reducible exact gb)))|((with_reducible refine bD ?_ ?_ _ _);rotate_left;omega;first|(with_reducible exact gb)|((with_reducible refine bT ?_ ?_ _ _ _);rotate_left;omega;first|(with_reducible exact gb)|((with_reducible refine bT ?_ ?_ _ _ _);rotate_left;omega;with_reducible exact gb)|((with_reducible refine bD ?_ ?_ _ _);rotate_left;omega;with_reducible exact gb)|((with_reducible refine bS ?_ (bN _ _));with_reducible exact gb))|((with_reducible refine bD ?_ ?_ _ _);rotate_left;omega;first|(with_reducible exact gb)|((with_reducible refine bT ?_ ?_ _ _ _);rotate_left;omega;with_reducible exact gb)|((with_reducible refine bD ?_ ?_ _ _);rotate_left;omega;with_reducible exact gb)|((with_reducible refine bS ?_ (bN _ _));with_reducible exact gb))|((with_reducible refine bS ?_ (bN _ _));first|(with_reducible exact gb)|((with_reducible refine bT ?_ ?_ _ _ _);rotate_left;omega;with_reducible exact gb)|((with_reducible refine bD ?_ ?_ _ _);rotate_left;omega;with_reducible exact gb)|((with_reducible refine bS ?_ (bN _ _));with_reducible exact gb)))|((with_reducible refine bS ?_ (bN _ _));first|(with_reducible exact gb)|((with_reducible refine bT ?_ ?_ _ _ _);rotate_left;omega;first|(with_reducible exact gb)|((with_reducible refine bT ?_ ?_ _ _ _);rotate_left;omega;with_reducible exact gb)|((with_reducible refine bD ?_ ?_ _ _);rotate_left;omega;with_reducible exact gb)|((with_reducible refine bS ?_ (bN _ _));with_reducible exact gb))|((with_reducible refine bD ?_ ?_ _ _);rotate_left;omega;first|(with_reducible exact gb)|((with_reducible refine bT ?_ ?_ _ _ _);rotate_left;omega;with_reducible exact gb)|((with_reducible refine bD ?_ ?_ _ _);rotate_left;omega;with_reducible exact gb)|((with_reducible refine bS ?_ (bN _ _));with_reducible exact gb))|((with_reducible refine bS ?_ (bN _ _));first|(with_reducible exact gb)|((with_reducible refine bT ?_ ?_ _ _ _);rotate_left;omega;with_reducible exact gb)|((with_reducible refine bD ?_ ?_ _ _);rotate_left;omega;with_reducible exact gb)|((with_reducible refine bS ?_ (bN _ _));with_reducible exact gb))))|((with_reducible refine bD ?_ ?_ _ _);rotate_left;omega;first|(with_reducible exact gb)|((with_reducible refine bT ?_ ?_ _ _ _);rotate_left;omega;first|(with_reducible exact gb)|((with_reducible refine bT ?_ ?_ _ _ _);rotate_left;omega;first|(with_reducible exact gb)|((with_reducible refine bT ?_ ?_ _ _ _);rotate_left;omega;with_reducible exact gb)|((with_reducible refine bD ?_ ?_ _ _);rotate_left;omega;with_reducible exact gb)|((with_reducible refine bS ?_ (bN _ _));with_reducible exact gb))|((with_reducible refine bD ?_ ?_ _ _);rotate_left;omega;first|(with_reducible exact gb)|((with_reducible refine bT ?_ ?_ _ _ _);rotate_left;omega;with_reducible exact gb)|((with_reducible refine bD ?_ ?_ _ _);rotate_left;omega;with_reducible exact gb)|((with_reducible refine bS ?_ (bN _ _));with_reducible exact gb))|((with_reducible refine bS ?_ (bN _ _));first|(with_reducible exact gb)|((with_reducible refine bT ?_ ?_ _ _ _);rotate_left;omega;with_reducible exact gb)|((with_reducible refine bD ?_ ?_ _ _);rotate_left;omega;with_reducible exact gb)|((with_reducible refine bS ?_ (bN _ _));with_reducible exact gb)))|((with_reducible refine bD ?_ ?_ _ _);rotate_left;omega;first|(with_reducible exact gb)|((with_reducible refine bT ?_ ?_ _ _ _);rotate_left;omega;first|(with_reducible exact gb)|((with_reducible refine bT ?_ ?_ _ _ _);rotate_left;omega;with_reducible exact gb)|((with_reducible refine bD ?_ ?_ _ _);rotate_left;omega;with_reducible exact gb)|((with_reducible refine bS ?_ (bN _ _));with_reducible exact gb))|((with_reducible refine bD ?_ ?_ _ _);rotate_left;omega;first|(with_reducible exact gb)|((with_reducible refine bT ?_ ?_ _ _ _);rotate_left;omega;with_reducible exact gb)|((with_reducible refine bD ?_ ?_ _ _);rotate_left;omega;with_reducible exact gb)|((with_reducible refine bS ?_ (bN _ _));with_reducible exact gb))|((with_reducible refine bS ?_ (bN _ _));first|(with_reducible exact gb)|((with_reducible refine bT ?_ ?_ _ _ _);rotate_left;omega;with_reducible exact gb)|((with_reducible refine bD ?_ ?_ _ _);rotate_left;omega;with_reducible exact gb)|((with_reducible refine bS ?_ (bN _ _));with_reducible exact gb)))|((with_reducible refine bS ?_ (bN _ _));first|(with_reducible exact gb)|((with_reducible refine bT ?_ ?_ _ _ _);rotate_left;omega;first|(with_reducible exact gb)|((with_reducible refine bT ?_ ?_ _ _ _);rotate_left;omega;with_reducible exact gb)|((with_reducible refine bD ?_ ?_ _ _);rotate_left;omega;with_reducible exact gb)|((with_reducible refine bS ?_ (bN _ _));with_reducible exact gb))|((with_reducible refine bD ?_ ?_ _ _);rotate_left;omega;first|(with_reducible exact gb)|((with_reducible refine bT ?_ ?_ _ _ _);rotate_left;omega;with_reducible exact gb)|((with_reducible refine bD ?_ ?_ _ _);rotate_left;omega;with_reducible exact gb)|((with_reducible refine bS ?_ (bN _ _));with_reducible exact gb))|((with_reducible refine bS ?_ (bN _ _));first|(with_reducible exact gb)|((with_reducible refine bT ?_ ?_ _ _ _);rotate_left;omega;with_reducible exact gb)|((with_reducible refine bD ?_ ?_ _ _);rotate_left;omega;with_reducible exact gb)|((with_reducible refine bS ?_ (bN _ _));with_reducible exact gb))))|((with_reducible refine bS ?_ (bN _ _));first|(with_reducible exact gb)|((with_reducible refine bT ?_ ?_ _ _ _);rotate_left;omega;first|(with_reducible exact gb)|((with_reducible refine bT ?_ ?_ _ _ _);rotate_left;omega;first|(with_reducible exact gb)|((with_reducible refine bT ?_ ?_ _ _ _);rotate_left;omega;with_reducible exact gb)|((with_reducible refine bD ?_ ?_ _ _);rotate_left;omega;with_reducible exact gb)|((with_reducible refine bS ?_ (bN _ _));with_reducible exact gb))|((with_reducible refine bD ?_ ?_ _ _);rotate_left;omega;first|(with_reducible exact gb)|((with_reducible refine bT ?_ ?_ _ _ _);rotate_left;omega;with_reducible exact gb)|((with_reducible refine bD ?_ ?_ _ _);rotate_left;omega;with_reducible exact gb)|((with_reducible refine bS ?_ (bN _ _));with_reducible exact gb))|((with_reducible refine bS ?_ (bN _ _));first|(with_reducible exact gb)|((with_reducible refine bT ?_ ?_ _ _ _);rotate_left;omega;with_reducible exact gb)|((with_reducible refine bD ?_ ?_ _ _);rotate_left;omega;with_reducible exact gb)|((with_reducible refine bS ?_ (bN _ _));with_reducible exact gb)))|((with_reducible refine bD ?_ ?_ _ _);rotate_left;omega;first|(with_reducible exact gb)|((with_reducible refine bT ?_ ?_ _ _ _);rotate_left;omega;first|(with_reducible exact gb)|((with_reducible refine bT ?_ ?_ _ _ _);rotate_left;omega;with_reducible exact gb)|((with_reducible refine bD ?_ ?_ _ _);rotate_left;omega;with_reducible exact gb)|((with_reducible refine bS ?_ (bN _ _));with_reducible exact gb))|((with_reducible refine bD ?_ ?_ _ _);rotate_left;omega;first|(with_reducible exact gb)|((with_reducible refine bT ?_ ?_ _ _ _);rotate_left;omega;with_reducible exact gb)|((with_reducible refine bD ?_ ?_ _ _);rotate_left;omega;with_reducible exact gb)|((with_reducible refine bS ?_ (bN _ _));with_reducible exact gb))|((with_reducible refine bS ?_ (bN _ _));first|(with_reducible exact gb)|((with_reducible refine bT ?_ ?_ _ _ _);rotate_left;omega;with_reducible exact gb)|((with_reducible refine bD ?_ ?_ _ _);rotate_left;omega;with_reducible exact gb)|((with_reducible refine bS ?_ (bN _ _));with_reducible exact gb)))|((with_reducible refine bS ?_ (bN _ _));first|(with_reducible exact gb)|((with_reducible refine bT ?_ ?_ _ _ _);rotate_left;omega;first|(with_reducible exact gb)|((with_reducible refine bT ?_ ?_ _ _ _);rotate_left;omega;with_reducible exact gb)|((with_reducible refine bD ?_ ?_ _ _);rotate_left;omega;with_reducible exact gb)|((with_reducible refine bS ?_ (bN _ _));with_reducible exact gb))|((with_reducible refine bD ?_ ?_ _ _);rotate_left;omega;first|(with_reducible exact gb)|((with_reducible refine bT ?_ ?_ _ _ _);rotate_left;omega;with_reducible exact gb)|((with_reducible refine bD ?_ ?_ _ _);rotate_left;omega;with_reducible exact gb)|((with_reducible refine bS ?_ (bN _ _));with_reducible exact gb))|((with_reducible refine bS ?_ (bN _ _));first|(with_reducible exact gb)|((with_reducible refine bT ?_ ?_ _ _ _);rotate_left;omega;with_reducible exact gb)|((with_reducible refine bD ?_ ?_ _ _);rotate_left;omega;with_reducible exact gb)|((with_reducible refine bS ?_ (bN _ _));with_reducible exact gb)))))))) (first
   | (go_at_call 19;(refine zk w1 (by with_reducible first|exact Below.refl _ _|exact bN _ _|exact bS (bN _ _) (bN _ _)|exact bS (bS (bN _ _) (bN _ _)) (bN _ _)) ?_);intro V2 c8 bZ;have ee:=bZ.size;have g1:=g1.to bZ;have gb:=bS gb bZ;(try have cM:=cM.to bZ);(try have cU:=cU.to bZ);(try have cY:=cY.to bZ);(try have cN:=cN.to bZ);(try have cV:=cV.to bZ);(try have cZ:=cZ.to bZ);(try have dp:Tri V2 (w1.heap.size) (.int .i64 0) (.int .i64 0) (.slice none 0 0):=(by rw [c8];with_reducible first|exact zd _ (.int .i64 0) (.int .i64 0) (.slice none 0 0) _|exact (zd _ (.int .i64 0) (.int .i64 0) (.slice none 0 0) _).alloc _|exact ((zd _ (.int .i64 0) (.int .i64 0) (.slice none 0 0) _).alloc _).alloc _));(try have dq:Tri V2 (w1.heap.size+1) (.int .i64 0) (.int .i64 0) (.slice none 0 0):=(by rw [c8];with_reducible first|exact zan _ _ (.int .i64 0) (.int .i64 0) (.slice none 0 0) _|exact (zan _ _ (.int .i64 0) (.int .i64 0) (.slice none 0 0) _).alloc _));(try have eo:Tri V2 (w1.heap.size+1+1) (.int .i64 0) (.int .i64 0) (.slice none 0 0):=(by rw [c8];first|with_reducible exact zfL _ _ _ (.int .i64 0) (.int .i64 0) (.slice none 0 0) _));(try have dr:Duo V2 (w1.heap.size) (.int .i64 0) (.int .i64 0):=(by rw [c8];with_reducible first|exact zJ _ (.int .i64 0) (.int .i64 0) _|exact (zJ _ (.int .i64 0) (.int .i64 0) _).alloc _|exact ((zJ _ (.int .i64 0) (.int .i64 0) _).alloc _).alloc _));(try have ds:Duo V2 (w1.heap.size+1) (.int .i64 0) (.int .i64 0):=(by rw [c8];with_reducible first|exact zdh _ _ (.int .i64 0) (.int .i64 0) _|exact (zdh _ _ (.int .i64 0) (.int .i64 0) _).alloc _));(try have ep:Duo V2 (w1.heap.size+1+1) (.int .i64 0) (.int .i64 0):=(by rw [c8];first|with_reducible exact ziF _ _ _ (.int .i64 0) (.int .i64 0) _));(try have jr:Tri V2 (w1.heap.size) (.bool ng1) (.slice a1_ n1_ c1_) (.slice p1_ m1_ k1_):=(by rw [c8];with_reducible first|exact zd _ (.bool ng1) (.slice a1_ n1_ c1_) (.slice p1_ m1_ k1_) _|exact (zd _ (.bool ng1) (.slice a1_ n1_ c1_) (.slice p1_ m1_ k1_) _).alloc _|exact ((zd _ (.bool ng1) (.slice a1_ n1_ c1_) (.slice p1_ m1_ k1_) _).alloc _).alloc _));(try have js:Tri V2 (w1.heap.size+1) (.bool ng1) (.slice a1_ n1_ c1_) (.slice p1_ m1_ k1_):=(by rw [c8];with_reducible first|exact zan _ _ (.bool ng1) (.slice a1_ n1_ c1_) (.slice p1_ m1_ k1_) _|exact (zan _ _ (.bool ng1) (.slice a1_ n1_ c1_) (.slice p1_ m1_ k1_) _).alloc _));(try have jt:Tri V2 (w1.heap.size+1+1) (.bool ng1) (.slice a1_ n1_ c1_) (.slice p1_ m1_ k1_):=(by rw [c8];first|with_reducible exact zfL _ _ _ (.bool ng1) (.slice a1_ n1_ c1_) (.slice p1_ m1_ k1_) _));(try have dX:=cM.lt);(try have gi:=cU.lt);(try have vt1_J_2_2:=cY.lt);(try have dY:=cN.lt);(try have gj:=cV.lt);(try have vt1_K_2_2:=cZ.lt);(try have dZ:=dp.lt);(try have d4:=dq.lt);(try have fg:=eo.lt);(try have d5:=dr.lt);(try have d6:=ds.lt);(try have fh:=ep.lt);(with_reducible refine (zkD _ _ _ (g0.to gb) (by first|exact zfA jr g1.isK|exact zfA js g1.isK|exact zfA jt g1.isK)).mono ?_);rintro e w2 ⟨a2_,n2_,c2_,rfl,g2,hlo2,aN⟩;have g1:=g1.to aN;have gb:=bS gb aN;have dw:=aN.size;have dx:W1.heap.size<=w2.heap.size:=gb.size;(try have cM:=cM.to aN);(try have cU:=cU.to aN);(try have cY:=cY.to aN);(try have cN:=cN.to aN);(try have cV:=cV.to aN);(try have cZ:=cZ.to aN);(try have dp:=dp.to aN);(try have dq:=dq.to aN);(try have eo:=eo.to aN);(try have dr:=dr.to aN);(try have ds:=ds.to aN);(try have ep:=ep.to aN);(try have lt1_J_0_2:=cM.lt);(try have lt1_J_1_2:=cU.lt);(try have lt1_J_2_2:=cY.lt);(try have lt1_K_0_2:=cN.lt);(try have lt1_K_1_2:=cV.lt);(try have lt1_K_2_2:=cZ.lt);(try have lt2_J_0_2:=dp.lt);(try have lt2_J_1_2:=dq.lt);(try have lt2_J_2_2:=eo.lt);(try have lt2_K_0_2:=dr.lt);(try have lt2_K_1_2:=ds.lt);(try have lt2_K_2_2:=ep.lt);(try (have fu:=cM;obtain ⟨gB,gC,gD,gE,gF,gG⟩:=fu));(try (have fw:=cU;obtain ⟨gH,gI,gL,gM,gN,gO⟩:=fw));(try (have fx:=cY;obtain ⟨gP,gQ,gR,gS,gT,gU⟩:=fx));(try (have fy:=cN;obtain ⟨gV,gW,gX,gY⟩:=fy));(try (have fz:=cV;obtain ⟨gZ,g8,g9,hF⟩:=fz));(try (have fA:=cZ;obtain ⟨hH,hI,hU,ib⟩:=fA));(try (have im:=dp;obtain ⟨rt2_J_00,rt2_J_01,rt2_J_02,st2_J_00,st2_J_01,st2_J_02⟩:=im));(try (have io:=dq;obtain ⟨rt2_J_10,rt2_J_11,rt2_J_12,st2_J_10,st2_J_11,st2_J_12⟩:=io));(try (have ip:=eo;obtain ⟨rt2_J_20,rt2_J_21,rt2_J_22,st2_J_20,st2_J_21,st2_J_22⟩:=ip));(try (have iq:=dr;obtain ⟨rt2_K_00,rt2_K_01,st2_K_00,st2_K_01⟩:=iq));(try (have ir:=ds;obtain ⟨rt2_K_10,rt2_K_11,st2_K_10,st2_K_11⟩:=ir));(try (have it:=ep;obtain ⟨rt2_K_20,rt2_K_21,st2_K_20,st2_K_21⟩:=it)))
   | (go_at_call 25;(refine zk W1 (by with_reducible first|exact (Below.refl _ _).drew|exact (bN _ _).drew|exact (bS (bN _ _) (bN _ _)).drew|exact (bS (bS (bN _ _) (bN _ _)) (bN _ _)).drew) ?_);intro V1 df cq;have ef:=cq.size;have hsw1:=gb.size;have gb:=bS gb cq;(try have cM:Tri V1 (W1.heap.size) (.int .i64 0) (.int .i64 0) (.slice none 0 0):=(by rw [df];with_reducible first|exact (zd _ (.int .i64 0) (.int .i64 0) (.slice none 0 0) _).drew|exact ((zd _ (.int .i64 0) (.int .i64 0) (.slice none 0 0) _).alloc _).drew|exact (((zd _ (.int .i64 0) (.int .i64 0) (.slice none 0 0) _).alloc _).alloc _).drew));(try have cU:Tri V1 (W1.heap.size+1) (.int .i64 0) (.int .i64 0) (.slice none 0 0):=(by rw [df];with_reducible first|exact (zan _ _ (.int .i64 0) (.int .i64 0) (.slice none 0 0) _).drew|exact ((zan _ _ (.int .i64 0) (.int .i64 0) (.slice none 0 0) _).alloc _).drew));(try have cY:Tri V1 (W1.heap.size+1+1) (.int .i64 0) (.int .i64 0) (.slice none 0 0):=(by rw [df];first|with_reducible exact (zfL _ _ _ (.int .i64 0) (.int .i64 0) (.slice none 0 0) _).drew));(try have cN:Duo V1 (W1.heap.size) (.int .i64 0) (.int .i64 0):=(by rw [df];with_reducible first|exact (zJ _ (.int .i64 0) (.int .i64 0) _).drew|exact ((zJ _ (.int .i64 0) (.int .i64 0) _).alloc _).drew|exact (((zJ _ (.int .i64 0) (.int .i64 0) _).alloc _).alloc _).drew));(try have cV:Duo V1 (W1.heap.size+1) (.int .i64 0) (.int .i64 0):=(by rw [df];with_reducible first|exact (zdh _ _ (.int .i64 0) (.int .i64 0) _).drew|exact ((zdh _ _ (.int .i64 0) (.int .i64 0) _).alloc _).drew));(try have cZ:Duo V1 (W1.heap.size+1+1) (.int .i64 0) (.int .i64 0):=(by rw [df];first|with_reducible exact (ziF _ _ _ (.int .i64 0) (.int .i64 0) _).drew));(try have vt1_J_0_1:=cM.lt);(try have vt1_J_1_1:=cU.lt);(try have vt1_J_2_1:=cY.lt);(try have vt1_K_0_1:=cN.lt);(try have vt1_K_1_1:=cV.lt);(try have vt1_K_2_1:=cZ.lt);(with_reducible refine (zcS 3 3 _ rfl (by omega) (by omega)).mono ?_);rintro e w1 ⟨ng1,a1_,n1_,c1_,p1_,m1_,k1_,rfl,g1,bd⟩;have gb:=bS gb bd;have dv:=bd.size;have cR:W1.heap.size<=w1.heap.size:=gb.size;(try have cM:=cM.to bd);(try have cU:=cU.to bd);(try have cY:=cY.to bd);(try have cN:=cN.to bd);(try have cV:=cV.to bd);(try have cZ:=cZ.to bd);(try have fj:=cM.lt);(try have lt1_J_1_1:=cU.lt);(try have lt1_J_2_1:=cY.lt);(try have fk:=cN.lt);(try have lt1_K_1_1:=cV.lt);(try have lt1_K_2_1:=cZ.lt);(try (have fu:=cM;obtain ⟨gB,gC,gD,gE,gF,gG⟩:=fu));(try (have fw:=cU;obtain ⟨gH,gI,gL,gM,gN,gO⟩:=fw));(try (have fx:=cY;obtain ⟨gP,gQ,gR,gS,gT,gU⟩:=fx));(try (have fy:=cN;obtain ⟨gV,gW,gX,gY⟩:=fy));(try (have fz:=cV;obtain ⟨gZ,g8,g9,hF⟩:=fz));(try (have fA:=cZ;obtain ⟨hH,hI,hU,ib⟩:=fA))))
  all_goals (go_wp2_with fail;go_meet)
  all_goals refine ⟨?_,rfl⟩
  all_goals first
   | (with_reducible show JK _ _ _ _ _ _ (.pointer (some ⟨W1.heap.size,0,none⟩)) (.pointer (some ⟨W1.heap.size+1,0,none⟩)) _;with_reducible exact zbQ (cM) (cV) (Nat.ne_of_lt (Nat.lt_succ_self _)) g2 hlo2 g2.hi (.inl dX) (.inl gj) gb (Nat.le_refl _) (Nat.le_succ_of_le (Nat.le_refl _)))
   | (with_reducible show JK _ _ _ _ _ _ (.pointer (some ⟨W1.heap.size+1,0,none⟩)) (.pointer (some ⟨W1.heap.size,0,none⟩)) _;with_reducible exact zbQ (cU) (cN) (Ne.symm (Nat.ne_of_lt (Nat.lt_succ_self _))) g2 hlo2 g2.hi (.inl gi) (.inl dY) gb (Nat.le_succ_of_le (Nat.le_refl _)) (Nat.le_refl _))
   | (with_reducible show JK _ _ _ _ _ _ (.pointer (some ⟨W1.heap.size,0,none⟩)) (.pointer (some ⟨w1.heap.size,0,none⟩)) _;with_reducible exact zbQ (cM) (dr) (Nat.ne_of_lt (fj)) g2 hlo2 g2.hi (.inl dX) (.inl d5) gb (Nat.le_refl _) (cR))
   | (with_reducible show JK _ _ _ _ _ _ (.pointer (some ⟨W1.heap.size,0,none⟩)) (.pointer (some ⟨w1.heap.size+1,0,none⟩)) _;with_reducible exact zbQ (cM) (ds) (Nat.ne_of_lt (Nat.lt_succ_of_lt (fj))) g2 hlo2 g2.hi (.inl dX) (.inl d6) gb (Nat.le_refl _) (Nat.le_succ_of_le (cR)))
   | (with_reducible show JK _ _ _ _ _ _ (.pointer (some ⟨W1.heap.size,0,none⟩)) (.pointer (some ⟨w2.heap.size,0,none⟩)) _;with_reducible exact zhy cM g2 hlo2 dX gb (Nat.le_refl _))
   | (with_reducible show JK _ _ _ _ _ _ (.pointer (some ⟨w1.heap.size,0,none⟩)) (.pointer (some ⟨W1.heap.size,0,none⟩)) _;with_reducible exact zbQ (dp) (cN) (Ne.symm (Nat.ne_of_lt (fk))) g2 hlo2 g2.hi (.inl dZ) (.inl dY) gb (cR) (Nat.le_refl _))
   | (with_reducible show JK _ _ _ _ _ _ (.pointer (some ⟨w1.heap.size+1,0,none⟩)) (.pointer (some ⟨W1.heap.size,0,none⟩)) _;with_reducible exact zbQ (dq) (cN) (Ne.symm (Nat.ne_of_lt (Nat.lt_succ_of_lt (fk)))) g2 hlo2 g2.hi (.inl d4) (.inl dY) gb (Nat.le_succ_of_le (cR)) (Nat.le_refl _))
   | (with_reducible show JK _ _ _ _ _ _ (.pointer (some ⟨w1.heap.size,0,none⟩)) (.pointer (some ⟨w1.heap.size+1,0,none⟩)) _;with_reducible exact zbQ (dp) (ds) (Nat.ne_of_lt (Nat.lt_succ_self _)) g2 hlo2 g2.hi (.inl dZ) (.inl d6) gb (cR) (Nat.le_succ_of_le (cR)))
   | (with_reducible show JK _ _ _ _ _ _ (.pointer (some ⟨w1.heap.size,0,none⟩)) (.pointer (some ⟨w1.heap.size+1+1,0,none⟩)) _;with_reducible exact zbQ (dp) (ep) (Nat.ne_of_lt (Nat.lt_succ_of_lt (Nat.lt_succ_self _))) g2 hlo2 g2.hi (.inl dZ) (.inl fh) gb (cR) (Nat.le_succ_of_le (Nat.le_succ_of_le (cR))))
   | (with_reducible show JK _ _ _ _ _ _ (.pointer (some ⟨w1.heap.size+1,0,none⟩)) (.pointer (some ⟨w1.heap.size,0,none⟩)) _;with_reducible exact zbQ (dq) (dr) (Ne.symm (Nat.ne_of_lt (Nat.lt_succ_self _))) g2 hlo2 g2.hi (.inl d4) (.inl d5) gb (Nat.le_succ_of_le (cR)) (cR))
   | (with_reducible show JK _ _ _ _ _ _ (.pointer (some ⟨w1.heap.size+1,0,none⟩)) (.pointer (some ⟨w1.heap.size+1+1,0,none⟩)) _;with_reducible exact zbQ (dq) (ep) (Nat.ne_of_lt (Nat.lt_succ_self _)) g2 hlo2 g2.hi (.inl d4) (.inl fh) gb (Nat.le_succ_of_le (cR)) (Nat.le_succ_of_le (Nat.le_succ_of_le (cR))))
   | (with_reducible show JK _ _ _ _ _ _ (.pointer (some ⟨w1.heap.size+1+1,0,none⟩)) (.pointer (some ⟨w1.heap.size,0,none⟩)) _;with_reducible exact zbQ (eo) (dr) (Ne.symm (Nat.ne_of_lt (Nat.lt_succ_of_lt (Nat.lt_succ_self _)))) g2 hlo2 g2.hi (.inl fg) (.inl d5) gb (Nat.le_succ_of_le (Nat.le_succ_of_le (cR))) (cR))
   | (with_reducible show JK _ _ _ _ _ _ (.pointer (some ⟨w1.heap.size+1+1,0,none⟩)) (.pointer (some ⟨w1.heap.size+1,0,none⟩)) _;with_reducible exact zbQ (eo) (ds) (Ne.symm (Nat.ne_of_lt (Nat.lt_succ_self _))) g2 hlo2 g2.hi (.inl fg) (.inl d6) gb (Nat.le_succ_of_le (Nat.le_succ_of_le (cR))) (Nat.le_succ_of_le (cR)))
   | (with_reducible show JK _ _ _ _ _ _ (.pointer (some ⟨w1.heap.size,0,none⟩)) (.pointer (some ⟨w2.heap.size,0,none⟩)) _;with_reducible exact zhy dp g2 hlo2 dZ gb (cR))
   | (with_reducible show JK _ _ _ _ _ _ (.pointer (some ⟨w1.heap.size+1,0,none⟩)) (.pointer (some ⟨w2.heap.size,0,none⟩)) _;with_reducible exact zhy dq g2 hlo2 d4 gb (Nat.le_succ_of_le (cR)))
   | (with_reducible show JK _ _ _ _ _ _ (.pointer (some ⟨w2.heap.size,0,none⟩)) (.pointer (some ⟨W1.heap.size,0,none⟩)) _;with_reducible exact zhP cN g2 hlo2 dY gb (Nat.le_refl _))
   | (with_reducible show JK _ _ _ _ _ _ (.pointer (some ⟨w2.heap.size,0,none⟩)) (.pointer (some ⟨w1.heap.size,0,none⟩)) _;with_reducible exact zhP dr g2 hlo2 d5 gb (cR))
   | (with_reducible show JK _ _ _ _ _ _ (.pointer (some ⟨w2.heap.size,0,none⟩)) (.pointer (some ⟨w1.heap.size+1,0,none⟩)) _;with_reducible exact zhP ds g2 hlo2 d6 gb (Nat.le_succ_of_le (cR)))
   | (with_reducible show JK _ _ _ _ _ _ (.pointer (some ⟨w2.heap.size,0,none⟩)) (.pointer (some ⟨w2.heap.size+1,0,none⟩)) _;with_reducible exact jk_new2 g2 gb)
   | (with_reducible show JK _ _ _ _ _ _ (.pointer (some ⟨w2.heap.size+1,0,none⟩)) (.pointer (some ⟨w2.heap.size,0,none⟩)) _;with_reducible exact jk_new2' g2 gb)
 case rest =>
 obtain ⟨⟨B5,B6,aJ,nJ,cJ,rfl,rfl,hB5,hB6,T5,T6,gJ,hcJ⟩,rfl⟩:=hcut
 clear ak ap al aq au aA aR aT aS aU
 have gb:=hcJ
 obtain ⟨ak,al,au,aR,aS⟩:=bU.out _ gb
 obtain ⟨ap,aq,aA,aT,aU⟩:=lv.out _ gb
 obtain z1:=lw.out _ gb
 have z5:=T5.lt
 have z6:=T6.lt
 obtain ⟨bk,bl,bm,bo,bq,bw⟩:=T5
 obtain ⟨b6,b7,ce,cf⟩:=T6
 clear hgb
 replace g0:=g0.to gb
 replace zb:=bS zb gb
 have HXwc:=Lib.hid (show ∀ W',Below wc.heap.size wc W'->(W'.cell? ⟨W00.heap.size,0,none⟩=some (.int .i64 1)/\W'.cell? ⟨W00.heap.size,1,none⟩=some (.int .i64 1)/\W'.cell? ⟨W00.heap.size,2,none⟩=some (.int .i64 1)/\W'.cell? ⟨W00.heap.size,3,none⟩=some (.int .i64 2)/\W'.cell? ⟨W00.heap.size,4,none⟩=some (.slice (some ⟨B0,0,none⟩) 3 3)/\W'.cell? ⟨B5,0,none⟩=some (.int .i64 (1))/\W'.cell? ⟨B5,1,none⟩=some (.int .i64 (1))/\W'.cell? ⟨B5,2,none⟩=some (.slice aJ nJ cJ)/\W'.cell? ⟨B6,0,none⟩=some (.int .i64 (3))/\W'.cell? ⟨B6,1,none⟩=some (.int .i64 (1))) from fun W' hb =>
  by and_intros <;> exact kc hb (by first|assumption|assumption))
 have HYwc:=Lib.hid (show ∀ W',Below wc.heap.size wc W'->(W'.frozen? ⟨W00.heap.size,0,none⟩=false/\W'.frozen? ⟨W00.heap.size,1,none⟩=false/\W'.frozen? ⟨W00.heap.size,2,none⟩=false/\W'.frozen? ⟨W00.heap.size,3,none⟩=false/\W'.frozen? ⟨W00.heap.size,4,none⟩=false/\W'.frozen? ⟨B5,0,none⟩=false/\W'.frozen? ⟨B5,1,none⟩=false/\W'.frozen? ⟨B5,2,none⟩=false/\W'.frozen? ⟨B6,0,none⟩=false/\W'.frozen? ⟨B6,1,none⟩=false) from fun W' hb =>
  by and_intros <;> refine (hb.frozen ?_).trans ?_ <;> first|assumption|assumption)
 have HZwc:=Lib.hid (show ∀ W',Below wc.heap.size wc W'->(W00.heap.size<W'.heap.size/\B5<W'.heap.size/\B6<W'.heap.size) from fun W' hb =>
  by and_intros <;> refine Nat.lt_of_lt_of_le ?_ hb.size <;> first|assumption)
 replace gb:=Below.refl wc.heap.size wc
 go_wp2_with fail
 have gK:RdR wc (.slice aJ nJ cJ) [zB ((9:Int):Rat)]:=gJ
 have HL9:=Lib.hid (show [zB ((9:Int):Rat)].length<=100000 by show 1<=100000;decide)
 go_region_held3 (fun W' => W'.cell? ⟨W00.heap.size,0,none⟩=some (.int .i64 1)/\W'.cell? ⟨W00.heap.size,1,none⟩=some (.int .i64 1)/\W'.cell? ⟨W00.heap.size,2,none⟩=some (.int .i64 1)/\W'.cell? ⟨W00.heap.size,3,none⟩=some (.int .i64 2)/\W'.cell? ⟨W00.heap.size,4,none⟩=some (.slice (some ⟨B0,0,none⟩) 3 3)/\W'.cell? ⟨B5,0,none⟩=some (.int .i64 (1))/\W'.cell? ⟨B5,1,none⟩=some (.int .i64 (1))/\W'.cell? ⟨B5,2,none⟩=some (.slice aJ nJ cJ)/\W'.cell? ⟨B6,0,none⟩=some (.int .i64 (3))/\W'.cell? ⟨B6,1,none⟩=some (.int .i64 (1))) (with_reducible first|(exact HXwc.out _ gb)|((refine HXwc.out _ ?_);first|((refine Below.drew ?_);first|(exact gb)|((refine bS ?_ (bN _ _));first|(exact gb)|((refine bS ?_ (bN _ _));exact gb)))|(first|(exact gb)|((refine bS ?_ (bN _ _));first|(exact gb)|((refine bS ?_ (bN _ _));exact gb))))) (first
  | (go_at_call 16;(refine zk w5 (by with_reducible first|exact Below.refl _ _|exact bN _ _) ?_);intro V6 hV6 kO;have g3:=g3.to kO;have gb:=bS gb kO;(with_reducible refine (zjd _ _ (g0.to gb)).mono ?_);rintro e w6 ⟨rfl,eW⟩;have g3:=g3.to eW;have gb:=bS gb eW;obtain ⟨ak,al,au,aR,aS,bk,bl,bm,b6,b7⟩:=HXwc.out _ gb;obtain ⟨ap,aq,aA,aT,aU,bo,bq,bw,ce,cf⟩:=HYwc.out _ gb;obtain ⟨z1,z5,z6⟩:=HZwc.out _ gb)
  | (go_at_call 14;(refine zk w4 (by with_reducible first|exact Below.refl _ _|exact bN _ _) ?_);intro V5 kT eh;have g3:=g3.to eh;have gb:=bS gb eh;(with_reducible refine (ziO _ _ (g0.to gb)).mono ?_);rintro e w5 ⟨rfl,cK⟩;have g3:=g3.to cK;have gb:=bS gb cK;obtain ⟨ak,al,au,aR,aS,bk,bl,bm,b6,b7⟩:=HXwc.out _ gb;obtain ⟨ap,aq,aA,aT,aU,bo,bq,bw,ce,cf⟩:=HYwc.out _ gb;obtain ⟨z1,z5,z6⟩:=HZwc.out _ gb)
  | (go_at_call 21;(refine zk w3 (by with_reducible first|exact Below.refl _ _|exact bN _ _) ?_);intro V4 fl eH;have g3:=g3.to eH;have gb:=bS gb eH;have ju:Tri V4 (w3.heap.size) (.bool ng3) (.slice a3_ n3_ c3_) (.slice p3_ m3_ k3_):=(by rw [fl];with_reducible exact zd _ _ _ _ _);(with_reducible refine (zcW 1 1 _ _ _ _ (gK.to gb) (zfA ju g3.isK) HL9.out).mono ?_);rintro e w4 ⟨rfl,cG⟩;have g3:=g3.to cG;have gb:=bS gb cG;obtain ⟨ak,al,au,aR,aS,bk,bl,bm,b6,b7⟩:=HXwc.out _ gb;obtain ⟨ap,aq,aA,aT,aU,bo,bq,bw,ce,cf⟩:=HYwc.out _ gb;obtain ⟨z1,z5,z6⟩:=HZwc.out _ gb)
  | (go_at_call 25;(refine zk wc (by with_reducible first|exact (Below.refl _ _).drew|exact (bN _ _).drew) ?_);intro V3 kU fZ;have gb:=bS gb fZ;(with_reducible refine (zcS 9 9 _ rfl (by omega) (by omega)).mono ?_);rintro e w3 ⟨ng3,a3_,n3_,c3_,p3_,m3_,k3_,rfl,g3,bs⟩;have gb:=bS gb bs;obtain ⟨ak,al,au,aR,aS,bk,bl,bm,b6,b7⟩:=HXwc.out _ gb;obtain ⟨ap,aq,aA,aT,aU,bo,bq,bw,ce,cf⟩:=HYwc.out _ gb;obtain ⟨z1,z5,z6⟩:=HZwc.out _ gb))
 go_wp2_with fail
 go_ret
 exact ⟨rfl,bS zb gb⟩

end Go.Proofs.YtkjcdnlpjldhaaaGreat


namespace Go.Proofs.YtkjcdnlpjldhaaaGreat
open Go.RowKit Tw
attribute [local go_sem ↓] Go.wp_at_zero Go.wp_at_succ

def zar (w:World) (o:Int) (q:Rat) (e:Ending) (w':World):Prop :=
 (o≠0/\e=.returned (.tuple #[aggR false (.slice none 0 0) (.slice none 0 0),.int .i64 o])/\Below w.heap.size w w')\/(o=0/\zq w q e w')

theorem zic (c:Cd) (L:List Int) (R:Int->Rat) (op to a b:Int) (ng:Bool) (vn vd:Value) (ln ld:List Nat) (n1 c1:Nat) (a1:Option Addr) (xs:List Rt) (na:Bool) (va ua:Value) (nb:Bool) (vb ub:Value) (w:World) (hX:IsX w ⟨op,to,a,b,⟨ng,ln,ld⟩⟩ vn vd) (hok:zu c L ⟨op,to,a,b,⟨ng,ln,ld⟩⟩=true) (hins:c.ins=(n1:Int))
  (hx:RdR w (.slice a1 n1 c1) xs) (hxl:xs.length=n1) (hxm:n1<=maxLen) (hxs:∀ x ∈ xs,x.n.length<=1000/\x.d.length<=1000) (ka:IsK w na va ua (R a)) (kb:IsK w nb vb ub (R b)) (fit:opE R ⟨op,to,a,b,⟨ng,ln,ld⟩⟩=0->szq (opV (xs.map Rt.num) R ⟨op,to,a,b,⟨ng,ln,ld⟩⟩)<=1000/\(op=7->szq (R a)*b.natAbs<1000)) (hk:op=2) :
  Calls Tryz.prog 40 #[.agg #[.int .i64 op,.int .i64 to,.int .i64 a,.int .i64 b,.bool ng,vn,vd],.slice a1 n1 c1,aggR na va ua,aggR nb vb ub] w (zar w (zM (xs.map Rt.num) R ⟨op,to,a,b,⟨ng,ln,ld⟩⟩) (opV (xs.map Rt.num) R ⟨op,to,a,b,⟨ng,ln,ld⟩⟩)):=by
 subst hk
 have hw:=hX.1.isF
 have e0:opE R ⟨2,to,a,b,⟨ng,ln,ld⟩⟩=0:=zY (by show (2:Int)≠5;decide) (by show (2:Int)≠7;decide)
 have f:=(fit e0).1
 have ev:=zfp (p:=xs.map Rt.num) (R:=R) (x:=⟨2,to,a,b,⟨ng,ln,ld⟩⟩) (.inl rfl)
 rw [ev] at f
 refine (zjp to a b ng vn vd ln ld (.slice a1 n1 c1) na va ua _ _ nb vb ub _ _ w hw ka.1 kb.1 _ rfl f).mono ?_
 intro e w' hs
 refine .inr ⟨zI e0 (by rw [ev];exact f),?_⟩
 rw [ev]
 exact hs

theorem zgr (c:Cd) (L:List Int) (R:Int->Rat) (op to a b:Int) (ng:Bool) (vn vd:Value) (ln ld:List Nat) (n1 c1:Nat) (a1:Option Addr) (xs:List Rt) (na:Bool) (va ua:Value) (nb:Bool) (vb ub:Value) (w:World) (hX:IsX w ⟨op,to,a,b,⟨ng,ln,ld⟩⟩ vn vd) (hok:zu c L ⟨op,to,a,b,⟨ng,ln,ld⟩⟩=true) (hins:c.ins=(n1:Int))
  (hx:RdR w (.slice a1 n1 c1) xs) (hxl:xs.length=n1) (hxm:n1<=maxLen) (hxs:∀ x ∈ xs,x.n.length<=1000/\x.d.length<=1000) (ka:IsK w na va ua (R a)) (kb:IsK w nb vb ub (R b)) (fit:opE R ⟨op,to,a,b,⟨ng,ln,ld⟩⟩=0->szq (opV (xs.map Rt.num) R ⟨op,to,a,b,⟨ng,ln,ld⟩⟩)<=1000/\(op=7->szq (R a)*b.natAbs<1000)) (hk:op=9) :
  Calls Tryz.prog 40 #[.agg #[.int .i64 op,.int .i64 to,.int .i64 a,.int .i64 b,.bool ng,vn,vd],.slice a1 n1 c1,aggR na va ua,aggR nb vb ub] w (zar w (zM (xs.map Rt.num) R ⟨op,to,a,b,⟨ng,ln,ld⟩⟩) (opV (xs.map Rt.num) R ⟨op,to,a,b,⟨ng,ln,ld⟩⟩)):=by
 subst hk
 have hw:=hX.1.isF
 have e0:opE R ⟨9,to,a,b,⟨ng,ln,ld⟩⟩=0:=zY (by show (9:Int)≠5;decide) (by show (9:Int)≠7;decide)
 have f:=(fit e0).1
 have ev:=zfp (p:=xs.map Rt.num) (R:=R) (x:=⟨9,to,a,b,⟨ng,ln,ld⟩⟩) (.inr rfl)
 rw [ev] at f
 refine (zjv to a b ng vn vd ln ld (.slice a1 n1 c1) na va ua _ _ nb vb ub _ _ w hw ka.1 kb.1 _ rfl f).mono ?_
 intro e w' hs
 refine .inr ⟨zI e0 (by rw [ev];exact f),?_⟩
 rw [ev]
 exact hs

theorem zht (c:Cd) (L:List Int) (R:Int->Rat) (op to a b:Int) (ng:Bool) (vn vd:Value) (ln ld:List Nat) (n1 c1:Nat) (a1:Option Addr) (xs:List Rt) (na:Bool) (va ua:Value) (nb:Bool) (vb ub:Value) (w:World) (hX:IsX w ⟨op,to,a,b,⟨ng,ln,ld⟩⟩ vn vd) (hok:zu c L ⟨op,to,a,b,⟨ng,ln,ld⟩⟩=true) (hins:c.ins=(n1:Int))
  (hx:RdR w (.slice a1 n1 c1) xs) (hxl:xs.length=n1) (hxm:n1<=maxLen) (hxs:∀ x ∈ xs,x.n.length<=1000/\x.d.length<=1000) (ka:IsK w na va ua (R a)) (kb:IsK w nb vb ub (R b)) (fit:opE R ⟨op,to,a,b,⟨ng,ln,ld⟩⟩=0->szq (opV (xs.map Rt.num) R ⟨op,to,a,b,⟨ng,ln,ld⟩⟩)<=1000/\(op=7->szq (R a)*b.natAbs<1000)) (hk:op=3) :
  Calls Tryz.prog 40 #[.agg #[.int .i64 op,.int .i64 to,.int .i64 a,.int .i64 b,.bool ng,vn,vd],.slice a1 n1 c1,aggR na va ua,aggR nb vb ub] w (zar w (zM (xs.map Rt.num) R ⟨op,to,a,b,⟨ng,ln,ld⟩⟩) (opV (xs.map Rt.num) R ⟨op,to,a,b,⟨ng,ln,ld⟩⟩)):=by
 subst hk
 have hw:=hX.1.isF
 have e0:opE R ⟨3,to,a,b,⟨ng,ln,ld⟩⟩=0:=zY (by show (3:Int)≠5;decide) (by show (3:Int)≠7;decide)
 have f:=(fit e0).1
 have ev:=zkr (p:=xs.map Rt.num) (R:=R) (x:=⟨3,to,a,b,⟨ng,ln,ld⟩⟩) rfl
 rw [ev] at f
 refine (does_sub to a b ng vn vd ln ld (.slice a1 n1 c1) na va ua _ _ nb vb ub _ _ w hw ka.1 kb.1 _ rfl f).mono ?_
 intro e w' hs
 refine .inr ⟨zI e0 (by rw [ev];exact f),?_⟩
 rw [ev]
 exact hs

theorem zhS (c:Cd) (L:List Int) (R:Int->Rat) (op to a b:Int) (ng:Bool) (vn vd:Value) (ln ld:List Nat) (n1 c1:Nat) (a1:Option Addr) (xs:List Rt) (na:Bool) (va ua:Value) (nb:Bool) (vb ub:Value) (w:World) (hX:IsX w ⟨op,to,a,b,⟨ng,ln,ld⟩⟩ vn vd) (hok:zu c L ⟨op,to,a,b,⟨ng,ln,ld⟩⟩=true) (hins:c.ins=(n1:Int))
  (hx:RdR w (.slice a1 n1 c1) xs) (hxl:xs.length=n1) (hxm:n1<=maxLen) (hxs:∀ x ∈ xs,x.n.length<=1000/\x.d.length<=1000) (ka:IsK w na va ua (R a)) (kb:IsK w nb vb ub (R b)) (fit:opE R ⟨op,to,a,b,⟨ng,ln,ld⟩⟩=0->szq (opV (xs.map Rt.num) R ⟨op,to,a,b,⟨ng,ln,ld⟩⟩)<=1000/\(op=7->szq (R a)*b.natAbs<1000)) (hk:op=4) :
  Calls Tryz.prog 40 #[.agg #[.int .i64 op,.int .i64 to,.int .i64 a,.int .i64 b,.bool ng,vn,vd],.slice a1 n1 c1,aggR na va ua,aggR nb vb ub] w (zar w (zM (xs.map Rt.num) R ⟨op,to,a,b,⟨ng,ln,ld⟩⟩) (opV (xs.map Rt.num) R ⟨op,to,a,b,⟨ng,ln,ld⟩⟩)):=by
 subst hk
 have hw:=hX.1.isF
 have e0:opE R ⟨4,to,a,b,⟨ng,ln,ld⟩⟩=0:=zY (by show (4:Int)≠5;decide) (by show (4:Int)≠7;decide)
 have f:=(fit e0).1
 have ev:=zfw (p:=xs.map Rt.num) (R:=R) (x:=⟨4,to,a,b,⟨ng,ln,ld⟩⟩) (.inl rfl)
 rw [ev] at f
 refine (zjk to a b ng vn vd ln ld (.slice a1 n1 c1) na va ua _ _ nb vb ub _ _ w hw ka.1 kb.1 _ rfl f).mono ?_
 intro e w' hs
 refine .inr ⟨zI e0 (by rw [ev];exact f),?_⟩
 rw [ev]
 exact hs

theorem zfW (c:Cd) (L:List Int) (R:Int->Rat) (op to a b:Int) (ng:Bool) (vn vd:Value) (ln ld:List Nat) (n1 c1:Nat) (a1:Option Addr) (xs:List Rt) (na:Bool) (va ua:Value) (nb:Bool) (vb ub:Value) (w:World) (hX:IsX w ⟨op,to,a,b,⟨ng,ln,ld⟩⟩ vn vd) (hok:zu c L ⟨op,to,a,b,⟨ng,ln,ld⟩⟩=true) (hins:c.ins=(n1:Int))
  (hx:RdR w (.slice a1 n1 c1) xs) (hxl:xs.length=n1) (hxm:n1<=maxLen) (hxs:∀ x ∈ xs,x.n.length<=1000/\x.d.length<=1000) (ka:IsK w na va ua (R a)) (kb:IsK w nb vb ub (R b)) (fit:opE R ⟨op,to,a,b,⟨ng,ln,ld⟩⟩=0->szq (opV (xs.map Rt.num) R ⟨op,to,a,b,⟨ng,ln,ld⟩⟩)<=1000/\(op=7->szq (R a)*b.natAbs<1000)) (hk:op=8) :
  Calls Tryz.prog 40 #[.agg #[.int .i64 op,.int .i64 to,.int .i64 a,.int .i64 b,.bool ng,vn,vd],.slice a1 n1 c1,aggR na va ua,aggR nb vb ub] w (zar w (zM (xs.map Rt.num) R ⟨op,to,a,b,⟨ng,ln,ld⟩⟩) (opV (xs.map Rt.num) R ⟨op,to,a,b,⟨ng,ln,ld⟩⟩)):=by
 subst hk
 have hw:=hX.1.isF
 have e0:opE R ⟨8,to,a,b,⟨ng,ln,ld⟩⟩=0:=zY (by show (8:Int)≠5;decide) (by show (8:Int)≠7;decide)
 have f:=(fit e0).1
 have ev:=zfw (p:=xs.map Rt.num) (R:=R) (x:=⟨8,to,a,b,⟨ng,ln,ld⟩⟩) (.inr rfl)
 rw [ev] at f
 refine (zjJ to a b ng vn vd ln ld (.slice a1 n1 c1) na va ua _ _ nb vb ub _ _ w hw ka.1 kb.1 _ rfl f).mono ?_
 intro e w' hs
 refine .inr ⟨zI e0 (by rw [ev];exact f),?_⟩
 rw [ev]
 exact hs

theorem zhB (c:Cd) (L:List Int) (R:Int->Rat) (op to a b:Int) (ng:Bool) (vn vd:Value) (ln ld:List Nat) (n1 c1:Nat) (a1:Option Addr) (xs:List Rt) (na:Bool) (va ua:Value) (nb:Bool) (vb ub:Value) (w:World) (hX:IsX w ⟨op,to,a,b,⟨ng,ln,ld⟩⟩ vn vd) (hok:zu c L ⟨op,to,a,b,⟨ng,ln,ld⟩⟩=true) (hins:c.ins=(n1:Int))
  (hx:RdR w (.slice a1 n1 c1) xs) (hxl:xs.length=n1) (hxm:n1<=maxLen) (hxs:∀ x ∈ xs,x.n.length<=1000/\x.d.length<=1000) (ka:IsK w na va ua (R a)) (kb:IsK w nb vb ub (R b)) (fit:opE R ⟨op,to,a,b,⟨ng,ln,ld⟩⟩=0->szq (opV (xs.map Rt.num) R ⟨op,to,a,b,⟨ng,ln,ld⟩⟩)<=1000/\(op=7->szq (R a)*b.natAbs<1000)) (hk:op=6) :
  Calls Tryz.prog 40 #[.agg #[.int .i64 op,.int .i64 to,.int .i64 a,.int .i64 b,.bool ng,vn,vd],.slice a1 n1 c1,aggR na va ua,aggR nb vb ub] w (zar w (zM (xs.map Rt.num) R ⟨op,to,a,b,⟨ng,ln,ld⟩⟩) (opV (xs.map Rt.num) R ⟨op,to,a,b,⟨ng,ln,ld⟩⟩)):=by
 subst hk
 have hw:=hX.1.isF
 have e0:opE R ⟨6,to,a,b,⟨ng,ln,ld⟩⟩=0:=zY (by show (6:Int)≠5;decide) (by show (6:Int)≠7;decide)
 have f:=(fit e0).1
 have ev:=zhv (p:=xs.map Rt.num) (R:=R) (x:=⟨6,to,a,b,⟨ng,ln,ld⟩⟩) rfl
 rw [ev] at f
 refine (does_neg to a b ng vn vd ln ld (.slice a1 n1 c1) na va ua _ _ nb vb ub _ _ w hw ka.1 kb.1).mono ?_
 intro e w' hs
 refine .inr ⟨zI e0 (by rw [ev];exact f),?_⟩
 rw [ev]
 exact hs

theorem zgB (c:Cd) (L:List Int) (R:Int->Rat) (op to a b:Int) (ng:Bool) (vn vd:Value) (ln ld:List Nat) (n1 c1:Nat) (a1:Option Addr) (xs:List Rt) (na:Bool) (va ua:Value) (nb:Bool) (vb ub:Value) (w:World) (hX:IsX w ⟨op,to,a,b,⟨ng,ln,ld⟩⟩ vn vd) (hok:zu c L ⟨op,to,a,b,⟨ng,ln,ld⟩⟩=true) (hins:c.ins=(n1:Int))
  (hx:RdR w (.slice a1 n1 c1) xs) (hxl:xs.length=n1) (hxm:n1<=maxLen) (hxs:∀ x ∈ xs,x.n.length<=1000/\x.d.length<=1000) (ka:IsK w na va ua (R a)) (kb:IsK w nb vb ub (R b)) (fit:opE R ⟨op,to,a,b,⟨ng,ln,ld⟩⟩=0->szq (opV (xs.map Rt.num) R ⟨op,to,a,b,⟨ng,ln,ld⟩⟩)<=1000/\(op=7->szq (R a)*b.natAbs<1000)) (hk:op=10) :
  Calls Tryz.prog 40 #[.agg #[.int .i64 op,.int .i64 to,.int .i64 a,.int .i64 b,.bool ng,vn,vd],.slice a1 n1 c1,aggR na va ua,aggR nb vb ub] w (zar w (zM (xs.map Rt.num) R ⟨op,to,a,b,⟨ng,ln,ld⟩⟩) (opV (xs.map Rt.num) R ⟨op,to,a,b,⟨ng,ln,ld⟩⟩)):=by
 subst hk
 have hw:=hX.1.isF
 have e0:opE R ⟨10,to,a,b,⟨ng,ln,ld⟩⟩=0:=zY (by show (10:Int)≠5;decide) (by show (10:Int)≠7;decide)
 have f:=(fit e0).1
 have ev:=zhC (p:=xs.map Rt.num) (R:=R) (x:=⟨10,to,a,b,⟨ng,ln,ld⟩⟩) rfl
 rw [ev] at f
 refine (zlp to a b ng vn vd ln ld (.slice a1 n1 c1) na va ua _ _ nb vb ub _ _ w hw ka.1 kb.1).mono ?_
 intro e w' hs
 refine .inr ⟨zI e0 (by rw [ev];exact f),?_⟩
 rw [ev]
 exact hs

theorem zfC (c:Cd) (L:List Int) (R:Int->Rat) (op to a b:Int) (ng:Bool) (vn vd:Value) (ln ld:List Nat) (n1 c1:Nat) (a1:Option Addr) (xs:List Rt) (na:Bool) (va ua:Value) (nb:Bool) (vb ub:Value) (w:World) (hX:IsX w ⟨op,to,a,b,⟨ng,ln,ld⟩⟩ vn vd) (hok:zu c L ⟨op,to,a,b,⟨ng,ln,ld⟩⟩=true) (hins:c.ins=(n1:Int))
  (hx:RdR w (.slice a1 n1 c1) xs) (hxl:xs.length=n1) (hxm:n1<=maxLen) (hxs:∀ x ∈ xs,x.n.length<=1000/\x.d.length<=1000) (ka:IsK w na va ua (R a)) (kb:IsK w nb vb ub (R b)) (fit:opE R ⟨op,to,a,b,⟨ng,ln,ld⟩⟩=0->szq (opV (xs.map Rt.num) R ⟨op,to,a,b,⟨ng,ln,ld⟩⟩)<=1000/\(op=7->szq (R a)*b.natAbs<1000)) (hk:op=1) :
  Calls Tryz.prog 40 #[.agg #[.int .i64 op,.int .i64 to,.int .i64 a,.int .i64 b,.bool ng,vn,vd],.slice a1 n1 c1,aggR na va ua,aggR nb vb ub] w (zar w (zM (xs.map Rt.num) R ⟨op,to,a,b,⟨ng,ln,ld⟩⟩) (opV (xs.map Rt.num) R ⟨op,to,a,b,⟨ng,ln,ld⟩⟩)):=by
 subst hk
 have hw:=hX.1.isF
 have e0:opE R ⟨1,to,a,b,⟨ng,ln,ld⟩⟩=0:=zY (by show (1:Int)≠5;decide) (by show (1:Int)≠7;decide)
 have f:=(fit e0).1
 have ev:=zhj (p:=xs.map Rt.num) (R:=R) (x:=⟨1,to,a,b,⟨ng,ln,ld⟩⟩) rfl
 rw [ev] at f
 refine (zjB to a b ng vn vd ln ld (.slice a1 n1 c1) na va ua _ _ nb vb ub _ _ w hX.1 ka.1 kb.1 f).mono ?_
 intro e w' hs
 refine .inr ⟨zI e0 (by rw [ev];exact f),?_⟩
 rw [ev]
 exact hs

theorem zhJ (c:Cd) (L:List Int) (R:Int->Rat) (op to a b:Int) (ng:Bool) (vn vd:Value) (ln ld:List Nat) (n1 c1:Nat) (a1:Option Addr) (xs:List Rt) (na:Bool) (va ua:Value) (nb:Bool) (vb ub:Value) (w:World) (hX:IsX w ⟨op,to,a,b,⟨ng,ln,ld⟩⟩ vn vd) (hok:zu c L ⟨op,to,a,b,⟨ng,ln,ld⟩⟩=true) (hins:c.ins=(n1:Int))
  (hx:RdR w (.slice a1 n1 c1) xs) (hxl:xs.length=n1) (hxm:n1<=maxLen) (hxs:∀ x ∈ xs,x.n.length<=1000/\x.d.length<=1000) (ka:IsK w na va ua (R a)) (kb:IsK w nb vb ub (R b)) (fit:opE R ⟨op,to,a,b,⟨ng,ln,ld⟩⟩=0->szq (opV (xs.map Rt.num) R ⟨op,to,a,b,⟨ng,ln,ld⟩⟩)<=1000/\(op=7->szq (R a)*b.natAbs<1000)) (hk:op=5) :
  Calls Tryz.prog 40 #[.agg #[.int .i64 op,.int .i64 to,.int .i64 a,.int .i64 b,.bool ng,vn,vd],.slice a1 n1 c1,aggR na va ua,aggR nb vb ub] w (zar w (zM (xs.map Rt.num) R ⟨op,to,a,b,⟨ng,ln,ld⟩⟩) (opV (xs.map Rt.num) R ⟨op,to,a,b,⟨ng,ln,ld⟩⟩)):=by
 subst hk
 have hw:=hX.1.isF
 have eE:=zkh (R:=R) (x:=⟨5,to,a,b,⟨ng,ln,ld⟩⟩) rfl
 by_cases h0:R b=0
 ·have e0:opE R ⟨5,to,a,b,⟨ng,ln,ld⟩⟩=3:=by rw [eE];exact if_pos h0
  refine (ziu to a b ng vn vd ln ld (.slice a1 n1 c1) na va ua _ _ nb vb ub _ _ w hw ka.1 kb.1 h0).mono ?_
  intro e w' hs
  have es:zM (xs.map Rt.num) R ⟨5,to,a,b,⟨ng,ln,ld⟩⟩=3:=by rw [zca (by rw [e0];decide),e0]
  rw [es]
  exact .inl ⟨by decide,hs.1,hs.2⟩
 ·have e0:opE R ⟨5,to,a,b,⟨ng,ln,ld⟩⟩=0:=by rw [eE];exact if_neg h0
  have f:=(fit e0).1
  have ev:=zkA (p:=xs.map Rt.num) (R:=R) (x:=⟨5,to,a,b,⟨ng,ln,ld⟩⟩) rfl
  rw [ev] at f
  refine (does_div to a b ng vn vd ln ld (.slice a1 n1 c1) na va ua _ _ nb vb ub _ _ w hw ka.1 kb.1 _ rfl f h0).mono ?_
  intro e w' hs
  refine .inr ⟨zI e0 (by rw [ev];exact f),?_⟩
  rw [ev]
  exact hs

theorem zha (c:Cd) (L:List Int) (R:Int->Rat) (op to a b:Int) (ng:Bool) (vn vd:Value) (ln ld:List Nat) (n1 c1:Nat) (a1:Option Addr) (xs:List Rt) (na:Bool) (va ua:Value) (nb:Bool) (vb ub:Value) (w:World) (hX:IsX w ⟨op,to,a,b,⟨ng,ln,ld⟩⟩ vn vd) (hok:zu c L ⟨op,to,a,b,⟨ng,ln,ld⟩⟩=true) (hins:c.ins=(n1:Int))
  (hx:RdR w (.slice a1 n1 c1) xs) (hxl:xs.length=n1) (hxm:n1<=maxLen) (hxs:∀ x ∈ xs,x.n.length<=1000/\x.d.length<=1000) (ka:IsK w na va ua (R a)) (kb:IsK w nb vb ub (R b)) (fit:opE R ⟨op,to,a,b,⟨ng,ln,ld⟩⟩=0->szq (opV (xs.map Rt.num) R ⟨op,to,a,b,⟨ng,ln,ld⟩⟩)<=1000/\(op=7->szq (R a)*b.natAbs<1000)) (hk:op=7) :
  Calls Tryz.prog 40 #[.agg #[.int .i64 op,.int .i64 to,.int .i64 a,.int .i64 b,.bool ng,vn,vd],.slice a1 n1 c1,aggR na va ua,aggR nb vb ub] w (zar w (zM (xs.map Rt.num) R ⟨op,to,a,b,⟨ng,ln,ld⟩⟩) (opV (xs.map Rt.num) R ⟨op,to,a,b,⟨ng,ln,ld⟩⟩)):=by
 subst hk
 have hw:=hX.1.isF
 have ej:=zcG hok rfl
 simp only at ej
 have eE:=zkw (R:=R) (x:=⟨7,to,a,b,⟨ng,ln,ld⟩⟩) rfl
 simp only at eE
 by_cases h0:R a=0/\b<0
 ·have e0:opE R ⟨7,to,a,b,⟨ng,ln,ld⟩⟩=3:=by rw [eE,if_pos h0]
  refine (zfd to a b ng vn vd ln ld (.slice a1 n1 c1) na va ua nb vb ub _ _ w hw ka.1 kb.1 ej h0.1 h0.2).mono ?_
  intro e w' hs
  have es:zM (xs.map Rt.num) R ⟨7,to,a,b,⟨ng,ln,ld⟩⟩=3:=by rw [zca (by rw [e0];decide),e0]
  rw [es]
  exact .inl ⟨by decide,hs.1,hs.2⟩
 rw [if_neg h0] at eE
 by_cases hl:4096<szq (R a)*b.natAbs
 ·have e0:opE R ⟨7,to,a,b,⟨ng,ln,ld⟩⟩=4:=by rw [eE,if_pos hl]
  have key:Calls Tryz.prog 40 #[.agg #[.int .i64 7,.int .i64 to,.int .i64 a,.int .i64 b,.bool ng,vn,vd],.slice a1 n1 c1,aggR na va ua,aggR nb vb ub] w (fun e w' => e=.returned (.tuple #[aggR false (.slice none 0 0) (.slice none 0 0),.int .i64 4])/\Below w.heap.size w w'):=by
   by_cases hz:R a=0
   ·exact zej to a b ng vn vd ln ld (.slice a1 n1 c1) na va ua nb vb ub _ _ w hw ka.1 kb.1 ej hz hl (fun k => h0 ⟨hz,k⟩)
   ·by_cases hb:b<0
    ·exact zdS to a b ng vn vd ln ld (.slice a1 n1 c1) na va ua nb vb ub _ _ w hw ka.1 kb.1 ej hz hl hb
    ·exact zdR to a b ng vn vd ln ld (.slice a1 n1 c1) na va ua nb vb ub _ _ w hw ka.1 kb.1 ej hz hl hb
  refine key.mono ?_
  intro e w' hs
  have es:zM (xs.map Rt.num) R ⟨7,to,a,b,⟨ng,ln,ld⟩⟩=4:=by rw [zca (by rw [e0];decide),e0]
  rw [es]
  exact .inl ⟨by decide,hs.1,hs.2⟩
 have e0:opE R ⟨7,to,a,b,⟨ng,ln,ld⟩⟩=0:=by rw [eE,if_neg hl]
 have f:=fit e0
 have f7:=f.2 rfl
 have ev:=zkg (p:=xs.map Rt.num) (R:=R) (x:=⟨7,to,a,b,⟨ng,ln,ld⟩⟩) rfl
 simp only at ev
 have fv:=f.1
 clear eE
 by_cases hb:b<0
 ·have hz:R a≠0:=fun k => h0 ⟨k,hb⟩
  rw [if_pos hb] at ev
  obtain ⟨k,rfl⟩:∃ k:Nat,b=-(k:Int):=⟨(-b).toNat,by omega⟩
  have en:(-(k:Int)).natAbs=k:=by omega
  rw [en] at ev f7
  refine (zhY to a k ng vn vd ln ld (.slice a1 n1 c1) na va ua nb vb ub _ _ w hw ka.1 kb.1 (by omega) hz (by omega) (by omega)).mono ?_
  intro e w' hs
  refine .inr ⟨zI e0 fv,?_⟩
  rw [ev]
  exact hs
 ·rw [if_neg hb] at ev
  obtain ⟨k,rfl⟩:∃ k:Nat,b=(k:Int):=⟨b.toNat,by omega⟩
  have en:(k:Int).natAbs=k:=by omega
  rw [en] at ev f7
  have key:Calls Tryz.prog 40 #[.agg #[.int .i64 7,.int .i64 to,.int .i64 a,.int .i64 (k:Int),.bool ng,vn,vd],.slice a1 n1 c1,aggR na va ua,aggR nb vb ub] w (zq w (R a ^ k)):=by
   by_cases hz:R a=0
   ·exact zhG to a k ng vn vd ln ld (.slice a1 n1 c1) na va ua nb vb ub _ _ w hw ka.1 kb.1 (by omega) hz (by omega)
   ·exact zhn to a k ng vn vd ln ld (.slice a1 n1 c1) na va ua nb vb ub _ _ w hw ka.1 kb.1 (by omega) hz (by omega)
  refine key.mono ?_
  intro e w' hs
  refine .inr ⟨zI e0 fv,?_⟩
  rw [ev]
  exact hs

theorem zfD (c:Cd) (L:List Int) (R:Int->Rat) (op to a b:Int) (ng:Bool) (vn vd:Value) (ln ld:List Nat) (n1 c1:Nat) (a1:Option Addr) (xs:List Rt) (na:Bool) (va ua:Value) (nb:Bool) (vb ub:Value) (w:World) (hX:IsX w ⟨op,to,a,b,⟨ng,ln,ld⟩⟩ vn vd) (hok:zu c L ⟨op,to,a,b,⟨ng,ln,ld⟩⟩=true) (hins:c.ins=(n1:Int))
  (hx:RdR w (.slice a1 n1 c1) xs) (hxl:xs.length=n1) (hxm:n1<=maxLen) (hxs:∀ x ∈ xs,x.n.length<=1000/\x.d.length<=1000) (ka:IsK w na va ua (R a)) (kb:IsK w nb vb ub (R b)) (fit:opE R ⟨op,to,a,b,⟨ng,ln,ld⟩⟩=0->szq (opV (xs.map Rt.num) R ⟨op,to,a,b,⟨ng,ln,ld⟩⟩)<=1000/\(op=7->szq (R a)*b.natAbs<1000)) (hk:op=0) :
  Calls Tryz.prog 40 #[.agg #[.int .i64 op,.int .i64 to,.int .i64 a,.int .i64 b,.bool ng,vn,vd],.slice a1 n1 c1,aggR na va ua,aggR nb vb ub] w (zar w (zM (xs.map Rt.num) R ⟨op,to,a,b,⟨ng,ln,ld⟩⟩) (opV (xs.map Rt.num) R ⟨op,to,a,b,⟨ng,ln,ld⟩⟩)):=by
 subst hk
 have hw:=hX.1.isF
 have ia:=zis hok rfl
 simp only at ia
 obtain ⟨A,rfl⟩:=Int.eq_ofNat_of_zero_le ia.1
 have hA:A<n1:=by omega
 have hAx:A<xs.length:=by omega
 obtain ⟨bp,off,rfl,vp,up,s0,s1,s2,k1,k2⟩:=hx.nth hAx
 have hq:=hxs _ (List.getElem_mem hAx)
 have e0:opE R ⟨0,to,(A:Int),b,⟨ng,ln,ld⟩⟩=0:=zY (by show (0:Int)≠5;decide) (by show (0:Int)≠7;decide)
 have f:=(fit e0).1
 have ev:=zfG (p:=xs.map Rt.num) (R:=R) (x:=⟨0,to,(A:Int),b,⟨ng,ln,ld⟩⟩) rfl
 have eg:(xs.map Rt.num).getD (A:Int).toNat 0=xs[A].num:=by
  rw [Int.toNat_natCast]
  simp [hAx]
 rw [ev,eg] at f
 refine (zjs to b ng vn vd ln ld na va ua _ _ nb vb ub _ _ bp off n1 c1 A xs[A].ng vp up xs[A].n xs[A].d w hw ka.1 kb.1 hxm hA ⟨s0,s1,s2⟩ ⟨k1,k2,rfl,hq.1,hq.2⟩ f).mono ?_
 intro e w' hs
 refine .inr ⟨zI e0 (by rw [ev,eg];exact f),?_⟩
 rw [ev,eg]
 exact hs

theorem zge (c:Cd) (L:List Int) (R:Int->Rat) (op to a b:Int) (ng:Bool) (vn vd:Value) (ln ld:List Nat) (n1 c1:Nat) (a1:Option Addr) (xs:List Rt) (na:Bool) (va ua:Value) (nb:Bool) (vb ub:Value) (w:World) (hX:IsX w ⟨op,to,a,b,⟨ng,ln,ld⟩⟩ vn vd) (hok:zu c L ⟨op,to,a,b,⟨ng,ln,ld⟩⟩=true) (hins:c.ins=(n1:Int))
  (hx:RdR w (.slice a1 n1 c1) xs) (hxl:xs.length=n1) (hxm:n1<=maxLen) (hxs:∀ x ∈ xs,x.n.length<=1000/\x.d.length<=1000) (ka:IsK w na va ua (R a)) (kb:IsK w nb vb ub (R b)) (fit:opE R ⟨op,to,a,b,⟨ng,ln,ld⟩⟩=0->szq (opV (xs.map Rt.num) R ⟨op,to,a,b,⟨ng,ln,ld⟩⟩)<=1000/\(op=7->szq (R a)*b.natAbs<1000)) :
  Calls Tryz.prog 40 #[.agg #[.int .i64 op,.int .i64 to,.int .i64 a,.int .i64 b,.bool ng,vn,vd],.slice a1 n1 c1,aggR na va ua,aggR nb vb ub] w (zar w (zM (xs.map Rt.num) R ⟨op,to,a,b,⟨ng,ln,ld⟩⟩) (opV (xs.map Rt.num) R ⟨op,to,a,b,⟨ng,ln,ld⟩⟩)):=by
 rcases zbq op (zaW hok) with h|h|h|h|h|h|h|h|h|h|h
 ·exact zfD c L R op to a b ng vn vd ln ld n1 c1 a1 xs na va ua nb vb ub w hX hok hins hx hxl hxm hxs ka kb fit h
 ·exact zfC c L R op to a b ng vn vd ln ld n1 c1 a1 xs na va ua nb vb ub w hX hok hins hx hxl hxm hxs ka kb fit h
 ·exact zic c L R op to a b ng vn vd ln ld n1 c1 a1 xs na va ua nb vb ub w hX hok hins hx hxl hxm hxs ka kb fit h
 ·exact zht c L R op to a b ng vn vd ln ld n1 c1 a1 xs na va ua nb vb ub w hX hok hins hx hxl hxm hxs ka kb fit h
 ·exact zhS c L R op to a b ng vn vd ln ld n1 c1 a1 xs na va ua nb vb ub w hX hok hins hx hxl hxm hxs ka kb fit h
 ·exact zhJ c L R op to a b ng vn vd ln ld n1 c1 a1 xs na va ua nb vb ub w hX hok hins hx hxl hxm hxs ka kb fit h
 ·exact zhB c L R op to a b ng vn vd ln ld n1 c1 a1 xs na va ua nb vb ub w hX hok hins hx hxl hxm hxs ka kb fit h
 ·exact zha c L R op to a b ng vn vd ln ld n1 c1 a1 xs na va ua nb vb ub w hX hok hins hx hxl hxm hxs ka kb fit h
 ·exact zfW c L R op to a b ng vn vd ln ld n1 c1 a1 xs na va ua nb vb ub w hX hok hins hx hxl hxm hxs ka kb fit h
 ·exact zgr c L R op to a b ng vn vd ln ld n1 c1 a1 xs na va ua nb vb ub w hX hok hins hx hxl hxm hxs ka kb fit h
 ·exact zgB c L R op to a b ng vn vd ln ld n1 c1 a1 xs na va ua nb vb ub w hX hok hins hx hxl hxm hxs ka kb fit h

end Go.Proofs.YtkjcdnlpjldhaaaGreat


namespace Go.Proofs.YtkjcdnlpjldhaaaGreat
open Go.RowKit Tw
attribute [local go_sem ↓] Go.wp_at_zero Go.wp_at_succ

def zhw (w:World) (q:Rat) (e:Ending) (w':World):Prop :=
 ∃ ng a n c a' n' c',e=.returned (aggR ng (.slice a n c) (.slice a' n' c'))/\IsK w' ng (.slice a n c) (.slice a' n' c') q/\Below w.heap.size w w'

theorem zL.kv {w:World} {q:Rat} {e:Ending} {w':World} (h:zL w q e w'):zhw w q e w':=by
 obtain ⟨ng,a,n,c,a',n',c',h1,h2,h3⟩:=h
 exact ⟨ng,a,n,c,a',n',c',h1,h2.isK,h3⟩

theorem IsK.kv {w w':World} {ng:Bool} {a a':Option Addr} {n c n' c':Nat} {q:Rat} (h:IsK w ng (.slice a n c) (.slice a' n' c') q) (hb:Below w.heap.size w w'):zhw w q (.returned (aggR ng (.slice a n c) (.slice a' n' c'))) w' :=
 ⟨_,_,_,_,_,_,_,rfl,h.to hb,hb⟩

theorem zkP {w:World} {q:Rat} {v u:Value} (h1:Rd w v (zB q).n) (h2:Rd w u (zB q).d) (hz:szq q<=1000):IsK w (zB q).ng v u q:=by
 unfold zB at *
 simp only at *
 exact ⟨⟨h1,h2,by rw [vL,vL,zbm],by rw [ze];unfold szq at hz;omega,by rw [ze];unfold szq at hz;omega⟩,rfl⟩

theorem zcO (c:Cd) (v:Value) (u:Value) (qs:List Rat) (r:Int) (w:World) (hc:IsC w c v) (hu:RdR w u (qs.map zB)) (hz:∀ q ∈ qs,szq q<=1000) (hs:qs.length<=c.all.length) (hm:qs.length<=100000) (q:Rat) (ho:zam c.all qs 0 r qs.length=q) :
  Calls Tryz.prog 41 #[aggC c v,u,.int .i64 r] w (zhw w q):=by
 obtain ⟨a0,n0,c0,rfl,H0,hm0⟩:=hc.1.open
 obtain ⟨a9,n9,c9,rfl,H9,hm9⟩:=hu.open
 rw [List.length_map] at H9
 have Hs:=Lib.hid hs
 have Ho:=Lib.hid ho
 have Hz:=Lib.hid hz
 have Hu:=Lib.hid hu
 have hn9:n9<=100000:=by have:=H9.out;omega
 clear hs ho hm hz hu
 go_enter Tryz.func41,Tryz.ntmps41
 go_wp2_with fail
 obtain ⟨W0,az⟩:∃ W0,(w.alloc (.cells #[.int .i64 c.ins,.int .i64 c.rows,.int .i64 c.cols,.int .i64 c.regs,.slice a0 n0 c0] 24)).alloc (.cells #[.bool false,.slice none 0 0,.slice none 0 0] 47)=W0:=⟨_,rfl⟩
 have am:=Lib.hid (show ∀ W',Below W0.heap.size W0 W'->(Bx5 W' w.heap.size (.int .i64 c.ins) (.int .i64 c.rows) (.int .i64 c.cols) (.int .i64 c.regs) (.slice a0 n0 c0)/\Bx3 W' (w.heap.size+1) (.bool false) (.slice none 0 0) (.slice none 0 0)) from fun W' hb => by
   refine ⟨bx5 hb ?_ ?_ ?_ ?_ ?_ ?_ ?_ ?_ ?_ ?_,bx3 hb ?_ ?_ ?_ ?_ ?_ ?_⟩
   all_goals first|assumption|(rw [<- az];simp [go_sem]))
 have zb:Below w.heap.size w W0:=by rw [<- az];exact bS (bN _ _) (bN _ _)
 rw [az]
 clear az
 have i0:=hc.to zb
 have gb:Below W0.heap.size W0 W0:=Below.refl _ _
 obtain ⟨⟨z0,ac,ae,af,aw,ay,ag,ah,ai,aB,aC⟩,⟨z1,ak,al,au,ap,aq,aA⟩⟩:=am.out _ gb
 go_wp2_with fail
 go_loopw [7] (fun i ww => ∃ (k:Nat),k<=n9/\i=.int .i64 ((k:Int) - 1)/\Below W0.heap.size W0 ww/\Hid (zam c.all qs 0 r k=q)) (fun i _ => (intOf i+1).toNat)
 case atStart => exact ⟨n9,Nat.le_refl _,by go_num,gb,by show _=_;rw [<- H9.out];exact Ho.out⟩
 case round =>
  clear gb ac ag ae ah af ai aw aB ay aC ak ap al aq au aA
  obtain ⟨k,hk,rfl,gb,HA⟩:=hrel
  obtain ⟨⟨z0,ac,ae,af,aw,ay,ag,ah,ai,aB,aC⟩,⟨z1,ak,al,au,ap,aq,aA⟩⟩:=am.out _ gb
  rcases k with _|k
  ·have hq0:((0:Int):Rat)=q:=HA.out
   have hz9:=z1
   go_wp2_with fail
   refine (zcS 0 0 _ rfl (by decide) (by decide)).mono ?_
   clear ac ag ae ah af ai aw aB ay aC ak ap al aq au aA
   rintro e w1 ⟨ng1,a1_,n1_,c1_,p1_,m1_,k1_,rfl,g1,bd⟩
   replace gb:=bS gb bd
   obtain ⟨⟨z0,ac,ae,af,aw,ay,ag,ah,ai,aB,aC⟩,⟨z1,ak,al,au,ap,aq,aA⟩⟩:=am.out _ gb
   go_wp2_with fail
   refine bodyPost_ret (zC Tryz.results41 _ _ _ _ _ _ rfl (Tri.set (x0:=.bool false) (y0:=.slice none 0 0) (z0:=.slice none 0 0) ⟨ak,al,au,ap,aq,aA⟩ _ _ _)) rfl (zL.kv (by rw [<- hq0];exact zct (bS zb gb) (by omega) hz9 g1))
  ·have hk1:k<qs.length:=by rw [H9.out];omega
   have hkl:k<c.all.length:=by have:=Hs.out;omega
   obtain ⟨b,off,rfl,h7⟩:=(i0.to gb).1.nth hkl
   obtain ⟨b2,off2,rfl,vn,vd,y0,y1,y2,k1,k2⟩:=Hu.out.nth (i:=k) (by rw [List.length_map];exact hk1)
   have HA1:=HA.out
   rw [zdA hkl hk1] at HA1
   have hqs:=Hz.out _ (List.getElem_mem hk1)
   rw [List.getElem_map] at y0 k1 k2
   obtain ⟨x,hx⟩:∃ x,c.all[k]=x:=⟨_,rfl⟩
   obtain ⟨y,hy'⟩:∃ y,qs[k]=y:=⟨_,rfl⟩
   rw [hy'] at y0 k1 k2 HA1 hqs
   rw [hx] at HA1 h7
   have HK:=Lib.hid (zkP k1 k2 hqs)
   obtain ⟨an,nn,cn,rfl,-,-⟩:=k1.open
   obtain ⟨ad,nd,cd,rfl,-,-⟩:=k2.open
   have hkn0:k<n0:=by have:=H0.out;omega
   obtain ⟨s0,s1,-⟩:=h7
   have e1:((k+1:Nat):Int) - 1=(k:Int):=by omega
   rw [e1]
   have hki:(k:Int)<(n0:Int):=by omega
   have hki9:(k:Int)<(n9:Int):=by omega
   have kV:=bS zb gb
   replace y0:=(kV.cell (p:=⟨b2,off2+k*3,none⟩) (zm y0)).trans y0
   replace y1:=(kV.cell (p:=⟨b2,off2+k*3+1,none⟩) (zm y1)).trans y1
   replace y2:=(kV.cell (p:=⟨b2,off2+k*3+2,none⟩) (zm y2)).trans y2
   clear e1 hx hy' k1 k2 kV
   by_cases h10:x.op=10
   ·have t10:(x.op != 10)=false:=by simp;exact h10
    rw [if_neg (by intro h;exact h.1 h10)] at HA1
    have HA2:=Lib.hid HA1
    clear HA1 HA h10
    go_wp2_with fail
    go_roundw
    case rel => exact ⟨k,by omega,by go_num,gb,HA2⟩
    case measure => simp [intOf] <;> omega
   ·have t10:(x.op != 10)=true:=by simp;exact h10
    by_cases hr:x.to=r
    ·have tr:(x.to == r)=true:=by simp;exact hr
     rw [if_pos ⟨h10,hr⟩] at HA1
     subst HA1
     clear HA h10 hr
     go_wp2_with fail
     exact bodyPost_ret (zC Tryz.results41 _ _ _ _ _ _ rfl (Tri.set (x0:=.bool false) (y0:=.slice none 0 0) (z0:=.slice none 0 0) ⟨ak,al,au,ap,aq,aA⟩ _ _ _)) rfl (HK.out.kv (bT (bS zb gb) (by omega) _ _ _))
    ·have tr:(x.to == r)=false:=by simp;exact hr
     rw [if_neg (by intro h;exact hr h.2)] at HA1
     have HA2:=Lib.hid HA1
     clear HA1 HA h10 hr
     go_wp2_with fail
     go_roundw
     case rel => exact ⟨k,by omega,by go_num,gb,HA2⟩
     case measure => simp [intOf] <;> omega

end Go.Proofs.YtkjcdnlpjldhaaaGreat


namespace Go.Proofs.YtkjcdnlpjldhaaaGreat
open Go.RowKit Tw

section

variable {w w':World} {v u x y z:Value} {q:Rat} {h M T g B:Nat} {R:Nat->Rat} {row:Option Nat} {ng:Bool} {a a':Option Addr} {n c n' c':Nat}

def zaG (w:World) (h M:Nat) (R:Nat->Rat) (row:Option Nat):Prop :=
 ∀ r,r<M->∃ b a n c a' n' c',zX w h (r*3) (.bool b) (.slice a n c) (.slice a' n' c')/\IsK w b (.slice a n c) (.slice a' n' c') (R r)/\Far (.slice a n c) row/\Far (.slice a' n' c') row

theorem zaG.row3 (k:zaG w h M R row):zV w h M (fun _ => True) R:=fun r hr =>
 let ⟨b,a,n,c,a',n',c',o1,k1,_,_⟩:=k r hr
 ⟨b,a,n,c,a',n',c',o1,fun _ => k1⟩

theorem zV.far0 (k:zV w h M (fun _ => True) R):zaG w h M R none:=fun r hr =>
 let ⟨b,a,n,c,a',n',c',o1,k1⟩:=k r hr
 ⟨b,a,n,c,a',n',c',o1,k1 trivial,fun _ _ _ _ _ _ e => (by cases e),fun _ _ _ _ _ _ e => (by cases e)⟩

theorem zaG.to (k:zaG w h M R row) (hb:Below w.heap.size w w'):zaG w' h M R row:=fun r hr =>
 let ⟨b,a,n,c,a',n',c',o1,k1,f1,f2⟩:=k r hr
 ⟨b,a,n,c,a',n',c',o1.to hb,k1.to hb,f1,f2⟩

theorem zaG.drew (k:zaG w h M R row):zaG w.drew h M R row:=k.to (Below.refl _ _).drew

theorem zaG.cast {R':Nat->Rat} (k:zaG w h M R row) (e:∀ r,r<M->R r=R' r):zaG w h M R' row:=fun r hr => by
 rw [<- e r hr];exact k r hr

theorem ziH {b o:Nat} {c0 c1 c2:Value} (k:zX w b o c0 c1 c2) (hg:w.grownBy w' row) (hne:row≠some b):zX w' b o c0 c1 c2:=by
 have hl:=zm k.1
 have f:∀ p,w'.cell? ⟨b,p,none⟩=w.cell? ⟨b,p,none⟩:=fun p => hg.cell_far ⟨b,p,none⟩ hl (fun e => hne e.symm)
 have z:∀ p,w'.frozen? ⟨b,p,none⟩=w.frozen? ⟨b,p,none⟩:=fun p => hg.frozen_far ⟨b,p,none⟩ hl (fun e => hne e.symm)
 exact ⟨(f _).trans k.1,(f _).trans k.2.1,(f _).trans k.2.2.1,(z _).trans k.2.2.2.1,(z _).trans k.2.2.2.2.1,(z _).trans k.2.2.2.2.2⟩

theorem zaG.grown (k:zaG w h M R row) (hg:w.grownBy w' row) (hne:row≠some h) (hat:row=some g\/w.heap.size<=g):zaG w' h M R (some g):=fun r hr =>
 let ⟨b,a,n,c,a',n',c',o1,k1,f1,f2⟩:=k r hr
 have far:∀ {s:Value} {l:List Nat},Rd w s l->Far s row->Far s (some g):=fun hr hf => by
  rcases hat with e|e
  ·rw [<- e];exact hf
  ·exact hr.far_new e
 ⟨b,a,n,c,a',n',c',ziH o1 hg hne,k1.grown hg f1 f2,far k1.1.1 f1,far k1.1.2.1 f2⟩

theorem zaG.put (k:zaG w h M R row) (hT:T<M) (hk:IsK w ng (.slice a n c) (.slice a' n' c') q) (f1:Far (.slice a n c) row) (f2:Far (.slice a' n' c') row) :
  zaG (put3 w h (T*3) (.bool ng) (.slice a n c) (.slice a' n' c')) h M (fun r => if r=T then q else R r) row:=by
 obtain ⟨b0,a0,n0,c0,a0',n0',c0',o0,_⟩:=k T hT
 intro r hr
 by_cases e:r=T
 ·subst e
  exact ⟨ng,a,n,c,a',n',c',o0.put_self _ _ _,by show IsK _ _ _ _ (if r=r then q else R r);rw [if_pos rfl];exact hk.put3 o0 _ _ _,f1,f2⟩
 ·obtain ⟨b1,a1,n1,c1,a1',n1',c1',o1,k1,g1,g2⟩:=k r hr
  refine ⟨b1,a1,n1,c1,a1',n1',c1',o1.put (.inr (by omega)) _ _ _,?_,g1,g2⟩
  show IsK _ _ _ _ (if r=T then q else R r)
  rw [if_neg e]
  exact k1.put3 o0 _ _ _

theorem zaG.open3 (k:zaG w h M R row) (hT:T<M):∃ b a n c a' n' c',zX w h (T*3) (.bool b) (.slice a n c) (.slice a' n' c') :=
 let ⟨b,a,n,c,a',n',c',o1,_⟩:=k T hT
 ⟨b,a,n,c,a',n',c',o1⟩

theorem zaG.setP {p:Nat} (k:zaG w h M R row) (hne:h≠B) {c0:Value} (hc:w.cell? ⟨B,p,none⟩=some c0) (hn:∀ z,c0≠.int .u32 z) (x:Value):zaG (w.setCell ⟨B,p,none⟩ x) h M R row:=fun r hr =>
 let ⟨b,a,n,c,a',n',c',h1,h2,f1,f2⟩:=k r hr
 ⟨b,a,n,c,a',n',c',h1.setOne hne x,⟨⟨h2.1.1.put hc hn x,h2.1.2.1.put hc hn x,h2.1.2.2⟩,h2.2⟩,f1,f2⟩

theorem zap.setP {base o:Nat} {qs:List Rat} (k:zap base w v qs) (hne:v.ownBlock≠some B) {c0:Value} (hc:w.cell? ⟨B,o,none⟩=some c0) (hn:∀ z,c0≠.int .u32 z) (x:Value):zap base (w.setCell ⟨B,o,none⟩ x) v qs:=by
 obtain ⟨xs,h1,h2⟩:=k
 refine ⟨xs,Go.ownsRow_setCell_other h1 (fun e => hne e) x,fun k hk => ?_⟩
 obtain ⟨b,a1,n1,c1,a2,n2,c2,s0,s1,s2,k1,f1,f2⟩:=h2 k hk
 exact ⟨b,a1,n1,c1,a2,n2,c2,s0,s1,s2,⟨⟨k1.1.1.put hc hn x,k1.1.2.1.put hc hn x,k1.1.2.2⟩,k1.2⟩,f1,f2⟩

theorem zap.put3 {base o:Nat} {qs:List Rat} (k:zap base w v qs) (hne:v.ownBlock≠some B) {b0:Bool} {a a':Option Addr} {n c n' c':Nat} (ho:zX w B o (.bool b0) (.slice a n c) (.slice a' n' c')) (x y z:Value) :
  zap base (Go.Proofs.YtkjcdnlpjldhaaaGreat.put3 w B o x y z) v qs :=
 ((k.setP hne ho.1 (fun z e => by cases e) x).setP hne (cP ho.2.1 (.inr (by omega)) _) (fun z e => by cases e) y).setP hne (cP (cP ho.2.2.1 (.inr (by omega)) _) (.inr (by omega)) _) (fun z e => by cases e) z

theorem Tri.setZ {B:Nat} (t:Tri w B x y z) (v:Value):Tri (w.setCell ⟨B,2,none⟩ v) B x y v :=
 ⟨cP t.1 (.inr (by decide)) _,cP t.2.1 (.inr (by decide)) _,zaa t.2.2.1 _,by simp [go_sem,t.2.2.2.1],by simp [go_sem,t.2.2.2.2.1],by simp [go_sem,t.2.2.2.2.2]⟩

theorem Tri.grown {B:Nat} (t:Tri w B x y z) (hg:w.grownBy w' row) (hne:row≠some B):Tri w' B x y z:=by
 have f:∀ p,w'.cell? ⟨B,p,none⟩=w.cell? ⟨B,p,none⟩:=fun p => hg.cell_far ⟨B,p,none⟩ t.lt (fun e => hne e.symm)
 have z:∀ p,w'.frozen? ⟨B,p,none⟩=w.frozen? ⟨B,p,none⟩:=fun p => hg.frozen_far ⟨B,p,none⟩ t.lt (fun e => hne e.symm)
 exact ⟨(f _).trans t.1,(f _).trans t.2.1,(f _).trans t.2.2.1,(z _).trans t.2.2.2.1,(z _).trans t.2.2.2.2.1,(z _).trans t.2.2.2.2.2⟩

theorem Duo.grown {B:Nat} (t:Duo w B x y) (hg:w.grownBy w' row) (hne:row≠some B):Duo w' B x y:=by
 have f:∀ p,w'.cell? ⟨B,p,none⟩=w.cell? ⟨B,p,none⟩:=fun p => hg.cell_far ⟨B,p,none⟩ t.lt (fun e => hne e.symm)
 have z:∀ p,w'.frozen? ⟨B,p,none⟩=w.frozen? ⟨B,p,none⟩:=fun p => hg.frozen_far ⟨B,p,none⟩ t.lt (fun e => hne e.symm)
 exact ⟨(f _).trans t.1,(f _).trans t.2.1,(z _).trans t.2.2.1,(z _).trans t.2.2.2⟩

theorem Tri.setOne {B b o:Nat} (t:Tri w B x y z) (hne:B≠b) (v:Value):Tri (w.setCell ⟨b,o,none⟩ v) B x y z :=
 ⟨cP t.1 (.inl hne) _,cP t.2.1 (.inl hne) _,cP t.2.2.1 (.inl hne) _,by simp [go_sem,t.2.2.2.1],by simp [go_sem,t.2.2.2.2.1],by simp [go_sem,t.2.2.2.2.2]⟩

theorem Tri.put3 {B b o:Nat} (t:Tri w B x y z) (hne:B≠b) (x' y' z':Value):Tri (Go.Proofs.YtkjcdnlpjldhaaaGreat.put3 w b o x' y' z') B x y z:=((t.setOne hne x').setOne hne y').setOne hne z'

def BoxQL (W:World) (q:Rat) (s:Value) (wx:World):Prop :=
 ∃ B ng a n c p m k lo hi,s=.pointer (some ⟨B,0,none⟩)/\W.heap.size<=B/\Tri wx B (.bool ng) (.slice a n c) (.slice p m k)/\zP lo hi wx ng (.slice a n c) (.slice p m k) q/\Below W.heap.size W wx/\W.heap.size<=lo

theorem zeD {W:World} {lo hi B:Nat} {p:Option Addr} {m k:Nat} {x0 y0 z0:Value} (f:Tri w B x0 y0 z0) (g:zP lo hi w ng (.slice a n c) (.slice p m k) q) (s:B<lo\/hi<=B) (gb:Below W.heap.size W w) (hB:W.heap.size<=B) (hlo:W.heap.size<=lo) :
  BoxQL W q (.pointer (some ⟨B,0,none⟩)) (zbP w B (.bool ng) (.slice a n c) (.slice p m k)) :=
 ⟨B,ng,a,n,c,p,m,k,lo,hi,rfl,hB,f.set _ _ _,g.set s _ _ _,bT gb hB _ _ _,hlo⟩

theorem zkS {W:World} {lo hi:Nat} {p:Option Addr} {m k:Nat} {t:TypeId} (g:zP lo hi w ng (.slice a n c) (.slice p m k) q) (gb:Below W.heap.size W w) (hlo:W.heap.size<=lo):BoxQL W q (.pointer (some ⟨w.heap.size,0,none⟩)) (w.alloc (.cells #[.bool ng,.slice a n c,.slice p m k] t)) :=
 ⟨_,ng,a,n,c,p,m,k,lo,hi,rfl,gb.size,zd _ _ _ _ _,g.alloc _,bS gb (bN _ _),hlo⟩

def zbu (W0 ww:World) (jB h nB M cj:Nat) (rows cols:Int) (s:St) (vD:Value) (qs:List Rat):Prop :=
 Below W0.heap.size W0 ww/\Tri ww jB (.int .i64 rows) (.int .i64 cols) (.slice (some ⟨h,0,none⟩) M cj)/\zaG ww h M (fun i => s.J i) vD.ownBlock/\Duo ww nB (.int .i64 s.k) (.int .i64 s.t)/\zap (nB+1) ww vD qs /\
  W0.heap.size<=jB/\jB<h/\h<nB

variable {W0 ww:World} {jB nB cj:Nat} {rows cols:Int} {s:St} {vD:Value} {qs:List Rat}

theorem zbu.to (k:zbu W0 ww jB h nB M cj rows cols s vD qs) (hb:Below ww.heap.size ww w'):zbu W0 w' jB h nB M cj rows cols s vD qs :=
 ⟨bS k.1 hb,k.2.1.to hb,k.2.2.1.to hb,k.2.2.2.1.to hb,k.2.2.2.2.1.to hb,k.2.2.2.2.2⟩

theorem zbu.drew (k:zbu W0 ww jB h nB M cj rows cols s vD qs):zbu W0 ww.drew jB h nB M cj rows cols s vD qs:=k.to (Below.refl _ _).drew

theorem zbu.ne (k:zbu W0 ww jB h nB M cj rows cols s vD qs) {B:Nat} (hB:B<=nB):vD.ownBlock≠some B:=fun e => by
 have:=(k.2.2.2.2.1.lt _ e).1
 omega

theorem zbu.far (k:zbu W0 ww jB h nB M cj rows cols s vD qs) {v:Value} {l:List Nat} {lo:Nat} (hv:Own lo w' v l) (hlo:ww.heap.size<=lo):Far v vD.ownBlock :=
 Far.of_lt hv fun j e => Nat.lt_of_lt_of_le (k.2.2.2.2.1.lt _ e).2 hlo

theorem zbu.push (k:zbu W0 ww jB h nB M cj rows cols s vD qs) {xs:List Value} {w4:World} {g cap:Nat} {t:TypeId} {K:Nat} (hK:qs.length=K) (hx:ww.ownsRow (nB+1) 47 3 vD K xs) (hn:nB+1<=ww.heap.size)
  (hk:IsK ww ng (.slice a n c) (.slice a' n' c') q) (f1:Far (.slice a n c) vD.ownBlock) (f2:Far (.slice a' n' c') vD.ownBlock)
  (hown:w4.ownsRow (nB+1) 47 3 (.slice (some ⟨g,0,none⟩) (K+1) cap) (K+1) (xs++[.bool ng,.slice a n c,.slice a' n' c']))
  (hgrow:(ww.alloc (.cells #[.bool ng,.slice a n c,.slice a' n' c'] t)).grownBy w4 vD.ownBlock) (hat:vD.ownBlock=some g\/g=(ww.alloc (.cells #[.bool ng,.slice a n c,.slice a' n' c'] t)).heap.size) :
  zbu W0 w4 jB h nB M cj rows cols s (.slice (some ⟨g,0,none⟩) (K+1) cap) (qs++[q])/\IsK w4 ng (.slice a n c) (.slice a' n' c') q/\Far (.slice a n c) (some g)/\Far (.slice a' n' c') (some g)/\Below (nB+1) ww w4:=by
 subst hK
 have hb:=bN ww (.cells #[.bool ng,.slice a n c,.slice a' n' c'] t)
 have k2:=k.to hb
 have hk2:=hk.to hb
 have hat2:vD.ownBlock=some g\/(ww.alloc (.cells #[.bool ng,.slice a n c,.slice a' n' c'] t)).heap.size<=g:=hat.imp id (fun e => by omega)
 have far:∀ {s:Value} {l:List Nat},Rd (ww.alloc (.cells #[.bool ng,.slice a n c,.slice a' n' c'] t)) s l->Far s vD.ownBlock->Far s (some g):=fun hr hf => by
  rcases hat2 with e|e
  ·rw [<- e];exact hf
  ·exact hr.far_new e
 have hbw:Below (nB+1) ww w4:=(hb.mono (by omega)).grown hgrow (Nat.le_trans hn hb.size) (fun j e => (k2.2.2.2.2.1.lt j e).1)
 refine ⟨⟨?_,k2.2.1.grown hgrow (k.ne (by have:=k.2.2.2.2.2;omega)),?_,k2.2.2.2.1.grown hgrow (k.ne (Nat.le_refl _)),zap.push k2.2.2.2.2.1 (zaN hx hb) hown hgrow hat hk2 f1 f2,k.2.2.2.2.2⟩,hk2.grown hgrow f1 f2,far hk2.1.1 f1,far hk2.1.2.1 f2,hbw⟩
 ·exact k.1.trans (hbw.mono (by have:=k.2.2.2.2.2;omega))
 ·exact k2.2.2.1.grown hgrow (k.ne (by have:=k.2.2.2.2.2;omega)) hat2

theorem zbu.count (k:zbu W0 ww jB h nB M cj rows cols s vD qs) (z:Int):zbu W0 (ww.setCell ⟨nB,0,none⟩ (.int .i64 z)) jB h nB M cj rows cols { s with k:=z } vD qs:=by
 have hne:=k.ne (Nat.le_refl nB)
 obtain ⟨h1,h2,h3,h5,h6,h7,h8,h9⟩:=k
 exact ⟨h1.setCell (show W0.heap.size<=nB by omega) _,h2.setOne (by omega) _,h3.setP (by omega) h5.1 (fun z e => by cases e) _,
  ⟨zaa h5.1 _,cP h5.2.1 (.inr (by decide)) _,by simp [go_sem,h5.2.2.1],by simp [go_sem,h5.2.2.2]⟩,h6.setP hne h5.1 (fun z e => by cases e) _,h7,h8,h9⟩

theorem zbu.times (k:zbu W0 ww jB h nB M cj rows cols s vD qs) (z:Int):zbu W0 (ww.setCell ⟨nB,1,none⟩ (.int .i64 z)) jB h nB M cj rows cols { s with t:=z } vD qs:=by
 have hne:=k.ne (Nat.le_refl nB)
 obtain ⟨h1,h2,h3,h5,h6,h7,h8,h9⟩:=k
 exact ⟨h1.setCell (show W0.heap.size<=nB by omega) _,h2.setOne (by omega) _,h3.setP (by omega) h5.2.1 (fun z e => by cases e) _,
  ⟨cP h5.1 (.inr (by decide)) _,zaa h5.2.1 _,by simp [go_sem,h5.2.2.1],by simp [go_sem,h5.2.2.2]⟩,h6.setP hne h5.2.1 (fun z e => by cases e) _,h7,h8,h9⟩

theorem zbu.tell (k:zbu W0 ww jB h nB M cj rows cols s vD qs) (hT:T<M) (hk:IsK ww ng (.slice a n c) (.slice a' n' c') q) (f1:Far (.slice a n c) vD.ownBlock) (f2:Far (.slice a' n' c') vD.ownBlock) :
  zbu W0 (Go.Proofs.YtkjcdnlpjldhaaaGreat.put3 ww h (T*3) (.bool ng) (.slice a n c) (.slice a' n' c')) jB h nB M cj rows cols { s with J:=upd s.J (T:Int) q } vD qs:=by
 have hne:=k.ne (show h<=nB by have:=k.2.2.2.2.2;omega)
 obtain ⟨h1,h2,h3,h5,h6,h7,h8,h9⟩:=k
 obtain ⟨b0,a0,n0,c0,a0',n0',c0',o0⟩:=h3.open3 hT
 refine ⟨zdE h1 (by omega) _ _ _,h2.put3 (by omega) _ _ _,(h3.put hT hk f1 f2).cast (fun r hr => ?_),h5.put3 (by omega) _ _ _,h6.put3 hne o0 _ _ _,h7,h8,h9⟩
 by_cases e:r=T
 ·subst e
  show (if r=r then q else _)=upd s.J (r:Int) q (r:Int)
  rw [if_pos rfl,zbJ]
 ·have hne:(r:Int)≠(T:Int):=by omega
  show (if r=T then q else s.J r)=upd s.J (T:Int) q (r:Int)
  rw [if_neg e,zbk _ _ hne]

theorem zbu.cast {s':St} (k:zbu W0 ww jB h nB M cj rows cols s vD qs) (eJ:s'.J=s.J) (ek:s'.k=s.k) (et:s'.t=s.t):zbu W0 ww jB h nB M cj rows cols s' vD qs:=by
 unfold zbu at k ⊢
 rw [eJ,ek,et]
 exact k

theorem next_J {p:List Rat} {x:Ins} (e:x.op≠10):(s.next p x).J=s.J:=by unfold St.next;rw [if_neg e]

theorem next_J10 {p:List Rat} {x:Ins} (e:x.op=10):(s.next p x).J=upd s.J x.to (opV p s.R x):=by unfold St.next;rw [if_pos e]

theorem next_R {p:List Rat} {x:Ins} {r:Int}:(if x.op≠10/\x.to=r then opV p s.R x else s.R r)=(s.next p x).R r:=by
 unfold St.next
 by_cases e:x.op=10
 ·rw [if_pos e,if_neg (fun k => k.1 e)]
 ·rw [if_neg e]
  show _=upd s.R x.to (opV p s.R x) r
  by_cases e2:x.to=r
  ·rw [if_pos ⟨e,e2⟩,<- e2,zbJ]
  ·rw [if_neg (fun k => e2 k.2),zbk _ _ (fun k => e2 k.symm)]

theorem does_ok {o:Int} {q q':Rat} {F:Nat} {ar:Array Value} (h:Calls Tryz.prog F ar w (zar w o q)) (h0:o=0) (hq:q=q'):Calls Tryz.prog F ar w (zq w q'):=by
 subst hq
 refine h.mono fun e w' hs => ?_
 rcases hs with ⟨k,_⟩|⟨_,k⟩
 ·exact absurd h0 k
 ·exact k

theorem does_err {o o':Int} {q:Rat} {F:Nat} {ar:Array Value} (h:Calls Tryz.prog F ar w (zar w o q)) (h0:o=o') (hne:o'≠0):Calls Tryz.prog F ar w (fun e w' => e=.returned (.tuple #[aggR false (.slice none 0 0) (.slice none 0 0),.int .i64 o'])/\Below w.heap.size w w'):=by
 subst h0
 refine h.mono fun e w' hs => ?_
 rcases hs with ⟨_,k⟩|⟨k,_⟩
 ·exact k
 ·exact absurd k hne

end

end Go.Proofs.YtkjcdnlpjldhaaaGreat

