/-
  The walks of integers' texts.
-/
import Derived.Test.YteokdkcanckfeaaWholeText
import Derived.Test.YteokdkcanckfeaaRef7
import Derived.Deep.DrawnRows
import Derived.Laws.EntriesVeiled
namespace Go.Proofs.Yteokdkcanckfeaa
open Go.RowKit Tw
set_option linter.unusedVariables false
set_option linter.unusedSimpArgs false
attribute [local go_sem ↓] Go.wp_at_zero Go.wp_at_succ

set_option maxRecDepth 100000 in
set_option maxHeartbeats 4000000 in
theorem whole_print (b : Bool) (va : Value) (la : List Nat) (w : World) (ha : Rd w va la) (hla : la.length ≤ 5000) :
    Calls Try.prog 30 #[aggI b va] w (fun e w' => e = .returned (.string (ba (itext (sgn b (val la))))) ∧ Below w.heap.size w w') := by
  have hsa := sz_val ha.1
  have Hna := Lib.hid (sgn_abs b (val la))
  have Hnd := Lib.hid (show (digs (sgn b (val la)).natAbs).length ≤ 50001 by rw [sgn_abs]; have := ndig_bound ha.1; unfold ndig at this; omega)
  have hlen : (limbs (sgn b (val la)).natAbs).length ≤ 5000 := by rw [sz_def, sgn_abs]; omega
  have hadd : ∀ ww : World, (Op.stringOp .add ⟨#[45]⟩ (ba (digs (sgn b (val la)).natAbs))).run Try.prog ww = .ok (.string (ba (45 :: digs (sgn b (val la)).natAbs))) ww := fun ww => by
    rw [show (⟨#[45]⟩ : ByteArray) = ba [45] from rfl, run_string_add_sum ww _ _ (by rw [ba_size, ba_size]; have := Hnd.out; simp; omega), ba_append]; rfl
  obtain ⟨a0, n0, c0, rfl, H0, hm0⟩ := ha.open
  go_enter Try.func30, Try.ntmps30
  go_wp2_with fail
  obtain ⟨W0, hW0⟩ : ∃ W0, w.alloc (.cells #[.bool b, .slice a0 n0 c0] 41) = W0 := ⟨_, rfl⟩
  have x0_0 : W0.cell? ⟨w.heap.size, 0, none⟩ = some (.bool b) := by rw [← hW0]; simp [go_sem]
  have y0_0 : W0.frozen? ⟨w.heap.size, 0, none⟩ = false := by rw [← hW0]; simp [go_sem]
  have x0_1 : W0.cell? ⟨w.heap.size, 1, none⟩ = some (.slice a0 n0 c0) := by rw [← hW0]; simp [go_sem]
  have y0_1 : W0.frozen? ⟨w.heap.size, 1, none⟩ = false := by rw [← hW0]; simp [go_sem]
  have zs : w.heap.size < W0.heap.size := by rw [← hW0]; simp
  have zb : Below w.heap.size w W0 := by rw [← hW0]; exact below_new _ _
  rw [hW0]
  clear hW0
  have g0 := ha.to zb
  have h00 : w.heap.size < W0.heap.size := zs
  refine (whole_fix b _ la _ g0 (by omega)).mono ?_
  rintro e w2 ⟨v2, rfl, hv2, hb2⟩
  obtain ⟨a2_, n2_, c2_, rfl, H2, hm2⟩ := hv2.rd.open
  have hw_w2 : w.heap.size ≤ W0.heap.size := (by omega)
  replace x0_0 := (hb2.cell (p := ⟨w.heap.size, 0, none⟩) (by show w.heap.size < W0.heap.size; omega)).trans x0_0
  replace y0_0 := (hb2.frozen (p := ⟨w.heap.size, 0, none⟩) (by show w.heap.size < W0.heap.size; omega)).trans y0_0
  replace x0_1 := (hb2.cell (p := ⟨w.heap.size, 1, none⟩) (by show w.heap.size < W0.heap.size; omega)).trans x0_1
  replace y0_1 := (hb2.frozen (p := ⟨w.heap.size, 1, none⟩) (by show w.heap.size < W0.heap.size; omega)).trans y0_1
  replace zs := Nat.lt_of_lt_of_le zs hb2.size
  replace g0 := g0.to hb2
  replace zb := below_step zb hb2
  have g2 := hv2.rd
  generalize hng2 : decide (sgn b (val la) < 0) = ng2
  have Hng2 := Lib.hid hng2
  clear hng2
  obtain ⟨k0, k1⟩ := two_cells (x := .bool ng2) (y := .slice a2_ n2_ c2_) x0_0 x0_1
  have g9 := ((hv2.setOther (p := ⟨w.heap.size, 0, none⟩) h00 (.bool ng2)).setOther (p := ⟨w.heap.size, 1, none⟩) h00 (.slice a2_ n2_ c2_)).rd
  have zb9 := (zb.setCell (p := ⟨w.heap.size, 0, none⟩) (Nat.le_refl _) (.bool ng2)).setCell (p := ⟨w.heap.size, 1, none⟩) (Nat.le_refl _) (.slice a2_ n2_ c2_)
  cases hq : ng2
  rotate_left
  · subst hq
    have Ht := Lib.hid (show ba (itext (sgn b (val la))) = ba (45 :: digs (sgn b (val la)).natAbs) by unfold itext; rw [if_pos (by simpa using Hng2.out)])
    go_wp2_with fail
    refine (deci_print _ _ _ g9 hlen).mono ?_
    rintro e w3 ⟨rfl, hb3⟩
    rw [val_limbs]
    go_wp2_with fail
    go_ret
    exact ⟨by rw [Ht.out]; rfl, below_step zb9 hb3⟩
  
  · subst hq
    have Ht := Lib.hid (show ba (itext (sgn b (val la))) = ba (digs (sgn b (val la)).natAbs) by unfold itext; rw [if_neg (by simpa using Hng2.out)])
    go_wp2_with fail
    refine (deci_print _ _ _ g9 hlen).mono ?_
    rintro e w3 ⟨rfl, hb3⟩
    rw [val_limbs]
    go_wp2_with fail
    go_ret
    exact ⟨by rw [Ht.out]; rfl, below_step zb9 hb3⟩

set_option maxRecDepth 100000 in
set_option maxHeartbeats 4000000 in
theorem ref7_print (b : Bool) (va : Value) (la : List Nat) (w : World) (ha : Rd w va la) (hla : la.length ≤ 5000) :
    Calls Try.prog 32 #[aggI b va] w (fun e w' => e = .returned (.string (ba (itext (sgn b (val la))))) ∧ Below w.heap.size w w') := by
  have hsa := sz_val ha.1
  have Hna := Lib.hid (sgn_abs b (val la))
  have Hnd := Lib.hid (show (digs (sgn b (val la)).natAbs).length ≤ 50001 by rw [sgn_abs]; have := ndig_bound ha.1; unfold ndig at this; omega)
  have hlen : (limbs (sgn b (val la)).natAbs).length ≤ 5000 := by rw [sz_def, sgn_abs]; omega
  have hadd : ∀ ww : World, (Op.stringOp .add ⟨#[45]⟩ (ba (digs (sgn b (val la)).natAbs))).run Try.prog ww = .ok (.string (ba (45 :: digs (sgn b (val la)).natAbs))) ww := fun ww => by
    rw [show (⟨#[45]⟩ : ByteArray) = ba [45] from rfl, run_string_add_sum ww _ _ (by rw [ba_size, ba_size]; have := Hnd.out; simp; omega), ba_append]; rfl
  obtain ⟨a0, n0, c0, rfl, H0, hm0⟩ := ha.open
  go_enter Try.func32, Try.ntmps32
  go_wp2_with fail
  obtain ⟨W0, hW0⟩ : ∃ W0, w.alloc (.cells #[.bool b, .slice a0 n0 c0] 41) = W0 := ⟨_, rfl⟩
  have x0_0 : W0.cell? ⟨w.heap.size, 0, none⟩ = some (.bool b) := by rw [← hW0]; simp [go_sem]
  have y0_0 : W0.frozen? ⟨w.heap.size, 0, none⟩ = false := by rw [← hW0]; simp [go_sem]
  have x0_1 : W0.cell? ⟨w.heap.size, 1, none⟩ = some (.slice a0 n0 c0) := by rw [← hW0]; simp [go_sem]
  have y0_1 : W0.frozen? ⟨w.heap.size, 1, none⟩ = false := by rw [← hW0]; simp [go_sem]
  have zs : w.heap.size < W0.heap.size := by rw [← hW0]; simp
  have zb : Below w.heap.size w W0 := by rw [← hW0]; exact below_new _ _
  rw [hW0]
  clear hW0
  have g0 := ha.to zb
  have h00 : w.heap.size < W0.heap.size := zs
  refine (ref7_fix b _ la _ g0 (by omega)).mono ?_
  rintro e w2 ⟨v2, rfl, hv2, hb2⟩
  obtain ⟨a2_, n2_, c2_, rfl, H2, hm2⟩ := hv2.rd.open
  have hw_w2 : w.heap.size ≤ W0.heap.size := (by omega)
  replace x0_0 := (hb2.cell (p := ⟨w.heap.size, 0, none⟩) (by show w.heap.size < W0.heap.size; omega)).trans x0_0
  replace y0_0 := (hb2.frozen (p := ⟨w.heap.size, 0, none⟩) (by show w.heap.size < W0.heap.size; omega)).trans y0_0
  replace x0_1 := (hb2.cell (p := ⟨w.heap.size, 1, none⟩) (by show w.heap.size < W0.heap.size; omega)).trans x0_1
  replace y0_1 := (hb2.frozen (p := ⟨w.heap.size, 1, none⟩) (by show w.heap.size < W0.heap.size; omega)).trans y0_1
  replace zs := Nat.lt_of_lt_of_le zs hb2.size
  replace g0 := g0.to hb2
  replace zb := below_step zb hb2
  have g2 := hv2.rd
  generalize hng2 : decide (sgn b (val la) < 0) = ng2
  have Hng2 := Lib.hid hng2
  clear hng2
  cases hq : ng2
  rotate_left
  · subst hq
    have Ht := Lib.hid (show ba (itext (sgn b (val la))) = ba (45 :: digs (sgn b (val la)).natAbs) by unfold itext; rw [if_pos (by simpa using Hng2.out)])
    go_wp2_with fail
    obtain ⟨W2, hW2⟩ : ∃ W2, w2.alloc (.cells #[.bool true, .slice a2_ n2_ c2_] 41) = W2 := ⟨_, rfl⟩
    have hb_W2 : Below w2.heap.size w2 W2 := by rw [← hW2]; exact below_new _ _
    have zs_W2 : w2.heap.size < W2.heap.size := by rw [← hW2]; simp
    have hw_W2 : w.heap.size ≤ w2.heap.size := (by omega)
    replace x0_0 := (hb_W2.cell (p := ⟨w.heap.size, 0, none⟩) (by show w.heap.size < w2.heap.size; omega)).trans x0_0
    replace y0_0 := (hb_W2.frozen (p := ⟨w.heap.size, 0, none⟩) (by show w.heap.size < w2.heap.size; omega)).trans y0_0
    replace x0_1 := (hb_W2.cell (p := ⟨w.heap.size, 1, none⟩) (by show w.heap.size < w2.heap.size; omega)).trans x0_1
    replace y0_1 := (hb_W2.frozen (p := ⟨w.heap.size, 1, none⟩) (by show w.heap.size < w2.heap.size; omega)).trans y0_1
    replace zs := Nat.lt_of_lt_of_le zs hb_W2.size
    replace g0 := g0.to hb_W2
    replace g2 := g2.to hb_W2
    replace zb := below_step zb hb_W2
    have x5_0 : W2.cell? ⟨w2.heap.size, 0, none⟩ = some (.bool true) := by rw [← hW2]; simp [go_sem]
    have y5_0 : W2.frozen? ⟨w2.heap.size, 0, none⟩ = false := by rw [← hW2]; simp [go_sem]
    have x5_1 : W2.cell? ⟨w2.heap.size, 1, none⟩ = some (.slice a2_ n2_ c2_) := by rw [← hW2]; simp [go_sem]
    have y5_1 : W2.frozen? ⟨w2.heap.size, 1, none⟩ = false := by rw [← hW2]; simp [go_sem]
    rw [hW2]
    clear hW2
    have g9 := g2
    have zb9 := zb
    refine (ref6_print _ _ _ g9 hlen).mono ?_
    rintro e w3 ⟨rfl, hb3⟩
    rw [val_limbs]
    go_wp2_with fail
    go_ret
    exact ⟨by rw [Ht.out]; rfl, below_step zb9 hb3⟩
  
  · subst hq
    have Ht := Lib.hid (show ba (itext (sgn b (val la))) = ba (digs (sgn b (val la)).natAbs) by unfold itext; rw [if_neg (by simpa using Hng2.out)])
    go_wp2_with fail
    obtain ⟨W2, hW2⟩ : ∃ W2, w2.alloc (.cells #[.bool false, .slice a2_ n2_ c2_] 41) = W2 := ⟨_, rfl⟩
    have hb_W2 : Below w2.heap.size w2 W2 := by rw [← hW2]; exact below_new _ _
    have zs_W2 : w2.heap.size < W2.heap.size := by rw [← hW2]; simp
    have hw_W2 : w.heap.size ≤ w2.heap.size := (by omega)
    replace x0_0 := (hb_W2.cell (p := ⟨w.heap.size, 0, none⟩) (by show w.heap.size < w2.heap.size; omega)).trans x0_0
    replace y0_0 := (hb_W2.frozen (p := ⟨w.heap.size, 0, none⟩) (by show w.heap.size < w2.heap.size; omega)).trans y0_0
    replace x0_1 := (hb_W2.cell (p := ⟨w.heap.size, 1, none⟩) (by show w.heap.size < w2.heap.size; omega)).trans x0_1
    replace y0_1 := (hb_W2.frozen (p := ⟨w.heap.size, 1, none⟩) (by show w.heap.size < w2.heap.size; omega)).trans y0_1
    replace zs := Nat.lt_of_lt_of_le zs hb_W2.size
    replace g0 := g0.to hb_W2
    replace g2 := g2.to hb_W2
    replace zb := below_step zb hb_W2
    have x5_0 : W2.cell? ⟨w2.heap.size, 0, none⟩ = some (.bool false) := by rw [← hW2]; simp [go_sem]
    have y5_0 : W2.frozen? ⟨w2.heap.size, 0, none⟩ = false := by rw [← hW2]; simp [go_sem]
    have x5_1 : W2.cell? ⟨w2.heap.size, 1, none⟩ = some (.slice a2_ n2_ c2_) := by rw [← hW2]; simp [go_sem]
    have y5_1 : W2.frozen? ⟨w2.heap.size, 1, none⟩ = false := by rw [← hW2]; simp [go_sem]
    rw [hW2]
    clear hW2
    have g9 := g2
    have zb9 := zb
    refine (ref6_print _ _ _ g9 hlen).mono ?_
    rintro e w3 ⟨rfl, hb3⟩
    rw [val_limbs]
    go_wp2_with fail
    go_ret
    exact ⟨by rw [Ht.out]; rfl, below_step zb9 hb3⟩

set_option maxRecDepth 100000 in
set_option maxHeartbeats 4000000 in
theorem whole_parse (s : ByteArray) (w : World) (hs : s.size ≤ 1000) (hok : OkText (body (bs s))) :
    Calls Try.prog 28 #[.string s] w (GivesP w (sgn (neg1 (bs s)) (dval (body (bs s))))) := by
  have Hb1 := Lib.hid (body_size s)
  have Hb2 := Lib.hid (bs_body s)
  have Hok := Lib.hid hok
  have Hsz := Lib.hid (show sz (dval (body (bs s))) ≤ 1000000 from Nat.le_trans (sz_digs hok.2.1 (by have := body_size s; rw [ba_size] at this; omega)) (by omega))
  clear hok
  rw [show sgn (neg1 (bs s)) (dval (body (bs s))) = sgn (neg1 (bs s)) (val (limbs (dval (body (bs s))))) by rw [val_limbs]]
  go_enter Try.func28, Try.ntmps28
  go_wp2_with fail
  obtain ⟨W0, hW0⟩ : ∃ W0, w.alloc (.cells #[.bool false, .slice none 0 0] 41) = W0 := ⟨_, rfl⟩
  have x0_0 : W0.cell? ⟨w.heap.size, 0, none⟩ = some (.bool false) := by rw [← hW0]; simp [go_sem]
  have y0_0 : W0.frozen? ⟨w.heap.size, 0, none⟩ = false := by rw [← hW0]; simp [go_sem]
  have x0_1 : W0.cell? ⟨w.heap.size, 1, none⟩ = some (.slice none 0 0) := by rw [← hW0]; simp [go_sem]
  have y0_1 : W0.frozen? ⟨w.heap.size, 1, none⟩ = false := by rw [← hW0]; simp [go_sem]
  have zs : w.heap.size < W0.heap.size := by rw [← hW0]; simp
  have zb : Below w.heap.size w W0 := by rw [← hW0]; exact below_new _ _
  rw [hW0]
  clear hW0
  refine (cut1 s _).mono ?_
  rintro e w1 ⟨rfl, rfl⟩
  go_wp2_with fail
  refine (deci_parse_ok (ba (body (bs s))) _ (Nat.le_trans Hb1.out hs) (by rw [Hb2.out]; exact Hok.out)).mono ?_
  rw [Hb2.out]
  rintro e w2 ⟨v2, rfl, hv2, hb2⟩
  obtain ⟨a2_, n2_, c2_, rfl, H2, hm2⟩ := hv2.rd.open
  have hr_w2 : w.heap.size < W0.heap.size := (by omega)
  have hw_w2 : w.heap.size ≤ W0.heap.size := (by omega)
  replace x0_0 := (hb2.cell (p := ⟨w.heap.size, 0, none⟩) (by show w.heap.size < W0.heap.size; omega)).trans x0_0
  replace y0_0 := (hb2.frozen (p := ⟨w.heap.size, 0, none⟩) (by show w.heap.size < W0.heap.size; omega)).trans y0_0
  replace x0_1 := (hb2.cell (p := ⟨w.heap.size, 1, none⟩) (by show w.heap.size < W0.heap.size; omega)).trans x0_1
  replace y0_1 := (hb2.frozen (p := ⟨w.heap.size, 1, none⟩) (by show w.heap.size < W0.heap.size; omega)).trans y0_1
  replace zs := Nat.lt_of_lt_of_le zs hb2.size
  replace zb := below_step zb hb2
  have g2 := hv2.rd
  go_wp2_with fail
  refine (whole_signed (neg1 (bs s)) _ _ _ g2 (by rw [sz_def]; exact Hsz.out)).mono ?_
  rintro e w3 ⟨v3, rfl, hv3, hb3⟩
  obtain ⟨a3_, n3_, c3_, rfl, H3, hm3⟩ := hv3.rd.open
  have hr_w3 : w.heap.size < w2.heap.size := (by omega)
  have hw_w3 : w.heap.size ≤ w2.heap.size := (by omega)
  replace x0_0 := (hb3.cell (p := ⟨w.heap.size, 0, none⟩) (by show w.heap.size < w2.heap.size; omega)).trans x0_0
  replace y0_0 := (hb3.frozen (p := ⟨w.heap.size, 0, none⟩) (by show w.heap.size < w2.heap.size; omega)).trans y0_0
  replace x0_1 := (hb3.cell (p := ⟨w.heap.size, 1, none⟩) (by show w.heap.size < w2.heap.size; omega)).trans x0_1
  replace y0_1 := (hb3.frozen (p := ⟨w.heap.size, 1, none⟩) (by show w.heap.size < w2.heap.size; omega)).trans y0_1
  replace zs := Nat.lt_of_lt_of_le zs hb3.size
  replace g2 := g2.to hb3
  replace zb := below_step zb hb3
  have g3 := hv3.rd
  generalize hng3 : decide (sgn (neg1 (bs s)) (val (limbs (dval (body (bs s))))) < 0) = ng3
  have Hng3 := Lib.hid hng3
  clear hng3
  go_wp2_with fail
  have e3 := Hng3.out
  subst e3
  obtain ⟨k0, k1⟩ := two_cells (x := .bool (decide (sgn (neg1 (bs s)) (val (limbs (dval (body (bs s))))) < 0))) (y := .slice a3_ n3_ c3_) x0_0 x0_1
  exact bodyPost_ret (results_It Try.results28 _ _ _ _ _ rfl k0 k1) rfl (finP zb (by omega) hr_w3 hw_w3 hv3)

set_option maxRecDepth 100000 in
set_option maxHeartbeats 4000000 in
theorem whole_parse_no (s : ByteArray) (w : World) (hs : s.size ≤ 1000) (hok : ¬ OkText (body (bs s))) :
    Calls Try.prog 28 #[.string s] w (NoP w 2) := by
  have Hb1 := Lib.hid (body_size s)
  have Hb2 := Lib.hid (bs_body s)
  have Hok := Lib.hid hok
  clear hok
  go_enter Try.func28, Try.ntmps28
  go_wp2_with fail
  obtain ⟨W0, hW0⟩ : ∃ W0, w.alloc (.cells #[.bool false, .slice none 0 0] 41) = W0 := ⟨_, rfl⟩
  have x0_0 : W0.cell? ⟨w.heap.size, 0, none⟩ = some (.bool false) := by rw [← hW0]; simp [go_sem]
  have y0_0 : W0.frozen? ⟨w.heap.size, 0, none⟩ = false := by rw [← hW0]; simp [go_sem]
  have x0_1 : W0.cell? ⟨w.heap.size, 1, none⟩ = some (.slice none 0 0) := by rw [← hW0]; simp [go_sem]
  have y0_1 : W0.frozen? ⟨w.heap.size, 1, none⟩ = false := by rw [← hW0]; simp [go_sem]
  have zs : w.heap.size < W0.heap.size := by rw [← hW0]; simp
  have zb : Below w.heap.size w W0 := by rw [← hW0]; exact below_new _ _
  rw [hW0]
  clear hW0
  refine (cut1 s _).mono ?_
  rintro e w1 ⟨rfl, rfl⟩
  go_wp2_with fail
  refine (deci_parse_no (ba (body (bs s))) _ (Nat.le_trans Hb1.out hs) (by rw [Hb2.out]; exact Hok.out)).mono ?_
  rintro e w2 ⟨rfl, hb2⟩
  have hr_w2 : w.heap.size < W0.heap.size := (by omega)
  have hw_w2 : w.heap.size ≤ W0.heap.size := (by omega)
  replace x0_0 := (hb2.cell (p := ⟨w.heap.size, 0, none⟩) (by show w.heap.size < W0.heap.size; omega)).trans x0_0
  replace y0_0 := (hb2.frozen (p := ⟨w.heap.size, 0, none⟩) (by show w.heap.size < W0.heap.size; omega)).trans y0_0
  replace x0_1 := (hb2.cell (p := ⟨w.heap.size, 1, none⟩) (by show w.heap.size < W0.heap.size; omega)).trans x0_1
  replace y0_1 := (hb2.frozen (p := ⟨w.heap.size, 1, none⟩) (by show w.heap.size < W0.heap.size; omega)).trans y0_1
  replace zs := Nat.lt_of_lt_of_le zs hb2.size
  replace zb := below_step zb hb2
  go_wp2_with fail
  obtain ⟨k0, k1⟩ := two_cells (x := .bool false) (y := .slice none 0 0) x0_0 x0_1
  exact bodyPost_ret (results_It Try.results28 _ _ _ _ _ rfl k0 k1) rfl ⟨rfl, (zb.setCell (p := ⟨w.heap.size, 0, none⟩) (Nat.le_refl _) _).setCell (p := ⟨w.heap.size, 1, none⟩) (Nat.le_refl _) _⟩

end Go.Proofs.Yteokdkcanckfeaa
