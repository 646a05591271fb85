/-
  The walks of the reference's integer of a text.
-/
import Derived.Test.YteokdkcanckfeaaWhole5
import Derived.Deep.DrawnRows
import Derived.Laws.EntriesVeiled
namespace Go.Proofs.Yteokdkcanckfeaa
open Go.RowKit Tw
set_option linter.unusedVariables false
set_option linter.unusedSimpArgs false
attribute [local go_sem ↓] Go.wp_at_zero Go.wp_at_succ

theorem extract_tail (s : ByteArray) : s.extract 1 s.size = ba (bs s).tail := by
  rw [← ba_bs (s.extract 1 s.size)]
  congr 1
  unfold bs
  rw [← List.map_tail]
  congr 1
  rw [ByteArray.data_extract, Array.toList_extract]
  have h : s.data.toList.length = s.size := by rw [Array.length_toList]; rfl
  simp only [List.extract, List.drop_one]
  apply List.take_of_length_le
  rw [List.length_tail, h]
  exact Nat.le_refl _

set_option maxRecDepth 100000 in
set_option maxHeartbeats 4000000 in
theorem ref7_parse (s : ByteArray) (w : World) (hs : s.size ≤ 1000) (hok : OkText (body (bs s))) :
    Calls Try.prog 29 #[.string s] w (GivesP w (sgn (neg1 (bs s)) (dval (body (bs s))))) := by
  have Hb1 := Lib.hid (body_size s)
  have Hb2 := Lib.hid (bs_body s)
  have Hok := Lib.hid hok
  have Hsz := Lib.hid (show sz (dval (body (bs s))) ≤ 1000000 from Nat.le_trans (sz_digs hok.2.1 (by have := body_size s; rw [ba_size] at this; omega)) (by omega))
  clear hok
  rw [show sgn (neg1 (bs s)) (dval (body (bs s))) = sgn (neg1 (bs s)) (val (limbs (dval (body (bs s))))) by rw [val_limbs]]
  rcases Nat.eq_zero_or_pos s.size with h0 | h0
  · have hn : neg1 (bs s) = false := by rw [bs_nil h0]; rfl
    have Hbs := Lib.hid (show bs s = body (bs s) by unfold body; rw [hn]; rfl)
    have t1 : ((s.size : Int) == 0) = true := by rw [h0]; rfl
    rw [hn]
    clear hn
    go_enter Try.func29, Try.ntmps29
    go_wp2_with fail
    obtain ⟨W0, hW0⟩ : ∃ W0, w.alloc (.cells #[.bool false, .slice none 0 0] 41) = W0 := ⟨_, rfl⟩
    have x0_0 : W0.cell? ⟨w.heap.size, 0, none⟩ = some (.bool false) := by rw [← hW0]; simp [go_sem]
    have y0_0 : W0.frozen? ⟨w.heap.size, 0, none⟩ = false := by rw [← hW0]; simp [go_sem]
    have x0_1 : W0.cell? ⟨w.heap.size, 1, none⟩ = some (.slice none 0 0) := by rw [← hW0]; simp [go_sem]
    have y0_1 : W0.frozen? ⟨w.heap.size, 1, none⟩ = false := by rw [← hW0]; simp [go_sem]
    have zs : w.heap.size < W0.heap.size := by rw [← hW0]; simp
    have zb : Below w.heap.size w W0 := by rw [← hW0]; exact below_new _ _
    rw [hW0]
    clear hW0
    go_wp2_with fail
    refine (ref6_parse_ok s _ hs (by rw [Hbs.out]; exact Hok.out)).mono ?_
    rw [Hbs.out]
    rintro e w2 ⟨v2, rfl, hv2, hb2⟩
    obtain ⟨a2_, n2_, c2_, rfl, H2, hm2⟩ := hv2.rd.open
    have hr_w2 : w.heap.size < W0.heap.size := (by omega)
    have hw_w2 : w.heap.size ≤ W0.heap.size := (by omega)
    replace x0_0 := (hb2.cell (p := ⟨w.heap.size, 0, none⟩) (by show w.heap.size < W0.heap.size; omega)).trans x0_0
    replace y0_0 := (hb2.frozen (p := ⟨w.heap.size, 0, none⟩) (by show w.heap.size < W0.heap.size; omega)).trans y0_0
    replace x0_1 := (hb2.cell (p := ⟨w.heap.size, 1, none⟩) (by show w.heap.size < W0.heap.size; omega)).trans x0_1
    replace y0_1 := (hb2.frozen (p := ⟨w.heap.size, 1, none⟩) (by show w.heap.size < W0.heap.size; omega)).trans y0_1
    replace zs := Nat.lt_of_lt_of_le zs hb2.size
    replace zb := below_step zb hb2
    have g2 := hv2.rd
    go_wp2_with fail
    refine (ref7_fix false _ _ _ g2 (by rw [sz_def]; exact Hsz.out)).mono ?_
    rintro e w3 ⟨v3, rfl, hv3, hb3⟩
    obtain ⟨a3_, n3_, c3_, rfl, H3, hm3⟩ := hv3.rd.open
    have hr_w3 : w.heap.size < w2.heap.size := (by omega)
    have hw_w3 : w.heap.size ≤ w2.heap.size := (by omega)
    replace x0_0 := (hb3.cell (p := ⟨w.heap.size, 0, none⟩) (by show w.heap.size < w2.heap.size; omega)).trans x0_0
    replace y0_0 := (hb3.frozen (p := ⟨w.heap.size, 0, none⟩) (by show w.heap.size < w2.heap.size; omega)).trans y0_0
    replace x0_1 := (hb3.cell (p := ⟨w.heap.size, 1, none⟩) (by show w.heap.size < w2.heap.size; omega)).trans x0_1
    replace y0_1 := (hb3.frozen (p := ⟨w.heap.size, 1, none⟩) (by show w.heap.size < w2.heap.size; omega)).trans y0_1
    replace zs := Nat.lt_of_lt_of_le zs hb3.size
    replace g2 := g2.to hb3
    replace zb := below_step zb hb3
    have g3 := hv3.rd
    generalize hng3 : decide (sgn false (val (limbs (dval (body (bs s))))) < 0) = ng3
    have Hng3 := Lib.hid hng3
    clear hng3
    go_wp2_with fail
    have e3 := Hng3.out
    subst e3
    obtain ⟨k0, k1⟩ := two_cells (x := .bool (decide (sgn false (val (limbs (dval (body (bs s))))) < 0))) (y := .slice a3_ n3_ c3_) x0_0 x0_1
    exact bodyPost_ret (results_It Try.results29 _ _ _ _ _ rfl k0 k1) rfl (finP zb (by omega) hr_w3 hw_w3 hv3)
  have hd := bs_head h0
  by_cases hh : nth (bs s) 0 = 45
  · have hn : neg1 (bs s) = true := by unfold neg1; rw [hd, hh]; rfl
    have hx : s.extract 1 s.size = ba (body (bs s)) := by
      unfold body
      rw [hn, if_pos rfl]
      exact extract_tail s
    have e3 : (((s[0]'h0).toNat : Int) == 45) = true := by rw [bs_get h0, hh]; rfl
    rw [hn]
    clear hn
    go_enter Try.func29, Try.ntmps29
    go_wp2_with fail
    obtain ⟨W0, hW0⟩ : ∃ W0, w.alloc (.cells #[.bool false, .slice none 0 0] 41) = W0 := ⟨_, rfl⟩
    have x0_0 : W0.cell? ⟨w.heap.size, 0, none⟩ = some (.bool false) := by rw [← hW0]; simp [go_sem]
    have y0_0 : W0.frozen? ⟨w.heap.size, 0, none⟩ = false := by rw [← hW0]; simp [go_sem]
    have x0_1 : W0.cell? ⟨w.heap.size, 1, none⟩ = some (.slice none 0 0) := by rw [← hW0]; simp [go_sem]
    have y0_1 : W0.frozen? ⟨w.heap.size, 1, none⟩ = false := by rw [← hW0]; simp [go_sem]
    have zs : w.heap.size < W0.heap.size := by rw [← hW0]; simp
    have zb : Below w.heap.size w W0 := by rw [← hW0]; exact below_new _ _
    rw [hW0]
    clear hW0
    go_wp2_with fail
    refine (ref6_parse_ok (ba (body (bs s))) _ (Nat.le_trans Hb1.out hs) (by rw [Hb2.out]; exact Hok.out)).mono ?_
    rw [Hb2.out]
    rintro e w2 ⟨v2, rfl, hv2, hb2⟩
    obtain ⟨a2_, n2_, c2_, rfl, H2, hm2⟩ := hv2.rd.open
    have hr_w2 : w.heap.size < W0.heap.size := (by omega)
    have hw_w2 : w.heap.size ≤ W0.heap.size := (by omega)
    replace x0_0 := (hb2.cell (p := ⟨w.heap.size, 0, none⟩) (by show w.heap.size < W0.heap.size; omega)).trans x0_0
    replace y0_0 := (hb2.frozen (p := ⟨w.heap.size, 0, none⟩) (by show w.heap.size < W0.heap.size; omega)).trans y0_0
    replace x0_1 := (hb2.cell (p := ⟨w.heap.size, 1, none⟩) (by show w.heap.size < W0.heap.size; omega)).trans x0_1
    replace y0_1 := (hb2.frozen (p := ⟨w.heap.size, 1, none⟩) (by show w.heap.size < W0.heap.size; omega)).trans y0_1
    replace zs := Nat.lt_of_lt_of_le zs hb2.size
    replace zb := below_step zb hb2
    have g2 := hv2.rd
    go_wp2_with fail
    refine (ref7_fix true _ _ _ g2 (by rw [sz_def]; exact Hsz.out)).mono ?_
    rintro e w3 ⟨v3, rfl, hv3, hb3⟩
    obtain ⟨a3_, n3_, c3_, rfl, H3, hm3⟩ := hv3.rd.open
    have hr_w3 : w.heap.size < w2.heap.size := (by omega)
    have hw_w3 : w.heap.size ≤ w2.heap.size := (by omega)
    replace x0_0 := (hb3.cell (p := ⟨w.heap.size, 0, none⟩) (by show w.heap.size < w2.heap.size; omega)).trans x0_0
    replace y0_0 := (hb3.frozen (p := ⟨w.heap.size, 0, none⟩) (by show w.heap.size < w2.heap.size; omega)).trans y0_0
    replace x0_1 := (hb3.cell (p := ⟨w.heap.size, 1, none⟩) (by show w.heap.size < w2.heap.size; omega)).trans x0_1
    replace y0_1 := (hb3.frozen (p := ⟨w.heap.size, 1, none⟩) (by show w.heap.size < w2.heap.size; omega)).trans y0_1
    replace zs := Nat.lt_of_lt_of_le zs hb3.size
    replace g2 := g2.to hb3
    replace zb := below_step zb hb3
    have g3 := hv3.rd
    generalize hng3 : decide (sgn true (val (limbs (dval (body (bs s))))) < 0) = ng3
    have Hng3 := Lib.hid hng3
    clear hng3
    go_wp2_with fail
    have e3 := Hng3.out
    subst e3
    obtain ⟨k0, k1⟩ := two_cells (x := .bool (decide (sgn true (val (limbs (dval (body (bs s))))) < 0))) (y := .slice a3_ n3_ c3_) x0_0 x0_1
    exact bodyPost_ret (results_It Try.results29 _ _ _ _ _ rfl k0 k1) rfl (finP zb (by omega) hr_w3 hw_w3 hv3)
  · have hn : neg1 (bs s) = false := by unfold neg1; rw [hd]; simpa using hh
    have Hbs := Lib.hid (show bs s = body (bs s) by unfold body; rw [hn]; rfl)
    have e3 : (((s[0]'h0).toNat : Int) == 45) = false := by rw [bs_get h0, beq_eq_false_iff_ne]; omega
    rw [hn]
    clear hn
    go_enter Try.func29, Try.ntmps29
    go_wp2_with fail
    obtain ⟨W0, hW0⟩ : ∃ W0, w.alloc (.cells #[.bool false, .slice none 0 0] 41) = W0 := ⟨_, rfl⟩
    have x0_0 : W0.cell? ⟨w.heap.size, 0, none⟩ = some (.bool false) := by rw [← hW0]; simp [go_sem]
    have y0_0 : W0.frozen? ⟨w.heap.size, 0, none⟩ = false := by rw [← hW0]; simp [go_sem]
    have x0_1 : W0.cell? ⟨w.heap.size, 1, none⟩ = some (.slice none 0 0) := by rw [← hW0]; simp [go_sem]
    have y0_1 : W0.frozen? ⟨w.heap.size, 1, none⟩ = false := by rw [← hW0]; simp [go_sem]
    have zs : w.heap.size < W0.heap.size := by rw [← hW0]; simp
    have zb : Below w.heap.size w W0 := by rw [← hW0]; exact below_new _ _
    rw [hW0]
    clear hW0
    go_wp2_with fail
    refine (ref6_parse_ok s _ hs (by rw [Hbs.out]; exact Hok.out)).mono ?_
    rw [Hbs.out]
    rintro e w2 ⟨v2, rfl, hv2, hb2⟩
    obtain ⟨a2_, n2_, c2_, rfl, H2, hm2⟩ := hv2.rd.open
    have hr_w2 : w.heap.size < W0.heap.size := (by omega)
    have hw_w2 : w.heap.size ≤ W0.heap.size := (by omega)
    replace x0_0 := (hb2.cell (p := ⟨w.heap.size, 0, none⟩) (by show w.heap.size < W0.heap.size; omega)).trans x0_0
    replace y0_0 := (hb2.frozen (p := ⟨w.heap.size, 0, none⟩) (by show w.heap.size < W0.heap.size; omega)).trans y0_0
    replace x0_1 := (hb2.cell (p := ⟨w.heap.size, 1, none⟩) (by show w.heap.size < W0.heap.size; omega)).trans x0_1
    replace y0_1 := (hb2.frozen (p := ⟨w.heap.size, 1, none⟩) (by show w.heap.size < W0.heap.size; omega)).trans y0_1
    replace zs := Nat.lt_of_lt_of_le zs hb2.size
    replace zb := below_step zb hb2
    have g2 := hv2.rd
    go_wp2_with fail
    refine (ref7_fix false _ _ _ g2 (by rw [sz_def]; exact Hsz.out)).mono ?_
    rintro e w3 ⟨v3, rfl, hv3, hb3⟩
    obtain ⟨a3_, n3_, c3_, rfl, H3, hm3⟩ := hv3.rd.open
    have hr_w3 : w.heap.size < w2.heap.size := (by omega)
    have hw_w3 : w.heap.size ≤ w2.heap.size := (by omega)
    replace x0_0 := (hb3.cell (p := ⟨w.heap.size, 0, none⟩) (by show w.heap.size < w2.heap.size; omega)).trans x0_0
    replace y0_0 := (hb3.frozen (p := ⟨w.heap.size, 0, none⟩) (by show w.heap.size < w2.heap.size; omega)).trans y0_0
    replace x0_1 := (hb3.cell (p := ⟨w.heap.size, 1, none⟩) (by show w.heap.size < w2.heap.size; omega)).trans x0_1
    replace y0_1 := (hb3.frozen (p := ⟨w.heap.size, 1, none⟩) (by show w.heap.size < w2.heap.size; omega)).trans y0_1
    replace zs := Nat.lt_of_lt_of_le zs hb3.size
    replace g2 := g2.to hb3
    replace zb := below_step zb hb3
    have g3 := hv3.rd
    generalize hng3 : decide (sgn false (val (limbs (dval (body (bs s))))) < 0) = ng3
    have Hng3 := Lib.hid hng3
    clear hng3
    go_wp2_with fail
    have e3 := Hng3.out
    subst e3
    obtain ⟨k0, k1⟩ := two_cells (x := .bool (decide (sgn false (val (limbs (dval (body (bs s))))) < 0))) (y := .slice a3_ n3_ c3_) x0_0 x0_1
    exact bodyPost_ret (results_It Try.results29 _ _ _ _ _ rfl k0 k1) rfl (finP zb (by omega) hr_w3 hw_w3 hv3)

set_option maxRecDepth 100000 in
set_option maxHeartbeats 4000000 in
theorem ref7_parse_no (s : ByteArray) (w : World) (hs : s.size ≤ 1000) (hok : ¬ OkText (body (bs s))) :
    Calls Try.prog 29 #[.string s] w (NoP w 2) := by
  have Hb1 := Lib.hid (body_size s)
  have Hb2 := Lib.hid (bs_body s)
  have Hok := Lib.hid hok
  clear hok
  rcases Nat.eq_zero_or_pos s.size with h0 | h0
  · have hn : neg1 (bs s) = false := by rw [bs_nil h0]; rfl
    have Hbs := Lib.hid (show bs s = body (bs s) by unfold body; rw [hn]; rfl)
    have t1 : ((s.size : Int) == 0) = true := by rw [h0]; rfl
    clear hn
    go_enter Try.func29, Try.ntmps29
    go_wp2_with fail
    obtain ⟨W0, hW0⟩ : ∃ W0, w.alloc (.cells #[.bool false, .slice none 0 0] 41) = W0 := ⟨_, rfl⟩
    have x0_0 : W0.cell? ⟨w.heap.size, 0, none⟩ = some (.bool false) := by rw [← hW0]; simp [go_sem]
    have y0_0 : W0.frozen? ⟨w.heap.size, 0, none⟩ = false := by rw [← hW0]; simp [go_sem]
    have x0_1 : W0.cell? ⟨w.heap.size, 1, none⟩ = some (.slice none 0 0) := by rw [← hW0]; simp [go_sem]
    have y0_1 : W0.frozen? ⟨w.heap.size, 1, none⟩ = false := by rw [← hW0]; simp [go_sem]
    have zs : w.heap.size < W0.heap.size := by rw [← hW0]; simp
    have zb : Below w.heap.size w W0 := by rw [← hW0]; exact below_new _ _
    rw [hW0]
    clear hW0
    go_wp2_with fail
    refine (ref6_parse_no s _ hs (by rw [Hbs.out]; exact Hok.out)).mono ?_
    rintro e w2 ⟨rfl, hb2⟩
    have hr_w2 : w.heap.size < W0.heap.size := (by omega)
    have hw_w2 : w.heap.size ≤ W0.heap.size := (by omega)
    replace x0_0 := (hb2.cell (p := ⟨w.heap.size, 0, none⟩) (by show w.heap.size < W0.heap.size; omega)).trans x0_0
    replace y0_0 := (hb2.frozen (p := ⟨w.heap.size, 0, none⟩) (by show w.heap.size < W0.heap.size; omega)).trans y0_0
    replace x0_1 := (hb2.cell (p := ⟨w.heap.size, 1, none⟩) (by show w.heap.size < W0.heap.size; omega)).trans x0_1
    replace y0_1 := (hb2.frozen (p := ⟨w.heap.size, 1, none⟩) (by show w.heap.size < W0.heap.size; omega)).trans y0_1
    replace zs := Nat.lt_of_lt_of_le zs hb2.size
    replace zb := below_step zb hb2
    go_wp2_with fail
    obtain ⟨k0, k1⟩ := two_cells (x := .bool false) (y := .slice none 0 0) x0_0 x0_1
    exact bodyPost_ret (results_It Try.results29 _ _ _ _ _ rfl k0 k1) rfl ⟨rfl, (zb.setCell (p := ⟨w.heap.size, 0, none⟩) (Nat.le_refl _) _).setCell (p := ⟨w.heap.size, 1, none⟩) (Nat.le_refl _) _⟩
  have hd := bs_head h0
  by_cases hh : nth (bs s) 0 = 45
  · have hn : neg1 (bs s) = true := by unfold neg1; rw [hd, hh]; rfl
    have hx : s.extract 1 s.size = ba (body (bs s)) := by
      unfold body
      rw [hn, if_pos rfl]
      exact extract_tail s
    have e3 : (((s[0]'h0).toNat : Int) == 45) = true := by rw [bs_get h0, hh]; rfl
    clear hn
    go_enter Try.func29, Try.ntmps29
    go_wp2_with fail
    obtain ⟨W0, hW0⟩ : ∃ W0, w.alloc (.cells #[.bool false, .slice none 0 0] 41) = W0 := ⟨_, rfl⟩
    have x0_0 : W0.cell? ⟨w.heap.size, 0, none⟩ = some (.bool false) := by rw [← hW0]; simp [go_sem]
    have y0_0 : W0.frozen? ⟨w.heap.size, 0, none⟩ = false := by rw [← hW0]; simp [go_sem]
    have x0_1 : W0.cell? ⟨w.heap.size, 1, none⟩ = some (.slice none 0 0) := by rw [← hW0]; simp [go_sem]
    have y0_1 : W0.frozen? ⟨w.heap.size, 1, none⟩ = false := by rw [← hW0]; simp [go_sem]
    have zs : w.heap.size < W0.heap.size := by rw [← hW0]; simp
    have zb : Below w.heap.size w W0 := by rw [← hW0]; exact below_new _ _
    rw [hW0]
    clear hW0
    go_wp2_with fail
    refine (ref6_parse_no (ba (body (bs s))) _ (Nat.le_trans Hb1.out hs) (by rw [Hb2.out]; exact Hok.out)).mono ?_
    rintro e w2 ⟨rfl, hb2⟩
    have hr_w2 : w.heap.size < W0.heap.size := (by omega)
    have hw_w2 : w.heap.size ≤ W0.heap.size := (by omega)
    replace x0_0 := (hb2.cell (p := ⟨w.heap.size, 0, none⟩) (by show w.heap.size < W0.heap.size; omega)).trans x0_0
    replace y0_0 := (hb2.frozen (p := ⟨w.heap.size, 0, none⟩) (by show w.heap.size < W0.heap.size; omega)).trans y0_0
    replace x0_1 := (hb2.cell (p := ⟨w.heap.size, 1, none⟩) (by show w.heap.size < W0.heap.size; omega)).trans x0_1
    replace y0_1 := (hb2.frozen (p := ⟨w.heap.size, 1, none⟩) (by show w.heap.size < W0.heap.size; omega)).trans y0_1
    replace zs := Nat.lt_of_lt_of_le zs hb2.size
    replace zb := below_step zb hb2
    go_wp2_with fail
    obtain ⟨k0, k1⟩ := two_cells (x := .bool false) (y := .slice none 0 0) x0_0 x0_1
    exact bodyPost_ret (results_It Try.results29 _ _ _ _ _ rfl k0 k1) rfl ⟨rfl, (zb.setCell (p := ⟨w.heap.size, 0, none⟩) (Nat.le_refl _) _).setCell (p := ⟨w.heap.size, 1, none⟩) (Nat.le_refl _) _⟩
  · have hn : neg1 (bs s) = false := by unfold neg1; rw [hd]; simpa using hh
    have Hbs := Lib.hid (show bs s = body (bs s) by unfold body; rw [hn]; rfl)
    have e3 : (((s[0]'h0).toNat : Int) == 45) = false := by rw [bs_get h0, beq_eq_false_iff_ne]; omega
    clear hn
    go_enter Try.func29, Try.ntmps29
    go_wp2_with fail
    obtain ⟨W0, hW0⟩ : ∃ W0, w.alloc (.cells #[.bool false, .slice none 0 0] 41) = W0 := ⟨_, rfl⟩
    have x0_0 : W0.cell? ⟨w.heap.size, 0, none⟩ = some (.bool false) := by rw [← hW0]; simp [go_sem]
    have y0_0 : W0.frozen? ⟨w.heap.size, 0, none⟩ = false := by rw [← hW0]; simp [go_sem]
    have x0_1 : W0.cell? ⟨w.heap.size, 1, none⟩ = some (.slice none 0 0) := by rw [← hW0]; simp [go_sem]
    have y0_1 : W0.frozen? ⟨w.heap.size, 1, none⟩ = false := by rw [← hW0]; simp [go_sem]
    have zs : w.heap.size < W0.heap.size := by rw [← hW0]; simp
    have zb : Below w.heap.size w W0 := by rw [← hW0]; exact below_new _ _
    rw [hW0]
    clear hW0
    go_wp2_with fail
    refine (ref6_parse_no s _ hs (by rw [Hbs.out]; exact Hok.out)).mono ?_
    rintro e w2 ⟨rfl, hb2⟩
    have hr_w2 : w.heap.size < W0.heap.size := (by omega)
    have hw_w2 : w.heap.size ≤ W0.heap.size := (by omega)
    replace x0_0 := (hb2.cell (p := ⟨w.heap.size, 0, none⟩) (by show w.heap.size < W0.heap.size; omega)).trans x0_0
    replace y0_0 := (hb2.frozen (p := ⟨w.heap.size, 0, none⟩) (by show w.heap.size < W0.heap.size; omega)).trans y0_0
    replace x0_1 := (hb2.cell (p := ⟨w.heap.size, 1, none⟩) (by show w.heap.size < W0.heap.size; omega)).trans x0_1
    replace y0_1 := (hb2.frozen (p := ⟨w.heap.size, 1, none⟩) (by show w.heap.size < W0.heap.size; omega)).trans y0_1
    replace zs := Nat.lt_of_lt_of_le zs hb2.size
    replace zb := below_step zb hb2
    go_wp2_with fail
    obtain ⟨k0, k1⟩ := two_cells (x := .bool false) (y := .slice none 0 0) x0_0 x0_1
    exact bodyPost_ret (results_It Try.results29 _ _ _ _ _ rfl k0 k1) rfl ⟨rfl, (zb.setCell (p := ⟨w.heap.size, 0, none⟩) (Nat.le_refl _) _).setCell (p := ⟨w.heap.size, 1, none⟩) (Nat.le_refl _) _⟩

end Go.Proofs.Yteokdkcanckfeaa
