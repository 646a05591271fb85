/-
  The texts Ref8q, Rat9, Ref8d, Rat10, merged.
-/
import Derived.Test.YtmjnlpanlgmdmaaG12
import Derived.Test.YtmjnlpanlgmdmaaG19
import Derived.Deep.RegionHeld3
import Derived.Deep.Cut
import Derived.Deep.DrawnRows
import Derived.Laws.EntriesVeiled
import Derived.Test.YtmjnlpanlgmdmaaG18
import Derived.Test.YtmjnlpanlgmdmaaG16
namespace Go.Proofs.Ytmjnlpanlgmdmaa
open Go.RowKit Tw
set_option linter.unusedVariables false
set_option linter.unusedSimpArgs false
attribute [local go_sem ↓] Go.wp_at_zero Go.wp_at_succ

theorem fs_hit {s : ByteArray} (hn : (bs s).length = s.size) {j : Nat} (hj : j < s.size) (hc : nth (bs s) j = 124) : j = j + (hd1 ((bs s).drop j)).length := by
  rw [List.drop_eq_getElem_cons (by omega), ← nth_of (by omega), hc]; rfl

theorem fs_miss {s : ByteArray} (hn : (bs s).length = s.size) {j p : Nat} (hj : j < s.size) (hc : nth (bs s) j ≠ 124) (hp : p = j + 1 + (hd1 ((bs s).drop (j + 1))).length) : p = j + (hd1 ((bs s).drop j)).length := by
  rw [List.drop_eq_getElem_cons (show j < (bs s).length by omega), ← nth_of (by omega)]
  have : hd1 (nth (bs s) j :: (bs s).drop (j + 1)) = nth (bs s) j :: hd1 ((bs s).drop (j + 1)) := by
    unfold hd1
    rw [List.takeWhile_cons, if_pos (by simpa using hc)]
  rw [this, List.length_cons]
  omega

theorem fs_end {s : ByteArray} (hn : (bs s).length = s.size) : (hd1 (bs s)).length ≤ s.size := by
  have h := congrArg List.length (hd1_take (bs s))
  rw [List.length_take] at h
  omega

theorem fs_head (s : ByteArray) : s.extract 0 (hd1 (bs s)).length = ba (hd1 (bs s)) := by
  rw [ext_take, ba_take, ← hd1_take]

theorem fs_tail (s : ByteArray) : s.extract ((hd1 (bs s)).length + 1) s.size = ba (tl1 (bs s)) := by
  rw [ext_drop, ba_drop, ← tl1_drop]

theorem fs_has {s : ByteArray} (hn : (bs s).length = s.size) : decide ((hd1 (bs s)).length < s.size) = has1 (bs s) := by
  rcases Bool.eq_false_or_eq_true (has1 (bs s)) with h | h
  · rw [h]; have := hd1_lt h; exact decide_eq_true (by omega)
  · rw [h, (hd1_no h).1, hn]; simp

set_option maxRecDepth 100000 in
set_option maxHeartbeats 8000000 in
theorem ref8_parse_head (s : ByteArray) (w : World) (hs : s.size ≤ 1000) (t1 t2 : ByteArray) (o : Bool) (e1 : ba (hd1 (bs s)) = t1) (e2 : ba (tl1 (bs s)) = t2) (e3 : has1 (bs s) = o) (z k : Int) (hz : pz (bs t1) = z) (hk : pk (bs t1) = k) (k0 : k = 2) :
    Calls Try.prog 13 #[.string s] w (fun e w' => e = .returned (.tuple #[aggR false (.slice none 0 0) (.slice none 0 0), .int .i64 2]) ∧ Below w.heap.size w w') := by
  have G1 := Lib.hid (show t1.size ≤ 1000 by rw [← e1]; exact hd1_size hs)
  have G2 := Lib.hid (show t2.size ≤ 1000 by rw [← e2]; exact tl1_size hs)
  have Hz := Lib.hid hz
  have Hk := Lib.hid hk
  have E1 := Lib.hid e1
  have E2 := Lib.hid e2
  have E3 := Lib.hid e3
  clear hz hk e1 e2 e3
  subst k0
  go_enter Try.func13, Try.ntmps13
  go_wp2_with fail
  obtain ⟨W0, hW0⟩ : ∃ W0, w.alloc (.cells #[.bool false, .slice none 0 0, .slice none 0 0] 24) = W0 := ⟨_, rfl⟩
  have HXW0 := Lib.hid (show ∀ W', Below W0.heap.size W0 W' → (W'.cell? ⟨w.heap.size, 0, none⟩ = some (.bool false) ∧ W'.cell? ⟨w.heap.size, 1, none⟩ = some (.slice none 0 0) ∧ W'.cell? ⟨w.heap.size, 2, none⟩ = some (.slice none 0 0)) from fun W' hb =>
    ⟨(hb.cell (p := ⟨w.heap.size, 0, none⟩) (by rw [← hW0]; simp <;> omega)).trans (by rw [← hW0]; simp [go_sem]), (hb.cell (p := ⟨w.heap.size, 1, none⟩) (by rw [← hW0]; simp <;> omega)).trans (by rw [← hW0]; simp [go_sem]), (hb.cell (p := ⟨w.heap.size, 2, none⟩) (by rw [← hW0]; simp <;> omega)).trans (by rw [← hW0]; simp [go_sem])⟩)
  have HYW0 := Lib.hid (show ∀ W', Below W0.heap.size W0 W' → (W'.frozen? ⟨w.heap.size, 0, none⟩ = false ∧ W'.frozen? ⟨w.heap.size, 1, none⟩ = false ∧ W'.frozen? ⟨w.heap.size, 2, none⟩ = false) from fun W' hb =>
    ⟨(hb.frozen (p := ⟨w.heap.size, 0, none⟩) (by rw [← hW0]; simp <;> omega)).trans (by rw [← hW0]; simp [go_sem]), (hb.frozen (p := ⟨w.heap.size, 1, none⟩) (by rw [← hW0]; simp <;> omega)).trans (by rw [← hW0]; simp [go_sem]), (hb.frozen (p := ⟨w.heap.size, 2, none⟩) (by rw [← hW0]; simp <;> omega)).trans (by rw [← hW0]; simp [go_sem])⟩)
  have HZW0 := Lib.hid (show ∀ W', Below W0.heap.size W0 W' → (w.heap.size < W'.heap.size) from fun W' hb =>
    Nat.lt_of_lt_of_le (by rw [← hW0]; simp <;> omega) hb.size)
  have zb : Below w.heap.size w W0 := by rw [← hW0]; exact below_new _ _
  rw [hW0]
  clear hW0
  have gb : Below W0.heap.size W0 W0 := Below.refl _ _
  obtain ⟨x0_0, x0_1, x0_2⟩ := HXW0.out _ gb
  obtain ⟨y0_0, y0_1, y0_2⟩ := HYW0.out _ gb
  obtain z0 := HZW0.out _ gb
  have HN := Lib.hid (show (bs s).length = s.size from bs_length s)
  go_loop [4, 5] (fun at_ i => ∃ j : Nat, j ≤ s.size ∧ i = .int .i64 ((j : Int) - 1) ∧ ∃ p : Nat, at_ = .int .i64 p ∧ Hid (p = j + (hd1 ((bs s).drop j)).length)) (fun _ i => (intOf i + 1).toNat)
  case atStart => exact ⟨s.size, Nat.le_refl _, rfl, s.size, rfl, by show _ = _; rw [List.drop_eq_nil_of_le (by rw [bs_length]; exact Nat.le_refl _)]; rfl⟩
  case round =>
    obtain ⟨j, hj, rfl, p, rfl, Hp⟩ := hrel
    rcases Nat.eq_zero_or_pos j with rfl | hj0
    rotate_left
    · obtain ⟨j, rfl⟩ : ∃ i, j = i + 1 := ⟨j - 1, by omega⟩
      have hjs : j < s.size := by omega
      have hg := bs_get hjs
      by_cases hc : nth (bs s) j = 124
      · have b1 : ((s[j]'hjs).toNat : Int) = 124 := by rw [hg, hc]; rfl
        have HR := Lib.hid (fs_hit HN.out hjs hc)
        clear hg hc Hp
        go_wp2_with fail
        go_round
        case rel => exact ⟨j, by omega, by go_num, j, by go_num, HR⟩
        case measure => simp [intOf]
      · have b1 : (((s[j]'hjs).toNat : Int) == 124) = false := by rw [hg]; simp; omega
        have HR := Lib.hid (fs_miss HN.out hjs hc Hp.out)
        clear hg hc Hp
        go_wp2_with fail
        go_round
        case rel => exact ⟨j, by omega, by go_num, p, rfl, HR⟩
        case measure => simp [intOf]
    · obtain rfl : p = (hd1 (bs s)).length := by have k := Hp.out; rw [List.drop_zero] at k; omega
      clear Hp
      have HP := fs_end HN.out
      have HE1 := Lib.hid (show s.extract 0 (hd1 (bs s)).length = t1 by rw [← E1.out]; exact fs_head s)
      have HE2 := Lib.hid (show s.extract ((hd1 (bs s)).length + 1) s.size = t2 by rw [← E2.out]; exact fs_tail s)
      have HE3 := Lib.hid (show decide ((hd1 (bs s)).length < s.size) = o by rw [← E3.out]; exact fs_has HN.out)
      clear E1 E2 E3
      generalize (hd1 (bs s)).length = p at *
      go_wp2_with fail
      rw [HE1.out]
      refine (rparse_k _ _ G1.out z _ Hz.out Hk.out).mono ?_
      clear x0_0 y0_0 x0_1 y0_1 x0_2 y0_2
      rintro e w2 ⟨ng2, a2_, n2_, c2_, rfl, Hng2, g2, hb2⟩
      replace gb := below_step gb hb2
      obtain ⟨x0_0, x0_1, x0_2⟩ := HXW0.out _ gb
      obtain ⟨y0_0, y0_1, y0_2⟩ := HYW0.out _ gb
      obtain z0 := HZW0.out _ gb
      go_wp2_with fail
      refine bodyPost_ret (results_Rt Try.results13 _ _ _ _ _ _ rfl (Tri.alloc (Tri.set (x0 := .bool false) (y0 := .slice none 0 0) (z0 := .slice none 0 0) ⟨x0_0, x0_1, x0_2, y0_0, y0_1, y0_2⟩ _ _ _) _)) rfl ⟨rfl, below_step (below_set3 (below_step zb gb) (by omega) _ _ _) (below_new _ _)⟩

set_option maxRecDepth 100000 in
set_option maxHeartbeats 8000000 in
theorem ref8_parse_tail (s : ByteArray) (w : World) (hs : s.size ≤ 1000) (t1 t2 : ByteArray) (o : Bool) (e1 : ba (hd1 (bs s)) = t1) (e2 : ba (tl1 (bs s)) = t2) (e3 : has1 (bs s) = o) (z k : Int) (hz : pz (bs t1) = z) (hk : pk (bs t1) = k) (k0 : k = 0) (o0 : o = true) (ht : ¬ OkText (bs t2)) :
    Calls Try.prog 13 #[.string s] w (fun e w' => e = .returned (.tuple #[aggR false (.slice none 0 0) (.slice none 0 0), .int .i64 2]) ∧ Below w.heap.size w w') := by
  have G1 := Lib.hid (show t1.size ≤ 1000 by rw [← e1]; exact hd1_size hs)
  have G2 := Lib.hid (show t2.size ≤ 1000 by rw [← e2]; exact tl1_size hs)
  have Hz := Lib.hid hz
  have Hk := Lib.hid hk
  have E1 := Lib.hid e1
  have E2 := Lib.hid e2
  have E3 := Lib.hid e3
  clear hz hk e1 e2 e3
  subst k0
  subst o0
  have HT := Lib.hid ht
  clear ht
  go_enter Try.func13, Try.ntmps13
  go_wp2_with fail
  obtain ⟨W0, hW0⟩ : ∃ W0, w.alloc (.cells #[.bool false, .slice none 0 0, .slice none 0 0] 24) = W0 := ⟨_, rfl⟩
  have HXW0 := Lib.hid (show ∀ W', Below W0.heap.size W0 W' → (W'.cell? ⟨w.heap.size, 0, none⟩ = some (.bool false) ∧ W'.cell? ⟨w.heap.size, 1, none⟩ = some (.slice none 0 0) ∧ W'.cell? ⟨w.heap.size, 2, none⟩ = some (.slice none 0 0)) from fun W' hb =>
    ⟨(hb.cell (p := ⟨w.heap.size, 0, none⟩) (by rw [← hW0]; simp <;> omega)).trans (by rw [← hW0]; simp [go_sem]), (hb.cell (p := ⟨w.heap.size, 1, none⟩) (by rw [← hW0]; simp <;> omega)).trans (by rw [← hW0]; simp [go_sem]), (hb.cell (p := ⟨w.heap.size, 2, none⟩) (by rw [← hW0]; simp <;> omega)).trans (by rw [← hW0]; simp [go_sem])⟩)
  have HYW0 := Lib.hid (show ∀ W', Below W0.heap.size W0 W' → (W'.frozen? ⟨w.heap.size, 0, none⟩ = false ∧ W'.frozen? ⟨w.heap.size, 1, none⟩ = false ∧ W'.frozen? ⟨w.heap.size, 2, none⟩ = false) from fun W' hb =>
    ⟨(hb.frozen (p := ⟨w.heap.size, 0, none⟩) (by rw [← hW0]; simp <;> omega)).trans (by rw [← hW0]; simp [go_sem]), (hb.frozen (p := ⟨w.heap.size, 1, none⟩) (by rw [← hW0]; simp <;> omega)).trans (by rw [← hW0]; simp [go_sem]), (hb.frozen (p := ⟨w.heap.size, 2, none⟩) (by rw [← hW0]; simp <;> omega)).trans (by rw [← hW0]; simp [go_sem])⟩)
  have HZW0 := Lib.hid (show ∀ W', Below W0.heap.size W0 W' → (w.heap.size < W'.heap.size) from fun W' hb =>
    Nat.lt_of_lt_of_le (by rw [← hW0]; simp <;> omega) hb.size)
  have zb : Below w.heap.size w W0 := by rw [← hW0]; exact below_new _ _
  rw [hW0]
  clear hW0
  have gb : Below W0.heap.size W0 W0 := Below.refl _ _
  obtain ⟨x0_0, x0_1, x0_2⟩ := HXW0.out _ gb
  obtain ⟨y0_0, y0_1, y0_2⟩ := HYW0.out _ gb
  obtain z0 := HZW0.out _ gb
  have HN := Lib.hid (show (bs s).length = s.size from bs_length s)
  go_loop [4, 5] (fun at_ i => ∃ j : Nat, j ≤ s.size ∧ i = .int .i64 ((j : Int) - 1) ∧ ∃ p : Nat, at_ = .int .i64 p ∧ Hid (p = j + (hd1 ((bs s).drop j)).length)) (fun _ i => (intOf i + 1).toNat)
  case atStart => exact ⟨s.size, Nat.le_refl _, rfl, s.size, rfl, by show _ = _; rw [List.drop_eq_nil_of_le (by rw [bs_length]; exact Nat.le_refl _)]; rfl⟩
  case round =>
    obtain ⟨j, hj, rfl, p, rfl, Hp⟩ := hrel
    rcases Nat.eq_zero_or_pos j with rfl | hj0
    rotate_left
    · obtain ⟨j, rfl⟩ : ∃ i, j = i + 1 := ⟨j - 1, by omega⟩
      have hjs : j < s.size := by omega
      have hg := bs_get hjs
      by_cases hc : nth (bs s) j = 124
      · have b1 : ((s[j]'hjs).toNat : Int) = 124 := by rw [hg, hc]; rfl
        have HR := Lib.hid (fs_hit HN.out hjs hc)
        clear hg hc Hp
        go_wp2_with fail
        go_round
        case rel => exact ⟨j, by omega, by go_num, j, by go_num, HR⟩
        case measure => simp [intOf]
      · have b1 : (((s[j]'hjs).toNat : Int) == 124) = false := by rw [hg]; simp; omega
        have HR := Lib.hid (fs_miss HN.out hjs hc Hp.out)
        clear hg hc Hp
        go_wp2_with fail
        go_round
        case rel => exact ⟨j, by omega, by go_num, p, rfl, HR⟩
        case measure => simp [intOf]
    · obtain rfl : p = (hd1 (bs s)).length := by have k := Hp.out; rw [List.drop_zero] at k; omega
      clear Hp
      have HP := fs_end HN.out
      have HE1 := Lib.hid (show s.extract 0 (hd1 (bs s)).length = t1 by rw [← E1.out]; exact fs_head s)
      have HE2 := Lib.hid (show s.extract ((hd1 (bs s)).length + 1) s.size = t2 by rw [← E2.out]; exact fs_tail s)
      have HE3 := Lib.hid (show decide ((hd1 (bs s)).length < s.size) = true by rw [← E3.out]; exact fs_has HN.out)
      clear E1 E2 E3
      generalize (hd1 (bs s)).length = p at *
      have hlt : p < s.size := by have := HE3.out; simpa using this
      go_wp2_with fail
      rw [HE1.out]
      refine (rparse_k _ _ G1.out z _ Hz.out Hk.out).mono ?_
      clear x0_0 y0_0 x0_1 y0_1 x0_2 y0_2
      rintro e w2 ⟨ng2, a2_, n2_, c2_, rfl, Hng2, g2, hb2⟩
      replace gb := below_step gb hb2
      obtain ⟨x0_0, x0_1, x0_2⟩ := HXW0.out _ gb
      obtain ⟨y0_0, y0_1, y0_2⟩ := HYW0.out _ gb
      obtain z0 := HZW0.out _ gb
      go_wp2_with fail
      obtain ⟨W1, hW1⟩ : ∃ W1, w2.alloc (.cells #[.bool ng2, .slice a2_ n2_ c2_] 40) = W1 := ⟨_, rfl⟩
      have hb_W1 : Below w2.heap.size w2 W1 := by rw [← hW1]; exact below_new _ _
      have hs_W1 : Hid (W1.heap.size = w2.heap.size + 1) := by show _ = _; rw [← hW1]; simp
      clear x0_0 y0_0 x0_1 y0_1 x0_2 y0_2
      replace g2 := g2.to hb_W1
      replace gb := below_step gb hb_W1
      obtain ⟨x0_0, x0_1, x0_2⟩ := HXW0.out _ gb
      obtain ⟨y0_0, y0_1, y0_2⟩ := HYW0.out _ gb
      obtain z0 := HZW0.out _ gb
      have x5_0 : W1.cell? ⟨w2.heap.size, 0, none⟩ = some (.bool ng2) := by rw [← hW1]; simp [go_sem]
      have y5_0 : W1.frozen? ⟨w2.heap.size, 0, none⟩ = false := by rw [← hW1]; simp [go_sem]
      have x5_1 : W1.cell? ⟨w2.heap.size, 1, none⟩ = some (.slice a2_ n2_ c2_) := by rw [← hW1]; simp [go_sem]
      have y5_1 : W1.frozen? ⟨w2.heap.size, 1, none⟩ = false := by rw [← hW1]; simp [go_sem]
      have z5 : w2.heap.size < W1.heap.size := by rw [← hW1]; simp
      rw [hW1]
      clear hW1
      replace zb := below_step zb gb
      have HXW1 := Lib.hid (show ∀ W', Below W1.heap.size W1 W' → (W'.cell? ⟨w.heap.size, 0, none⟩ = some (.bool false) ∧ W'.cell? ⟨w.heap.size, 1, none⟩ = some (.slice none 0 0) ∧ W'.cell? ⟨w.heap.size, 2, none⟩ = some (.slice none 0 0) ∧ W'.cell? ⟨w2.heap.size, 0, none⟩ = some (.bool ng2) ∧ W'.cell? ⟨w2.heap.size, 1, none⟩ = some (.slice a2_ n2_ c2_)) from fun W' hb =>
        ⟨(hb.cell (p := ⟨w.heap.size, 0, none⟩) z0).trans x0_0, (hb.cell (p := ⟨w.heap.size, 1, none⟩) z0).trans x0_1, (hb.cell (p := ⟨w.heap.size, 2, none⟩) z0).trans x0_2, (hb.cell (p := ⟨w2.heap.size, 0, none⟩) z5).trans x5_0, (hb.cell (p := ⟨w2.heap.size, 1, none⟩) z5).trans x5_1⟩)
      have HYW1 := Lib.hid (show ∀ W', Below W1.heap.size W1 W' → (W'.frozen? ⟨w.heap.size, 0, none⟩ = false ∧ W'.frozen? ⟨w.heap.size, 1, none⟩ = false ∧ W'.frozen? ⟨w.heap.size, 2, none⟩ = false ∧ W'.frozen? ⟨w2.heap.size, 0, none⟩ = false ∧ W'.frozen? ⟨w2.heap.size, 1, none⟩ = false) from fun W' hb =>
        ⟨(hb.frozen (p := ⟨w.heap.size, 0, none⟩) z0).trans y0_0, (hb.frozen (p := ⟨w.heap.size, 1, none⟩) z0).trans y0_1, (hb.frozen (p := ⟨w.heap.size, 2, none⟩) z0).trans y0_2, (hb.frozen (p := ⟨w2.heap.size, 0, none⟩) z5).trans y5_0, (hb.frozen (p := ⟨w2.heap.size, 1, none⟩) z5).trans y5_1⟩)
      have HZW1 := Lib.hid (show ∀ W', Below W1.heap.size W1 W' → (w.heap.size < W'.heap.size ∧ w2.heap.size < W'.heap.size) from fun W' hb =>
        ⟨Nat.lt_of_lt_of_le z0 hb.size, Nat.lt_of_lt_of_le z5 hb.size⟩)
      replace gb := Below.refl W1.heap.size W1
      go_wp2_with fail
      obtain ⟨W2, hW2⟩ : ∃ W2, W1.alloc (.cells #[.int .u32 1] 57) = W2 := ⟨_, rfl⟩
      have hb_W2 : Below W1.heap.size W1 W2 := by rw [← hW2]; exact below_new _ _
      have d_W2 : Rd W2 (.slice (some ⟨W1.heap.size, 0, none⟩) 1 1) [1] := by rw [← hW2]; exact lit1 (a := 1) W1 (by omega)
      clear x0_0 y0_0 x0_1 y0_1 x0_2 y0_2 x5_0 y5_0 x5_1 y5_1
      replace gb := below_step gb hb_W2
      obtain ⟨x0_0, x0_1, x0_2, x5_0, x5_1⟩ := HXW1.out _ gb
      obtain ⟨y0_0, y0_1, y0_2, y5_0, y5_1⟩ := HYW1.out _ gb
      obtain ⟨z0, z5⟩ := HZW1.out _ gb
      rw [hW2]
      clear hW2
      rw [HE2.out]
      refine (ref6_parse_no t2 _ G2.out HT.out).mono ?_
      clear x0_0 y0_0 x0_1 y0_1 x0_2 y0_2 x5_0 y5_0 x5_1 y5_1
      rintro e w4 ⟨rfl, hb4⟩
      replace d_W2 := d_W2.to hb4
      replace gb := below_step gb hb4
      obtain ⟨x0_0, x0_1, x0_2, x5_0, x5_1⟩ := HXW1.out _ gb
      obtain ⟨y0_0, y0_1, y0_2, y5_0, y5_1⟩ := HYW1.out _ gb
      obtain ⟨z0, z5⟩ := HZW1.out _ gb
      go_wp2_with fail
      refine bodyPost_ret (results_Rt Try.results13 _ _ _ _ _ _ rfl (Tri.set (x0 := .bool false) (y0 := .slice none 0 0) (z0 := .slice none 0 0) ⟨x0_0, x0_1, x0_2, y0_0, y0_1, y0_2⟩ _ _ _)) rfl ⟨rfl, below_set3 (below_step zb gb) (by omega) _ _ _⟩

set_option maxRecDepth 100000 in
set_option maxHeartbeats 8000000 in
theorem ref8_parse_zero (s : ByteArray) (w : World) (hs : s.size ≤ 1000) (t1 t2 : ByteArray) (o : Bool) (e1 : ba (hd1 (bs s)) = t1) (e2 : ba (tl1 (bs s)) = t2) (e3 : has1 (bs s) = o) (z k : Int) (hz : pz (bs t1) = z) (hk : pk (bs t1) = k) (k0 : k = 0) (o0 : o = true) (ht : OkText (bs t2)) (d0 : dval (bs t2) = 0) :
    Calls Try.prog 13 #[.string s] w (fun e w' => e = .returned (.tuple #[aggR false (.slice none 0 0) (.slice none 0 0), .int .i64 3]) ∧ Below w.heap.size w w') := by
  have G1 := Lib.hid (show t1.size ≤ 1000 by rw [← e1]; exact hd1_size hs)
  have G2 := Lib.hid (show t2.size ≤ 1000 by rw [← e2]; exact tl1_size hs)
  have Hz := Lib.hid hz
  have Hk := Lib.hid hk
  have E1 := Lib.hid e1
  have E2 := Lib.hid e2
  have E3 := Lib.hid e3
  clear hz hk e1 e2 e3
  subst k0
  subst o0
  have HT := Lib.hid ht
  have HD := Lib.hid d0
  clear ht d0
  have HV := Lib.hid (show val (limbs (dval (bs t2))) = 0 by rw [val_limbs]; exact HD.out)
  go_enter Try.func13, Try.ntmps13
  go_wp2_with fail
  obtain ⟨W0, hW0⟩ : ∃ W0, w.alloc (.cells #[.bool false, .slice none 0 0, .slice none 0 0] 24) = W0 := ⟨_, rfl⟩
  have HXW0 := Lib.hid (show ∀ W', Below W0.heap.size W0 W' → (W'.cell? ⟨w.heap.size, 0, none⟩ = some (.bool false) ∧ W'.cell? ⟨w.heap.size, 1, none⟩ = some (.slice none 0 0) ∧ W'.cell? ⟨w.heap.size, 2, none⟩ = some (.slice none 0 0)) from fun W' hb =>
    ⟨(hb.cell (p := ⟨w.heap.size, 0, none⟩) (by rw [← hW0]; simp <;> omega)).trans (by rw [← hW0]; simp [go_sem]), (hb.cell (p := ⟨w.heap.size, 1, none⟩) (by rw [← hW0]; simp <;> omega)).trans (by rw [← hW0]; simp [go_sem]), (hb.cell (p := ⟨w.heap.size, 2, none⟩) (by rw [← hW0]; simp <;> omega)).trans (by rw [← hW0]; simp [go_sem])⟩)
  have HYW0 := Lib.hid (show ∀ W', Below W0.heap.size W0 W' → (W'.frozen? ⟨w.heap.size, 0, none⟩ = false ∧ W'.frozen? ⟨w.heap.size, 1, none⟩ = false ∧ W'.frozen? ⟨w.heap.size, 2, none⟩ = false) from fun W' hb =>
    ⟨(hb.frozen (p := ⟨w.heap.size, 0, none⟩) (by rw [← hW0]; simp <;> omega)).trans (by rw [← hW0]; simp [go_sem]), (hb.frozen (p := ⟨w.heap.size, 1, none⟩) (by rw [← hW0]; simp <;> omega)).trans (by rw [← hW0]; simp [go_sem]), (hb.frozen (p := ⟨w.heap.size, 2, none⟩) (by rw [← hW0]; simp <;> omega)).trans (by rw [← hW0]; simp [go_sem])⟩)
  have HZW0 := Lib.hid (show ∀ W', Below W0.heap.size W0 W' → (w.heap.size < W'.heap.size) from fun W' hb =>
    Nat.lt_of_lt_of_le (by rw [← hW0]; simp <;> omega) hb.size)
  have zb : Below w.heap.size w W0 := by rw [← hW0]; exact below_new _ _
  rw [hW0]
  clear hW0
  have gb : Below W0.heap.size W0 W0 := Below.refl _ _
  obtain ⟨x0_0, x0_1, x0_2⟩ := HXW0.out _ gb
  obtain ⟨y0_0, y0_1, y0_2⟩ := HYW0.out _ gb
  obtain z0 := HZW0.out _ gb
  have HN := Lib.hid (show (bs s).length = s.size from bs_length s)
  go_loop [4, 5] (fun at_ i => ∃ j : Nat, j ≤ s.size ∧ i = .int .i64 ((j : Int) - 1) ∧ ∃ p : Nat, at_ = .int .i64 p ∧ Hid (p = j + (hd1 ((bs s).drop j)).length)) (fun _ i => (intOf i + 1).toNat)
  case atStart => exact ⟨s.size, Nat.le_refl _, rfl, s.size, rfl, by show _ = _; rw [List.drop_eq_nil_of_le (by rw [bs_length]; exact Nat.le_refl _)]; rfl⟩
  case round =>
    obtain ⟨j, hj, rfl, p, rfl, Hp⟩ := hrel
    rcases Nat.eq_zero_or_pos j with rfl | hj0
    rotate_left
    · obtain ⟨j, rfl⟩ : ∃ i, j = i + 1 := ⟨j - 1, by omega⟩
      have hjs : j < s.size := by omega
      have hg := bs_get hjs
      by_cases hc : nth (bs s) j = 124
      · have b1 : ((s[j]'hjs).toNat : Int) = 124 := by rw [hg, hc]; rfl
        have HR := Lib.hid (fs_hit HN.out hjs hc)
        clear hg hc Hp
        go_wp2_with fail
        go_round
        case rel => exact ⟨j, by omega, by go_num, j, by go_num, HR⟩
        case measure => simp [intOf]
      · have b1 : (((s[j]'hjs).toNat : Int) == 124) = false := by rw [hg]; simp; omega
        have HR := Lib.hid (fs_miss HN.out hjs hc Hp.out)
        clear hg hc Hp
        go_wp2_with fail
        go_round
        case rel => exact ⟨j, by omega, by go_num, p, rfl, HR⟩
        case measure => simp [intOf]
    · obtain rfl : p = (hd1 (bs s)).length := by have k := Hp.out; rw [List.drop_zero] at k; omega
      clear Hp
      have HP := fs_end HN.out
      have HE1 := Lib.hid (show s.extract 0 (hd1 (bs s)).length = t1 by rw [← E1.out]; exact fs_head s)
      have HE2 := Lib.hid (show s.extract ((hd1 (bs s)).length + 1) s.size = t2 by rw [← E2.out]; exact fs_tail s)
      have HE3 := Lib.hid (show decide ((hd1 (bs s)).length < s.size) = true by rw [← E3.out]; exact fs_has HN.out)
      clear E1 E2 E3
      generalize (hd1 (bs s)).length = p at *
      have hlt : p < s.size := by have := HE3.out; simpa using this
      go_wp2_with fail
      rw [HE1.out]
      refine (rparse_k _ _ G1.out z _ Hz.out Hk.out).mono ?_
      clear x0_0 y0_0 x0_1 y0_1 x0_2 y0_2
      rintro e w2 ⟨ng2, a2_, n2_, c2_, rfl, Hng2, g2, hb2⟩
      replace gb := below_step gb hb2
      obtain ⟨x0_0, x0_1, x0_2⟩ := HXW0.out _ gb
      obtain ⟨y0_0, y0_1, y0_2⟩ := HYW0.out _ gb
      obtain z0 := HZW0.out _ gb
      go_wp2_with fail
      obtain ⟨W1, hW1⟩ : ∃ W1, w2.alloc (.cells #[.bool ng2, .slice a2_ n2_ c2_] 40) = W1 := ⟨_, rfl⟩
      have hb_W1 : Below w2.heap.size w2 W1 := by rw [← hW1]; exact below_new _ _
      have hs_W1 : Hid (W1.heap.size = w2.heap.size + 1) := by show _ = _; rw [← hW1]; simp
      clear x0_0 y0_0 x0_1 y0_1 x0_2 y0_2
      replace g2 := g2.to hb_W1
      replace gb := below_step gb hb_W1
      obtain ⟨x0_0, x0_1, x0_2⟩ := HXW0.out _ gb
      obtain ⟨y0_0, y0_1, y0_2⟩ := HYW0.out _ gb
      obtain z0 := HZW0.out _ gb
      have x5_0 : W1.cell? ⟨w2.heap.size, 0, none⟩ = some (.bool ng2) := by rw [← hW1]; simp [go_sem]
      have y5_0 : W1.frozen? ⟨w2.heap.size, 0, none⟩ = false := by rw [← hW1]; simp [go_sem]
      have x5_1 : W1.cell? ⟨w2.heap.size, 1, none⟩ = some (.slice a2_ n2_ c2_) := by rw [← hW1]; simp [go_sem]
      have y5_1 : W1.frozen? ⟨w2.heap.size, 1, none⟩ = false := by rw [← hW1]; simp [go_sem]
      have z5 : w2.heap.size < W1.heap.size := by rw [← hW1]; simp
      rw [hW1]
      clear hW1
      replace zb := below_step zb gb
      have HXW1 := Lib.hid (show ∀ W', Below W1.heap.size W1 W' → (W'.cell? ⟨w.heap.size, 0, none⟩ = some (.bool false) ∧ W'.cell? ⟨w.heap.size, 1, none⟩ = some (.slice none 0 0) ∧ W'.cell? ⟨w.heap.size, 2, none⟩ = some (.slice none 0 0) ∧ W'.cell? ⟨w2.heap.size, 0, none⟩ = some (.bool ng2) ∧ W'.cell? ⟨w2.heap.size, 1, none⟩ = some (.slice a2_ n2_ c2_)) from fun W' hb =>
        ⟨(hb.cell (p := ⟨w.heap.size, 0, none⟩) z0).trans x0_0, (hb.cell (p := ⟨w.heap.size, 1, none⟩) z0).trans x0_1, (hb.cell (p := ⟨w.heap.size, 2, none⟩) z0).trans x0_2, (hb.cell (p := ⟨w2.heap.size, 0, none⟩) z5).trans x5_0, (hb.cell (p := ⟨w2.heap.size, 1, none⟩) z5).trans x5_1⟩)
      have HYW1 := Lib.hid (show ∀ W', Below W1.heap.size W1 W' → (W'.frozen? ⟨w.heap.size, 0, none⟩ = false ∧ W'.frozen? ⟨w.heap.size, 1, none⟩ = false ∧ W'.frozen? ⟨w.heap.size, 2, none⟩ = false ∧ W'.frozen? ⟨w2.heap.size, 0, none⟩ = false ∧ W'.frozen? ⟨w2.heap.size, 1, none⟩ = false) from fun W' hb =>
        ⟨(hb.frozen (p := ⟨w.heap.size, 0, none⟩) z0).trans y0_0, (hb.frozen (p := ⟨w.heap.size, 1, none⟩) z0).trans y0_1, (hb.frozen (p := ⟨w.heap.size, 2, none⟩) z0).trans y0_2, (hb.frozen (p := ⟨w2.heap.size, 0, none⟩) z5).trans y5_0, (hb.frozen (p := ⟨w2.heap.size, 1, none⟩) z5).trans y5_1⟩)
      have HZW1 := Lib.hid (show ∀ W', Below W1.heap.size W1 W' → (w.heap.size < W'.heap.size ∧ w2.heap.size < W'.heap.size) from fun W' hb =>
        ⟨Nat.lt_of_lt_of_le z0 hb.size, Nat.lt_of_lt_of_le z5 hb.size⟩)
      replace gb := Below.refl W1.heap.size W1
      go_wp2_with fail
      obtain ⟨W2, hW2⟩ : ∃ W2, W1.alloc (.cells #[.int .u32 1] 57) = W2 := ⟨_, rfl⟩
      have hb_W2 : Below W1.heap.size W1 W2 := by rw [← hW2]; exact below_new _ _
      have d_W2 : Rd W2 (.slice (some ⟨W1.heap.size, 0, none⟩) 1 1) [1] := by rw [← hW2]; exact lit1 (a := 1) W1 (by omega)
      clear x0_0 y0_0 x0_1 y0_1 x0_2 y0_2 x5_0 y5_0 x5_1 y5_1
      replace gb := below_step gb hb_W2
      obtain ⟨x0_0, x0_1, x0_2, x5_0, x5_1⟩ := HXW1.out _ gb
      obtain ⟨y0_0, y0_1, y0_2, y5_0, y5_1⟩ := HYW1.out _ gb
      obtain ⟨z0, z5⟩ := HZW1.out _ gb
      rw [hW2]
      clear hW2
      rw [HE2.out]
      refine (ref6_parse_ok t2 _ G2.out HT.out).mono ?_
      clear x0_0 y0_0 x0_1 y0_1 x0_2 y0_2 x5_0 y5_0 x5_1 y5_1
      rintro e w4 ⟨v4, rfl, g4, hb4⟩
      obtain ⟨a4_, n4_, c4_, rfl, H4, hm4⟩ := g4.rd.open
      replace d_W2 := d_W2.to hb4
      replace gb := below_step gb hb4
      obtain ⟨x0_0, x0_1, x0_2, x5_0, x5_1⟩ := HXW1.out _ gb
      obtain ⟨y0_0, y0_1, y0_2, y5_0, y5_1⟩ := HYW1.out _ gb
      obtain ⟨z0, z5⟩ := HZW1.out _ gb
      go_wp2_with fail
      refine (ref8_make_no ng2 false _ _ _ _ _ (g2.to gb).1 g4.rd HV.out).mono ?_
      clear x0_0 y0_0 x0_1 y0_1 x0_2 y0_2 x5_0 y5_0 x5_1 y5_1
      rintro e w5 ⟨rfl, hb5⟩
      replace d_W2 := d_W2.to hb5
      replace g4 := g4.to hb5
      replace gb := below_step gb hb5
      obtain ⟨x0_0, x0_1, x0_2, x5_0, x5_1⟩ := HXW1.out _ gb
      obtain ⟨y0_0, y0_1, y0_2, y5_0, y5_1⟩ := HYW1.out _ gb
      obtain ⟨z0, z5⟩ := HZW1.out _ gb
      go_wp2_with fail
      refine bodyPost_ret (results_Rt Try.results13 _ _ _ _ _ _ rfl (Tri.set (x0 := .bool false) (y0 := .slice none 0 0) (z0 := .slice none 0 0) ⟨x0_0, x0_1, x0_2, y0_0, y0_1, y0_2⟩ _ _ _)) rfl ⟨rfl, below_set3 (below_step zb gb) (by omega) _ _ _⟩

set_option maxRecDepth 100000 in
set_option maxHeartbeats 8000000 in
theorem ref8_parse_bar (s : ByteArray) (w : World) (hs : s.size ≤ 1000) (t1 t2 : ByteArray) (o : Bool) (e1 : ba (hd1 (bs s)) = t1) (e2 : ba (tl1 (bs s)) = t2) (e3 : has1 (bs s) = o) (z k : Int) (hz : pz (bs t1) = z) (hk : pk (bs t1) = k) (k0 : k = 0) (o0 : o = true) (ht : OkText (bs t2)) (d0 : dval (bs t2) ≠ 0) (q : Rat) (hq : mkRat z (dval (bs t2)) = q) (hq1 : szq q ≤ 1000) (hq2 : szi z ≤ 1001) (hq3 : sz (dval (bs t2)) ≤ 1001) :
    Calls Try.prog 13 #[.string s] w (GivesQK w q) := by
  have G1 := Lib.hid (show t1.size ≤ 1000 by rw [← e1]; exact hd1_size hs)
  have G2 := Lib.hid (show t2.size ≤ 1000 by rw [← e2]; exact tl1_size hs)
  have Hz := Lib.hid hz
  have Hk := Lib.hid hk
  have E1 := Lib.hid e1
  have E2 := Lib.hid e2
  have E3 := Lib.hid e3
  clear hz hk e1 e2 e3
  subst k0
  subst o0
  have HT := Lib.hid ht
  have HD := Lib.hid d0
  clear ht d0
  have HV := Lib.hid (show val (limbs (dval (bs t2))) ≠ 0 by rw [val_limbs]; exact HD.out)
  have H9 := Lib.hid (show ∀ ng, Hid (decide (z < 0) = ng) → rat (ng != false) (val (limbs z.natAbs)) (val (limbs (dval (bs t2)))) = q from fun ng e => by rw [← e.out, Bool.bne_false, val_limbs, val_limbs, rat_sgn, hq])
  have HS : Hid (szq q ≤ 1000) := hq1
  have L1 := Lib.hid (show (limbs z.natAbs).length ≤ 3000 by rw [sz_def]; unfold szi at hq2; omega)
  have L2 := Lib.hid (show (limbs (dval (bs t2))).length ≤ 3000 by rw [sz_def]; omega)
  clear hq hq1 hq2 hq3
  go_enter Try.func13, Try.ntmps13
  go_wp2_with fail
  obtain ⟨W0, hW0⟩ : ∃ W0, w.alloc (.cells #[.bool false, .slice none 0 0, .slice none 0 0] 24) = W0 := ⟨_, rfl⟩
  have HXW0 := Lib.hid (show ∀ W', Below W0.heap.size W0 W' → (W'.cell? ⟨w.heap.size, 0, none⟩ = some (.bool false) ∧ W'.cell? ⟨w.heap.size, 1, none⟩ = some (.slice none 0 0) ∧ W'.cell? ⟨w.heap.size, 2, none⟩ = some (.slice none 0 0)) from fun W' hb =>
    ⟨(hb.cell (p := ⟨w.heap.size, 0, none⟩) (by rw [← hW0]; simp <;> omega)).trans (by rw [← hW0]; simp [go_sem]), (hb.cell (p := ⟨w.heap.size, 1, none⟩) (by rw [← hW0]; simp <;> omega)).trans (by rw [← hW0]; simp [go_sem]), (hb.cell (p := ⟨w.heap.size, 2, none⟩) (by rw [← hW0]; simp <;> omega)).trans (by rw [← hW0]; simp [go_sem])⟩)
  have HYW0 := Lib.hid (show ∀ W', Below W0.heap.size W0 W' → (W'.frozen? ⟨w.heap.size, 0, none⟩ = false ∧ W'.frozen? ⟨w.heap.size, 1, none⟩ = false ∧ W'.frozen? ⟨w.heap.size, 2, none⟩ = false) from fun W' hb =>
    ⟨(hb.frozen (p := ⟨w.heap.size, 0, none⟩) (by rw [← hW0]; simp <;> omega)).trans (by rw [← hW0]; simp [go_sem]), (hb.frozen (p := ⟨w.heap.size, 1, none⟩) (by rw [← hW0]; simp <;> omega)).trans (by rw [← hW0]; simp [go_sem]), (hb.frozen (p := ⟨w.heap.size, 2, none⟩) (by rw [← hW0]; simp <;> omega)).trans (by rw [← hW0]; simp [go_sem])⟩)
  have HZW0 := Lib.hid (show ∀ W', Below W0.heap.size W0 W' → (w.heap.size < W'.heap.size) from fun W' hb =>
    Nat.lt_of_lt_of_le (by rw [← hW0]; simp <;> omega) hb.size)
  have zb : Below w.heap.size w W0 := by rw [← hW0]; exact below_new _ _
  rw [hW0]
  clear hW0
  have gb : Below W0.heap.size W0 W0 := Below.refl _ _
  obtain ⟨x0_0, x0_1, x0_2⟩ := HXW0.out _ gb
  obtain ⟨y0_0, y0_1, y0_2⟩ := HYW0.out _ gb
  obtain z0 := HZW0.out _ gb
  have HN := Lib.hid (show (bs s).length = s.size from bs_length s)
  go_loop [4, 5] (fun at_ i => ∃ j : Nat, j ≤ s.size ∧ i = .int .i64 ((j : Int) - 1) ∧ ∃ p : Nat, at_ = .int .i64 p ∧ Hid (p = j + (hd1 ((bs s).drop j)).length)) (fun _ i => (intOf i + 1).toNat)
  case atStart => exact ⟨s.size, Nat.le_refl _, rfl, s.size, rfl, by show _ = _; rw [List.drop_eq_nil_of_le (by rw [bs_length]; exact Nat.le_refl _)]; rfl⟩
  case round =>
    obtain ⟨j, hj, rfl, p, rfl, Hp⟩ := hrel
    rcases Nat.eq_zero_or_pos j with rfl | hj0
    rotate_left
    · obtain ⟨j, rfl⟩ : ∃ i, j = i + 1 := ⟨j - 1, by omega⟩
      have hjs : j < s.size := by omega
      have hg := bs_get hjs
      by_cases hc : nth (bs s) j = 124
      · have b1 : ((s[j]'hjs).toNat : Int) = 124 := by rw [hg, hc]; rfl
        have HR := Lib.hid (fs_hit HN.out hjs hc)
        clear hg hc Hp
        go_wp2_with fail
        go_round
        case rel => exact ⟨j, by omega, by go_num, j, by go_num, HR⟩
        case measure => simp [intOf]
      · have b1 : (((s[j]'hjs).toNat : Int) == 124) = false := by rw [hg]; simp; omega
        have HR := Lib.hid (fs_miss HN.out hjs hc Hp.out)
        clear hg hc Hp
        go_wp2_with fail
        go_round
        case rel => exact ⟨j, by omega, by go_num, p, rfl, HR⟩
        case measure => simp [intOf]
    · obtain rfl : p = (hd1 (bs s)).length := by have k := Hp.out; rw [List.drop_zero] at k; omega
      clear Hp
      have HP := fs_end HN.out
      have HE1 := Lib.hid (show s.extract 0 (hd1 (bs s)).length = t1 by rw [← E1.out]; exact fs_head s)
      have HE2 := Lib.hid (show s.extract ((hd1 (bs s)).length + 1) s.size = t2 by rw [← E2.out]; exact fs_tail s)
      have HE3 := Lib.hid (show decide ((hd1 (bs s)).length < s.size) = true by rw [← E3.out]; exact fs_has HN.out)
      clear E1 E2 E3
      generalize (hd1 (bs s)).length = p at *
      have hlt : p < s.size := by have := HE3.out; simpa using this
      go_wp2_with fail
      rw [HE1.out]
      refine (rparse_k _ _ G1.out z _ Hz.out Hk.out).mono ?_
      clear x0_0 y0_0 x0_1 y0_1 x0_2 y0_2
      rintro e w2 ⟨ng2, a2_, n2_, c2_, rfl, Hng2, g2, hb2⟩
      replace gb := below_step gb hb2
      obtain ⟨x0_0, x0_1, x0_2⟩ := HXW0.out _ gb
      obtain ⟨y0_0, y0_1, y0_2⟩ := HYW0.out _ gb
      obtain z0 := HZW0.out _ gb
      go_wp2_with fail
      obtain ⟨W1, hW1⟩ : ∃ W1, w2.alloc (.cells #[.bool ng2, .slice a2_ n2_ c2_] 40) = W1 := ⟨_, rfl⟩
      have hb_W1 : Below w2.heap.size w2 W1 := by rw [← hW1]; exact below_new _ _
      have hs_W1 : Hid (W1.heap.size = w2.heap.size + 1) := by show _ = _; rw [← hW1]; simp
      clear x0_0 y0_0 x0_1 y0_1 x0_2 y0_2
      replace g2 := g2.to hb_W1
      replace gb := below_step gb hb_W1
      obtain ⟨x0_0, x0_1, x0_2⟩ := HXW0.out _ gb
      obtain ⟨y0_0, y0_1, y0_2⟩ := HYW0.out _ gb
      obtain z0 := HZW0.out _ gb
      have x5_0 : W1.cell? ⟨w2.heap.size, 0, none⟩ = some (.bool ng2) := by rw [← hW1]; simp [go_sem]
      have y5_0 : W1.frozen? ⟨w2.heap.size, 0, none⟩ = false := by rw [← hW1]; simp [go_sem]
      have x5_1 : W1.cell? ⟨w2.heap.size, 1, none⟩ = some (.slice a2_ n2_ c2_) := by rw [← hW1]; simp [go_sem]
      have y5_1 : W1.frozen? ⟨w2.heap.size, 1, none⟩ = false := by rw [← hW1]; simp [go_sem]
      have z5 : w2.heap.size < W1.heap.size := by rw [← hW1]; simp
      rw [hW1]
      clear hW1
      replace zb := below_step zb gb
      have HXW1 := Lib.hid (show ∀ W', Below W1.heap.size W1 W' → (W'.cell? ⟨w.heap.size, 0, none⟩ = some (.bool false) ∧ W'.cell? ⟨w.heap.size, 1, none⟩ = some (.slice none 0 0) ∧ W'.cell? ⟨w.heap.size, 2, none⟩ = some (.slice none 0 0) ∧ W'.cell? ⟨w2.heap.size, 0, none⟩ = some (.bool ng2) ∧ W'.cell? ⟨w2.heap.size, 1, none⟩ = some (.slice a2_ n2_ c2_)) from fun W' hb =>
        ⟨(hb.cell (p := ⟨w.heap.size, 0, none⟩) z0).trans x0_0, (hb.cell (p := ⟨w.heap.size, 1, none⟩) z0).trans x0_1, (hb.cell (p := ⟨w.heap.size, 2, none⟩) z0).trans x0_2, (hb.cell (p := ⟨w2.heap.size, 0, none⟩) z5).trans x5_0, (hb.cell (p := ⟨w2.heap.size, 1, none⟩) z5).trans x5_1⟩)
      have HYW1 := Lib.hid (show ∀ W', Below W1.heap.size W1 W' → (W'.frozen? ⟨w.heap.size, 0, none⟩ = false ∧ W'.frozen? ⟨w.heap.size, 1, none⟩ = false ∧ W'.frozen? ⟨w.heap.size, 2, none⟩ = false ∧ W'.frozen? ⟨w2.heap.size, 0, none⟩ = false ∧ W'.frozen? ⟨w2.heap.size, 1, none⟩ = false) from fun W' hb =>
        ⟨(hb.frozen (p := ⟨w.heap.size, 0, none⟩) z0).trans y0_0, (hb.frozen (p := ⟨w.heap.size, 1, none⟩) z0).trans y0_1, (hb.frozen (p := ⟨w.heap.size, 2, none⟩) z0).trans y0_2, (hb.frozen (p := ⟨w2.heap.size, 0, none⟩) z5).trans y5_0, (hb.frozen (p := ⟨w2.heap.size, 1, none⟩) z5).trans y5_1⟩)
      have HZW1 := Lib.hid (show ∀ W', Below W1.heap.size W1 W' → (w.heap.size < W'.heap.size ∧ w2.heap.size < W'.heap.size) from fun W' hb =>
        ⟨Nat.lt_of_lt_of_le z0 hb.size, Nat.lt_of_lt_of_le z5 hb.size⟩)
      replace gb := Below.refl W1.heap.size W1
      go_wp2_with fail
      obtain ⟨W2, hW2⟩ : ∃ W2, W1.alloc (.cells #[.int .u32 1] 57) = W2 := ⟨_, rfl⟩
      have hb_W2 : Below W1.heap.size W1 W2 := by rw [← hW2]; exact below_new _ _
      have d_W2 : Rd W2 (.slice (some ⟨W1.heap.size, 0, none⟩) 1 1) [1] := by rw [← hW2]; exact lit1 (a := 1) W1 (by omega)
      clear x0_0 y0_0 x0_1 y0_1 x0_2 y0_2 x5_0 y5_0 x5_1 y5_1
      replace gb := below_step gb hb_W2
      obtain ⟨x0_0, x0_1, x0_2, x5_0, x5_1⟩ := HXW1.out _ gb
      obtain ⟨y0_0, y0_1, y0_2, y5_0, y5_1⟩ := HYW1.out _ gb
      obtain ⟨z0, z5⟩ := HZW1.out _ gb
      rw [hW2]
      clear hW2
      rw [HE2.out]
      refine (ref6_parse_ok t2 _ G2.out HT.out).mono ?_
      clear x0_0 y0_0 x0_1 y0_1 x0_2 y0_2 x5_0 y5_0 x5_1 y5_1
      rintro e w4 ⟨v4, rfl, g4, hb4⟩
      obtain ⟨a4_, n4_, c4_, rfl, H4, hm4⟩ := g4.rd.open
      replace d_W2 := d_W2.to hb4
      replace gb := below_step gb hb4
      obtain ⟨x0_0, x0_1, x0_2, x5_0, x5_1⟩ := HXW1.out _ gb
      obtain ⟨y0_0, y0_1, y0_2, y5_0, y5_1⟩ := HYW1.out _ gb
      obtain ⟨z0, z5⟩ := HZW1.out _ gb
      go_wp2_with fail
      refine (ref8_make ng2 false _ _ _ _ _ (g2.to gb).1 g4.rd L1.out L2.out HV.out q (H9.out ng2 Hng2) HS).mono ?_
      clear x0_0 y0_0 x0_1 y0_1 x0_2 y0_2 x5_0 y5_0 x5_1 y5_1
      rintro e w5 ⟨ng5, a5_, n5_, c5_, p5_, m5_, k5_, rfl, g5, hb5⟩
      replace d_W2 := d_W2.to hb5
      replace g4 := g4.to hb5
      replace gb := below_step gb hb5
      obtain ⟨x0_0, x0_1, x0_2, x5_0, x5_1⟩ := HXW1.out _ gb
      obtain ⟨y0_0, y0_1, y0_2, y5_0, y5_1⟩ := HYW1.out _ gb
      obtain ⟨z0, z5⟩ := HZW1.out _ gb
      go_wp2_with fail
      refine bodyPost_ret (results_Rt Try.results13 _ _ _ _ _ _ rfl (Tri.set (x0 := .bool false) (y0 := .slice none 0 0) (z0 := .slice none 0 0) ⟨x0_0, x0_1, x0_2, y0_0, y0_1, y0_2⟩ _ _ _)) rfl (finRK (below_step zb gb) (by omega) ?_ g5)
      omega

set_option maxRecDepth 100000 in
set_option maxHeartbeats 8000000 in
theorem ref8_parse_none (s : ByteArray) (w : World) (hs : s.size ≤ 1000) (t1 t2 : ByteArray) (o : Bool) (e1 : ba (hd1 (bs s)) = t1) (e2 : ba (tl1 (bs s)) = t2) (e3 : has1 (bs s) = o) (z k : Int) (hz : pz (bs t1) = z) (hk : pk (bs t1) = k) (k0 : k = 0) (o0 : o = false) (q : Rat) (hq : mkRat z 1 = q) (hq1 : szq q ≤ 1000) (hq2 : szi z ≤ 1001) :
    Calls Try.prog 13 #[.string s] w (GivesQK w q) := by
  have G1 := Lib.hid (show t1.size ≤ 1000 by rw [← e1]; exact hd1_size hs)
  have G2 := Lib.hid (show t2.size ≤ 1000 by rw [← e2]; exact tl1_size hs)
  have Hz := Lib.hid hz
  have Hk := Lib.hid hk
  have E1 := Lib.hid e1
  have E2 := Lib.hid e2
  have E3 := Lib.hid e3
  clear hz hk e1 e2 e3
  subst k0
  subst o0
  have H9 := Lib.hid (show ∀ ng, Hid (decide (z < 0) = ng) → rat (ng != false) (val (limbs z.natAbs)) (val [1]) = q from fun ng e => by rw [← e.out, Bool.bne_false, val_limbs, show val [1] = 1 by decide, rat_sgn, hq])
  have HS : Hid (szq q ≤ 1000) := hq1
  have HV := Lib.hid (show val [1] ≠ 0 by decide)
  have L1 := Lib.hid (show (limbs z.natAbs).length ≤ 3000 by rw [sz_def]; unfold szi at hq2; omega)
  have L2 := Lib.hid (show ([1] : List Nat).length ≤ 3000 by decide)
  clear hq hq1 hq2
  go_enter Try.func13, Try.ntmps13
  go_wp2_with fail
  obtain ⟨W0, hW0⟩ : ∃ W0, w.alloc (.cells #[.bool false, .slice none 0 0, .slice none 0 0] 24) = W0 := ⟨_, rfl⟩
  have HXW0 := Lib.hid (show ∀ W', Below W0.heap.size W0 W' → (W'.cell? ⟨w.heap.size, 0, none⟩ = some (.bool false) ∧ W'.cell? ⟨w.heap.size, 1, none⟩ = some (.slice none 0 0) ∧ W'.cell? ⟨w.heap.size, 2, none⟩ = some (.slice none 0 0)) from fun W' hb =>
    ⟨(hb.cell (p := ⟨w.heap.size, 0, none⟩) (by rw [← hW0]; simp <;> omega)).trans (by rw [← hW0]; simp [go_sem]), (hb.cell (p := ⟨w.heap.size, 1, none⟩) (by rw [← hW0]; simp <;> omega)).trans (by rw [← hW0]; simp [go_sem]), (hb.cell (p := ⟨w.heap.size, 2, none⟩) (by rw [← hW0]; simp <;> omega)).trans (by rw [← hW0]; simp [go_sem])⟩)
  have HYW0 := Lib.hid (show ∀ W', Below W0.heap.size W0 W' → (W'.frozen? ⟨w.heap.size, 0, none⟩ = false ∧ W'.frozen? ⟨w.heap.size, 1, none⟩ = false ∧ W'.frozen? ⟨w.heap.size, 2, none⟩ = false) from fun W' hb =>
    ⟨(hb.frozen (p := ⟨w.heap.size, 0, none⟩) (by rw [← hW0]; simp <;> omega)).trans (by rw [← hW0]; simp [go_sem]), (hb.frozen (p := ⟨w.heap.size, 1, none⟩) (by rw [← hW0]; simp <;> omega)).trans (by rw [← hW0]; simp [go_sem]), (hb.frozen (p := ⟨w.heap.size, 2, none⟩) (by rw [← hW0]; simp <;> omega)).trans (by rw [← hW0]; simp [go_sem])⟩)
  have HZW0 := Lib.hid (show ∀ W', Below W0.heap.size W0 W' → (w.heap.size < W'.heap.size) from fun W' hb =>
    Nat.lt_of_lt_of_le (by rw [← hW0]; simp <;> omega) hb.size)
  have zb : Below w.heap.size w W0 := by rw [← hW0]; exact below_new _ _
  rw [hW0]
  clear hW0
  have gb : Below W0.heap.size W0 W0 := Below.refl _ _
  obtain ⟨x0_0, x0_1, x0_2⟩ := HXW0.out _ gb
  obtain ⟨y0_0, y0_1, y0_2⟩ := HYW0.out _ gb
  obtain z0 := HZW0.out _ gb
  have HN := Lib.hid (show (bs s).length = s.size from bs_length s)
  go_loop [4, 5] (fun at_ i => ∃ j : Nat, j ≤ s.size ∧ i = .int .i64 ((j : Int) - 1) ∧ ∃ p : Nat, at_ = .int .i64 p ∧ Hid (p = j + (hd1 ((bs s).drop j)).length)) (fun _ i => (intOf i + 1).toNat)
  case atStart => exact ⟨s.size, Nat.le_refl _, rfl, s.size, rfl, by show _ = _; rw [List.drop_eq_nil_of_le (by rw [bs_length]; exact Nat.le_refl _)]; rfl⟩
  case round =>
    obtain ⟨j, hj, rfl, p, rfl, Hp⟩ := hrel
    rcases Nat.eq_zero_or_pos j with rfl | hj0
    rotate_left
    · obtain ⟨j, rfl⟩ : ∃ i, j = i + 1 := ⟨j - 1, by omega⟩
      have hjs : j < s.size := by omega
      have hg := bs_get hjs
      by_cases hc : nth (bs s) j = 124
      · have b1 : ((s[j]'hjs).toNat : Int) = 124 := by rw [hg, hc]; rfl
        have HR := Lib.hid (fs_hit HN.out hjs hc)
        clear hg hc Hp
        go_wp2_with fail
        go_round
        case rel => exact ⟨j, by omega, by go_num, j, by go_num, HR⟩
        case measure => simp [intOf]
      · have b1 : (((s[j]'hjs).toNat : Int) == 124) = false := by rw [hg]; simp; omega
        have HR := Lib.hid (fs_miss HN.out hjs hc Hp.out)
        clear hg hc Hp
        go_wp2_with fail
        go_round
        case rel => exact ⟨j, by omega, by go_num, p, rfl, HR⟩
        case measure => simp [intOf]
    · obtain rfl : p = (hd1 (bs s)).length := by have k := Hp.out; rw [List.drop_zero] at k; omega
      clear Hp
      have HP := fs_end HN.out
      have HE1 := Lib.hid (show s.extract 0 (hd1 (bs s)).length = t1 by rw [← E1.out]; exact fs_head s)
      have HE2 := Lib.hid (show s.extract ((hd1 (bs s)).length + 1) s.size = t2 by rw [← E2.out]; exact fs_tail s)
      have HE3 := Lib.hid (show decide ((hd1 (bs s)).length < s.size) = false by rw [← E3.out]; exact fs_has HN.out)
      clear E1 E2 E3
      generalize (hd1 (bs s)).length = p at *
      have hlt : ¬ p < s.size := by have := HE3.out; simpa using this
      go_wp2_with fail
      rw [HE1.out]
      refine (rparse_k _ _ G1.out z _ Hz.out Hk.out).mono ?_
      clear x0_0 y0_0 x0_1 y0_1 x0_2 y0_2
      rintro e w2 ⟨ng2, a2_, n2_, c2_, rfl, Hng2, g2, hb2⟩
      replace gb := below_step gb hb2
      obtain ⟨x0_0, x0_1, x0_2⟩ := HXW0.out _ gb
      obtain ⟨y0_0, y0_1, y0_2⟩ := HYW0.out _ gb
      obtain z0 := HZW0.out _ gb
      go_wp2_with fail
      obtain ⟨W1, hW1⟩ : ∃ W1, w2.alloc (.cells #[.bool ng2, .slice a2_ n2_ c2_] 40) = W1 := ⟨_, rfl⟩
      have hb_W1 : Below w2.heap.size w2 W1 := by rw [← hW1]; exact below_new _ _
      have hs_W1 : Hid (W1.heap.size = w2.heap.size + 1) := by show _ = _; rw [← hW1]; simp
      clear x0_0 y0_0 x0_1 y0_1 x0_2 y0_2
      replace g2 := g2.to hb_W1
      replace gb := below_step gb hb_W1
      obtain ⟨x0_0, x0_1, x0_2⟩ := HXW0.out _ gb
      obtain ⟨y0_0, y0_1, y0_2⟩ := HYW0.out _ gb
      obtain z0 := HZW0.out _ gb
      have x5_0 : W1.cell? ⟨w2.heap.size, 0, none⟩ = some (.bool ng2) := by rw [← hW1]; simp [go_sem]
      have y5_0 : W1.frozen? ⟨w2.heap.size, 0, none⟩ = false := by rw [← hW1]; simp [go_sem]
      have x5_1 : W1.cell? ⟨w2.heap.size, 1, none⟩ = some (.slice a2_ n2_ c2_) := by rw [← hW1]; simp [go_sem]
      have y5_1 : W1.frozen? ⟨w2.heap.size, 1, none⟩ = false := by rw [← hW1]; simp [go_sem]
      have z5 : w2.heap.size < W1.heap.size := by rw [← hW1]; simp
      rw [hW1]
      clear hW1
      replace zb := below_step zb gb
      have HXW1 := Lib.hid (show ∀ W', Below W1.heap.size W1 W' → (W'.cell? ⟨w.heap.size, 0, none⟩ = some (.bool false) ∧ W'.cell? ⟨w.heap.size, 1, none⟩ = some (.slice none 0 0) ∧ W'.cell? ⟨w.heap.size, 2, none⟩ = some (.slice none 0 0) ∧ W'.cell? ⟨w2.heap.size, 0, none⟩ = some (.bool ng2) ∧ W'.cell? ⟨w2.heap.size, 1, none⟩ = some (.slice a2_ n2_ c2_)) from fun W' hb =>
        ⟨(hb.cell (p := ⟨w.heap.size, 0, none⟩) z0).trans x0_0, (hb.cell (p := ⟨w.heap.size, 1, none⟩) z0).trans x0_1, (hb.cell (p := ⟨w.heap.size, 2, none⟩) z0).trans x0_2, (hb.cell (p := ⟨w2.heap.size, 0, none⟩) z5).trans x5_0, (hb.cell (p := ⟨w2.heap.size, 1, none⟩) z5).trans x5_1⟩)
      have HYW1 := Lib.hid (show ∀ W', Below W1.heap.size W1 W' → (W'.frozen? ⟨w.heap.size, 0, none⟩ = false ∧ W'.frozen? ⟨w.heap.size, 1, none⟩ = false ∧ W'.frozen? ⟨w.heap.size, 2, none⟩ = false ∧ W'.frozen? ⟨w2.heap.size, 0, none⟩ = false ∧ W'.frozen? ⟨w2.heap.size, 1, none⟩ = false) from fun W' hb =>
        ⟨(hb.frozen (p := ⟨w.heap.size, 0, none⟩) z0).trans y0_0, (hb.frozen (p := ⟨w.heap.size, 1, none⟩) z0).trans y0_1, (hb.frozen (p := ⟨w.heap.size, 2, none⟩) z0).trans y0_2, (hb.frozen (p := ⟨w2.heap.size, 0, none⟩) z5).trans y5_0, (hb.frozen (p := ⟨w2.heap.size, 1, none⟩) z5).trans y5_1⟩)
      have HZW1 := Lib.hid (show ∀ W', Below W1.heap.size W1 W' → (w.heap.size < W'.heap.size ∧ w2.heap.size < W'.heap.size) from fun W' hb =>
        ⟨Nat.lt_of_lt_of_le z0 hb.size, Nat.lt_of_lt_of_le z5 hb.size⟩)
      replace gb := Below.refl W1.heap.size W1
      go_wp2_with fail
      obtain ⟨W2, hW2⟩ : ∃ W2, W1.alloc (.cells #[.int .u32 1] 57) = W2 := ⟨_, rfl⟩
      have hb_W2 : Below W1.heap.size W1 W2 := by rw [← hW2]; exact below_new _ _
      have d_W2 : Rd W2 (.slice (some ⟨w2.heap.size + 1, 0, none⟩) 1 1) [1] := by rw [← hW2]; exact lit1_at (a := 1) W1 (hs_W1.out.symm) (by omega)
      clear x0_0 y0_0 x0_1 y0_1 x0_2 y0_2 x5_0 y5_0 x5_1 y5_1
      replace gb := below_step gb hb_W2
      obtain ⟨x0_0, x0_1, x0_2, x5_0, x5_1⟩ := HXW1.out _ gb
      obtain ⟨y0_0, y0_1, y0_2, y5_0, y5_1⟩ := HYW1.out _ gb
      obtain ⟨z0, z5⟩ := HZW1.out _ gb
      rw [hW2]
      clear hW2
      refine (ref8_make ng2 false _ _ (limbs z.natAbs) [1] _ (g2.to gb).1 d_W2 L1.out L2.out HV.out q (H9.out ng2 Hng2) HS).mono ?_
      clear x0_0 y0_0 x0_1 y0_1 x0_2 y0_2 x5_0 y5_0 x5_1 y5_1
      rintro e w5 ⟨ng5, a5_, n5_, c5_, p5_, m5_, k5_, rfl, g5, hb5⟩
      replace d_W2 := d_W2.to hb5
      replace gb := below_step gb hb5
      obtain ⟨x0_0, x0_1, x0_2, x5_0, x5_1⟩ := HXW1.out _ gb
      obtain ⟨y0_0, y0_1, y0_2, y5_0, y5_1⟩ := HYW1.out _ gb
      obtain ⟨z0, z5⟩ := HZW1.out _ gb
      go_wp2_with fail
      refine bodyPost_ret (results_Rt Try.results13 _ _ _ _ _ _ rfl (Tri.set (x0 := .bool false) (y0 := .slice none 0 0) (z0 := .slice none 0 0) ⟨x0_0, x0_1, x0_2, y0_0, y0_1, y0_2⟩ _ _ _)) rfl (finRK (below_step zb gb) (by omega) ?_ g5)
      omega

end Go.Proofs.Ytmjnlpanlgmdmaa


namespace Go.Proofs.Ytmjnlpanlgmdmaa
open Go.RowKit Tw
set_option linter.unusedVariables false
set_option linter.unusedSimpArgs false

def GivesF (w : World) (ng : Bool) (ln ld : List Nat) (k : Int) (e : Ending) (w' : World) : Prop :=
  ∃ a n c a' n' c', e = .returned (.tuple #[aggR ng (.slice a n c) (.slice a' n' c'), .int .i64 k]) ∧ IsF w' (.slice a n c) (.slice a' n' c') ln ld ∧ Below w.heap.size w w'

theorem givesF {w : World} {q : Rat} {e : Ending} {w' : World} (h : GivesQK w q e w') : GivesF w (decide (q < 0)) (limbs q.num.natAbs) (limbs q.den) 0 e w' := by
  obtain ⟨ng, a, n, c, a', n', c', rfl, g, hb⟩ := h
  exact ⟨a, n, c, a', n', c', by rw [g.ng], g.isF, hb⟩

theorem givesF_no {w : World} {k : Int} {e : Ending} {w' : World} (h : e = .returned (.tuple #[aggR false (.slice none 0 0) (.slice none 0 0), .int .i64 k]) ∧ Below w.heap.size w w') : GivesF w false [] [] k e w' :=
  ⟨none, 0, 0, none, 0, 0, h.1, ⟨Rd.nil _, Rd.nil _⟩, h.2⟩

theorem equal_q {lo hi lo' hi' : Nat} {b c : Bool} {v u v' u' : Value} {x : Rat} (w : World) (g : CanQ lo hi w b v u x) (g' : CanQ lo' hi' w c v' u' x) :
    Calls Try.prog 15 #[aggR b v u, aggR c v' u'] w fun e w' => e = .returned (.bool true) ∧ Below w.heap.size w w' :=
  ref8_equal b v u _ _ c v' u' _ _ w g.isF g'.isF true (by rw [← g.ng, ← g'.ng]; simp)

theorem equal_f {b : Bool} {v u v' u' : Value} {ln ld : List Nat} (w : World) (g : IsF w v u ln ld) (g' : IsF w v' u' ln ld) :
    Calls Try.prog 15 #[aggR b v u, aggR b v' u'] w fun e w' => e = .returned (.bool true) ∧ Below w.heap.size w w' :=
  ref8_equal b v u _ _ b v' u' _ _ w g g' true (by simp)

theorem make_both (b c : Bool) (v u : Value) (ln ld : List Nat) (hn : Small ln) (hd : Small ld) (h1 : ln.length ≤ 1000) (h2 : ld.length ≤ 1000) : ∃ ng l1 l2 k,
    (∀ w, Rd w v ln → Rd w u ld → Calls Try.prog 22 #[aggI b v, aggI c u] w (GivesF w ng l1 l2 k)) ∧
    (∀ w, Rd w v ln → Rd w u ld → Calls Try.prog 26 #[aggI b v, aggI c u] w (GivesF w ng l1 l2 k)) := by
  by_cases h0 : val ld = 0
  · exact ⟨false, [], [], 3, fun w hv hu => (ratio_make_no b c v u ln ld w hv hu (by omega) h0).mono fun _ _ h => givesF_no h,
      fun w hv hu => (ref8_make_no b c v u ln ld w hv hu h0).mono fun _ _ h => givesF_no h⟩
  · have hs : szq (rat (b != c) (val ln) (val ld)) ≤ 1000 := by
      have := szq_rat (b != c) (val ln) (val ld)
      have := sz_val hn
      have := sz_val hd
      omega
    exact ⟨_, _, _, 0, fun w hv hu => (ratio_make b c v u ln ld w hv hu (by omega) (by omega) h0 _ rfl hs).mono fun _ _ h => givesF h,
      fun w hv hu => (ref8_make b c v u ln ld w hv hu (by omega) (by omega) h0 _ rfl hs).mono fun _ _ h => givesF h⟩

theorem dval_sz {l : List Nat} (h : OkText l) : sz (dval l) ≤ l.length := by
  have h2 := dval_lt h.2.1
  have h3 : (10 : Nat) ^ l.length ≤ B ^ l.length := Nat.pow_le_pow_left (by rw [B_eq]; omega) _
  exact sz_le (Nat.lt_of_lt_of_le h2 h3)

theorem pz_sz {l : List Nat} : szi (pz l) ≤ l.length := by
  unfold pz
  split
  · rename_i hok
    rw [szi_sgn]
    have h1 := body_len l
    have := dval_sz hok
    omega
  · have : szi 0 = 0 := by decide +kernel
    omega

theorem szq_mk (z : Int) (d : Nat) : szq (mkRat z d) ≤ max 1 (max (szi z) (sz d)) := by
  rw [mkRat_sgn]; exact szq_rat _ _ _

theorem pk_two {l : List Nat} (h : pk l ≠ 0) : pk l = 2 := by
  unfold pk at *
  split at h
  · exact absurd rfl h
  · rename_i hn; rw [if_neg hn]

theorem parse_both (s : ByteArray) (hs : s.size ≤ 900) : ∃ ng l1 l2 k,
    (∀ w, Calls Try.prog 12 #[.string s] w (GivesF w ng l1 l2 k)) ∧
    (∀ w, Calls Try.prog 13 #[.string s] w (GivesF w ng l1 l2 k)) := by
  have b1 : (ba (hd1 (bs s))).size ≤ s.size := by
    rw [ba_size]; exact fs_end (bs_length s)
  have b2 : (ba (tl1 (bs s))).size ≤ s.size := by
    rw [ba_size, tl1_drop, List.length_drop, bs_length]; omega
  obtain ⟨t1, e1⟩ : ∃ t, ba (hd1 (bs s)) = t := ⟨_, rfl⟩
  obtain ⟨t2, e2⟩ : ∃ t, ba (tl1 (bs s)) = t := ⟨_, rfl⟩
  obtain ⟨o, e3⟩ : ∃ o, has1 (bs s) = o := ⟨_, rfl⟩
  rw [e1] at b1
  rw [e2] at b2
  have hs' : s.size ≤ 1000 := by omega
  have z1 : szi (pz (bs t1)) ≤ 900 := by have := @pz_sz (bs t1); rw [bs_length] at this; omega
  by_cases hk : pk (bs t1) = 0
  rotate_left
  · exact ⟨false, [], [], 2, fun w => (parse_head s w hs' t1 t2 o e1 e2 e3 _ _ rfl rfl (pk_two hk)).mono fun _ _ h => givesF_no h,
      fun w => (ref8_parse_head s w hs' t1 t2 o e1 e2 e3 _ _ rfl rfl (pk_two hk)).mono fun _ _ h => givesF_no h⟩
  cases o with
  | false =>
    have hq : szq (mkRat (pz (bs t1)) 1) ≤ 1000 := by
      have := szq_mk (pz (bs t1)) 1
      have : sz 1 = 1 := sz_one
      omega
    exact ⟨_, _, _, 0, fun w => (parse_none s w hs' t1 t2 false e1 e2 e3 _ _ rfl rfl hk rfl _ rfl hq (by omega)).mono fun _ _ h => givesF h,
      fun w => (ref8_parse_none s w hs' t1 t2 false e1 e2 e3 _ _ rfl rfl hk rfl _ rfl hq (by omega)).mono fun _ _ h => givesF h⟩
  | true =>
    by_cases ht : OkText (bs t2)
    rotate_left
    · exact ⟨false, [], [], 2, fun w => (parse_tail s w hs' t1 t2 true e1 e2 e3 _ _ rfl rfl hk rfl ht).mono fun _ _ h => givesF_no h,
        fun w => (ref8_parse_tail s w hs' t1 t2 true e1 e2 e3 _ _ rfl rfl hk rfl ht).mono fun _ _ h => givesF_no h⟩
    have d1 : sz (dval (bs t2)) ≤ 900 := by have := dval_sz ht; rw [bs_length] at this; omega
    by_cases d0 : dval (bs t2) = 0
    · exact ⟨false, [], [], 3, fun w => (parse_zero s w hs' t1 t2 true e1 e2 e3 _ _ rfl rfl hk rfl ht d0).mono fun _ _ h => givesF_no h,
        fun w => (ref8_parse_zero s w hs' t1 t2 true e1 e2 e3 _ _ rfl rfl hk rfl ht d0).mono fun _ _ h => givesF_no h⟩
    · have hq : szq (mkRat (pz (bs t1)) (dval (bs t2))) ≤ 1000 := by
        have := szq_mk (pz (bs t1)) (dval (bs t2))
        omega
      exact ⟨_, _, _, 0, fun w => (parse_bar s w hs' t1 t2 true e1 e2 e3 _ _ rfl rfl hk rfl ht d0 _ rfl hq (by omega) (by omega)).mono fun _ _ h => givesF h,
        fun w => (ref8_parse_bar s w hs' t1 t2 true e1 e2 e3 _ _ rfl rfl hk rfl ht d0 _ rfl hq (by omega) (by omega)).mono fun _ _ h => givesF h⟩

theorem itext_no (z : Int) : ∀ c ∈ itext z, (c != 124) = true := by
  intro c hc
  have hd : ∀ c ∈ digs z.natAbs, (c != 124) = true := fun c hc => by
    have := digs_dig _ c hc
    have h1 := this.1
    have h2 := this.2
    simp; omega
  unfold itext at hc
  split at hc
  · rcases List.mem_cons.1 hc with rfl | hc
    · rfl
    · exact hd c hc
  · exact hd c hc

theorem hd1_all {l : List Nat} (h : ∀ c ∈ l, (c != 124) = true) : hd1 l = l := by
  induction l with
  | nil => rfl
  | cons c l ih =>
    unfold hd1
    rw [List.takeWhile_cons, if_pos (h c (by simp))]
    exact congrArg _ (ih fun c hc => h c (by simp [hc]))

theorem hd1_bar {l m : List Nat} (h : ∀ c ∈ l, (c != 124) = true) : hd1 (l ++ 124 :: m) = l ∧ tl1 (l ++ 124 :: m) = m ∧ has1 (l ++ 124 :: m) = true := by
  induction l with
  | nil => exact ⟨rfl, rfl, rfl⟩
  | cons c l ih =>
    obtain ⟨h1, h2, h3⟩ := ih fun c hc => h c (by simp [hc])
    have hc := h c (by simp)
    refine ⟨?_, ?_, ?_⟩
    · show hd1 (c :: (l ++ 124 :: m)) = _
      unfold hd1
      rw [List.takeWhile_cons, if_pos hc]
      exact congrArg _ h1
    · show tl1 (c :: (l ++ 124 :: m)) = _
      unfold tl1
      rw [List.dropWhile_cons, if_pos hc]
      exact h2
    · show has1 (c :: (l ++ 124 :: m)) = _
      unfold has1 at *
      rw [List.any_cons, h3, Bool.or_true]

theorem has1_all {l : List Nat} (h : ∀ c ∈ l, (c != 124) = true) : has1 l = false := by
  unfold has1
  rw [List.any_eq_false]
  intro c hc
  have := h c hc
  simpa using this

theorem itext_byte (z : Int) : ∀ x, x ∈ itext z → x < 256 := by
  intro x hx
  unfold itext at hx
  split at hx
  · rcases List.mem_cons.1 hx with rfl | h
    · omega
    · exact dig_lt (digs_dig _) x h
  · exact dig_lt (digs_dig _) x hx

theorem bs_ba_digs (n : Nat) : bs (ba (digs n)) = digs n := bs_ba (dig_lt (digs_dig n))

theorem bs_rtext (z : Int) (d : Nat) : bs (ba (itext z ++ 124 :: digs d)) = itext z ++ 124 :: digs d := by
  refine bs_ba fun x hx => ?_
  rcases List.mem_append.1 hx with h | h
  · exact itext_byte z x h
  · rcases List.mem_cons.1 h with rfl | h
    · omega
    · exact dig_lt (digs_dig _) x h

theorem parse_frac (s : ByteArray) (w : World) (hs : s.size ≤ 900) (z : Int) (d : Nat) (hb : bs s = itext z ++ 124 :: digs d) (d0 : d ≠ 0) (q : Rat) (hq : mkRat z d = q) :
    Calls Try.prog 12 #[.string s] w (GivesQK w q) := by
  obtain ⟨h1, h2, h3⟩ := @hd1_bar (itext z) (digs d) (itext_no z)
  rw [← hb] at h1 h2 h3
  have hl := bs_length s
  have hl2 := congrArg List.length hb
  rw [List.length_append, List.length_cons, hl] at hl2
  have p1 : pz (bs (ba (itext z))) = z := by rw [bs_itext, pz_itext]
  have p2 : pk (bs (ba (itext z))) = 0 := by rw [bs_itext, pk_itext]
  have p3 : bs (ba (digs d)) = digs d := bs_ba_digs d
  have p4 : dval (bs (ba (digs d))) = d := by rw [p3, dval_digs]
  have z1 : szi z ≤ 900 := by have := @pz_sz (itext z); rw [pz_itext] at this; omega
  have d1 : sz d ≤ 900 := by have := dval_sz (okText_digs d); rw [dval_digs] at this; omega
  have hq1 : szq q ≤ 1000 := by rw [← hq]; have := szq_mk z d; omega
  exact parse_bar s w (by omega) (ba (itext z)) (ba (digs d)) true (by rw [h1]) (by rw [h2]) h3 z 0 p1 p2 rfl rfl (by rw [p3]; exact okText_digs d) (by rw [p4]; exact d0) q (by rw [p4]; exact hq) hq1 (by omega) (by rw [p4]; omega)

theorem parse_int (s : ByteArray) (w : World) (hs : s.size ≤ 900) (z : Int) (hb : bs s = itext z) (q : Rat) (hq : mkRat z 1 = q) :
    Calls Try.prog 12 #[.string s] w (GivesQK w q) := by
  have h1 := @hd1_all (itext z) (itext_no z)
  have h3 := @has1_all (itext z) (itext_no z)
  rw [← hb] at h1 h3
  have hl := bs_length s
  have hl2 := congrArg List.length hb
  rw [hl] at hl2
  have p1 : pz (bs (ba (itext z))) = z := by rw [bs_itext, pz_itext]
  have p2 : pk (bs (ba (itext z))) = 0 := by rw [bs_itext, pk_itext]
  have z1 : szi z ≤ 900 := by have := @pz_sz (itext z); rw [pz_itext] at this; omega
  have hq1 : szq q ≤ 1000 := by rw [← hq]; have := szq_mk z 1; have : sz 1 = 1 := sz_one; omega
  exact parse_none s w (by omega) (ba (itext z)) _ false (by rw [h1, hb]) rfl h3 z 0 p1 p2 rfl rfl q hq hq1 (by omega)

theorem parse_rtext (x : Rat) (t : ByteArray) (ht : ba (rtext x) = t) (w : World) (hs : t.size ≤ 900) :
    Calls Try.prog 12 #[.string t] w (GivesQK w x) := by
  subst ht
  by_cases h1 : x.den = 1
  · have e : rtext x = itext x.num := by unfold rtext; rw [if_pos h1]
    rw [e] at hs ⊢
    exact parse_int _ w hs x.num (bs_itext _) x (by rw [← h1]; exact Rat.mkRat_self x)
  · have e : rtext x = itext x.num ++ 124 :: digs x.den := by unfold rtext; rw [if_neg h1]
    rw [e] at hs ⊢
    exact parse_frac _ w hs x.num x.den (bs_rtext x.num x.den) x.den_nz x (Rat.mkRat_self x)

end Go.Proofs.Ytmjnlpanlgmdmaa


namespace Go.Proofs.Ytmjnlpanlgmdmaa
open Go.RowKit Tw
set_option linter.unusedVariables false
set_option linter.unusedSimpArgs false
attribute [local go_sem ↓] Go.wp_at_zero Go.wp_at_succ

theorem inv_pow (x : Rat) (n : Nat) : (x⁻¹) ^ n = (x ^ n)⁻¹ := by
  induction n with
  | zero => rw [Rat.pow_zero, Rat.pow_zero]; decide +kernel
  | succ n ih => rw [Rat.pow_succ, Rat.pow_succ, ih]; grind

set_option maxRecDepth 100000 in
set_option maxHeartbeats 8000000 in
theorem ref8_pow_low {x : Rat} (b : Bool) (v u : Value) (ln ld : List Nat) (n : Int) (w : World) (h : IsQ w b v u ln ld x) (m0 : -9223372036854775808 ≤ n) (m1 : n < 9223372036854775808) (hn : n < -64) :
    Calls Try.prog 19 #[aggR b v u, .int .i64 n] w (fun e w' => e = .returned (.tuple #[aggR false (.slice none 0 0) (.slice none 0 0), .int .i64 4]) ∧ Below w.heap.size w w') := by
  obtain ⟨a0, n0, c0, rfl, H0, hm0⟩ := h.1.open
  obtain ⟨a1, n1, c1, rfl, H1, hm1⟩ := h.2.1.open
  go_enter Try.func19, Try.ntmps19
  go_wp2_with fail
  obtain ⟨W0, hW0⟩ : ∃ W0, (w.alloc (.cells #[.bool b, .slice a0 n0 c0, .slice a1 n1 c1] 24)).alloc (.cells #[.bool false, .slice none 0 0, .slice none 0 0] 24) = W0 := ⟨_, rfl⟩
  have HXW0 := Lib.hid (show ∀ W', Below W0.heap.size W0 W' → (W'.cell? ⟨w.heap.size, 0, none⟩ = some (.bool b) ∧ W'.cell? ⟨w.heap.size, 1, none⟩ = some (.slice a0 n0 c0) ∧ W'.cell? ⟨w.heap.size, 2, none⟩ = some (.slice a1 n1 c1) ∧ W'.cell? ⟨w.heap.size + 1, 0, none⟩ = some (.bool false) ∧ W'.cell? ⟨w.heap.size + 1, 1, none⟩ = some (.slice none 0 0) ∧ W'.cell? ⟨w.heap.size + 1, 2, none⟩ = some (.slice none 0 0)) from fun W' hb =>
    ⟨(hb.cell (p := ⟨w.heap.size, 0, none⟩) (by rw [← hW0]; simp <;> omega)).trans (by rw [← hW0]; simp [go_sem]), (hb.cell (p := ⟨w.heap.size, 1, none⟩) (by rw [← hW0]; simp <;> omega)).trans (by rw [← hW0]; simp [go_sem]), (hb.cell (p := ⟨w.heap.size, 2, none⟩) (by rw [← hW0]; simp <;> omega)).trans (by rw [← hW0]; simp [go_sem]), (hb.cell (p := ⟨w.heap.size + 1, 0, none⟩) (by rw [← hW0]; simp <;> omega)).trans (by rw [← hW0]; simp [go_sem]), (hb.cell (p := ⟨w.heap.size + 1, 1, none⟩) (by rw [← hW0]; simp <;> omega)).trans (by rw [← hW0]; simp [go_sem]), (hb.cell (p := ⟨w.heap.size + 1, 2, none⟩) (by rw [← hW0]; simp <;> omega)).trans (by rw [← hW0]; simp [go_sem])⟩)
  have HYW0 := Lib.hid (show ∀ W', Below W0.heap.size W0 W' → (W'.frozen? ⟨w.heap.size, 0, none⟩ = false ∧ W'.frozen? ⟨w.heap.size, 1, none⟩ = false ∧ W'.frozen? ⟨w.heap.size, 2, none⟩ = false ∧ W'.frozen? ⟨w.heap.size + 1, 0, none⟩ = false ∧ W'.frozen? ⟨w.heap.size + 1, 1, none⟩ = false ∧ W'.frozen? ⟨w.heap.size + 1, 2, none⟩ = false) from fun W' hb =>
    ⟨(hb.frozen (p := ⟨w.heap.size, 0, none⟩) (by rw [← hW0]; simp <;> omega)).trans (by rw [← hW0]; simp [go_sem]), (hb.frozen (p := ⟨w.heap.size, 1, none⟩) (by rw [← hW0]; simp <;> omega)).trans (by rw [← hW0]; simp [go_sem]), (hb.frozen (p := ⟨w.heap.size, 2, none⟩) (by rw [← hW0]; simp <;> omega)).trans (by rw [← hW0]; simp [go_sem]), (hb.frozen (p := ⟨w.heap.size + 1, 0, none⟩) (by rw [← hW0]; simp <;> omega)).trans (by rw [← hW0]; simp [go_sem]), (hb.frozen (p := ⟨w.heap.size + 1, 1, none⟩) (by rw [← hW0]; simp <;> omega)).trans (by rw [← hW0]; simp [go_sem]), (hb.frozen (p := ⟨w.heap.size + 1, 2, none⟩) (by rw [← hW0]; simp <;> omega)).trans (by rw [← hW0]; simp [go_sem])⟩)
  have HZW0 := Lib.hid (show ∀ W', Below W0.heap.size W0 W' → (w.heap.size < W'.heap.size ∧ w.heap.size + 1 < W'.heap.size) from fun W' hb =>
    ⟨Nat.lt_of_lt_of_le (by rw [← hW0]; simp <;> omega) hb.size, Nat.lt_of_lt_of_le (by rw [← hW0]; simp <;> omega) hb.size⟩)
  have zb : Below w.heap.size w W0 := by rw [← hW0]; exact below_step (below_new _ _) (below_new _ _)
  rw [hW0]
  clear hW0
  have i0 := h.to zb
  have gb : Below W0.heap.size W0 W0 := Below.refl _ _
  obtain ⟨x0_0, x0_1, x0_2, x1_0, x1_1, x1_2⟩ := HXW0.out _ gb
  obtain ⟨y0_0, y0_1, y0_2, y1_0, y1_1, y1_2⟩ := HYW0.out _ gb
  obtain ⟨z0, z1⟩ := HZW0.out _ gb
  refine bodyPost_ret (results_Rt Try.results19 _ _ _ _ _ _ rfl ⟨x1_0, x1_1, x1_2, y1_0, y1_1, y1_2⟩) rfl ⟨rfl, below_step zb gb⟩

set_option maxRecDepth 100000 in
set_option maxHeartbeats 8000000 in
theorem ref8_pow_high {x : Rat} (b : Bool) (v u : Value) (ln ld : List Nat) (n : Int) (w : World) (h : IsQ w b v u ln ld x) (m0 : -9223372036854775808 ≤ n) (m1 : n < 9223372036854775808) (hn : 64 < n) :
    Calls Try.prog 19 #[aggR b v u, .int .i64 n] w (fun e w' => e = .returned (.tuple #[aggR false (.slice none 0 0) (.slice none 0 0), .int .i64 4]) ∧ Below w.heap.size w w') := by
  obtain ⟨a0, n0, c0, rfl, H0, hm0⟩ := h.1.open
  obtain ⟨a1, n1, c1, rfl, H1, hm1⟩ := h.2.1.open
  go_enter Try.func19, Try.ntmps19
  go_wp2_with fail
  obtain ⟨W0, hW0⟩ : ∃ W0, (w.alloc (.cells #[.bool b, .slice a0 n0 c0, .slice a1 n1 c1] 24)).alloc (.cells #[.bool false, .slice none 0 0, .slice none 0 0] 24) = W0 := ⟨_, rfl⟩
  have HXW0 := Lib.hid (show ∀ W', Below W0.heap.size W0 W' → (W'.cell? ⟨w.heap.size, 0, none⟩ = some (.bool b) ∧ W'.cell? ⟨w.heap.size, 1, none⟩ = some (.slice a0 n0 c0) ∧ W'.cell? ⟨w.heap.size, 2, none⟩ = some (.slice a1 n1 c1) ∧ W'.cell? ⟨w.heap.size + 1, 0, none⟩ = some (.bool false) ∧ W'.cell? ⟨w.heap.size + 1, 1, none⟩ = some (.slice none 0 0) ∧ W'.cell? ⟨w.heap.size + 1, 2, none⟩ = some (.slice none 0 0)) from fun W' hb =>
    ⟨(hb.cell (p := ⟨w.heap.size, 0, none⟩) (by rw [← hW0]; simp <;> omega)).trans (by rw [← hW0]; simp [go_sem]), (hb.cell (p := ⟨w.heap.size, 1, none⟩) (by rw [← hW0]; simp <;> omega)).trans (by rw [← hW0]; simp [go_sem]), (hb.cell (p := ⟨w.heap.size, 2, none⟩) (by rw [← hW0]; simp <;> omega)).trans (by rw [← hW0]; simp [go_sem]), (hb.cell (p := ⟨w.heap.size + 1, 0, none⟩) (by rw [← hW0]; simp <;> omega)).trans (by rw [← hW0]; simp [go_sem]), (hb.cell (p := ⟨w.heap.size + 1, 1, none⟩) (by rw [← hW0]; simp <;> omega)).trans (by rw [← hW0]; simp [go_sem]), (hb.cell (p := ⟨w.heap.size + 1, 2, none⟩) (by rw [← hW0]; simp <;> omega)).trans (by rw [← hW0]; simp [go_sem])⟩)
  have HYW0 := Lib.hid (show ∀ W', Below W0.heap.size W0 W' → (W'.frozen? ⟨w.heap.size, 0, none⟩ = false ∧ W'.frozen? ⟨w.heap.size, 1, none⟩ = false ∧ W'.frozen? ⟨w.heap.size, 2, none⟩ = false ∧ W'.frozen? ⟨w.heap.size + 1, 0, none⟩ = false ∧ W'.frozen? ⟨w.heap.size + 1, 1, none⟩ = false ∧ W'.frozen? ⟨w.heap.size + 1, 2, none⟩ = false) from fun W' hb =>
    ⟨(hb.frozen (p := ⟨w.heap.size, 0, none⟩) (by rw [← hW0]; simp <;> omega)).trans (by rw [← hW0]; simp [go_sem]), (hb.frozen (p := ⟨w.heap.size, 1, none⟩) (by rw [← hW0]; simp <;> omega)).trans (by rw [← hW0]; simp [go_sem]), (hb.frozen (p := ⟨w.heap.size, 2, none⟩) (by rw [← hW0]; simp <;> omega)).trans (by rw [← hW0]; simp [go_sem]), (hb.frozen (p := ⟨w.heap.size + 1, 0, none⟩) (by rw [← hW0]; simp <;> omega)).trans (by rw [← hW0]; simp [go_sem]), (hb.frozen (p := ⟨w.heap.size + 1, 1, none⟩) (by rw [← hW0]; simp <;> omega)).trans (by rw [← hW0]; simp [go_sem]), (hb.frozen (p := ⟨w.heap.size + 1, 2, none⟩) (by rw [← hW0]; simp <;> omega)).trans (by rw [← hW0]; simp [go_sem])⟩)
  have HZW0 := Lib.hid (show ∀ W', Below W0.heap.size W0 W' → (w.heap.size < W'.heap.size ∧ w.heap.size + 1 < W'.heap.size) from fun W' hb =>
    ⟨Nat.lt_of_lt_of_le (by rw [← hW0]; simp <;> omega) hb.size, Nat.lt_of_lt_of_le (by rw [← hW0]; simp <;> omega) hb.size⟩)
  have zb : Below w.heap.size w W0 := by rw [← hW0]; exact below_step (below_new _ _) (below_new _ _)
  rw [hW0]
  clear hW0
  have i0 := h.to zb
  have gb : Below W0.heap.size W0 W0 := Below.refl _ _
  obtain ⟨x0_0, x0_1, x0_2, x1_0, x1_1, x1_2⟩ := HXW0.out _ gb
  obtain ⟨y0_0, y0_1, y0_2, y1_0, y1_1, y1_2⟩ := HYW0.out _ gb
  obtain ⟨z0, z1⟩ := HZW0.out _ gb
  refine bodyPost_ret (results_Rt Try.results19 _ _ _ _ _ _ rfl ⟨x1_0, x1_1, x1_2, y1_0, y1_1, y1_2⟩) rfl ⟨rfl, below_step zb gb⟩

set_option maxRecDepth 100000 in
set_option maxHeartbeats 8000000 in
theorem ref8_pow_zero {x : Rat} (b : Bool) (v u : Value) (ln ld : List Nat) (n : Int) (w : World) (h : IsQ w b v u ln ld x) (m0 : -9223372036854775808 ≤ n) (m1 : n < 9223372036854775808) (hn : -64 ≤ n) (hn' : n < 0) (h0 : x = 0) :
    Calls Try.prog 19 #[aggR b v u, .int .i64 n] w (fun e w' => e = .returned (.tuple #[aggR false (.slice none 0 0) (.slice none 0 0), .int .i64 3]) ∧ Below w.heap.size w w') := by
  have HX0 := Lib.hid (decide_eq_true h0)
  clear h0
  obtain ⟨a0, n0, c0, rfl, H0, hm0⟩ := h.1.open
  obtain ⟨a1, n1, c1, rfl, H1, hm1⟩ := h.2.1.open
  go_enter Try.func19, Try.ntmps19
  go_wp2_with fail
  obtain ⟨W0, hW0⟩ : ∃ W0, (w.alloc (.cells #[.bool b, .slice a0 n0 c0, .slice a1 n1 c1] 24)).alloc (.cells #[.bool false, .slice none 0 0, .slice none 0 0] 24) = W0 := ⟨_, rfl⟩
  have HXW0 := Lib.hid (show ∀ W', Below W0.heap.size W0 W' → (W'.cell? ⟨w.heap.size, 0, none⟩ = some (.bool b) ∧ W'.cell? ⟨w.heap.size, 1, none⟩ = some (.slice a0 n0 c0) ∧ W'.cell? ⟨w.heap.size, 2, none⟩ = some (.slice a1 n1 c1) ∧ W'.cell? ⟨w.heap.size + 1, 0, none⟩ = some (.bool false) ∧ W'.cell? ⟨w.heap.size + 1, 1, none⟩ = some (.slice none 0 0) ∧ W'.cell? ⟨w.heap.size + 1, 2, none⟩ = some (.slice none 0 0)) from fun W' hb =>
    ⟨(hb.cell (p := ⟨w.heap.size, 0, none⟩) (by rw [← hW0]; simp <;> omega)).trans (by rw [← hW0]; simp [go_sem]), (hb.cell (p := ⟨w.heap.size, 1, none⟩) (by rw [← hW0]; simp <;> omega)).trans (by rw [← hW0]; simp [go_sem]), (hb.cell (p := ⟨w.heap.size, 2, none⟩) (by rw [← hW0]; simp <;> omega)).trans (by rw [← hW0]; simp [go_sem]), (hb.cell (p := ⟨w.heap.size + 1, 0, none⟩) (by rw [← hW0]; simp <;> omega)).trans (by rw [← hW0]; simp [go_sem]), (hb.cell (p := ⟨w.heap.size + 1, 1, none⟩) (by rw [← hW0]; simp <;> omega)).trans (by rw [← hW0]; simp [go_sem]), (hb.cell (p := ⟨w.heap.size + 1, 2, none⟩) (by rw [← hW0]; simp <;> omega)).trans (by rw [← hW0]; simp [go_sem])⟩)
  have HYW0 := Lib.hid (show ∀ W', Below W0.heap.size W0 W' → (W'.frozen? ⟨w.heap.size, 0, none⟩ = false ∧ W'.frozen? ⟨w.heap.size, 1, none⟩ = false ∧ W'.frozen? ⟨w.heap.size, 2, none⟩ = false ∧ W'.frozen? ⟨w.heap.size + 1, 0, none⟩ = false ∧ W'.frozen? ⟨w.heap.size + 1, 1, none⟩ = false ∧ W'.frozen? ⟨w.heap.size + 1, 2, none⟩ = false) from fun W' hb =>
    ⟨(hb.frozen (p := ⟨w.heap.size, 0, none⟩) (by rw [← hW0]; simp <;> omega)).trans (by rw [← hW0]; simp [go_sem]), (hb.frozen (p := ⟨w.heap.size, 1, none⟩) (by rw [← hW0]; simp <;> omega)).trans (by rw [← hW0]; simp [go_sem]), (hb.frozen (p := ⟨w.heap.size, 2, none⟩) (by rw [← hW0]; simp <;> omega)).trans (by rw [← hW0]; simp [go_sem]), (hb.frozen (p := ⟨w.heap.size + 1, 0, none⟩) (by rw [← hW0]; simp <;> omega)).trans (by rw [← hW0]; simp [go_sem]), (hb.frozen (p := ⟨w.heap.size + 1, 1, none⟩) (by rw [← hW0]; simp <;> omega)).trans (by rw [← hW0]; simp [go_sem]), (hb.frozen (p := ⟨w.heap.size + 1, 2, none⟩) (by rw [← hW0]; simp <;> omega)).trans (by rw [← hW0]; simp [go_sem])⟩)
  have HZW0 := Lib.hid (show ∀ W', Below W0.heap.size W0 W' → (w.heap.size < W'.heap.size ∧ w.heap.size + 1 < W'.heap.size) from fun W' hb =>
    ⟨Nat.lt_of_lt_of_le (by rw [← hW0]; simp <;> omega) hb.size, Nat.lt_of_lt_of_le (by rw [← hW0]; simp <;> omega) hb.size⟩)
  have zb : Below w.heap.size w W0 := by rw [← hW0]; exact below_step (below_new _ _) (below_new _ _)
  rw [hW0]
  clear hW0
  have i0 := h.to zb
  have gb : Below W0.heap.size W0 W0 := Below.refl _ _
  obtain ⟨x0_0, x0_1, x0_2, x1_0, x1_1, x1_2⟩ := HXW0.out _ gb
  obtain ⟨y0_0, y0_1, y0_2, y1_0, y1_1, y1_2⟩ := HYW0.out _ gb
  obtain ⟨z0, z1⟩ := HZW0.out _ gb
  refine (ref8_zero b _ _ ln ld _ (i0.to gb) true HX0.out).mono ?_
  clear x0_0 y0_0 x0_1 y0_1 x0_2 y0_2 x1_0 y1_0 x1_1 y1_1 x1_2 y1_2
  rintro e w1 ⟨rfl, hb1⟩
  replace gb := below_step gb hb1
  obtain ⟨x0_0, x0_1, x0_2, x1_0, x1_1, x1_2⟩ := HXW0.out _ gb
  obtain ⟨y0_0, y0_1, y0_2, y1_0, y1_1, y1_2⟩ := HYW0.out _ gb
  obtain ⟨z0, z1⟩ := HZW0.out _ gb
  go_wp2_with fail
  refine bodyPost_ret (results_Rt Try.results19 _ _ _ _ _ _ rfl (Tri.set (x0 := .bool false) (y0 := .slice none 0 0) (z0 := .slice none 0 0) ⟨x1_0, x1_1, x1_2, y1_0, y1_1, y1_2⟩ _ _ _)) rfl ⟨rfl, below_set3 (below_step zb gb) (by omega) _ _ _⟩

set_option maxRecDepth 100000 in
set_option maxHeartbeats 8000000 in
theorem ref8_pow_pos0 {x : Rat} (b : Bool) (v u : Value) (ln ld : List Nat) (n : Int) (w : World) (h : IsQ w b v u ln ld x) (hn : 0 ≤ n) (hn' : n ≤ 64) (h0 : x = 0) (hs : szq x * n.toNat ≤ 999) :
    Calls Try.prog 19 #[aggR b v u, .int .i64 n] w (GivesQK w (x ^ n.toNat)) := by
  have HX0 := Lib.hid (decide_eq_true h0)
  clear h0
  obtain ⟨N, rfl⟩ := Int.eq_ofNat_of_zero_le hn
  have hN : N ≤ 64 := by omega
  rw [Int.toNat_natCast] at hs
  rw [Int.toNat_natCast]
  obtain ⟨X, hX⟩ : ∃ X, x = X := ⟨_, rfl⟩
  have HX := Lib.hid hX
  have HS := Lib.hid (show ∀ j, j ≤ N → szq (X ^ j) ≤ 1000 from fun j hj => szq_pow (by
    have h1 : szq X ≤ szq x := by rw [← hX]; exact Nat.le_refl _
    have h2 : szq X * j ≤ szq x * N := Nat.mul_le_mul h1 hj
    omega))
  have HP := Lib.hid (show ∀ j : Nat, X ^ j * X = X ^ (j + 1) from fun j => (Rat.pow_succ X j).symm)
  have HO1 := Lib.hid (show ((1 : Int) : Rat) = X ^ 0 by rw [Rat.pow_zero]; rfl)
  have Hx := isQ_sz h
  rw [hX]
  clear hX hs hn hn'
  obtain ⟨a0, n0, c0, rfl, H0, hm0⟩ := h.1.open
  obtain ⟨a1, n1, c1, rfl, H1, hm1⟩ := h.2.1.open
  go_enter Try.func19, Try.ntmps19
  go_wp2_with fail
  obtain ⟨W0, hW0⟩ : ∃ W0, (w.alloc (.cells #[.bool b, .slice a0 n0 c0, .slice a1 n1 c1] 24)).alloc (.cells #[.bool false, .slice none 0 0, .slice none 0 0] 24) = W0 := ⟨_, rfl⟩
  have HXW0 := Lib.hid (show ∀ W', Below W0.heap.size W0 W' → (W'.cell? ⟨w.heap.size, 0, none⟩ = some (.bool b) ∧ W'.cell? ⟨w.heap.size, 1, none⟩ = some (.slice a0 n0 c0) ∧ W'.cell? ⟨w.heap.size, 2, none⟩ = some (.slice a1 n1 c1) ∧ W'.cell? ⟨w.heap.size + 1, 0, none⟩ = some (.bool false) ∧ W'.cell? ⟨w.heap.size + 1, 1, none⟩ = some (.slice none 0 0) ∧ W'.cell? ⟨w.heap.size + 1, 2, none⟩ = some (.slice none 0 0)) from fun W' hb =>
    ⟨(hb.cell (p := ⟨w.heap.size, 0, none⟩) (by rw [← hW0]; simp <;> omega)).trans (by rw [← hW0]; simp [go_sem]), (hb.cell (p := ⟨w.heap.size, 1, none⟩) (by rw [← hW0]; simp <;> omega)).trans (by rw [← hW0]; simp [go_sem]), (hb.cell (p := ⟨w.heap.size, 2, none⟩) (by rw [← hW0]; simp <;> omega)).trans (by rw [← hW0]; simp [go_sem]), (hb.cell (p := ⟨w.heap.size + 1, 0, none⟩) (by rw [← hW0]; simp <;> omega)).trans (by rw [← hW0]; simp [go_sem]), (hb.cell (p := ⟨w.heap.size + 1, 1, none⟩) (by rw [← hW0]; simp <;> omega)).trans (by rw [← hW0]; simp [go_sem]), (hb.cell (p := ⟨w.heap.size + 1, 2, none⟩) (by rw [← hW0]; simp <;> omega)).trans (by rw [← hW0]; simp [go_sem])⟩)
  have HYW0 := Lib.hid (show ∀ W', Below W0.heap.size W0 W' → (W'.frozen? ⟨w.heap.size, 0, none⟩ = false ∧ W'.frozen? ⟨w.heap.size, 1, none⟩ = false ∧ W'.frozen? ⟨w.heap.size, 2, none⟩ = false ∧ W'.frozen? ⟨w.heap.size + 1, 0, none⟩ = false ∧ W'.frozen? ⟨w.heap.size + 1, 1, none⟩ = false ∧ W'.frozen? ⟨w.heap.size + 1, 2, none⟩ = false) from fun W' hb =>
    ⟨(hb.frozen (p := ⟨w.heap.size, 0, none⟩) (by rw [← hW0]; simp <;> omega)).trans (by rw [← hW0]; simp [go_sem]), (hb.frozen (p := ⟨w.heap.size, 1, none⟩) (by rw [← hW0]; simp <;> omega)).trans (by rw [← hW0]; simp [go_sem]), (hb.frozen (p := ⟨w.heap.size, 2, none⟩) (by rw [← hW0]; simp <;> omega)).trans (by rw [← hW0]; simp [go_sem]), (hb.frozen (p := ⟨w.heap.size + 1, 0, none⟩) (by rw [← hW0]; simp <;> omega)).trans (by rw [← hW0]; simp [go_sem]), (hb.frozen (p := ⟨w.heap.size + 1, 1, none⟩) (by rw [← hW0]; simp <;> omega)).trans (by rw [← hW0]; simp [go_sem]), (hb.frozen (p := ⟨w.heap.size + 1, 2, none⟩) (by rw [← hW0]; simp <;> omega)).trans (by rw [← hW0]; simp [go_sem])⟩)
  have HZW0 := Lib.hid (show ∀ W', Below W0.heap.size W0 W' → (w.heap.size < W'.heap.size ∧ w.heap.size + 1 < W'.heap.size) from fun W' hb =>
    ⟨Nat.lt_of_lt_of_le (by rw [← hW0]; simp <;> omega) hb.size, Nat.lt_of_lt_of_le (by rw [← hW0]; simp <;> omega) hb.size⟩)
  have zb : Below w.heap.size w W0 := by rw [← hW0]; exact below_step (below_new _ _) (below_new _ _)
  rw [hW0]
  clear hW0
  have i0 := h.to zb
  have gb : Below W0.heap.size W0 W0 := Below.refl _ _
  obtain ⟨x0_0, x0_1, x0_2, x1_0, x1_1, x1_2⟩ := HXW0.out _ gb
  obtain ⟨y0_0, y0_1, y0_2, y1_0, y1_1, y1_2⟩ := HYW0.out _ gb
  obtain ⟨z0, z1⟩ := HZW0.out _ gb
  refine (ref8_zero b _ _ ln ld _ (i0.to gb) true HX0.out).mono ?_
  clear x0_0 y0_0 x0_1 y0_1 x0_2 y0_2 x1_0 y1_0 x1_1 y1_1 x1_2 y1_2
  rintro e w1 ⟨rfl, hb1⟩
  replace gb := below_step gb hb1
  obtain ⟨x0_0, x0_1, x0_2, x1_0, x1_1, x1_2⟩ := HXW0.out _ gb
  obtain ⟨y0_0, y0_1, y0_2, y1_0, y1_1, y1_2⟩ := HYW0.out _ gb
  obtain ⟨z0, z1⟩ := HZW0.out _ gb
  go_wp2_with fail
  refine (ref8_fix b _ _ ln ld _ (i0.to gb) x rfl Hx).mono ?_
  clear x0_0 y0_0 x0_1 y0_1 x0_2 y0_2 x1_0 y1_0 x1_1 y1_1 x1_2 y1_2
  rintro e w2 ⟨ng2, a2_, n2_, c2_, p2_, m2_, k2_, rfl, g2, hb2⟩
  replace gb := below_step gb hb2
  obtain ⟨x0_0, x0_1, x0_2, x1_0, x1_1, x1_2⟩ := HXW0.out _ gb
  obtain ⟨y0_0, y0_1, y0_2, y1_0, y1_1, y1_2⟩ := HYW0.out _ gb
  obtain ⟨z0, z1⟩ := HZW0.out _ gb
  go_wp2_with fail
  obtain ⟨W1, hW1⟩ : ∃ W1, w2.alloc (.cells #[.bool ng2, .slice a2_ n2_ c2_, .slice p2_ m2_ k2_] 24) = W1 := ⟨_, rfl⟩
  have hb_W1 : Below w2.heap.size w2 W1 := by rw [← hW1]; exact below_new _ _
  have hs_W1 : Hid (W1.heap.size = w2.heap.size + 1) := by show _ = _; rw [← hW1]; simp
  clear x0_0 y0_0 x0_1 y0_1 x0_2 y0_2 x1_0 y1_0 x1_1 y1_1 x1_2 y1_2
  replace g2 := g2.to hb_W1
  replace gb := below_step gb hb_W1
  obtain ⟨x0_0, x0_1, x0_2, x1_0, x1_1, x1_2⟩ := HXW0.out _ gb
  obtain ⟨y0_0, y0_1, y0_2, y1_0, y1_1, y1_2⟩ := HYW0.out _ gb
  obtain ⟨z0, z1⟩ := HZW0.out _ gb
  have x5_0 : W1.cell? ⟨w2.heap.size, 0, none⟩ = some (.bool ng2) := by rw [← hW1]; simp [go_sem]
  have y5_0 : W1.frozen? ⟨w2.heap.size, 0, none⟩ = false := by rw [← hW1]; simp [go_sem]
  have x5_1 : W1.cell? ⟨w2.heap.size, 1, none⟩ = some (.slice a2_ n2_ c2_) := by rw [← hW1]; simp [go_sem]
  have y5_1 : W1.frozen? ⟨w2.heap.size, 1, none⟩ = false := by rw [← hW1]; simp [go_sem]
  have x5_2 : W1.cell? ⟨w2.heap.size, 2, none⟩ = some (.slice p2_ m2_ k2_) := by rw [← hW1]; simp [go_sem]
  have y5_2 : W1.frozen? ⟨w2.heap.size, 2, none⟩ = false := by rw [← hW1]; simp [go_sem]
  have z5 : w2.heap.size < W1.heap.size := by rw [← hW1]; simp
  rw [hW1]
  clear hW1
  replace i0 := i0.to gb
  replace zb := below_step zb gb
  have HXW1 := Lib.hid (show ∀ W', Below W1.heap.size W1 W' → (W'.cell? ⟨w.heap.size, 0, none⟩ = some (.bool b) ∧ W'.cell? ⟨w.heap.size, 1, none⟩ = some (.slice a0 n0 c0) ∧ W'.cell? ⟨w.heap.size, 2, none⟩ = some (.slice a1 n1 c1) ∧ W'.cell? ⟨w.heap.size + 1, 0, none⟩ = some (.bool false) ∧ W'.cell? ⟨w.heap.size + 1, 1, none⟩ = some (.slice none 0 0) ∧ W'.cell? ⟨w.heap.size + 1, 2, none⟩ = some (.slice none 0 0) ∧ W'.cell? ⟨w2.heap.size, 0, none⟩ = some (.bool ng2) ∧ W'.cell? ⟨w2.heap.size, 1, none⟩ = some (.slice a2_ n2_ c2_) ∧ W'.cell? ⟨w2.heap.size, 2, none⟩ = some (.slice p2_ m2_ k2_)) from fun W' hb =>
    ⟨(hb.cell (p := ⟨w.heap.size, 0, none⟩) z0).trans x0_0, (hb.cell (p := ⟨w.heap.size, 1, none⟩) z0).trans x0_1, (hb.cell (p := ⟨w.heap.size, 2, none⟩) z0).trans x0_2, (hb.cell (p := ⟨w.heap.size + 1, 0, none⟩) z1).trans x1_0, (hb.cell (p := ⟨w.heap.size + 1, 1, none⟩) z1).trans x1_1, (hb.cell (p := ⟨w.heap.size + 1, 2, none⟩) z1).trans x1_2, (hb.cell (p := ⟨w2.heap.size, 0, none⟩) z5).trans x5_0, (hb.cell (p := ⟨w2.heap.size, 1, none⟩) z5).trans x5_1, (hb.cell (p := ⟨w2.heap.size, 2, none⟩) z5).trans x5_2⟩)
  have HYW1 := Lib.hid (show ∀ W', Below W1.heap.size W1 W' → (W'.frozen? ⟨w.heap.size, 0, none⟩ = false ∧ W'.frozen? ⟨w.heap.size, 1, none⟩ = false ∧ W'.frozen? ⟨w.heap.size, 2, none⟩ = false ∧ W'.frozen? ⟨w.heap.size + 1, 0, none⟩ = false ∧ W'.frozen? ⟨w.heap.size + 1, 1, none⟩ = false ∧ W'.frozen? ⟨w.heap.size + 1, 2, none⟩ = false ∧ W'.frozen? ⟨w2.heap.size, 0, none⟩ = false ∧ W'.frozen? ⟨w2.heap.size, 1, none⟩ = false ∧ W'.frozen? ⟨w2.heap.size, 2, none⟩ = false) from fun W' hb =>
    ⟨(hb.frozen (p := ⟨w.heap.size, 0, none⟩) z0).trans y0_0, (hb.frozen (p := ⟨w.heap.size, 1, none⟩) z0).trans y0_1, (hb.frozen (p := ⟨w.heap.size, 2, none⟩) z0).trans y0_2, (hb.frozen (p := ⟨w.heap.size + 1, 0, none⟩) z1).trans y1_0, (hb.frozen (p := ⟨w.heap.size + 1, 1, none⟩) z1).trans y1_1, (hb.frozen (p := ⟨w.heap.size + 1, 2, none⟩) z1).trans y1_2, (hb.frozen (p := ⟨w2.heap.size, 0, none⟩) z5).trans y5_0, (hb.frozen (p := ⟨w2.heap.size, 1, none⟩) z5).trans y5_1, (hb.frozen (p := ⟨w2.heap.size, 2, none⟩) z5).trans y5_2⟩)
  have HZW1 := Lib.hid (show ∀ W', Below W1.heap.size W1 W' → (w.heap.size < W'.heap.size ∧ w.heap.size + 1 < W'.heap.size ∧ w2.heap.size < W'.heap.size) from fun W' hb =>
    ⟨Nat.lt_of_lt_of_le z0 hb.size, Nat.lt_of_lt_of_le z1 hb.size, Nat.lt_of_lt_of_le z5 hb.size⟩)
  replace gb := Below.refl W1.heap.size W1
  obtain ⟨gl, gh, G2⟩ : ∃ gl gh, CanQ gl gh W1 ng2 (.slice a2_ n2_ c2_) (.slice p2_ m2_ k2_) X := ⟨_, _, by rw [← HX.out]; exact g2⟩
  go_wp2_with fail
  refine (ref8_of 1 1 _ rfl (by omega) (by omega)).mono ?_
  clear x0_0 y0_0 x0_1 y0_1 x0_2 y0_2 x1_0 y1_0 x1_1 y1_1 x1_2 y1_2 x5_0 y5_0 x5_1 y5_1 x5_2 y5_2
  rintro e w4 ⟨ng4, a4_, n4_, c4_, p4_, m4_, k4_, rfl, g4, hb4⟩
  replace gb := below_step gb hb4
  obtain ⟨x0_0, x0_1, x0_2, x1_0, x1_1, x1_2, x5_0, x5_1, x5_2⟩ := HXW1.out _ gb
  obtain ⟨y0_0, y0_1, y0_2, y1_0, y1_1, y1_2, y5_0, y5_1, y5_2⟩ := HYW1.out _ gb
  obtain ⟨z0, z1, z5⟩ := HZW1.out _ gb
  go_wp2_with fail
  rw [HO1.out] at g4
  obtain ⟨V4, hV4⟩ : ∃ V, w4.alloc (.cells #[.bool ng4, .slice a4_ n4_ c4_, .slice p4_ m4_ k4_] 24) = V := ⟨_, rfl⟩
  have hb_V4 : Below w4.heap.size w4 V4 := by rw [← hV4]; exact below_new _ _
  have t8 : Tri V4 w4.heap.size (.bool ng4) (.slice a4_ n4_ c4_) (.slice p4_ m4_ k4_) := by rw [← hV4]; exact tri_new _ _ _ _ _
  have k8 : W1.heap.size ≤ w4.heap.size := gb.size
  clear x0_0 y0_0 x0_1 y0_1 x0_2 y0_2 x1_0 y1_0 x1_1 y1_1 x1_2 y1_2 x5_0 y5_0 x5_1 y5_1 x5_2 y5_2
  replace g4 := g4.to hb_V4
  replace gb := below_step gb hb_V4
  rw [hV4]
  clear hV4 hb_V4
  go_loopw [9] (fun i ww => ∃ (k : Nat) (ng : Bool) (a : Option Addr) (n c : Nat) (p : Option Addr) (m k' lo hi : Nat), k ≤ N ∧ i = .int .i64 k ∧ Tri ww w4.heap.size (.bool ng) (.slice a n c) (.slice p m k') ∧ CanQ lo hi ww ng (.slice a n c) (.slice p m k') (X ^ k) ∧ W1.heap.size ≤ lo ∧ Below W1.heap.size W1 ww) (fun i _ => N - (intOf i).toNat)
  case atStart => exact ⟨0, _, _, _, _, _, _, _, _, _, by omega, rfl, t8, g4, Nat.le_refl _, gb⟩
  case round =>
    clear t8 g4 gb
    obtain ⟨k, ng6, a6_, n6_, c6_, p6_, m6_, k6_, lo, hi, hk, rfl, t8, g6, hlo, gb⟩ := hrel
    have l8 := t8.lt
    have q8 := t8
    obtain ⟨p0, p1, p2, p3, p4, p5⟩ := q8
    obtain ⟨x0_0, x0_1, x0_2, x1_0, x1_1, x1_2, x5_0, x5_1, x5_2⟩ := HXW1.out _ gb
    obtain ⟨y0_0, y0_1, y0_2, y1_0, y1_1, y1_2, y5_0, y5_1, y5_2⟩ := HYW1.out _ gb
    obtain ⟨z0, z1, z5⟩ := HZW1.out _ gb
    by_cases hkN : k < N
    · have hk1 : (k : Int) < (N : Int) := by omega
      have Hs1 : Hid (szq (X ^ (k + 1)) ≤ 1000) := HS.out (k + 1) hkN
      go_wp2_with fail
      refine (ref8_mul ng6 _ _ _ _ _ _ _ _ _ _ g6.isQ (G2.to gb).isQ (X ^ (k + 1)) (HP.out k) Hs1).mono ?_
      clear x0_0 y0_0 x0_1 y0_1 x0_2 y0_2 x1_0 y1_0 x1_1 y1_1 x1_2 y1_2 x5_0 y5_0 x5_1 y5_1 x5_2 y5_2 p0 p1 p2 p3 p4 p5
      rintro e w7 ⟨ng7, a7_, n7_, c7_, p7_, m7_, k7_, rfl, g7, hb7⟩
      replace t8 := t8.to hb7
      have q8 := t8
      obtain ⟨p0, p1, p2, p3, p4, p5⟩ := q8
      have hsw := gb.size
      replace gb := below_step gb hb7
      obtain ⟨x0_0, x0_1, x0_2, x1_0, x1_1, x1_2, x5_0, x5_1, x5_2⟩ := HXW1.out _ gb
      obtain ⟨y0_0, y0_1, y0_2, y1_0, y1_1, y1_2, y5_0, y5_1, y5_2⟩ := HYW1.out _ gb
      obtain ⟨z0, z1, z5⟩ := HZW1.out _ gb
      go_wp2_with fail
      go_roundw
      case rel => exact ⟨k + 1, _, _, _, _, _, _, _, _, _, by omega, by go_num, t8.set _ _ _, g7.set (.inl l8) _ _ _, hsw, below_set3 gb k8 _ _ _⟩
      case measure => simp [intOf]; omega
    · obtain rfl : k = N := by omega
      go_wp2_with fail
      refine bodyPost_ret (results_Rt Try.results19 _ _ _ _ _ _ rfl (Tri.set (x0 := .bool false) (y0 := .slice none 0 0) (z0 := .slice none 0 0) ⟨x1_0, x1_1, x1_2, y1_0, y1_1, y1_2⟩ _ _ _)) rfl (finRK (below_step zb gb) (by omega) ?_ g6)
      omega

set_option maxRecDepth 100000 in
set_option maxHeartbeats 8000000 in
theorem ref8_pow_pos {x : Rat} (b : Bool) (v u : Value) (ln ld : List Nat) (n : Int) (w : World) (h : IsQ w b v u ln ld x) (hn : 0 ≤ n) (hn' : n ≤ 64) (h0 : x ≠ 0) (hs : szq x * n.toNat ≤ 999) :
    Calls Try.prog 19 #[aggR b v u, .int .i64 n] w (GivesQK w (x ^ n.toNat)) := by
  have HX0 := Lib.hid (decide_eq_false h0)
  clear h0
  obtain ⟨N, rfl⟩ := Int.eq_ofNat_of_zero_le hn
  have hN : N ≤ 64 := by omega
  rw [Int.toNat_natCast] at hs
  rw [Int.toNat_natCast]
  obtain ⟨X, hX⟩ : ∃ X, x = X := ⟨_, rfl⟩
  have HX := Lib.hid hX
  have HS := Lib.hid (show ∀ j, j ≤ N → szq (X ^ j) ≤ 1000 from fun j hj => szq_pow (by
    have h1 : szq X ≤ szq x := by rw [← hX]; exact Nat.le_refl _
    have h2 : szq X * j ≤ szq x * N := Nat.mul_le_mul h1 hj
    omega))
  have HP := Lib.hid (show ∀ j : Nat, X ^ j * X = X ^ (j + 1) from fun j => (Rat.pow_succ X j).symm)
  have HO1 := Lib.hid (show ((1 : Int) : Rat) = X ^ 0 by rw [Rat.pow_zero]; rfl)
  have Hx := isQ_sz h
  rw [hX]
  clear hX hs hn hn'
  obtain ⟨a0, n0, c0, rfl, H0, hm0⟩ := h.1.open
  obtain ⟨a1, n1, c1, rfl, H1, hm1⟩ := h.2.1.open
  go_enter Try.func19, Try.ntmps19
  go_wp2_with fail
  obtain ⟨W0, hW0⟩ : ∃ W0, (w.alloc (.cells #[.bool b, .slice a0 n0 c0, .slice a1 n1 c1] 24)).alloc (.cells #[.bool false, .slice none 0 0, .slice none 0 0] 24) = W0 := ⟨_, rfl⟩
  have HXW0 := Lib.hid (show ∀ W', Below W0.heap.size W0 W' → (W'.cell? ⟨w.heap.size, 0, none⟩ = some (.bool b) ∧ W'.cell? ⟨w.heap.size, 1, none⟩ = some (.slice a0 n0 c0) ∧ W'.cell? ⟨w.heap.size, 2, none⟩ = some (.slice a1 n1 c1) ∧ W'.cell? ⟨w.heap.size + 1, 0, none⟩ = some (.bool false) ∧ W'.cell? ⟨w.heap.size + 1, 1, none⟩ = some (.slice none 0 0) ∧ W'.cell? ⟨w.heap.size + 1, 2, none⟩ = some (.slice none 0 0)) from fun W' hb =>
    ⟨(hb.cell (p := ⟨w.heap.size, 0, none⟩) (by rw [← hW0]; simp <;> omega)).trans (by rw [← hW0]; simp [go_sem]), (hb.cell (p := ⟨w.heap.size, 1, none⟩) (by rw [← hW0]; simp <;> omega)).trans (by rw [← hW0]; simp [go_sem]), (hb.cell (p := ⟨w.heap.size, 2, none⟩) (by rw [← hW0]; simp <;> omega)).trans (by rw [← hW0]; simp [go_sem]), (hb.cell (p := ⟨w.heap.size + 1, 0, none⟩) (by rw [← hW0]; simp <;> omega)).trans (by rw [← hW0]; simp [go_sem]), (hb.cell (p := ⟨w.heap.size + 1, 1, none⟩) (by rw [← hW0]; simp <;> omega)).trans (by rw [← hW0]; simp [go_sem]), (hb.cell (p := ⟨w.heap.size + 1, 2, none⟩) (by rw [← hW0]; simp <;> omega)).trans (by rw [← hW0]; simp [go_sem])⟩)
  have HYW0 := Lib.hid (show ∀ W', Below W0.heap.size W0 W' → (W'.frozen? ⟨w.heap.size, 0, none⟩ = false ∧ W'.frozen? ⟨w.heap.size, 1, none⟩ = false ∧ W'.frozen? ⟨w.heap.size, 2, none⟩ = false ∧ W'.frozen? ⟨w.heap.size + 1, 0, none⟩ = false ∧ W'.frozen? ⟨w.heap.size + 1, 1, none⟩ = false ∧ W'.frozen? ⟨w.heap.size + 1, 2, none⟩ = false) from fun W' hb =>
    ⟨(hb.frozen (p := ⟨w.heap.size, 0, none⟩) (by rw [← hW0]; simp <;> omega)).trans (by rw [← hW0]; simp [go_sem]), (hb.frozen (p := ⟨w.heap.size, 1, none⟩) (by rw [← hW0]; simp <;> omega)).trans (by rw [← hW0]; simp [go_sem]), (hb.frozen (p := ⟨w.heap.size, 2, none⟩) (by rw [← hW0]; simp <;> omega)).trans (by rw [← hW0]; simp [go_sem]), (hb.frozen (p := ⟨w.heap.size + 1, 0, none⟩) (by rw [← hW0]; simp <;> omega)).trans (by rw [← hW0]; simp [go_sem]), (hb.frozen (p := ⟨w.heap.size + 1, 1, none⟩) (by rw [← hW0]; simp <;> omega)).trans (by rw [← hW0]; simp [go_sem]), (hb.frozen (p := ⟨w.heap.size + 1, 2, none⟩) (by rw [← hW0]; simp <;> omega)).trans (by rw [← hW0]; simp [go_sem])⟩)
  have HZW0 := Lib.hid (show ∀ W', Below W0.heap.size W0 W' → (w.heap.size < W'.heap.size ∧ w.heap.size + 1 < W'.heap.size) from fun W' hb =>
    ⟨Nat.lt_of_lt_of_le (by rw [← hW0]; simp <;> omega) hb.size, Nat.lt_of_lt_of_le (by rw [← hW0]; simp <;> omega) hb.size⟩)
  have zb : Below w.heap.size w W0 := by rw [← hW0]; exact below_step (below_new _ _) (below_new _ _)
  rw [hW0]
  clear hW0
  have i0 := h.to zb
  have gb : Below W0.heap.size W0 W0 := Below.refl _ _
  obtain ⟨x0_0, x0_1, x0_2, x1_0, x1_1, x1_2⟩ := HXW0.out _ gb
  obtain ⟨y0_0, y0_1, y0_2, y1_0, y1_1, y1_2⟩ := HYW0.out _ gb
  obtain ⟨z0, z1⟩ := HZW0.out _ gb
  refine (ref8_zero b _ _ ln ld _ (i0.to gb) false HX0.out).mono ?_
  clear x0_0 y0_0 x0_1 y0_1 x0_2 y0_2 x1_0 y1_0 x1_1 y1_1 x1_2 y1_2
  rintro e w1 ⟨rfl, hb1⟩
  replace gb := below_step gb hb1
  obtain ⟨x0_0, x0_1, x0_2, x1_0, x1_1, x1_2⟩ := HXW0.out _ gb
  obtain ⟨y0_0, y0_1, y0_2, y1_0, y1_1, y1_2⟩ := HYW0.out _ gb
  obtain ⟨z0, z1⟩ := HZW0.out _ gb
  go_wp2_with fail
  refine (ref8_fix b _ _ ln ld _ (i0.to gb) x rfl Hx).mono ?_
  clear x0_0 y0_0 x0_1 y0_1 x0_2 y0_2 x1_0 y1_0 x1_1 y1_1 x1_2 y1_2
  rintro e w2 ⟨ng2, a2_, n2_, c2_, p2_, m2_, k2_, rfl, g2, hb2⟩
  replace gb := below_step gb hb2
  obtain ⟨x0_0, x0_1, x0_2, x1_0, x1_1, x1_2⟩ := HXW0.out _ gb
  obtain ⟨y0_0, y0_1, y0_2, y1_0, y1_1, y1_2⟩ := HYW0.out _ gb
  obtain ⟨z0, z1⟩ := HZW0.out _ gb
  go_wp2_with fail
  obtain ⟨W1, hW1⟩ : ∃ W1, w2.alloc (.cells #[.bool ng2, .slice a2_ n2_ c2_, .slice p2_ m2_ k2_] 24) = W1 := ⟨_, rfl⟩
  have hb_W1 : Below w2.heap.size w2 W1 := by rw [← hW1]; exact below_new _ _
  have hs_W1 : Hid (W1.heap.size = w2.heap.size + 1) := by show _ = _; rw [← hW1]; simp
  clear x0_0 y0_0 x0_1 y0_1 x0_2 y0_2 x1_0 y1_0 x1_1 y1_1 x1_2 y1_2
  replace g2 := g2.to hb_W1
  replace gb := below_step gb hb_W1
  obtain ⟨x0_0, x0_1, x0_2, x1_0, x1_1, x1_2⟩ := HXW0.out _ gb
  obtain ⟨y0_0, y0_1, y0_2, y1_0, y1_1, y1_2⟩ := HYW0.out _ gb
  obtain ⟨z0, z1⟩ := HZW0.out _ gb
  have x5_0 : W1.cell? ⟨w2.heap.size, 0, none⟩ = some (.bool ng2) := by rw [← hW1]; simp [go_sem]
  have y5_0 : W1.frozen? ⟨w2.heap.size, 0, none⟩ = false := by rw [← hW1]; simp [go_sem]
  have x5_1 : W1.cell? ⟨w2.heap.size, 1, none⟩ = some (.slice a2_ n2_ c2_) := by rw [← hW1]; simp [go_sem]
  have y5_1 : W1.frozen? ⟨w2.heap.size, 1, none⟩ = false := by rw [← hW1]; simp [go_sem]
  have x5_2 : W1.cell? ⟨w2.heap.size, 2, none⟩ = some (.slice p2_ m2_ k2_) := by rw [← hW1]; simp [go_sem]
  have y5_2 : W1.frozen? ⟨w2.heap.size, 2, none⟩ = false := by rw [← hW1]; simp [go_sem]
  have z5 : w2.heap.size < W1.heap.size := by rw [← hW1]; simp
  rw [hW1]
  clear hW1
  replace i0 := i0.to gb
  replace zb := below_step zb gb
  have HXW1 := Lib.hid (show ∀ W', Below W1.heap.size W1 W' → (W'.cell? ⟨w.heap.size, 0, none⟩ = some (.bool b) ∧ W'.cell? ⟨w.heap.size, 1, none⟩ = some (.slice a0 n0 c0) ∧ W'.cell? ⟨w.heap.size, 2, none⟩ = some (.slice a1 n1 c1) ∧ W'.cell? ⟨w.heap.size + 1, 0, none⟩ = some (.bool false) ∧ W'.cell? ⟨w.heap.size + 1, 1, none⟩ = some (.slice none 0 0) ∧ W'.cell? ⟨w.heap.size + 1, 2, none⟩ = some (.slice none 0 0) ∧ W'.cell? ⟨w2.heap.size, 0, none⟩ = some (.bool ng2) ∧ W'.cell? ⟨w2.heap.size, 1, none⟩ = some (.slice a2_ n2_ c2_) ∧ W'.cell? ⟨w2.heap.size, 2, none⟩ = some (.slice p2_ m2_ k2_)) from fun W' hb =>
    ⟨(hb.cell (p := ⟨w.heap.size, 0, none⟩) z0).trans x0_0, (hb.cell (p := ⟨w.heap.size, 1, none⟩) z0).trans x0_1, (hb.cell (p := ⟨w.heap.size, 2, none⟩) z0).trans x0_2, (hb.cell (p := ⟨w.heap.size + 1, 0, none⟩) z1).trans x1_0, (hb.cell (p := ⟨w.heap.size + 1, 1, none⟩) z1).trans x1_1, (hb.cell (p := ⟨w.heap.size + 1, 2, none⟩) z1).trans x1_2, (hb.cell (p := ⟨w2.heap.size, 0, none⟩) z5).trans x5_0, (hb.cell (p := ⟨w2.heap.size, 1, none⟩) z5).trans x5_1, (hb.cell (p := ⟨w2.heap.size, 2, none⟩) z5).trans x5_2⟩)
  have HYW1 := Lib.hid (show ∀ W', Below W1.heap.size W1 W' → (W'.frozen? ⟨w.heap.size, 0, none⟩ = false ∧ W'.frozen? ⟨w.heap.size, 1, none⟩ = false ∧ W'.frozen? ⟨w.heap.size, 2, none⟩ = false ∧ W'.frozen? ⟨w.heap.size + 1, 0, none⟩ = false ∧ W'.frozen? ⟨w.heap.size + 1, 1, none⟩ = false ∧ W'.frozen? ⟨w.heap.size + 1, 2, none⟩ = false ∧ W'.frozen? ⟨w2.heap.size, 0, none⟩ = false ∧ W'.frozen? ⟨w2.heap.size, 1, none⟩ = false ∧ W'.frozen? ⟨w2.heap.size, 2, none⟩ = false) from fun W' hb =>
    ⟨(hb.frozen (p := ⟨w.heap.size, 0, none⟩) z0).trans y0_0, (hb.frozen (p := ⟨w.heap.size, 1, none⟩) z0).trans y0_1, (hb.frozen (p := ⟨w.heap.size, 2, none⟩) z0).trans y0_2, (hb.frozen (p := ⟨w.heap.size + 1, 0, none⟩) z1).trans y1_0, (hb.frozen (p := ⟨w.heap.size + 1, 1, none⟩) z1).trans y1_1, (hb.frozen (p := ⟨w.heap.size + 1, 2, none⟩) z1).trans y1_2, (hb.frozen (p := ⟨w2.heap.size, 0, none⟩) z5).trans y5_0, (hb.frozen (p := ⟨w2.heap.size, 1, none⟩) z5).trans y5_1, (hb.frozen (p := ⟨w2.heap.size, 2, none⟩) z5).trans y5_2⟩)
  have HZW1 := Lib.hid (show ∀ W', Below W1.heap.size W1 W' → (w.heap.size < W'.heap.size ∧ w.heap.size + 1 < W'.heap.size ∧ w2.heap.size < W'.heap.size) from fun W' hb =>
    ⟨Nat.lt_of_lt_of_le z0 hb.size, Nat.lt_of_lt_of_le z1 hb.size, Nat.lt_of_lt_of_le z5 hb.size⟩)
  replace gb := Below.refl W1.heap.size W1
  obtain ⟨gl, gh, G2⟩ : ∃ gl gh, CanQ gl gh W1 ng2 (.slice a2_ n2_ c2_) (.slice p2_ m2_ k2_) X := ⟨_, _, by rw [← HX.out]; exact g2⟩
  go_wp2_with fail
  refine (ref8_of 1 1 _ rfl (by omega) (by omega)).mono ?_
  clear x0_0 y0_0 x0_1 y0_1 x0_2 y0_2 x1_0 y1_0 x1_1 y1_1 x1_2 y1_2 x5_0 y5_0 x5_1 y5_1 x5_2 y5_2
  rintro e w4 ⟨ng4, a4_, n4_, c4_, p4_, m4_, k4_, rfl, g4, hb4⟩
  replace gb := below_step gb hb4
  obtain ⟨x0_0, x0_1, x0_2, x1_0, x1_1, x1_2, x5_0, x5_1, x5_2⟩ := HXW1.out _ gb
  obtain ⟨y0_0, y0_1, y0_2, y1_0, y1_1, y1_2, y5_0, y5_1, y5_2⟩ := HYW1.out _ gb
  obtain ⟨z0, z1, z5⟩ := HZW1.out _ gb
  go_wp2_with fail
  rw [HO1.out] at g4
  obtain ⟨V4, hV4⟩ : ∃ V, w4.alloc (.cells #[.bool ng4, .slice a4_ n4_ c4_, .slice p4_ m4_ k4_] 24) = V := ⟨_, rfl⟩
  have hb_V4 : Below w4.heap.size w4 V4 := by rw [← hV4]; exact below_new _ _
  have t8 : Tri V4 w4.heap.size (.bool ng4) (.slice a4_ n4_ c4_) (.slice p4_ m4_ k4_) := by rw [← hV4]; exact tri_new _ _ _ _ _
  have k8 : W1.heap.size ≤ w4.heap.size := gb.size
  clear x0_0 y0_0 x0_1 y0_1 x0_2 y0_2 x1_0 y1_0 x1_1 y1_1 x1_2 y1_2 x5_0 y5_0 x5_1 y5_1 x5_2 y5_2
  replace g4 := g4.to hb_V4
  replace gb := below_step gb hb_V4
  rw [hV4]
  clear hV4 hb_V4
  go_loopw [9] (fun i ww => ∃ (k : Nat) (ng : Bool) (a : Option Addr) (n c : Nat) (p : Option Addr) (m k' lo hi : Nat), k ≤ N ∧ i = .int .i64 k ∧ Tri ww w4.heap.size (.bool ng) (.slice a n c) (.slice p m k') ∧ CanQ lo hi ww ng (.slice a n c) (.slice p m k') (X ^ k) ∧ W1.heap.size ≤ lo ∧ Below W1.heap.size W1 ww) (fun i _ => N - (intOf i).toNat)
  case atStart => exact ⟨0, _, _, _, _, _, _, _, _, _, by omega, rfl, t8, g4, Nat.le_refl _, gb⟩
  case round =>
    clear t8 g4 gb
    obtain ⟨k, ng6, a6_, n6_, c6_, p6_, m6_, k6_, lo, hi, hk, rfl, t8, g6, hlo, gb⟩ := hrel
    have l8 := t8.lt
    have q8 := t8
    obtain ⟨p0, p1, p2, p3, p4, p5⟩ := q8
    obtain ⟨x0_0, x0_1, x0_2, x1_0, x1_1, x1_2, x5_0, x5_1, x5_2⟩ := HXW1.out _ gb
    obtain ⟨y0_0, y0_1, y0_2, y1_0, y1_1, y1_2, y5_0, y5_1, y5_2⟩ := HYW1.out _ gb
    obtain ⟨z0, z1, z5⟩ := HZW1.out _ gb
    by_cases hkN : k < N
    · have hk1 : (k : Int) < (N : Int) := by omega
      have Hs1 : Hid (szq (X ^ (k + 1)) ≤ 1000) := HS.out (k + 1) hkN
      go_wp2_with fail
      refine (ref8_mul ng6 _ _ _ _ _ _ _ _ _ _ g6.isQ (G2.to gb).isQ (X ^ (k + 1)) (HP.out k) Hs1).mono ?_
      clear x0_0 y0_0 x0_1 y0_1 x0_2 y0_2 x1_0 y1_0 x1_1 y1_1 x1_2 y1_2 x5_0 y5_0 x5_1 y5_1 x5_2 y5_2 p0 p1 p2 p3 p4 p5
      rintro e w7 ⟨ng7, a7_, n7_, c7_, p7_, m7_, k7_, rfl, g7, hb7⟩
      replace t8 := t8.to hb7
      have q8 := t8
      obtain ⟨p0, p1, p2, p3, p4, p5⟩ := q8
      have hsw := gb.size
      replace gb := below_step gb hb7
      obtain ⟨x0_0, x0_1, x0_2, x1_0, x1_1, x1_2, x5_0, x5_1, x5_2⟩ := HXW1.out _ gb
      obtain ⟨y0_0, y0_1, y0_2, y1_0, y1_1, y1_2, y5_0, y5_1, y5_2⟩ := HYW1.out _ gb
      obtain ⟨z0, z1, z5⟩ := HZW1.out _ gb
      go_wp2_with fail
      go_roundw
      case rel => exact ⟨k + 1, _, _, _, _, _, _, _, _, _, by omega, by go_num, t8.set _ _ _, g7.set (.inl l8) _ _ _, hsw, below_set3 gb k8 _ _ _⟩
      case measure => simp [intOf]; omega
    · obtain rfl : k = N := by omega
      go_wp2_with fail
      refine bodyPost_ret (results_Rt Try.results19 _ _ _ _ _ _ rfl (Tri.set (x0 := .bool false) (y0 := .slice none 0 0) (z0 := .slice none 0 0) ⟨x1_0, x1_1, x1_2, y1_0, y1_1, y1_2⟩ _ _ _)) rfl (finRK (below_step zb gb) (by omega) ?_ g6)
      omega

set_option maxRecDepth 100000 in
set_option maxHeartbeats 8000000 in
theorem ref8_pow_neg {x : Rat} (b : Bool) (v u : Value) (ln ld : List Nat) (n : Int) (w : World) (h : IsQ w b v u ln ld x) (hn : -64 ≤ n) (hn' : n < 0) (h0 : x ≠ 0) (hs : szq x * (-n).toNat ≤ 999) :
    Calls Try.prog 19 #[aggR b v u, .int .i64 n] w (GivesQK w ((x ^ (-n).toNat)⁻¹)) := by
  have HX0 := Lib.hid (decide_eq_false h0)
  have HX1 := Lib.hid h0
  clear h0
  obtain ⟨N, rfl⟩ : ∃ N : Nat, n = -(N : Int) := ⟨(-n).toNat, by omega⟩
  have hN : N ≤ 64 := by omega
  have hN0 : 0 < N := by omega
  rw [show (-(-(N : Int))).toNat = N by omega] at hs
  rw [show (-(-(N : Int))).toNat = N by omega, ← inv_pow]
  have HW : IntKind.i64.wrap (-(-(N : Int))) = (N : Int) := by rw [Int.neg_neg]; exact IntWalk.i64_in _ (by omega)
  obtain ⟨X, hX⟩ : ∃ X, x⁻¹ = X := ⟨_, rfl⟩
  have HX := Lib.hid hX
  have HS := Lib.hid (show ∀ j, j ≤ N → szq (X ^ j) ≤ 1000 from fun j hj => szq_pow (by
    have h1 : szq X ≤ szq x := by rw [← hX]; exact szq_inv x
    have h2 : szq X * j ≤ szq x * N := Nat.mul_le_mul h1 hj
    omega))
  have HP := Lib.hid (show ∀ j : Nat, X ^ j * X = X ^ (j + 1) from fun j => (Rat.pow_succ X j).symm)
  have HO1 := Lib.hid (show ((1 : Int) : Rat) = X ^ 0 by rw [Rat.pow_zero]; rfl)
  have Hx := isQ_sz h
  rw [hX]
  clear hX hs hn hn'
  obtain ⟨a0, n0, c0, rfl, H0, hm0⟩ := h.1.open
  obtain ⟨a1, n1, c1, rfl, H1, hm1⟩ := h.2.1.open
  go_enter Try.func19, Try.ntmps19
  go_wp2_with fail
  obtain ⟨W0, hW0⟩ : ∃ W0, (w.alloc (.cells #[.bool b, .slice a0 n0 c0, .slice a1 n1 c1] 24)).alloc (.cells #[.bool false, .slice none 0 0, .slice none 0 0] 24) = W0 := ⟨_, rfl⟩
  have HXW0 := Lib.hid (show ∀ W', Below W0.heap.size W0 W' → (W'.cell? ⟨w.heap.size, 0, none⟩ = some (.bool b) ∧ W'.cell? ⟨w.heap.size, 1, none⟩ = some (.slice a0 n0 c0) ∧ W'.cell? ⟨w.heap.size, 2, none⟩ = some (.slice a1 n1 c1) ∧ W'.cell? ⟨w.heap.size + 1, 0, none⟩ = some (.bool false) ∧ W'.cell? ⟨w.heap.size + 1, 1, none⟩ = some (.slice none 0 0) ∧ W'.cell? ⟨w.heap.size + 1, 2, none⟩ = some (.slice none 0 0)) from fun W' hb =>
    ⟨(hb.cell (p := ⟨w.heap.size, 0, none⟩) (by rw [← hW0]; simp <;> omega)).trans (by rw [← hW0]; simp [go_sem]), (hb.cell (p := ⟨w.heap.size, 1, none⟩) (by rw [← hW0]; simp <;> omega)).trans (by rw [← hW0]; simp [go_sem]), (hb.cell (p := ⟨w.heap.size, 2, none⟩) (by rw [← hW0]; simp <;> omega)).trans (by rw [← hW0]; simp [go_sem]), (hb.cell (p := ⟨w.heap.size + 1, 0, none⟩) (by rw [← hW0]; simp <;> omega)).trans (by rw [← hW0]; simp [go_sem]), (hb.cell (p := ⟨w.heap.size + 1, 1, none⟩) (by rw [← hW0]; simp <;> omega)).trans (by rw [← hW0]; simp [go_sem]), (hb.cell (p := ⟨w.heap.size + 1, 2, none⟩) (by rw [← hW0]; simp <;> omega)).trans (by rw [← hW0]; simp [go_sem])⟩)
  have HYW0 := Lib.hid (show ∀ W', Below W0.heap.size W0 W' → (W'.frozen? ⟨w.heap.size, 0, none⟩ = false ∧ W'.frozen? ⟨w.heap.size, 1, none⟩ = false ∧ W'.frozen? ⟨w.heap.size, 2, none⟩ = false ∧ W'.frozen? ⟨w.heap.size + 1, 0, none⟩ = false ∧ W'.frozen? ⟨w.heap.size + 1, 1, none⟩ = false ∧ W'.frozen? ⟨w.heap.size + 1, 2, none⟩ = false) from fun W' hb =>
    ⟨(hb.frozen (p := ⟨w.heap.size, 0, none⟩) (by rw [← hW0]; simp <;> omega)).trans (by rw [← hW0]; simp [go_sem]), (hb.frozen (p := ⟨w.heap.size, 1, none⟩) (by rw [← hW0]; simp <;> omega)).trans (by rw [← hW0]; simp [go_sem]), (hb.frozen (p := ⟨w.heap.size, 2, none⟩) (by rw [← hW0]; simp <;> omega)).trans (by rw [← hW0]; simp [go_sem]), (hb.frozen (p := ⟨w.heap.size + 1, 0, none⟩) (by rw [← hW0]; simp <;> omega)).trans (by rw [← hW0]; simp [go_sem]), (hb.frozen (p := ⟨w.heap.size + 1, 1, none⟩) (by rw [← hW0]; simp <;> omega)).trans (by rw [← hW0]; simp [go_sem]), (hb.frozen (p := ⟨w.heap.size + 1, 2, none⟩) (by rw [← hW0]; simp <;> omega)).trans (by rw [← hW0]; simp [go_sem])⟩)
  have HZW0 := Lib.hid (show ∀ W', Below W0.heap.size W0 W' → (w.heap.size < W'.heap.size ∧ w.heap.size + 1 < W'.heap.size) from fun W' hb =>
    ⟨Nat.lt_of_lt_of_le (by rw [← hW0]; simp <;> omega) hb.size, Nat.lt_of_lt_of_le (by rw [← hW0]; simp <;> omega) hb.size⟩)
  have zb : Below w.heap.size w W0 := by rw [← hW0]; exact below_step (below_new _ _) (below_new _ _)
  rw [hW0]
  clear hW0
  have i0 := h.to zb
  have gb : Below W0.heap.size W0 W0 := Below.refl _ _
  obtain ⟨x0_0, x0_1, x0_2, x1_0, x1_1, x1_2⟩ := HXW0.out _ gb
  obtain ⟨y0_0, y0_1, y0_2, y1_0, y1_1, y1_2⟩ := HYW0.out _ gb
  obtain ⟨z0, z1⟩ := HZW0.out _ gb
  refine (ref8_zero b _ _ ln ld _ (i0.to gb) false HX0.out).mono ?_
  clear x0_0 y0_0 x0_1 y0_1 x0_2 y0_2 x1_0 y1_0 x1_1 y1_1 x1_2 y1_2
  rintro e w1 ⟨rfl, hb1⟩
  replace gb := below_step gb hb1
  obtain ⟨x0_0, x0_1, x0_2, x1_0, x1_1, x1_2⟩ := HXW0.out _ gb
  obtain ⟨y0_0, y0_1, y0_2, y1_0, y1_1, y1_2⟩ := HYW0.out _ gb
  obtain ⟨z0, z1⟩ := HZW0.out _ gb
  go_wp2_with fail
  refine (ref8_fix b _ _ ln ld _ (i0.to gb) x rfl Hx).mono ?_
  clear x0_0 y0_0 x0_1 y0_1 x0_2 y0_2 x1_0 y1_0 x1_1 y1_1 x1_2 y1_2
  rintro e w2 ⟨ng2, a2_, n2_, c2_, p2_, m2_, k2_, rfl, g2, hb2⟩
  replace gb := below_step gb hb2
  obtain ⟨x0_0, x0_1, x0_2, x1_0, x1_1, x1_2⟩ := HXW0.out _ gb
  obtain ⟨y0_0, y0_1, y0_2, y1_0, y1_1, y1_2⟩ := HYW0.out _ gb
  obtain ⟨z0, z1⟩ := HZW0.out _ gb
  go_wp2_with fail
  obtain ⟨V2, hV2⟩ : ∃ V, w2.alloc (.cells #[.bool ng2, .slice a2_ n2_ c2_, .slice p2_ m2_ k2_] 24) = V := ⟨_, rfl⟩
  have hb_V2 : Below w2.heap.size w2 V2 := by rw [← hV2]; exact below_new _ _
  have t5 : Tri V2 w2.heap.size (.bool ng2) (.slice a2_ n2_ c2_) (.slice p2_ m2_ k2_) := by rw [← hV2]; exact tri_new _ _ _ _ _
  have k5 : W0.heap.size ≤ w2.heap.size := gb.size
  clear x0_0 y0_0 x0_1 y0_1 x0_2 y0_2 x1_0 y1_0 x1_1 y1_1 x1_2 y1_2
  replace g2 := g2.to hb_V2
  replace gb := below_step gb hb_V2
  obtain ⟨x0_0, x0_1, x0_2, x1_0, x1_1, x1_2⟩ := HXW0.out _ gb
  obtain ⟨y0_0, y0_1, y0_2, y1_0, y1_1, y1_2⟩ := HYW0.out _ gb
  obtain ⟨z0, z1⟩ := HZW0.out _ gb
  rw [hV2]
  clear hV2
  go_wp2_with fail
  refine (ref8_turned b _ _ ln ld _ (i0.to gb) HX1.out).mono ?_
  clear x0_0 y0_0 x0_1 y0_1 x0_2 y0_2 x1_0 y1_0 x1_1 y1_1 x1_2 y1_2
  rintro e w3 ⟨ng3, a3_, n3_, c3_, p3_, m3_, k3_, rfl, g3, hb3⟩
  replace g2 := g2.to hb3
  replace gb := below_step gb hb3
  obtain ⟨x0_0, x0_1, x0_2, x1_0, x1_1, x1_2⟩ := HXW0.out _ gb
  obtain ⟨y0_0, y0_1, y0_2, y1_0, y1_1, y1_2⟩ := HYW0.out _ gb
  obtain ⟨z0, z1⟩ := HZW0.out _ gb
  have l5 := t5.lt
  replace t5 := t5.to hb3
  have q5 := t5
  obtain ⟨p0, p1, p2, p3, p4, p5⟩ := q5
  go_wp2_with fail
  obtain ⟨W1, hW1⟩ : ∃ V, ((w3.setCell ⟨w2.heap.size, 0, none⟩ (.bool ng3)).setCell ⟨w2.heap.size, 1, none⟩ (.slice a3_ n3_ c3_)).setCell ⟨w2.heap.size, 2, none⟩ (.slice p3_ m3_ k3_) = V := ⟨_, rfl⟩
  obtain ⟨gl, gh, G3⟩ : ∃ gl gh, CanQ gl gh W1 ng3 (.slice a3_ n3_ c3_) (.slice p3_ m3_ k3_) X := ⟨_, _, by rw [← hW1, ← HX.out]; exact g3.set (.inl l5) _ _ _⟩
  have T5 : Tri W1 w2.heap.size (.bool ng3) (.slice a3_ n3_ c3_) (.slice p3_ m3_ k3_) := by rw [← hW1]; exact t5.set _ _ _
  clear x0_0 y0_0 x0_1 y0_1 x0_2 y0_2 x1_0 y1_0 x1_1 y1_1 x1_2 y1_2
  replace gb : Below W0.heap.size W0 W1 := by rw [← hW1]; exact below_set3 gb k5 _ _ _
  obtain ⟨x0_0, x0_1, x0_2, x1_0, x1_1, x1_2⟩ := HXW0.out _ gb
  obtain ⟨y0_0, y0_1, y0_2, y1_0, y1_1, y1_2⟩ := HYW0.out _ gb
  obtain ⟨z0, z1⟩ := HZW0.out _ gb
  rw [hW1]
  clear hW1 t5 p0 p1 p2 p3 p4 p5 g2 g3
  have z5 := T5.lt
  obtain ⟨x5_0, x5_1, x5_2, y5_0, y5_1, y5_2⟩ := T5
  replace i0 := i0.to gb
  replace zb := below_step zb gb
  have HXW1 := Lib.hid (show ∀ W', Below W1.heap.size W1 W' → (W'.cell? ⟨w.heap.size, 0, none⟩ = some (.bool b) ∧ W'.cell? ⟨w.heap.size, 1, none⟩ = some (.slice a0 n0 c0) ∧ W'.cell? ⟨w.heap.size, 2, none⟩ = some (.slice a1 n1 c1) ∧ W'.cell? ⟨w.heap.size + 1, 0, none⟩ = some (.bool false) ∧ W'.cell? ⟨w.heap.size + 1, 1, none⟩ = some (.slice none 0 0) ∧ W'.cell? ⟨w.heap.size + 1, 2, none⟩ = some (.slice none 0 0) ∧ W'.cell? ⟨w2.heap.size, 0, none⟩ = some (.bool ng3) ∧ W'.cell? ⟨w2.heap.size, 1, none⟩ = some (.slice a3_ n3_ c3_) ∧ W'.cell? ⟨w2.heap.size, 2, none⟩ = some (.slice p3_ m3_ k3_)) from fun W' hb =>
    ⟨(hb.cell (p := ⟨w.heap.size, 0, none⟩) z0).trans x0_0, (hb.cell (p := ⟨w.heap.size, 1, none⟩) z0).trans x0_1, (hb.cell (p := ⟨w.heap.size, 2, none⟩) z0).trans x0_2, (hb.cell (p := ⟨w.heap.size + 1, 0, none⟩) z1).trans x1_0, (hb.cell (p := ⟨w.heap.size + 1, 1, none⟩) z1).trans x1_1, (hb.cell (p := ⟨w.heap.size + 1, 2, none⟩) z1).trans x1_2, (hb.cell (p := ⟨w2.heap.size, 0, none⟩) z5).trans x5_0, (hb.cell (p := ⟨w2.heap.size, 1, none⟩) z5).trans x5_1, (hb.cell (p := ⟨w2.heap.size, 2, none⟩) z5).trans x5_2⟩)
  have HYW1 := Lib.hid (show ∀ W', Below W1.heap.size W1 W' → (W'.frozen? ⟨w.heap.size, 0, none⟩ = false ∧ W'.frozen? ⟨w.heap.size, 1, none⟩ = false ∧ W'.frozen? ⟨w.heap.size, 2, none⟩ = false ∧ W'.frozen? ⟨w.heap.size + 1, 0, none⟩ = false ∧ W'.frozen? ⟨w.heap.size + 1, 1, none⟩ = false ∧ W'.frozen? ⟨w.heap.size + 1, 2, none⟩ = false ∧ W'.frozen? ⟨w2.heap.size, 0, none⟩ = false ∧ W'.frozen? ⟨w2.heap.size, 1, none⟩ = false ∧ W'.frozen? ⟨w2.heap.size, 2, none⟩ = false) from fun W' hb =>
    ⟨(hb.frozen (p := ⟨w.heap.size, 0, none⟩) z0).trans y0_0, (hb.frozen (p := ⟨w.heap.size, 1, none⟩) z0).trans y0_1, (hb.frozen (p := ⟨w.heap.size, 2, none⟩) z0).trans y0_2, (hb.frozen (p := ⟨w.heap.size + 1, 0, none⟩) z1).trans y1_0, (hb.frozen (p := ⟨w.heap.size + 1, 1, none⟩) z1).trans y1_1, (hb.frozen (p := ⟨w.heap.size + 1, 2, none⟩) z1).trans y1_2, (hb.frozen (p := ⟨w2.heap.size, 0, none⟩) z5).trans y5_0, (hb.frozen (p := ⟨w2.heap.size, 1, none⟩) z5).trans y5_1, (hb.frozen (p := ⟨w2.heap.size, 2, none⟩) z5).trans y5_2⟩)
  have HZW1 := Lib.hid (show ∀ W', Below W1.heap.size W1 W' → (w.heap.size < W'.heap.size ∧ w.heap.size + 1 < W'.heap.size ∧ w2.heap.size < W'.heap.size) from fun W' hb =>
    ⟨Nat.lt_of_lt_of_le z0 hb.size, Nat.lt_of_lt_of_le z1 hb.size, Nat.lt_of_lt_of_le z5 hb.size⟩)
  replace gb := Below.refl W1.heap.size W1
  refine (ref8_of 1 1 _ rfl (by omega) (by omega)).mono ?_
  clear x0_0 y0_0 x0_1 y0_1 x0_2 y0_2 x1_0 y1_0 x1_1 y1_1 x1_2 y1_2 x5_0 y5_0 x5_1 y5_1 x5_2 y5_2
  rintro e w4 ⟨ng4, a4_, n4_, c4_, p4_, m4_, k4_, rfl, g4, hb4⟩
  replace gb := below_step gb hb4
  obtain ⟨x0_0, x0_1, x0_2, x1_0, x1_1, x1_2, x5_0, x5_1, x5_2⟩ := HXW1.out _ gb
  obtain ⟨y0_0, y0_1, y0_2, y1_0, y1_1, y1_2, y5_0, y5_1, y5_2⟩ := HYW1.out _ gb
  obtain ⟨z0, z1, z5⟩ := HZW1.out _ gb
  go_wp2_with fail
  rw [HO1.out] at g4
  obtain ⟨V4, hV4⟩ : ∃ V, w4.alloc (.cells #[.bool ng4, .slice a4_ n4_ c4_, .slice p4_ m4_ k4_] 24) = V := ⟨_, rfl⟩
  have hb_V4 : Below w4.heap.size w4 V4 := by rw [← hV4]; exact below_new _ _
  have t8 : Tri V4 w4.heap.size (.bool ng4) (.slice a4_ n4_ c4_) (.slice p4_ m4_ k4_) := by rw [← hV4]; exact tri_new _ _ _ _ _
  have k8 : W1.heap.size ≤ w4.heap.size := gb.size
  clear x0_0 y0_0 x0_1 y0_1 x0_2 y0_2 x1_0 y1_0 x1_1 y1_1 x1_2 y1_2 x5_0 y5_0 x5_1 y5_1 x5_2 y5_2
  replace g4 := g4.to hb_V4
  replace gb := below_step gb hb_V4
  rw [hV4]
  clear hV4 hb_V4
  go_loopw [9] (fun i ww => ∃ (k : Nat) (ng : Bool) (a : Option Addr) (n c : Nat) (p : Option Addr) (m k' lo hi : Nat), k ≤ N ∧ i = .int .i64 k ∧ Tri ww w4.heap.size (.bool ng) (.slice a n c) (.slice p m k') ∧ CanQ lo hi ww ng (.slice a n c) (.slice p m k') (X ^ k) ∧ W1.heap.size ≤ lo ∧ Below W1.heap.size W1 ww) (fun i _ => N - (intOf i).toNat)
  case atStart => exact ⟨0, _, _, _, _, _, _, _, _, _, by omega, rfl, t8, g4, Nat.le_refl _, gb⟩
  case round =>
    clear t8 g4 gb
    obtain ⟨k, ng6, a6_, n6_, c6_, p6_, m6_, k6_, lo, hi, hk, rfl, t8, g6, hlo, gb⟩ := hrel
    have l8 := t8.lt
    have q8 := t8
    obtain ⟨p0, p1, p2, p3, p4, p5⟩ := q8
    obtain ⟨x0_0, x0_1, x0_2, x1_0, x1_1, x1_2, x5_0, x5_1, x5_2⟩ := HXW1.out _ gb
    obtain ⟨y0_0, y0_1, y0_2, y1_0, y1_1, y1_2, y5_0, y5_1, y5_2⟩ := HYW1.out _ gb
    obtain ⟨z0, z1, z5⟩ := HZW1.out _ gb
    by_cases hkN : k < N
    · have hk1 : (k : Int) < (N : Int) := by omega
      have Hs1 : Hid (szq (X ^ (k + 1)) ≤ 1000) := HS.out (k + 1) hkN
      go_wp2_with fail
      refine (ref8_mul ng6 _ _ _ _ _ _ _ _ _ _ g6.isQ (G3.to gb).isQ (X ^ (k + 1)) (HP.out k) Hs1).mono ?_
      clear x0_0 y0_0 x0_1 y0_1 x0_2 y0_2 x1_0 y1_0 x1_1 y1_1 x1_2 y1_2 x5_0 y5_0 x5_1 y5_1 x5_2 y5_2 p0 p1 p2 p3 p4 p5
      rintro e w7 ⟨ng7, a7_, n7_, c7_, p7_, m7_, k7_, rfl, g7, hb7⟩
      replace t8 := t8.to hb7
      have q8 := t8
      obtain ⟨p0, p1, p2, p3, p4, p5⟩ := q8
      have hsw := gb.size
      replace gb := below_step gb hb7
      obtain ⟨x0_0, x0_1, x0_2, x1_0, x1_1, x1_2, x5_0, x5_1, x5_2⟩ := HXW1.out _ gb
      obtain ⟨y0_0, y0_1, y0_2, y1_0, y1_1, y1_2, y5_0, y5_1, y5_2⟩ := HYW1.out _ gb
      obtain ⟨z0, z1, z5⟩ := HZW1.out _ gb
      go_wp2_with fail
      go_roundw
      case rel => exact ⟨k + 1, _, _, _, _, _, _, _, _, _, by omega, by go_num, t8.set _ _ _, g7.set (.inl l8) _ _ _, hsw, below_set3 gb k8 _ _ _⟩
      case measure => simp [intOf]; omega
    · obtain rfl : k = N := by omega
      go_wp2_with fail
      refine bodyPost_ret (results_Rt Try.results19 _ _ _ _ _ _ rfl (Tri.set (x0 := .bool false) (y0 := .slice none 0 0) (z0 := .slice none 0 0) ⟨x1_0, x1_1, x1_2, y1_0, y1_1, y1_2⟩ _ _ _)) rfl (finRK (below_step zb gb) (by omega) ?_ g6)
      omega

end Go.Proofs.Ytmjnlpanlgmdmaa


namespace Go.Proofs.Ytmjnlpanlgmdmaa
open Go.RowKit Tw
set_option linter.unusedVariables false
set_option linter.unusedSimpArgs false

theorem rtext_size {x : Rat} (h : szq x ≤ 4) : (ba (rtext x)).size ≤ 900 := by
  rw [ba_size]
  have h1 := digs_text (n := x.num.natAbs) (Nat.le_trans (szq_num x) h)
  have h2 := digs_text (n := x.den) (Nat.le_trans (szq_den x) h)
  have h3 : (itext x.num).length ≤ (digs x.num.natAbs).length + 1 := by
    unfold itext
    split <;> simp
  unfold rtext
  split
  · omega
  · rw [List.length_append, List.length_cons]; omega

theorem cmpQ_bounds (a b : Rat) : -1 ≤ cmpQ a b ∧ cmpQ a b ≤ 1 := by
  unfold cmpQ
  split
  · omega
  · split <;> omega

theorem two_val : ((2 : Int) : Rat) = 2 := rfl

theorem cmp_half1 (a b : Rat) : cmpQ a ((a + b) / ((2 : Int) : Rat)) = cmpQ a b := by
  rw [two_val]
  unfold cmpQ
  have h1 : a < (a + b) / 2 ↔ a < b := by constructor <;> intro h <;> grind
  have h2 : (a + b) / 2 < a ↔ b < a := by constructor <;> intro h <;> grind
  simp only [h1, h2]

theorem cmp_half2 (a b : Rat) : cmpQ ((a + b) / ((2 : Int) : Rat)) b = cmpQ a b := by
  rw [two_val]
  unfold cmpQ
  have h1 : (a + b) / 2 < b ↔ a < b := by constructor <;> intro h <;> grind
  have h2 : b < (a + b) / 2 ↔ b < a := by constructor <;> intro h <;> grind
  simp only [h1, h2]

theorem cmp_more (a b c : Rat) : cmpQ (a + c) (b + c) = cmpQ a b := by
  unfold cmpQ
  have h1 : a + c < b + c ↔ a < b := by constructor <;> intro h <;> grind
  have h2 : b + c < a + c ↔ b < a := by constructor <;> intro h <;> grind
  simp only [h1, h2]

theorem cmp_neg (a b : Rat) : cmpQ (-b) (-a) = cmpQ a b := by
  unfold cmpQ
  have h1 : -b < -a ↔ a < b := by constructor <;> intro h <;> grind
  have h2 : -a < -b ↔ b < a := by constructor <;> intro h <;> grind
  simp only [h1, h2]

theorem cmp_turn (a b : Rat) : cmpQ b a = -cmpQ a b := by
  unfold cmpQ
  by_cases h1 : a < b
  · rw [if_pos h1, if_neg (by grind), if_pos h1]; rfl
  · by_cases h2 : b < a
    · rw [if_pos h2, if_neg h1, if_pos h2]
    · rw [if_neg h2, if_neg h1, if_neg h1, if_neg h2]; rfl

theorem rat_same {n : Nat} (h : n ≠ 0) : rat false n n = 1 := by
  unfold rat
  rw [sgn_false, Rat.mkRat_eq_div]
  have : (n : Rat) ≠ 0 := by
    intro e
    exact h (by exact_mod_cast e)
  show ((n : Int) : Rat) / (n : Rat) = 1
  rw [show ((n : Int) : Rat) = (n : Rat) from rfl]
  grind

theorem rat_pow_add (x : Rat) (i j : Nat) : x ^ (i + j) = x ^ i * x ^ j := by
  induction j with
  | zero => rw [Rat.pow_zero, Rat.mul_one]; rfl
  | succ j ih => rw [← Nat.add_assoc, Rat.pow_succ, Rat.pow_succ, ih, Rat.mul_assoc]

theorem pow_int {x : Rat} (b : Bool) (v u : Value) (ln ld : List Nat) (n : Int) (k : Nat) (w : World) (h : IsQ w b v u ln ld x) (hk : (k : Int) = n) (hn' : n ≤ 64) (hs : szq x * k ≤ 999) :
    Calls Try.prog 18 #[aggR b v u, .int .i64 n] w (GivesQK w (x ^ k)) := by
  subst hk
  have := pow_pos b v u ln ld (k : Int) w h (by omega) hn' (by rw [Int.toNat_natCast]; exact hs)
  rwa [Int.toNat_natCast] at this

theorem pow_both {x : Rat} (b : Bool) (v u : Value) (ln ld : List Nat) (n : Int) (hx : szq x ≤ 2) (m0 : -9223372036854775808 ≤ n) (m1 : n < 9223372036854775808) (hn : n < -64 ∨ 64 < n ∨ (-8 ≤ n ∧ n ≤ 8)) : ∃ ng l1 l2 k,
    (∀ w, IsQ w b v u ln ld x → Calls Try.prog 18 #[aggR b v u, .int .i64 n] w (GivesF w ng l1 l2 k)) ∧
    (∀ w, IsQ w b v u ln ld x → Calls Try.prog 19 #[aggR b v u, .int .i64 n] w (GivesF w ng l1 l2 k)) := by
  rcases hn with hn | hn | ⟨n0, n1⟩
  · exact ⟨false, [], [], 4, fun w h => (pow_low b v u ln ld n w h m0 m1 hn).mono fun _ _ h => givesF_no h,
      fun w h => (ref8_pow_low b v u ln ld n w h m0 m1 hn).mono fun _ _ h => givesF_no h⟩
  · exact ⟨false, [], [], 4, fun w h => (pow_high b v u ln ld n w h m0 m1 hn).mono fun _ _ h => givesF_no h,
      fun w h => (ref8_pow_high b v u ln ld n w h m0 m1 hn).mono fun _ _ h => givesF_no h⟩
  · by_cases hneg : n < 0
    · have hs : szq x * (-n).toNat ≤ 999 := Nat.le_trans (Nat.mul_le_mul hx (show (-n).toNat ≤ 8 by omega)) (by omega)
      by_cases h0 : x = 0
      · exact ⟨false, [], [], 3, fun w h => (pow_zero b v u ln ld n w h m0 m1 (by omega) hneg h0).mono fun _ _ h => givesF_no h,
          fun w h => (ref8_pow_zero b v u ln ld n w h m0 m1 (by omega) hneg h0).mono fun _ _ h => givesF_no h⟩
      · exact ⟨_, _, _, 0, fun w h => (pow_neg b v u ln ld n w h (by omega) hneg h0 hs).mono fun _ _ h => givesF h,
          fun w h => (ref8_pow_neg b v u ln ld n w h (by omega) hneg h0 hs).mono fun _ _ h => givesF h⟩
    · have hs : szq x * n.toNat ≤ 999 := Nat.le_trans (Nat.mul_le_mul hx (show n.toNat ≤ 8 by omega)) (by omega)
      by_cases h0 : x = 0
      · exact ⟨_, _, _, 0, fun w h => (pow_pos b v u ln ld n w h (by omega) (by omega) hs).mono fun _ _ h => givesF h,
          fun w h => (ref8_pow_pos0 b v u ln ld n w h (by omega) (by omega) h0 hs).mono fun _ _ h => givesF h⟩
      · exact ⟨_, _, _, 0, fun w h => (pow_pos b v u ln ld n w h (by omega) (by omega) hs).mono fun _ _ h => givesF h,
          fun w h => (ref8_pow_pos b v u ln ld n w h (by omega) (by omega) h0 hs).mono fun _ _ h => givesF h⟩

end Go.Proofs.Ytmjnlpanlgmdmaa

