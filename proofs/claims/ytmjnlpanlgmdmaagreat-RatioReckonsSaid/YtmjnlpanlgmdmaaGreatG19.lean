/-
  The texts Rat7, Rat8, Ref8d, Rat5, Ref8p, Ref8q, Rat9, Law8, merged.
-/
import Derived.Test.YtmjnlpanlgmdmaaGreatG12
import Derived.Test.YtmjnlpanlgmdmaaGreatG17
import Derived.Test.YtmjnlpanlgmdmaaGreatG11
import Derived.Test.YtmjnlpanlgmdmaaGreatG18
import Derived.Deep.RegionHeld3
import Derived.Deep.Cut
import Derived.Deep.DrawnRows
import Derived.Laws.EntriesVeiled
import Derived.Test.YtmjnlpanlgmdmaaGreatG16
import Derived.Test.YtmjnlpanlgmdmaaGreatG15
import Derived.Test.YtmjnlpanlgmdmaaGreatG05
namespace Go.Proofs.YtmjnlpanlgmdmaaGreat
open Go.RowKit Tw
set_option linter.unusedVariables false
set_option linter.unusedSimpArgs false
attribute [local go_sem ↓] Go.wp_at_zero Go.wp_at_succ

theorem hd1_size {s : ByteArray} (hs : s.size ≤ 1000) : (ba (hd1 (bs s))).size ≤ 1000 := by
  rw [ba_size]
  have h := congrArg List.length (hd1_take (bs s))
  rw [List.length_take] at h
  have := bs_length s
  omega

theorem tl1_size {s : ByteArray} (hs : s.size ≤ 1000) : (ba (tl1 (bs s))).size ≤ 1000 := by
  rw [ba_size, tl1_drop, List.length_drop]
  have := bs_length s
  omega

set_option maxRecDepth 100000 in
set_option maxHeartbeats 8000000 in
theorem parse_bar (s : ByteArray) (w : World) (hs : s.size ≤ 1000) (t1 t2 : ByteArray) (o : Bool) (e1 : ba (hd1 (bs s)) = t1) (e2 : ba (tl1 (bs s)) = t2) (e3 : has1 (bs s) = o) (z k : Int) (hz : pz (bs t1) = z) (hk : pk (bs t1) = k) (k0 : k = 0) (o0 : o = true) (ht : OkText (bs t2)) (d0 : dval (bs t2) ≠ 0) (q : Rat) (hq : mkRat z (dval (bs t2)) = q) (hq1 : szq q ≤ 1000) (hq2 : szi z ≤ 1001) (hq3 : sz (dval (bs t2)) ≤ 1001) :
    Calls Tryz.prog 18 #[.string s] w (GivesQK w q) := by
  have G1 := Lib.hid (show t1.size ≤ 1000 by rw [← e1]; exact hd1_size hs)
  have G2 := Lib.hid (show t2.size ≤ 1000 by rw [← e2]; exact tl1_size hs)
  have Hz := Lib.hid hz
  have Hk := Lib.hid hk
  have E1 := Lib.hid e1
  have E2 := Lib.hid e2
  have E3 := Lib.hid e3
  clear hz hk e1 e2 e3
  subst k0
  subst o0
  have HT := Lib.hid ht
  have HD := Lib.hid d0
  clear ht d0
  have HV := Lib.hid (show val (limbs (dval (bs t2))) ≠ 0 by rw [val_limbs]; exact HD.out)
  have H9 := Lib.hid (show ∀ ng, Hid (decide (z < 0) = ng) → rat (ng != false) (val (limbs z.natAbs)) (val (limbs (dval (bs t2)))) = q from fun ng e => by rw [← e.out, Bool.bne_false, val_limbs, val_limbs, rat_sgn, hq])
  have HS : Hid (szq q ≤ 1000) := hq1
  have L1 := Lib.hid (show (limbs z.natAbs).length ≤ 3000 by rw [sz_def]; unfold szi at hq2; omega)
  have L2 := Lib.hid (show (limbs (dval (bs t2))).length ≤ 3000 by rw [sz_def]; omega)
  clear hq hq1 hq2 hq3
  go_enter Tryz.func18, Tryz.ntmps18
  go_wp2_with fail
  obtain ⟨W0, hW0⟩ : ∃ W0, w.alloc (.cells #[.bool false, .slice none 0 0, .slice none 0 0] 24) = W0 := ⟨_, rfl⟩
  have HXW0 := Lib.hid (show ∀ W', Below W0.heap.size W0 W' → (W'.cell? ⟨w.heap.size, 0, none⟩ = some (.bool false) ∧ W'.cell? ⟨w.heap.size, 1, none⟩ = some (.slice none 0 0) ∧ W'.cell? ⟨w.heap.size, 2, none⟩ = some (.slice none 0 0)) from fun W' hb =>
    ⟨(hb.cell (p := ⟨w.heap.size, 0, none⟩) (by rw [← hW0]; simp <;> omega)).trans (by rw [← hW0]; simp [go_sem]), (hb.cell (p := ⟨w.heap.size, 1, none⟩) (by rw [← hW0]; simp <;> omega)).trans (by rw [← hW0]; simp [go_sem]), (hb.cell (p := ⟨w.heap.size, 2, none⟩) (by rw [← hW0]; simp <;> omega)).trans (by rw [← hW0]; simp [go_sem])⟩)
  have HYW0 := Lib.hid (show ∀ W', Below W0.heap.size W0 W' → (W'.frozen? ⟨w.heap.size, 0, none⟩ = false ∧ W'.frozen? ⟨w.heap.size, 1, none⟩ = false ∧ W'.frozen? ⟨w.heap.size, 2, none⟩ = false) from fun W' hb =>
    ⟨(hb.frozen (p := ⟨w.heap.size, 0, none⟩) (by rw [← hW0]; simp <;> omega)).trans (by rw [← hW0]; simp [go_sem]), (hb.frozen (p := ⟨w.heap.size, 1, none⟩) (by rw [← hW0]; simp <;> omega)).trans (by rw [← hW0]; simp [go_sem]), (hb.frozen (p := ⟨w.heap.size, 2, none⟩) (by rw [← hW0]; simp <;> omega)).trans (by rw [← hW0]; simp [go_sem])⟩)
  have HZW0 := Lib.hid (show ∀ W', Below W0.heap.size W0 W' → (w.heap.size < W'.heap.size) from fun W' hb =>
    Nat.lt_of_lt_of_le (by rw [← hW0]; simp <;> omega) hb.size)
  have zb : Below w.heap.size w W0 := by rw [← hW0]; exact below_new _ _
  rw [hW0]
  clear hW0
  have gb : Below W0.heap.size W0 W0 := Below.refl _ _
  obtain ⟨x0_0, x0_1, x0_2⟩ := HXW0.out _ gb
  obtain ⟨y0_0, y0_1, y0_2⟩ := HYW0.out _ gb
  obtain z0 := HZW0.out _ gb
  refine (cut_two s _ hs).mono ?_
  clear x0_0 y0_0 x0_1 y0_1 x0_2 y0_2
  rintro e w1 ⟨rfl, hb1⟩
  replace gb := below_step gb hb1
  obtain ⟨x0_0, x0_1, x0_2⟩ := HXW0.out _ gb
  obtain ⟨y0_0, y0_1, y0_2⟩ := HYW0.out _ gb
  obtain z0 := HZW0.out _ gb
  rw [E1.out, E2.out, E3.out]
  go_wp2_with fail
  refine (parse_k t1 _ G1.out z _ Hz.out Hk.out).mono ?_
  clear x0_0 y0_0 x0_1 y0_1 x0_2 y0_2
  rintro e w2 ⟨ng2, a2_, n2_, c2_, rfl, Hng2, g2, hb2⟩
  replace gb := below_step gb hb2
  obtain ⟨x0_0, x0_1, x0_2⟩ := HXW0.out _ gb
  obtain ⟨y0_0, y0_1, y0_2⟩ := HYW0.out _ gb
  obtain z0 := HZW0.out _ gb
  go_wp2_with fail
  obtain ⟨W1, hW1⟩ : ∃ W1, w2.alloc (.cells #[.bool ng2, .slice a2_ n2_ c2_] 46) = W1 := ⟨_, rfl⟩
  have hb_W1 : Below w2.heap.size w2 W1 := by rw [← hW1]; exact below_new _ _
  clear x0_0 y0_0 x0_1 y0_1 x0_2 y0_2
  replace g2 := g2.to hb_W1
  replace gb := below_step gb hb_W1
  obtain ⟨x0_0, x0_1, x0_2⟩ := HXW0.out _ gb
  obtain ⟨y0_0, y0_1, y0_2⟩ := HYW0.out _ gb
  obtain z0 := HZW0.out _ gb
  have x5_0 : W1.cell? ⟨w2.heap.size, 0, none⟩ = some (.bool ng2) := by rw [← hW1]; simp [go_sem]
  have y5_0 : W1.frozen? ⟨w2.heap.size, 0, none⟩ = false := by rw [← hW1]; simp [go_sem]
  have x5_1 : W1.cell? ⟨w2.heap.size, 1, none⟩ = some (.slice a2_ n2_ c2_) := by rw [← hW1]; simp [go_sem]
  have y5_1 : W1.frozen? ⟨w2.heap.size, 1, none⟩ = false := by rw [← hW1]; simp [go_sem]
  have z5 : w2.heap.size < W1.heap.size := by rw [← hW1]; simp
  rw [hW1]
  clear hW1
  replace zb := below_step zb gb
  have HXW1 := Lib.hid (show ∀ W', Below W1.heap.size W1 W' → (W'.cell? ⟨w.heap.size, 0, none⟩ = some (.bool false) ∧ W'.cell? ⟨w.heap.size, 1, none⟩ = some (.slice none 0 0) ∧ W'.cell? ⟨w.heap.size, 2, none⟩ = some (.slice none 0 0) ∧ W'.cell? ⟨w2.heap.size, 0, none⟩ = some (.bool ng2) ∧ W'.cell? ⟨w2.heap.size, 1, none⟩ = some (.slice a2_ n2_ c2_)) from fun W' hb =>
    ⟨(hb.cell (p := ⟨w.heap.size, 0, none⟩) z0).trans x0_0, (hb.cell (p := ⟨w.heap.size, 1, none⟩) z0).trans x0_1, (hb.cell (p := ⟨w.heap.size, 2, none⟩) z0).trans x0_2, (hb.cell (p := ⟨w2.heap.size, 0, none⟩) z5).trans x5_0, (hb.cell (p := ⟨w2.heap.size, 1, none⟩) z5).trans x5_1⟩)
  have HYW1 := Lib.hid (show ∀ W', Below W1.heap.size W1 W' → (W'.frozen? ⟨w.heap.size, 0, none⟩ = false ∧ W'.frozen? ⟨w.heap.size, 1, none⟩ = false ∧ W'.frozen? ⟨w.heap.size, 2, none⟩ = false ∧ W'.frozen? ⟨w2.heap.size, 0, none⟩ = false ∧ W'.frozen? ⟨w2.heap.size, 1, none⟩ = false) from fun W' hb =>
    ⟨(hb.frozen (p := ⟨w.heap.size, 0, none⟩) z0).trans y0_0, (hb.frozen (p := ⟨w.heap.size, 1, none⟩) z0).trans y0_1, (hb.frozen (p := ⟨w.heap.size, 2, none⟩) z0).trans y0_2, (hb.frozen (p := ⟨w2.heap.size, 0, none⟩) z5).trans y5_0, (hb.frozen (p := ⟨w2.heap.size, 1, none⟩) z5).trans y5_1⟩)
  have HZW1 := Lib.hid (show ∀ W', Below W1.heap.size W1 W' → (w.heap.size < W'.heap.size ∧ w2.heap.size < W'.heap.size) from fun W' hb =>
    ⟨Nat.lt_of_lt_of_le z0 hb.size, Nat.lt_of_lt_of_le z5 hb.size⟩)
  replace gb := Below.refl W1.heap.size W1
  go_wp2_with fail
  refine (nat_of 1 _ (by omega) (by omega)).mono ?_
  clear x0_0 y0_0 x0_1 y0_1 x0_2 y0_2 x5_0 y5_0 x5_1 y5_1
  rintro e w3 ⟨v3, rfl, g3, hb3⟩
  obtain ⟨a3_, n3_, c3_, rfl, H3, hm3⟩ := g3.rd.open
  replace gb := below_step gb hb3
  obtain ⟨x0_0, x0_1, x0_2, x5_0, x5_1⟩ := HXW1.out _ gb
  obtain ⟨y0_0, y0_1, y0_2, y5_0, y5_1⟩ := HYW1.out _ gb
  obtain ⟨z0, z5⟩ := HZW1.out _ gb
  go_wp2_with fail
  refine (deci_parse_ok t2 _ G2.out HT.out).mono ?_
  clear x0_0 y0_0 x0_1 y0_1 x0_2 y0_2 x5_0 y5_0 x5_1 y5_1
  rintro e w4 ⟨v4, rfl, g4, hb4⟩
  obtain ⟨a4_, n4_, c4_, rfl, H4, hm4⟩ := g4.rd.open
  replace g3 := g3.to hb4
  replace gb := below_step gb hb4
  obtain ⟨x0_0, x0_1, x0_2, x5_0, x5_1⟩ := HXW1.out _ gb
  obtain ⟨y0_0, y0_1, y0_2, y5_0, y5_1⟩ := HYW1.out _ gb
  obtain ⟨z0, z5⟩ := HZW1.out _ gb
  go_wp2_with fail
  refine (ratio_make ng2 false _ _ _ _ _ (g2.to gb).1 g4.rd L1.out L2.out HV.out q (H9.out ng2 Hng2) HS).mono ?_
  clear x0_0 y0_0 x0_1 y0_1 x0_2 y0_2 x5_0 y5_0 x5_1 y5_1
  rintro e w5 ⟨ng5, a5_, n5_, c5_, p5_, m5_, k5_, rfl, g5, hb5⟩
  replace g3 := g3.to hb5
  replace g4 := g4.to hb5
  replace gb := below_step gb hb5
  obtain ⟨x0_0, x0_1, x0_2, x5_0, x5_1⟩ := HXW1.out _ gb
  obtain ⟨y0_0, y0_1, y0_2, y5_0, y5_1⟩ := HYW1.out _ gb
  obtain ⟨z0, z5⟩ := HZW1.out _ gb
  go_wp2_with fail
  refine bodyPost_ret (results_Rt Tryz.results18 _ _ _ _ _ _ rfl (Tri.set (x0 := .bool false) (y0 := .slice none 0 0) (z0 := .slice none 0 0) ⟨x0_0, x0_1, x0_2, y0_0, y0_1, y0_2⟩ _ _ _)) rfl (finRK (below_step zb gb) (by omega) ?_ g5)
  omega

end Go.Proofs.YtmjnlpanlgmdmaaGreat


namespace Go.Proofs.YtmjnlpanlgmdmaaGreat
open Go.RowKit Tw
set_option linter.unusedVariables false
set_option linter.unusedSimpArgs false
attribute [local go_sem ↓] Go.wp_at_zero Go.wp_at_succ

theorem pow_len {m s n : Nat} (hm : sz m ≤ s) (hs : s * n ≤ 999) : (limbs (val (limbs m) ^ n)).length ≤ 3000 := by
  rw [sz_def, val_limbs]
  have h1 := sz_pow m n
  have h2 : n * sz m ≤ n * s := Nat.mul_le_mul_left _ hm
  rw [Nat.mul_comm s n] at hs
  omega

theorem szq_pow {x : Rat} {n : Nat} (hs : szq x * n ≤ 999) : szq (x ^ n) ≤ 1000 := by
  unfold szq
  rw [Rat.num_pow, Rat.den_pow, Int.natAbs_pow]
  have h1 := sz_pow x.num.natAbs n
  have h2 := sz_pow x.den n
  have h3 : n * sz x.num.natAbs ≤ n * szq x := Nat.mul_le_mul_left _ (szq_num x)
  have h4 : n * sz x.den ≤ n * szq x := Nat.mul_le_mul_left _ (szq_den x)
  rw [Nat.mul_comm (szq x) n] at hs
  omega

theorem pow_ok {m s n : Nat} {k : Int} (hm : sz m ≤ s) (hs1 : 1 ≤ s) (hs : s * n ≤ 999) (hk : k = (n : Int)) : ¬ powNo m k := by
  subst hk
  unfold powNo
  rintro (h | ⟨h1, h2⟩)
  · omega
  · have h3 : 0 < sz m := Nat.pos_of_ne_zero fun e => by have := sz_eq_zero.1 e; omega
    have h4 : n ≤ 4096 / sz m := (Nat.le_div_iff_mul_le h3).2 (by
      have : n * sz m ≤ n * s := Nat.mul_le_mul_left _ hm
      rw [Nat.mul_comm s n] at hs
      omega)
    omega

theorem pow_up {x : Rat} {n : Nat} {k : Int} (hs : szq x * n ≤ 999) (hk : k = (n : Int)) : ¬ powNo (val (limbs x.num.natAbs)) k := by
  rw [val_limbs]; exact pow_ok (szq_num x) (szq_one x) hs hk

theorem pow_dn {x : Rat} {n : Nat} {k : Int} (hs : szq x * n ≤ 999) (hk : k = (n : Int)) : ¬ powNo (val (limbs x.den)) k := by
  rw [val_limbs]; exact pow_ok (szq_den x) (szq_one x) hs hk

theorem pow_rat (x : Rat) : ∀ k : Nat, rat (decide (x < 0) && decide (k % 2 = 1)) (x.num.natAbs ^ k) (x.den ^ k) = x ^ k
  | 0 => by rw [Rat.pow_zero, Nat.pow_zero, Nat.pow_zero]; simp; rfl
  | k + 1 => by
    rw [Rat.pow_succ, ← pow_rat x k, Nat.pow_succ, Nat.pow_succ]
    conv => rhs; arg 2; rw [← rat_self x]
    rw [rat_mul]
    congr 1
    cases decide (x < 0)
    · rfl
    · rcases Nat.mod_two_eq_zero_or_one k with e | e
      · have : (k + 1) % 2 = 1 := by omega
        simp [e, this]
      · have : (k + 1) % 2 = 0 := by omega
        simp [e, this]

theorem inv_rat (b : Bool) {n d : Nat} (hn : n ≠ 0) (hd : d ≠ 0) : rat b d n = (rat b n d)⁻¹ := by
  have h1 : rat b n d ≠ 0 := fun e => hn ((rat_eq_zero hd).1 e)
  have h2 : rat b d n * rat b n d = 1 := by
    rw [rat_mul, Nat.mul_comm d n]
    unfold rat
    have : (n * d : Nat) ≠ 0 := Nat.mul_ne_zero hn hd
    rw [show (b != b) = false by cases b <;> rfl, sgn_false]
    rw [← Rat.divInt_ofNat]; exact Rat.divInt_self' (by omega)
  calc rat b d n = rat b d n * (rat b n d * (rat b n d)⁻¹) := by rw [Rat.mul_inv_cancel _ h1, Rat.mul_one]
    _ = (rat b n d)⁻¹ := by rw [← Rat.mul_assoc, h2, Rat.one_mul]

theorem pow_fin {x : Rat} {k : Nat} (p : Bool) (hp : p = decide (k % 2 = 1)) : ∀ ng, decide (x < 0) = ng → rat (ng && p) (val (limbs (val (limbs x.num.natAbs) ^ k))) (val (limbs (val (limbs x.den) ^ k))) = x ^ k := by
  intro ng e
  rw [← e, hp, val_limbs, val_limbs, val_limbs, val_limbs, ← pow_rat x k]

theorem pow_inv {x : Rat} {k : Nat} (p : Bool) (hp : p = decide (k % 2 = 1)) (h0 : x ≠ 0) : ∀ ng, decide (x < 0) = ng →
    rat (ng && p) (val (limbs (val (limbs x.den) ^ k))) (val (limbs (val (limbs x.num.natAbs) ^ k))) = (x ^ k)⁻¹ := by
  intro ng e
  have h := pow_fin p hp ng e
  rw [val_limbs, val_limbs, val_limbs, val_limbs] at *
  rw [← h]
  exact inv_rat _ (fun e => num_ne h0 (Int.natAbs_eq_zero.1 (Nat.pow_eq_zero.1 e).1)) (fun e => x.den_nz (Nat.pow_eq_zero.1 e).1)

theorem odd_pos {n : Int} {k : Nat} (hn : 0 ≤ n) (hk : max n (-n) = (k : Int)) : (n % 2 != 0) = decide (k % 2 = 1) := by
  rw [Bool.eq_iff_iff]; simp; omega

theorem odd_neg {n : Int} {k : Nat} (hk : max n (-n) = (k : Int)) : (n.tmod 2 != 0) = decide (k % 2 = 1) := by
  have h1 : n.tmod 2 = 0 ↔ n % 2 = 0 := by
    constructor
    · intro h; have := Int.dvd_of_tmod_eq_zero h; omega
    · intro h; exact Int.tmod_eq_zero_of_dvd (by omega)
  rw [Bool.eq_iff_iff]; simp [h1]; omega

set_option maxRecDepth 100000 in
set_option maxHeartbeats 8000000 in
theorem pow_zero {x : Rat} (b : Bool) (v u : Value) (ln ld : List Nat) (n : Int) (w : World) (h : IsQ w b v u ln ld x) (m0 : -9223372036854775808 ≤ n) (m1 : n < 9223372036854775808) (hn : -64 ≤ n) (hn' : n < 0) (h0 : x = 0) :
    Calls Tryz.prog 19 #[aggR b v u, .int .i64 n] w (fun e w' => e = .returned (.tuple #[aggR false (.slice none 0 0) (.slice none 0 0), .int .i64 3]) ∧ Below w.heap.size w w') := by
  have Hx := isQ_sz h
  have HX0 := Lib.hid h0
  clear h0
  obtain ⟨a0, n0, c0, rfl, H0, hm0⟩ := h.1.open
  obtain ⟨a1, n1, c1, rfl, H1, hm1⟩ := h.2.1.open
  go_enter Tryz.func19, Tryz.ntmps19
  go_wp2_with fail
  obtain ⟨W0, hW0⟩ : ∃ W0, (w.alloc (.cells #[.bool b, .slice a0 n0 c0, .slice a1 n1 c1] 24)).alloc (.cells #[.bool false, .slice none 0 0, .slice none 0 0] 24) = W0 := ⟨_, rfl⟩
  have HXW0 := Lib.hid (show ∀ W', Below W0.heap.size W0 W' → (W'.cell? ⟨w.heap.size, 0, none⟩ = some (.bool b) ∧ W'.cell? ⟨w.heap.size, 1, none⟩ = some (.slice a0 n0 c0) ∧ W'.cell? ⟨w.heap.size, 2, none⟩ = some (.slice a1 n1 c1) ∧ W'.cell? ⟨w.heap.size + 1, 0, none⟩ = some (.bool false) ∧ W'.cell? ⟨w.heap.size + 1, 1, none⟩ = some (.slice none 0 0) ∧ W'.cell? ⟨w.heap.size + 1, 2, none⟩ = some (.slice none 0 0)) from fun W' hb =>
    ⟨(hb.cell (p := ⟨w.heap.size, 0, none⟩) (by rw [← hW0]; simp <;> omega)).trans (by rw [← hW0]; simp [go_sem]), (hb.cell (p := ⟨w.heap.size, 1, none⟩) (by rw [← hW0]; simp <;> omega)).trans (by rw [← hW0]; simp [go_sem]), (hb.cell (p := ⟨w.heap.size, 2, none⟩) (by rw [← hW0]; simp <;> omega)).trans (by rw [← hW0]; simp [go_sem]), (hb.cell (p := ⟨w.heap.size + 1, 0, none⟩) (by rw [← hW0]; simp <;> omega)).trans (by rw [← hW0]; simp [go_sem]), (hb.cell (p := ⟨w.heap.size + 1, 1, none⟩) (by rw [← hW0]; simp <;> omega)).trans (by rw [← hW0]; simp [go_sem]), (hb.cell (p := ⟨w.heap.size + 1, 2, none⟩) (by rw [← hW0]; simp <;> omega)).trans (by rw [← hW0]; simp [go_sem])⟩)
  have HYW0 := Lib.hid (show ∀ W', Below W0.heap.size W0 W' → (W'.frozen? ⟨w.heap.size, 0, none⟩ = false ∧ W'.frozen? ⟨w.heap.size, 1, none⟩ = false ∧ W'.frozen? ⟨w.heap.size, 2, none⟩ = false ∧ W'.frozen? ⟨w.heap.size + 1, 0, none⟩ = false ∧ W'.frozen? ⟨w.heap.size + 1, 1, none⟩ = false ∧ W'.frozen? ⟨w.heap.size + 1, 2, none⟩ = false) from fun W' hb =>
    ⟨(hb.frozen (p := ⟨w.heap.size, 0, none⟩) (by rw [← hW0]; simp <;> omega)).trans (by rw [← hW0]; simp [go_sem]), (hb.frozen (p := ⟨w.heap.size, 1, none⟩) (by rw [← hW0]; simp <;> omega)).trans (by rw [← hW0]; simp [go_sem]), (hb.frozen (p := ⟨w.heap.size, 2, none⟩) (by rw [← hW0]; simp <;> omega)).trans (by rw [← hW0]; simp [go_sem]), (hb.frozen (p := ⟨w.heap.size + 1, 0, none⟩) (by rw [← hW0]; simp <;> omega)).trans (by rw [← hW0]; simp [go_sem]), (hb.frozen (p := ⟨w.heap.size + 1, 1, none⟩) (by rw [← hW0]; simp <;> omega)).trans (by rw [← hW0]; simp [go_sem]), (hb.frozen (p := ⟨w.heap.size + 1, 2, none⟩) (by rw [← hW0]; simp <;> omega)).trans (by rw [← hW0]; simp [go_sem])⟩)
  have HZW0 := Lib.hid (show ∀ W', Below W0.heap.size W0 W' → (w.heap.size < W'.heap.size ∧ w.heap.size + 1 < W'.heap.size) from fun W' hb =>
    ⟨Nat.lt_of_lt_of_le (by rw [← hW0]; simp <;> omega) hb.size, Nat.lt_of_lt_of_le (by rw [← hW0]; simp <;> omega) hb.size⟩)
  have zb : Below w.heap.size w W0 := by rw [← hW0]; exact below_step (below_new _ _) (below_new _ _)
  rw [hW0]
  clear hW0
  have i0 := h.to zb
  have gb : Below W0.heap.size W0 W0 := Below.refl _ _
  obtain ⟨x0_0, x0_1, x0_2, x1_0, x1_1, x1_2⟩ := HXW0.out _ gb
  obtain ⟨y0_0, y0_1, y0_2, y1_0, y1_1, y1_2⟩ := HYW0.out _ gb
  obtain ⟨z0, z1⟩ := HZW0.out _ gb
  refine (ratio_of b _ _ ln ld _ (i0.to gb) Hx).mono ?_
  clear x0_0 y0_0 x0_1 y0_1 x0_2 y0_2 x1_0 y1_0 x1_1 y1_1 x1_2 y1_2
  rintro e w1 ⟨ng1, a1_, n1_, c1_, p1_, m1_, k1_, rfl, g1, hb1⟩
  replace gb := below_step gb hb1
  obtain ⟨x0_0, x0_1, x0_2, x1_0, x1_1, x1_2⟩ := HXW0.out _ gb
  obtain ⟨y0_0, y0_1, y0_2, y1_0, y1_1, y1_2⟩ := HYW0.out _ gb
  obtain ⟨z0, z1⟩ := HZW0.out _ gb
  obtain rfl : n1_ = 0 := by have k := g1.zeroQ (decide_eq_true HX0.out); simpa using k
  go_wp2_with fail
  refine bodyPost_ret (results_Rt Tryz.results19 _ _ _ _ _ _ rfl (Tri.alloc (Tri.set (x0 := .bool false) (y0 := .slice none 0 0) (z0 := .slice none 0 0) ⟨x1_0, x1_1, x1_2, y1_0, y1_1, y1_2⟩ _ _ _) _)) rfl ⟨rfl, below_step (below_set3 (below_step zb gb) (by omega) _ _ _) (below_new _ _)⟩

set_option maxRecDepth 100000 in
set_option maxHeartbeats 8000000 in
theorem pow_pos {x : Rat} (b : Bool) (v u : Value) (ln ld : List Nat) (n : Int) (w : World) (h : IsQ w b v u ln ld x) (hn : 0 ≤ n) (hn' : n ≤ 64) (hs : szq x * n.toNat ≤ 999) :
    Calls Tryz.prog 19 #[aggR b v u, .int .i64 n] w (GivesQK w (x ^ n.toNat)) := by
  have Hx := isQ_sz h
  obtain ⟨K, hK⟩ : ∃ K, (max n (-n)).toNat = K := ⟨_, rfl⟩
  have hK2 : n.toNat = K := by omega
  have hK3 : max n (-n) = (K : Int) := by omega
  rw [hK2] at hs
  rw [hK2]
  have HP1 := Lib.hid (pow_up (k := max n (-n)) hs hK3)
  have HP2 := Lib.hid (pow_dn (k := max n (-n)) hs hK3)
  have HK := Lib.hid hK
  have HS : Hid (szq (x ^ K) ≤ 1000) := szq_pow hs
  have L1 := Lib.hid (show (limbs (val (limbs x.num.natAbs) ^ K)).length ≤ 3000 from pow_len (szq_num x) hs)
  have L2 := Lib.hid (show (limbs (val (limbs x.den) ^ K)).length ≤ 3000 from pow_len (szq_den x) hs)
  have H9 := Lib.hid (pow_fin (x := x) (n % 2 != 0) (odd_pos hn hK3))
  clear hs hK hK2 hK3
  obtain ⟨a0, n0, c0, rfl, H0, hm0⟩ := h.1.open
  obtain ⟨a1, n1, c1, rfl, H1, hm1⟩ := h.2.1.open
  go_enter Tryz.func19, Tryz.ntmps19
  go_wp2_with fail
  obtain ⟨W0, hW0⟩ : ∃ W0, (w.alloc (.cells #[.bool b, .slice a0 n0 c0, .slice a1 n1 c1] 24)).alloc (.cells #[.bool false, .slice none 0 0, .slice none 0 0] 24) = W0 := ⟨_, rfl⟩
  have HXW0 := Lib.hid (show ∀ W', Below W0.heap.size W0 W' → (W'.cell? ⟨w.heap.size, 0, none⟩ = some (.bool b) ∧ W'.cell? ⟨w.heap.size, 1, none⟩ = some (.slice a0 n0 c0) ∧ W'.cell? ⟨w.heap.size, 2, none⟩ = some (.slice a1 n1 c1) ∧ W'.cell? ⟨w.heap.size + 1, 0, none⟩ = some (.bool false) ∧ W'.cell? ⟨w.heap.size + 1, 1, none⟩ = some (.slice none 0 0) ∧ W'.cell? ⟨w.heap.size + 1, 2, none⟩ = some (.slice none 0 0)) from fun W' hb =>
    ⟨(hb.cell (p := ⟨w.heap.size, 0, none⟩) (by rw [← hW0]; simp <;> omega)).trans (by rw [← hW0]; simp [go_sem]), (hb.cell (p := ⟨w.heap.size, 1, none⟩) (by rw [← hW0]; simp <;> omega)).trans (by rw [← hW0]; simp [go_sem]), (hb.cell (p := ⟨w.heap.size, 2, none⟩) (by rw [← hW0]; simp <;> omega)).trans (by rw [← hW0]; simp [go_sem]), (hb.cell (p := ⟨w.heap.size + 1, 0, none⟩) (by rw [← hW0]; simp <;> omega)).trans (by rw [← hW0]; simp [go_sem]), (hb.cell (p := ⟨w.heap.size + 1, 1, none⟩) (by rw [← hW0]; simp <;> omega)).trans (by rw [← hW0]; simp [go_sem]), (hb.cell (p := ⟨w.heap.size + 1, 2, none⟩) (by rw [← hW0]; simp <;> omega)).trans (by rw [← hW0]; simp [go_sem])⟩)
  have HYW0 := Lib.hid (show ∀ W', Below W0.heap.size W0 W' → (W'.frozen? ⟨w.heap.size, 0, none⟩ = false ∧ W'.frozen? ⟨w.heap.size, 1, none⟩ = false ∧ W'.frozen? ⟨w.heap.size, 2, none⟩ = false ∧ W'.frozen? ⟨w.heap.size + 1, 0, none⟩ = false ∧ W'.frozen? ⟨w.heap.size + 1, 1, none⟩ = false ∧ W'.frozen? ⟨w.heap.size + 1, 2, none⟩ = false) from fun W' hb =>
    ⟨(hb.frozen (p := ⟨w.heap.size, 0, none⟩) (by rw [← hW0]; simp <;> omega)).trans (by rw [← hW0]; simp [go_sem]), (hb.frozen (p := ⟨w.heap.size, 1, none⟩) (by rw [← hW0]; simp <;> omega)).trans (by rw [← hW0]; simp [go_sem]), (hb.frozen (p := ⟨w.heap.size, 2, none⟩) (by rw [← hW0]; simp <;> omega)).trans (by rw [← hW0]; simp [go_sem]), (hb.frozen (p := ⟨w.heap.size + 1, 0, none⟩) (by rw [← hW0]; simp <;> omega)).trans (by rw [← hW0]; simp [go_sem]), (hb.frozen (p := ⟨w.heap.size + 1, 1, none⟩) (by rw [← hW0]; simp <;> omega)).trans (by rw [← hW0]; simp [go_sem]), (hb.frozen (p := ⟨w.heap.size + 1, 2, none⟩) (by rw [← hW0]; simp <;> omega)).trans (by rw [← hW0]; simp [go_sem])⟩)
  have HZW0 := Lib.hid (show ∀ W', Below W0.heap.size W0 W' → (w.heap.size < W'.heap.size ∧ w.heap.size + 1 < W'.heap.size) from fun W' hb =>
    ⟨Nat.lt_of_lt_of_le (by rw [← hW0]; simp <;> omega) hb.size, Nat.lt_of_lt_of_le (by rw [← hW0]; simp <;> omega) hb.size⟩)
  have zb : Below w.heap.size w W0 := by rw [← hW0]; exact below_step (below_new _ _) (below_new _ _)
  rw [hW0]
  clear hW0
  have i0 := h.to zb
  have gb : Below W0.heap.size W0 W0 := Below.refl _ _
  obtain ⟨x0_0, x0_1, x0_2, x1_0, x1_1, x1_2⟩ := HXW0.out _ gb
  obtain ⟨y0_0, y0_1, y0_2, y1_0, y1_1, y1_2⟩ := HYW0.out _ gb
  obtain ⟨z0, z1⟩ := HZW0.out _ gb
  refine (ratio_of b _ _ ln ld _ (i0.to gb) Hx).mono ?_
  clear x0_0 y0_0 x0_1 y0_1 x0_2 y0_2 x1_0 y1_0 x1_1 y1_1 x1_2 y1_2
  rintro e w1 ⟨ng1, a1_, n1_, c1_, p1_, m1_, k1_, rfl, g1, hb1⟩
  replace gb := below_step gb hb1
  obtain ⟨x0_0, x0_1, x0_2, x1_0, x1_1, x1_2⟩ := HXW0.out _ gb
  obtain ⟨y0_0, y0_1, y0_2, y1_0, y1_1, y1_2⟩ := HYW0.out _ gb
  obtain ⟨z0, z1⟩ := HZW0.out _ gb
  go_wp2_with fail
  obtain ⟨W1, hW1⟩ : ∃ W1, w1.alloc (.cells #[.bool ng1, .slice a1_ n1_ c1_, .slice p1_ m1_ k1_] 42) = W1 := ⟨_, rfl⟩
  have hb_W1 : Below w1.heap.size w1 W1 := by rw [← hW1]; exact below_new _ _
  have hs_W1 : Hid (W1.heap.size = w1.heap.size + 1) := by show _ = _; rw [← hW1]; simp
  clear x0_0 y0_0 x0_1 y0_1 x0_2 y0_2 x1_0 y1_0 x1_1 y1_1 x1_2 y1_2
  replace g1 := g1.to hb_W1
  replace gb := below_step gb hb_W1
  obtain ⟨x0_0, x0_1, x0_2, x1_0, x1_1, x1_2⟩ := HXW0.out _ gb
  obtain ⟨y0_0, y0_1, y0_2, y1_0, y1_1, y1_2⟩ := HYW0.out _ gb
  obtain ⟨z0, z1⟩ := HZW0.out _ gb
  have x6_0 : W1.cell? ⟨w1.heap.size, 0, none⟩ = some (.bool ng1) := by rw [← hW1]; simp [go_sem]
  have y6_0 : W1.frozen? ⟨w1.heap.size, 0, none⟩ = false := by rw [← hW1]; simp [go_sem]
  have x6_1 : W1.cell? ⟨w1.heap.size, 1, none⟩ = some (.slice a1_ n1_ c1_) := by rw [← hW1]; simp [go_sem]
  have y6_1 : W1.frozen? ⟨w1.heap.size, 1, none⟩ = false := by rw [← hW1]; simp [go_sem]
  have x6_2 : W1.cell? ⟨w1.heap.size, 2, none⟩ = some (.slice p1_ m1_ k1_) := by rw [← hW1]; simp [go_sem]
  have y6_2 : W1.frozen? ⟨w1.heap.size, 2, none⟩ = false := by rw [← hW1]; simp [go_sem]
  have z6 : w1.heap.size < W1.heap.size := by rw [← hW1]; simp
  rw [hW1]
  clear hW1
  replace i0 := i0.to gb
  replace zb := below_step zb gb
  have HXW1 := Lib.hid (show ∀ W', Below W1.heap.size W1 W' → (W'.cell? ⟨w.heap.size, 0, none⟩ = some (.bool b) ∧ W'.cell? ⟨w.heap.size, 1, none⟩ = some (.slice a0 n0 c0) ∧ W'.cell? ⟨w.heap.size, 2, none⟩ = some (.slice a1 n1 c1) ∧ W'.cell? ⟨w.heap.size + 1, 0, none⟩ = some (.bool false) ∧ W'.cell? ⟨w.heap.size + 1, 1, none⟩ = some (.slice none 0 0) ∧ W'.cell? ⟨w.heap.size + 1, 2, none⟩ = some (.slice none 0 0) ∧ W'.cell? ⟨w1.heap.size, 0, none⟩ = some (.bool ng1) ∧ W'.cell? ⟨w1.heap.size, 1, none⟩ = some (.slice a1_ n1_ c1_) ∧ W'.cell? ⟨w1.heap.size, 2, none⟩ = some (.slice p1_ m1_ k1_)) from fun W' hb =>
    ⟨(hb.cell (p := ⟨w.heap.size, 0, none⟩) z0).trans x0_0, (hb.cell (p := ⟨w.heap.size, 1, none⟩) z0).trans x0_1, (hb.cell (p := ⟨w.heap.size, 2, none⟩) z0).trans x0_2, (hb.cell (p := ⟨w.heap.size + 1, 0, none⟩) z1).trans x1_0, (hb.cell (p := ⟨w.heap.size + 1, 1, none⟩) z1).trans x1_1, (hb.cell (p := ⟨w.heap.size + 1, 2, none⟩) z1).trans x1_2, (hb.cell (p := ⟨w1.heap.size, 0, none⟩) z6).trans x6_0, (hb.cell (p := ⟨w1.heap.size, 1, none⟩) z6).trans x6_1, (hb.cell (p := ⟨w1.heap.size, 2, none⟩) z6).trans x6_2⟩)
  have HYW1 := Lib.hid (show ∀ W', Below W1.heap.size W1 W' → (W'.frozen? ⟨w.heap.size, 0, none⟩ = false ∧ W'.frozen? ⟨w.heap.size, 1, none⟩ = false ∧ W'.frozen? ⟨w.heap.size, 2, none⟩ = false ∧ W'.frozen? ⟨w.heap.size + 1, 0, none⟩ = false ∧ W'.frozen? ⟨w.heap.size + 1, 1, none⟩ = false ∧ W'.frozen? ⟨w.heap.size + 1, 2, none⟩ = false ∧ W'.frozen? ⟨w1.heap.size, 0, none⟩ = false ∧ W'.frozen? ⟨w1.heap.size, 1, none⟩ = false ∧ W'.frozen? ⟨w1.heap.size, 2, none⟩ = false) from fun W' hb =>
    ⟨(hb.frozen (p := ⟨w.heap.size, 0, none⟩) z0).trans y0_0, (hb.frozen (p := ⟨w.heap.size, 1, none⟩) z0).trans y0_1, (hb.frozen (p := ⟨w.heap.size, 2, none⟩) z0).trans y0_2, (hb.frozen (p := ⟨w.heap.size + 1, 0, none⟩) z1).trans y1_0, (hb.frozen (p := ⟨w.heap.size + 1, 1, none⟩) z1).trans y1_1, (hb.frozen (p := ⟨w.heap.size + 1, 2, none⟩) z1).trans y1_2, (hb.frozen (p := ⟨w1.heap.size, 0, none⟩) z6).trans y6_0, (hb.frozen (p := ⟨w1.heap.size, 1, none⟩) z6).trans y6_1, (hb.frozen (p := ⟨w1.heap.size, 2, none⟩) z6).trans y6_2⟩)
  have HZW1 := Lib.hid (show ∀ W', Below W1.heap.size W1 W' → (w.heap.size < W'.heap.size ∧ w.heap.size + 1 < W'.heap.size ∧ w1.heap.size < W'.heap.size) from fun W' hb =>
    ⟨Nat.lt_of_lt_of_le z0 hb.size, Nat.lt_of_lt_of_le z1 hb.size, Nat.lt_of_lt_of_le z6 hb.size⟩)
  replace gb := Below.refl W1.heap.size W1
  go_wp2_with fail
  refine (times_pow _ _ _ _ (g1.to gb).isQ.up (Nat.le_trans (g1.to gb).isQ.lup (by omega)) HP1.out).mono ?_
  clear x0_0 y0_0 x0_1 y0_1 x0_2 y0_2 x1_0 y1_0 x1_1 y1_1 x1_2 y1_2 x6_0 y6_0 x6_1 y6_1 x6_2 y6_2
  rintro e w2 ⟨v2, rfl, g2, hb2⟩
  obtain ⟨a2_, n2_, c2_, rfl, H2, hm2⟩ := g2.rd.open
  replace gb := below_step gb hb2
  obtain ⟨x0_0, x0_1, x0_2, x1_0, x1_1, x1_2, x6_0, x6_1, x6_2⟩ := HXW1.out _ gb
  obtain ⟨y0_0, y0_1, y0_2, y1_0, y1_1, y1_2, y6_0, y6_1, y6_2⟩ := HYW1.out _ gb
  obtain ⟨z0, z1, z6⟩ := HZW1.out _ gb
  rw [HK.out] at g2
  go_wp2_with fail
  refine (times_pow _ _ _ _ (g1.to gb).isQ.dn (Nat.le_trans (g1.to gb).isQ.ldn (by omega)) HP2.out).mono ?_
  clear x0_0 y0_0 x0_1 y0_1 x0_2 y0_2 x1_0 y1_0 x1_1 y1_1 x1_2 y1_2 x6_0 y6_0 x6_1 y6_1 x6_2 y6_2
  rintro e w3 ⟨v3, rfl, g3, hb3⟩
  obtain ⟨a3_, n3_, c3_, rfl, H3, hm3⟩ := g3.rd.open
  replace g2 := g2.to hb3
  replace gb := below_step gb hb3
  obtain ⟨x0_0, x0_1, x0_2, x1_0, x1_1, x1_2, x6_0, x6_1, x6_2⟩ := HXW1.out _ gb
  obtain ⟨y0_0, y0_1, y0_2, y1_0, y1_1, y1_2, y6_0, y6_1, y6_2⟩ := HYW1.out _ gb
  obtain ⟨z0, z1, z6⟩ := HZW1.out _ gb
  rw [HK.out] at g3
  have H8 := Lib.hid (H9.out ng1 (g1.to gb).ng)
  cases ng1
  · skip
    go_wp2_with fail
    refine (ratio_lowest false _ _ _ _ _ g2.rd g3.rd L1.out L2.out _ H8.out HS).mono ?_
    clear x0_0 y0_0 x0_1 y0_1 x0_2 y0_2 x1_0 y1_0 x1_1 y1_1 x1_2 y1_2 x6_0 y6_0 x6_1 y6_1 x6_2 y6_2
    rintro e w5 ⟨ng5, a5_, n5_, c5_, p5_, m5_, k5_, rfl, g5, hb5⟩
    replace g2 := g2.to hb5
    replace g3 := g3.to hb5
    replace gb := below_step gb hb5
    obtain ⟨x0_0, x0_1, x0_2, x1_0, x1_1, x1_2, x6_0, x6_1, x6_2⟩ := HXW1.out _ gb
    obtain ⟨y0_0, y0_1, y0_2, y1_0, y1_1, y1_2, y6_0, y6_1, y6_2⟩ := HYW1.out _ gb
    obtain ⟨z0, z1, z6⟩ := HZW1.out _ gb
    go_wp2_with fail
    refine bodyPost_ret (results_Rt Tryz.results19 _ _ _ _ _ _ rfl (Tri.set (x0 := .bool false) (y0 := .slice none 0 0) (z0 := .slice none 0 0) ⟨x1_0, x1_1, x1_2, y1_0, y1_1, y1_2⟩ _ _ _)) rfl (finRK (below_step zb gb) (by omega) ?_ g5)
    omega
  · skip
    go_wp2_with fail
    refine (ratio_lowest (n % 2 != 0) _ _ _ _ _ g2.rd g3.rd L1.out L2.out _ H8.out HS).mono ?_
    clear x0_0 y0_0 x0_1 y0_1 x0_2 y0_2 x1_0 y1_0 x1_1 y1_1 x1_2 y1_2 x6_0 y6_0 x6_1 y6_1 x6_2 y6_2
    rintro e w5 ⟨ng5, a5_, n5_, c5_, p5_, m5_, k5_, rfl, g5, hb5⟩
    replace g2 := g2.to hb5
    replace g3 := g3.to hb5
    replace gb := below_step gb hb5
    obtain ⟨x0_0, x0_1, x0_2, x1_0, x1_1, x1_2, x6_0, x6_1, x6_2⟩ := HXW1.out _ gb
    obtain ⟨y0_0, y0_1, y0_2, y1_0, y1_1, y1_2, y6_0, y6_1, y6_2⟩ := HYW1.out _ gb
    obtain ⟨z0, z1, z6⟩ := HZW1.out _ gb
    go_wp2_with fail
    refine bodyPost_ret (results_Rt Tryz.results19 _ _ _ _ _ _ rfl (Tri.set (x0 := .bool false) (y0 := .slice none 0 0) (z0 := .slice none 0 0) ⟨x1_0, x1_1, x1_2, y1_0, y1_1, y1_2⟩ _ _ _)) rfl (finRK (below_step zb gb) (by omega) ?_ g5)
    omega

set_option maxRecDepth 100000 in
set_option maxHeartbeats 8000000 in
theorem pow_neg {x : Rat} (b : Bool) (v u : Value) (ln ld : List Nat) (n : Int) (w : World) (h : IsQ w b v u ln ld x) (hn : -64 ≤ n) (hn' : n < 0) (h0 : x ≠ 0) (hs : szq x * (-n).toNat ≤ 999) :
    Calls Tryz.prog 19 #[aggR b v u, .int .i64 n] w (GivesQK w ((x ^ (-n).toNat)⁻¹)) := by
  have Hx := isQ_sz h
  obtain ⟨K, hK⟩ : ∃ K, (max n (-n)).toNat = K := ⟨_, rfl⟩
  have hK2 : (-n).toNat = K := by omega
  have hK3 : max n (-n) = (K : Int) := by omega
  rw [hK2] at hs
  rw [hK2]
  have HP1 := Lib.hid (pow_up (k := max n (-n)) hs hK3)
  have HP2 := Lib.hid (pow_dn (k := max n (-n)) hs hK3)
  have HK := Lib.hid hK
  have HS : Hid (szq ((x ^ K)⁻¹) ≤ 1000) := Nat.le_trans (szq_inv _) (szq_pow hs)
  have L1 := Lib.hid (show (limbs (val (limbs x.num.natAbs) ^ K)).length ≤ 3000 from pow_len (szq_num x) hs)
  have L2 := Lib.hid (show (limbs (val (limbs x.den) ^ K)).length ≤ 3000 from pow_len (szq_den x) hs)
  have H9 := Lib.hid (pow_inv (x := x) (n.tmod 2 != 0) (odd_neg hK3) h0)
  clear hs hK hK2 hK3
  have HX0 := Lib.hid h0
  clear h0
  obtain ⟨a0, n0, c0, rfl, H0, hm0⟩ := h.1.open
  obtain ⟨a1, n1, c1, rfl, H1, hm1⟩ := h.2.1.open
  go_enter Tryz.func19, Tryz.ntmps19
  go_wp2_with fail
  obtain ⟨W0, hW0⟩ : ∃ W0, (w.alloc (.cells #[.bool b, .slice a0 n0 c0, .slice a1 n1 c1] 24)).alloc (.cells #[.bool false, .slice none 0 0, .slice none 0 0] 24) = W0 := ⟨_, rfl⟩
  have HXW0 := Lib.hid (show ∀ W', Below W0.heap.size W0 W' → (W'.cell? ⟨w.heap.size, 0, none⟩ = some (.bool b) ∧ W'.cell? ⟨w.heap.size, 1, none⟩ = some (.slice a0 n0 c0) ∧ W'.cell? ⟨w.heap.size, 2, none⟩ = some (.slice a1 n1 c1) ∧ W'.cell? ⟨w.heap.size + 1, 0, none⟩ = some (.bool false) ∧ W'.cell? ⟨w.heap.size + 1, 1, none⟩ = some (.slice none 0 0) ∧ W'.cell? ⟨w.heap.size + 1, 2, none⟩ = some (.slice none 0 0)) from fun W' hb =>
    ⟨(hb.cell (p := ⟨w.heap.size, 0, none⟩) (by rw [← hW0]; simp <;> omega)).trans (by rw [← hW0]; simp [go_sem]), (hb.cell (p := ⟨w.heap.size, 1, none⟩) (by rw [← hW0]; simp <;> omega)).trans (by rw [← hW0]; simp [go_sem]), (hb.cell (p := ⟨w.heap.size, 2, none⟩) (by rw [← hW0]; simp <;> omega)).trans (by rw [← hW0]; simp [go_sem]), (hb.cell (p := ⟨w.heap.size + 1, 0, none⟩) (by rw [← hW0]; simp <;> omega)).trans (by rw [← hW0]; simp [go_sem]), (hb.cell (p := ⟨w.heap.size + 1, 1, none⟩) (by rw [← hW0]; simp <;> omega)).trans (by rw [← hW0]; simp [go_sem]), (hb.cell (p := ⟨w.heap.size + 1, 2, none⟩) (by rw [← hW0]; simp <;> omega)).trans (by rw [← hW0]; simp [go_sem])⟩)
  have HYW0 := Lib.hid (show ∀ W', Below W0.heap.size W0 W' → (W'.frozen? ⟨w.heap.size, 0, none⟩ = false ∧ W'.frozen? ⟨w.heap.size, 1, none⟩ = false ∧ W'.frozen? ⟨w.heap.size, 2, none⟩ = false ∧ W'.frozen? ⟨w.heap.size + 1, 0, none⟩ = false ∧ W'.frozen? ⟨w.heap.size + 1, 1, none⟩ = false ∧ W'.frozen? ⟨w.heap.size + 1, 2, none⟩ = false) from fun W' hb =>
    ⟨(hb.frozen (p := ⟨w.heap.size, 0, none⟩) (by rw [← hW0]; simp <;> omega)).trans (by rw [← hW0]; simp [go_sem]), (hb.frozen (p := ⟨w.heap.size, 1, none⟩) (by rw [← hW0]; simp <;> omega)).trans (by rw [← hW0]; simp [go_sem]), (hb.frozen (p := ⟨w.heap.size, 2, none⟩) (by rw [← hW0]; simp <;> omega)).trans (by rw [← hW0]; simp [go_sem]), (hb.frozen (p := ⟨w.heap.size + 1, 0, none⟩) (by rw [← hW0]; simp <;> omega)).trans (by rw [← hW0]; simp [go_sem]), (hb.frozen (p := ⟨w.heap.size + 1, 1, none⟩) (by rw [← hW0]; simp <;> omega)).trans (by rw [← hW0]; simp [go_sem]), (hb.frozen (p := ⟨w.heap.size + 1, 2, none⟩) (by rw [← hW0]; simp <;> omega)).trans (by rw [← hW0]; simp [go_sem])⟩)
  have HZW0 := Lib.hid (show ∀ W', Below W0.heap.size W0 W' → (w.heap.size < W'.heap.size ∧ w.heap.size + 1 < W'.heap.size) from fun W' hb =>
    ⟨Nat.lt_of_lt_of_le (by rw [← hW0]; simp <;> omega) hb.size, Nat.lt_of_lt_of_le (by rw [← hW0]; simp <;> omega) hb.size⟩)
  have zb : Below w.heap.size w W0 := by rw [← hW0]; exact below_step (below_new _ _) (below_new _ _)
  rw [hW0]
  clear hW0
  have i0 := h.to zb
  have gb : Below W0.heap.size W0 W0 := Below.refl _ _
  obtain ⟨x0_0, x0_1, x0_2, x1_0, x1_1, x1_2⟩ := HXW0.out _ gb
  obtain ⟨y0_0, y0_1, y0_2, y1_0, y1_1, y1_2⟩ := HYW0.out _ gb
  obtain ⟨z0, z1⟩ := HZW0.out _ gb
  refine (ratio_of b _ _ ln ld _ (i0.to gb) Hx).mono ?_
  clear x0_0 y0_0 x0_1 y0_1 x0_2 y0_2 x1_0 y1_0 x1_1 y1_1 x1_2 y1_2
  rintro e w1 ⟨ng1, a1_, n1_, c1_, p1_, m1_, k1_, rfl, g1, hb1⟩
  replace gb := below_step gb hb1
  obtain ⟨x0_0, x0_1, x0_2, x1_0, x1_1, x1_2⟩ := HXW0.out _ gb
  obtain ⟨y0_0, y0_1, y0_2, y1_0, y1_1, y1_2⟩ := HYW0.out _ gb
  obtain ⟨z0, z1⟩ := HZW0.out _ gb
  have hz1 : 0 < n1_ := by have k := g1.zeroQ (decide_eq_false HX0.out); simp at k; omega
  go_wp2_with fail
  obtain ⟨W1, hW1⟩ : ∃ W1, w1.alloc (.cells #[.bool ng1, .slice a1_ n1_ c1_, .slice p1_ m1_ k1_] 42) = W1 := ⟨_, rfl⟩
  have hb_W1 : Below w1.heap.size w1 W1 := by rw [← hW1]; exact below_new _ _
  have hs_W1 : Hid (W1.heap.size = w1.heap.size + 1) := by show _ = _; rw [← hW1]; simp
  clear x0_0 y0_0 x0_1 y0_1 x0_2 y0_2 x1_0 y1_0 x1_1 y1_1 x1_2 y1_2
  replace g1 := g1.to hb_W1
  replace gb := below_step gb hb_W1
  obtain ⟨x0_0, x0_1, x0_2, x1_0, x1_1, x1_2⟩ := HXW0.out _ gb
  obtain ⟨y0_0, y0_1, y0_2, y1_0, y1_1, y1_2⟩ := HYW0.out _ gb
  obtain ⟨z0, z1⟩ := HZW0.out _ gb
  have x6_0 : W1.cell? ⟨w1.heap.size, 0, none⟩ = some (.bool ng1) := by rw [← hW1]; simp [go_sem]
  have y6_0 : W1.frozen? ⟨w1.heap.size, 0, none⟩ = false := by rw [← hW1]; simp [go_sem]
  have x6_1 : W1.cell? ⟨w1.heap.size, 1, none⟩ = some (.slice a1_ n1_ c1_) := by rw [← hW1]; simp [go_sem]
  have y6_1 : W1.frozen? ⟨w1.heap.size, 1, none⟩ = false := by rw [← hW1]; simp [go_sem]
  have x6_2 : W1.cell? ⟨w1.heap.size, 2, none⟩ = some (.slice p1_ m1_ k1_) := by rw [← hW1]; simp [go_sem]
  have y6_2 : W1.frozen? ⟨w1.heap.size, 2, none⟩ = false := by rw [← hW1]; simp [go_sem]
  have z6 : w1.heap.size < W1.heap.size := by rw [← hW1]; simp
  rw [hW1]
  clear hW1
  replace i0 := i0.to gb
  replace zb := below_step zb gb
  have HXW1 := Lib.hid (show ∀ W', Below W1.heap.size W1 W' → (W'.cell? ⟨w.heap.size, 0, none⟩ = some (.bool b) ∧ W'.cell? ⟨w.heap.size, 1, none⟩ = some (.slice a0 n0 c0) ∧ W'.cell? ⟨w.heap.size, 2, none⟩ = some (.slice a1 n1 c1) ∧ W'.cell? ⟨w.heap.size + 1, 0, none⟩ = some (.bool false) ∧ W'.cell? ⟨w.heap.size + 1, 1, none⟩ = some (.slice none 0 0) ∧ W'.cell? ⟨w.heap.size + 1, 2, none⟩ = some (.slice none 0 0) ∧ W'.cell? ⟨w1.heap.size, 0, none⟩ = some (.bool ng1) ∧ W'.cell? ⟨w1.heap.size, 1, none⟩ = some (.slice a1_ n1_ c1_) ∧ W'.cell? ⟨w1.heap.size, 2, none⟩ = some (.slice p1_ m1_ k1_)) from fun W' hb =>
    ⟨(hb.cell (p := ⟨w.heap.size, 0, none⟩) z0).trans x0_0, (hb.cell (p := ⟨w.heap.size, 1, none⟩) z0).trans x0_1, (hb.cell (p := ⟨w.heap.size, 2, none⟩) z0).trans x0_2, (hb.cell (p := ⟨w.heap.size + 1, 0, none⟩) z1).trans x1_0, (hb.cell (p := ⟨w.heap.size + 1, 1, none⟩) z1).trans x1_1, (hb.cell (p := ⟨w.heap.size + 1, 2, none⟩) z1).trans x1_2, (hb.cell (p := ⟨w1.heap.size, 0, none⟩) z6).trans x6_0, (hb.cell (p := ⟨w1.heap.size, 1, none⟩) z6).trans x6_1, (hb.cell (p := ⟨w1.heap.size, 2, none⟩) z6).trans x6_2⟩)
  have HYW1 := Lib.hid (show ∀ W', Below W1.heap.size W1 W' → (W'.frozen? ⟨w.heap.size, 0, none⟩ = false ∧ W'.frozen? ⟨w.heap.size, 1, none⟩ = false ∧ W'.frozen? ⟨w.heap.size, 2, none⟩ = false ∧ W'.frozen? ⟨w.heap.size + 1, 0, none⟩ = false ∧ W'.frozen? ⟨w.heap.size + 1, 1, none⟩ = false ∧ W'.frozen? ⟨w.heap.size + 1, 2, none⟩ = false ∧ W'.frozen? ⟨w1.heap.size, 0, none⟩ = false ∧ W'.frozen? ⟨w1.heap.size, 1, none⟩ = false ∧ W'.frozen? ⟨w1.heap.size, 2, none⟩ = false) from fun W' hb =>
    ⟨(hb.frozen (p := ⟨w.heap.size, 0, none⟩) z0).trans y0_0, (hb.frozen (p := ⟨w.heap.size, 1, none⟩) z0).trans y0_1, (hb.frozen (p := ⟨w.heap.size, 2, none⟩) z0).trans y0_2, (hb.frozen (p := ⟨w.heap.size + 1, 0, none⟩) z1).trans y1_0, (hb.frozen (p := ⟨w.heap.size + 1, 1, none⟩) z1).trans y1_1, (hb.frozen (p := ⟨w.heap.size + 1, 2, none⟩) z1).trans y1_2, (hb.frozen (p := ⟨w1.heap.size, 0, none⟩) z6).trans y6_0, (hb.frozen (p := ⟨w1.heap.size, 1, none⟩) z6).trans y6_1, (hb.frozen (p := ⟨w1.heap.size, 2, none⟩) z6).trans y6_2⟩)
  have HZW1 := Lib.hid (show ∀ W', Below W1.heap.size W1 W' → (w.heap.size < W'.heap.size ∧ w.heap.size + 1 < W'.heap.size ∧ w1.heap.size < W'.heap.size) from fun W' hb =>
    ⟨Nat.lt_of_lt_of_le z0 hb.size, Nat.lt_of_lt_of_le z1 hb.size, Nat.lt_of_lt_of_le z6 hb.size⟩)
  replace gb := Below.refl W1.heap.size W1
  go_wp2_with fail
  refine (times_pow _ _ _ _ (g1.to gb).isQ.up (Nat.le_trans (g1.to gb).isQ.lup (by omega)) HP1.out).mono ?_
  clear x0_0 y0_0 x0_1 y0_1 x0_2 y0_2 x1_0 y1_0 x1_1 y1_1 x1_2 y1_2 x6_0 y6_0 x6_1 y6_1 x6_2 y6_2
  rintro e w2 ⟨v2, rfl, g2, hb2⟩
  obtain ⟨a2_, n2_, c2_, rfl, H2, hm2⟩ := g2.rd.open
  replace gb := below_step gb hb2
  obtain ⟨x0_0, x0_1, x0_2, x1_0, x1_1, x1_2, x6_0, x6_1, x6_2⟩ := HXW1.out _ gb
  obtain ⟨y0_0, y0_1, y0_2, y1_0, y1_1, y1_2, y6_0, y6_1, y6_2⟩ := HYW1.out _ gb
  obtain ⟨z0, z1, z6⟩ := HZW1.out _ gb
  rw [HK.out] at g2
  go_wp2_with fail
  refine (times_pow _ _ _ _ (g1.to gb).isQ.dn (Nat.le_trans (g1.to gb).isQ.ldn (by omega)) HP2.out).mono ?_
  clear x0_0 y0_0 x0_1 y0_1 x0_2 y0_2 x1_0 y1_0 x1_1 y1_1 x1_2 y1_2 x6_0 y6_0 x6_1 y6_1 x6_2 y6_2
  rintro e w3 ⟨v3, rfl, g3, hb3⟩
  obtain ⟨a3_, n3_, c3_, rfl, H3, hm3⟩ := g3.rd.open
  replace g2 := g2.to hb3
  replace gb := below_step gb hb3
  obtain ⟨x0_0, x0_1, x0_2, x1_0, x1_1, x1_2, x6_0, x6_1, x6_2⟩ := HXW1.out _ gb
  obtain ⟨y0_0, y0_1, y0_2, y1_0, y1_1, y1_2, y6_0, y6_1, y6_2⟩ := HYW1.out _ gb
  obtain ⟨z0, z1, z6⟩ := HZW1.out _ gb
  rw [HK.out] at g3
  have H8 := Lib.hid (H9.out ng1 (g1.to gb).ng)
  cases ng1
  · skip
    go_wp2_with fail
    refine (ratio_lowest false _ _ _ _ _ g3.rd g2.rd L2.out L1.out _ H8.out HS).mono ?_
    clear x0_0 y0_0 x0_1 y0_1 x0_2 y0_2 x1_0 y1_0 x1_1 y1_1 x1_2 y1_2 x6_0 y6_0 x6_1 y6_1 x6_2 y6_2
    rintro e w5 ⟨ng5, a5_, n5_, c5_, p5_, m5_, k5_, rfl, g5, hb5⟩
    replace g2 := g2.to hb5
    replace g3 := g3.to hb5
    replace gb := below_step gb hb5
    obtain ⟨x0_0, x0_1, x0_2, x1_0, x1_1, x1_2, x6_0, x6_1, x6_2⟩ := HXW1.out _ gb
    obtain ⟨y0_0, y0_1, y0_2, y1_0, y1_1, y1_2, y6_0, y6_1, y6_2⟩ := HYW1.out _ gb
    obtain ⟨z0, z1, z6⟩ := HZW1.out _ gb
    go_wp2_with fail
    refine bodyPost_ret (results_Rt Tryz.results19 _ _ _ _ _ _ rfl (Tri.set (x0 := .bool false) (y0 := .slice none 0 0) (z0 := .slice none 0 0) ⟨x1_0, x1_1, x1_2, y1_0, y1_1, y1_2⟩ _ _ _)) rfl (finRK (below_step zb gb) (by omega) ?_ g5)
    omega
  · skip
    go_wp2_with fail
    refine (ratio_lowest (n.tmod 2 != 0) _ _ _ _ _ g3.rd g2.rd L2.out L1.out _ H8.out HS).mono ?_
    clear x0_0 y0_0 x0_1 y0_1 x0_2 y0_2 x1_0 y1_0 x1_1 y1_1 x1_2 y1_2 x6_0 y6_0 x6_1 y6_1 x6_2 y6_2
    rintro e w5 ⟨ng5, a5_, n5_, c5_, p5_, m5_, k5_, rfl, g5, hb5⟩
    replace g2 := g2.to hb5
    replace g3 := g3.to hb5
    replace gb := below_step gb hb5
    obtain ⟨x0_0, x0_1, x0_2, x1_0, x1_1, x1_2, x6_0, x6_1, x6_2⟩ := HXW1.out _ gb
    obtain ⟨y0_0, y0_1, y0_2, y1_0, y1_1, y1_2, y6_0, y6_1, y6_2⟩ := HYW1.out _ gb
    obtain ⟨z0, z1, z6⟩ := HZW1.out _ gb
    go_wp2_with fail
    refine bodyPost_ret (results_Rt Tryz.results19 _ _ _ _ _ _ rfl (Tri.set (x0 := .bool false) (y0 := .slice none 0 0) (z0 := .slice none 0 0) ⟨x1_0, x1_1, x1_2, y1_0, y1_1, y1_2⟩ _ _ _)) rfl (finRK (below_step zb gb) (by omega) ?_ g5)
    omega

end Go.Proofs.YtmjnlpanlgmdmaaGreat


namespace Go.Proofs.YtmjnlpanlgmdmaaGreat
open Go.RowKit Tw
set_option linter.unusedVariables false
set_option linter.unusedSimpArgs false
attribute [local go_sem ↓] Go.wp_at_zero Go.wp_at_succ

set_option maxRecDepth 100000 in
set_option maxHeartbeats 4000000 in
theorem ref8_div_no {x y : Rat} (b : Bool) (v u : Value) (ln ld : List Nat) (c : Bool) (v' u' : Value) (ln' ld' : List Nat) (w : World) (h : IsQ w b v u ln ld x) (h' : IsQ w c v' u' ln' ld' y) (h0 : y = 0) :
    Calls Tryz.prog 7 #[aggR b v u, aggR c v' u'] w (fun e w' => e = .returned (.tuple #[aggR false (.slice none 0 0) (.slice none 0 0), .int .i64 3]) ∧ Below w.heap.size w w') := by
  have HX0 := Lib.hid (decide_eq_true h0)
  clear h0
  obtain ⟨a0, n0, c0, rfl, H0, hm0⟩ := h.1.open
  obtain ⟨a1, n1, c1, rfl, H1, hm1⟩ := h.2.1.open
  obtain ⟨a2, n2, c2, rfl, H2, hm2⟩ := h'.1.open
  obtain ⟨a3, n3, c3, rfl, H3, hm3⟩ := h'.2.1.open
  go_enter Tryz.func7, Tryz.ntmps7
  go_wp2_with fail
  obtain ⟨W0, hW0⟩ : ∃ W0, ((w.alloc (.cells #[.bool b, .slice a0 n0 c0, .slice a1 n1 c1] 24)).alloc (.cells #[.bool c, .slice a2 n2 c2, .slice a3 n3 c3] 24)).alloc (.cells #[.bool false, .slice none 0 0, .slice none 0 0] 24) = W0 := ⟨_, rfl⟩
  have HXW0 := Lib.hid (show ∀ W', Below W0.heap.size W0 W' → (W'.cell? ⟨w.heap.size, 0, none⟩ = some (.bool b) ∧ W'.cell? ⟨w.heap.size, 1, none⟩ = some (.slice a0 n0 c0) ∧ W'.cell? ⟨w.heap.size, 2, none⟩ = some (.slice a1 n1 c1) ∧ W'.cell? ⟨w.heap.size + 1, 0, none⟩ = some (.bool c) ∧ W'.cell? ⟨w.heap.size + 1, 1, none⟩ = some (.slice a2 n2 c2) ∧ W'.cell? ⟨w.heap.size + 1, 2, none⟩ = some (.slice a3 n3 c3) ∧ W'.cell? ⟨w.heap.size + 1 + 1, 0, none⟩ = some (.bool false) ∧ W'.cell? ⟨w.heap.size + 1 + 1, 1, none⟩ = some (.slice none 0 0) ∧ W'.cell? ⟨w.heap.size + 1 + 1, 2, none⟩ = some (.slice none 0 0)) from fun W' hb =>
    ⟨(hb.cell (p := ⟨w.heap.size, 0, none⟩) (by rw [← hW0]; simp <;> omega)).trans (by rw [← hW0]; simp [go_sem]), (hb.cell (p := ⟨w.heap.size, 1, none⟩) (by rw [← hW0]; simp <;> omega)).trans (by rw [← hW0]; simp [go_sem]), (hb.cell (p := ⟨w.heap.size, 2, none⟩) (by rw [← hW0]; simp <;> omega)).trans (by rw [← hW0]; simp [go_sem]), (hb.cell (p := ⟨w.heap.size + 1, 0, none⟩) (by rw [← hW0]; simp <;> omega)).trans (by rw [← hW0]; simp [go_sem]), (hb.cell (p := ⟨w.heap.size + 1, 1, none⟩) (by rw [← hW0]; simp <;> omega)).trans (by rw [← hW0]; simp [go_sem]), (hb.cell (p := ⟨w.heap.size + 1, 2, none⟩) (by rw [← hW0]; simp <;> omega)).trans (by rw [← hW0]; simp [go_sem]), (hb.cell (p := ⟨w.heap.size + 1 + 1, 0, none⟩) (by rw [← hW0]; simp <;> omega)).trans (by rw [← hW0]; simp [go_sem]), (hb.cell (p := ⟨w.heap.size + 1 + 1, 1, none⟩) (by rw [← hW0]; simp <;> omega)).trans (by rw [← hW0]; simp [go_sem]), (hb.cell (p := ⟨w.heap.size + 1 + 1, 2, none⟩) (by rw [← hW0]; simp <;> omega)).trans (by rw [← hW0]; simp [go_sem])⟩)
  have HYW0 := Lib.hid (show ∀ W', Below W0.heap.size W0 W' → (W'.frozen? ⟨w.heap.size, 0, none⟩ = false ∧ W'.frozen? ⟨w.heap.size, 1, none⟩ = false ∧ W'.frozen? ⟨w.heap.size, 2, none⟩ = false ∧ W'.frozen? ⟨w.heap.size + 1, 0, none⟩ = false ∧ W'.frozen? ⟨w.heap.size + 1, 1, none⟩ = false ∧ W'.frozen? ⟨w.heap.size + 1, 2, none⟩ = false ∧ W'.frozen? ⟨w.heap.size + 1 + 1, 0, none⟩ = false ∧ W'.frozen? ⟨w.heap.size + 1 + 1, 1, none⟩ = false ∧ W'.frozen? ⟨w.heap.size + 1 + 1, 2, none⟩ = false) from fun W' hb =>
    ⟨(hb.frozen (p := ⟨w.heap.size, 0, none⟩) (by rw [← hW0]; simp <;> omega)).trans (by rw [← hW0]; simp [go_sem]), (hb.frozen (p := ⟨w.heap.size, 1, none⟩) (by rw [← hW0]; simp <;> omega)).trans (by rw [← hW0]; simp [go_sem]), (hb.frozen (p := ⟨w.heap.size, 2, none⟩) (by rw [← hW0]; simp <;> omega)).trans (by rw [← hW0]; simp [go_sem]), (hb.frozen (p := ⟨w.heap.size + 1, 0, none⟩) (by rw [← hW0]; simp <;> omega)).trans (by rw [← hW0]; simp [go_sem]), (hb.frozen (p := ⟨w.heap.size + 1, 1, none⟩) (by rw [← hW0]; simp <;> omega)).trans (by rw [← hW0]; simp [go_sem]), (hb.frozen (p := ⟨w.heap.size + 1, 2, none⟩) (by rw [← hW0]; simp <;> omega)).trans (by rw [← hW0]; simp [go_sem]), (hb.frozen (p := ⟨w.heap.size + 1 + 1, 0, none⟩) (by rw [← hW0]; simp <;> omega)).trans (by rw [← hW0]; simp [go_sem]), (hb.frozen (p := ⟨w.heap.size + 1 + 1, 1, none⟩) (by rw [← hW0]; simp <;> omega)).trans (by rw [← hW0]; simp [go_sem]), (hb.frozen (p := ⟨w.heap.size + 1 + 1, 2, none⟩) (by rw [← hW0]; simp <;> omega)).trans (by rw [← hW0]; simp [go_sem])⟩)
  have HZW0 := Lib.hid (show ∀ W', Below W0.heap.size W0 W' → (w.heap.size < W'.heap.size ∧ w.heap.size + 1 < W'.heap.size ∧ w.heap.size + 1 + 1 < W'.heap.size) from fun W' hb =>
    ⟨Nat.lt_of_lt_of_le (by rw [← hW0]; simp <;> omega) hb.size, Nat.lt_of_lt_of_le (by rw [← hW0]; simp <;> omega) hb.size, Nat.lt_of_lt_of_le (by rw [← hW0]; simp <;> omega) hb.size⟩)
  have zb : Below w.heap.size w W0 := by rw [← hW0]; exact below_step (below_step (below_new _ _) (below_new _ _)) (below_new _ _)
  rw [hW0]
  clear hW0
  have i0 := h.to zb
  have i1 := h'.to zb
  have gb : Below W0.heap.size W0 W0 := Below.refl _ _
  obtain ⟨x0_0, x0_1, x0_2, x1_0, x1_1, x1_2, x2_0, x2_1, x2_2⟩ := HXW0.out _ gb
  obtain ⟨y0_0, y0_1, y0_2, y1_0, y1_1, y1_2, y2_0, y2_1, y2_2⟩ := HYW0.out _ gb
  obtain ⟨z0, z1, z2⟩ := HZW0.out _ gb
  refine (ref8_zero c _ _ ln' ld' _ (i1.to gb) true HX0.out).mono ?_
  clear x0_0 y0_0 x0_1 y0_1 x0_2 y0_2 x1_0 y1_0 x1_1 y1_1 x1_2 y1_2 x2_0 y2_0 x2_1 y2_1 x2_2 y2_2
  rintro e w1 ⟨rfl, hb1⟩
  replace gb := below_step gb hb1
  obtain ⟨x0_0, x0_1, x0_2, x1_0, x1_1, x1_2, x2_0, x2_1, x2_2⟩ := HXW0.out _ gb
  obtain ⟨y0_0, y0_1, y0_2, y1_0, y1_1, y1_2, y2_0, y2_1, y2_2⟩ := HYW0.out _ gb
  obtain ⟨z0, z1, z2⟩ := HZW0.out _ gb
  go_wp2_with fail
  refine bodyPost_ret (results_Rt Tryz.results7 _ _ _ _ _ _ rfl (Tri.set (x0 := .bool false) (y0 := .slice none 0 0) (z0 := .slice none 0 0) ⟨x2_0, x2_1, x2_2, y2_0, y2_1, y2_2⟩ _ _ _)) rfl ⟨rfl, below_set3 (below_step zb gb) (by omega) _ _ _⟩

set_option maxRecDepth 100000 in
set_option maxHeartbeats 4000000 in
theorem ref8_div {x y : Rat} (b : Bool) (v u : Value) (ln ld : List Nat) (c : Bool) (v' u' : Value) (ln' ld' : List Nat) (w : World) (h : IsQ w b v u ln ld x) (h' : IsQ w c v' u' ln' ld' y) (h0 : y ≠ 0) (q : Rat) (hq : x / y = q) (hs : Hid (szq q ≤ 1000)) :
    Calls Tryz.prog 7 #[aggR b v u, aggR c v' u'] w (GivesQK w q) := by
  have HX0 := Lib.hid (decide_eq_false h0)
  have HX1 := Lib.hid h0
  have H9 := Lib.hid (show x * y⁻¹ = q by rw [← Rat.div_def, hq])
  clear h0 hq
  obtain ⟨a0, n0, c0, rfl, H0, hm0⟩ := h.1.open
  obtain ⟨a1, n1, c1, rfl, H1, hm1⟩ := h.2.1.open
  obtain ⟨a2, n2, c2, rfl, H2, hm2⟩ := h'.1.open
  obtain ⟨a3, n3, c3, rfl, H3, hm3⟩ := h'.2.1.open
  go_enter Tryz.func7, Tryz.ntmps7
  go_wp2_with fail
  obtain ⟨W0, hW0⟩ : ∃ W0, ((w.alloc (.cells #[.bool b, .slice a0 n0 c0, .slice a1 n1 c1] 24)).alloc (.cells #[.bool c, .slice a2 n2 c2, .slice a3 n3 c3] 24)).alloc (.cells #[.bool false, .slice none 0 0, .slice none 0 0] 24) = W0 := ⟨_, rfl⟩
  have HXW0 := Lib.hid (show ∀ W', Below W0.heap.size W0 W' → (W'.cell? ⟨w.heap.size, 0, none⟩ = some (.bool b) ∧ W'.cell? ⟨w.heap.size, 1, none⟩ = some (.slice a0 n0 c0) ∧ W'.cell? ⟨w.heap.size, 2, none⟩ = some (.slice a1 n1 c1) ∧ W'.cell? ⟨w.heap.size + 1, 0, none⟩ = some (.bool c) ∧ W'.cell? ⟨w.heap.size + 1, 1, none⟩ = some (.slice a2 n2 c2) ∧ W'.cell? ⟨w.heap.size + 1, 2, none⟩ = some (.slice a3 n3 c3) ∧ W'.cell? ⟨w.heap.size + 1 + 1, 0, none⟩ = some (.bool false) ∧ W'.cell? ⟨w.heap.size + 1 + 1, 1, none⟩ = some (.slice none 0 0) ∧ W'.cell? ⟨w.heap.size + 1 + 1, 2, none⟩ = some (.slice none 0 0)) from fun W' hb =>
    ⟨(hb.cell (p := ⟨w.heap.size, 0, none⟩) (by rw [← hW0]; simp <;> omega)).trans (by rw [← hW0]; simp [go_sem]), (hb.cell (p := ⟨w.heap.size, 1, none⟩) (by rw [← hW0]; simp <;> omega)).trans (by rw [← hW0]; simp [go_sem]), (hb.cell (p := ⟨w.heap.size, 2, none⟩) (by rw [← hW0]; simp <;> omega)).trans (by rw [← hW0]; simp [go_sem]), (hb.cell (p := ⟨w.heap.size + 1, 0, none⟩) (by rw [← hW0]; simp <;> omega)).trans (by rw [← hW0]; simp [go_sem]), (hb.cell (p := ⟨w.heap.size + 1, 1, none⟩) (by rw [← hW0]; simp <;> omega)).trans (by rw [← hW0]; simp [go_sem]), (hb.cell (p := ⟨w.heap.size + 1, 2, none⟩) (by rw [← hW0]; simp <;> omega)).trans (by rw [← hW0]; simp [go_sem]), (hb.cell (p := ⟨w.heap.size + 1 + 1, 0, none⟩) (by rw [← hW0]; simp <;> omega)).trans (by rw [← hW0]; simp [go_sem]), (hb.cell (p := ⟨w.heap.size + 1 + 1, 1, none⟩) (by rw [← hW0]; simp <;> omega)).trans (by rw [← hW0]; simp [go_sem]), (hb.cell (p := ⟨w.heap.size + 1 + 1, 2, none⟩) (by rw [← hW0]; simp <;> omega)).trans (by rw [← hW0]; simp [go_sem])⟩)
  have HYW0 := Lib.hid (show ∀ W', Below W0.heap.size W0 W' → (W'.frozen? ⟨w.heap.size, 0, none⟩ = false ∧ W'.frozen? ⟨w.heap.size, 1, none⟩ = false ∧ W'.frozen? ⟨w.heap.size, 2, none⟩ = false ∧ W'.frozen? ⟨w.heap.size + 1, 0, none⟩ = false ∧ W'.frozen? ⟨w.heap.size + 1, 1, none⟩ = false ∧ W'.frozen? ⟨w.heap.size + 1, 2, none⟩ = false ∧ W'.frozen? ⟨w.heap.size + 1 + 1, 0, none⟩ = false ∧ W'.frozen? ⟨w.heap.size + 1 + 1, 1, none⟩ = false ∧ W'.frozen? ⟨w.heap.size + 1 + 1, 2, none⟩ = false) from fun W' hb =>
    ⟨(hb.frozen (p := ⟨w.heap.size, 0, none⟩) (by rw [← hW0]; simp <;> omega)).trans (by rw [← hW0]; simp [go_sem]), (hb.frozen (p := ⟨w.heap.size, 1, none⟩) (by rw [← hW0]; simp <;> omega)).trans (by rw [← hW0]; simp [go_sem]), (hb.frozen (p := ⟨w.heap.size, 2, none⟩) (by rw [← hW0]; simp <;> omega)).trans (by rw [← hW0]; simp [go_sem]), (hb.frozen (p := ⟨w.heap.size + 1, 0, none⟩) (by rw [← hW0]; simp <;> omega)).trans (by rw [← hW0]; simp [go_sem]), (hb.frozen (p := ⟨w.heap.size + 1, 1, none⟩) (by rw [← hW0]; simp <;> omega)).trans (by rw [← hW0]; simp [go_sem]), (hb.frozen (p := ⟨w.heap.size + 1, 2, none⟩) (by rw [← hW0]; simp <;> omega)).trans (by rw [← hW0]; simp [go_sem]), (hb.frozen (p := ⟨w.heap.size + 1 + 1, 0, none⟩) (by rw [← hW0]; simp <;> omega)).trans (by rw [← hW0]; simp [go_sem]), (hb.frozen (p := ⟨w.heap.size + 1 + 1, 1, none⟩) (by rw [← hW0]; simp <;> omega)).trans (by rw [← hW0]; simp [go_sem]), (hb.frozen (p := ⟨w.heap.size + 1 + 1, 2, none⟩) (by rw [← hW0]; simp <;> omega)).trans (by rw [← hW0]; simp [go_sem])⟩)
  have HZW0 := Lib.hid (show ∀ W', Below W0.heap.size W0 W' → (w.heap.size < W'.heap.size ∧ w.heap.size + 1 < W'.heap.size ∧ w.heap.size + 1 + 1 < W'.heap.size) from fun W' hb =>
    ⟨Nat.lt_of_lt_of_le (by rw [← hW0]; simp <;> omega) hb.size, Nat.lt_of_lt_of_le (by rw [← hW0]; simp <;> omega) hb.size, Nat.lt_of_lt_of_le (by rw [← hW0]; simp <;> omega) hb.size⟩)
  have zb : Below w.heap.size w W0 := by rw [← hW0]; exact below_step (below_step (below_new _ _) (below_new _ _)) (below_new _ _)
  rw [hW0]
  clear hW0
  have i0 := h.to zb
  have i1 := h'.to zb
  have gb : Below W0.heap.size W0 W0 := Below.refl _ _
  obtain ⟨x0_0, x0_1, x0_2, x1_0, x1_1, x1_2, x2_0, x2_1, x2_2⟩ := HXW0.out _ gb
  obtain ⟨y0_0, y0_1, y0_2, y1_0, y1_1, y1_2, y2_0, y2_1, y2_2⟩ := HYW0.out _ gb
  obtain ⟨z0, z1, z2⟩ := HZW0.out _ gb
  refine (ref8_zero c _ _ ln' ld' _ (i1.to gb) false HX0.out).mono ?_
  clear x0_0 y0_0 x0_1 y0_1 x0_2 y0_2 x1_0 y1_0 x1_1 y1_1 x1_2 y1_2 x2_0 y2_0 x2_1 y2_1 x2_2 y2_2
  rintro e w1 ⟨rfl, hb1⟩
  replace gb := below_step gb hb1
  obtain ⟨x0_0, x0_1, x0_2, x1_0, x1_1, x1_2, x2_0, x2_1, x2_2⟩ := HXW0.out _ gb
  obtain ⟨y0_0, y0_1, y0_2, y1_0, y1_1, y1_2, y2_0, y2_1, y2_2⟩ := HYW0.out _ gb
  obtain ⟨z0, z1, z2⟩ := HZW0.out _ gb
  go_wp2_with fail
  have nz0 : w.heap.size ≠ w.heap.size + 1 + 1 := by omega
  have nz1 : w.heap.size + 1 ≠ w.heap.size + 1 + 1 := by omega
  go_region_held3 (fun W' => W'.cell? ⟨w.heap.size, 0, none⟩ = some (.bool b) ∧ W'.cell? ⟨w.heap.size, 1, none⟩ = some (.slice a0 n0 c0) ∧ W'.cell? ⟨w.heap.size, 2, none⟩ = some (.slice a1 n1 c1) ∧ W'.cell? ⟨w.heap.size + 1, 0, none⟩ = some (.bool c) ∧ W'.cell? ⟨w.heap.size + 1, 1, none⟩ = some (.slice a2 n2 c2) ∧ W'.cell? ⟨w.heap.size + 1, 2, none⟩ = some (.slice a3 n3 c3)) (first | (with_reducible exact ⟨x0_0, x0_1, x0_2, x1_0, x1_1, x1_2⟩) | (with_reducible exact ⟨cell_put (cell_put (cell_put (x0_0) (.inl nz0) _) (.inl nz0) _) (.inl nz0) _, cell_put (cell_put (cell_put (x0_1) (.inl nz0) _) (.inl nz0) _) (.inl nz0) _, cell_put (cell_put (cell_put (x0_2) (.inl nz0) _) (.inl nz0) _) (.inl nz0) _, cell_put (cell_put (cell_put (x1_0) (.inl nz1) _) (.inl nz1) _) (.inl nz1) _, cell_put (cell_put (cell_put (x1_1) (.inl nz1) _) (.inl nz1) _) (.inl nz1) _, cell_put (cell_put (cell_put (x1_2) (.inl nz1) _) (.inl nz1) _) (.inl nz1) _⟩) | exact ⟨x0_0, x0_1, x0_2, x1_0, x1_1, x1_2⟩) (first
    | (go_at_call 15; (with_reducible refine (ref8_mul b _ _ ln ld _ _ _ _ _ _ (i0.to gb) g2.isQ q H9.out hs).mono ?_); rintro e w3 ⟨ng3, a3_, n3_, c3_, p3_, m3_, k3_, rfl, g3, hb3⟩; have g2 := g2.to hb3; have gb := below_step gb hb3; obtain ⟨x0_0, x0_1, x0_2, x1_0, x1_1, x1_2, x2_0, x2_1, x2_2⟩ := HXW0.out _ gb; obtain ⟨y0_0, y0_1, y0_2, y1_0, y1_1, y1_2, y2_0, y2_1, y2_2⟩ := HYW0.out _ gb; obtain ⟨z0, z1, z2⟩ := HZW0.out _ gb)
    | (go_at_call 29; have gb := gb.drew; (with_reducible refine (ref8_turned c _ _ ln' ld' _ (i1.to gb) HX1.out).mono ?_); rintro e w2 ⟨ng2, a2_, n2_, c2_, p2_, m2_, k2_, rfl, g2, hb2⟩; have gb := below_step gb hb2; obtain ⟨x0_0, x0_1, x0_2, x1_0, x1_1, x1_2, x2_0, x2_1, x2_2⟩ := HXW0.out _ gb; obtain ⟨y0_0, y0_1, y0_2, y1_0, y1_1, y1_2, y2_0, y2_1, y2_2⟩ := HYW0.out _ gb; obtain ⟨z0, z1, z2⟩ := HZW0.out _ gb))
  go_wp2_with fail
  refine bodyPost_ret (results_Rt Tryz.results7 _ _ _ _ _ _ rfl (Tri.set (x0 := .bool false) (y0 := .slice none 0 0) (z0 := .slice none 0 0) ⟨x2_0, x2_1, x2_2, y2_0, y2_1, y2_2⟩ _ _ _)) rfl (finRK (below_step zb gb) (by omega) ?_ g3)
  omega

end Go.Proofs.YtmjnlpanlgmdmaaGreat


namespace Go.Proofs.YtmjnlpanlgmdmaaGreat
open Go.RowKit Tw
set_option linter.unusedVariables false
set_option linter.unusedSimpArgs false
attribute [local go_sem ↓] Go.wp_at_zero Go.wp_at_succ

def rtext (q : Rat) : List Nat := if q.den = 1 then itext q.num else itext q.num ++ 124 :: digs q.den

theorem cmp_one {n : Nat} (h0 : n ≠ 0) (h1 : n ≠ 1) : cmpN n (1 : Int).toNat = 1 := by
  unfold cmpN
  rw [show (1 : Int).toNat = 1 from rfl, if_neg (by omega), if_pos (by omega)]

theorem digs_text {n k : Nat} (h : sz n ≤ k) : (digs n).length ≤ 10 * k + 1 := by
  have h1 := ndig_bound (limbs_small n)
  rw [val_limbs, sz_def] at h1
  unfold ndig at h1
  omega

theorem num_text {x : Rat} (h : szq x ≤ 1000) : (itext x.num).length ≤ 10002 := by
  have h1 := digs_text (Nat.le_trans (szq_num x) h)
  unfold itext
  split <;> simp <;> omega

theorem den_text {x : Rat} (h : szq x ≤ 1000) : (digs x.den).length ≤ 10001 := digs_text (Nat.le_trans (szq_den x) h)

theorem nat_cmp_k (va vb : Value) (la lb : List Nat) (w : World) (ha : Rd w va la) (hb : Rd w vb lb) (k : Int) (hk : cmpN (val la) (val lb) = k) :
    Calls Tryz.prog 48 #[va, vb] w fun e w' => e = .returned (.int .i64 k) ∧ Below w.heap.size w w' :=
  (nat_cmp va vb la lb w ha hb).mono fun e w' h => by rw [hk] at h; exact h

set_option maxRecDepth 100000 in
set_option maxHeartbeats 8000000 in
theorem print_one {x : Rat} (b : Bool) (v u : Value) (ln ld : List Nat) (w : World) (h : IsQ w b v u ln ld x) (t : ByteArray) (ht : ba (rtext x) = t) (h1 : x.den = 1) :
    Calls Tryz.prog 21 #[aggR b v u] w (fun e w' => e = .returned (.string t) ∧ Below w.heap.size w w') := by
  have Hx := isQ_sz h
  have K1 := Lib.hid (show cmpN (val (limbs x.den)) (val (limbs (1 : Int).toNat)) = 0 by rw [val_limbs, val_limbs]; rw [h1]; decide +kernel)
  have Ht := Lib.hid (show ba (itext x.num) = t by rw [← ht]; unfold rtext; rw [if_pos h1])
  obtain ⟨a0, n0, c0, rfl, H0, hm0⟩ := h.1.open
  obtain ⟨a1, n1, c1, rfl, H1, hm1⟩ := h.2.1.open
  clear ht h1
  go_enter Tryz.func21, Tryz.ntmps21
  go_wp2_with fail
  obtain ⟨W0, hW0⟩ : ∃ W0, w.alloc (.cells #[.bool b, .slice a0 n0 c0, .slice a1 n1 c1] 24) = W0 := ⟨_, rfl⟩
  have HXW0 := Lib.hid (show ∀ W', Below W0.heap.size W0 W' → (W'.cell? ⟨w.heap.size, 0, none⟩ = some (.bool b) ∧ W'.cell? ⟨w.heap.size, 1, none⟩ = some (.slice a0 n0 c0) ∧ W'.cell? ⟨w.heap.size, 2, none⟩ = some (.slice a1 n1 c1)) from fun W' hb =>
    ⟨(hb.cell (p := ⟨w.heap.size, 0, none⟩) (by rw [← hW0]; simp <;> omega)).trans (by rw [← hW0]; simp [go_sem]), (hb.cell (p := ⟨w.heap.size, 1, none⟩) (by rw [← hW0]; simp <;> omega)).trans (by rw [← hW0]; simp [go_sem]), (hb.cell (p := ⟨w.heap.size, 2, none⟩) (by rw [← hW0]; simp <;> omega)).trans (by rw [← hW0]; simp [go_sem])⟩)
  have HYW0 := Lib.hid (show ∀ W', Below W0.heap.size W0 W' → (W'.frozen? ⟨w.heap.size, 0, none⟩ = false ∧ W'.frozen? ⟨w.heap.size, 1, none⟩ = false ∧ W'.frozen? ⟨w.heap.size, 2, none⟩ = false) from fun W' hb =>
    ⟨(hb.frozen (p := ⟨w.heap.size, 0, none⟩) (by rw [← hW0]; simp <;> omega)).trans (by rw [← hW0]; simp [go_sem]), (hb.frozen (p := ⟨w.heap.size, 1, none⟩) (by rw [← hW0]; simp <;> omega)).trans (by rw [← hW0]; simp [go_sem]), (hb.frozen (p := ⟨w.heap.size, 2, none⟩) (by rw [← hW0]; simp <;> omega)).trans (by rw [← hW0]; simp [go_sem])⟩)
  have HZW0 := Lib.hid (show ∀ W', Below W0.heap.size W0 W' → (w.heap.size < W'.heap.size) from fun W' hb =>
    Nat.lt_of_lt_of_le (by rw [← hW0]; simp <;> omega) hb.size)
  have zb : Below w.heap.size w W0 := by rw [← hW0]; exact below_new _ _
  rw [hW0]
  clear hW0
  have i0 := h.to zb
  have gb : Below W0.heap.size W0 W0 := Below.refl _ _
  obtain ⟨x0_0, x0_1, x0_2⟩ := HXW0.out _ gb
  obtain ⟨y0_0, y0_1, y0_2⟩ := HYW0.out _ gb
  obtain z0 := HZW0.out _ gb
  refine (ratio_of b _ _ ln ld _ (i0.to gb) Hx).mono ?_
  clear x0_0 y0_0 x0_1 y0_1 x0_2 y0_2
  rintro e w1 ⟨ng1, a1_, n1_, c1_, p1_, m1_, k1_, rfl, g1, hb1⟩
  replace gb := below_step gb hb1
  obtain ⟨x0_0, x0_1, x0_2⟩ := HXW0.out _ gb
  obtain ⟨y0_0, y0_1, y0_2⟩ := HYW0.out _ gb
  obtain z0 := HZW0.out _ gb
  go_wp2_with fail
  obtain ⟨W1, hW1⟩ : ∃ W1, w1.alloc (.cells #[.bool ng1, .slice a1_ n1_ c1_, .slice p1_ m1_ k1_] 42) = W1 := ⟨_, rfl⟩
  have hb_W1 : Below w1.heap.size w1 W1 := by rw [← hW1]; exact below_new _ _
  clear x0_0 y0_0 x0_1 y0_1 x0_2 y0_2
  replace g1 := g1.to hb_W1
  replace gb := below_step gb hb_W1
  obtain ⟨x0_0, x0_1, x0_2⟩ := HXW0.out _ gb
  obtain ⟨y0_0, y0_1, y0_2⟩ := HYW0.out _ gb
  obtain z0 := HZW0.out _ gb
  have x5_0 : W1.cell? ⟨w1.heap.size, 0, none⟩ = some (.bool ng1) := by rw [← hW1]; simp [go_sem]
  have y5_0 : W1.frozen? ⟨w1.heap.size, 0, none⟩ = false := by rw [← hW1]; simp [go_sem]
  have x5_1 : W1.cell? ⟨w1.heap.size, 1, none⟩ = some (.slice a1_ n1_ c1_) := by rw [← hW1]; simp [go_sem]
  have y5_1 : W1.frozen? ⟨w1.heap.size, 1, none⟩ = false := by rw [← hW1]; simp [go_sem]
  have x5_2 : W1.cell? ⟨w1.heap.size, 2, none⟩ = some (.slice p1_ m1_ k1_) := by rw [← hW1]; simp [go_sem]
  have y5_2 : W1.frozen? ⟨w1.heap.size, 2, none⟩ = false := by rw [← hW1]; simp [go_sem]
  have z5 : w1.heap.size < W1.heap.size := by rw [← hW1]; simp
  rw [hW1]
  clear hW1
  replace i0 := i0.to gb
  replace zb := below_step zb gb
  have HXW1 := Lib.hid (show ∀ W', Below W1.heap.size W1 W' → (W'.cell? ⟨w.heap.size, 0, none⟩ = some (.bool b) ∧ W'.cell? ⟨w.heap.size, 1, none⟩ = some (.slice a0 n0 c0) ∧ W'.cell? ⟨w.heap.size, 2, none⟩ = some (.slice a1 n1 c1) ∧ W'.cell? ⟨w1.heap.size, 0, none⟩ = some (.bool ng1) ∧ W'.cell? ⟨w1.heap.size, 1, none⟩ = some (.slice a1_ n1_ c1_) ∧ W'.cell? ⟨w1.heap.size, 2, none⟩ = some (.slice p1_ m1_ k1_)) from fun W' hb =>
    ⟨(hb.cell (p := ⟨w.heap.size, 0, none⟩) z0).trans x0_0, (hb.cell (p := ⟨w.heap.size, 1, none⟩) z0).trans x0_1, (hb.cell (p := ⟨w.heap.size, 2, none⟩) z0).trans x0_2, (hb.cell (p := ⟨w1.heap.size, 0, none⟩) z5).trans x5_0, (hb.cell (p := ⟨w1.heap.size, 1, none⟩) z5).trans x5_1, (hb.cell (p := ⟨w1.heap.size, 2, none⟩) z5).trans x5_2⟩)
  have HYW1 := Lib.hid (show ∀ W', Below W1.heap.size W1 W' → (W'.frozen? ⟨w.heap.size, 0, none⟩ = false ∧ W'.frozen? ⟨w.heap.size, 1, none⟩ = false ∧ W'.frozen? ⟨w.heap.size, 2, none⟩ = false ∧ W'.frozen? ⟨w1.heap.size, 0, none⟩ = false ∧ W'.frozen? ⟨w1.heap.size, 1, none⟩ = false ∧ W'.frozen? ⟨w1.heap.size, 2, none⟩ = false) from fun W' hb =>
    ⟨(hb.frozen (p := ⟨w.heap.size, 0, none⟩) z0).trans y0_0, (hb.frozen (p := ⟨w.heap.size, 1, none⟩) z0).trans y0_1, (hb.frozen (p := ⟨w.heap.size, 2, none⟩) z0).trans y0_2, (hb.frozen (p := ⟨w1.heap.size, 0, none⟩) z5).trans y5_0, (hb.frozen (p := ⟨w1.heap.size, 1, none⟩) z5).trans y5_1, (hb.frozen (p := ⟨w1.heap.size, 2, none⟩) z5).trans y5_2⟩)
  have HZW1 := Lib.hid (show ∀ W', Below W1.heap.size W1 W' → (w.heap.size < W'.heap.size ∧ w1.heap.size < W'.heap.size) from fun W' hb =>
    ⟨Nat.lt_of_lt_of_le z0 hb.size, Nat.lt_of_lt_of_le z5 hb.size⟩)
  replace gb := Below.refl W1.heap.size W1
  go_wp2_with fail
  refine (ratio_above _ _ _ _ _ _ (g1.to gb).isQ).mono ?_
  clear x0_0 y0_0 x0_1 y0_1 x0_2 y0_2 x5_0 y5_0 x5_1 y5_1 x5_2 y5_2
  rintro e w2 ⟨rfl, hb2⟩
  replace gb := below_step gb hb2
  obtain ⟨x0_0, x0_1, x0_2, x5_0, x5_1, x5_2⟩ := HXW1.out _ gb
  obtain ⟨y0_0, y0_1, y0_2, y5_0, y5_1, y5_2⟩ := HYW1.out _ gb
  obtain ⟨z0, z5⟩ := HZW1.out _ gb
  go_wp2_with fail
  refine (print_z _ (g1.to gb).above (Nat.le_trans (g1.to gb).isQ.lup (by omega)) t Ht.out).mono ?_
  clear x0_0 y0_0 x0_1 y0_1 x0_2 y0_2 x5_0 y5_0 x5_1 y5_1 x5_2 y5_2
  rintro e w3 ⟨rfl, hb3⟩
  replace gb := below_step gb hb3
  obtain ⟨x0_0, x0_1, x0_2, x5_0, x5_1, x5_2⟩ := HXW1.out _ gb
  obtain ⟨y0_0, y0_1, y0_2, y5_0, y5_1, y5_2⟩ := HYW1.out _ gb
  obtain ⟨z0, z5⟩ := HZW1.out _ gb
  go_wp2_with fail
  go_region_held3 (fun W' => W'.cell? ⟨w.heap.size, 0, none⟩ = some (.bool b) ∧ W'.cell? ⟨w.heap.size, 1, none⟩ = some (.slice a0 n0 c0) ∧ W'.cell? ⟨w.heap.size, 2, none⟩ = some (.slice a1 n1 c1) ∧ W'.cell? ⟨w1.heap.size, 0, none⟩ = some (.bool ng1) ∧ W'.cell? ⟨w1.heap.size, 1, none⟩ = some (.slice a1_ n1_ c1_) ∧ W'.cell? ⟨w1.heap.size, 2, none⟩ = some (.slice p1_ m1_ k1_)) (first | (with_reducible exact ⟨x0_0, x0_1, x0_2, x5_0, x5_1, x5_2⟩) | exact ⟨x0_0, x0_1, x0_2, x5_0, x5_1, x5_2⟩) (first
    | (go_at_call 48; (with_reducible refine (nat_cmp_k _ _ _ _ _ (g1.to gb).isQ.dn g4.rd _ K1.out).mono ?_); rintro e w5 ⟨rfl, hb5⟩; have g4 := g4.to hb5; have gb := below_step gb hb5; obtain ⟨x0_0, x0_1, x0_2, x5_0, x5_1, x5_2⟩ := HXW1.out _ gb; obtain ⟨y0_0, y0_1, y0_2, y5_0, y5_1, y5_2⟩ := HYW1.out _ gb; obtain ⟨z0, z5⟩ := HZW1.out _ gb)
    | (go_at_call 44; have gb := gb.drew; (with_reducible refine (nat_of 1 _ (by omega) (by omega)).mono ?_); rintro e w4 ⟨v4, rfl, g4, hb4⟩; obtain ⟨a4_, n4_, c4_, rfl, H4, hm4⟩ := g4.rd.open; have gb := below_step gb hb4; obtain ⟨x0_0, x0_1, x0_2, x5_0, x5_1, x5_2⟩ := HXW1.out _ gb; obtain ⟨y0_0, y0_1, y0_2, y5_0, y5_1, y5_2⟩ := HYW1.out _ gb; obtain ⟨z0, z5⟩ := HZW1.out _ gb))
  go_wp2_with fail
  go_ret
  exact ⟨rfl, below_step zb gb⟩

set_option maxRecDepth 100000 in
set_option maxHeartbeats 8000000 in
theorem print_more {x : Rat} (b : Bool) (v u : Value) (ln ld : List Nat) (w : World) (h : IsQ w b v u ln ld x) (t : ByteArray) (ht : ba (rtext x) = t) (h1 : x.den ≠ 1) :
    Calls Tryz.prog 21 #[aggR b v u] w (fun e w' => e = .returned (.string t) ∧ Below w.heap.size w w') := by
  have Hx := isQ_sz h
  have K1 := Lib.hid (show cmpN (val (limbs x.den)) (val (limbs (1 : Int).toNat)) = 1 by rw [val_limbs, val_limbs]; exact cmp_one x.den_nz h1)
  have Hn := Lib.hid (num_text (isQ_sz h).out)
  have Hd := Lib.hid (den_text (isQ_sz h).out)
  obtain ⟨s1, hs1⟩ : ∃ s1, ba (itext x.num) = s1 := ⟨_, rfl⟩
  have Hs1 := Lib.hid hs1
  obtain ⟨s2, hs2⟩ : ∃ s2, ba (itext x.num ++ [124]) = s2 := ⟨_, rfl⟩
  have Hs2 := Lib.hid hs2
  obtain ⟨s3, hs3⟩ : ∃ s3, ba (digs x.den) = s3 := ⟨_, rfl⟩
  have Hs3 := Lib.hid (show ba (digs (val (limbs x.den))) = s3 by rw [val_limbs, hs3])
  have hadd1 : ∀ ww : World, (Op.stringOp .add s1 ⟨#[124]⟩).run Tryz.prog ww = .ok (.string s2) ww := fun ww => by
    rw [← hs1, ← hs2, show (⟨#[124]⟩ : ByteArray) = ba [124] from rfl, run_string_add_sum ww _ _ (by rw [ba_size, ba_size]; have := Hn.out; simp; omega), ba_append]
  have hadd2 : ∀ ww : World, (Op.stringOp .add s2 s3).run Tryz.prog ww = .ok (.string t) ww := fun ww => by
    rw [← hs2, ← hs3, run_string_add_sum ww _ _ (by rw [ba_size, ba_size]; have := Hn.out; have := Hd.out; simp; omega), ba_append, ← ht]
    unfold rtext
    rw [if_neg h1, List.append_assoc, List.singleton_append]
  have HA1 := Lib.hid hadd1
  have HA2 := Lib.hid hadd2
  clear hs1 hs2 hs3 hadd1 hadd2
  obtain ⟨a0, n0, c0, rfl, H0, hm0⟩ := h.1.open
  obtain ⟨a1, n1, c1, rfl, H1, hm1⟩ := h.2.1.open
  clear ht h1
  go_enter Tryz.func21, Tryz.ntmps21
  go_wp2_with fail
  obtain ⟨W0, hW0⟩ : ∃ W0, w.alloc (.cells #[.bool b, .slice a0 n0 c0, .slice a1 n1 c1] 24) = W0 := ⟨_, rfl⟩
  have HXW0 := Lib.hid (show ∀ W', Below W0.heap.size W0 W' → (W'.cell? ⟨w.heap.size, 0, none⟩ = some (.bool b) ∧ W'.cell? ⟨w.heap.size, 1, none⟩ = some (.slice a0 n0 c0) ∧ W'.cell? ⟨w.heap.size, 2, none⟩ = some (.slice a1 n1 c1)) from fun W' hb =>
    ⟨(hb.cell (p := ⟨w.heap.size, 0, none⟩) (by rw [← hW0]; simp <;> omega)).trans (by rw [← hW0]; simp [go_sem]), (hb.cell (p := ⟨w.heap.size, 1, none⟩) (by rw [← hW0]; simp <;> omega)).trans (by rw [← hW0]; simp [go_sem]), (hb.cell (p := ⟨w.heap.size, 2, none⟩) (by rw [← hW0]; simp <;> omega)).trans (by rw [← hW0]; simp [go_sem])⟩)
  have HYW0 := Lib.hid (show ∀ W', Below W0.heap.size W0 W' → (W'.frozen? ⟨w.heap.size, 0, none⟩ = false ∧ W'.frozen? ⟨w.heap.size, 1, none⟩ = false ∧ W'.frozen? ⟨w.heap.size, 2, none⟩ = false) from fun W' hb =>
    ⟨(hb.frozen (p := ⟨w.heap.size, 0, none⟩) (by rw [← hW0]; simp <;> omega)).trans (by rw [← hW0]; simp [go_sem]), (hb.frozen (p := ⟨w.heap.size, 1, none⟩) (by rw [← hW0]; simp <;> omega)).trans (by rw [← hW0]; simp [go_sem]), (hb.frozen (p := ⟨w.heap.size, 2, none⟩) (by rw [← hW0]; simp <;> omega)).trans (by rw [← hW0]; simp [go_sem])⟩)
  have HZW0 := Lib.hid (show ∀ W', Below W0.heap.size W0 W' → (w.heap.size < W'.heap.size) from fun W' hb =>
    Nat.lt_of_lt_of_le (by rw [← hW0]; simp <;> omega) hb.size)
  have zb : Below w.heap.size w W0 := by rw [← hW0]; exact below_new _ _
  rw [hW0]
  clear hW0
  have i0 := h.to zb
  have gb : Below W0.heap.size W0 W0 := Below.refl _ _
  obtain ⟨x0_0, x0_1, x0_2⟩ := HXW0.out _ gb
  obtain ⟨y0_0, y0_1, y0_2⟩ := HYW0.out _ gb
  obtain z0 := HZW0.out _ gb
  refine (ratio_of b _ _ ln ld _ (i0.to gb) Hx).mono ?_
  clear x0_0 y0_0 x0_1 y0_1 x0_2 y0_2
  rintro e w1 ⟨ng1, a1_, n1_, c1_, p1_, m1_, k1_, rfl, g1, hb1⟩
  replace gb := below_step gb hb1
  obtain ⟨x0_0, x0_1, x0_2⟩ := HXW0.out _ gb
  obtain ⟨y0_0, y0_1, y0_2⟩ := HYW0.out _ gb
  obtain z0 := HZW0.out _ gb
  go_wp2_with fail
  obtain ⟨W1, hW1⟩ : ∃ W1, w1.alloc (.cells #[.bool ng1, .slice a1_ n1_ c1_, .slice p1_ m1_ k1_] 42) = W1 := ⟨_, rfl⟩
  have hb_W1 : Below w1.heap.size w1 W1 := by rw [← hW1]; exact below_new _ _
  clear x0_0 y0_0 x0_1 y0_1 x0_2 y0_2
  replace g1 := g1.to hb_W1
  replace gb := below_step gb hb_W1
  obtain ⟨x0_0, x0_1, x0_2⟩ := HXW0.out _ gb
  obtain ⟨y0_0, y0_1, y0_2⟩ := HYW0.out _ gb
  obtain z0 := HZW0.out _ gb
  have x5_0 : W1.cell? ⟨w1.heap.size, 0, none⟩ = some (.bool ng1) := by rw [← hW1]; simp [go_sem]
  have y5_0 : W1.frozen? ⟨w1.heap.size, 0, none⟩ = false := by rw [← hW1]; simp [go_sem]
  have x5_1 : W1.cell? ⟨w1.heap.size, 1, none⟩ = some (.slice a1_ n1_ c1_) := by rw [← hW1]; simp [go_sem]
  have y5_1 : W1.frozen? ⟨w1.heap.size, 1, none⟩ = false := by rw [← hW1]; simp [go_sem]
  have x5_2 : W1.cell? ⟨w1.heap.size, 2, none⟩ = some (.slice p1_ m1_ k1_) := by rw [← hW1]; simp [go_sem]
  have y5_2 : W1.frozen? ⟨w1.heap.size, 2, none⟩ = false := by rw [← hW1]; simp [go_sem]
  have z5 : w1.heap.size < W1.heap.size := by rw [← hW1]; simp
  rw [hW1]
  clear hW1
  replace i0 := i0.to gb
  replace zb := below_step zb gb
  have HXW1 := Lib.hid (show ∀ W', Below W1.heap.size W1 W' → (W'.cell? ⟨w.heap.size, 0, none⟩ = some (.bool b) ∧ W'.cell? ⟨w.heap.size, 1, none⟩ = some (.slice a0 n0 c0) ∧ W'.cell? ⟨w.heap.size, 2, none⟩ = some (.slice a1 n1 c1) ∧ W'.cell? ⟨w1.heap.size, 0, none⟩ = some (.bool ng1) ∧ W'.cell? ⟨w1.heap.size, 1, none⟩ = some (.slice a1_ n1_ c1_) ∧ W'.cell? ⟨w1.heap.size, 2, none⟩ = some (.slice p1_ m1_ k1_)) from fun W' hb =>
    ⟨(hb.cell (p := ⟨w.heap.size, 0, none⟩) z0).trans x0_0, (hb.cell (p := ⟨w.heap.size, 1, none⟩) z0).trans x0_1, (hb.cell (p := ⟨w.heap.size, 2, none⟩) z0).trans x0_2, (hb.cell (p := ⟨w1.heap.size, 0, none⟩) z5).trans x5_0, (hb.cell (p := ⟨w1.heap.size, 1, none⟩) z5).trans x5_1, (hb.cell (p := ⟨w1.heap.size, 2, none⟩) z5).trans x5_2⟩)
  have HYW1 := Lib.hid (show ∀ W', Below W1.heap.size W1 W' → (W'.frozen? ⟨w.heap.size, 0, none⟩ = false ∧ W'.frozen? ⟨w.heap.size, 1, none⟩ = false ∧ W'.frozen? ⟨w.heap.size, 2, none⟩ = false ∧ W'.frozen? ⟨w1.heap.size, 0, none⟩ = false ∧ W'.frozen? ⟨w1.heap.size, 1, none⟩ = false ∧ W'.frozen? ⟨w1.heap.size, 2, none⟩ = false) from fun W' hb =>
    ⟨(hb.frozen (p := ⟨w.heap.size, 0, none⟩) z0).trans y0_0, (hb.frozen (p := ⟨w.heap.size, 1, none⟩) z0).trans y0_1, (hb.frozen (p := ⟨w.heap.size, 2, none⟩) z0).trans y0_2, (hb.frozen (p := ⟨w1.heap.size, 0, none⟩) z5).trans y5_0, (hb.frozen (p := ⟨w1.heap.size, 1, none⟩) z5).trans y5_1, (hb.frozen (p := ⟨w1.heap.size, 2, none⟩) z5).trans y5_2⟩)
  have HZW1 := Lib.hid (show ∀ W', Below W1.heap.size W1 W' → (w.heap.size < W'.heap.size ∧ w1.heap.size < W'.heap.size) from fun W' hb =>
    ⟨Nat.lt_of_lt_of_le z0 hb.size, Nat.lt_of_lt_of_le z5 hb.size⟩)
  replace gb := Below.refl W1.heap.size W1
  go_wp2_with fail
  refine (ratio_above _ _ _ _ _ _ (g1.to gb).isQ).mono ?_
  clear x0_0 y0_0 x0_1 y0_1 x0_2 y0_2 x5_0 y5_0 x5_1 y5_1 x5_2 y5_2
  rintro e w2 ⟨rfl, hb2⟩
  replace gb := below_step gb hb2
  obtain ⟨x0_0, x0_1, x0_2, x5_0, x5_1, x5_2⟩ := HXW1.out _ gb
  obtain ⟨y0_0, y0_1, y0_2, y5_0, y5_1, y5_2⟩ := HYW1.out _ gb
  obtain ⟨z0, z5⟩ := HZW1.out _ gb
  go_wp2_with fail
  refine (print_z _ (g1.to gb).above (Nat.le_trans (g1.to gb).isQ.lup (by omega)) s1 Hs1.out).mono ?_
  clear x0_0 y0_0 x0_1 y0_1 x0_2 y0_2 x5_0 y5_0 x5_1 y5_1 x5_2 y5_2
  rintro e w3 ⟨rfl, hb3⟩
  replace gb := below_step gb hb3
  obtain ⟨x0_0, x0_1, x0_2, x5_0, x5_1, x5_2⟩ := HXW1.out _ gb
  obtain ⟨y0_0, y0_1, y0_2, y5_0, y5_1, y5_2⟩ := HYW1.out _ gb
  obtain ⟨z0, z5⟩ := HZW1.out _ gb
  go_wp2_with fail
  go_region_held3 (fun W' => W'.cell? ⟨w.heap.size, 0, none⟩ = some (.bool b) ∧ W'.cell? ⟨w.heap.size, 1, none⟩ = some (.slice a0 n0 c0) ∧ W'.cell? ⟨w.heap.size, 2, none⟩ = some (.slice a1 n1 c1) ∧ W'.cell? ⟨w1.heap.size, 0, none⟩ = some (.bool ng1) ∧ W'.cell? ⟨w1.heap.size, 1, none⟩ = some (.slice a1_ n1_ c1_) ∧ W'.cell? ⟨w1.heap.size, 2, none⟩ = some (.slice p1_ m1_ k1_)) (first | (with_reducible exact ⟨x0_0, x0_1, x0_2, x5_0, x5_1, x5_2⟩) | exact ⟨x0_0, x0_1, x0_2, x5_0, x5_1, x5_2⟩) (first
    | (go_at_call 48; (with_reducible refine (nat_cmp_k _ _ _ _ _ (g1.to gb).isQ.dn g4.rd _ K1.out).mono ?_); rintro e w5 ⟨rfl, hb5⟩; have g4 := g4.to hb5; have gb := below_step gb hb5; obtain ⟨x0_0, x0_1, x0_2, x5_0, x5_1, x5_2⟩ := HXW1.out _ gb; obtain ⟨y0_0, y0_1, y0_2, y5_0, y5_1, y5_2⟩ := HYW1.out _ gb; obtain ⟨z0, z5⟩ := HZW1.out _ gb)
    | (go_at_call 44; have gb := gb.drew; (with_reducible refine (nat_of 1 _ (by omega) (by omega)).mono ?_); rintro e w4 ⟨v4, rfl, g4, hb4⟩; obtain ⟨a4_, n4_, c4_, rfl, H4, hm4⟩ := g4.rd.open; have gb := below_step gb hb4; obtain ⟨x0_0, x0_1, x0_2, x5_0, x5_1, x5_2⟩ := HXW1.out _ gb; obtain ⟨y0_0, y0_1, y0_2, y5_0, y5_1, y5_2⟩ := HYW1.out _ gb; obtain ⟨z0, z5⟩ := HZW1.out _ gb))
  obtain ⟨x0_0, x0_1, x0_2, x5_0, x5_1, x5_2⟩ := HXW1.out _ gb
  obtain ⟨y0_0, y0_1, y0_2, y5_0, y5_1, y5_2⟩ := HYW1.out _ gb
  obtain ⟨z0, z5⟩ := HZW1.out _ gb
  have hadd1 := HA1.out
  have hadd2 := HA2.out
  go_wp2_with fail
  refine (deci_print _ _ _ (g1.to gb).isQ.dn (Nat.le_trans (g1.to gb).isQ.ldn (by omega))).mono ?_
  clear x0_0 y0_0 x0_1 y0_1 x0_2 y0_2 x5_0 y5_0 x5_1 y5_1 x5_2 y5_2
  rintro e w6 ⟨rfl, hb6⟩
  replace g4 := g4.to hb6
  replace gb := below_step gb hb6
  obtain ⟨x0_0, x0_1, x0_2, x5_0, x5_1, x5_2⟩ := HXW1.out _ gb
  obtain ⟨y0_0, y0_1, y0_2, y5_0, y5_1, y5_2⟩ := HYW1.out _ gb
  obtain ⟨z0, z5⟩ := HZW1.out _ gb
  rw [Hs3.out]
  go_wp2_with fail
  go_ret
  exact ⟨rfl, below_step zb gb⟩

theorem ratio_print {x : Rat} (b : Bool) (v u : Value) (ln ld : List Nat) (w : World) (h : IsQ w b v u ln ld x) (t : ByteArray) (ht : ba (rtext x) = t) :
    Calls Tryz.prog 21 #[aggR b v u] w (fun e w' => e = .returned (.string t) ∧ Below w.heap.size w w') := by
  by_cases h1 : x.den = 1
  · exact print_one b v u ln ld w h t ht h1
  · exact print_more b v u ln ld w h t ht h1


end Go.Proofs.YtmjnlpanlgmdmaaGreat


namespace Go.Proofs.YtmjnlpanlgmdmaaGreat
open Go.RowKit Tw
set_option linter.unusedVariables false
set_option linter.unusedSimpArgs false
attribute [local go_sem ↓] Go.wp_at_zero Go.wp_at_succ

end Go.Proofs.YtmjnlpanlgmdmaaGreat


namespace Go.Proofs.YtmjnlpanlgmdmaaGreat
open Go.RowKit Tw
set_option linter.unusedVariables false
set_option linter.unusedSimpArgs false
attribute [local go_sem ↓] Go.wp_at_zero Go.wp_at_succ

end Go.Proofs.YtmjnlpanlgmdmaaGreat


namespace Go.Proofs.YtmjnlpanlgmdmaaGreat
open Go.RowKit Tw
set_option linter.unusedVariables false
set_option linter.unusedSimpArgs false

def GivesF (w : World) (ng : Bool) (ln ld : List Nat) (k : Int) (e : Ending) (w' : World) : Prop :=
  ∃ a n c a' n' c', e = .returned (.tuple #[aggR ng (.slice a n c) (.slice a' n' c'), .int .i64 k]) ∧ IsF w' (.slice a n c) (.slice a' n' c') ln ld ∧ Below w.heap.size w w'

theorem givesF {w : World} {q : Rat} {e : Ending} {w' : World} (h : GivesQK w q e w') : GivesF w (decide (q < 0)) (limbs q.num.natAbs) (limbs q.den) 0 e w' := by
  obtain ⟨ng, a, n, c, a', n', c', rfl, g, hb⟩ := h
  exact ⟨a, n, c, a', n', c', by rw [g.ng], g.isF, hb⟩

theorem givesF_no {w : World} {k : Int} {e : Ending} {w' : World} (h : e = .returned (.tuple #[aggR false (.slice none 0 0) (.slice none 0 0), .int .i64 k]) ∧ Below w.heap.size w w') : GivesF w false [] [] k e w' :=
  ⟨none, 0, 0, none, 0, 0, h.1, ⟨Rd.nil _, Rd.nil _⟩, h.2⟩

theorem equal_q {lo hi lo' hi' : Nat} {b c : Bool} {v u v' u' : Value} {x : Rat} (w : World) (g : CanQ lo hi w b v u x) (g' : CanQ lo' hi' w c v' u' x) :
    Calls Tryz.prog 9 #[aggR b v u, aggR c v' u'] w fun e w' => e = .returned (.bool true) ∧ Below w.heap.size w w' :=
  ref8_equal b v u _ _ c v' u' _ _ w g.isF g'.isF true (by rw [← g.ng, ← g'.ng]; simp)

theorem equal_f {b : Bool} {v u v' u' : Value} {ln ld : List Nat} (w : World) (g : IsF w v u ln ld) (g' : IsF w v' u' ln ld) :
    Calls Tryz.prog 9 #[aggR b v u, aggR b v' u'] w fun e w' => e = .returned (.bool true) ∧ Below w.heap.size w w' :=
  ref8_equal b v u _ _ b v' u' _ _ w g g' true (by simp)

theorem dval_sz {l : List Nat} (h : OkText l) : sz (dval l) ≤ l.length := by
  have h2 := dval_lt h.2.1
  have h3 : (10 : Nat) ^ l.length ≤ B ^ l.length := Nat.pow_le_pow_left (by rw [B_eq]; omega) _
  exact sz_le (Nat.lt_of_lt_of_le h2 h3)

theorem pz_sz {l : List Nat} : szi (pz l) ≤ l.length := by
  unfold pz
  split
  · rename_i hok
    rw [szi_sgn]
    have h1 := body_len l
    have := dval_sz hok
    omega
  · have : szi 0 = 0 := by decide +kernel
    omega

theorem szq_mk (z : Int) (d : Nat) : szq (mkRat z d) ≤ max 1 (max (szi z) (sz d)) := by
  rw [mkRat_sgn]; exact szq_rat _ _ _

theorem itext_no (z : Int) : ∀ c ∈ itext z, (c != 124) = true := by
  intro c hc
  have hd : ∀ c ∈ digs z.natAbs, (c != 124) = true := fun c hc => by
    have := digs_dig _ c hc
    have h1 := this.1
    have h2 := this.2
    simp; omega
  unfold itext at hc
  split at hc
  · rcases List.mem_cons.1 hc with rfl | hc
    · rfl
    · exact hd c hc
  · exact hd c hc

theorem hd1_bar {l m : List Nat} (h : ∀ c ∈ l, (c != 124) = true) : hd1 (l ++ 124 :: m) = l ∧ tl1 (l ++ 124 :: m) = m ∧ has1 (l ++ 124 :: m) = true := by
  induction l with
  | nil => exact ⟨rfl, rfl, rfl⟩
  | cons c l ih =>
    obtain ⟨h1, h2, h3⟩ := ih fun c hc => h c (by simp [hc])
    have hc := h c (by simp)
    refine ⟨?_, ?_, ?_⟩
    · show hd1 (c :: (l ++ 124 :: m)) = _
      unfold hd1
      rw [List.takeWhile_cons, if_pos hc]
      exact congrArg _ h1
    · show tl1 (c :: (l ++ 124 :: m)) = _
      unfold tl1
      rw [List.dropWhile_cons, if_pos hc]
      exact h2
    · show has1 (c :: (l ++ 124 :: m)) = _
      unfold has1 at *
      rw [List.any_cons, h3, Bool.or_true]

theorem bs_ba_digs (n : Nat) : bs (ba (digs n)) = digs n := bs_ba (dig_lt (digs_dig n))

theorem parse_frac (s : ByteArray) (w : World) (hs : s.size ≤ 900) (z : Int) (d : Nat) (hb : bs s = itext z ++ 124 :: digs d) (d0 : d ≠ 0) (q : Rat) (hq : mkRat z d = q) :
    Calls Tryz.prog 18 #[.string s] w (GivesQK w q) := by
  obtain ⟨h1, h2, h3⟩ := @hd1_bar (itext z) (digs d) (itext_no z)
  rw [← hb] at h1 h2 h3
  have hl := bs_length s
  have hl2 := congrArg List.length hb
  rw [List.length_append, List.length_cons, hl] at hl2
  have p1 : pz (bs (ba (itext z))) = z := by rw [bs_itext, pz_itext]
  have p2 : pk (bs (ba (itext z))) = 0 := by rw [bs_itext, pk_itext]
  have p3 : bs (ba (digs d)) = digs d := bs_ba_digs d
  have p4 : dval (bs (ba (digs d))) = d := by rw [p3, dval_digs]
  have z1 : szi z ≤ 900 := by have := @pz_sz (itext z); rw [pz_itext] at this; omega
  have d1 : sz d ≤ 900 := by have := dval_sz (okText_digs d); rw [dval_digs] at this; omega
  have hq1 : szq q ≤ 1000 := by rw [← hq]; have := szq_mk z d; omega
  exact parse_bar s w (by omega) (ba (itext z)) (ba (digs d)) true (by rw [h1]) (by rw [h2]) h3 z 0 p1 p2 rfl rfl (by rw [p3]; exact okText_digs d) (by rw [p4]; exact d0) q (by rw [p4]; exact hq) hq1 (by omega) (by rw [p4]; omega)

end Go.Proofs.YtmjnlpanlgmdmaaGreat


namespace Go.Proofs.YtmjnlpanlgmdmaaGreat
open Go.RowKit Tw
set_option linter.unusedVariables false
set_option linter.unusedSimpArgs false
attribute [local go_sem ↓] Go.wp_at_zero Go.wp_at_succ

set_option maxRecDepth 100000 in
set_option maxHeartbeats 20000000 in
theorem awake8  (w : World)  :
    Calls Tryz.prog 4 #[] w (Holds w) := by
  have B1 := Lib.hid (show bs ⟨#[49, 124, 50]⟩ = itext 1 ++ 124 :: digs 2 by decide +kernel)
  have B2 := Lib.hid (show bs ⟨#[49, 124, 51]⟩ = itext 1 ++ 124 :: digs 3 by decide +kernel)
  have B3 := Lib.hid (show bs ⟨#[45, 52, 124, 54]⟩ = itext (-4) ++ 124 :: digs 6 by decide +kernel)
  obtain ⟨x, hx⟩ : ∃ x, mkRat 1 2 = x := ⟨_, rfl⟩
  obtain ⟨y, hy⟩ : ∃ x, mkRat 1 3 = x := ⟨_, rfl⟩
  obtain ⟨z, hz⟩ : ∃ x, mkRat (-4) 6 = x := ⟨_, rfl⟩
  have HX := Lib.hid hx
  have HY := Lib.hid hy
  have HZ := Lib.hid hz
  have T1 := Lib.hid (show ba (rtext (x + y)) = ⟨#[53, 124, 54]⟩ by rw [← hx, ← hy]; decide +kernel)
  have T2 := Lib.hid (show ba (rtext z) = ⟨#[45, 50, 124, 51]⟩ by rw [← hz]; decide +kernel)
  have T3 := Lib.hid (show ba (rtext ((-z) ^ (-(-2 : Int)).toNat)⁻¹) = ⟨#[57, 124, 52]⟩ by rw [← hz]; decide +kernel)
  have N1 := Lib.hid (show -z ≠ 0 by rw [← hz]; decide +kernel)
  have S1 : Hid (szq (x + y) ≤ 1000) := by show _ ≤ _; rw [← hx, ← hy]; decide +kernel
  have S2 : Hid (szq (-z) ≤ 1000) := by show _ ≤ _; rw [← hz]; decide +kernel
  have S3 := Lib.hid (show szq (-z) * (-(-2 : Int)).toNat ≤ 999 by rw [← hz]; decide +kernel)
  clear hx hy hz
  go_enter Tryz.func4, Tryz.ntmps4
  go_wp2_with fail
  obtain ⟨W0, hW0⟩ : ∃ W0, w = W0 := ⟨_, rfl⟩
  have zb : Below w.heap.size w W0 := by rw [← hW0]; exact Below.refl _ _
  subst hW0
  
  have gb : Below w.heap.size w w := Below.refl _ _
  
  refine (parse_frac ⟨#[49, 124, 50]⟩ _ (by decide) 1 2 B1.out (by omega) x HX.out).mono ?_
  rintro e w1 ⟨ng1, a1_, n1_, c1_, p1_, m1_, k1_, rfl, g1, hb1⟩
  replace gb := below_step gb hb1
  go_wp2_with fail
  obtain ⟨W1, hW1⟩ : ∃ W1, w1.alloc (.cells #[.bool ng1, .slice a1_ n1_ c1_, .slice p1_ m1_ k1_] 24) = W1 := ⟨_, rfl⟩
  have hb_W1 : Below w1.heap.size w1 W1 := by rw [← hW1]; exact below_new _ _
  have hs_W1 : Hid (W1.heap.size = w1.heap.size + 1) := by show _ = _; rw [← hW1]; simp
  replace g1 := g1.to hb_W1
  replace gb := below_step gb hb_W1
  have x1_0 : W1.cell? ⟨w1.heap.size, 0, none⟩ = some (.bool ng1) := by rw [← hW1]; simp [go_sem]
  have y1_0 : W1.frozen? ⟨w1.heap.size, 0, none⟩ = false := by rw [← hW1]; simp [go_sem]
  have x1_1 : W1.cell? ⟨w1.heap.size, 1, none⟩ = some (.slice a1_ n1_ c1_) := by rw [← hW1]; simp [go_sem]
  have y1_1 : W1.frozen? ⟨w1.heap.size, 1, none⟩ = false := by rw [← hW1]; simp [go_sem]
  have x1_2 : W1.cell? ⟨w1.heap.size, 2, none⟩ = some (.slice p1_ m1_ k1_) := by rw [← hW1]; simp [go_sem]
  have y1_2 : W1.frozen? ⟨w1.heap.size, 2, none⟩ = false := by rw [← hW1]; simp [go_sem]
  have z1 : w1.heap.size < W1.heap.size := by rw [← hW1]; simp
  rw [hW1]
  clear hW1
  replace zb := below_step zb gb
  have HXW1 := Lib.hid (show ∀ W', Below W1.heap.size W1 W' → (W'.cell? ⟨w1.heap.size, 0, none⟩ = some (.bool ng1) ∧ W'.cell? ⟨w1.heap.size, 1, none⟩ = some (.slice a1_ n1_ c1_) ∧ W'.cell? ⟨w1.heap.size, 2, none⟩ = some (.slice p1_ m1_ k1_)) from fun W' hb =>
    ⟨(hb.cell (p := ⟨w1.heap.size, 0, none⟩) z1).trans x1_0, (hb.cell (p := ⟨w1.heap.size, 1, none⟩) z1).trans x1_1, (hb.cell (p := ⟨w1.heap.size, 2, none⟩) z1).trans x1_2⟩)
  have HYW1 := Lib.hid (show ∀ W', Below W1.heap.size W1 W' → (W'.frozen? ⟨w1.heap.size, 0, none⟩ = false ∧ W'.frozen? ⟨w1.heap.size, 1, none⟩ = false ∧ W'.frozen? ⟨w1.heap.size, 2, none⟩ = false) from fun W' hb =>
    ⟨(hb.frozen (p := ⟨w1.heap.size, 0, none⟩) z1).trans y1_0, (hb.frozen (p := ⟨w1.heap.size, 1, none⟩) z1).trans y1_1, (hb.frozen (p := ⟨w1.heap.size, 2, none⟩) z1).trans y1_2⟩)
  have HZW1 := Lib.hid (show ∀ W', Below W1.heap.size W1 W' → (w1.heap.size < W'.heap.size) from fun W' hb =>
    Nat.lt_of_lt_of_le z1 hb.size)
  replace gb := Below.refl W1.heap.size W1
  go_wp2_with fail
  refine (parse_frac ⟨#[49, 124, 51]⟩ _ (by decide) 1 3 B2.out (by omega) y HY.out).mono ?_
  clear x1_0 y1_0 x1_1 y1_1 x1_2 y1_2
  rintro e w2 ⟨ng2, a2_, n2_, c2_, p2_, m2_, k2_, rfl, g2, hb2⟩
  replace gb := below_step gb hb2
  obtain ⟨x1_0, x1_1, x1_2⟩ := HXW1.out _ gb
  obtain ⟨y1_0, y1_1, y1_2⟩ := HYW1.out _ gb
  obtain z1 := HZW1.out _ gb
  go_wp2_with fail
  obtain ⟨W2, hW2⟩ : ∃ W2, w2.alloc (.cells #[.bool ng2, .slice a2_ n2_ c2_, .slice p2_ m2_ k2_] 24) = W2 := ⟨_, rfl⟩
  have hb_W2 : Below w2.heap.size w2 W2 := by rw [← hW2]; exact below_new _ _
  have hs_W2 : Hid (W2.heap.size = w2.heap.size + 1) := by show _ = _; rw [← hW2]; simp
  clear x1_0 y1_0 x1_1 y1_1 x1_2 y1_2
  replace g2 := g2.to hb_W2
  replace gb := below_step gb hb_W2
  obtain ⟨x1_0, x1_1, x1_2⟩ := HXW1.out _ gb
  obtain ⟨y1_0, y1_1, y1_2⟩ := HYW1.out _ gb
  obtain z1 := HZW1.out _ gb
  have x3_0 : W2.cell? ⟨w2.heap.size, 0, none⟩ = some (.bool ng2) := by rw [← hW2]; simp [go_sem]
  have y3_0 : W2.frozen? ⟨w2.heap.size, 0, none⟩ = false := by rw [← hW2]; simp [go_sem]
  have x3_1 : W2.cell? ⟨w2.heap.size, 1, none⟩ = some (.slice a2_ n2_ c2_) := by rw [← hW2]; simp [go_sem]
  have y3_1 : W2.frozen? ⟨w2.heap.size, 1, none⟩ = false := by rw [← hW2]; simp [go_sem]
  have x3_2 : W2.cell? ⟨w2.heap.size, 2, none⟩ = some (.slice p2_ m2_ k2_) := by rw [← hW2]; simp [go_sem]
  have y3_2 : W2.frozen? ⟨w2.heap.size, 2, none⟩ = false := by rw [← hW2]; simp [go_sem]
  have z3 : w2.heap.size < W2.heap.size := by rw [← hW2]; simp
  rw [hW2]
  clear hW2
  replace g1 := g1.to gb
  replace zb := below_step zb gb
  have HXW2 := Lib.hid (show ∀ W', Below W2.heap.size W2 W' → (W'.cell? ⟨w1.heap.size, 0, none⟩ = some (.bool ng1) ∧ W'.cell? ⟨w1.heap.size, 1, none⟩ = some (.slice a1_ n1_ c1_) ∧ W'.cell? ⟨w1.heap.size, 2, none⟩ = some (.slice p1_ m1_ k1_) ∧ W'.cell? ⟨w2.heap.size, 0, none⟩ = some (.bool ng2) ∧ W'.cell? ⟨w2.heap.size, 1, none⟩ = some (.slice a2_ n2_ c2_) ∧ W'.cell? ⟨w2.heap.size, 2, none⟩ = some (.slice p2_ m2_ k2_)) from fun W' hb =>
    ⟨(hb.cell (p := ⟨w1.heap.size, 0, none⟩) z1).trans x1_0, (hb.cell (p := ⟨w1.heap.size, 1, none⟩) z1).trans x1_1, (hb.cell (p := ⟨w1.heap.size, 2, none⟩) z1).trans x1_2, (hb.cell (p := ⟨w2.heap.size, 0, none⟩) z3).trans x3_0, (hb.cell (p := ⟨w2.heap.size, 1, none⟩) z3).trans x3_1, (hb.cell (p := ⟨w2.heap.size, 2, none⟩) z3).trans x3_2⟩)
  have HYW2 := Lib.hid (show ∀ W', Below W2.heap.size W2 W' → (W'.frozen? ⟨w1.heap.size, 0, none⟩ = false ∧ W'.frozen? ⟨w1.heap.size, 1, none⟩ = false ∧ W'.frozen? ⟨w1.heap.size, 2, none⟩ = false ∧ W'.frozen? ⟨w2.heap.size, 0, none⟩ = false ∧ W'.frozen? ⟨w2.heap.size, 1, none⟩ = false ∧ W'.frozen? ⟨w2.heap.size, 2, none⟩ = false) from fun W' hb =>
    ⟨(hb.frozen (p := ⟨w1.heap.size, 0, none⟩) z1).trans y1_0, (hb.frozen (p := ⟨w1.heap.size, 1, none⟩) z1).trans y1_1, (hb.frozen (p := ⟨w1.heap.size, 2, none⟩) z1).trans y1_2, (hb.frozen (p := ⟨w2.heap.size, 0, none⟩) z3).trans y3_0, (hb.frozen (p := ⟨w2.heap.size, 1, none⟩) z3).trans y3_1, (hb.frozen (p := ⟨w2.heap.size, 2, none⟩) z3).trans y3_2⟩)
  have HZW2 := Lib.hid (show ∀ W', Below W2.heap.size W2 W' → (w1.heap.size < W'.heap.size ∧ w2.heap.size < W'.heap.size) from fun W' hb =>
    ⟨Nat.lt_of_lt_of_le z1 hb.size, Nat.lt_of_lt_of_le z3 hb.size⟩)
  replace gb := Below.refl W2.heap.size W2
  go_wp2_with fail
  refine (parse_frac ⟨#[45, 52, 124, 54]⟩ _ (by decide) (-4) 6 B3.out (by omega) z HZ.out).mono ?_
  clear x1_0 y1_0 x1_1 y1_1 x1_2 y1_2 x3_0 y3_0 x3_1 y3_1 x3_2 y3_2
  rintro e w3 ⟨ng3, a3_, n3_, c3_, p3_, m3_, k3_, rfl, g3, hb3⟩
  replace gb := below_step gb hb3
  obtain ⟨x1_0, x1_1, x1_2, x3_0, x3_1, x3_2⟩ := HXW2.out _ gb
  obtain ⟨y1_0, y1_1, y1_2, y3_0, y3_1, y3_2⟩ := HYW2.out _ gb
  obtain ⟨z1, z3⟩ := HZW2.out _ gb
  go_wp2_with fail
  obtain ⟨W3, hW3⟩ : ∃ W3, w3.alloc (.cells #[.bool ng3, .slice a3_ n3_ c3_, .slice p3_ m3_ k3_] 24) = W3 := ⟨_, rfl⟩
  have hb_W3 : Below w3.heap.size w3 W3 := by rw [← hW3]; exact below_new _ _
  have hs_W3 : Hid (W3.heap.size = w3.heap.size + 1) := by show _ = _; rw [← hW3]; simp
  clear x1_0 y1_0 x1_1 y1_1 x1_2 y1_2 x3_0 y3_0 x3_1 y3_1 x3_2 y3_2
  replace g3 := g3.to hb_W3
  replace gb := below_step gb hb_W3
  obtain ⟨x1_0, x1_1, x1_2, x3_0, x3_1, x3_2⟩ := HXW2.out _ gb
  obtain ⟨y1_0, y1_1, y1_2, y3_0, y3_1, y3_2⟩ := HYW2.out _ gb
  obtain ⟨z1, z3⟩ := HZW2.out _ gb
  have x5_0 : W3.cell? ⟨w3.heap.size, 0, none⟩ = some (.bool ng3) := by rw [← hW3]; simp [go_sem]
  have y5_0 : W3.frozen? ⟨w3.heap.size, 0, none⟩ = false := by rw [← hW3]; simp [go_sem]
  have x5_1 : W3.cell? ⟨w3.heap.size, 1, none⟩ = some (.slice a3_ n3_ c3_) := by rw [← hW3]; simp [go_sem]
  have y5_1 : W3.frozen? ⟨w3.heap.size, 1, none⟩ = false := by rw [← hW3]; simp [go_sem]
  have x5_2 : W3.cell? ⟨w3.heap.size, 2, none⟩ = some (.slice p3_ m3_ k3_) := by rw [← hW3]; simp [go_sem]
  have y5_2 : W3.frozen? ⟨w3.heap.size, 2, none⟩ = false := by rw [← hW3]; simp [go_sem]
  have z5 : w3.heap.size < W3.heap.size := by rw [← hW3]; simp
  rw [hW3]
  clear hW3
  replace g1 := g1.to gb
  replace g2 := g2.to gb
  replace zb := below_step zb gb
  have HXW3 := Lib.hid (show ∀ W', Below W3.heap.size W3 W' → (W'.cell? ⟨w1.heap.size, 0, none⟩ = some (.bool ng1) ∧ W'.cell? ⟨w1.heap.size, 1, none⟩ = some (.slice a1_ n1_ c1_) ∧ W'.cell? ⟨w1.heap.size, 2, none⟩ = some (.slice p1_ m1_ k1_) ∧ W'.cell? ⟨w2.heap.size, 0, none⟩ = some (.bool ng2) ∧ W'.cell? ⟨w2.heap.size, 1, none⟩ = some (.slice a2_ n2_ c2_) ∧ W'.cell? ⟨w2.heap.size, 2, none⟩ = some (.slice p2_ m2_ k2_) ∧ W'.cell? ⟨w3.heap.size, 0, none⟩ = some (.bool ng3) ∧ W'.cell? ⟨w3.heap.size, 1, none⟩ = some (.slice a3_ n3_ c3_) ∧ W'.cell? ⟨w3.heap.size, 2, none⟩ = some (.slice p3_ m3_ k3_)) from fun W' hb =>
    ⟨(hb.cell (p := ⟨w1.heap.size, 0, none⟩) z1).trans x1_0, (hb.cell (p := ⟨w1.heap.size, 1, none⟩) z1).trans x1_1, (hb.cell (p := ⟨w1.heap.size, 2, none⟩) z1).trans x1_2, (hb.cell (p := ⟨w2.heap.size, 0, none⟩) z3).trans x3_0, (hb.cell (p := ⟨w2.heap.size, 1, none⟩) z3).trans x3_1, (hb.cell (p := ⟨w2.heap.size, 2, none⟩) z3).trans x3_2, (hb.cell (p := ⟨w3.heap.size, 0, none⟩) z5).trans x5_0, (hb.cell (p := ⟨w3.heap.size, 1, none⟩) z5).trans x5_1, (hb.cell (p := ⟨w3.heap.size, 2, none⟩) z5).trans x5_2⟩)
  have HYW3 := Lib.hid (show ∀ W', Below W3.heap.size W3 W' → (W'.frozen? ⟨w1.heap.size, 0, none⟩ = false ∧ W'.frozen? ⟨w1.heap.size, 1, none⟩ = false ∧ W'.frozen? ⟨w1.heap.size, 2, none⟩ = false ∧ W'.frozen? ⟨w2.heap.size, 0, none⟩ = false ∧ W'.frozen? ⟨w2.heap.size, 1, none⟩ = false ∧ W'.frozen? ⟨w2.heap.size, 2, none⟩ = false ∧ W'.frozen? ⟨w3.heap.size, 0, none⟩ = false ∧ W'.frozen? ⟨w3.heap.size, 1, none⟩ = false ∧ W'.frozen? ⟨w3.heap.size, 2, none⟩ = false) from fun W' hb =>
    ⟨(hb.frozen (p := ⟨w1.heap.size, 0, none⟩) z1).trans y1_0, (hb.frozen (p := ⟨w1.heap.size, 1, none⟩) z1).trans y1_1, (hb.frozen (p := ⟨w1.heap.size, 2, none⟩) z1).trans y1_2, (hb.frozen (p := ⟨w2.heap.size, 0, none⟩) z3).trans y3_0, (hb.frozen (p := ⟨w2.heap.size, 1, none⟩) z3).trans y3_1, (hb.frozen (p := ⟨w2.heap.size, 2, none⟩) z3).trans y3_2, (hb.frozen (p := ⟨w3.heap.size, 0, none⟩) z5).trans y5_0, (hb.frozen (p := ⟨w3.heap.size, 1, none⟩) z5).trans y5_1, (hb.frozen (p := ⟨w3.heap.size, 2, none⟩) z5).trans y5_2⟩)
  have HZW3 := Lib.hid (show ∀ W', Below W3.heap.size W3 W' → (w1.heap.size < W'.heap.size ∧ w2.heap.size < W'.heap.size ∧ w3.heap.size < W'.heap.size) from fun W' hb =>
    ⟨Nat.lt_of_lt_of_le z1 hb.size, Nat.lt_of_lt_of_le z3 hb.size, Nat.lt_of_lt_of_le z5 hb.size⟩)
  replace gb := Below.refl W3.heap.size W3
  go_wp2_with fail
  refine (ratio_neg _ _ _ _ _ _ (g3.to gb).isQ (-z) rfl S2).mono ?_
  clear x1_0 y1_0 x1_1 y1_1 x1_2 y1_2 x3_0 y3_0 x3_1 y3_1 x3_2 y3_2 x5_0 y5_0 x5_1 y5_1 x5_2 y5_2
  rintro e w4 ⟨ng4, a4_, n4_, c4_, p4_, m4_, k4_, rfl, g4, hb4⟩
  replace gb := below_step gb hb4
  obtain ⟨x1_0, x1_1, x1_2, x3_0, x3_1, x3_2, x5_0, x5_1, x5_2⟩ := HXW3.out _ gb
  obtain ⟨y1_0, y1_1, y1_2, y3_0, y3_1, y3_2, y5_0, y5_1, y5_2⟩ := HYW3.out _ gb
  obtain ⟨z1, z3, z5⟩ := HZW3.out _ gb
  go_wp2_with fail
  refine (pow_neg _ _ _ _ _ (-2) _ g4.isQ (by omega) (by omega) N1.out S3.out).mono ?_
  clear x1_0 y1_0 x1_1 y1_1 x1_2 y1_2 x3_0 y3_0 x3_1 y3_1 x3_2 y3_2 x5_0 y5_0 x5_1 y5_1 x5_2 y5_2
  rintro e w5 ⟨ng5, a5_, n5_, c5_, p5_, m5_, k5_, rfl, g5, hb5⟩
  replace g4 := g4.to hb5
  replace gb := below_step gb hb5
  obtain ⟨x1_0, x1_1, x1_2, x3_0, x3_1, x3_2, x5_0, x5_1, x5_2⟩ := HXW3.out _ gb
  obtain ⟨y1_0, y1_1, y1_2, y3_0, y3_1, y3_2, y5_0, y5_1, y5_2⟩ := HYW3.out _ gb
  obtain ⟨z1, z3, z5⟩ := HZW3.out _ gb
  go_wp2_with fail
  obtain ⟨W5, hW5⟩ : ∃ W5, w5.alloc (.cells #[.bool ng5, .slice a5_ n5_ c5_, .slice p5_ m5_ k5_] 24) = W5 := ⟨_, rfl⟩
  have hb_W5 : Below w5.heap.size w5 W5 := by rw [← hW5]; exact below_new _ _
  have hs_W5 : Hid (W5.heap.size = w5.heap.size + 1) := by show _ = _; rw [← hW5]; simp
  clear x1_0 y1_0 x1_1 y1_1 x1_2 y1_2 x3_0 y3_0 x3_1 y3_1 x3_2 y3_2 x5_0 y5_0 x5_1 y5_1 x5_2 y5_2
  replace g4 := g4.to hb_W5
  replace g5 := g5.to hb_W5
  replace gb := below_step gb hb_W5
  obtain ⟨x1_0, x1_1, x1_2, x3_0, x3_1, x3_2, x5_0, x5_1, x5_2⟩ := HXW3.out _ gb
  obtain ⟨y1_0, y1_1, y1_2, y3_0, y3_1, y3_2, y5_0, y5_1, y5_2⟩ := HYW3.out _ gb
  obtain ⟨z1, z3, z5⟩ := HZW3.out _ gb
  have x7_0 : W5.cell? ⟨w5.heap.size, 0, none⟩ = some (.bool ng5) := by rw [← hW5]; simp [go_sem]
  have y7_0 : W5.frozen? ⟨w5.heap.size, 0, none⟩ = false := by rw [← hW5]; simp [go_sem]
  have x7_1 : W5.cell? ⟨w5.heap.size, 1, none⟩ = some (.slice a5_ n5_ c5_) := by rw [← hW5]; simp [go_sem]
  have y7_1 : W5.frozen? ⟨w5.heap.size, 1, none⟩ = false := by rw [← hW5]; simp [go_sem]
  have x7_2 : W5.cell? ⟨w5.heap.size, 2, none⟩ = some (.slice p5_ m5_ k5_) := by rw [← hW5]; simp [go_sem]
  have y7_2 : W5.frozen? ⟨w5.heap.size, 2, none⟩ = false := by rw [← hW5]; simp [go_sem]
  have z7 : w5.heap.size < W5.heap.size := by rw [← hW5]; simp
  rw [hW5]
  clear hW5
  replace g1 := g1.to gb
  replace g2 := g2.to gb
  replace g3 := g3.to gb
  replace zb := below_step zb gb
  have HXW5 := Lib.hid (show ∀ W', Below W5.heap.size W5 W' → (W'.cell? ⟨w1.heap.size, 0, none⟩ = some (.bool ng1) ∧ W'.cell? ⟨w1.heap.size, 1, none⟩ = some (.slice a1_ n1_ c1_) ∧ W'.cell? ⟨w1.heap.size, 2, none⟩ = some (.slice p1_ m1_ k1_) ∧ W'.cell? ⟨w2.heap.size, 0, none⟩ = some (.bool ng2) ∧ W'.cell? ⟨w2.heap.size, 1, none⟩ = some (.slice a2_ n2_ c2_) ∧ W'.cell? ⟨w2.heap.size, 2, none⟩ = some (.slice p2_ m2_ k2_) ∧ W'.cell? ⟨w3.heap.size, 0, none⟩ = some (.bool ng3) ∧ W'.cell? ⟨w3.heap.size, 1, none⟩ = some (.slice a3_ n3_ c3_) ∧ W'.cell? ⟨w3.heap.size, 2, none⟩ = some (.slice p3_ m3_ k3_) ∧ W'.cell? ⟨w5.heap.size, 0, none⟩ = some (.bool ng5) ∧ W'.cell? ⟨w5.heap.size, 1, none⟩ = some (.slice a5_ n5_ c5_) ∧ W'.cell? ⟨w5.heap.size, 2, none⟩ = some (.slice p5_ m5_ k5_)) from fun W' hb =>
    ⟨(hb.cell (p := ⟨w1.heap.size, 0, none⟩) z1).trans x1_0, (hb.cell (p := ⟨w1.heap.size, 1, none⟩) z1).trans x1_1, (hb.cell (p := ⟨w1.heap.size, 2, none⟩) z1).trans x1_2, (hb.cell (p := ⟨w2.heap.size, 0, none⟩) z3).trans x3_0, (hb.cell (p := ⟨w2.heap.size, 1, none⟩) z3).trans x3_1, (hb.cell (p := ⟨w2.heap.size, 2, none⟩) z3).trans x3_2, (hb.cell (p := ⟨w3.heap.size, 0, none⟩) z5).trans x5_0, (hb.cell (p := ⟨w3.heap.size, 1, none⟩) z5).trans x5_1, (hb.cell (p := ⟨w3.heap.size, 2, none⟩) z5).trans x5_2, (hb.cell (p := ⟨w5.heap.size, 0, none⟩) z7).trans x7_0, (hb.cell (p := ⟨w5.heap.size, 1, none⟩) z7).trans x7_1, (hb.cell (p := ⟨w5.heap.size, 2, none⟩) z7).trans x7_2⟩)
  have HYW5 := Lib.hid (show ∀ W', Below W5.heap.size W5 W' → (W'.frozen? ⟨w1.heap.size, 0, none⟩ = false ∧ W'.frozen? ⟨w1.heap.size, 1, none⟩ = false ∧ W'.frozen? ⟨w1.heap.size, 2, none⟩ = false ∧ W'.frozen? ⟨w2.heap.size, 0, none⟩ = false ∧ W'.frozen? ⟨w2.heap.size, 1, none⟩ = false ∧ W'.frozen? ⟨w2.heap.size, 2, none⟩ = false ∧ W'.frozen? ⟨w3.heap.size, 0, none⟩ = false ∧ W'.frozen? ⟨w3.heap.size, 1, none⟩ = false ∧ W'.frozen? ⟨w3.heap.size, 2, none⟩ = false ∧ W'.frozen? ⟨w5.heap.size, 0, none⟩ = false ∧ W'.frozen? ⟨w5.heap.size, 1, none⟩ = false ∧ W'.frozen? ⟨w5.heap.size, 2, none⟩ = false) from fun W' hb =>
    ⟨(hb.frozen (p := ⟨w1.heap.size, 0, none⟩) z1).trans y1_0, (hb.frozen (p := ⟨w1.heap.size, 1, none⟩) z1).trans y1_1, (hb.frozen (p := ⟨w1.heap.size, 2, none⟩) z1).trans y1_2, (hb.frozen (p := ⟨w2.heap.size, 0, none⟩) z3).trans y3_0, (hb.frozen (p := ⟨w2.heap.size, 1, none⟩) z3).trans y3_1, (hb.frozen (p := ⟨w2.heap.size, 2, none⟩) z3).trans y3_2, (hb.frozen (p := ⟨w3.heap.size, 0, none⟩) z5).trans y5_0, (hb.frozen (p := ⟨w3.heap.size, 1, none⟩) z5).trans y5_1, (hb.frozen (p := ⟨w3.heap.size, 2, none⟩) z5).trans y5_2, (hb.frozen (p := ⟨w5.heap.size, 0, none⟩) z7).trans y7_0, (hb.frozen (p := ⟨w5.heap.size, 1, none⟩) z7).trans y7_1, (hb.frozen (p := ⟨w5.heap.size, 2, none⟩) z7).trans y7_2⟩)
  have HZW5 := Lib.hid (show ∀ W', Below W5.heap.size W5 W' → (w1.heap.size < W'.heap.size ∧ w2.heap.size < W'.heap.size ∧ w3.heap.size < W'.heap.size ∧ w5.heap.size < W'.heap.size) from fun W' hb =>
    ⟨Nat.lt_of_lt_of_le z1 hb.size, Nat.lt_of_lt_of_le z3 hb.size, Nat.lt_of_lt_of_le z5 hb.size, Nat.lt_of_lt_of_le z7 hb.size⟩)
  replace gb := Below.refl W5.heap.size W5
  go_wp2_with fail
  refine (ratio_add _ _ _ _ _ _ _ _ _ _ _ (g1.to gb).isQ (g2.to gb).isQ (x + y) rfl S1).mono ?_
  clear x1_0 y1_0 x1_1 y1_1 x1_2 y1_2 x3_0 y3_0 x3_1 y3_1 x3_2 y3_2 x5_0 y5_0 x5_1 y5_1 x5_2 y5_2 x7_0 y7_0 x7_1 y7_1 x7_2 y7_2
  rintro e w6 ⟨ng6, a6_, n6_, c6_, p6_, m6_, k6_, rfl, g6, hb6⟩
  replace gb := below_step gb hb6
  obtain ⟨x1_0, x1_1, x1_2, x3_0, x3_1, x3_2, x5_0, x5_1, x5_2, x7_0, x7_1, x7_2⟩ := HXW5.out _ gb
  obtain ⟨y1_0, y1_1, y1_2, y3_0, y3_1, y3_2, y5_0, y5_1, y5_2, y7_0, y7_1, y7_2⟩ := HYW5.out _ gb
  obtain ⟨z1, z3, z5, z7⟩ := HZW5.out _ gb
  go_wp2_with fail
  refine (ratio_print _ _ _ _ _ _ g6.isQ _ T1.out).mono ?_
  clear x1_0 y1_0 x1_1 y1_1 x1_2 y1_2 x3_0 y3_0 x3_1 y3_1 x3_2 y3_2 x5_0 y5_0 x5_1 y5_1 x5_2 y5_2 x7_0 y7_0 x7_1 y7_1 x7_2 y7_2
  rintro e w7 ⟨rfl, hb7⟩
  replace g6 := g6.to hb7
  replace gb := below_step gb hb7
  obtain ⟨x1_0, x1_1, x1_2, x3_0, x3_1, x3_2, x5_0, x5_1, x5_2, x7_0, x7_1, x7_2⟩ := HXW5.out _ gb
  obtain ⟨y1_0, y1_1, y1_2, y3_0, y3_1, y3_2, y5_0, y5_1, y5_2, y7_0, y7_1, y7_2⟩ := HYW5.out _ gb
  obtain ⟨z1, z3, z5, z7⟩ := HZW5.out _ gb
  go_wp2_with fail
  refine (ratio_print _ _ _ _ _ _ (g3.to gb).isQ _ T2.out).mono ?_
  clear x1_0 y1_0 x1_1 y1_1 x1_2 y1_2 x3_0 y3_0 x3_1 y3_1 x3_2 y3_2 x5_0 y5_0 x5_1 y5_1 x5_2 y5_2 x7_0 y7_0 x7_1 y7_1 x7_2 y7_2
  rintro e w8 ⟨rfl, hb8⟩
  replace g6 := g6.to hb8
  replace gb := below_step gb hb8
  obtain ⟨x1_0, x1_1, x1_2, x3_0, x3_1, x3_2, x5_0, x5_1, x5_2, x7_0, x7_1, x7_2⟩ := HXW5.out _ gb
  obtain ⟨y1_0, y1_1, y1_2, y3_0, y3_1, y3_2, y5_0, y5_1, y5_2, y7_0, y7_1, y7_2⟩ := HYW5.out _ gb
  obtain ⟨z1, z3, z5, z7⟩ := HZW5.out _ gb
  go_wp2_with fail
  refine (ratio_print _ _ _ _ _ _ (g5.to gb).isQ _ T3.out).mono ?_
  clear x1_0 y1_0 x1_1 y1_1 x1_2 y1_2 x3_0 y3_0 x3_1 y3_1 x3_2 y3_2 x5_0 y5_0 x5_1 y5_1 x5_2 y5_2 x7_0 y7_0 x7_1 y7_1 x7_2 y7_2
  rintro e w9 ⟨rfl, hb9⟩
  replace g6 := g6.to hb9
  replace gb := below_step gb hb9
  obtain ⟨x1_0, x1_1, x1_2, x3_0, x3_1, x3_2, x5_0, x5_1, x5_2, x7_0, x7_1, x7_2⟩ := HXW5.out _ gb
  obtain ⟨y1_0, y1_1, y1_2, y3_0, y3_1, y3_2, y5_0, y5_1, y5_2, y7_0, y7_1, y7_2⟩ := HYW5.out _ gb
  obtain ⟨z1, z3, z5, z7⟩ := HZW5.out _ gb
  go_wp2_with fail
  go_ret
  exact ⟨by first | rfl | exact ret_bool (by decide +kernel) | exact ret_bool (by simp), below_step zb gb⟩

end Go.Proofs.YtmjnlpanlgmdmaaGreat

