/-
  The texts WholeText, Whole5, Ref7p, WholeZ, WholeO, WholeR, merged.
-/
import Derived.Test.YtmjnlpanlgmdmaaGreatG07
import Derived.Test.YtmjnlpanlgmdmaaGreatG10
import Derived.Lib.Strings
import Derived.Lib.Slices
import Derived.Lib.Walk
import Derived.Deep.DrawnRows
import Derived.Laws.EntriesVeiled
namespace Go.Proofs.YtmjnlpanlgmdmaaGreat
open Go.RowKit Tw
set_option linter.unusedVariables false
set_option linter.unusedSimpArgs false

def neg1 (l : List Nat) : Bool := decide (l.head? = some 45)

def body (l : List Nat) : List Nat := if neg1 l then l.tail else l

def itext (z : Int) : List Nat := if z < 0 then 45 :: digs z.natAbs else digs z.natAbs

theorem digs_nohead (n : Nat) : (digs n).head? ≠ some 45 := by
  intro h
  have hm : 45 ∈ digs n := by
    cases hd : digs n with
    | nil => rw [hd] at h; simp at h
    | cons a t => rw [hd] at h; simp at h; subst h; simp
  have := (digs_dig n) 45 hm
  have h2 := this.1
  omega

theorem neg1_itext (z : Int) : neg1 (itext z) = decide (z < 0) := by
  unfold neg1 itext
  by_cases h : z < 0
  · simp [h]
  · rw [if_neg h, decide_eq_false h, decide_eq_false (digs_nohead _)]

theorem body_itext (z : Int) : body (itext z) = digs z.natAbs := by
  unfold body
  rw [neg1_itext]
  unfold itext
  by_cases h : z < 0 <;> simp [h]

theorem body_size (s : ByteArray) : (ba (body (bs s))).size ≤ s.size := by
  rw [ba_size]
  unfold body
  split
  · rw [List.length_tail, bs_length]; omega
  · rw [bs_length]; exact Nat.le_refl _

theorem body_lt (s : ByteArray) : ∀ x, x ∈ body (bs s) → x < 256 := by
  intro x hx
  unfold body at hx
  split at hx
  · exact bs_lt s x (List.mem_of_mem_tail hx)
  · exact bs_lt s x hx

theorem bs_body (s : ByteArray) : bs (ba (body (bs s))) = body (bs s) := bs_ba (body_lt s)

theorem cut_has (l : List UInt8) : Lib.hasPrefix l [45] = neg1 (l.map UInt8.toNat) := by
  unfold Lib.hasPrefix neg1
  cases l with
  | nil => rfl
  | cons u r =>
    simp only [List.isPrefixOf, List.map_cons, List.head?_cons, Option.some.injEq, Bool.and_true]
    rw [eq_comm, show ((45 : UInt8) == u) = decide ((45 : UInt8) = u) from rfl, decide_eq_decide]
    constructor
    · intro h; exact (UInt8.toNat_inj.1 (show (45 : UInt8).toNat = u.toNat from h.symm))
    · rintro rfl; rfl

theorem cut_rest (s : ByteArray) : (⟨(Lib.trimPrefix s.data.toList [45]).toArray⟩ : ByteArray) = ba (body (bs s)) := by
  unfold Lib.trimPrefix
  rw [cut_has]
  unfold body
  rw [show bs s = s.data.toList.map UInt8.toNat from rfl]
  have hm : ∀ l : List UInt8, ba (l.map UInt8.toNat) = ⟨l.toArray⟩ := fun l => by
    have := ba_bs ⟨l.toArray⟩
    unfold bs at this
    simpa using this
  by_cases h : neg1 (s.data.toList.map UInt8.toNat) = true
  · rw [if_pos h, if_pos h, ← List.map_tail, hm]
    simp
  · rw [if_neg h, if_neg h, hm]

set_option maxHeartbeats 1000000 in
theorem cut_shelf (s p : ByteArray) (w : World) :
    Calls Tryz.prog 67 #[.string s, .string p] w fun e w' => e = .returned (.tuple #[.string ⟨(Lib.trimPrefix s.data.toList p.data.toList).toArray⟩, .bool (Lib.hasPrefix s.data.toList p.data.toList)]) ∧ w' = w := by
  go_enter Tryz.func67, Tryz.ntmps67
  go_wp2
  · have h2 : (!((s.extract 0 p.size).toList == p.toList)) = true := by assumption
    have h3 : (decide (p.size ≤ s.size) && ((s.extract 0 p.size).toList == p.toList)) = false := by
      have : ((s.extract 0 p.size).toList == p.toList) = false := by simpa using h2
      rw [this]
      simp
    go_ret2
    refine ⟨?_, rfl⟩
    rw [Lib.trimPrefix_miss s p h3, ← Lib.hasPrefix_raw, h3]
    rfl
  · have h1 : p.size ≤ s.size := by assumption
    have h2 : (!((s.extract 0 p.size).toList == p.toList)) = false := by assumption
    have h2' : ((s.extract 0 p.size).toList == p.toList) = true := by simpa using h2
    go_ret2
    refine ⟨?_, rfl⟩
    rw [Lib.trimPrefix_hit s p h1 h2', ← Lib.hasPrefix_raw, h2', decide_eq_true h1]
    rfl
  · have h1 : ¬ p.size ≤ s.size := by assumption
    have h3 : (decide (p.size ≤ s.size) && ((s.extract 0 p.size).toList == p.toList)) = false := by simp [h1]
    go_ret2
    refine ⟨?_, rfl⟩
    rw [Lib.trimPrefix_miss s p h3, ← Lib.hasPrefix_raw, h3]
    rfl

theorem cut1 (s : ByteArray) (w : World) :
    Calls Tryz.prog 67 #[.string s, .string ⟨#[45]⟩] w fun e w' => e = .returned (.tuple #[.string (ba (body (bs s))), .bool (neg1 (bs s))]) ∧ w = w' := by
  refine (cut_shelf s ⟨#[45]⟩ w).mono ?_
  rintro e w' ⟨rfl, rfl⟩
  refine ⟨?_, rfl⟩
  rw [show (⟨#[45]⟩ : ByteArray).data.toList = [45] from rfl, cut_rest, cut_has]
  rfl

def GivesP (w : World) (z : Int) (e : Ending) (w' : World) : Prop :=
  ∃ v, e = .returned (.tuple #[aggI (decide (z < 0)) v, .int .i64 0]) ∧ Own w.heap.size w' v (limbs z.natAbs) ∧ Below w.heap.size w w'

theorem finP {w w2 : World} {B rb : Nat} {z : Int} {v : Value} (hb0 : Below w.heap.size w w2) (hrb : w.heap.size ≤ rb) (hrb1 : rb < B) (hB : w.heap.size ≤ B) (hv : Own B w2 v (limbs z.natAbs)) :
    GivesP w z (.returned (.tuple #[aggI (decide (z < 0)) v, .int .i64 0])) ((w2.setCell ⟨rb, 0, none⟩ (.bool (decide (z < 0)))).setCell ⟨rb, 1, none⟩ v) :=
  ⟨v, rfl, ((hv.setOther (p := ⟨rb, 0, none⟩) hrb1 _).setOther (p := ⟨rb, 1, none⟩) hrb1 _).mono hB, (hb0.setCell (p := ⟨rb, 0, none⟩) hrb _).setCell (p := ⟨rb, 1, none⟩) hrb _⟩

def NoP (w : World) (k : Int) (e : Ending) (w' : World) : Prop :=
  e = .returned (.tuple #[aggI false (.slice none 0 0), .int .i64 k]) ∧ Below w.heap.size w w'

end Go.Proofs.YtmjnlpanlgmdmaaGreat


namespace Go.Proofs.YtmjnlpanlgmdmaaGreat
open Go.RowKit Tw
set_option linter.unusedVariables false
set_option linter.unusedSimpArgs false
attribute [local go_sem ↓] Go.wp_at_zero Go.wp_at_succ

set_option maxRecDepth 100000 in
set_option maxHeartbeats 4000000 in
theorem whole_print (b : Bool) (va : Value) (la : List Nat) (w : World) (ha : Rd w va la) (hla : la.length ≤ 5000) :
    Calls Tryz.prog 47 #[aggI b va] w (fun e w' => e = .returned (.string (ba (itext (sgn b (val la))))) ∧ Below w.heap.size w w') := by
  have hsa := sz_val ha.1
  have Hna := Lib.hid (sgn_abs b (val la))
  have Hnd := Lib.hid (show (digs (sgn b (val la)).natAbs).length ≤ 50001 by rw [sgn_abs]; have := ndig_bound ha.1; unfold ndig at this; omega)
  have hlen : (limbs (sgn b (val la)).natAbs).length ≤ 5000 := by rw [sz_def, sgn_abs]; omega
  have hadd : ∀ ww : World, (Op.stringOp .add ⟨#[45]⟩ (ba (digs (sgn b (val la)).natAbs))).run Tryz.prog ww = .ok (.string (ba (45 :: digs (sgn b (val la)).natAbs))) ww := fun ww => by
    rw [show (⟨#[45]⟩ : ByteArray) = ba [45] from rfl, run_string_add_sum ww _ _ (by rw [ba_size, ba_size]; have := Hnd.out; simp; omega), ba_append]; rfl
  obtain ⟨a0, n0, c0, rfl, H0, hm0⟩ := ha.open
  go_enter Tryz.func47, Tryz.ntmps47
  go_wp2_with fail
  obtain ⟨W0, hW0⟩ : ∃ W0, w.alloc (.cells #[.bool b, .slice a0 n0 c0] 46) = W0 := ⟨_, rfl⟩
  have x0_0 : W0.cell? ⟨w.heap.size, 0, none⟩ = some (.bool b) := by rw [← hW0]; simp [go_sem]
  have y0_0 : W0.frozen? ⟨w.heap.size, 0, none⟩ = false := by rw [← hW0]; simp [go_sem]
  have x0_1 : W0.cell? ⟨w.heap.size, 1, none⟩ = some (.slice a0 n0 c0) := by rw [← hW0]; simp [go_sem]
  have y0_1 : W0.frozen? ⟨w.heap.size, 1, none⟩ = false := by rw [← hW0]; simp [go_sem]
  have zs : w.heap.size < W0.heap.size := by rw [← hW0]; simp
  have zb : Below w.heap.size w W0 := by rw [← hW0]; exact below_new _ _
  rw [hW0]
  clear hW0
  have g0 := ha.to zb
  have h00 : w.heap.size < W0.heap.size := zs
  refine (whole_fix b _ la _ g0 (by omega)).mono ?_
  rintro e w2 ⟨v2, rfl, hv2, hb2⟩
  obtain ⟨a2_, n2_, c2_, rfl, H2, hm2⟩ := hv2.rd.open
  have hw_w2 : w.heap.size ≤ W0.heap.size := (by omega)
  replace x0_0 := (hb2.cell (p := ⟨w.heap.size, 0, none⟩) (by show w.heap.size < W0.heap.size; omega)).trans x0_0
  replace y0_0 := (hb2.frozen (p := ⟨w.heap.size, 0, none⟩) (by show w.heap.size < W0.heap.size; omega)).trans y0_0
  replace x0_1 := (hb2.cell (p := ⟨w.heap.size, 1, none⟩) (by show w.heap.size < W0.heap.size; omega)).trans x0_1
  replace y0_1 := (hb2.frozen (p := ⟨w.heap.size, 1, none⟩) (by show w.heap.size < W0.heap.size; omega)).trans y0_1
  replace zs := Nat.lt_of_lt_of_le zs hb2.size
  replace g0 := g0.to hb2
  replace zb := below_step zb hb2
  have g2 := hv2.rd
  generalize hng2 : decide (sgn b (val la) < 0) = ng2
  have Hng2 := Lib.hid hng2
  clear hng2
  obtain ⟨k0, k1⟩ := two_cells (x := .bool ng2) (y := .slice a2_ n2_ c2_) x0_0 x0_1
  have g9 := ((hv2.setOther (p := ⟨w.heap.size, 0, none⟩) h00 (.bool ng2)).setOther (p := ⟨w.heap.size, 1, none⟩) h00 (.slice a2_ n2_ c2_)).rd
  have zb9 := (zb.setCell (p := ⟨w.heap.size, 0, none⟩) (Nat.le_refl _) (.bool ng2)).setCell (p := ⟨w.heap.size, 1, none⟩) (Nat.le_refl _) (.slice a2_ n2_ c2_)
  cases hq : ng2
  rotate_left
  · subst hq
    have Ht := Lib.hid (show ba (itext (sgn b (val la))) = ba (45 :: digs (sgn b (val la)).natAbs) by unfold itext; rw [if_pos (by simpa using Hng2.out)])
    go_wp2_with fail
    refine (deci_print _ _ _ g9 hlen).mono ?_
    rintro e w3 ⟨rfl, hb3⟩
    rw [val_limbs]
    go_wp2_with fail
    go_ret
    exact ⟨by rw [Ht.out]; rfl, below_step zb9 hb3⟩
  
  · subst hq
    have Ht := Lib.hid (show ba (itext (sgn b (val la))) = ba (digs (sgn b (val la)).natAbs) by unfold itext; rw [if_neg (by simpa using Hng2.out)])
    go_wp2_with fail
    refine (deci_print _ _ _ g9 hlen).mono ?_
    rintro e w3 ⟨rfl, hb3⟩
    rw [val_limbs]
    go_wp2_with fail
    go_ret
    exact ⟨by rw [Ht.out]; rfl, below_step zb9 hb3⟩

set_option maxRecDepth 100000 in
set_option maxHeartbeats 4000000 in
theorem whole_parse (s : ByteArray) (w : World) (hs : s.size ≤ 1000) (hok : OkText (body (bs s))) :
    Calls Tryz.prog 43 #[.string s] w (GivesP w (sgn (neg1 (bs s)) (dval (body (bs s))))) := by
  have Hb1 := Lib.hid (body_size s)
  have Hb2 := Lib.hid (bs_body s)
  have Hok := Lib.hid hok
  have Hsz := Lib.hid (show sz (dval (body (bs s))) ≤ 1000000 from Nat.le_trans (sz_digs hok.2.1 (by have := body_size s; rw [ba_size] at this; omega)) (by omega))
  clear hok
  rw [show sgn (neg1 (bs s)) (dval (body (bs s))) = sgn (neg1 (bs s)) (val (limbs (dval (body (bs s))))) by rw [val_limbs]]
  go_enter Tryz.func43, Tryz.ntmps43
  go_wp2_with fail
  obtain ⟨W0, hW0⟩ : ∃ W0, w.alloc (.cells #[.bool false, .slice none 0 0] 46) = W0 := ⟨_, rfl⟩
  have x0_0 : W0.cell? ⟨w.heap.size, 0, none⟩ = some (.bool false) := by rw [← hW0]; simp [go_sem]
  have y0_0 : W0.frozen? ⟨w.heap.size, 0, none⟩ = false := by rw [← hW0]; simp [go_sem]
  have x0_1 : W0.cell? ⟨w.heap.size, 1, none⟩ = some (.slice none 0 0) := by rw [← hW0]; simp [go_sem]
  have y0_1 : W0.frozen? ⟨w.heap.size, 1, none⟩ = false := by rw [← hW0]; simp [go_sem]
  have zs : w.heap.size < W0.heap.size := by rw [← hW0]; simp
  have zb : Below w.heap.size w W0 := by rw [← hW0]; exact below_new _ _
  rw [hW0]
  clear hW0
  refine (cut1 s _).mono ?_
  rintro e w1 ⟨rfl, rfl⟩
  go_wp2_with fail
  refine (deci_parse_ok (ba (body (bs s))) _ (Nat.le_trans Hb1.out hs) (by rw [Hb2.out]; exact Hok.out)).mono ?_
  rw [Hb2.out]
  rintro e w2 ⟨v2, rfl, hv2, hb2⟩
  obtain ⟨a2_, n2_, c2_, rfl, H2, hm2⟩ := hv2.rd.open
  have hr_w2 : w.heap.size < W0.heap.size := (by omega)
  have hw_w2 : w.heap.size ≤ W0.heap.size := (by omega)
  replace x0_0 := (hb2.cell (p := ⟨w.heap.size, 0, none⟩) (by show w.heap.size < W0.heap.size; omega)).trans x0_0
  replace y0_0 := (hb2.frozen (p := ⟨w.heap.size, 0, none⟩) (by show w.heap.size < W0.heap.size; omega)).trans y0_0
  replace x0_1 := (hb2.cell (p := ⟨w.heap.size, 1, none⟩) (by show w.heap.size < W0.heap.size; omega)).trans x0_1
  replace y0_1 := (hb2.frozen (p := ⟨w.heap.size, 1, none⟩) (by show w.heap.size < W0.heap.size; omega)).trans y0_1
  replace zs := Nat.lt_of_lt_of_le zs hb2.size
  replace zb := below_step zb hb2
  have g2 := hv2.rd
  go_wp2_with fail
  refine (whole_signed (neg1 (bs s)) _ _ _ g2 (by rw [sz_def]; exact Hsz.out)).mono ?_
  rintro e w3 ⟨v3, rfl, hv3, hb3⟩
  obtain ⟨a3_, n3_, c3_, rfl, H3, hm3⟩ := hv3.rd.open
  have hr_w3 : w.heap.size < w2.heap.size := (by omega)
  have hw_w3 : w.heap.size ≤ w2.heap.size := (by omega)
  replace x0_0 := (hb3.cell (p := ⟨w.heap.size, 0, none⟩) (by show w.heap.size < w2.heap.size; omega)).trans x0_0
  replace y0_0 := (hb3.frozen (p := ⟨w.heap.size, 0, none⟩) (by show w.heap.size < w2.heap.size; omega)).trans y0_0
  replace x0_1 := (hb3.cell (p := ⟨w.heap.size, 1, none⟩) (by show w.heap.size < w2.heap.size; omega)).trans x0_1
  replace y0_1 := (hb3.frozen (p := ⟨w.heap.size, 1, none⟩) (by show w.heap.size < w2.heap.size; omega)).trans y0_1
  replace zs := Nat.lt_of_lt_of_le zs hb3.size
  replace g2 := g2.to hb3
  replace zb := below_step zb hb3
  have g3 := hv3.rd
  generalize hng3 : decide (sgn (neg1 (bs s)) (val (limbs (dval (body (bs s))))) < 0) = ng3
  have Hng3 := Lib.hid hng3
  clear hng3
  go_wp2_with fail
  have e3 := Hng3.out
  subst e3
  obtain ⟨k0, k1⟩ := two_cells (x := .bool (decide (sgn (neg1 (bs s)) (val (limbs (dval (body (bs s))))) < 0))) (y := .slice a3_ n3_ c3_) x0_0 x0_1
  exact bodyPost_ret (results_It Tryz.results43 _ _ _ _ _ rfl k0 k1) rfl (finP zb (by omega) hr_w3 hw_w3 hv3)

set_option maxRecDepth 100000 in
set_option maxHeartbeats 4000000 in
theorem whole_parse_no (s : ByteArray) (w : World) (hs : s.size ≤ 1000) (hok : ¬ OkText (body (bs s))) :
    Calls Tryz.prog 43 #[.string s] w (NoP w 2) := by
  have Hb1 := Lib.hid (body_size s)
  have Hb2 := Lib.hid (bs_body s)
  have Hok := Lib.hid hok
  clear hok
  go_enter Tryz.func43, Tryz.ntmps43
  go_wp2_with fail
  obtain ⟨W0, hW0⟩ : ∃ W0, w.alloc (.cells #[.bool false, .slice none 0 0] 46) = W0 := ⟨_, rfl⟩
  have x0_0 : W0.cell? ⟨w.heap.size, 0, none⟩ = some (.bool false) := by rw [← hW0]; simp [go_sem]
  have y0_0 : W0.frozen? ⟨w.heap.size, 0, none⟩ = false := by rw [← hW0]; simp [go_sem]
  have x0_1 : W0.cell? ⟨w.heap.size, 1, none⟩ = some (.slice none 0 0) := by rw [← hW0]; simp [go_sem]
  have y0_1 : W0.frozen? ⟨w.heap.size, 1, none⟩ = false := by rw [← hW0]; simp [go_sem]
  have zs : w.heap.size < W0.heap.size := by rw [← hW0]; simp
  have zb : Below w.heap.size w W0 := by rw [← hW0]; exact below_new _ _
  rw [hW0]
  clear hW0
  refine (cut1 s _).mono ?_
  rintro e w1 ⟨rfl, rfl⟩
  go_wp2_with fail
  refine (deci_parse_no (ba (body (bs s))) _ (Nat.le_trans Hb1.out hs) (by rw [Hb2.out]; exact Hok.out)).mono ?_
  rintro e w2 ⟨rfl, hb2⟩
  have hr_w2 : w.heap.size < W0.heap.size := (by omega)
  have hw_w2 : w.heap.size ≤ W0.heap.size := (by omega)
  replace x0_0 := (hb2.cell (p := ⟨w.heap.size, 0, none⟩) (by show w.heap.size < W0.heap.size; omega)).trans x0_0
  replace y0_0 := (hb2.frozen (p := ⟨w.heap.size, 0, none⟩) (by show w.heap.size < W0.heap.size; omega)).trans y0_0
  replace x0_1 := (hb2.cell (p := ⟨w.heap.size, 1, none⟩) (by show w.heap.size < W0.heap.size; omega)).trans x0_1
  replace y0_1 := (hb2.frozen (p := ⟨w.heap.size, 1, none⟩) (by show w.heap.size < W0.heap.size; omega)).trans y0_1
  replace zs := Nat.lt_of_lt_of_le zs hb2.size
  replace zb := below_step zb hb2
  go_wp2_with fail
  obtain ⟨k0, k1⟩ := two_cells (x := .bool false) (y := .slice none 0 0) x0_0 x0_1
  exact bodyPost_ret (results_It Tryz.results43 _ _ _ _ _ rfl k0 k1) rfl ⟨rfl, (zb.setCell (p := ⟨w.heap.size, 0, none⟩) (Nat.le_refl _) _).setCell (p := ⟨w.heap.size, 1, none⟩) (Nat.le_refl _) _⟩

end Go.Proofs.YtmjnlpanlgmdmaaGreat


namespace Go.Proofs.YtmjnlpanlgmdmaaGreat
open Go.RowKit Tw
set_option linter.unusedVariables false
set_option linter.unusedSimpArgs false
attribute [local go_sem ↓] Go.wp_at_zero Go.wp_at_succ

end Go.Proofs.YtmjnlpanlgmdmaaGreat


namespace Go.Proofs.YtmjnlpanlgmdmaaGreat
open Go.RowKit Tw
set_option linter.unusedVariables false

theorem sgn_back (z : Int) : sgn (decide (z < 0)) (val (limbs z.natAbs)) = z := by rw [val_limbs, sgn_canon]

def IsI (w : World) (b : Bool) (v : Value) (l : List Nat) (z : Int) : Prop := Rd w v l ∧ sgn b (val l) = z ∧ l.length ≤ 90000

theorem IsI.to {w w' : World} {b : Bool} {v : Value} {l : List Nat} {z : Int} (h : IsI w b v l z) (hb : Below w.heap.size w w') : IsI w' b v l z := ⟨h.1.to hb, h.2⟩

theorem IsI.drew {w : World} {b : Bool} {v : Value} {l : List Nat} {z : Int} (h : IsI w b v l z) : IsI w.drew b v l z := ⟨h.1.drew, h.2⟩

section
variable {b c : Bool} {va vb : Value} {la lb : List Nat} {x y : Int}

theorem cmp_z (w : World) (g0 : IsI w b va la x) (g1 : IsI w c vb lb y) (z : Int) (hz : cmpZ x y = z) :
    Calls Tryz.prog 41 #[aggI b va, aggI c vb] w fun e w' => e = .returned (.int .i64 z) ∧ Below w.heap.size w w' :=
  (whole_cmp b c va vb la lb w g0.1 g1.1 (Nat.le_trans g0.2.2 (by omega)) (Nat.le_trans g1.2.2 (by omega))).mono fun e w' h => by rw [g0.2.1, g1.2.1, hz] at h; exact h

end

end Go.Proofs.YtmjnlpanlgmdmaaGreat


namespace Go.Proofs.YtmjnlpanlgmdmaaGreat
open Go.RowKit Tw
set_option linter.unusedVariables false

section
variable {b c : Bool} {va vb : Value} {la lb : List Nat} {x y : Int}

end

end Go.Proofs.YtmjnlpanlgmdmaaGreat


namespace Go.Proofs.YtmjnlpanlgmdmaaGreat
open Go.RowKit Tw
set_option linter.unusedVariables false

section
variable {b c : Bool} {va vb : Value} {la lb : List Nat} {x y : Int}

theorem rcmp_z (w : World) (g0 : IsI w b va la x) (g1 : IsI w c vb lb y) (z : Int) (hz : cmpZ x y = z) :
    Calls Tryz.prog 31 #[aggI b va, aggI c vb] w fun e w' => e = .returned (.int .i64 z) ∧ Below w.heap.size w w' :=
  (ref7_cmp b c va vb la lb w g0.1 g1.1 (Nat.le_trans g0.2.2 (by omega)) (Nat.le_trans g1.2.2 (by omega))).mono fun e w' h => by rw [g0.2.1, g1.2.1, hz] at h; exact h

theorem print_z (w : World) (g0 : IsI w b va la x) (hl : la.length ≤ 5000) (t : ByteArray) (ht : ba (itext x) = t) :
    Calls Tryz.prog 47 #[aggI b va] w fun e w' => e = .returned (.string t) ∧ Below w.heap.size w w' :=
  (whole_print b va la w g0.1 hl).mono fun e w' h => by rw [g0.2.1, ht] at h; exact h

end

noncomputable def pz (l : List Nat) : Int := open Classical in if OkText (body l) then sgn (neg1 l) (dval (body l)) else 0

noncomputable def pk (l : List Nat) : Int := open Classical in if OkText (body l) then 0 else 2

theorem pz_itext (z : Int) : pz (itext z) = z := by
  unfold pz
  rw [if_pos (by rw [body_itext]; exact okText_digs _), body_itext, neg1_itext, dval_digs, sgn_canon]

theorem pk_itext (z : Int) : pk (itext z) = 0 := by
  unfold pk
  rw [if_pos (by rw [body_itext]; exact okText_digs _)]

theorem body_len (l : List Nat) : (body l).length ≤ l.length := by
  unfold body; split <;> simp

theorem szi_pz {l : List Nat} (h : l.length ≤ 1000) : szi (pz l) ≤ 90000 := by
  unfold pz
  split
  · rename_i hok
    rw [szi_sgn]
    have h1 := body_len l
    have h2 := dval_lt hok.2.1
    have h3 : (10 : Nat) ^ (body l).length ≤ B ^ (body l).length := Nat.pow_le_pow_left (by rw [B_eq]; omega) _
    have h4 := sz_le (Nat.lt_of_lt_of_le h2 h3)
    omega
  · show sz 0 ≤ _; decide +kernel

def GivesK (w : World) (z k : Int) (e : Ending) (w' : World) : Prop :=
  ∃ ng a n c, e = .returned (.tuple #[aggI ng (.slice a n c), .int .i64 k]) ∧ Hid (decide (z < 0) = ng) ∧ IsI w' ng (.slice a n c) (limbs z.natAbs) z ∧ Below w.heap.size w w'

theorem givesK {w : World} {z z' k : Int} {e : Ending} {w' : World} (hz : z = z') (hk : 0 = k) (hs : szi z' ≤ 90000) (h : GivesP w z e w') : GivesK w z' k e w' := by
  subst hz hk
  obtain ⟨v, rfl, hv, hb⟩ := h
  obtain ⟨a, n, c, rfl, _, _⟩ := hv.rd.open
  exact ⟨_, a, n, c, rfl, rfl, ⟨hv.rd, sgn_back z, by rw [sz_def]; exact hs⟩, hb⟩

theorem givesK_no {w : World} {z k m : Int} {e : Ending} {w' : World} (hz : 0 = z) (hk : m = k) (h : NoP w m e w') : GivesK w z k e w' := by
  subst hz hk
  obtain ⟨rfl, hb⟩ := h
  exact ⟨_, none, 0, 0, rfl, rfl, ⟨by rw [show limbs (0 : Int).natAbs = [] by decide +kernel]; exact Rd.nil _, by rw [show limbs (0 : Int).natAbs = [] by decide +kernel]; rfl, by decide +kernel⟩, hb⟩

theorem parse_k (s : ByteArray) (w : World) (hs : s.size ≤ 1000) (z k : Int) (hz : pz (bs s) = z) (hk : pk (bs s) = k) :
    Calls Tryz.prog 43 #[.string s] w (GivesK w z k) := by
  have hb : szi z ≤ 90000 := by rw [← hz]; exact szi_pz (by rw [bs_length]; exact hs)
  by_cases hok : OkText (body (bs s))
  · exact (whole_parse s w hs hok).mono fun e w' h => givesK (by rw [← hz]; unfold pz; rw [if_pos hok]) (by rw [← hk]; unfold pk; rw [if_pos hok]) hb h
  · exact (whole_parse_no s w hs hok).mono fun e w' h => givesK_no (by rw [← hz]; unfold pz; rw [if_neg hok]) (by rw [← hk]; unfold pk; rw [if_neg hok]) h

theorem bs_itext (z : Int) : bs (ba (itext z)) = itext z := by
  refine bs_ba fun x hx => ?_
  unfold itext at hx
  split at hx
  · rcases List.mem_cons.1 hx with rfl | h
    · omega
    · exact dig_lt (digs_dig _) x h
  · exact dig_lt (digs_dig _) x hx

end Go.Proofs.YtmjnlpanlgmdmaaGreat

