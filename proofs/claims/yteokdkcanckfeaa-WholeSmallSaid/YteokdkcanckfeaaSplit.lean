/-
  The walks of package split.
-/
import Derived.Test.YteokdkcanckfeaaTimes
import Derived.Test.YteokdkcanckfeaaDivMath
namespace Go.Proofs.Yteokdkcanckfeaa
open Go.RowKit Tw
set_option linter.unusedVariables false
set_option linter.unusedSimpArgs false

/-- What a division by a word leaves. -/
def GivesDiv (w : World) (q : List Nat) (r : Nat) (e : Ending) (w' : World) : Prop :=
  ∃ v, e = .returned (.tuple #[v, .int .u32 (r : Int), .bool true]) ∧ Own w.heap.size w' v q ∧ Below w.heap.size w w'

/-- What a division by a nat leaves. -/
def GivesTwo (w : World) (q r : List Nat) (e : Ending) (w' : World) : Prop :=
  ∃ v u, e = .returned (.tuple #[v, u, .bool true]) ∧ Own w.heap.size w' v q ∧ Own w.heap.size w' u r ∧ Below w.heap.size w w'

theorem sz_succ {n : Nat} (h : 0 < n) : ∃ m, sz n = m + 1 := by
  have h1 : sz n ≠ 0 := fun e => Nat.ne_of_gt h (sz_eq_zero.1 e)
  exact ⟨sz n - 1, by omega⟩

theorem limbs_word {n : Nat} (h0 : n ≠ 0) (h1 : n < 4294967296) : limbs n = [n] := by
  rw [limbs_pos h0, Nat.mod_eq_of_lt (by rw [B_eq]; exact h1), Nat.div_eq_of_lt (by rw [B_eq]; exact h1), limbs_zero]

theorem Rd.cells' {w : World} {v : Value} {l : List Nat} (h : Rd w v l) (h0 : 0 < l.length) :
    ∃ b off cap, v = .slice (some ⟨b, off, none⟩) l.length cap ∧ ∀ i, i < l.length → w.cell? ⟨b, off + i, none⟩ = some (u32v (nth l i)) := by
  rcases h.2 with ⟨rfl, _⟩ | ⟨b, off, cap, hv, hl, hc, hm, hcell⟩
  · simp at h0
  · exact ⟨b, off, cap, hv, hcell⟩

theorem int_quot (a b d : Nat) : ((a : Int) * 4294967296 + b) / d = (((a * 4294967296 + b) / d : Nat) : Int) := by
  rw [Int.natCast_ediv, show ((a * 4294967296 + b : Nat) : Int) = (a : Int) * 4294967296 + b by omega]
theorem int_quot0 (b d : Nat) : (b : Int) / d = (((0 * 4294967296 + b) / d : Nat) : Int) := by
  rw [Nat.zero_mul, Nat.zero_add, Int.natCast_ediv]

theorem sdiv_step {base g n j d r : Nat} {w : World} {Z la : List Nat} (hz : Own base w (.slice (some ⟨g, 0, none⟩) n n) Z) (hzl : Z.length = n) (hj : j < n) (hll : la.length = n) (hla : Small la)
    (hd : 0 < d) (hd1 : d < 4294967296) (hv : val (Z.drop (j + 1)) = val (la.drop (j + 1)) / d) (hr : r = val (la.drop (j + 1)) % d) :
    ∃ r' : Nat, r' < d ∧ ((r : Int) * 4294967296 + nth la j) % d = (r' : Int) ∧ r' = val (la.drop j) % d ∧
      Hid (∃ Z', Own base (w.setCell ⟨g, j, none⟩ (.int .u32 (((r : Int) * 4294967296 + nth la j) / d))) (.slice (some ⟨g, 0, none⟩) n n) Z' ∧ Z'.length = n ∧ val (Z'.drop j) = val (la.drop j) / d) := by
  have hx := hla.nth j
  have e1 : (r : Int) * 4294967296 + nth la j = ((nth la j + B * r : Nat) : Int) := by rw [B_eq]; omega
  have hq : (nth la j + B * r) / d < B := digit_lt hx (by rw [hr]; exact Nat.mod_lt _ hd)
  have hm := word_mod (la := la) (j := j) (d := d) (by omega)
  have hdv := word_div hd (show j < Z.length by omega) (show j < la.length by omega) hv
  rw [← hr] at hm hdv
  refine ⟨(nth la j + B * r) % d, Nat.mod_lt _ hd, by rw [e1]; exact (Int.natCast_emod _ _).symm, hm.symm, ?_⟩
  rw [e1, ← Int.natCast_ediv]
  exact ⟨Z.set j ((nth la j + B * r) / d), own_store hz _ _ hq, by simpa using hzl, hdv⟩

theorem sdiv_step' {base g n j D r : Nat} {w : World} {Z la : List Nat} {d : Int} (hdD : d = (D : Int)) (hz : Own base w (.slice (some ⟨g, 0, none⟩) n n) Z) (hzl : Z.length = n) (hj : j < n) (hll : la.length = n) (hla : Small la)
    (hd : 0 < D) (hd1 : D < 4294967296) (hv : val (Z.drop (j + 1)) = val (la.drop (j + 1)) / D) (hr : r = val (la.drop (j + 1)) % D) :
    ∃ r' : Nat, (r' : Int) < d ∧ ((r : Int) * 4294967296 + nth la j) % d = (r' : Int) ∧ r' = val (la.drop j) % D ∧
      Hid (∃ Z', Own base (w.setCell ⟨g, j, none⟩ (.int .u32 (((r : Int) * 4294967296 + nth la j) / d))) (.slice (some ⟨g, 0, none⟩) n n) Z' ∧ Z'.length = n ∧ val (Z'.drop j) = val (la.drop j) / D) := by
  subst hdD
  obtain ⟨r', h1, h2⟩ := sdiv_step hz hzl hj hll hla hd hd1 hv hr
  exact ⟨r', by omega, h2⟩

set_option maxRecDepth 100000 in
set_option maxHeartbeats 400000 in
theorem split_small_no (va : Value) (la : List Nat) (w : World) (ha : Rd w va la) :
    Calls Try.prog 55 #[va, .int .u32 0] w fun e w' => e = .returned (.tuple #[.slice none 0 0, .int .u32 0, .bool false]) ∧ w = w' := by
  obtain ⟨aa, na, capa, rfl, Hna, _⟩ := ha.open
  go_enter Try.func55, Try.ntmps55
  go_wp2_with fail
  go_ret3
  exact ⟨rfl, rfl⟩

set_option maxRecDepth 100000 in
set_option maxHeartbeats 2000000 in
theorem split_small (va : Value) (la : List Nat) (d : Int) (w : World) (ha : Rd w va la) (hla : la.length ≤ 1000000) (d0 : 0 < d) (d1 : d < 4294967296) :
    Calls Try.prog 55 #[va, .int .u32 d] w (GivesDiv w (limbs (val la / d.toNat)) (val la % d.toNat)) := by
  obtain ⟨aa, na, capa, rfl, Hna, _⟩ := ha.open
  have hna : na ≤ 1000000 := by have := Hna.out; omega
  obtain ⟨D, hD⟩ : ∃ D, d.toNat = D := ⟨_, rfl⟩
  have HD := Lib.hid hD
  have HDi := Lib.hid (show d = (D : Int) by omega)
  have HD0 := Lib.hid (show 0 < D by omega)
  rw [hD]
  clear hD
  go_enter Try.func55, Try.ntmps55
  go_wp2_with (at_make; refine wp_make _ rfl _ _ rfl _ _ _ _ na rfl rfl rfl rfl (by omega) ?_; intro w1 hown1 hb1 hs1)
  go_loopw [5, 7] (fun r i ww => ∃ (k R : Nat), k ≤ na ∧ (R : Int) < d ∧ r = .int .u32 R ∧ i = .int .i64 ((k : Int) - 1) ∧ Hid (R = val (la.drop k) % D) ∧ Below w.heap.size w ww ∧ w.heap.size ≤ ww.heap.size ∧
      Hid (∃ Z, Own w.heap.size ww (.slice (some ⟨w.heap.size, 0, none⟩) na na) Z ∧ Z.length = na ∧ val (Z.drop k) = val (la.drop k) / D)) (fun _ i _ => (intOf i + 1).toNat)
  case atStart => exact ⟨na, 0, Nat.le_refl _, d0, rfl, rfl, by unfold Hid; rw [drop_all (by rw [Hna.out]; exact Nat.le_refl _)]; simp, hb1, Nat.le_of_lt hs1, List.replicate na 0, hown1, by simp, by
    rw [drop_all (by simp), drop_all (by rw [Hna.out]; exact Nat.le_refl _)]; simp⟩
  case round =>
    obtain ⟨k, R, hk, hR, rfl, rfl, HR, hbw, hsw, HZ⟩ := hrel
    obtain ⟨Z, hz, hzl, hzv⟩ := HZ.out
    have Hzl := Lib.hid hzl
    have Hzv := Lib.hid hzv
    clear HZ hzl hzv
    rcases Nat.eq_zero_or_pos k with rfl | hpos
    · have Hv := Lib.hid (show val Z = val la / D from Hzv.out)
      have HRr := Lib.hid (show R = val la % D from HR.out)
      go_wp2_with fail
      refine (nat_trim _ _ _ hz.rd (by rw [Hzl.out]; omega)).mono ?_
      rintro e w3 ⟨v, rfl, hv, hb3⟩
      rw [Hv.out] at hv
      go_wp2_with fail
      go_ret3
      exact ⟨v, ret_three rfl (int_eq (by rw [HRr.out])) rfl, hv.mono hsw, hbw.trans (hb3.mono hsw)⟩
    · obtain ⟨j, rfl⟩ : ∃ j, k = j + 1 := ⟨k - 1, by omega⟩
      obtain ⟨b, o, rfl, hcell⟩ := (ha.to hbw).cells (by rw [Hna.out]; omega)
      have hck := hcell j (by rw [Hna.out]; omega)
      have hx := ha.1.nth j
      simp only [B_eq] at hx
      clear hcell
      go_wp2_with fail
      refine (limb_div _ _ _ _ (by omega) (by omega) (by omega) (by omega) (by omega) (by omega) (by omega)).mono ?_
      rintro e w2 ⟨rfl, hb2⟩
      have hz2 := hz.to hb2
      obtain ⟨q1, q2⟩ := own_cell2 hz2 (show j < Z.length by rw [Hzl.out]; omega)
      obtain ⟨r', hr1, hr2, hr3, HZ2⟩ := sdiv_step' HDi.out hz2 Hzl.out (by omega) Hna.out ha.1 HD0.out (by have := HDi.out; omega) Hzv.out HR.out
      have Hr2 := Lib.hid hr2
      have Hr3 := Lib.hid hr3
      clear hr2 hr3 hck
      go_wp2_with fail
      go_roundw
      case rel => exact ⟨j, r', by omega, hr1, int_eq Hr2.out, by go_num, Hr3, (hbw.trans (hb2.mono hsw)).setCell (Nat.le_refl _) _, by have := hb2.size; simp; omega, HZ2⟩
      case measure => simp [intOf]

end Go.Proofs.Yteokdkcanckfeaa
