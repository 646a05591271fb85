/-
  The walk of nat.Sub.
-/
import Derived.Test.YteokdkcanckfeaaNat
namespace Go.Proofs.Yteokdkcanckfeaa
open Go.RowKit Tw
set_option linter.unusedVariables false
set_option linter.unusedSimpArgs false

theorem sub_step {base : Nat} {w : World} {n k : Nat} {z la lb : List Nat} {h c : Nat} (hz : Own base w (.slice (some ⟨h, 0, none⟩) n n) z) (hzl : z.length = n)
    (hzv : val (la.take k) + B ^ k * c = val (z.take k) + val (lb.take k)) (hkn : k < n) (hx : nth la k < 4294967296) (hy : nth lb k < 4294967296) (hc : c ≤ 1) :
    ∃ c' : Nat, c' ≤ 1 ∧ - (((nth la k : Int) - nth lb k - c) / 4294967296) = (c' : Int) ∧
    Hid (∃ z' : List Nat, Own base (w.setCell ⟨h, k, none⟩ (.int .u32 (((nth la k : Int) - nth lb k - c) % 4294967296)))
      (.slice (some ⟨h, 0, none⟩) n n) z' ∧ z'.length = n ∧ val (la.take (k + 1)) + B ^ (k + 1) * c' = val (z'.take (k + 1)) + val (lb.take (k + 1))) := by
  obtain ⟨c', hc'⟩ : ∃ c' : Nat, - (((nth la k : Int) - nth lb k - c) / 4294967296) = (c' : Int) := ⟨(- (((nth la k : Int) - nth lb k - c) / 4294967296)).toNat, by omega⟩
  obtain ⟨d, hd⟩ : ∃ d : Nat, ((nth la k : Int) - nth lb k - c) % 4294967296 = (d : Int) := ⟨(((nth la k : Int) - nth lb k - c) % 4294967296).toNat, by omega⟩
  refine ⟨c', by omega, hc', ?_⟩
  rw [hd]
  refine ⟨z.set k d, own_store hz k d (by simp only [B_eq]; omega), by simpa using hzl, ?_⟩
  rw [val_set_last (by omega), val_take_succ', val_take_succ']
  have hs : nth la k + 4294967296 * c' = d + nth lb k + c := by omega
  have h1 : B ^ (k + 1) * c' = B ^ k * (4294967296 * c') := by rw [Nat.pow_succ, Nat.mul_assoc]; rfl
  have h2 : B ^ k * (nth la k + 4294967296 * c') = B ^ k * (d + nth lb k + c) := by rw [hs]
  rw [Nat.mul_add, Nat.mul_add, Nat.mul_add] at h2
  rw [h1]
  omega

set_option maxHeartbeats 1000000 in
theorem nat_sub_no (va vb : Value) (la lb : List Nat) (w : World) (ha : Rd w va la) (hb : Rd w vb lb) (h : val la < val lb) :
    Calls Try.prog 85 #[va, vb] w fun e w' => e = .returned (.tuple #[.slice none 0 0, .bool false]) ∧ Below w.heap.size w w' := by
  have Hc := Lib.hid (cmpN_lt h)
  go_enter Try.func85, Try.ntmps85
  go_wp2_with fail
  refine (nat_cmp _ _ _ _ _ ha hb).mono ?_
  rintro e w1 ⟨rfl, hb1⟩
  rw [Hc.out]
  go_wp2_with fail
  go_ret2
  exact ⟨rfl, hb1⟩

/-- What a call that answers a slice of words, and true, leaves. -/
def GivesOk (w : World) (l : List Nat) (e : Ending) (w' : World) : Prop :=
  ∃ v, e = .returned (.tuple #[v, .bool true]) ∧ Own w.heap.size w' v l ∧ Below w.heap.size w w'

set_option maxRecDepth 100000 in
set_option maxHeartbeats 4000000 in
theorem nat_sub (va vb : Value) (la lb : List Nat) (w : World) (ha : Rd w va la) (hb : Rd w vb lb) (hla : la.length ≤ 1000000) (h : val lb ≤ val la) :
    Calls Try.prog 85 #[va, vb] w (GivesOk w (limbs (val la - val lb))) := by
  have hc0 : ¬ cmpN (val la) (val lb) < 0 := by have := cmpN_ge.2 h; omega
  have hc1 : 0 ≤ cmpN (val la) (val lb) := by omega
  have hcd : decide (cmpN (val la) (val lb) < 0) = false := by simp; omega
  have hsz := sz_val ha.1
  obtain ⟨aa, na, capa, rfl, Hna, hma⟩ := ha.open
  have hna : na ≤ 1000000 := by have := Hna.out; omega
  have Hszb := Lib.hid (sz_mono h)
  have Hlt := Lib.hid (lt_sz (val la))
  have Hle := Lib.hid h
  clear h hma
  rw [Hna.out] at hsz
  go_enter Try.func85, Try.ntmps85
  go_wp2_with fail
  refine (nat_cmp _ _ _ _ _ ha hb).mono ?_
  rintro e w0 ⟨rfl, hb0⟩
  go_wp2_with fail
  refine (limb_low _ _ _ (ha.to hb0)).mono ?_
  rintro e w' ⟨rfl, rfl⟩
  generalize hn : sz (val la) = n at *
  have Hn := Lib.hid hn
  clear hn
  go_wp2_with (at_make; refine wp_make _ rfl _ _ rfl _ _ _ _ n rfl rfl rfl rfl (by omega) ?_; intro w1 hown1 hb1 hs1)
  have hs01 : w.heap.size ≤ w0.heap.size := hb0.size
  go_loopw [8, 19] (fun br i ww => ∃ k c : Nat, k ≤ n ∧ c ≤ 1 ∧ br = .int .u32 c ∧ i = .int .i64 k ∧ Hid (∃ z : List Nat, Own w0.heap.size ww (.slice (some ⟨w0.heap.size, 0, none⟩) n n) z ∧ z.length = n ∧
      val (la.take k) + B ^ k * c = val (z.take k) + val (lb.take k)) ∧ Below w.heap.size w ww ∧ w0.heap.size < ww.heap.size) (fun _ i _ => n - (intOf i).toNat)
  case atStart => exact ⟨0, 0, Nat.zero_le _, by omega, rfl, rfl, ⟨List.replicate n 0, hown1, by simp, by simp [val]⟩, hb0.trans (hb1.mono hs01), hs1⟩
  case round =>
    obtain ⟨k, c, hk, hc, rfl, rfl, HZ, hbw, hsw⟩ := hrel
    obtain ⟨z, hz, hzl, hzv⟩ := HZ.out
    have Hzl := Lib.hid hzl
    have Hzv := Lib.hid hzv
    clear HZ hzl hzv
    by_cases hkn : k < n
    · have hB := hb.to hbw
      obtain ⟨ba, offa, rfl, hcella⟩ := (ha.to hbw).cells (by rw [Hna.out]; omega)
      have hxa := hcella k (by rw [Hna.out]; omega)
      have hi1 : (k : Int) < (n : Int) := by omega
      have hi2 : (k : Int) < (na : Int) := by omega
      have hx := ha.1.nth k
      have hy := hb.1.nth k
      simp only [B_eq] at hx hy
      clear hcella
      go_wp2_with fail
      go_region_with (first
        | (go_at_call 63; refine (nat_at _ _ _ _ hB.drew (by omega)).mono ?_; rintro e w' ⟨rfl, rfl⟩)
        | (go_at_call 88; refine (limb_sub _ _ _ _ (by omega) (by omega) (by omega) (by omega) (by omega) (by omega)).mono ?_; rintro e w2 ⟨rfl, hb2⟩;
           have hz2 := hz.drew.to hb2; obtain ⟨q1, q2⟩ := own_cell2 hz2 (show k < z.length by rw [Hzl.out]; omega)))
      all_goals
        clear q1 q2 hxa
        obtain ⟨c', hc', hce, hst⟩ := sub_step hz2 Hzl.out Hzv.out hkn hx hy hc
        have Hce := Lib.hid hce
        clear hce
        go_wp2_with fail
        go_roundw
        case measure => simp [intOf]; omega
        case rel => exact ⟨k + 1, c', by omega, hc', int_eq Hce.out, by go_num, hst, ((hbw.drew.trans (hb2.mono (by simp; omega)))).setCell hs01 _, by have := hb2.size; simp at this ⊢; omega⟩
    · have Hv := Lib.hid (show val z = val la - val lb by
        have h1 := Hzv.out
        have h2 := hz.1
        have h3 := val_lt h2
        have hkn2 : k = n := by omega
        rw [Hzl.out] at h3
        have h4 : val (la.take n) = val la := by rw [← Hn.out]; exact val_take_sz ha.1
        have h5 : val (lb.take n) = val lb := by
          have h7 := Hszb.out
          exact val_take_ge hb.1 h7
        rw [hkn2, h4, h5, val_take_all (l := z) (by rw [Hzl.out]; exact Nat.le_refl _)] at h1
        have h8 := Hlt.out
        have h9 := Hle.out
        rcases Nat.eq_zero_or_pos c with rfl | hcp
        · omega
        · obtain rfl : c = 1 := by omega
          omega)
      go_wp2_with fail
      refine (nat_trim _ _ _ hz.rd (by rw [Hzl.out]; omega)).mono ?_
      rintro e w3 ⟨v, rfl, hv, hb3⟩
      go_wp2_with fail
      go_ret2
      exact ⟨_, rfl, by rw [← Hv.out]; exact hv.mono (by omega), hbw.trans (hb3.mono (by omega))⟩

end Go.Proofs.Yteokdkcanckfeaa
