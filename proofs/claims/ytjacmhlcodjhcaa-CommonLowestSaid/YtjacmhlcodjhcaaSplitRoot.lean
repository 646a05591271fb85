/-
  The walks of split.Half and split.Root.
-/
import Derived.Test.YtjacmhlcodjhcaaSplitDiv
namespace Go.Proofs.Ytjacmhlcodjhcaa
open Go.RowKit Tw
set_option linter.unusedVariables false
set_option linter.unusedSimpArgs false

set_option maxHeartbeats 1000000 in
theorem split_half (va : Value) (la : List Nat) (o : Bool) (w : World) (ha : Rd w va la) (hla : la.length ≤ 1000000) (ho : Hid ((val la % 2 == 1) = o)) :
    Calls Try.prog 28 #[va] w fun e w' => ∃ v, e = .returned (.tuple #[v, .bool o]) ∧ Own w.heap.size w' v (limbs (val la / 2)) ∧ Below w.heap.size w w' := by
  have H := Lib.hid (show (((val la : Nat) : Int) % 2 == 1) = o by
    rw [← ho.out, show ((val la : Nat) : Int) % 2 = ((val la % 2 : Nat) : Int) by omega]
    rcases Nat.mod_two_eq_zero_or_one (val la) with h | h <;> rw [h] <;> rfl)
  go_enter Try.func28, Try.ntmps28
  go_wp2_with fail
  refine (split_small _ la 2 _ ha hla (by omega) (by omega)).mono ?_
  rintro e w1 ⟨v, rfl, hv, hb⟩
  go_wp2_with fail
  go_ret2
  exact ⟨v, ret_two rfl (congrArg Value.bool H.out), hv, hb⟩

/-- The number that a slice of words reads as. -/
def rdWord (w : World) (b o : Nat) : Nat := match w.cell? ⟨b, o, none⟩ with
  | some (.int _ n) => n.toNat
  | _ => 0
def rdVal (w : World) : Value → Nat
  | .slice (some ⟨b, off, none⟩) n _ => val ((List.range n).map fun i => rdWord w b (off + i))
  | _ => 0

theorem rdVal_rd {w : World} {v : Value} {l : List Nat} (h : Rd w v l) : rdVal w v = val l := by
  rcases h.2 with ⟨rfl, a, cap, rfl, _⟩ | ⟨b, off, cap, rfl, hl, hc, hm, hcell⟩
  · rcases a with _ | ⟨b, off, _ | s⟩ <;> rfl
  · show val _ = val l
    congr 1
    apply List.ext_getElem
    · simp
    · intro i h1 h2
      simp only [List.getElem_map, List.getElem_range]
      unfold rdWord
      rw [hcell i h2]
      simp [nth_of h2]

theorem val_one1 : val [1] = 1 := by decide

theorem sz_pow2 (j : Nat) : sz (2 ^ j) ≤ j / 32 + 1 := by
  apply sz_le
  rw [show B = 2 ^ 32 from rfl, ← Nat.pow_mul]
  exact Nat.pow_lt_pow_right (by omega) (by omega)

theorem newton_start {n : Nat} (h : n ≠ 0) : n < (2 ^ ((nbits n + 1) / 2) + 1) * (2 ^ ((nbits n + 1) / 2) + 1) := by
  have h1 := nbits_lt n
  have h2 : 2 ^ nbits n ≤ 2 ^ ((nbits n + 1) / 2) * 2 ^ ((nbits n + 1) / 2) := by
    rw [← Nat.pow_add]
    exact Nat.pow_le_pow_right (by omega) (by omega)
  have h3 : 2 ^ ((nbits n + 1) / 2) * 2 ^ ((nbits n + 1) / 2) ≤ (2 ^ ((nbits n + 1) / 2) + 1) * (2 ^ ((nbits n + 1) / 2) + 1) := Nat.mul_le_mul (by omega) (by omega)
  omega

theorem newton_pos {n x : Nat} (hn : n ≠ 0) (hx : 0 < x) : 0 < (x + n / x) / 2 := by
  have h : 2 ≤ x + n / x := by
    rcases Nat.lt_or_ge x 2 with h | h
    · obtain rfl : x = 1 := by omega
      rw [Nat.div_one]; omega
    · exact Nat.le_trans h (Nat.le_add_right _ _)
  omega

set_option maxRecDepth 100000 in
set_option maxHeartbeats 4000000 in
theorem split_root (va : Value) (la : List Nat) (w : World) (ha : Rd w va la) (hla : la.length ≤ 5000) :
    Calls Try.prog 27 #[va] w fun e w' => ∃ (X : Nat) (v : Value), e = .returned v ∧ Own w.heap.size w' v (limbs X) ∧ Below w.heap.size w w' ∧ Hid (X * X ≤ val la ∧ val la < (X + 1) * (X + 1)) := by
  by_cases h0 : val la = 0
  · have H0 := Lib.hid h0
    have Hn := Lib.hid (show nbits (val la) = 0 by rw [h0]; rfl)
    clear h0
    go_enter Try.func27, Try.ntmps27
    go_wp2_with fail
    refine (nat_bits _ la _ ha (by omega)).mono ?_
    rintro e w' ⟨rfl, rfl⟩
    rw [Hn.out]
    go_wp2_with fail
    go_ret
    exact ⟨0, _, rfl, Own.nil _ _, Below.refl _ _, by unfold Hid; rw [H0.out]; omega⟩
  · have hnb : nbits (val la) ≤ 160000 := by
      have h1 := val_lt ha.1
      rw [show B ^ la.length = 2 ^ (32 * la.length) by rw [Nat.pow_mul]; rfl] at h1
      have := nbits_le.2 h1
      omega
    have hnb0 : nbits (val la) ≠ 0 := fun e => h0 (nbits_eq_zero.1 e)
    obtain ⟨c, hc⟩ : ∃ c, nbits (val la) = c := ⟨_, rfl⟩
    have Hst := Lib.hid (newton_start h0)
    rw [hc] at hnb hnb0 Hst
    have Hc := Lib.hid hc
    have Hs := Lib.hid (show (max 0 (min (((c : Int) + 1) / 2) 100000)).toNat = (c + 1) / 2 by omega)
    have hX0 : sz (2 ^ ((c + 1) / 2)) ≤ 6000 := by
      have := sz_pow2 ((c + 1) / 2)
      omega
    have hXp : 0 < 2 ^ ((c + 1) / 2) := Nat.pow_pos (by omega)
    obtain ⟨X0, hX⟩ : ∃ X0, 2 ^ ((c + 1) / 2) = X0 := ⟨_, rfl⟩
    rw [hX] at Hst hX0 hXp
    have Hlit := Lib.hid (show limbs (val [1] * 2 ^ (max 0 (min (((c : Int) + 1) / 2) 100000)).toNat) = limbs X0 by rw [Hs.out, hX, val_one1, Nat.one_mul])
    have H0 := Lib.hid h0
    have hsA := sz_val ha.1
    clear hc hX h0
    go_enter Try.func27, Try.ntmps27
    go_wp2_with fail
    refine (nat_bits _ la _ ha (by omega)).mono ?_
    rintro e w' ⟨rfl, rfl⟩
    rw [Hc.out]
    go_wp2_with fail
    refine (nat_bits _ la _ (ha.alloc _) (by omega)).mono ?_
    rintro e w' ⟨rfl, rfl⟩
    rw [Hc.out]
    go_wp2_with fail
    refine (times_shift _ [1] _ _ (lit1' w rfl (by omega)) (by simp)).mono ?_
    rintro e w1 ⟨v1, rfl, hv1, hb1⟩
    rw [Hlit.out] at hv1
    have hbw1 := below_step (below_new _ _) hb1
    go_wp2_with fail
    go_loopw [3] (fun x ww => ∃ X : Nat, 0 < X ∧ sz X ≤ 6000 ∧ Own w.heap.size ww x (limbs X) ∧ Below w.heap.size w ww ∧ Hid (val la < (X + 1) * (X + 1))) (fun x ww => rdVal ww x)
    case atStart => exact ⟨X0, hXp, hX0, hv1.mono (by simp), hbw1, Hst⟩
    case round =>
      obtain ⟨X, hXp, hXs, hx, hbw, HX⟩ := hrel
      have hs0 := hbw.size
      have hsq := sz_div (val la) X
      go_wp2_with fail
      refine (split_div _ _ la (limbs X) _ (ha.to hbw) hx.rd (by omega) (by rw [sz_def]; omega) (by rw [val_limbs]; exact hXp)).mono ?_
      rintro e w2 ⟨vq, vr, rfl, hq, hr, hb2⟩
      rw [val_limbs] at hq
      have hx2 := hx.to hb2
      have hbw2 := below_step hbw hb2
      go_wp2_with fail
      refine (nat_add _ _ _ _ _ hx2.rd hq.rd (by rw [sz_def]; omega) (by rw [sz_def]; omega)).mono ?_
      rintro e w3 ⟨v3, rfl, hv3, hb3⟩
      rw [val_limbs, val_limbs] at hv3
      have hx3 := hx2.to hb3
      have hbw3 := below_step hbw2 hb3
      have hsa := sz_add X (val la / X)
      go_wp2_with fail
      refine (split_half _ _ _ _ hv3.rd (by rw [sz_def]; omega) (Lib.hid rfl)).mono ?_
      rintro e w4 ⟨v4, rfl, hv4, hb4⟩
      rw [val_limbs] at hv4
      have hx4 := hx3.to hb4
      have hbw4 := below_step hbw3 hb4
      by_cases hge : X ≤ (X + val la / X) / 2
      · have hc : 0 ≤ cmpN (val (limbs ((X + val la / X) / 2))) (val (limbs X)) := by rw [val_limbs, val_limbs]; exact cmpN_ge.2 hge
        have Hend := Lib.hid (newton_stop hXp hge)
        clear hge
        go_wp2_with fail
        refine (nat_cmp _ _ _ _ _ hv4.rd hx4.rd).mono ?_
        rintro e w5 ⟨rfl, hb5⟩
        go_wp2_with fail
        go_ret
        exact ⟨X, _, rfl, hx4.to hb5, below_step hbw4 hb5, Hend.out, HX.out⟩
      · have hc : ¬ 0 ≤ cmpN (val (limbs ((X + val la / X) / 2))) (val (limbs X)) := by rw [val_limbs, val_limbs]; exact fun e => hge (cmpN_ge.1 e)
        have hY0 := newton_pos H0.out hXp
        have Hlt := Lib.hid (Nat.not_le.1 hge)
        have Hnx := Lib.hid (newton_ge (n := val la) hXp)
        have hYs : sz ((X + val la / X) / 2) ≤ 6000 := Nat.le_trans (sz_mono (Nat.le_of_lt Hlt.out)) hXs
        have z2 := hb2.size
        have z3 := hb3.size
        clear hge
        go_wp2_with fail
        refine (nat_cmp _ _ _ _ _ hv4.rd hx4.rd).mono ?_
        rintro e w5 ⟨rfl, hb5⟩
        go_wp2_with fail
        go_roundw
        case rel => exact ⟨_, hY0, hYs, (hv4.mono (by omega)).to hb5, below_step hbw4 hb5, Hnx⟩
        case measure =>
          rw [rdVal_rd (hv4.to hb5).rd, rdVal_rd hx.rd, val_limbs, val_limbs]
          exact Hlt.out

end Go.Proofs.Ytjacmhlcodjhcaa
