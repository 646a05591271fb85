/-
  The walks of the reference of layer 1.
-/
import Derived.Test.YteokdkcanckfeaaLimb
namespace Go.Proofs.Yteokdkcanckfeaa
open Go.RowKit Tw
set_option linter.unusedVariables false
set_option linter.unusedSimpArgs false

theorem and_one_u32 (x : Int) (h0 : 0 ≤ x) (h1 : x < 4294967296) : bits .and .u32 x 1 = x % 2 := by
  rw [u32_and _ _ h0 h1 (by omega) (by omega)]
  have : (1 : Int).toNat = 1 := rfl
  rw [this, Nat.and_one_is_mod]; omega

theorem bit_step (a b : Int) (k : Nat) (hk : k < 32) : (a * 4294967296 + b) / 2 ^ (31 - k) = 2 * ((a * 4294967296 + b) / 2 ^ (32 - k)) + b / 2 ^ (31 - k) % 2 := by
  obtain ⟨e, he⟩ : ∃ e, 31 - k = e := ⟨_, rfl⟩
  have h32 : 32 - k = e + 1 := by omega
  rw [he, h32, Int.pow_succ, ← Int.ediv_ediv_of_nonneg (Int.le_of_lt (Int.pow_pos (by omega)))]
  have hp : (4294967296 : Int) = 2 * 2 ^ (31 - e) * 2 ^ e := by
    rw [Int.mul_assoc, ← Int.pow_add, show 31 - e + e = 31 by omega]; rfl
  have hd : (a * 4294967296 + b) / 2 ^ e = a * (2 * 2 ^ (31 - e)) + b / 2 ^ e := by
    rw [hp, ← Int.mul_assoc, Int.add_comm, Int.add_mul_ediv_right _ _ (Int.ne_of_gt (Int.pow_pos (by omega))), Int.add_comm]
  rw [hd]
  have : a * (2 * 2 ^ (31 - e)) = 2 * (a * 2 ^ (31 - e)) := by rw [← Int.mul_assoc, Int.mul_comm a 2, Int.mul_assoc]
  rw [this]
  generalize a * 2 ^ (31 - e) = u
  generalize b / 2 ^ e = t
  omega

set_option maxHeartbeats 400000 in
theorem ref1_low (v : Value) (l : List Nat) (w : World) (h : Rd w v l) :
    Calls Try.prog 75 #[v] w fun e w' => e = .returned (.int .i64 (sz (val l) : Nat)) ∧ w = w' := by
  have hlm := h.len_le
  unfold maxLen at hlm
  rcases h.2 with ⟨rfl, a, cap, rfl, hm, hnone⟩ | ⟨b, off, cap, rfl, hpos, hc, hm, hcell⟩
  · go_enter Try.func75, Try.ntmps75
    go_wp2
    go_loop [3, 4] (fun n i => n = .int .i64 0 ∧ i = .int .i64 0) (fun _ _ => 0)
    case atStart => exact ⟨rfl, rfl⟩
    case round =>
      obtain ⟨rfl, rfl⟩ := hrel
      go_wp2
      go_ret
      exact ⟨rfl, rfl⟩
  · go_enter Try.func75, Try.ntmps75
    go_wp2
    go_loop [3, 4] (fun n i => ∃ k m : Nat, k ≤ l.length ∧ i = .int .i64 k ∧ n = .int .i64 m ∧ Hid (sz (val (l.take k)) = m)) (fun _ i => l.length - (intOf i).toNat)
    case atStart => exact ⟨0, 0, by omega, rfl, rfl, rfl⟩
    case round =>
      obtain ⟨k, m, hk, rfl, rfl, H⟩ := hrel
      by_cases hkl : k < l.length
      · have hck := hcell k hkl
        by_cases hz : nth l k = 0
        · have hz' : ((nth l k : Int) != 0) = false := by simp [hz]
          have H2 : Hid (sz (val (l.take (k + 1))) = m) := by unfold Hid; rw [val_take_succ_zero hkl hz]; exact H.out
          clear hz H
          go_wp2_with fail
          go_round
          case rel => exact ⟨k + 1, m, by omega, by go_num, rfl, H2⟩
          case measure => simp [intOf]; omega
        · have hz' : ((nth l k : Int) != 0) = true := by simp; omega
          have H2 : Hid (sz (val (l.take (k + 1))) = k + 1) := by
            unfold Hid
            rw [← sz_def, limbs_val_of_last (h.1.take _) (.inr (by rw [List.length_take, Nat.min_eq_left (by omega), Nat.add_sub_cancel, nth_take (by omega)]; exact hz)), List.length_take]; omega
          clear hz H
          go_wp2_with fail
          go_round
          case rel => exact ⟨k + 1, k + 1, by omega, by go_num, by go_num, H2⟩
          case measure => simp [intOf]; omega
      · have H2 := Lib.hid (show sz (val l) = m by
          have := H.out
          rwa [show k = l.length by omega, List.take_length] at this)
        clear H
        go_wp2_with fail
        go_ret
        exact ⟨ret_one (int_eq (by rw [H2.out])), rfl⟩

end Go.Proofs.Yteokdkcanckfeaa
