/-
  The walks of the reference of layer 1.
-/
import Derived.Test.YtpnnpfaohdcckaaLimb
namespace Go.Proofs.Ytpnnpfaohdcckaa
open Go.RowKit Tw
set_option linter.unusedVariables false

set_option maxHeartbeats 400000 in
theorem ref1_add (a b c : Int) (w : World) (a0 : 0 ≤ a) (a1 : a < 4294967296) (b0 : 0 ≤ b) (b1 : b < 4294967296) (c0 : 0 ≤ c) (c1 : c < 4294967296) :
    Calls Try.prog 12 #[.int .u32 a, .int .u32 b, .int .u32 c] w fun e w' => e = .returned (.tuple #[.int .u32 ((a + b + c) % 4294967296), .int .u32 ((a + b + c) / 4294967296)]) ∧ Below w.heap.size w w' := by
  go_enter Try.func12, Try.ntmps12
  go_wp2_with fail
  go_ret2
  exact ⟨rfl, Below.refl _ _⟩

set_option maxHeartbeats 400000 in
theorem ref1_sub (a b c : Int) (w : World) (a0 : 0 ≤ a) (a1 : a < 4294967296) (b0 : 0 ≤ b) (b1 : b < 4294967296) (c0 : 0 ≤ c) (c1 : c < 4294967296) :
    Calls Try.prog 14 #[.int .u32 a, .int .u32 b, .int .u32 c] w fun e w' => e = .returned (.tuple #[.int .u32 ((a - b - c) % 4294967296), .int .u32 (- ((a - b - c) / 4294967296))]) ∧ Below w.heap.size w w' := by
  go_enter Try.func14, Try.ntmps14
  go_wp2_with fail
  go_loop [8, 10] (fun n br => ∃ k : Nat, k ≤ 2 ∧ n = .int .u64 (a + 4294967296 * k) ∧ br = .int .u32 k ∧ (k = 0 ∨ a + 4294967296 * k < b + c + 4294967296)) (fun _ br => (2 - intOf br).toNat)
  case atStart => exact ⟨0, by omega, by simp, rfl, .inl rfl⟩
  case round =>
    obtain ⟨k, hk, rfl, rfl, hlo⟩ := hrel
    by_cases hlt : a + 4294967296 * k < b + c
    · have H := Lib.hid hlo
      clear hlo
      go_wp2_with fail
      go_round
      case rel => exact ⟨k + 1, by omega, by go_num, by go_num, .inr (by omega)⟩
      case measure => simp [intOf]; omega
    · have H := Lib.hid hlo
      clear hlo
      go_wp2_with fail
      go_ret2
      have hh := H.out
      exact ⟨ret_two (int_eq (by omega)) (int_eq (by omega)), Below.refl _ _⟩

set_option maxHeartbeats 400000 in
theorem ref1_mul (a b c d : Int) (w : World) (a0 : 0 ≤ a) (a1 : a < 4294967296) (b0 : 0 ≤ b) (b1 : b < 4294967296) (c0 : 0 ≤ c) (c1 : c < 4294967296) (d0 : 0 ≤ d) (d1 : d < 4294967296) :
    Calls Try.prog 16 #[.int .u32 a, .int .u32 b, .int .u32 c, .int .u32 d] w fun e w' =>
      e = .returned (.tuple #[.int .u32 ((a * b + c + d) / 4294967296), .int .u32 ((a * b + c + d) % 4294967296)]) ∧ Below w.heap.size w w' := by
  have hm : a * b ≤ 4294967295 * 4294967295 := Int.mul_le_mul (by omega) (by omega) (by omega) (by omega)
  have hm0 : 0 ≤ a * b := Int.mul_nonneg (by omega) (by omega)
  go_enter Try.func16, Try.ntmps16
  go_wp2_with fail
  go_ret2
  exact ⟨rfl, Below.refl _ _⟩

theorem and_one_u32 (x : Int) (h0 : 0 ≤ x) (h1 : x < 4294967296) : bits .and .u32 x 1 = x % 2 := by
  rw [u32_and _ _ h0 h1 (by omega) (by omega)]
  have : (1 : Int).toNat = 1 := rfl
  rw [this, Nat.and_one_is_mod]; omega

theorem bit_step (a b : Int) (k : Nat) (hk : k < 32) : (a * 4294967296 + b) / 2 ^ (31 - k) = 2 * ((a * 4294967296 + b) / 2 ^ (32 - k)) + b / 2 ^ (31 - k) % 2 := by
  obtain ⟨e, he⟩ : ∃ e, 31 - k = e := ⟨_, rfl⟩
  have h32 : 32 - k = e + 1 := by omega
  rw [he, h32, Int.pow_succ, ← Int.ediv_ediv_of_nonneg (Int.le_of_lt (Int.pow_pos (by omega)))]
  have hp : (4294967296 : Int) = 2 * 2 ^ (31 - e) * 2 ^ e := by
    rw [Int.mul_assoc, ← Int.pow_add, show 31 - e + e = 31 by omega]; rfl
  have hd : (a * 4294967296 + b) / 2 ^ e = a * (2 * 2 ^ (31 - e)) + b / 2 ^ e := by
    rw [hp, ← Int.mul_assoc, Int.add_comm, Int.add_mul_ediv_right _ _ (Int.ne_of_gt (Int.pow_pos (by omega))), Int.add_comm]
  rw [hd]
  have : a * (2 * 2 ^ (31 - e)) = 2 * (a * 2 ^ (31 - e)) := by rw [← Int.mul_assoc, Int.mul_comm a 2, Int.mul_assoc]
  rw [this]
  generalize a * 2 ^ (31 - e) = u
  generalize b / 2 ^ e = t
  omega

set_option maxHeartbeats 400000 in
theorem ref1_div_no (a b d : Int) (w : World) (a0 : 0 ≤ a) (a1 : a < 4294967296) (b0 : 0 ≤ b) (b1 : b < 4294967296) (d0 : 0 ≤ d) (d1 : d < 4294967296) (h : d ≤ a) :
    Calls Try.prog 18 #[.int .u32 a, .int .u32 b, .int .u32 d] w fun e w' => e = .returned (.tuple #[.int .u32 0, .int .u32 0, .bool false]) ∧ Below w.heap.size w w' := by
  go_enter Try.func18, Try.ntmps18
  go_wp2_with fail
  go_ret3
  exact ⟨rfl, Below.refl _ _⟩

set_option maxHeartbeats 400000 in
theorem ref1_div (a b d : Int) (w : World) (a0 : 0 ≤ a) (a1 : a < 4294967296) (b0 : 0 ≤ b) (b1 : b < 4294967296) (d0 : 0 ≤ d) (d1 : d < 4294967296) (h : a < d) :
    Calls Try.prog 18 #[.int .u32 a, .int .u32 b, .int .u32 d] w fun e w' =>
      e = .returned (.tuple #[.int .u32 ((a * 4294967296 + b) / d), .int .u32 ((a * 4294967296 + b) % d), .bool true]) ∧ Below w.heap.size w w' := by
  go_enter Try.func18, Try.ntmps18
  go_wp2_with fail
  go_loop [9, 10, 11] (fun r q i => ∃ k : Nat, k ≤ 32 ∧ i = .int .i64 (31 - k) ∧ ∃ Q R : Int, r = .int .u64 R ∧ q = .int .u64 Q ∧ 0 ≤ Q ∧ Hid (Q < 2 ^ k) ∧ 0 ≤ R ∧ R < d ∧ Hid (Q * d + R = (a * 4294967296 + b) / 2 ^ (32 - k))) (fun _ _ i => (intOf i + 1).toNat)
  case atStart => exact ⟨0, by omega, by simp, 0, a, rfl, rfl, by omega, by unfold Hid; simp, a0, h, by unfold Hid; simp; omega⟩
  case round =>
    obtain ⟨k, hk, rfl, Q, R, rfl, rfl, q0, hq, r0, r1, H⟩ := hrel
    by_cases hk2 : k < 32
    · have q1 : Q < 2147483648 := by
        have h1 := hq.out
        have h2 : (2 : Int) ^ k ≤ 2 ^ 31 := by
          have := Nat.pow_le_pow_right (n := 2) (by omega) (show k ≤ 31 by omega)
          exact_mod_cast this
        omega
      have hb0 : 0 ≤ b / 2 ^ (31 - k) := Int.ediv_nonneg b0 (Int.le_of_lt (Int.pow_pos (by omega)))
      have hb1 : b / 2 ^ (31 - k) < 4294967296 := Int.lt_of_le_of_lt (Int.ediv_le_self _ b0) b1
      have Hand := Lib.hid (and_one_u32 _ hb0 hb1)
      have Hstep := Lib.hid (bit_step a b k hk2)
      have Hq2 := Lib.hid (show Q * 2 < 2 ^ (k + 1) by rw [Int.pow_succ]; have := hq.out; omega)
      go_wp2_with fail
      all_goals
        first
          | have hb2 : b / 2 ^ (31 - k) % 2 = 1 := by
              have hx : (bits BinOp.and IntKind.u32 (b / 2 ^ (31 - k)) 1 == 1) = true := by assumption
              rw [Hand.out] at hx
              simpa using hx
          | have hb2 : b / 2 ^ (31 - k) % 2 = 0 := by
              have hx : (bits BinOp.and IntKind.u32 (b / 2 ^ (31 - k)) 1 == 1) = false := by assumption
              rw [Hand.out] at hx
              simp only [beq_eq_false_iff_ne] at hx
              omega
        have hs := Hstep.out
        rw [← H.out] at hs
        have hq2 := Hq2.out
        have e1 : 32 - (k + 1) = 31 - k := by omega
        go_round
        case rel =>
          refine ⟨k + 1, by omega, by go_num, _, _, rfl, rfl, by omega, by unfold Hid; omega, by omega, by omega, ?_⟩
          unfold Hid
          rw [e1, hs]
          have e2 : 2 * Q * d = 2 * (Q * d) := Int.mul_assoc _ _ _
          have e3 : (2 * Q + 1) * d = 2 * (Q * d) + d := by rw [Int.add_mul, e2, Int.one_mul]
          first | rw [e3] | rw [e2]
          omega
        case measure => simp [intOf]; omega
    · obtain rfl : k = 32 := by omega
      have hh := H.out
      simp only [Nat.sub_self, Int.pow_zero, Int.ediv_one] at hh
      have q1 : Q < 4294967296 := by have := hq.out; omega
      have h1 : (a * 4294967296 + b) / d = Q := by
        rw [← hh, Int.add_comm, Int.add_mul_ediv_right _ _ (by omega), Int.ediv_eq_zero_of_lt r0 r1]; omega
      have h2 : (a * 4294967296 + b) % d = R := by
        rw [← hh, Int.add_comm, Int.add_mul_emod_self_right, Int.emod_eq_of_lt r0 r1]
      have H1 := Lib.hid h1
      have H2 := Lib.hid h2
      clear h1 h2 hh H
      go_wp2_with fail
      go_ret3
      exact ⟨ret_three (int_eq H1.out.symm) (int_eq H2.out.symm) rfl, Below.refl _ _⟩

set_option maxHeartbeats 400000 in
theorem ref1_bits (x : Int) (w : World) (h0 : 0 ≤ x) (h1 : x < 4294967296) :
    Calls Try.prog 20 #[.int .u32 x] w fun e w' => e = .returned (.int .i64 (nbits x.toNat : Nat)) ∧ w = w' := by
  obtain ⟨x, rfl⟩ := Int.eq_ofNat_of_zero_le h0
  go_enter Try.func20, Try.ntmps20
  go_wp2_with fail
  go_loop [0, 3] (fun a n => ∃ y k : Nat, a = .int .u32 y ∧ n = .int .i64 k ∧ y < 4294967296 ∧ k ≤ 32 ∧ Hid (nbits y + k = nbits x)) (fun a _ => (intOf a).toNat)
  case atStart => exact ⟨x, 0, rfl, rfl, by omega, by omega, rfl⟩
  case round =>
    obtain ⟨y, k, rfl, rfl, hy, hk, H⟩ := hrel
    rcases Nat.eq_zero_or_pos y with rfl | hpos
    · have Hn := Lib.hid (show nbits x = k by have := H.out; rw [nbits_zero] at this; omega)
      go_wp2_with fail
      go_ret
      exact ⟨ret_one (int_eq (by rw [Hn.out])), rfl⟩
    · have hb : nbits y = nbits (y / 2) + 1 := nbits_half hpos
      have hx : nbits x ≤ 32 := nbits_le.2 (by omega)
      have hk2 : k < 32 := by have := H.out; omega
      have H2 : Hid (nbits (y / 2) + (k + 1) = nbits x) := by unfold Hid; have := H.out; omega
      clear hb hx
      go_wp2_with fail
      go_round
      case rel => exact ⟨y / 2, k + 1, by go_num, by go_num, by omega, by omega, H2⟩
      case measure => simp [intOf]; omega

set_option maxHeartbeats 400000 in
theorem ref1_low (v : Value) (l : List Nat) (w : World) (h : Rd w v l) :
    Calls Try.prog 22 #[v] w fun e w' => e = .returned (.int .i64 (sz (val l) : Nat)) ∧ w = w' := by
  have hlm := h.len_le
  unfold maxLen at hlm
  rcases h.2 with ⟨rfl, a, cap, rfl, hm, hnone⟩ | ⟨b, off, cap, rfl, hpos, hc, hm, hcell⟩
  · go_enter Try.func22, Try.ntmps22
    go_wp2
    go_loop [3, 4] (fun n i => n = .int .i64 0 ∧ i = .int .i64 0) (fun _ _ => 0)
    case atStart => exact ⟨rfl, rfl⟩
    case round =>
      obtain ⟨rfl, rfl⟩ := hrel
      go_wp2
      go_ret
      exact ⟨rfl, rfl⟩
  · go_enter Try.func22, Try.ntmps22
    go_wp2
    go_loop [3, 4] (fun n i => ∃ k m : Nat, k ≤ l.length ∧ i = .int .i64 k ∧ n = .int .i64 m ∧ Hid (sz (val (l.take k)) = m)) (fun _ i => l.length - (intOf i).toNat)
    case atStart => exact ⟨0, 0, by omega, rfl, rfl, rfl⟩
    case round =>
      obtain ⟨k, m, hk, rfl, rfl, H⟩ := hrel
      by_cases hkl : k < l.length
      · have hck := hcell k hkl
        by_cases hz : nth l k = 0
        · have hz' : ((nth l k : Int) != 0) = false := by simp [hz]
          have H2 : Hid (sz (val (l.take (k + 1))) = m) := by unfold Hid; rw [val_take_succ_zero hkl hz]; exact H.out
          clear hz H
          go_wp2_with fail
          go_round
          case rel => exact ⟨k + 1, m, by omega, by go_num, rfl, H2⟩
          case measure => simp [intOf]; omega
        · have hz' : ((nth l k : Int) != 0) = true := by simp; omega
          have H2 : Hid (sz (val (l.take (k + 1))) = k + 1) := by
            unfold Hid
            rw [← sz_def, limbs_val_of_last (h.1.take _) (.inr (by rw [List.length_take, Nat.min_eq_left (by omega), Nat.add_sub_cancel, nth_take (by omega)]; exact hz)), List.length_take]; omega
          clear hz H
          go_wp2_with fail
          go_round
          case rel => exact ⟨k + 1, k + 1, by omega, by go_num, by go_num, H2⟩
          case measure => simp [intOf]; omega
      · have H2 := Lib.hid (show sz (val l) = m by
          have := H.out
          rwa [show k = l.length by omega, List.take_length] at this)
        clear H
        go_wp2_with fail
        go_ret
        exact ⟨ret_one (int_eq (by rw [H2.out])), rfl⟩

end Go.Proofs.Ytpnnpfaohdcckaa
