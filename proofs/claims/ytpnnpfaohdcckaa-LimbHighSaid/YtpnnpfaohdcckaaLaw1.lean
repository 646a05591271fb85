/-
  The walks of the statements of layer 1.
-/
import Derived.Test.YtpnnpfaohdcckaaRef1
namespace Go.Proofs.Ytpnnpfaohdcckaa
open Go.RowKit Tw
set_option linter.unusedVariables false

/-- What a statement's call comes to. -/
def Holds (w : World) (e : Ending) (w' : World) : Prop := e = .returned (.bool true) ∧ Below w.heap.size w w'

set_option maxHeartbeats 1000000 in
theorem awake1 (w : World) : Calls Try.prog 10 #[] w (Holds w) := by
  have hlow : sz (val [0, 1, 0]) = 2 := by decide +kernel
  have hbits : nbits 5 = 3 := by decide +kernel
  have Hl := Lib.hid hlow
  have Hb := Lib.hid hbits
  clear hlow hbits
  go_enter Try.func10, Try.ntmps10
  go_wp2_with fail
  refine (limb_add 4294967295 1 1 _ (by omega) (by omega) (by omega) (by omega) (by omega) (by omega)).mono ?_
  rintro e w1 ⟨rfl, hb1⟩
  go_wp2_with fail
  refine (limb_sub 0 1 0 _ (by omega) (by omega) (by omega) (by omega) (by omega) (by omega)).mono ?_
  rintro e w2 ⟨rfl, hb2⟩
  go_wp2_with fail
  refine (limb_mul 2147483648 4 7 0 _ (by omega) (by omega) (by omega) (by omega) (by omega) (by omega) (by omega) (by omega)).mono ?_
  rintro e w3 ⟨rfl, hb3⟩
  go_wp2_with fail
  refine (limb_div 2 7 4 _ (by omega) (by omega) (by omega) (by omega) (by omega) (by omega) (by omega)).mono ?_
  rintro e w4 ⟨rfl, hb4⟩
  go_wp2_with fail
  refine (limb_bits 5 _ (by omega) (by omega)).mono ?_
  rintro e w5 ⟨rfl, rfl⟩
  rw [show nbits (5 : Int).toNat = 3 from Hb.out]
  go_wp2_with fail
  refine (limb_low _ [0, 1, 0] _ (own_lit w4 [0, 1, 0] (small3 (by omega) (by omega) (by omega)) (by simp [maxLen])).rd).mono ?_
  rintro e w5 ⟨rfl, rfl⟩
  rw [Hl.out]
  go_wp2_with fail
  go_ret
  exact ⟨rfl, below_step hb1 (below_step hb2 (below_step hb3 (below_step hb4 (below_new _ _))))⟩

set_option maxHeartbeats 1000000 in
theorem walk_LimbAdds (a b c : Int) (w : World) (a0 : 0 ≤ a) (a1 : a < 4294967296) (b0 : 0 ≤ b) (b1 : b < 4294967296) (c0 : 0 ≤ c) (c1 : c < 4294967296) :
    Calls Try.prog 3 #[.int .u32 a, .int .u32 b, .int .u32 c] w (Holds w) := by
  go_enter Try.func3, Try.ntmps3
  go_wp2_with fail
  refine (awake1 _).mono ?_
  rintro e w1 ⟨rfl, hb1⟩
  go_wp2_with fail
  refine (limb_add _ _ _ _ a0 a1 b0 b1 c0 c1).mono ?_
  rintro e w2 ⟨rfl, hb2⟩
  go_wp2_with fail
  refine (ref1_add _ _ _ _ a0 a1 b0 b1 c0 c1).mono ?_
  rintro e w3 ⟨rfl, hb3⟩
  go_wp2_with fail
  refine (limb_sub _ _ _ _ a0 a1 b0 b1 c0 c1).mono ?_
  rintro e w4 ⟨rfl, hb4⟩
  go_wp2_with fail
  refine (ref1_sub _ _ _ _ a0 a1 b0 b1 c0 c1).mono ?_
  rintro e w5 ⟨rfl, hb5⟩
  go_wp2_with fail
  go_ret
  exact ⟨rfl, below_step hb1 (below_step hb2 (below_step hb3 (below_step hb4 hb5)))⟩

set_option maxHeartbeats 1000000 in
theorem walk_LimbMuls (a b c d : Int) (w : World) (a0 : 0 ≤ a) (a1 : a < 4294967296) (b0 : 0 ≤ b) (b1 : b < 4294967296) (c0 : 0 ≤ c) (c1 : c < 4294967296) (d0 : 0 ≤ d) (d1 : d < 4294967296) :
    Calls Try.prog 4 #[.int .u32 a, .int .u32 b, .int .u32 c, .int .u32 d] w (Holds w) := by
  go_enter Try.func4, Try.ntmps4
  go_wp2_with fail
  refine (awake1 _).mono ?_
  rintro e w1 ⟨rfl, hb1⟩
  go_wp2_with fail
  refine (limb_mul _ _ _ _ _ a0 a1 b0 b1 c0 c1 d0 d1).mono ?_
  rintro e w2 ⟨rfl, hb2⟩
  go_wp2_with fail
  refine (ref1_mul _ _ _ _ _ a0 a1 b0 b1 c0 c1 d0 d1).mono ?_
  rintro e w3 ⟨rfl, hb3⟩
  go_wp2_with fail
  go_ret
  exact ⟨rfl, below_step hb1 (below_step hb2 hb3)⟩

set_option maxHeartbeats 1000000 in
theorem walk_LimbDivs (a b d : Int) (w : World) (a0 : 0 ≤ a) (a1 : a < 4294967296) (b0 : 0 ≤ b) (b1 : b < 4294967296) (d0 : 0 ≤ d) (d1 : d < 4294967296) :
    Calls Try.prog 5 #[.int .u32 a, .int .u32 b, .int .u32 d] w (Holds w) := by
  by_cases h : a < d
  · go_enter Try.func5, Try.ntmps5
    go_wp2_with fail
    refine (awake1 _).mono ?_
    rintro e w1 ⟨rfl, hb1⟩
    go_wp2_with fail
    refine (limb_div _ _ _ _ a0 a1 b0 b1 d0 d1 h).mono ?_
    rintro e w2 ⟨rfl, hb2⟩
    go_wp2_with fail
    refine (ref1_div _ _ _ _ a0 a1 b0 b1 d0 d1 h).mono ?_
    rintro e w3 ⟨rfl, hb3⟩
    go_wp2_with fail
    go_ret
    exact ⟨rfl, below_step hb1 (below_step hb2 hb3)⟩
  · have h' : d ≤ a := by omega
    go_enter Try.func5, Try.ntmps5
    go_wp2_with fail
    refine (awake1 _).mono ?_
    rintro e w1 ⟨rfl, hb1⟩
    go_wp2_with fail
    refine (limb_div_no _ _ _ _ a0 a1 b0 b1 d0 d1 h').mono ?_
    rintro e w2 ⟨rfl, hb2⟩
    go_wp2_with fail
    refine (ref1_div_no _ _ _ _ a0 a1 b0 b1 d0 d1 h').mono ?_
    rintro e w3 ⟨rfl, hb3⟩
    go_wp2_with fail
    go_ret
    exact ⟨rfl, below_step hb1 (below_step hb2 hb3)⟩

set_option maxHeartbeats 1000000 in
theorem walk_LimbLow (a : Int) (v : Value) (l : List Nat) (w : World) (a0 : 0 ≤ a) (a1 : a < 4294967296) (h : Rd w v l) :
    Calls Try.prog 6 #[.int .u32 a, v] w (Holds w) := by
  have hlm := h.len_le
  unfold maxLen at hlm
  obtain ⟨ad, cap, rfl⟩ := h.shape
  by_cases hn : 100 < l.length
  · go_enter Try.func6, Try.ntmps6
    go_wp2_with fail
    refine (awake1 _).mono ?_
    rintro e w1 ⟨rfl, hb1⟩
    go_wp2_with fail
    go_ret
    exact ⟨rfl, hb1⟩
  · go_enter Try.func6, Try.ntmps6
    go_wp2_with fail
    refine (awake1 _).mono ?_
    rintro e w1 ⟨rfl, hb1⟩
    go_wp2_with fail
    refine (limb_bits _ _ a0 a1).mono ?_
    rintro e w2 ⟨rfl, rfl⟩
    go_wp2_with fail
    refine (ref1_bits _ _ a0 a1).mono ?_
    rintro e w2 ⟨rfl, rfl⟩
    go_wp2_with fail
    refine (limb_low _ l _ (h.to hb1)).mono ?_
    rintro e w2 ⟨rfl, rfl⟩
    go_wp2_with fail
    refine (ref1_low _ l _ (h.to hb1)).mono ?_
    rintro e w2 ⟨rfl, rfl⟩
    go_wp2_with fail
    go_ret
    exact ⟨rfl, hb1⟩

end Go.Proofs.Ytpnnpfaohdcckaa
