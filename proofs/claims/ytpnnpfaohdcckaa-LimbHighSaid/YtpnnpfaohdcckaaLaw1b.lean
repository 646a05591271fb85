/-
  The walks of the statements of layer 1: what is told without the document's answer.
-/
import Derived.Test.YtpnnpfaohdcckaaLaw1
namespace Go.Proofs.Ytpnnpfaohdcckaa
open Go.RowKit Tw
set_option linter.unusedVariables false

set_option maxHeartbeats 1000000 in
theorem walk_LimbBack (a b c : Int) (w : World) (a0 : 0 ≤ a) (a1 : a < 4294967296) (b0 : 0 ≤ b) (b1 : b < 4294967296) (c0 : 0 ≤ c) (c1 : c < 4294967296) :
    Calls Try.prog 7 #[.int .u32 a, .int .u32 b, .int .u32 c] w (Holds w) := by
  go_enter Try.func7, Try.ntmps7
  go_wp2_with fail
  refine (awake1 _).mono ?_
  rintro e w1 ⟨rfl, hb1⟩
  go_wp2_with fail
  refine (limb_add _ _ _ _ a0 a1 b0 b1 c0 c1).mono ?_
  rintro e w2 ⟨rfl, hb2⟩
  go_wp2_with fail
  refine (limb_sub _ _ _ _ (by omega) (by omega) b0 b1 c0 c1).mono ?_
  rintro e w3 ⟨rfl, hb3⟩
  go_wp2_with fail
  refine (limb_add _ _ _ _ c0 c1 a0 a1 b0 b1).mono ?_
  rintro e w4 ⟨rfl, hb4⟩
  go_wp2_with fail
  refine (limb_sub _ _ _ _ a0 a1 b0 b1 c0 c1).mono ?_
  rintro e w5 ⟨rfl, hb5⟩
  go_wp2_with fail
  refine (limb_add _ _ _ _ (by omega) (by omega) b0 b1 c0 c1).mono ?_
  rintro e w6 ⟨rfl, hb6⟩
  go_wp2_with fail
  go_ret
  exact ⟨ret_bool (decide_eq_true (by omega)), below_step hb1 (below_step hb2 (below_step hb3 (below_step hb4 (below_step hb5 hb6))))⟩

set_option maxHeartbeats 1000000 in
theorem walk_LimbWhole (a b c lo : Int) (w : World) (a0 : 0 ≤ a) (a1 : a < 4294967296) (b0 : 0 ≤ b) (b1 : b < 4294967296) (c0 : 0 ≤ c) (c1 : c < 4294967296) (l0 : 0 ≤ lo) (l1 : lo < 4294967296) :
    Calls Try.prog 8 #[.int .u32 a, .int .u32 b, .int .u32 c, .int .u32 lo] w (Holds w) := by
  have hm0 : 0 ≤ a * b := Int.mul_nonneg a0 b0
  have hm : a * b ≤ 4294967295 * b := Int.mul_le_mul_of_nonneg_right (by omega) b0
  by_cases hcb : c < b
  · have Hq := Lib.hid (show (a * b + c) / b = a by rw [Int.add_comm, Int.add_mul_ediv_right _ _ (by omega), Int.ediv_eq_zero_of_lt c0 hcb]; omega)
    have Hr := Lib.hid (show (a * b + c) % b = c by rw [Int.add_comm, Int.add_mul_emod_self_right, Int.emod_eq_of_lt c0 hcb])
    have He := Lib.hid (show (a * b + c) / 4294967296 * 4294967296 + (a * b + c) % 4294967296 = a * b + c by omega)
    by_cases hab : a < b
    · have q0 : 0 ≤ (a * 4294967296 + lo) / b := Int.ediv_nonneg (by omega) (by omega)
      have hm2 := Int.mul_le_mul_of_nonneg_right (show a ≤ b - 1 by omega) (show (0 : Int) ≤ 4294967296 by omega)
      have q1 : (a * 4294967296 + lo) / b < 4294967296 := by
        apply Int.ediv_lt_of_lt_mul (by omega)
        have : (b : Int) * 4294967296 = (b - 1) * 4294967296 + 4294967296 := by omega
        omega
      have r0 : 0 ≤ (a * 4294967296 + lo) % b := Int.emod_nonneg _ (by omega)
      have r1 : (a * 4294967296 + lo) % b < b := Int.emod_lt_of_pos _ (by omega)
      have Hs := Lib.hid (show (a * 4294967296 + lo) / b * b + (a * 4294967296 + lo) % b = a * 4294967296 + lo by rw [Int.mul_comm]; exact Int.mul_ediv_add_emod _ _)
      have He1 := Lib.hid (show (a * 4294967296 + lo) / 4294967296 = a by omega)
      have He2 := Lib.hid (show (a * 4294967296 + lo) % 4294967296 = lo by omega)
      go_enter Try.func8, Try.ntmps8
      go_wp2_with fail
      refine (awake1 _).mono ?_
      rintro e w1 ⟨rfl, hb1⟩
      go_wp2_with fail
      refine (limb_mul _ _ _ 0 _ a0 a1 b0 b1 c0 c1 (by omega) (by omega)).mono ?_
      rintro e w2 ⟨rfl, hb2⟩
      rw [Int.add_zero]
      go_wp2_with fail
      have hh : (a * b + c) / 4294967296 < b := by omega
      refine (limb_div _ _ _ _ (by omega) (by omega) (by omega) (by omega) b0 b1 hh).mono ?_
      rintro e w3 ⟨rfl, hb3⟩
      rw [He.out, Hq.out, Hr.out]
      go_wp2_with fail
      refine (limb_div _ _ _ _ a0 a1 l0 l1 b0 b1 hab).mono ?_
      rintro e w4 ⟨rfl, hb4⟩
      go_wp2_with fail
      refine (limb_mul _ _ _ 0 _ q0 q1 b0 b1 r0 (by omega) (by omega) (by omega)).mono ?_
      rintro e w5 ⟨rfl, hb5⟩
      rw [Int.add_zero, Hs.out]
      go_wp2_with fail
      go_ret
      exact ⟨ret_bool (by first | rfl | exact beq_iff_eq.2 (by omega)), below_step hb1 (below_step hb2 (below_step hb3 (below_step hb4 hb5)))⟩

    · go_enter Try.func8, Try.ntmps8
      go_wp2_with fail
      refine (awake1 _).mono ?_
      rintro e w1 ⟨rfl, hb1⟩
      go_wp2_with fail
      refine (limb_mul _ _ _ 0 _ a0 a1 b0 b1 c0 c1 (by omega) (by omega)).mono ?_
      rintro e w2 ⟨rfl, hb2⟩
      rw [Int.add_zero]
      go_wp2_with fail
      have hh : (a * b + c) / 4294967296 < b := by omega
      refine (limb_div _ _ _ _ (by omega) (by omega) (by omega) (by omega) b0 b1 hh).mono ?_
      rintro e w3 ⟨rfl, hb3⟩
      rw [He.out, Hq.out, Hr.out]
      go_wp2_with fail
      refine (limb_div_no _ _ _ _ a0 a1 l0 l1 b0 b1 (by omega)).mono ?_
      rintro e w4 ⟨rfl, hb4⟩
      go_wp2_with fail
      go_ret
      exact ⟨ret_bool (by first | rfl | exact decide_eq_true (by omega)), below_step hb1 (below_step hb2 (below_step hb3 hb4))⟩

  · by_cases hab : a < b
    · have q0 : 0 ≤ (a * 4294967296 + lo) / b := Int.ediv_nonneg (by omega) (by omega)
      have hm2 := Int.mul_le_mul_of_nonneg_right (show a ≤ b - 1 by omega) (show (0 : Int) ≤ 4294967296 by omega)
      have q1 : (a * 4294967296 + lo) / b < 4294967296 := by
        apply Int.ediv_lt_of_lt_mul (by omega)
        have : (b : Int) * 4294967296 = (b - 1) * 4294967296 + 4294967296 := by omega
        omega
      have r0 : 0 ≤ (a * 4294967296 + lo) % b := Int.emod_nonneg _ (by omega)
      have r1 : (a * 4294967296 + lo) % b < b := Int.emod_lt_of_pos _ (by omega)
      have Hs := Lib.hid (show (a * 4294967296 + lo) / b * b + (a * 4294967296 + lo) % b = a * 4294967296 + lo by rw [Int.mul_comm]; exact Int.mul_ediv_add_emod _ _)
      have He1 := Lib.hid (show (a * 4294967296 + lo) / 4294967296 = a by omega)
      have He2 := Lib.hid (show (a * 4294967296 + lo) % 4294967296 = lo by omega)
      go_enter Try.func8, Try.ntmps8
      go_wp2_with fail
      refine (awake1 _).mono ?_
      rintro e w1 ⟨rfl, hb1⟩
      go_wp2_with fail
      refine (limb_mul _ _ _ 0 _ a0 a1 b0 b1 c0 c1 (by omega) (by omega)).mono ?_
      rintro e w2 ⟨rfl, hb2⟩
      rw [Int.add_zero]
      go_wp2_with fail
      refine (limb_div _ _ _ _ a0 a1 l0 l1 b0 b1 hab).mono ?_
      rintro e w4 ⟨rfl, hb4⟩
      go_wp2_with fail
      refine (limb_mul _ _ _ 0 _ q0 q1 b0 b1 r0 (by omega) (by omega) (by omega)).mono ?_
      rintro e w5 ⟨rfl, hb5⟩
      rw [Int.add_zero, Hs.out]
      go_wp2_with fail
      go_ret
      exact ⟨ret_bool (by first | rfl | exact beq_iff_eq.2 (by omega)), below_step hb1 (below_step hb2 (below_step hb4 hb5))⟩

    · go_enter Try.func8, Try.ntmps8
      go_wp2_with fail
      refine (awake1 _).mono ?_
      rintro e w1 ⟨rfl, hb1⟩
      go_wp2_with fail
      refine (limb_mul _ _ _ 0 _ a0 a1 b0 b1 c0 c1 (by omega) (by omega)).mono ?_
      rintro e w2 ⟨rfl, hb2⟩
      rw [Int.add_zero]
      go_wp2_with fail
      refine (limb_div_no _ _ _ _ a0 a1 l0 l1 b0 b1 (by omega)).mono ?_
      rintro e w4 ⟨rfl, hb4⟩
      go_wp2_with fail
      go_ret
      exact ⟨ret_bool (by first | rfl | exact decide_eq_true (by omega)), below_step hb1 (below_step hb2 hb4)⟩

set_option maxRecDepth 100000 in
set_option maxHeartbeats 1000000 in
theorem walk_LimbHigh (a : Int) (v : Value) (l : List Nat) (more : Int) (w : World) (a0 : 0 ≤ a) (a1 : a < 4294967296) (h : Rd w v l) (m0 : 0 ≤ more) (m1 : more < 256) :
    Calls Try.prog 9 #[.int .u32 a, v, .int .u8 more] w (Holds w) := by
  have hlm := h.len_le
  unfold maxLen at hlm
  obtain ⟨more, rfl⟩ := Int.eq_ofNat_of_zero_le m0
  obtain ⟨ad, cap, rfl⟩ := h.shape
  by_cases hn : 100 < l.length
  · go_enter Try.func9, Try.ntmps9
    go_wp2_with fail
    refine (awake1 _).mono ?_
    rintro e w1 ⟨rfl, hb1⟩
    go_wp2_with fail
    go_ret
    exact ⟨rfl, hb1⟩
  · go_enter Try.func9, Try.ntmps9
    go_wp2_with fail
    refine (awake1 _).mono ?_
    rintro e w1 ⟨rfl, hb1⟩
    have h1 := h.to hb1
    go_wp2_with fail
    have hnb : nbits a.toNat ≤ 32 := nbits_le.2 (by omega)
    have hlw : sz (val l) ≤ l.length := sz_val h.1
    have hlc := h.len_cap
    refine (limb_bits _ _ a0 a1).mono ?_
    rintro e w2 ⟨rfl, rfl⟩
    go_wp2_with fail
    refine (limb_low _ l _ h1).mono ?_
    rintro e w2 ⟨rfl, rfl⟩
    have Hlong := Lib.hid (congrArg sz (val_zeros l more))
    have Htake := Lib.hid (sz_take h.1)
    have Hlast := Lib.hid (show sz (val l) ≠ 0 → nth l (sz (val l) - 1) ≠ 0 from nth_last h.1)
    have Hs7 := Lib.hid (show ∀ x, Small x → sz (val (x ++ [7])) = x.length + 1 from fun x hx => sz_snoc hx (by decide) (by decide))
    have Hodd := Lib.hid (nbits_odd a.toNat)
    have Hle := Lib.hid (show nbits a.toNat < 32 → a < 2147483648 from fun hh => by have := nbits_lt a.toNat; have := Nat.pow_le_pow_right (n := 2) (by omega) (show nbits a.toNat ≤ 31 by omega); omega)
    -- what comes behind, in a world that keeps what was there
    generalize hnbe : nbits a.toNat = nb at *
    generalize hlwe : sz (val l) = lw at *
    have Hnbe := Lib.hid hnbe
    have Hlwe := Lib.hid hlwe
    clear hnbe hlwe
    by_cases hb32 : nb < 32
    · have ha31 := Hle.out hb32
      go_wp2_with (first
        | (at_builtin; refine wp_append _ rfl (.tmp 20) (.tmp 21) rfl w1.heap.size _ _ [] l rfl rfl (own_lit w1 [] small_nil (by simp)) (h1.alloc _) (by simp) (by simp; omega) ?_; intro v2 w2 hown2 hb2 hs2)
        | (at_builtin; refine wp_append_zeros _ rfl (.tmp 22) (.tmp 24) rfl w1.heap.size _ _ _ more rfl rfl rfl hown2 hs2 (by simp; omega) ?_; intro v3 w3 hown3 hb3 hs3; obtain ⟨a3, n3, c3, rfl, Hn3, _⟩ := hown3.rd.open; have hm3 : n3 ≤ 400 := (by have := Hn3.out; simp at this; omega)))
      refine (limb_bits _ _ (by omega) (by omega)).mono ?_
      rintro e w4 ⟨rfl, rfl⟩
      rw [show nbits (2 * a + 1).toNat = nb + 1 by rw [← Hodd.out]; congr 1; omega]
      go_wp2_with fail
      have hB3 : Below w1.heap.size w1 w3 := ((below_new _ _).trans hb2).trans hb3
      have h3 := h1.to hB3
      refine (limb_low _ _ _ hown3.rd).mono ?_
      rintro e w4 ⟨rfl, rfl⟩
      rw [show sz (val ([] ++ l ++ List.replicate more 0)) = lw by rw [List.nil_append, Hlong.out]]
      go_wp2_with fail
      refine (limb_low _ _ _ (h3.take lw hlw)).mono ?_
      rintro e w4 ⟨rfl, rfl⟩
      rw [show sz (val (l.take lw)) = lw from Htake.out]
      by_cases h0 : lw = 0
      · subst h0
        go_wp2_with (at_builtin; refine guarded rfl ?_; refine wp_append _ rfl (.tmp 83) (.tmp 84) rfl w1.heap.size _ _ _ [7] rfl rfl (hown3.alloc _) (own_lit w3 [7] (small1 (by omega)) (by simp [maxLen])).rd (by simp; omega) (by simp; omega) ?_; intro v4 w4 hown4 hb4 hs4)
        refine (limb_low _ _ _ hown4.rd).mono ?_
        rintro e w5 ⟨rfl, rfl⟩
        rw [Hs7.out _ hown3.1, Hn3.out]
        go_wp2_with fail
        go_ret
        exact ⟨ret_bool (by simp), below_step hb1 ((hB3.trans ((below_new _ _).mono hs3)).trans hb4)⟩
      · obtain ⟨b, off, rfl, _, hlc, hcm, hcell⟩ := h3.at (by omega)
        have hc := hcell (lw - 1) (by omega)
        have hne := Hlast.out h0
        have hz : ((nth l (lw - 1) : Int) != 0) = true := by simp; omega
        have hl0 : ((lw : Int) == 0) = false := by simp; omega
        clear hne hcell
        go_wp2_with (at_builtin; refine guarded rfl ?_; refine wp_append _ rfl (.tmp 83) (.tmp 84) rfl w1.heap.size _ _ _ [7] rfl rfl (hown3.alloc _) (own_lit w3 [7] (small1 (by omega)) (by simp [maxLen])).rd (by simp; omega) (by simp; omega) ?_; intro v4 w4 hown4 hb4 hs4)
        refine (limb_low _ _ _ hown4.rd).mono ?_
        rintro e w5 ⟨rfl, rfl⟩
        rw [Hs7.out _ hown3.1, Hn3.out]
        go_wp2_with fail
        go_ret
        exact ⟨ret_bool (by simp), below_step hb1 ((hB3.trans ((below_new _ _).mono hs3)).trans hb4)⟩
    · go_wp2_with (first
        | (at_builtin; refine wp_append _ rfl (.tmp 20) (.tmp 21) rfl w1.heap.size _ _ [] l rfl rfl (own_lit w1 [] small_nil (by simp)) (h1.alloc _) (by simp) (by simp; omega) ?_; intro v2 w2 hown2 hb2 hs2)
        | (at_builtin; refine wp_append_zeros _ rfl (.tmp 22) (.tmp 24) rfl w1.heap.size _ _ _ more rfl rfl rfl hown2 hs2 (by simp; omega) ?_; intro v3 w3 hown3 hb3 hs3; obtain ⟨a3, n3, c3, rfl, Hn3, _⟩ := hown3.rd.open; have hm3 : n3 ≤ 400 := (by have := Hn3.out; simp at this; omega)))
      have hB3 : Below w1.heap.size w1 w3 := ((below_new _ _).trans hb2).trans hb3
      have h3 := h1.to hB3
      refine (limb_low _ _ _ hown3.rd).mono ?_
      rintro e w4 ⟨rfl, rfl⟩
      rw [show sz (val ([] ++ l ++ List.replicate more 0)) = lw by rw [List.nil_append, Hlong.out]]
      go_wp2_with fail
      refine (limb_low _ _ _ (h3.take lw hlw)).mono ?_
      rintro e w4 ⟨rfl, rfl⟩
      rw [show sz (val (l.take lw)) = lw from Htake.out]
      by_cases h0 : lw = 0
      · subst h0
        go_wp2_with (at_builtin; refine guarded rfl ?_; refine wp_append _ rfl (.tmp 83) (.tmp 84) rfl w1.heap.size _ _ _ [7] rfl rfl (hown3.alloc _) (own_lit w3 [7] (small1 (by omega)) (by simp [maxLen])).rd (by simp; omega) (by simp; omega) ?_; intro v4 w4 hown4 hb4 hs4)
        refine (limb_low _ _ _ hown4.rd).mono ?_
        rintro e w5 ⟨rfl, rfl⟩
        rw [Hs7.out _ hown3.1, Hn3.out]
        go_wp2_with fail
        go_ret
        exact ⟨ret_bool (by simp), below_step hb1 ((hB3.trans ((below_new _ _).mono hs3)).trans hb4)⟩
      · obtain ⟨b, off, rfl, _, hlc, hcm, hcell⟩ := h3.at (by omega)
        have hc := hcell (lw - 1) (by omega)
        have hne := Hlast.out h0
        have hz : ((nth l (lw - 1) : Int) != 0) = true := by simp; omega
        have hl0 : ((lw : Int) == 0) = false := by simp; omega
        clear hne hcell
        go_wp2_with (at_builtin; refine guarded rfl ?_; refine wp_append _ rfl (.tmp 83) (.tmp 84) rfl w1.heap.size _ _ _ [7] rfl rfl (hown3.alloc _) (own_lit w3 [7] (small1 (by omega)) (by simp [maxLen])).rd (by simp; omega) (by simp; omega) ?_; intro v4 w4 hown4 hb4 hs4)
        refine (limb_low _ _ _ hown4.rd).mono ?_
        rintro e w5 ⟨rfl, rfl⟩
        rw [Hs7.out _ hown3.1, Hn3.out]
        go_wp2_with fail
        go_ret
        exact ⟨ret_bool (by simp), below_step hb1 ((hB3.trans ((below_new _ _).mono hs3)).trans hb4)⟩

end Go.Proofs.Ytpnnpfaohdcckaa
