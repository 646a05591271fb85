/-
  The walks of package nat: what each call answers, said of numbers.
-/
import Derived.Test.YteokdkcanckfeaaRef1
import Derived.Deep.RegionHeld3
import Derived.Deep.DrawnRows
namespace Go.Proofs.Yteokdkcanckfeaa
open Go.RowKit Tw
set_option linter.unusedVariables false
set_option linter.unusedSimpArgs false

/-- How two integers are to each other. -/
def cmpI (x y : Int) : Int := if x < y then -1 else if y < x then 1 else 0

theorem cmpI_lt {x y : Int} (h : x < y) : cmpI x y = -1 := by simp [cmpI, h]
theorem cmpI_gt {x y : Int} (h : y < x) : cmpI x y = 1 := by
  have : ¬ x < y := by omega
  simp [cmpI, h, this]
theorem cmpI_eq {x y : Int} (h : x = y) : cmpI x y = 0 := by subst h; simp [cmpI]

set_option maxHeartbeats 400000 in
theorem cmp_int (x y : Int) (w : World) :
    Calls Try.prog 58 #[.int .i64 x, .int .i64 y] w fun e w' => e = .returned (.int .i64 (cmpI x y)) ∧ w = w' := by
  rcases Int.lt_trichotomy x y with h | h | h
  · have H := Lib.hid (cmpI_lt h)
    go_enter Try.func58, Try.ntmps58
    go_wp2
    go_ret
    exact ⟨ret_one (int_eq H.out.symm), rfl⟩
  · have H := Lib.hid (cmpI_eq h)
    have h1 : ¬ x < y := by omega
    have h2 : ¬ y < x := by omega
    clear h
    go_enter Try.func58, Try.ntmps58
    go_wp2
    go_ret
    exact ⟨ret_one (int_eq H.out.symm), rfl⟩
  · have H := Lib.hid (cmpI_gt h)
    have h1 : ¬ x < y := by omega
    go_enter Try.func58, Try.ntmps58
    go_wp2
    go_ret
    exact ⟨ret_one (int_eq H.out.symm), rfl⟩

set_option maxHeartbeats 400000 in
theorem cmp_u32 (x y : Int) (w : World) :
    Calls Try.prog 59 #[.int .u32 x, .int .u32 y] w fun e w' => e = .returned (.int .i64 (cmpI x y)) ∧ w = w' := by
  rcases Int.lt_trichotomy x y with h | h | h
  · have H := Lib.hid (cmpI_lt h)
    go_enter Try.func59, Try.ntmps59
    go_wp2
    go_ret
    exact ⟨ret_one (int_eq H.out.symm), rfl⟩
  · have H := Lib.hid (cmpI_eq h)
    have h1 : ¬ x < y := by omega
    have h2 : ¬ y < x := by omega
    clear h
    go_enter Try.func59, Try.ntmps59
    go_wp2
    go_ret
    exact ⟨ret_one (int_eq H.out.symm), rfl⟩
  · have H := Lib.hid (cmpI_gt h)
    have h1 : ¬ x < y := by omega
    go_enter Try.func59, Try.ntmps59
    go_wp2
    go_ret
    exact ⟨ret_one (int_eq H.out.symm), rfl⟩

set_option maxHeartbeats 400000 in
theorem nat_at (v : Value) (l : List Nat) (i : Int) (w : World) (h : Rd w v l) (i0 : 0 ≤ i) :
    Calls Try.prog 63 #[v, .int .i64 i] w fun e w' => e = .returned (u32v (nth l i.toNat)) ∧ w = w' := by
  obtain ⟨k, rfl⟩ := Int.eq_ofNat_of_zero_le i0
  rw [Int.toNat_natCast]
  by_cases hk : k < l.length
  · obtain ⟨a, cap, rfl⟩ := h.shape
    obtain ⟨b, off, rfl, _, hc, hm, hcell⟩ := h.at (by omega)
    have hck := hcell k hk
    clear hcell
    go_enter Try.func63, Try.ntmps63
    go_wp2
    go_ret
    exact ⟨rfl, rfl⟩
  · have H := Lib.hid (nth_ge (Nat.not_lt.1 hk))
    obtain ⟨a, cap, rfl⟩ := h.shape
    go_enter Try.func63, Try.ntmps63
    go_wp2
    go_ret
    exact ⟨ret_one (int_eq (by rw [H.out]; rfl)), rfl⟩

set_option maxHeartbeats 400000 in
theorem nat_right (v : Value) (l : List Nat) (w : World) (h : Rd w v l) :
    Calls Try.prog 22 #[v] w fun e w' => e = .returned (.bool (decide (sz (val l) = l.length))) ∧ w = w' := by
  obtain ⟨a, cap, rfl⟩ := h.shape
  go_enter Try.func22, Try.ntmps22
  go_wp2_with fail
  refine (limb_low _ l _ h).mono ?_
  rintro e w' ⟨rfl, rfl⟩
  go_wp2_with fail
  go_ret
  refine ⟨ret_one (congrArg Value.bool ?_), rfl⟩
  by_cases hh : sz (val l) = l.length
  · simp [hh]
  · have : ¬ ((sz (val l) : Int) = l.length) := by omega
    simp [hh, this]

set_option maxHeartbeats 400000 in
theorem nat_trim (v : Value) (l : List Nat) (w : World) (h : Rd w v l) (hl : l.length ≤ 1000000000) :
    Calls Try.prog 64 #[v] w (Gives w (limbs (val l))) := by
  have hsz := sz_val h.1
  have hlim := limbs_eq_take h.1
  by_cases h0 : sz (val l) = 0
  · have H := Lib.hid (show limbs (val l) = [] by rw [hlim, h0]; rfl)
    go_enter Try.func64, Try.ntmps64
    go_wp2_with fail
    refine (limb_low _ l _ h).mono ?_
    rintro e w' ⟨rfl, rfl⟩
    rw [h0]
    clear h0 hlim
    go_wp2_with fail
    go_ret
    exact ⟨_, rfl, by rw [H.out]; exact Own.nil _ _, Below.refl _ _⟩
  · have H := Lib.hid hlim
    have hne : ((sz (val l) : Int) == 0) = false := by simp; omega
    clear hlim
    go_enter Try.func64, Try.ntmps64
    go_wp2_with fail
    refine (limb_low _ l _ h).mono ?_
    rintro e w' ⟨rfl, rfl⟩
    generalize hn : sz (val l) = n at *
    have Hn := Lib.hid hn
    clear hn
    go_wp2_with (first
      | (at_make; refine wp_make _ rfl _ _ rfl _ _ _ _ n rfl rfl rfl rfl (by omega) ?_; intro w1 hown1 hb1 hs1)
      | (refine wp_copy _ rfl (.tmp 11) (.tmp 12) rfl w.heap.size _ _ _ _ _ l rfl rfl hown1 (h.to hb1) hsz ?_; intro w2 hown2 hb2 hs2))
    go_ret
    exact ⟨_, rfl, by rw [H.out]; exact hown2, hb1.trans hb2⟩

set_option maxHeartbeats 400000 in
theorem nat_of (n : Int) (w : World) (n0 : 0 ≤ n) (n1 : n < 18446744073709551616) :
    Calls Try.prog 60 #[.int .u64 n] w (Gives w (limbs n.toNat)) := by
  obtain ⟨n, rfl⟩ := Int.eq_ofNat_of_zero_le n0
  rw [Int.toNat_natCast]
  have H := Lib.hid (show val [n % 4294967296, n / 4294967296] = n by simp only [val, B_eq]; omega)
  go_enter Try.func60, Try.ntmps60
  go_wp2_with fail
  have e1 : ((n : Int) % 4294967296) = ((n % 4294967296 : Nat) : Int) := by omega
  have e2 : ((n : Int) / 4294967296) = ((n / 4294967296 : Nat) : Int) := by omega
  rw [e1, e2]
  refine (nat_trim _ [n % 4294967296, n / 4294967296] _ (own_lit w [n % 4294967296, n / 4294967296] (small2 (by omega) (by omega)) (by simp [maxLen])).rd (by simp)).mono ?_
  rintro e w1 ⟨v, rfl, hv, hb⟩
  rw [H.out] at hv
  clear e1 e2
  go_wp2_with fail
  go_ret
  exact ⟨_, rfl, hv.mono (by simp), below_step (below_new _ _) hb⟩

set_option maxHeartbeats 400000 in
theorem nat_bits (v : Value) (l : List Nat) (w : World) (h : Rd w v l) (hl : l.length ≤ 1000000) :
    Calls Try.prog 24 #[v] w fun e w' => e = .returned (.int .i64 (nbits (val l) : Nat)) ∧ w = w' := by
  have hsz := sz_val h.1
  obtain ⟨a, cap, rfl⟩ := h.shape
  by_cases h0 : sz (val l) = 0
  · have H := Lib.hid (show nbits (val l) = 0 by rw [sz_eq_zero.1 h0]; rfl)
    go_enter Try.func24, Try.ntmps24
    go_wp2_with fail
    refine (limb_low _ l _ h).mono ?_
    rintro e w' ⟨rfl, rfl⟩
    rw [h0]
    clear h0
    go_wp2_with fail
    go_ret
    exact ⟨ret_one (int_eq (by rw [H.out]; rfl)), rfl⟩
  · have H := Lib.hid (nbits_val h.1 h0)
    have hne : ((sz (val l) : Int) == 0) = false := by simp; omega
    obtain ⟨b, off, rfl, _, hc, hm, hcell⟩ := h.at (by omega)
    have hck := hcell (sz (val l) - 1) (by omega)
    have hlt := h.1.nth (sz (val l) - 1)
    simp only [B_eq] at hlt
    have hnb : nbits (nth l (sz (val l) - 1)) ≤ 32 := nbits_le.2 (by omega)
    clear hcell
    go_enter Try.func24, Try.ntmps24
    go_wp2_with fail
    refine (limb_low _ l _ h).mono ?_
    rintro e w' ⟨rfl, rfl⟩
    generalize hn : sz (val l) = n at *
    have Hn := Lib.hid hn
    clear hn
    go_wp2_with fail
    refine (limb_bits _ _ (by omega) (by omega)).mono ?_
    rintro e w' ⟨rfl, rfl⟩
    rw [Int.toNat_natCast]
    go_wp2_with fail
    go_ret
    exact ⟨ret_one (int_eq (by rw [H.out]; omega)), rfl⟩

set_option maxHeartbeats 1000000 in
theorem nat_cmp (va vb : Value) (la lb : List Nat) (w : World) (ha : Rd w va la) (hb : Rd w vb lb) :
    Calls Try.prog 21 #[va, vb] w fun e w' => e = .returned (.int .i64 (cmpN (val la) (val lb))) ∧ Below w.heap.size w w' := by
  have hsa := sz_val ha.1
  have hsb := sz_val hb.1
  have hma := ha.len_le
  unfold maxLen at hma
  rcases Nat.lt_trichotomy (sz (val la)) (sz (val lb)) with h | h | h
  · have H := Lib.hid (cmp_sz_lt h)
    have hc : cmpI (sz (val la) : Int) (sz (val lb) : Int) = -1 := cmpI_lt (by omega)
    have Hc := Lib.hid hc
    clear hc
    go_enter Try.func21, Try.ntmps21
    go_wp2_with fail
    refine (limb_low _ _ _ ha).mono ?_
    rintro e w' ⟨rfl, rfl⟩
    go_wp2_with fail
    refine (limb_low _ _ _ hb).mono ?_
    rintro e w' ⟨rfl, rfl⟩
    go_wp2_with fail
    refine (cmp_int _ _ _).mono ?_
    rintro e w' ⟨rfl, rfl⟩
    rw [Hc.out]
    go_wp2_with fail
    go_ret
    exact ⟨ret_one (int_eq H.out.symm), Below.refl _ _⟩
  · have hc : cmpI (sz (val la) : Int) (sz (val lb) : Int) = 0 := cmpI_eq (by omega)
    have Hc := Lib.hid hc
    have Hst := Lib.hid (sameTop_start ha.1 hb.1 rfl h.symm)
    have Hn2 := Lib.hid h
    clear hc h
    obtain ⟨aa, capa, rfl⟩ := ha.shape
    obtain ⟨ab, capb, rfl⟩ := hb.shape
    go_enter Try.func21, Try.ntmps21
    go_wp2_with fail
    refine (limb_low _ _ _ ha).mono ?_
    rintro e w' ⟨rfl, rfl⟩
    go_wp2_with fail
    refine (limb_low _ _ _ hb).mono ?_
    rintro e w' ⟨rfl, rfl⟩
    go_wp2_with fail
    refine (cmp_int _ _ _).mono ?_
    rintro e w' ⟨rfl, rfl⟩
    rw [Hc.out]
    rw [← Hn2.out] at hsb
    generalize hn : sz (val la) = n at *
    have Hn := Lib.hid hn
    clear hn
    go_wp2_with fail
    go_loopw [19] (fun i ww => ∃ k : Nat, k ≤ n ∧ i = .int .i64 k ∧ Hid (SameTop la lb (n - k)) ∧ Below w.heap.size w ww) (fun i _ => n - (intOf i).toNat)
    case atStart => exact ⟨0, Nat.zero_le _, rfl, Hst, Below.refl _ _⟩
    case round =>
      obtain ⟨k, hk, rfl, HT, hbw⟩ := hrel
      by_cases hkn : k < n
      · obtain ⟨ba, offa, rfl, _, hca, hcma, hcella⟩ := (ha.to hbw).at (by omega)
        obtain ⟨bb, offb, rfl, _, hcb, hcmb, hcellb⟩ := (hb.to hbw).at (by omega)
        have hxa := hcella (n - 1 - k) (by omega)
        have hxb := hcellb (n - 1 - k) (by omega)
        have hi0 : (0 : Int) ≤ (n : Int) - 1 - k := by omega
        have hi3 : (k : Int) ≤ (n : Int) - 1 := by omega
        have hi1 : (n : Int) - 1 - k < (la.length : Int) := by omega
        have hi2 : (n : Int) - 1 - k < (lb.length : Int) := by omega
        clear hcella hcellb
        go_wp2_with fail
        have e1 : IntKind.i64.wrap ((n : Int) - 1) = (n : Int) - 1 := IntWalk.i64_in _ (by omega)
        have e2 : IntKind.i64.wrap ((n : Int) - 1 - k) = (n : Int) - 1 - k := IntWalk.i64_in _ (by omega)
        have e3 : ((n : Int) - 1 - k).toNat = n - 1 - k := by omega
        go_quiet ((go_at_call 59; exact quiet_l (cmp_u32 _ _ _)))
        clear e1 e2 e3
        have hbw2 := below_drewN hbw nq
        have HT2 : Hid (SameTop la lb (n - 1 - k + 1)) := by unfold Hid; rw [show n - 1 - k + 1 = n - k by omega]; exact HT.out
        generalize wr.drewN nq = w2 at *
        rcases Nat.lt_trichotomy (nth la (n - 1 - k)) (nth lb (n - 1 - k)) with hx | hx | hx
        · have Hr := Lib.hid (cmpN_lt (HT2.out.lt ha.1 hx))
          have hc : cmpI (nth la (n - 1 - k) : Int) (nth lb (n - 1 - k) : Int) = -1 := cmpI_lt (by omega)
          go_wp2_with fail
          go_ret
          exact ⟨ret_one (int_eq (hc.trans Hr.out.symm)), hbw2⟩
        · have Hr : Hid (SameTop la lb (n - (k + 1))) := by unfold Hid; rw [show n - (k + 1) = n - 1 - k by omega]; exact HT2.out.step hx
          have hc : cmpI (nth la (n - 1 - k) : Int) (nth lb (n - 1 - k) : Int) = 0 := cmpI_eq (by omega)
          clear hx
          go_wp2_with fail
          go_roundw
          case rel => exact ⟨k + 1, by omega, by go_num, Hr, hbw2⟩
          case measure => simp [intOf]; omega
        · have Hr := Lib.hid (cmpN_gt (HT2.out.symm.lt hb.1 hx))
          have hc : cmpI (nth la (n - 1 - k) : Int) (nth lb (n - 1 - k) : Int) = 1 := cmpI_gt (by omega)
          go_wp2_with fail
          go_ret
          exact ⟨ret_one (int_eq (hc.trans Hr.out.symm)), hbw2⟩
      · have Hr := Lib.hid (cmpN_eq (show val la = val lb by have := HT.out; rw [show n - k = 0 by omega] at this; exact this.zero))
        go_wp2_with fail
        go_ret
        exact ⟨ret_one (int_eq Hr.out.symm), hbw⟩
  · have H := Lib.hid (cmp_sz_gt h)
    have hc : cmpI (sz (val la) : Int) (sz (val lb) : Int) = 1 := cmpI_gt (by omega)
    have Hc := Lib.hid hc
    clear hc
    go_enter Try.func21, Try.ntmps21
    go_wp2_with fail
    refine (limb_low _ _ _ ha).mono ?_
    rintro e w' ⟨rfl, rfl⟩
    go_wp2_with fail
    refine (limb_low _ _ _ hb).mono ?_
    rintro e w' ⟨rfl, rfl⟩
    go_wp2_with fail
    refine (cmp_int _ _ _).mono ?_
    rintro e w' ⟨rfl, rfl⟩
    rw [Hc.out]
    go_wp2_with fail
    go_ret
    exact ⟨ret_one (int_eq H.out.symm), Below.refl _ _⟩

theorem add_step {base : Nat} {w : World} {n k : Nat} {z la lb : List Nat} {h : Nat} (hz : Own base w (.slice (some ⟨h, 0, none⟩) (n + 1) (n + 1)) z) (hzl : z.length = n + 1)
    (hzv : val (z.take k) + B ^ k * nth z n = val (la.take k) + val (lb.take k)) (hkn : k < n) (hx : nth la k < 4294967296) (hy : nth lb k < 4294967296) (hc : nth z n < 4294967296) :
    Hid (∃ z' : List Nat, Own base ((w.setCell ⟨h, k, none⟩ (.int .u32 (((nth la k : Int) + nth lb k + nth z n) % 4294967296))).setCell ⟨h, n, none⟩ (.int .u32 (((nth la k : Int) + nth lb k + nth z n) / 4294967296)))
      (.slice (some ⟨h, 0, none⟩) (n + 1) (n + 1)) z' ∧ z'.length = n + 1 ∧ val (z'.take (k + 1)) + B ^ (k + 1) * nth z' n = val (la.take (k + 1)) + val (lb.take (k + 1))) := by
  have e1 : ((nth la k : Int) + nth lb k + nth z n) % 4294967296 = (((nth la k + nth lb k + nth z n) % 4294967296 : Nat) : Int) := by omega
  have e2 : ((nth la k : Int) + nth lb k + nth z n) / 4294967296 = (((nth la k + nth lb k + nth z n) / 4294967296 : Nat) : Int) := by omega
  rw [e1, e2]
  refine ⟨(z.set k ((nth la k + nth lb k + nth z n) % 4294967296)).set n ((nth la k + nth lb k + nth z n) / 4294967296), own_store (own_store hz k _ (by simp only [B_eq]; omega)) n _ (by simp only [B_eq]; omega), by simpa using hzl, ?_⟩
  rw [take_set_ge (by omega), val_set_last (by omega), nth_set_eq (by simp; omega), val_take_succ', val_take_succ']
  have hs := Nat.mod_add_div (nth la k + nth lb k + nth z n) 4294967296
  generalize (nth la k + nth lb k + nth z n) % 4294967296 = s at *
  generalize (nth la k + nth lb k + nth z n) / 4294967296 = q at *
  have h1 : B ^ (k + 1) * q = B ^ k * (4294967296 * q) := by rw [Nat.pow_succ, Nat.mul_assoc]; rfl
  rw [h1, Nat.add_assoc, ← Nat.mul_add, hs, Nat.mul_add, Nat.mul_add]
  omega

set_option maxRecDepth 100000 in
set_option maxHeartbeats 4000000 in
theorem nat_add (va vb : Value) (la lb : List Nat) (w : World) (ha : Rd w va la) (hb : Rd w vb lb) (hla : la.length ≤ 1000000) (hlb : lb.length ≤ 1000000) :
    Calls Try.prog 25 #[va, vb] w (Gives w (limbs (val la + val lb))) := by
  obtain ⟨aa, na, capa, rfl, Hna, hma⟩ := ha.open
  obtain ⟨ab, nb, capb, rfl, Hnb, hmb⟩ := hb.open
  have hna : na ≤ 1000000 := by have := Hna.out; omega
  have hnb : nb ≤ 1000000 := by have := Hnb.out; omega
  clear hma hmb
  obtain ⟨n, hn, hn1, hn2, hn3⟩ : ∃ n, max na nb = n ∧ na ≤ n ∧ nb ≤ n ∧ n ≤ 1000000 := ⟨_, rfl, by omega, by omega, by omega⟩
  have hmax : max (na : Int) (nb : Int) = (n : Int) := by omega
  have Hn := Lib.hid hn
  clear hn
  go_enter Try.func25, Try.ntmps25
  go_wp2_with (at_make; refine wp_make _ rfl _ _ rfl _ _ _ _ (n + 1) rfl rfl (by simp) (by simp) (by omega) ?_; intro w1 hown1 hb1 hs1)
  have hlt1 : w.heap.size < w1.heap.size := hs1
  go_loopw [17] (fun i ww => ∃ k : Nat, k ≤ n ∧ i = .int .i64 k ∧ Hid (∃ z : List Nat, Own w.heap.size ww (.slice (some ⟨w.heap.size, 0, none⟩) (n + 1) (n + 1)) z ∧ z.length = n + 1 ∧
      val (z.take k) + B ^ k * nth z n = val (la.take k) + val (lb.take k)) ∧ Below w.heap.size w ww ∧ w.heap.size < ww.heap.size) (fun i _ => n - (intOf i).toNat)
  case atStart => exact ⟨0, Nat.zero_le _, rfl, ⟨List.replicate (n + 1) 0, hown1, by simp, by simp [val, nth_def]⟩, hb1, hs1⟩
  case round =>
    obtain ⟨k, hk, rfl, HZ, hbw, hsw⟩ := hrel
    obtain ⟨z, hz, hzl, hzv⟩ := HZ.out
    have Hzl := Lib.hid hzl
    have Hzv := Lib.hid hzv
    clear HZ hzl hzv
    by_cases hkn : k < n
    · have hA := ha.to hbw
      have hB := hb.to hbw
      obtain ⟨hcn, hfn⟩ := own_cell2 hz (show n < z.length by rw [Hzl.out]; omega)
      have hi1 : (n : Int) < (n : Int) + 1 := by omega
      have hi2 : (k : Int) < (n : Int) + 1 := by omega
      have hx := ha.1.nth k
      have hy := hb.1.nth k
      have hc := hz.1.nth n
      simp only [B_eq] at hx hy hc
      have hne : k ≠ n := by omega
      have hne' : n ≠ k := by omega
      go_wp2_with fail
      go_region_with (first
        | (go_at_call 63; refine (nat_at _ _ _ _ (by first | exact hA.drew | exact hB.drew) (by omega)).mono ?_; rintro e w' ⟨rfl, rfl⟩)
        | (go_at_call 62; refine (limb_add _ _ _ _ (by omega) (by omega) (by omega) (by omega) (by omega) (by omega)).mono ?_; rintro e w2 ⟨rfl, hb2⟩;
           have hz2 := hz.drew.to hb2; obtain ⟨q1, q2⟩ := own_cell2 hz2 (show k < z.length by rw [Hzl.out]; omega); obtain ⟨q3, q4⟩ := own_cell2 hz2 (show n < z.length by rw [Hzl.out]; omega)))
      all_goals
        clear q1 q2 q3 q4 hcn hfn
        go_wp2_with fail
        go_roundw
        case measure => simp [intOf]; omega
        case rel => exact ⟨k + 1, by omega, by go_num, add_step hz2 Hzl.out Hzv.out hkn hx hy hc, ((hbw.drew.trans (hb2.mono (Nat.le_of_lt hsw))).setCell (Nat.le_refl _) _).setCell (Nat.le_refl _) _, by have := hb2.size; simp at this ⊢; omega⟩
    · have Hv := Lib.hid (show val z = val la + val lb by
        have h1 := Hzv.out
        have h2 := Hna.out
        have h3 := Hnb.out
        rw [show k = n by omega, val_take_all (l := la) (by omega), val_take_all (l := lb) (by omega)] at h1
        rw [← h1, ← val_take_succ (by rw [Hzl.out]; omega), val_take_all (by rw [Hzl.out]; omega)])
      go_wp2_with fail
      refine (nat_trim _ _ _ hz.rd (by rw [Hzl.out]; omega)).mono ?_
      rintro e w3 ⟨v, rfl, hv, hb3⟩
      go_wp2_with fail
      go_ret
      exact ⟨_, rfl, by rw [← Hv.out]; exact hv.mono (Nat.le_of_lt hsw), hbw.trans (hb3.mono (Nat.le_of_lt hsw))⟩

end Go.Proofs.Yteokdkcanckfeaa
