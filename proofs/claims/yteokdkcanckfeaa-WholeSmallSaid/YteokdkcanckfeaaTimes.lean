/-
  The walks of package times: a line of a product, products.
-/
import Derived.Test.YteokdkcanckfeaaNatSub
namespace Go.Proofs.Yteokdkcanckfeaa
open Go.RowKit Tw
set_option linter.unusedVariables false
set_option linter.unusedSimpArgs false

theorem sz_one : sz 1 = 1 := by decide +kernel
theorem sz_pow (n : Nat) : ∀ k, sz (n ^ k) ≤ k * sz n + 1
  | 0 => by rw [Nat.pow_zero, sz_one]; omega
  | k + 1 => by
    have h1 := sz_pow n k
    have h2 := sz_mul (n ^ k) n
    rw [Nat.pow_succ, Nat.add_mul, Nat.one_mul]
    omega

/-- The number that k words are, from place off on. -/
def seg (Z : List Nat) (off : Nat) : Nat → Nat
  | 0 => 0
  | k + 1 => seg Z off k + B ^ k * nth Z (off + k)

theorem seg_zero (Z : List Nat) (off : Nat) : seg Z off 0 = 0 := rfl
theorem seg_succ (Z : List Nat) (off k : Nat) : seg Z off (k + 1) = seg Z off k + B ^ k * nth Z (off + k) := rfl
theorem seg_congr {Z Y : List Nat} {off : Nat} : ∀ {k : Nat}, (∀ j, off ≤ j → j < off + k → nth Z j = nth Y j) → seg Z off k = seg Y off k
  | 0, _ => rfl
  | k + 1, h => by rw [seg_succ, seg_succ, seg_congr (fun j h1 h2 => h j h1 (by omega)), h (off + k) (by omega) (by omega)]
theorem seg_take (Z : List Nat) : ∀ k, seg Z 0 k = val (Z.take k)
  | 0 => rfl
  | k + 1 => by rw [seg_succ, seg_take Z k, val_take_succ', Nat.zero_add]
theorem seg_split (Z : List Nat) (i : Nat) : ∀ m, seg Z 0 (i + m) = seg Z 0 i + B ^ i * seg Z i m
  | 0 => by simp [seg]
  | m + 1 => by
    rw [← Nat.add_assoc, seg_succ, seg_split Z i m, seg_succ, Nat.zero_add, Nat.mul_add, Nat.pow_add]
    rw [Nat.mul_assoc, Nat.add_assoc]

theorem line_math {S Sz A k c x z w q s o : Nat} (hv : S + B ^ k * c = Sz + A * w + o) (hq : (x * w + z + c) / 4294967296 = q) (hs : (x * w + z + c) % 4294967296 = s) :
    S + B ^ k * s + B ^ (k + 1) * q = Sz + B ^ k * z + (A + B ^ k * x) * w + o := by
  have h1 : B ^ (k + 1) * q = B ^ k * (4294967296 * q) := by rw [Nat.pow_succ, Nat.mul_assoc]; rfl
  have h2 : s + 4294967296 * q = x * w + z + c := by omega
  have h3 : B ^ k * (s + 4294967296 * q) = B ^ k * (x * w + z + c) := by rw [h2]
  rw [Nat.mul_add, Nat.mul_add, Nat.mul_add] at h3
  rw [h1, Nat.add_mul, Nat.mul_assoc (B ^ k) x w]
  omega

/-- Words that were set from place off on, k of them. -/
def Only (Z Y : List Nat) (off k : Nat) : Prop := Y.length = Z.length ∧ ∀ j, j < off ∨ off + k ≤ j → nth Y j = nth Z j

theorem Only.set {Z Y : List Nat} {off k s : Nat} (h : Only Z Y off k) : Only Z (Y.set (off + k) s) off (k + 1) :=
  ⟨by simpa using h.1, fun j hj => by rw [nth_set_ne (by omega)]; exact h.2 j (by omega)⟩

theorem Only.seg_lo {Z Y : List Nat} {off k : Nat} (h : Only Z Y off k) : seg Y 0 off = seg Z 0 off := seg_congr fun j _ h2 => h.2 j (.inl (by omega))

theorem line_step {base g N off k cc wd C : Nat} {w : World} {Z Y la : List Nat} (hy : Own base w (.slice (some ⟨g, 0, none⟩) N N) Y) (ho : Only Z Y off k)
    (hv : seg Y off k + B ^ k * cc = seg Z off k + val (la.take k) * wd + C) (hx : nth la k < 4294967296) (hw : wd < 4294967296) (hz : nth Y (off + k) < 4294967296) (hc : cc < 4294967296) (hlen : off + k < Y.length) :
    ∃ c' : Nat, c' < 4294967296 ∧ ((nth la k : Int) * wd + nth Y (off + k) + cc) / 4294967296 = (c' : Int) ∧
      Hid (∃ Y', Own base (w.setCell ⟨g, off + k, none⟩ (.int .u32 (((nth la k : Int) * wd + nth Y (off + k) + cc) % 4294967296))) (.slice (some ⟨g, 0, none⟩) N N) Y' ∧ Only Z Y' off (k + 1) ∧
        seg Y' off (k + 1) + B ^ (k + 1) * c' = seg Z off (k + 1) + val (la.take (k + 1)) * wd + C) := by
  have hm : nth la k * wd ≤ 4294967295 * 4294967295 := Nat.mul_le_mul (by omega) (by omega)
  have e : ((nth la k : Int) * wd + nth Y (off + k) + cc) = ((nth la k * wd + nth Y (off + k) + cc : Nat) : Int) := by push_cast; rfl
  have hlt : (nth la k * wd + nth Y (off + k) + cc) / 4294967296 < 4294967296 := by omega
  refine ⟨(nth la k * wd + nth Y (off + k) + cc) / 4294967296, hlt, by rw [e]; omega, ?_⟩
  have e2 : (((nth la k * wd + nth Y (off + k) + cc : Nat) : Int) % 4294967296) = (((nth la k * wd + nth Y (off + k) + cc) % 4294967296 : Nat) : Int) := by omega
  rw [e, e2]
  refine ⟨Y.set (off + k) ((nth la k * wd + nth Y (off + k) + cc) % 4294967296), own_store hy _ _ (by simp only [B_eq]; omega), ho.set, ?_⟩
  rw [seg_succ, nth_set_eq hlen, seg_succ Z, val_take_succ', ← ho.2 (off + k) (.inr (Nat.le_refl _))]
  rw [seg_congr (Y := Y) (fun j _ h2 => nth_set_ne (by omega))]
  exact line_math hv rfl rfl

set_option maxRecDepth 100000 in
set_option maxHeartbeats 2000000 in
theorem line_any (base g N off n capx : Nat) (Z la : List Nat) (va : Value) (wd c : Int) (w0 w : World) (hz : Own base w (.slice (some ⟨g, 0, none⟩) N N) Z) (ha : Rd w0 va la) (h0 : w0.heap.size ≤ base)
    (hb : Below base w0 w) (hg : base ≤ g) (hbs : base ≤ w.heap.size) (hn : la.length = n) (hoff : off + n + 1 ≤ Z.length) (hN : Z.length ≤ 3000000) (wd0 : 0 ≤ wd) (wd1 : wd < 4294967296) (c0 : 0 ≤ c) (c1 : c < 4294967296) :
    Calls Try.prog 65 #[.slice (some ⟨g, off, none⟩) (n + 1) capx, va, .int .u32 wd, .int .u32 c] w fun e w' => e = .returned (.tuple #[]) ∧ ∃ Y, Own base w' (.slice (some ⟨g, 0, none⟩) N N) Y ∧
      Only Z Y off (n + 1) ∧ seg Y off (n + 1) = seg Z off n + val la * wd.toNat + c.toNat ∧ Below base w w' := by
  obtain ⟨wd, rfl⟩ := Int.eq_ofNat_of_zero_le wd0
  obtain ⟨C, rfl⟩ := Int.eq_ofNat_of_zero_le c0
  simp only [Int.toNat_natCast]
  obtain ⟨aa, na, capa, rfl, Hna, _⟩ := ha.open
  have hnn : n = na := by rw [← hn]; exact Hna.out
  subst hnn
  have Hn := Lib.hid hn
  have hnb : n ≤ 3000000 := by omega
  clear hn
  go_enter Try.func65, Try.ntmps65
  go_wp2_with fail
  go_loopw [3, 12] (fun cs i ww => ∃ (k cc : Nat), k ≤ n ∧ cc < 4294967296 ∧ cs = .int .u32 cc ∧ i = .int .i64 k ∧ Below base w ww ∧ base ≤ ww.heap.size ∧
      Hid (∃ Y, Own base ww (.slice (some ⟨g, 0, none⟩) N N) Y ∧ Only Z Y off k ∧ seg Y off k + B ^ k * cc = seg Z off k + val (la.take k) * wd + C)) (fun _ i _ => n - (intOf i).toNat)
  case atStart => exact ⟨0, C, by omega, by omega, rfl, rfl, Below.refl _ _, hbs, Z, hz, ⟨rfl, fun _ _ => rfl⟩, by simp [seg, val]⟩
  case round =>
    obtain ⟨k, cc, hk, hcc, rfl, rfl, hbw, hsw, HY⟩ := hrel
    obtain ⟨Y, hy, hyo, hyv⟩ := HY.out
    have Hyo := Lib.hid hyo
    have Hyv := Lib.hid hyv
    clear HY hyo hyv
    by_cases hkn : k < n
    · obtain ⟨b, o, rfl, hcell⟩ := (ha.below (hb.trans hbw) h0).cells (by rw [Hn.out]; omega)
      have hck := hcell k (by rw [Hn.out]; omega)
      have hx := ha.1.nth k
      have hzz := hy.1.nth (off + k)
      simp only [B_eq] at hx hzz
      obtain ⟨q1, q2⟩ := own_cell2 hy (show off + k < Y.length by rw [Hyo.out.1]; omega)
      clear hcell
      go_wp2_with fail
      refine (limb_mul _ _ _ _ _ (by omega) (by omega) (by omega) (by omega) (by omega) (by omega) (by omega) (by omega)).mono ?_
      rintro e w2 ⟨rfl, hb2⟩
      have hy2 := hy.to hb2
      have hsw2 : base ≤ w2.heap.size := Nat.le_trans hsw hb2.size
      have hbw2 := hbw.trans (hb2.mono hsw)
      clear q1 q2 hck
      obtain ⟨q1, q2⟩ := own_cell2 hy2 (show off + k < Y.length by rw [Hyo.out.1]; omega)
      obtain ⟨c', hc', hce, HY2⟩ := line_step hy2 Hyo.out Hyv.out hx (by omega) hzz hcc (by rw [Hyo.out.1]; omega)
      have Hce := Lib.hid hce
      clear hce
      go_wp2_with fail
      go_roundw
      case rel => exact ⟨k + 1, c', by omega, hc', int_eq Hce.out, by go_num, hbw2.setCell hg _, by simpa using hsw2, HY2⟩
      case measure => simp [intOf]; omega
    · have hkn2 : k = n := by omega
      subst hkn2
      obtain ⟨q1, q2⟩ := own_cell2 hy (show off + k < Y.length by rw [Hyo.out.1]; omega)
      have hi1 : (k : Int) < (k : Int) + 1 := by omega
      go_wp2_with fail
      go_end0
      refine ⟨rfl, Y.set (off + k) cc, own_store hy _ _ (by simp only [B_eq]; omega), Hyo.out.set, ?_, hbw.setCell hg _⟩
      have h1 := Hyv.out
      rw [seg_succ, nth_set_eq (by rw [Hyo.out.1]; omega), seg_congr (Y := Y) (fun j _ h2 => nth_set_ne (by omega)), h1, val_take_all (by rw [Hn.out]; exact Nat.le_refl _)]

set_option maxHeartbeats 1000000 in
theorem times_one (va : Value) (la : List Nat) (wd c : Int) (w : World) (ha : Rd w va la) (hla : la.length ≤ 1000000) (wd0 : 0 ≤ wd) (wd1 : wd < 4294967296) (c0 : 0 ≤ c) (c1 : c < 4294967296) :
    Calls Try.prog 50 #[va, .int .u32 wd, .int .u32 c] w (Gives w (limbs (val la * wd.toNat + c.toNat))) := by
  obtain ⟨aa, na, capa, rfl, Hna, _⟩ := ha.open
  have hna : na ≤ 1000000 := by have := Hna.out; omega
  go_enter Try.func50, Try.ntmps50
  go_wp2_with (at_make; refine wp_make _ rfl _ _ rfl _ _ _ _ (na + 1) rfl rfl (by simp) (by simp) (by omega) ?_; intro w1 hown1 hb1 hs1)
  refine (line_any w.heap.size w.heap.size _ 0 na _ (List.replicate (na + 1) 0) la _ _ _ w w1 hown1 ha (Nat.le_refl _) hb1 (Nat.le_refl _) (Nat.le_of_lt hs1) Hna.out (by simp) (by simp; omega) wd0 wd1 c0 c1).mono ?_
  rintro e w2 ⟨rfl, Y, hY, hYo, hYv, hb2⟩
  have Hv := Lib.hid (show val Y = val la * wd.toNat + c.toNat by
    have h1 : Y.length = na + 1 := by rw [hYo.1]; simp
    have h2 : seg (List.replicate (na + 1) 0) 0 na = 0 := by rw [seg_take, List.take_replicate, val_replicate]
    rw [h2, Nat.zero_add, seg_take, val_take_all (by omega)] at hYv
    exact hYv)
  have hYl : Y.length ≤ 1000001 := by rw [hYo.1]; simp; omega
  clear hYo hYv
  go_wp2_with fail
  refine (nat_trim _ _ _ hY.rd (by omega)).mono ?_
  rintro e w3 ⟨v, rfl, hv, hb3⟩
  have hs2 : w.heap.size ≤ w2.heap.size := Nat.le_of_lt (hY.lt w.heap.size rfl).2
  go_wp2_with fail
  go_ret
  exact ⟨_, rfl, by rw [← Hv.out]; exact hv.mono hs2, (hb1.trans hb2).trans (hb3.mono hs2)⟩

theorem mul_step {Z Y la lb : List Nat} {i n : Nat} (hv : seg Z 0 (i + n) = val la * val (lb.take i)) (hz : ∀ j, i + n ≤ j → nth Z j = 0) (ho : Only Z Y i (n + 1)) (hs : seg Y i (n + 1) = seg Z i n + val la * nth lb i) :
    seg Y 0 (i + 1 + n) = val la * val (lb.take (i + 1)) ∧ ∀ j, i + 1 + n ≤ j → nth Y j = 0 := by
  constructor
  · rw [show i + 1 + n = i + (n + 1) by omega, seg_split, hs, ho.seg_lo, Nat.mul_add, ← Nat.add_assoc, ← seg_split, hv, val_take_succ', Nat.mul_add]
    rw [← Nat.mul_assoc, Nat.mul_comm (B ^ i), Nat.mul_assoc]
  · intro j hj
    rw [ho.2 j (by omega)]
    exact hz j (by omega)

set_option maxRecDepth 100000 in
set_option maxHeartbeats 2000000 in
theorem times_mul (va vb : Value) (la lb : List Nat) (w : World) (ha : Rd w va la) (hb : Rd w vb lb) (hla : la.length ≤ 1000000) (hlb : lb.length ≤ 1000000) :
    Calls Try.prog 26 #[va, vb] w (Gives w (limbs (val la * val lb))) := by
  obtain ⟨aa, na, capa, rfl, Hna, _⟩ := ha.open
  obtain ⟨ab, nb, capb, rfl, Hnb, _⟩ := hb.open
  have hna : na ≤ 1000000 := by have := Hna.out; omega
  have hnb : nb ≤ 1000000 := by have := Hnb.out; omega
  go_enter Try.func26, Try.ntmps26
  go_wp2_with (at_make; refine wp_make _ rfl _ _ rfl _ _ _ _ (na + nb + 1) rfl rfl (by simp) (by simp) (by omega) ?_; intro w1 hown1 hb1 hs1)
  go_loopw [6, 7, 8, 18] (fun _ _ _ i ww => ∃ (k : Nat), k ≤ nb ∧ i = .int .i64 k ∧ Below w.heap.size w ww ∧ w.heap.size ≤ ww.heap.size ∧
      Hid (∃ Z, Own w.heap.size ww (.slice (some ⟨w.heap.size, 0, none⟩) (na + nb + 1) (na + nb + 1)) Z ∧ Z.length = na + nb + 1 ∧ seg Z 0 (k + na) = val la * val (lb.take k) ∧ ∀ j, k + na ≤ j → nth Z j = 0)) (fun _ _ _ i _ => nb - (intOf i).toNat)
  case atStart => exact ⟨0, by omega, rfl, hb1, Nat.le_of_lt hs1, List.replicate (na + nb + 1) 0, hown1, by simp, by rw [seg_take, List.take_replicate, val_replicate]; simp [val], fun j _ => by
    rw [nth_def, List.getD_eq_getElem?_getD, List.getElem?_replicate]; split <;> rfl⟩
  case round =>
    obtain ⟨k, hk, rfl, hbw, hsw, HZ⟩ := hrel
    obtain ⟨Z, hz, hzl, hzv, hzz⟩ := HZ.out
    have Hzl := Lib.hid hzl
    have Hzv := Lib.hid hzv
    have Hzz := Lib.hid hzz
    clear HZ hzl hzv hzz
    by_cases hkn : k < nb
    · obtain ⟨b, o, rfl, hcell⟩ := (hb.to hbw).cells (by rw [Hnb.out]; omega)
      have hck := hcell k (by rw [Hnb.out]; omega)
      have hx := hb.1.nth k
      simp only [B_eq] at hx
      clear hcell
      go_wp2_with fail
      rw [show k + na + 1 - k = na + 1 by omega]
      refine (line_any w.heap.size w.heap.size _ k na _ Z la _ _ _ w wr hz ha (Nat.le_refl _) hbw (Nat.le_refl _) hsw Hna.out (by rw [Hzl.out]; omega) (by rw [Hzl.out]; omega) (by omega) (by omega) (by omega) (by omega)).mono ?_
      rintro e w2 ⟨rfl, Y, hY, hYo, hYv, hb2⟩
      have hs2 : w.heap.size ≤ w2.heap.size := Nat.le_of_lt (hY.lt w.heap.size rfl).2
      have Hst := Lib.hid (mul_step Hzv.out Hzz.out hYo (by rw [Int.toNat_natCast, Int.toNat_zero, Nat.add_zero] at hYv; exact hYv))
      have Hyl := Lib.hid (show Y.length = na + nb + 1 by rw [hYo.1]; exact Hzl.out)
      clear hYo hYv
      go_wp2_with fail
      go_roundw
      case rel => exact ⟨k + 1, by omega, by go_num, hbw.trans hb2, hs2, Y, hY, Hyl.out, Hst.out.1, Hst.out.2⟩
      case measure => simp [intOf]; omega
    · have hkn2 : k = nb := by omega
      subst hkn2
      have Hv := Lib.hid (show val Z = val la * val lb by
        have h1 := Hzv.out
        have h2 := Hzz.out (k + na) (Nat.le_refl _)
        rw [val_take_all (l := lb) (by rw [Hnb.out]; exact Nat.le_refl _)] at h1
        rw [← h1, ← val_take_all (l := Z) (k := k + na + 1) (by rw [Hzl.out]; omega), ← seg_take, seg_succ, Nat.zero_add, h2]; simp)
      go_wp2_with fail
      refine (nat_trim _ _ _ hz.rd (by rw [Hzl.out]; omega)).mono ?_
      rintro e w3 ⟨v, rfl, hv, hb3⟩
      go_wp2_with fail
      go_ret
      exact ⟨_, rfl, by rw [← Hv.out]; exact hv.mono hsw, hbw.trans (hb3.mono hsw)⟩

theorem pow_le_one {n k : Nat} (h : n ≤ 1) (hk : 1 ≤ k) : n ^ k = n := by
  rcases Nat.eq_zero_or_pos n with rfl | h1
  · exact Nat.zero_pow hk
  · obtain rfl : n = 1 := by omega
    exact Nat.one_pow k

/-- When a power is not told: an exponent below 0, or too many words. -/
def powNo (n : Nat) (k : Int) : Prop := k < 0 ∨ 1 < n ∧ (4096 / sz n : Nat) < k

set_option maxHeartbeats 1000000 in
theorem times_pow_no (va : Value) (la : List Nat) (k : Int) (w : World) (ha : Rd w va la) (hla : la.length ≤ 1000000) (h : powNo (val la) k) :
    Calls Try.prog 23 #[va, .int .i64 k] w fun e w' => e = .returned (.tuple #[.slice none 0 0, .bool false]) ∧ w = w' := by
  have hnb : nbits (val la) ≤ 32000000 := by
    have h1 := val_lt ha.1
    have h2 : B ^ la.length = 2 ^ (32 * la.length) := by rw [Nat.pow_mul]; rfl
    rw [h2] at h1
    have := nbits_le.2 h1
    omega
  rcases h with h | ⟨h1, h2⟩
  · go_enter Try.func23, Try.ntmps23
    go_wp2_with fail
    refine (limb_low _ la _ ha).mono ?_
    rintro e w' ⟨rfl, rfl⟩
    go_wp2_with fail
    refine (nat_bits _ la _ ha hla).mono ?_
    rintro e w' ⟨rfl, rfl⟩
    go_wp2_with fail
    go_ret2
    exact ⟨rfl, rfl⟩
  · have hb : 1 < nbits (val la) := nbits_gt (n := 1) (by omega)
    have hs0 : sz (val la) ≠ 0 := fun e => by have := sz_eq_zero.1 e; omega
    have hs1 : 1 ≤ sz (val la) := by omega
    have hsl := sz_val ha.1
    have hk0 : ¬ k < 0 := Int.not_lt.2 (Int.le_of_lt (Int.lt_of_le_of_lt (Int.natCast_nonneg _) h2))
    have hk : (4096 : Int) / (sz (val la) : Int) < k := by
      have : ((4096 / sz (val la) : Nat) : Int) = (4096 : Int) / (sz (val la) : Int) := by simp
      omega
    clear h2
    go_enter Try.func23, Try.ntmps23
    go_wp2_with fail
    refine (limb_low _ la _ ha).mono ?_
    rintro e w' ⟨rfl, rfl⟩
    go_wp2_with fail
    refine (nat_bits _ la _ ha hla).mono ?_
    rintro e w' ⟨rfl, rfl⟩
    go_wp2_with fail
    go_ret2
    exact ⟨rfl, rfl⟩

set_option maxRecDepth 100000 in
set_option maxHeartbeats 2000000 in
theorem times_pow (va : Value) (la : List Nat) (k : Int) (w : World) (ha : Rd w va la) (hla : la.length ≤ 1000000) (h : ¬ powNo (val la) k) :
    Calls Try.prog 23 #[va, .int .i64 k] w (GivesOk w (limbs (val la ^ k.toNat))) := by
  have hnb : nbits (val la) ≤ 32000000 := by
    have h1 := val_lt ha.1
    have h2 : B ^ la.length = 2 ^ (32 * la.length) := by rw [Nat.pow_mul]; rfl
    rw [h2] at h1
    have := nbits_le.2 h1
    omega
  have hk0 : 0 ≤ k := Int.not_lt.1 fun e => h (.inl e)
  have hsl := sz_val ha.1
  have H1 := Lib.hid (show limbs (1 : Int).toNat = limbs 1 from rfl)
  obtain ⟨aa, na, capa, rfl, Hna, _⟩ := ha.open
  have hcap := ha.len_cap
  have hnc : na ≤ capa := by have := Hna.out; omega
  have hsn : sz (val la) ≤ na := by have := Hna.out; omega
  by_cases hb : 1 < nbits (val la)
  · have hv1 : 1 < val la := by
      rcases Nat.lt_or_ge 1 (val la) with h1 | h1
      · exact h1
      · have := nbits_mono h1; have h3 : nbits 1 = 1 := by decide +kernel
        omega
    have hs0 : sz (val la) ≠ 0 := fun e => by have := sz_eq_zero.1 e; omega
    have hs1 : 1 ≤ sz (val la) := by omega
    obtain ⟨m, rfl⟩ := Int.eq_ofNat_of_zero_le hk0
    have hkm : m ≤ 4096 / sz (val la) := Nat.not_lt.1 fun e => h (.inr ⟨hv1, by omega⟩)
    have Hms := Lib.hid (show m * sz (val la) ≤ 4096 from Nat.le_trans (Nat.mul_le_mul_right _ hkm) (Nat.div_mul_le_self _ _))
    have hm4 : m ≤ 4096 := Nat.le_trans hkm (Nat.div_le_self _ _)
    have hk : (m : Int) ≤ (4096 : Int) / (sz (val la) : Int) := by
      have : ((4096 / sz (val la) : Nat) : Int) = (4096 : Int) / (sz (val la) : Int) := by simp
      omega
    have Hfin := Lib.hid (show val la ^ (m : Int).toNat = val la ^ m by rw [Int.toNat_natCast])
    clear h hkm hv1
    go_enter Try.func23, Try.ntmps23
    go_wp2_with fail
    refine (limb_low _ la _ ha).mono ?_
    rintro e w' ⟨rfl, rfl⟩
    go_wp2_with fail
    refine (nat_bits _ la _ ha hla).mono ?_
    rintro e w' ⟨rfl, rfl⟩
    go_wp2_with fail
    refine (nat_of _ _ (by omega) (by omega)).mono ?_
    rintro e w1 ⟨v1, rfl, hv1, hb1⟩
    rw [H1.out] at hv1
    go_wp2_with fail
    go_loopw [8, 31] (fun v i ww => ∃ (j : Nat), j ≤ m ∧ i = .int .i64 j ∧ Own w.heap.size ww v (limbs (val la ^ j)) ∧ Below w.heap.size w ww) (fun _ i _ => m - (intOf i).toNat)
    case atStart => exact ⟨0, by omega, rfl, by rw [Nat.pow_zero]; exact hv1, hb1⟩
    case round =>
      obtain ⟨j, hj, rfl, hv, hbw⟩ := hrel
      by_cases hjm : j < m
      · have hsj : sz (val la ^ j) ≤ 4100 := by
          have h1 := sz_pow (val la) j
          have h2 : j * sz (val la) ≤ m * sz (val la) := Nat.mul_le_mul_right _ (by omega)
          have h3 := Hms.out
          omega
        have Hp := Lib.hid (show val (limbs (val la ^ j)) * val (la.take (sz (val la))) = val la ^ (j + 1) by rw [val_limbs, val_take_sz ha.1, Nat.pow_succ])
        have hrt := (ha.to hbw).take (sz (val la)) (by omega)
        go_wp2_with fail
        refine (times_mul _ _ _ _ _ hv.rd hrt (by show sz _ ≤ _; omega) (by rw [List.length_take]; omega)).mono ?_
        rintro e w2 ⟨v2, rfl, hv2, hb2⟩
        rw [Hp.out] at hv2
        go_wp2_with fail
        go_roundw
        case rel => exact ⟨j + 1, by omega, by go_num, hv2.mono hbw.size, hbw.trans (hb2.mono hbw.size)⟩
        case measure => simp [intOf]; omega
      · have hjm2 : j = m := by omega
        subst hjm2
        go_wp2_with fail
        go_ret2
        exact ⟨_, rfl, by rw [Hfin.out]; exact hv, hbw⟩
  · have hv1 : val la ≤ 1 := Nat.not_lt.1 fun e => hb (nbits_gt (n := 1) (by omega))
    obtain ⟨m, hm, hm1, hmk⟩ : ∃ m : Nat, min k 1 = (m : Int) ∧ m ≤ 1 ∧ (m = 0 ∧ k = 0 ∨ m = 1 ∧ 1 ≤ k) := by
      rcases Int.lt_or_le k 1 with h1 | h1
      · exact ⟨0, by omega, by omega, .inl ⟨rfl, by omega⟩⟩
      · exact ⟨1, by omega, by omega, .inr ⟨rfl, h1⟩⟩
    have hsz1 : sz (val la) ≤ 1 := sz_word (by omega)
    have Hms := Lib.hid (show m * sz (val la) ≤ 4096 from Nat.le_trans (Nat.mul_le_mul hm1 hsz1) (by omega))
    have Hfin := Lib.hid (show val la ^ k.toNat = val la ^ m by
      rcases hmk with ⟨rfl, rfl⟩ | ⟨rfl, h1⟩
      · rfl
      · rw [pow_le_one hv1 (by omega), Nat.pow_one])
    have hmm : min k 1 = (m : Int) := hm
    clear h hm hmk hv1
    go_enter Try.func23, Try.ntmps23
    go_wp2_with fail
    refine (limb_low _ la _ ha).mono ?_
    rintro e w' ⟨rfl, rfl⟩
    go_wp2_with fail
    refine (nat_bits _ la _ ha hla).mono ?_
    rintro e w' ⟨rfl, rfl⟩
    go_wp2_with fail
    refine (nat_of _ _ (by omega) (by omega)).mono ?_
    rintro e w1 ⟨v1, rfl, hv1, hb1⟩
    rw [H1.out] at hv1
    go_wp2_with fail
    go_loopw [8, 31] (fun v i ww => ∃ (j : Nat), j ≤ m ∧ i = .int .i64 j ∧ Own w.heap.size ww v (limbs (val la ^ j)) ∧ Below w.heap.size w ww) (fun _ i _ => m - (intOf i).toNat)
    case atStart => exact ⟨0, by omega, rfl, by rw [Nat.pow_zero]; exact hv1, hb1⟩
    case round =>
      obtain ⟨j, hj, rfl, hv, hbw⟩ := hrel
      by_cases hjm : j < m
      · have hsj : sz (val la ^ j) ≤ 4100 := by
          have h1 := sz_pow (val la) j
          have h2 : j * sz (val la) ≤ m * sz (val la) := Nat.mul_le_mul_right _ (by omega)
          have h3 := Hms.out
          omega
        have Hp := Lib.hid (show val (limbs (val la ^ j)) * val (la.take (sz (val la))) = val la ^ (j + 1) by rw [val_limbs, val_take_sz ha.1, Nat.pow_succ])
        have hrt := (ha.to hbw).take (sz (val la)) (by omega)
        go_wp2_with fail
        refine (times_mul _ _ _ _ _ hv.rd hrt (by show sz _ ≤ _; omega) (by rw [List.length_take]; omega)).mono ?_
        rintro e w2 ⟨v2, rfl, hv2, hb2⟩
        rw [Hp.out] at hv2
        go_wp2_with fail
        go_roundw
        case rel => exact ⟨j + 1, by omega, by go_num, hv2.mono hbw.size, hbw.trans (hb2.mono hbw.size)⟩
        case measure => simp [intOf]; omega
      · have hjm2 : j = m := by omega
        subst hjm2
        go_wp2_with fail
        go_ret2
        exact ⟨_, rfl, by rw [Hfin.out]; exact hv, hbw⟩

end Go.Proofs.Yteokdkcanckfeaa
