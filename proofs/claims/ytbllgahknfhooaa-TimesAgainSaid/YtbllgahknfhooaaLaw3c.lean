/-
  The walks of the statements of layer 3, those of powers.
-/
import Derived.Test.YtbllgahknfhooaaLaw3b
namespace Go.Proofs.Ytbllgahknfhooaa
open Go.RowKit Tw
set_option linter.unusedVariables false
set_option linter.unusedSimpArgs false

theorem powNo_few {n : Nat} {k : Int} (h0 : 0 ≤ k) (hk : k ≤ 1000) (h : sz n ≤ 4) : ¬ powNo n k := by
  rintro (h1 | ⟨h1, h2⟩)
  · omega
  · have h3 : sz n ≠ 0 := fun e => by have := sz_eq_zero.1 e; omega
    have h4 : (1024 : Nat) ≤ 4096 / sz n := (Nat.le_div_iff_mul_le (by omega)).2 (by omega)
    omega

set_option maxRecDepth 100000 in
set_option maxHeartbeats 2000000 in
theorem walk_TimesPowers (va : Value) (la : List Nat) (n s : Int) (w : World) (ha : Rd w va la) (n0 : -9223372036854775808 ≤ n) (n1 : n < 9223372036854775808) (s0 : -9223372036854775808 ≤ s) (s1 : s < 9223372036854775808) :
    Calls Try.prog 4 #[va, .int .i64 n, .int .i64 s] w (Holds w) := by
  have hlma := ha.len_le
  unfold maxLen at hlma
  obtain ⟨aa, capa, rfl⟩ := ha.shape
  by_cases hl : 4 < la.length
  · go_enter Try.func4, Try.ntmps4
    go_wp2_with fail
    refine (awake3 _).mono ?_
    rintro e w1 ⟨rfl, hb1⟩
    have hB := hb1
    replace ha := ha.to hb1
    clear hb1
    go_wp2_with fail
    go_ret
    exact ⟨by first | rfl | exact ret_bool (by first | (simp; done) | (simp; omega)), hB⟩
  obtain ⟨c, Hc⟩ : ∃ c, (cmpN (val la) (val [1]) = c) := ⟨_, rfl⟩
  replace Hc := Lib.hid Hc
  by_cases hs : 300 < s
  · go_enter Try.func4, Try.ntmps4
    go_wp2_with fail
    refine (awake3 _).mono ?_
    rintro e w1 ⟨rfl, hb1⟩
    have hB := hb1
    replace ha := ha.to hb1
    clear hb1
    go_wp2_with fail
    refine (ref2_cmp _ _ la [1] _ (ha.alloc _) (lit1 _ (by omega)) (by omega) (by simp)).mono ?_
    rintro e w' ⟨rfl, rfl⟩
    rw [Hc.out]
    go_wp2_with fail
    all_goals (go_ret; exact ⟨by first | rfl | exact ret_bool (by first | (simp; done) | (simp; omega)), below_step hB (below_new _ _)⟩)
  have Hs := Lib.hid (show (max 0 (min s 100000)).toNat = s.toNat by omega)
  by_cases hno : powNo (val la) n
  · by_cases h1 : 12 < n
    · by_cases h2 : 4096 < n
      · go_enter Try.func4, Try.ntmps4
        go_wp2_with fail
        refine (awake3 _).mono ?_
        rintro e w1 ⟨rfl, hb1⟩
        have hB := hb1
        replace ha := ha.to hb1
        clear hb1
        go_wp2_with fail
        refine (ref2_cmp _ _ la [1] _ (ha.alloc _) (lit1 _ (by omega)) (by omega) (by simp)).mono ?_
        rintro e w' ⟨rfl, rfl⟩
        rw [Hc.out]
        go_wp2_with fail
        refine (times_pow_no _ la n _ (ha.alloc _) (by omega) hno).mono ?_
        rintro e w' ⟨rfl, rfl⟩
        go_wp2_with fail
        refine (ref3_pow_no _ la n _ (ha.alloc _) (by omega) hno).mono ?_
        rintro e w2 ⟨rfl, hb2⟩
        replace hB := below_step hB (below_new2 _ hb2)
        replace ha := (ha.alloc _).to hb2
        clear hb2
        go_wp2_with fail
        refine (words_same _ _ [] _ (Rd.nil _) (Rd.nil _)).mono ?_
        rintro e w3 ⟨rfl, hb3⟩
        replace hB := below_step hB hb3
        replace ha := ha.to hb3
        clear hb3
        go_wp2_with fail
        refine (times_shift _ la s _ ha (by omega)).mono ?_
        rintro e w4 ⟨vp, rfl, hp, hb4⟩
        replace hB := below_step hB hb4
        replace ha := ha.to hb4
        replace hp := hp.rd
        clear hb4
        rw [Hs.out] at hp
        go_wp2_with fail
        refine (ref3_shift _ la s _ ha (by omega) (by omega)).mono ?_
        rintro e w5 ⟨vq, rfl, hq, hb5⟩
        replace hB := below_step hB hb5
        replace ha := ha.to hb5
        replace hp := hp.to hb5
        replace hq := hq.rd
        clear hb5
        go_wp2_with fail
        refine (words_same _ _ _ _ hp hq).mono ?_
        rintro e w6 ⟨rfl, hb6⟩
        replace hB := below_step hB hb6
        replace ha := ha.to hb6
        replace hp := hp.to hb6
        replace hq := hq.to hb6
        clear hb6
        go_wp2_with fail
        go_ret
        exact ⟨by first | rfl | exact ret_bool (by first | (simp; done) | (simp; omega)), hB⟩
      · by_cases h3 : c ≤ 0
        · go_enter Try.func4, Try.ntmps4
          go_wp2_with fail
          refine (awake3 _).mono ?_
          rintro e w1 ⟨rfl, hb1⟩
          have hB := hb1
          replace ha := ha.to hb1
          clear hb1
          go_wp2_with fail
          refine (ref2_cmp _ _ la [1] _ (ha.alloc _) (lit1 _ (by omega)) (by omega) (by simp)).mono ?_
          rintro e w' ⟨rfl, rfl⟩
          rw [Hc.out]
          go_wp2_with fail
          refine (times_pow_no _ la n _ (ha.alloc _) (by omega) hno).mono ?_
          rintro e w' ⟨rfl, rfl⟩
          go_wp2_with fail
          refine (ref3_pow_no _ la n _ (ha.alloc _) (by omega) hno).mono ?_
          rintro e w2 ⟨rfl, hb2⟩
          replace hB := below_step hB (below_new2 _ hb2)
          replace ha := (ha.alloc _).to hb2
          clear hb2
          go_wp2_with fail
          refine (words_same _ _ [] _ (Rd.nil _) (Rd.nil _)).mono ?_
          rintro e w3 ⟨rfl, hb3⟩
          replace hB := below_step hB hb3
          replace ha := ha.to hb3
          clear hb3
          go_wp2_with fail
          refine (times_shift _ la s _ ha (by omega)).mono ?_
          rintro e w4 ⟨vp, rfl, hp, hb4⟩
          replace hB := below_step hB hb4
          replace ha := ha.to hb4
          replace hp := hp.rd
          clear hb4
          rw [Hs.out] at hp
          go_wp2_with fail
          refine (ref3_shift _ la s _ ha (by omega) (by omega)).mono ?_
          rintro e w5 ⟨vq, rfl, hq, hb5⟩
          replace hB := below_step hB hb5
          replace ha := ha.to hb5
          replace hp := hp.to hb5
          replace hq := hq.rd
          clear hb5
          go_wp2_with fail
          refine (words_same _ _ _ _ hp hq).mono ?_
          rintro e w6 ⟨rfl, hb6⟩
          replace hB := below_step hB hb6
          replace ha := ha.to hb6
          replace hp := hp.to hb6
          replace hq := hq.to hb6
          clear hb6
          go_wp2_with fail
          go_ret
          exact ⟨by first | rfl | exact ret_bool (by first | (simp; done) | (simp; omega)), hB⟩
        · go_enter Try.func4, Try.ntmps4
          go_wp2_with fail
          refine (awake3 _).mono ?_
          rintro e w1 ⟨rfl, hb1⟩
          have hB := hb1
          replace ha := ha.to hb1
          clear hb1
          go_wp2_with fail
          refine (ref2_cmp _ _ la [1] _ (ha.alloc _) (lit1 _ (by omega)) (by omega) (by simp)).mono ?_
          rintro e w' ⟨rfl, rfl⟩
          rw [Hc.out]
          go_wp2_with fail
          all_goals (go_ret; exact ⟨by first | rfl | exact ret_bool (by first | (simp; done) | (simp; omega)), below_step hB (below_new _ _)⟩)
    · go_enter Try.func4, Try.ntmps4
      go_wp2_with fail
      refine (awake3 _).mono ?_
      rintro e w1 ⟨rfl, hb1⟩
      have hB := hb1
      replace ha := ha.to hb1
      clear hb1
      go_wp2_with fail
      refine (ref2_cmp _ _ la [1] _ (ha.alloc _) (lit1 _ (by omega)) (by omega) (by simp)).mono ?_
      rintro e w' ⟨rfl, rfl⟩
      rw [Hc.out]
      go_wp2_with fail
      refine (times_pow_no _ la n _ (ha.alloc _) (by omega) hno).mono ?_
      rintro e w' ⟨rfl, rfl⟩
      go_wp2_with fail
      refine (ref3_pow_no _ la n _ (ha.alloc _) (by omega) hno).mono ?_
      rintro e w2 ⟨rfl, hb2⟩
      replace hB := below_step hB (below_new2 _ hb2)
      replace ha := (ha.alloc _).to hb2
      clear hb2
      go_wp2_with fail
      refine (words_same _ _ [] _ (Rd.nil _) (Rd.nil _)).mono ?_
      rintro e w3 ⟨rfl, hb3⟩
      replace hB := below_step hB hb3
      replace ha := ha.to hb3
      clear hb3
      go_wp2_with fail
      refine (times_shift _ la s _ ha (by omega)).mono ?_
      rintro e w4 ⟨vp, rfl, hp, hb4⟩
      replace hB := below_step hB hb4
      replace ha := ha.to hb4
      replace hp := hp.rd
      clear hb4
      rw [Hs.out] at hp
      go_wp2_with fail
      refine (ref3_shift _ la s _ ha (by omega) (by omega)).mono ?_
      rintro e w5 ⟨vq, rfl, hq, hb5⟩
      replace hB := below_step hB hb5
      replace ha := ha.to hb5
      replace hp := hp.to hb5
      replace hq := hq.rd
      clear hb5
      go_wp2_with fail
      refine (words_same _ _ _ _ hp hq).mono ?_
      rintro e w6 ⟨rfl, hb6⟩
      replace hB := below_step hB hb6
      replace ha := ha.to hb6
      replace hp := hp.to hb6
      replace hq := hq.to hb6
      clear hb6
      go_wp2_with fail
      go_ret
      exact ⟨by first | rfl | exact ret_bool (by first | (simp; done) | (simp; omega)), hB⟩
  · by_cases h1 : 12 < n
    · by_cases h2 : 4096 < n
      · go_enter Try.func4, Try.ntmps4
        go_wp2_with fail
        refine (awake3 _).mono ?_
        rintro e w1 ⟨rfl, hb1⟩
        have hB := hb1
        replace ha := ha.to hb1
        clear hb1
        go_wp2_with fail
        refine (ref2_cmp _ _ la [1] _ (ha.alloc _) (lit1 _ (by omega)) (by omega) (by simp)).mono ?_
        rintro e w' ⟨rfl, rfl⟩
        rw [Hc.out]
        go_wp2_with fail
        refine (times_pow _ la n _ (ha.alloc _) (by omega) hno).mono ?_
        rintro e w2 ⟨vx, rfl, hx, hb2⟩
        replace hB := below_step hB (below_new2 _ hb2)
        replace ha := (ha.alloc _).to hb2
        replace hx := hx.rd
        clear hb2
        go_wp2_with fail
        refine (ref3_pow _ la n _ ha (by omega) hno).mono ?_
        rintro e w3 ⟨vy, rfl, hy, hb3⟩
        replace hB := below_step hB hb3
        replace ha := ha.to hb3
        replace hx := hx.to hb3
        replace hy := hy.rd
        clear hb3
        go_wp2_with fail
        refine (words_same _ _ _ _ hx hy).mono ?_
        rintro e w4 ⟨rfl, hb4⟩
        replace hB := below_step hB hb4
        replace ha := ha.to hb4
        replace hx := hx.to hb4
        replace hy := hy.to hb4
        clear hb4
        go_wp2_with fail
        refine (times_shift _ la s _ ha (by omega)).mono ?_
        rintro e w5 ⟨vp, rfl, hp, hb5⟩
        replace hB := below_step hB hb5
        replace ha := ha.to hb5
        replace hx := hx.to hb5
        replace hy := hy.to hb5
        replace hp := hp.rd
        clear hb5
        rw [Hs.out] at hp
        go_wp2_with fail
        refine (ref3_shift _ la s _ ha (by omega) (by omega)).mono ?_
        rintro e w6 ⟨vq, rfl, hq, hb6⟩
        replace hB := below_step hB hb6
        replace ha := ha.to hb6
        replace hx := hx.to hb6
        replace hy := hy.to hb6
        replace hp := hp.to hb6
        replace hq := hq.rd
        clear hb6
        go_wp2_with fail
        refine (words_same _ _ _ _ hp hq).mono ?_
        rintro e w7 ⟨rfl, hb7⟩
        replace hB := below_step hB hb7
        replace ha := ha.to hb7
        replace hx := hx.to hb7
        replace hy := hy.to hb7
        replace hp := hp.to hb7
        replace hq := hq.to hb7
        clear hb7
        go_wp2_with fail
        go_ret
        exact ⟨by first | rfl | exact ret_bool (by first | (simp; done) | (simp; omega)), hB⟩
      · by_cases h3 : c ≤ 0
        · go_enter Try.func4, Try.ntmps4
          go_wp2_with fail
          refine (awake3 _).mono ?_
          rintro e w1 ⟨rfl, hb1⟩
          have hB := hb1
          replace ha := ha.to hb1
          clear hb1
          go_wp2_with fail
          refine (ref2_cmp _ _ la [1] _ (ha.alloc _) (lit1 _ (by omega)) (by omega) (by simp)).mono ?_
          rintro e w' ⟨rfl, rfl⟩
          rw [Hc.out]
          go_wp2_with fail
          refine (times_pow _ la n _ (ha.alloc _) (by omega) hno).mono ?_
          rintro e w2 ⟨vx, rfl, hx, hb2⟩
          replace hB := below_step hB (below_new2 _ hb2)
          replace ha := (ha.alloc _).to hb2
          replace hx := hx.rd
          clear hb2
          go_wp2_with fail
          refine (ref3_pow _ la n _ ha (by omega) hno).mono ?_
          rintro e w3 ⟨vy, rfl, hy, hb3⟩
          replace hB := below_step hB hb3
          replace ha := ha.to hb3
          replace hx := hx.to hb3
          replace hy := hy.rd
          clear hb3
          go_wp2_with fail
          refine (words_same _ _ _ _ hx hy).mono ?_
          rintro e w4 ⟨rfl, hb4⟩
          replace hB := below_step hB hb4
          replace ha := ha.to hb4
          replace hx := hx.to hb4
          replace hy := hy.to hb4
          clear hb4
          go_wp2_with fail
          refine (times_shift _ la s _ ha (by omega)).mono ?_
          rintro e w5 ⟨vp, rfl, hp, hb5⟩
          replace hB := below_step hB hb5
          replace ha := ha.to hb5
          replace hx := hx.to hb5
          replace hy := hy.to hb5
          replace hp := hp.rd
          clear hb5
          rw [Hs.out] at hp
          go_wp2_with fail
          refine (ref3_shift _ la s _ ha (by omega) (by omega)).mono ?_
          rintro e w6 ⟨vq, rfl, hq, hb6⟩
          replace hB := below_step hB hb6
          replace ha := ha.to hb6
          replace hx := hx.to hb6
          replace hy := hy.to hb6
          replace hp := hp.to hb6
          replace hq := hq.rd
          clear hb6
          go_wp2_with fail
          refine (words_same _ _ _ _ hp hq).mono ?_
          rintro e w7 ⟨rfl, hb7⟩
          replace hB := below_step hB hb7
          replace ha := ha.to hb7
          replace hx := hx.to hb7
          replace hy := hy.to hb7
          replace hp := hp.to hb7
          replace hq := hq.to hb7
          clear hb7
          go_wp2_with fail
          go_ret
          exact ⟨by first | rfl | exact ret_bool (by first | (simp; done) | (simp; omega)), hB⟩
        · go_enter Try.func4, Try.ntmps4
          go_wp2_with fail
          refine (awake3 _).mono ?_
          rintro e w1 ⟨rfl, hb1⟩
          have hB := hb1
          replace ha := ha.to hb1
          clear hb1
          go_wp2_with fail
          refine (ref2_cmp _ _ la [1] _ (ha.alloc _) (lit1 _ (by omega)) (by omega) (by simp)).mono ?_
          rintro e w' ⟨rfl, rfl⟩
          rw [Hc.out]
          go_wp2_with fail
          all_goals (go_ret; exact ⟨by first | rfl | exact ret_bool (by first | (simp; done) | (simp; omega)), below_step hB (below_new _ _)⟩)
    · go_enter Try.func4, Try.ntmps4
      go_wp2_with fail
      refine (awake3 _).mono ?_
      rintro e w1 ⟨rfl, hb1⟩
      have hB := hb1
      replace ha := ha.to hb1
      clear hb1
      go_wp2_with fail
      refine (ref2_cmp _ _ la [1] _ (ha.alloc _) (lit1 _ (by omega)) (by omega) (by simp)).mono ?_
      rintro e w' ⟨rfl, rfl⟩
      rw [Hc.out]
      go_wp2_with fail
      refine (times_pow _ la n _ (ha.alloc _) (by omega) hno).mono ?_
      rintro e w2 ⟨vx, rfl, hx, hb2⟩
      replace hB := below_step hB (below_new2 _ hb2)
      replace ha := (ha.alloc _).to hb2
      replace hx := hx.rd
      clear hb2
      go_wp2_with fail
      refine (ref3_pow _ la n _ ha (by omega) hno).mono ?_
      rintro e w3 ⟨vy, rfl, hy, hb3⟩
      replace hB := below_step hB hb3
      replace ha := ha.to hb3
      replace hx := hx.to hb3
      replace hy := hy.rd
      clear hb3
      go_wp2_with fail
      refine (words_same _ _ _ _ hx hy).mono ?_
      rintro e w4 ⟨rfl, hb4⟩
      replace hB := below_step hB hb4
      replace ha := ha.to hb4
      replace hx := hx.to hb4
      replace hy := hy.to hb4
      clear hb4
      go_wp2_with fail
      refine (times_shift _ la s _ ha (by omega)).mono ?_
      rintro e w5 ⟨vp, rfl, hp, hb5⟩
      replace hB := below_step hB hb5
      replace ha := ha.to hb5
      replace hx := hx.to hb5
      replace hy := hy.to hb5
      replace hp := hp.rd
      clear hb5
      rw [Hs.out] at hp
      go_wp2_with fail
      refine (ref3_shift _ la s _ ha (by omega) (by omega)).mono ?_
      rintro e w6 ⟨vq, rfl, hq, hb6⟩
      replace hB := below_step hB hb6
      replace ha := ha.to hb6
      replace hx := hx.to hb6
      replace hy := hy.to hb6
      replace hp := hp.to hb6
      replace hq := hq.rd
      clear hb6
      go_wp2_with fail
      refine (words_same _ _ _ _ hp hq).mono ?_
      rintro e w7 ⟨rfl, hb7⟩
      replace hB := below_step hB hb7
      replace ha := ha.to hb7
      replace hx := hx.to hb7
      replace hy := hy.to hb7
      replace hp := hp.to hb7
      replace hq := hq.to hb7
      clear hb7
      go_wp2_with fail
      go_ret
      exact ⟨by first | rfl | exact ret_bool (by first | (simp; done) | (simp; omega)), hB⟩

end Go.Proofs.Ytbllgahknfhooaa
