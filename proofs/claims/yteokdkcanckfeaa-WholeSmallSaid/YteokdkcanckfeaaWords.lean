/-
  Two lists of words that are not one.
-/
import Derived.Test.YteokdkcanckfeaaRef2
namespace Go.Proofs.Yteokdkcanckfeaa
open Go.RowKit Tw
set_option linter.unusedVariables false
set_option linter.unusedSimpArgs false

set_option maxRecDepth 100000 in
set_option maxHeartbeats 1000000 in
theorem words_diff (va vb : Value) (la lb : List Nat) (w : World) (ha : Rd w va la) (hb : Rd w vb lb) (hne : la ≠ lb) :
    Calls Try.prog 17 #[va, vb] w fun e w' => e = .returned (.bool false) ∧ Below w.heap.size w w' := by
  have hlm := ha.len_le
  unfold maxLen at hlm
  have Hne := Lib.hid hne
  clear hne
  obtain ⟨aa, na, capa, rfl, Hna, _⟩ := ha.open
  obtain ⟨ab, nb, capb, rfl, Hnb, _⟩ := hb.open
  by_cases hl : na = nb
  · subst hl
    have hn : na ≤ 2 ^ 63 - 1 := by have := Hna.out; omega
    go_enter Try.func17, Try.ntmps17
    go_wp2_with fail
    go_loopw [5] (fun i ww => ∃ k : Nat, k ≤ na ∧ i = .int .i64 k ∧ Below w.heap.size w ww ∧ Hid (la.take k = lb.take k)) (fun i _ => na - (intOf i).toNat)
    case atStart => exact ⟨0, Nat.zero_le _, rfl, Below.refl _ _, by unfold Hid; simp⟩
    case round =>
      obtain ⟨k, hk, rfl, hbw, Ht⟩ := hrel
      by_cases hkl : k < na
      · obtain ⟨ba, offa, rfl, hcella⟩ := (ha.to hbw).cells (by rw [Hna.out]; omega)
        obtain ⟨bb, offb, rfl, hcellb⟩ := (hb.to hbw).cells (by rw [Hnb.out]; omega)
        have hxa := hcella k (by rw [Hna.out]; omega)
        have hxb := hcellb k (by rw [Hnb.out]; omega)
        have hi1 : (k : Int) < (na : Int) := by omega
        clear hcella hcellb
        by_cases hx : nth la k = nth lb k
        · have t : ((nth la k : Int) != (nth lb k : Int)) = false := by simp; omega
          have H2 : Hid (la.take (k + 1) = lb.take (k + 1)) := by
            unfold Hid
            rw [take_snoc (by rw [Hna.out]; omega), take_snoc (by rw [Hnb.out]; omega), Ht.out, hx]
          clear hx
          go_wp2_with fail
          go_quiet (fail)
          have hbw2 := below_drewN hbw nq
          clear hxa hxb
          generalize wr.drewN nq = w2 at *
          go_wp2_with fail
          go_roundw
          case rel => exact ⟨k + 1, by omega, by go_num, hbw2, H2⟩
          case measure => simp [intOf]; omega
        · have t : ((nth la k : Int) != (nth lb k : Int)) = true := by simp; omega
          clear hx
          go_wp2_with fail
          go_quiet (fail)
          have hbw2 := below_drewN hbw nq
          clear hxa hxb
          generalize wr.drewN nq = w2 at *
          go_wp2_with fail
          go_ret
          exact ⟨rfl, hbw2⟩
      · obtain rfl : k = na := by omega
        have h := Ht.out
        rw [List.take_of_length_le (by rw [Hna.out]; exact Nat.le_refl _), List.take_of_length_le (by rw [Hnb.out]; exact Nat.le_refl _)] at h
        exact absurd h Hne.out
  · have t : ((na : Int) != (nb : Int)) = true := by simp; omega
    clear hl
    go_enter Try.func17, Try.ntmps17
    go_wp2_with fail
    go_ret
    exact ⟨rfl, Below.refl _ _⟩

end Go.Proofs.Yteokdkcanckfeaa
