/-
  Integers at hand: one hypothesis a value; the contracts of package whole said by the integers that the values are.
-/
import Derived.Test.YteokdkcanckfeaaRef7p
import Derived.Test.YteokdkcanckfeaaRef7b
namespace Go.Proofs.Yteokdkcanckfeaa
open Go.RowKit Tw
set_option linter.unusedVariables false

theorem sgn_back (z : Int) : sgn (decide (z < 0)) (val (limbs z.natAbs)) = z := by rw [val_limbs, sgn_canon]

/-- In w the value of sign b and words v (which read l) is the integer z. -/
def IsI (w : World) (b : Bool) (v : Value) (l : List Nat) (z : Int) : Prop := Rd w v l ∧ sgn b (val l) = z ∧ l.length ≤ 90000
theorem IsI.to {w w' : World} {b : Bool} {v : Value} {l : List Nat} {z : Int} (h : IsI w b v l z) (hb : Below w.heap.size w w') : IsI w' b v l z := ⟨h.1.to hb, h.2⟩
theorem IsI.drew {w : World} {b : Bool} {v : Value} {l : List Nat} {z : Int} (h : IsI w b v l z) : IsI w.drew b v l z := ⟨h.1.drew, h.2⟩
theorem IsI.small {w : World} {b : Bool} {v : Value} {l : List Nat} {z : Int} (h : IsI w b v l z) : szi z ≤ l.length := by
  rw [← h.2.1, szi_sgn]; exact sz_val h.1.1

/-- What a call leaves that answers the integer z. -/
def GivesZ (w : World) (z : Int) (e : Ending) (w' : World) : Prop :=
  ∃ ng a n c, e = .returned (aggI ng (.slice a n c)) ∧ Hid (decide (z < 0) = ng) ∧ IsI w' ng (.slice a n c) (limbs z.natAbs) z ∧ Below w.heap.size w w'
theorem givesZ {w : World} {z z' : Int} {e : Ending} {w' : World} (hz : z = z') (hs : szi z' ≤ 90000) (h : GivesI w z e w') : GivesZ w z' e w' := by
  subst hz
  obtain ⟨v, rfl, hv, hb⟩ := h
  obtain ⟨a, n, c, rfl, _, _⟩ := hv.rd.open
  exact ⟨_, a, n, c, rfl, rfl, ⟨hv.rd, sgn_back z, by rw [sz_def]; exact hs⟩, hb⟩

section
variable {b c : Bool} {va vb : Value} {la lb : List Nat} {x y : Int}
theorem add_z (w : World) (g0 : IsI w b va la x) (g1 : IsI w c vb lb y) (z : Int) (hz : x + y = z) (hs : Hid (szi z ≤ 90000)) :
    Calls Try.prog 35 #[aggI b va, aggI c vb] w (GivesZ w z) :=
  (whole_add b c va vb la lb w g0.1 g1.1 (Nat.le_trans g0.2.2 (by omega)) (Nat.le_trans g1.2.2 (by omega))).mono fun e w' h => givesZ (by rw [g0.2.1, g1.2.1, hz]) hs h

theorem sub_z (w : World) (g0 : IsI w b va la x) (g1 : IsI w c vb lb y) (z : Int) (hz : x - y = z) (hs : Hid (szi z ≤ 90000)) :
    Calls Try.prog 38 #[aggI b va, aggI c vb] w (GivesZ w z) :=
  (whole_sub b c va vb la lb w g0.1 g1.1 (Nat.le_trans g0.2.2 (by omega)) (Nat.le_trans g1.2.2 (by omega))).mono fun e w' h => givesZ (by rw [g0.2.1, g1.2.1, hz]) hs h

theorem mul_z (w : World) (g0 : IsI w b va la x) (g1 : IsI w c vb lb y) (z : Int) (hz : x * y = z) (hs : Hid (szi z ≤ 90000)) :
    Calls Try.prog 36 #[aggI b va, aggI c vb] w (GivesZ w z) :=
  (whole_mul b c va vb la lb w g0.1 g1.1 (Nat.le_trans g0.2.2 (by omega)) (Nat.le_trans g1.2.2 (by omega))).mono fun e w' h => givesZ (by rw [g0.2.1, g1.2.1, hz]) hs h

theorem neg_z (w : World) (g0 : IsI w b va la x) (z : Int) (hz : -x = z) :
    Calls Try.prog 41 #[aggI b va] w (GivesZ w z) :=
  (whole_neg b va la w g0.1 (Nat.le_trans g0.2.2 (by omega))).mono fun e w' h => givesZ (by rw [g0.2.1, hz]) (by rw [← hz, szi_neg]; exact Nat.le_trans g0.small g0.2.2) h

theorem fix_z (w : World) (g0 : IsI w b va la x) (z : Int) (hz : x = z) :
    Calls Try.prog 40 #[aggI b va] w (GivesZ w z) :=
  (whole_fix b va la w g0.1 (Nat.le_trans g0.2.2 (by omega))).mono fun e w' h => givesZ (by rw [g0.2.1, hz]) (by rw [← hz]; exact Nat.le_trans g0.small g0.2.2) h

theorem of_z (n z : Int) (w : World) (hz : z = n) (n0 : -9223372036854775808 ≤ n) (n1 : n < 9223372036854775808) :
    Calls Try.prog 44 #[.int .i64 n] w (GivesZ w z) :=
  (whole_of n z w hz n0 n1).mono fun e w' h => givesZ rfl (by
    unfold szi
    have := sz_mono (show z.natAbs ≤ 18446744073709551616 by omega)
    rw [show sz 18446744073709551616 = 3 by decide +kernel] at this
    omega) h

theorem cmp_z (w : World) (g0 : IsI w b va la x) (g1 : IsI w c vb lb y) (z : Int) (hz : cmpZ x y = z) :
    Calls Try.prog 39 #[aggI b va, aggI c vb] w fun e w' => e = .returned (.int .i64 z) ∧ Below w.heap.size w w' :=
  (whole_cmp b c va vb la lb w g0.1 g1.1 (Nat.le_trans g0.2.2 (by omega)) (Nat.le_trans g1.2.2 (by omega))).mono fun e w' h => by rw [g0.2.1, g1.2.1, hz] at h; exact h

theorem right_z {z : Int} (w : World) (g0 : IsI w b va (limbs z.natAbs) z) (hb : Hid (decide (z < 0) = b)) :
    Calls Try.prog 37 #[aggI b va] w fun e w' => e = .returned (.bool true) ∧ Below w.heap.size w w' :=
  (whole_right b va _ w g0.1 (Nat.le_trans g0.2.2 (by omega))).mono fun e w' h => by
    rw [show rightI b (limbs z.natAbs) = true from ?_] at h
    · exact h
    · have e := hb.out
      subst e
      unfold rightI
      rw [val_limbs, sz_def]
      have := @sz_eq_zero z.natAbs
      by_cases hz : z < 0
      · have : ¬ sz z.natAbs = 0 := by omega
        simp [this]
      · simp [hz]

theorem same_z {z : Int} (w : World) (g0 : IsI w b va (limbs z.natAbs) z) (g1 : IsI w c vb (limbs z.natAbs) z) (h0 : Hid (decide (z < 0) = b)) (h1 : Hid (decide (z < 0) = c)) :
    Calls Try.prog 31 #[aggI b va, aggI c vb] w fun e w' => e = .returned (.bool true) ∧ Below w.heap.size w w' := by
  have e : b = c := h0.out.symm.trans h1.out
  subst e
  exact ref7_same b va vb _ w g0.1 g1.1

end

end Go.Proofs.Yteokdkcanckfeaa
