/-
  The contracts of the document's answer for integers, and of texts, said by the integers that the values are.
-/
import Derived.Test.YteokdkcanckfeaaWholeO
namespace Go.Proofs.Yteokdkcanckfeaa
open Go.RowKit Tw
set_option linter.unusedVariables false

section
variable {b c : Bool} {va vb : Value} {la lb : List Nat} {x y : Int}
theorem radd_z (w : World) (g0 : IsI w b va la x) (g1 : IsI w c vb lb y) (z : Int) (hz : x + y = z) (hs : Hid (szi z ≤ 90000)) :
    Calls Try.prog 47 #[aggI b va, aggI c vb] w (GivesZ w z) :=
  (ref7_add b c va vb la lb w g0.1 g1.1 (Nat.le_trans g0.2.2 (by omega)) (Nat.le_trans g1.2.2 (by omega))).mono fun e w' h => givesZ (by rw [g0.2.1, g1.2.1, hz]) hs h

theorem rmul_z (w : World) (g0 : IsI w b va la x) (g1 : IsI w c vb lb y) (z : Int) (hz : x * y = z) (hs : Hid (szi z ≤ 90000)) :
    Calls Try.prog 48 #[aggI b va, aggI c vb] w (GivesZ w z) :=
  (ref7_mul b c va vb la lb w g0.1 g1.1 (Nat.le_trans g0.2.2 (by omega)) (Nat.le_trans g1.2.2 (by omega))).mono fun e w' h => givesZ (by rw [g0.2.1, g1.2.1, hz]) hs h

theorem rneg_z (w : World) (g0 : IsI w b va la x) (z : Int) (hz : -x = z) :
    Calls Try.prog 43 #[aggI b va] w (GivesZ w z) :=
  (ref7_neg b va la w g0.1 (Nat.le_trans g0.2.2 (by omega))).mono fun e w' h => givesZ (by rw [g0.2.1, hz]) (by rw [← hz, szi_neg]; exact Nat.le_trans g0.small g0.2.2) h

theorem rfix_z (w : World) (g0 : IsI w b va la x) (z : Int) (hz : x = z) :
    Calls Try.prog 33 #[aggI b va] w (GivesZ w z) :=
  (ref7_fix b va la w g0.1 (Nat.le_trans g0.2.2 (by omega))).mono fun e w' h => givesZ (by rw [g0.2.1, hz]) (by rw [← hz]; exact Nat.le_trans g0.small g0.2.2) h

theorem szi_word {z : Int} (n0 : -9223372036854775808 ≤ z) (n1 : z < 9223372036854775808) : szi z ≤ 90000 := by
  unfold szi
  have := sz_mono (show z.natAbs ≤ 18446744073709551616 by omega)
  rw [show sz 18446744073709551616 = 3 by decide +kernel] at this
  omega

theorem rof_z (n z : Int) (w : World) (hz : z = n) (n0 : -9223372036854775808 ≤ n) (n1 : n < 9223372036854775808) :
    Calls Try.prog 45 #[.int .i64 n] w (GivesZ w z) :=
  (ref7_of n z w hz n0 n1).mono fun e w' h => givesZ rfl (szi_word (by omega) (by omega)) h

theorem rcmp_z (w : World) (g0 : IsI w b va la x) (g1 : IsI w c vb lb y) (z : Int) (hz : cmpZ x y = z) :
    Calls Try.prog 46 #[aggI b va, aggI c vb] w fun e w' => e = .returned (.int .i64 z) ∧ Below w.heap.size w w' :=
  (ref7_cmp b c va vb la lb w g0.1 g1.1 (Nat.le_trans g0.2.2 (by omega)) (Nat.le_trans g1.2.2 (by omega))).mono fun e w' h => by rw [g0.2.1, g1.2.1, hz] at h; exact h

theorem rright_q (w : World) (g0 : IsI w b va la x) (q : Bool) (hq : rightI b la = q) :
    Calls Try.prog 42 #[aggI b va] w fun e w' => e = .returned (.bool q) ∧ Below w.heap.size w w' :=
  (ref7_right b va _ w g0.1 (Nat.le_trans g0.2.2 (by omega))).mono fun e w' h => by rw [hq] at h; exact h

theorem right_q (w : World) (g0 : IsI w b va la x) (q : Bool) (hq : rightI b la = q) :
    Calls Try.prog 37 #[aggI b va] w fun e w' => e = .returned (.bool q) ∧ Below w.heap.size w w' :=
  (whole_right b va _ w g0.1 (Nat.le_trans g0.2.2 (by omega))).mono fun e w' h => by rw [hq] at h; exact h

theorem print_z (w : World) (g0 : IsI w b va la x) (hl : la.length ≤ 5000) (t : ByteArray) (ht : ba (itext x) = t) :
    Calls Try.prog 30 #[aggI b va] w fun e w' => e = .returned (.string t) ∧ Below w.heap.size w w' :=
  (whole_print b va la w g0.1 hl).mono fun e w' h => by rw [g0.2.1, ht] at h; exact h

theorem rprint_z (w : World) (g0 : IsI w b va la x) (hl : la.length ≤ 5000) (t : ByteArray) (ht : ba (itext x) = t) :
    Calls Try.prog 32 #[aggI b va] w fun e w' => e = .returned (.string t) ∧ Below w.heap.size w w' :=
  (ref7_print b va la w g0.1 hl).mono fun e w' h => by rw [g0.2.1, ht] at h; exact h

end

/-- The integer of any text (0, if it is none), and the number of what is wrong (0: nothing is). -/
noncomputable def pz (l : List Nat) : Int := open Classical in if OkText (body l) then sgn (neg1 l) (dval (body l)) else 0
noncomputable def pk (l : List Nat) : Int := open Classical in if OkText (body l) then 0 else 2
theorem pz_itext (z : Int) : pz (itext z) = z := by
  unfold pz
  rw [if_pos (by rw [body_itext]; exact okText_digs _), body_itext, neg1_itext, dval_digs, sgn_canon]
theorem pk_itext (z : Int) : pk (itext z) = 0 := by
  unfold pk
  rw [if_pos (by rw [body_itext]; exact okText_digs _)]
theorem body_len (l : List Nat) : (body l).length ≤ l.length := by
  unfold body; split <;> simp
theorem szi_pz {l : List Nat} (h : l.length ≤ 1000) : szi (pz l) ≤ 90000 := by
  unfold pz
  split
  · rename_i hok
    rw [szi_sgn]
    have h1 := body_len l
    have h2 := dval_lt hok.2.1
    have h3 : (10 : Nat) ^ (body l).length ≤ B ^ (body l).length := Nat.pow_le_pow_left (by rw [B_eq]; omega) _
    have h4 := sz_le (Nat.lt_of_lt_of_le h2 h3)
    omega
  · show sz 0 ≤ _; decide +kernel

/-- What a call leaves that answers the integer z, and the number of what is wrong. -/
def GivesK (w : World) (z k : Int) (e : Ending) (w' : World) : Prop :=
  ∃ ng a n c, e = .returned (.tuple #[aggI ng (.slice a n c), .int .i64 k]) ∧ Hid (decide (z < 0) = ng) ∧ IsI w' ng (.slice a n c) (limbs z.natAbs) z ∧ Below w.heap.size w w'
theorem givesK {w : World} {z z' k : Int} {e : Ending} {w' : World} (hz : z = z') (hk : 0 = k) (hs : szi z' ≤ 90000) (h : GivesP w z e w') : GivesK w z' k e w' := by
  subst hz hk
  obtain ⟨v, rfl, hv, hb⟩ := h
  obtain ⟨a, n, c, rfl, _, _⟩ := hv.rd.open
  exact ⟨_, a, n, c, rfl, rfl, ⟨hv.rd, sgn_back z, by rw [sz_def]; exact hs⟩, hb⟩
theorem givesK_no {w : World} {z k m : Int} {e : Ending} {w' : World} (hz : 0 = z) (hk : m = k) (h : NoP w m e w') : GivesK w z k e w' := by
  subst hz hk
  obtain ⟨rfl, hb⟩ := h
  exact ⟨_, none, 0, 0, rfl, rfl, ⟨by rw [show limbs (0 : Int).natAbs = [] by decide +kernel]; exact Rd.nil _, by rw [show limbs (0 : Int).natAbs = [] by decide +kernel]; rfl, by decide +kernel⟩, hb⟩

theorem parse_k (s : ByteArray) (w : World) (hs : s.size ≤ 1000) (z k : Int) (hz : pz (bs s) = z) (hk : pk (bs s) = k) :
    Calls Try.prog 28 #[.string s] w (GivesK w z k) := by
  have hb : szi z ≤ 90000 := by rw [← hz]; exact szi_pz (by rw [bs_length]; exact hs)
  by_cases hok : OkText (body (bs s))
  · exact (whole_parse s w hs hok).mono fun e w' h => givesK (by rw [← hz]; unfold pz; rw [if_pos hok]) (by rw [← hk]; unfold pk; rw [if_pos hok]) hb h
  · exact (whole_parse_no s w hs hok).mono fun e w' h => givesK_no (by rw [← hz]; unfold pz; rw [if_neg hok]) (by rw [← hk]; unfold pk; rw [if_neg hok]) h

theorem rparse_k (s : ByteArray) (w : World) (hs : s.size ≤ 1000) (z k : Int) (hz : pz (bs s) = z) (hk : pk (bs s) = k) :
    Calls Try.prog 29 #[.string s] w (GivesK w z k) := by
  have hb : szi z ≤ 90000 := by rw [← hz]; exact szi_pz (by rw [bs_length]; exact hs)
  by_cases hok : OkText (body (bs s))
  · exact (ref7_parse s w hs hok).mono fun e w' h => givesK (by rw [← hz]; unfold pz; rw [if_pos hok]) (by rw [← hk]; unfold pk; rw [if_pos hok]) hb h
  · exact (ref7_parse_no s w hs hok).mono fun e w' h => givesK_no (by rw [← hz]; unfold pz; rw [if_neg hok]) (by rw [← hk]; unfold pk; rw [if_neg hok]) h

theorem bs_itext (z : Int) : bs (ba (itext z)) = itext z := by
  refine bs_ba fun x hx => ?_
  unfold itext at hx
  split at hx
  · rcases List.mem_cons.1 hx with rfl | h
    · omega
    · exact dig_lt (digs_dig _) x h
  · exact dig_lt (digs_dig _) x hx
theorem itext_len (z : Int) : (itext z).length ≤ ndig z.natAbs + 1 := by
  unfold itext ndig
  split <;> simp

end Go.Proofs.Yteokdkcanckfeaa
