/-
  The walks of package deci: digits are told.
-/
import Derived.Test.YteokdkcanckfeaaDeci
import Derived.Test.YteokdkcanckfeaaBytes
namespace Go.Proofs.Yteokdkcanckfeaa
open Go.RowKit Tw
set_option linter.unusedVariables false
set_option linter.unusedSimpArgs false

def outTest : Value → Nat
  | .slice _ n _ => if n = 0 then 1 else 0
  | _ => 0

theorem ndig_bound {l : List Nat} (h : Small l) : ndig (val l) ≤ 10 * l.length + 1 := by
  apply ndig_le (by omega)
  have h1 := val_lt h
  have h2 : B ^ l.length ≤ (10 ^ 10) ^ l.length := Nat.pow_le_pow_left (by rw [B_eq]; omega) _
  rw [← Nat.pow_mul] at h2
  have h3 := Nat.pow_le_pow_right (n := 10) (by omega) (show 10 * l.length ≤ 10 * l.length + 1 by omega)
  omega

set_option maxRecDepth 100000 in
set_option maxHeartbeats 4000000 in
theorem deci_print (va : Value) (la : List Nat) (w : World) (ha : Rd w va la) (hla : la.length ≤ 5000) :
    Calls Try.prog 19 #[va] w fun e w' => e = .returned (.string (ba (digs (val la)))) ∧ Below w.heap.size w w' := by
  have hnd := ndig_bound ha.1
  have Hnd := Lib.hid (show ndig (val la) ≤ 50001 by omega)
  clear hnd
  go_enter Try.func19, Try.ntmps19
  go_wp2_with fail
  go_loopw [0, 3] (fun a out ww => ∃ (X : Nat) (lx E : List Nat), Rd ww a lx ∧ Hid (val lx = X) ∧ lx.length ≤ 5000 ∧ OwnB w.heap.size ww out E ∧ Hid (Told (val la) X E) ∧ Below w.heap.size w ww) (fun a out ww => 2 * rdVal ww a + outTest out)
  case atStart => exact ⟨val la, la, [], ha, rfl, hla, OwnB.nil _ _, told_start _, Below.refl _ _⟩
  case round =>
    obtain ⟨X, lx, E, hx, HX, hlx, hE, HT, hbw⟩ := hrel
    have hEl := Nat.le_trans (told_len HT.out) Hnd.out
    have hsw := hbw.size
    have Hrd := Lib.hid (rdVal_rd hx)
    have hE2 := hE
    obtain ⟨ao, no, co, rfl, Hno, hno⟩ := hE.open
    rcases Nat.eq_zero_or_pos X with hX0 | hXp
    · have Hn := Lib.hid (show nbits (val lx) = 0 by rw [HX.out, hX0]; rfl)
      have HX0 := Lib.hid hX0
      rcases Nat.eq_zero_or_pos no with hn0 | hnp
      · have hE0 : E = [] := List.eq_nil_of_length_eq_zero (by rw [Hno.out]; exact hn0)
        have Hn0 := Lib.hid hn0
        obtain ⟨r, hr, hr10⟩ : ∃ r, X % 10 = r ∧ r < 10 := ⟨_, rfl, Nat.mod_lt _ (by omega)⟩
        have HR := Lib.hid (show val lx % (10 : Int).toNat = r by rw [HX.out]; exact hr)
        have Hst := Lib.hid (show Told (val la) (X / 10) (E ++ [48 + r]) by rw [← hr]; exact told_step HT.out (.inr hE0))
        have hlq : (limbs (X / 10)).length ≤ 5000 := by
          have h1 := sz_div X 10
          have h2 := sz_val hx.1
          rw [HX.out] at h2
          rw [sz_def]; omega
        have hEn : E.length ≤ 1000000 := by omega
        clear hr
        subst hn0
        clear hE0 hX0
        go_wp2_with fail
        refine (nat_bits _ lx _ hx (by omega)).mono ?_
        rintro e w' ⟨rfl, rfl⟩
        rw [Hn.out]
        go_wp2_with fail
        refine (split_small _ lx 10 _ hx (by omega) (by omega) (by omega)).mono ?_
        rintro e w2 ⟨vq, rfl, hq, hb2⟩
        rw [HR.out]
        replace hq : Own wr.heap.size w2 vq (limbs (X / 10)) := by rw [HX.out] at hq; exact hq
        have hE3 := hE2.to hb2
        have hs2 := hb2.size
        go_wp2_with (at_builtin; refine wp_appendB _ rfl (.tmp 21) (.tmp 25) rfl w.heap.size _ w2.heap.size E (48 + r) rfl rfl (hE3.alloc _) (by omega) (by simp [go_sem]) (by simp; omega) (by omega) ?_; intro v5 w5 hE5 hb5 hs5 hg5)
        go_roundw
        case rel => exact ⟨X / 10, limbs (X / 10), E ++ [48 + r], ((hq.alloc _).grown hg5 (fun k hk => (hE2.2.lt k hk).2)).rd, val_limbs _, hlq, hE5, Hst.out, (below_step hbw (below_step hb2 (below_new _ _))).trans hb5⟩
        case measure =>
          obtain ⟨a5, n5, c5, rfl, Hn5, _⟩ := hE5.open
          have hn5 : n5 ≠ 0 := by have := Hn5.out; rw [List.length_append] at this; simp at this; omega
          rw [Hrd.out, HX.out, rdVal_rd ((hq.alloc _).grown hg5 (fun k hk => (hE2.2.lt k hk).2)).rd, val_limbs]
          simp only [outTest, if_neg hn5]
          have := HX0.out; simp; omega
      · obtain ⟨g, rfl, hg1, hg2⟩ := hno hnp
        have hne : ((no : Int) == 0) = false := by simp; omega
        have hn1 : no ≤ 1000000 := by have := Hno.out; omega
        have Hrev := Lib.hid (show E.reverse = digs (val la) from told_end (by rw [← HX0.out]; exact HT.out) (fun e => by have := Hno.out; rw [e] at this; simp at this; omega))
        clear hX0
        go_wp2_with fail
        refine (nat_bits _ lx _ hx (by omega)).mono ?_
        rintro e w' ⟨rfl, rfl⟩
        rw [Hn.out]
        go_wp2_with fail
        refine (reverse_any w.heap.size g no co E _ hE2 hg1 hnp hn1).mono ?_
        rintro e w2 ⟨rfl, hE3, hb2⟩
        have hcv := hE3.conv
        rw [Hrev.out] at hcv
        go_wp2_with fail
        go_ret
        exact ⟨rfl, hbw.trans hb2⟩
    · have hnb : 0 < nbits (val lx) := Nat.pos_of_ne_zero (fun e => by have := nbits_eq_zero.1 e; rw [HX.out] at this; omega)
      obtain ⟨r, hr, hr10⟩ : ∃ r, X % 10 = r ∧ r < 10 := ⟨_, rfl, Nat.mod_lt _ (by omega)⟩
      have HR := Lib.hid (show val lx % (10 : Int).toNat = r by rw [HX.out]; exact hr)
      have Hst := Lib.hid (show Told (val la) (X / 10) (E ++ [48 + r]) by rw [← hr]; exact told_step HT.out (.inl (by omega)))
      have hlq : (limbs (X / 10)).length ≤ 5000 := by
        have h1 := sz_div X 10
        have h2 := sz_val hx.1
        rw [HX.out] at h2
        rw [sz_def]; omega
      have hEn : E.length ≤ 1000000 := by omega
      clear hr
      go_wp2_with fail
      refine (nat_bits _ lx _ hx (by omega)).mono ?_
      rintro e w' ⟨rfl, rfl⟩
      go_wp2_with fail
      refine (split_small _ lx 10 _ hx (by omega) (by omega) (by omega)).mono ?_
      rintro e w2 ⟨vq, rfl, hq, hb2⟩
      rw [HR.out]
      replace hq : Own wr.heap.size w2 vq (limbs (X / 10)) := by rw [HX.out] at hq; exact hq
      have hE3 := hE2.to hb2
      have hs2 := hb2.size
      go_wp2_with (at_builtin; refine wp_appendB _ rfl (.tmp 21) (.tmp 25) rfl w.heap.size _ w2.heap.size E (48 + r) rfl rfl (hE3.alloc _) (by omega) (by simp [go_sem]) (by simp; omega) (by omega) ?_; intro v5 w5 hE5 hb5 hs5 hg5)
      go_roundw
      case rel => exact ⟨X / 10, limbs (X / 10), E ++ [48 + r], ((hq.alloc _).grown hg5 (fun k hk => (hE2.2.lt k hk).2)).rd, val_limbs _, hlq, hE5, Hst.out, (below_step hbw (below_step hb2 (below_new _ _))).trans hb5⟩
      case measure =>
        obtain ⟨a5, n5, c5, rfl, Hn5, _⟩ := hE5.open
        have hn5 : n5 ≠ 0 := by have := Hn5.out; rw [List.length_append] at this; simp at this; omega
        rw [Hrd.out, HX.out, rdVal_rd ((hq.alloc _).grown hg5 (fun k hk => (hE2.2.lt k hk).2)).rd, val_limbs]
        simp only [outTest, if_neg hn5]
        omega

set_option maxHeartbeats 1000000 in
theorem deci_digits (va : Value) (la : List Nat) (w : World) (ha : Rd w va la) (hla : la.length ≤ 5000) :
    Calls Try.prog 20 #[va] w fun e w' => e = .returned (.int .i64 (ndig (val la) : Nat)) ∧ Below w.heap.size w w' := by
  have Hl := Lib.hid (show (ba (digs (val la))).size = ndig (val la) from ba_size _)
  go_enter Try.func20, Try.ntmps20
  go_wp2_with fail
  refine (deci_print _ la _ ha hla).mono ?_
  rintro e w1 ⟨rfl, hb1⟩
  generalize ba (digs (val la)) = s at *
  go_wp2_with fail
  go_ret
  exact ⟨ret_one (int_eq (by rw [← Hl.out])), hb1⟩

end Go.Proofs.Yteokdkcanckfeaa
