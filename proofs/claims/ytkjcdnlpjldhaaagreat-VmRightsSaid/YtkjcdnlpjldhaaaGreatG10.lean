/-
  The texts Deci, DeciPrint, Ref6, merged.
-/
import Derived.Test.YtkjcdnlpjldhaaaGreatG06
import Derived.Test.YtkjcdnlpjldhaaaGreatG08
import Derived.Lib.OthersKept
import Derived.Laws.RangeAny
import Derived.Test.YtkjcdnlpjldhaaaGreatG09
namespace Go.Proofs.YtkjcdnlpjldhaaaGreat
open Go.RowKit Tw
set_option linter.unusedVariables false
set_option linter.unusedSimpArgs false

end Go.Proofs.YtkjcdnlpjldhaaaGreat


namespace Go.Proofs.YtkjcdnlpjldhaaaGreat
open Go.RowKit Tw
set_option linter.unusedVariables false
set_option linter.unusedSimpArgs false

def outTest : Value → Nat
  | .slice _ n _ => if n = 0 then 1 else 0
  | _ => 0

theorem ndig_bound {l : List Nat} (h : Small l) : ndig (val l) ≤ 10 * l.length + 1 := by
  apply ndig_le (by omega)
  have h1 := val_lt h
  have h2 : B ^ l.length ≤ (10 ^ 10) ^ l.length := Nat.pow_le_pow_left (by rw [B_eq]; omega) _
  rw [← Nat.pow_mul] at h2
  have h3 := Nat.pow_le_pow_right (n := 10) (by omega) (show 10 * l.length ≤ 10 * l.length + 1 by omega)
  omega

set_option maxRecDepth 100000 in
set_option maxHeartbeats 4000000 in
theorem deci_print (va : Value) (la : List Nat) (w : World) (ha : Rd w va la) (hla : la.length ≤ 5000) :
    Calls Tryz.prog 109 #[va] w fun e w' => e = .returned (.string (ba (digs (val la)))) ∧ Below w.heap.size w w' := by
  have hnd := ndig_bound ha.1
  have Hnd := Lib.hid (show ndig (val la) ≤ 50001 by omega)
  clear hnd
  go_enter Tryz.func109, Tryz.ntmps109
  go_wp2_with fail
  go_loopw [0, 3] (fun a out ww => ∃ (X : Nat) (lx E : List Nat), Rd ww a lx ∧ Hid (val lx = X) ∧ lx.length ≤ 5000 ∧ OwnB w.heap.size ww out E ∧ Hid (Told (val la) X E) ∧ Below w.heap.size w ww) (fun a out ww => 2 * rdVal ww a + outTest out)
  case atStart => exact ⟨val la, la, [], ha, rfl, hla, OwnB.nil _ _, told_start _, Below.refl _ _⟩
  case round =>
    obtain ⟨X, lx, E, hx, HX, hlx, hE, HT, hbw⟩ := hrel
    have hEl := Nat.le_trans (told_len HT.out) Hnd.out
    have hsw := hbw.size
    have Hrd := Lib.hid (rdVal_rd hx)
    have hE2 := hE
    obtain ⟨ao, no, co, rfl, Hno, hno⟩ := hE.open
    rcases Nat.eq_zero_or_pos X with hX0 | hXp
    · have Hn := Lib.hid (show nbits (val lx) = 0 by rw [HX.out, hX0]; rfl)
      have HX0 := Lib.hid hX0
      rcases Nat.eq_zero_or_pos no with hn0 | hnp
      · have hE0 : E = [] := List.eq_nil_of_length_eq_zero (by rw [Hno.out]; exact hn0)
        have Hn0 := Lib.hid hn0
        obtain ⟨r, hr, hr10⟩ : ∃ r, X % 10 = r ∧ r < 10 := ⟨_, rfl, Nat.mod_lt _ (by omega)⟩
        have HR := Lib.hid (show val lx % (10 : Int).toNat = r by rw [HX.out]; exact hr)
        have Hst := Lib.hid (show Told (val la) (X / 10) (E ++ [48 + r]) by rw [← hr]; exact told_step HT.out (.inr hE0))
        have hlq : (limbs (X / 10)).length ≤ 5000 := by
          have h1 := sz_div X 10
          have h2 := sz_val hx.1
          rw [HX.out] at h2
          rw [sz_def]; omega
        have hEn : E.length ≤ 1000000 := by omega
        clear hr
        subst hn0
        clear hE0 hX0
        go_wp2_with fail
        refine (nat_bits _ lx _ hx (by omega)).mono ?_
        rintro e w' ⟨rfl, rfl⟩
        rw [Hn.out]
        go_wp2_with fail
        refine (split_small _ lx 10 _ hx (by omega) (by omega) (by omega)).mono ?_
        rintro e w2 ⟨vq, rfl, hq, hb2⟩
        rw [HR.out]
        replace hq : Own wr.heap.size w2 vq (limbs (X / 10)) := by rw [HX.out] at hq; exact hq
        have hE3 := hE2.to hb2
        have hs2 := hb2.size
        go_wp2_with (at_builtin; refine wp_appendB _ rfl (.tmp 21) (.tmp 25) rfl w.heap.size _ w2.heap.size E (48 + r) rfl rfl (hE3.alloc _) (by omega) (by simp [go_sem]) (by simp; omega) (by omega) ?_; intro v5 w5 hE5 hb5 hs5 hg5)
        go_roundw
        case rel => exact ⟨X / 10, limbs (X / 10), E ++ [48 + r], ((hq.alloc _).grown hg5 (fun k hk => (hE2.2.lt k hk).2)).rd, val_limbs _, hlq, hE5, Hst.out, (below_step hbw (below_step hb2 (below_new _ _))).trans hb5⟩
        case measure =>
          obtain ⟨a5, n5, c5, rfl, Hn5, _⟩ := hE5.open
          have hn5 : n5 ≠ 0 := by have := Hn5.out; rw [List.length_append] at this; simp at this; omega
          rw [Hrd.out, HX.out, rdVal_rd ((hq.alloc _).grown hg5 (fun k hk => (hE2.2.lt k hk).2)).rd, val_limbs]
          simp only [outTest, if_neg hn5]
          have := HX0.out; simp; omega
      · obtain ⟨g, rfl, hg1, hg2⟩ := hno hnp
        have hne : ((no : Int) == 0) = false := by simp; omega
        have hn1 : no ≤ 1000000 := by have := Hno.out; omega
        have Hrev := Lib.hid (show E.reverse = digs (val la) from told_end (by rw [← HX0.out]; exact HT.out) (fun e => by have := Hno.out; rw [e] at this; simp at this; omega))
        clear hX0
        go_wp2_with fail
        refine (nat_bits _ lx _ hx (by omega)).mono ?_
        rintro e w' ⟨rfl, rfl⟩
        rw [Hn.out]
        go_wp2_with fail
        refine (reverse_any w.heap.size g no co E _ hE2 hg1 hnp hn1).mono ?_
        rintro e w2 ⟨rfl, hE3, hb2⟩
        have hcv := hE3.conv
        rw [Hrev.out] at hcv
        go_wp2_with fail
        go_ret
        exact ⟨rfl, hbw.trans hb2⟩
    · have hnb : 0 < nbits (val lx) := Nat.pos_of_ne_zero (fun e => by have := nbits_eq_zero.1 e; rw [HX.out] at this; omega)
      obtain ⟨r, hr, hr10⟩ : ∃ r, X % 10 = r ∧ r < 10 := ⟨_, rfl, Nat.mod_lt _ (by omega)⟩
      have HR := Lib.hid (show val lx % (10 : Int).toNat = r by rw [HX.out]; exact hr)
      have Hst := Lib.hid (show Told (val la) (X / 10) (E ++ [48 + r]) by rw [← hr]; exact told_step HT.out (.inl (by omega)))
      have hlq : (limbs (X / 10)).length ≤ 5000 := by
        have h1 := sz_div X 10
        have h2 := sz_val hx.1
        rw [HX.out] at h2
        rw [sz_def]; omega
      have hEn : E.length ≤ 1000000 := by omega
      clear hr
      go_wp2_with fail
      refine (nat_bits _ lx _ hx (by omega)).mono ?_
      rintro e w' ⟨rfl, rfl⟩
      go_wp2_with fail
      refine (split_small _ lx 10 _ hx (by omega) (by omega) (by omega)).mono ?_
      rintro e w2 ⟨vq, rfl, hq, hb2⟩
      rw [HR.out]
      replace hq : Own wr.heap.size w2 vq (limbs (X / 10)) := by rw [HX.out] at hq; exact hq
      have hE3 := hE2.to hb2
      have hs2 := hb2.size
      go_wp2_with (at_builtin; refine wp_appendB _ rfl (.tmp 21) (.tmp 25) rfl w.heap.size _ w2.heap.size E (48 + r) rfl rfl (hE3.alloc _) (by omega) (by simp [go_sem]) (by simp; omega) (by omega) ?_; intro v5 w5 hE5 hb5 hs5 hg5)
      go_roundw
      case rel => exact ⟨X / 10, limbs (X / 10), E ++ [48 + r], ((hq.alloc _).grown hg5 (fun k hk => (hE2.2.lt k hk).2)).rd, val_limbs _, hlq, hE5, Hst.out, (below_step hbw (below_step hb2 (below_new _ _))).trans hb5⟩
      case measure =>
        obtain ⟨a5, n5, c5, rfl, Hn5, _⟩ := hE5.open
        have hn5 : n5 ≠ 0 := by have := Hn5.out; rw [List.length_append] at this; simp at this; omega
        rw [Hrd.out, HX.out, rdVal_rd ((hq.alloc _).grown hg5 (fun k hk => (hE2.2.lt k hk).2)).rd, val_limbs]
        simp only [outTest, if_neg hn5]
        omega

set_option maxHeartbeats 1000000 in
theorem deci_digits (va : Value) (la : List Nat) (w : World) (ha : Rd w va la) (hla : la.length ≤ 5000) :
    Calls Tryz.prog 84 #[va] w fun e w' => e = .returned (.int .i64 (ndig (val la) : Nat)) ∧ Below w.heap.size w w' := by
  have Hl := Lib.hid (show (ba (digs (val la))).size = ndig (val la) from ba_size _)
  go_enter Tryz.func84, Tryz.ntmps84
  go_wp2_with fail
  refine (deci_print _ la _ ha hla).mono ?_
  rintro e w1 ⟨rfl, hb1⟩
  generalize ba (digs (val la)) = s at *
  go_wp2_with fail
  go_ret
  exact ⟨ret_one (int_eq (by rw [← Hl.out])), hb1⟩

end Go.Proofs.YtkjcdnlpjldhaaaGreat


namespace Go.Proofs.YtkjcdnlpjldhaaaGreat
open Go.RowKit Tw
set_option linter.unusedVariables false
set_option linter.unusedSimpArgs false

theorem run_byte (w : World) (b : Nat) (c : Nat) (h : w.cell? ⟨b, 0, none⟩ = some (u8v c)) :
    (convert 54 9 (.slice (some ⟨b, 0, none⟩) 1 1)).run Tryz.prog w = .ok (.string (ba [c])) w :=
  run_bytes w b 1 1 [c] rfl (fun i hi => by
    have : i = 0 := by simpa using hi
    subst this; exact h)

set_option maxRecDepth 100000 in
set_option maxHeartbeats 4000000 in
theorem ref6_print (va : Value) (la : List Nat) (w : World) (ha : Rd w va la) (hla : la.length ≤ 5000) :
    Calls Tryz.prog 60 #[va] w fun e w' => e = .returned (.string (ba (digs (val la)))) ∧ Below w.heap.size w w' := by
  have hnd := ndig_bound ha.1
  have hsa := sz_val ha.1
  have Hnd := Lib.hid (show ndig (val la) ≤ 50001 by omega)
  clear hnd
  rcases Nat.eq_zero_or_pos (val la) with h0 | h0
  · have Hl := Lib.hid (show limbs (val la) = [] by rw [h0]; rfl)
    have Hd := Lib.hid (show ba (digs (val la)) = ⟨#[48]⟩ by rw [h0]; decide +kernel)
    clear h0
    rw [Hd.out]
    go_enter Tryz.func60, Tryz.ntmps60
    go_wp2_with fail
    refine (ref2_trim _ la _ ha (by omega)).mono ?_
    rintro e w1 ⟨v1, rfl, hv1, hb1⟩
    rw [Hl.out] at hv1
    obtain ⟨a1, c1, rfl⟩ := hv1.rd.shape
    go_wp2_with fail
    go_ret
    exact ⟨rfl, hb1⟩
  · have hl0 : 0 < (limbs (val la)).length := by rw [sz_def]; have := mt sz_eq_zero.1 (Nat.ne_of_gt h0); omega
    have H0 := Lib.hid h0
    clear h0
    go_enter Tryz.func60, Tryz.ntmps60
    go_wp2_with fail
    refine (ref2_trim _ la _ ha (by omega)).mono ?_
    rintro e w1 ⟨v1, rfl, hv1, hb1⟩
    obtain ⟨a1, n1, c1, rfl, Hn1, _⟩ := hv1.rd.open
    have hn1 : 0 < n1 := by have := Hn1.out; omega
    have hnz : ((n1 : Int) == 0) = false := by rw [beq_eq_false_iff_ne]; omega
    go_wp2_with fail
    go_loopw [3, 4] (fun x out ww => ∃ (X : Nat) (E : List Nat), Rd ww x (limbs X) ∧ sz X ≤ 5000 ∧ out = .string (ba E) ∧ Hid (TellsN (val la) X E) ∧ Hid (∀ d, d ∈ E → d < 256) ∧ Below w.heap.size w ww) (fun x _ ww => rdVal ww x)
    case atStart => exact ⟨val la, [], hv1.rd, by omega, rfl, tells_start (by have := H0.out; omega), by unfold Hid; simp, hb1⟩
    case round =>
      obtain ⟨X, E, hx, hX, rfl, HT, HE, hbw⟩ := hrel
      have hEl := Nat.le_trans (tells_len HT.out) Hnd.out
      obtain ⟨ax, nx, cx, rfl, Hnx, _⟩ := hx.open
      have Hrd := Lib.hid ((rdVal_rd hx).trans (val_limbs X))
      rcases Nat.eq_zero_or_pos X with hX0 | hXp
      · have hnx : nx = 0 := by rw [← Hnx.out, hX0]; rfl
        subst hnx
        have Hf := Lib.hid (show E = digs (val la) from tells_end (by rw [← hX0]; exact HT.out))
        clear hX0
        go_wp2_with fail
        go_ret
        exact ⟨ret_one (congrArg (fun l => Value.string (ba l)) Hf.out), hbw⟩
      · have hnx : 0 < nx := by have := Hnx.out; rw [sz_def] at this; have := mt sz_eq_zero.1 (Nat.ne_of_gt hXp); omega
        obtain ⟨r, hr, hr10⟩ : ∃ r, X % 10 = r ∧ r < 10 := ⟨_, rfl, Nat.mod_lt _ (by omega)⟩
        have HR := Lib.hid (show val (limbs X) % (10 : Int).toNat = r by rw [val_limbs]; exact hr)
        have Hst := Lib.hid (show TellsN (val la) (X / 10) ((48 + r) :: E) by rw [← hr]; exact tells_step HT.out (by omega))
        have hsq := sz_div X 10
        have Hlt := Lib.hid (show X / 10 < X by omega)
        have hba : ∀ (ww : World), (Op.stringOp .add (ba [48 + r]) (ba E)).run Tryz.prog ww = .ok (.string (ba ((48 + r) :: E))) ww := fun ww => by
          rw [run_string_add_sum ww _ _ (by rw [ba_size, ba_size]; simp; omega), ba_append]; rfl
        clear hr
        go_wp2_with fail
        refine (ref4_small _ _ 10 _ hx (by rw [sz_def]; omega) (by omega) (by omega)).mono ?_
        rintro e w2 ⟨vq, rfl, hq, hb2⟩
        rw [HR.out]
        replace hq : Own wr.heap.size w2 vq (limbs (X / 10)) := by rw [val_limbs] at hq; exact hq
        have hcv := run_byte (w2.alloc (.cells #[.int .u8 (48 + (r : Int))] 5)) w2.heap.size (48 + r) (by simp [go_sem])
        go_wp2_with fail
        go_roundw
        case rel => exact ⟨X / 10, (48 + r) :: E, hq.rd.alloc _, by omega, rfl, Hst, by unfold Hid; intro d hd; rcases List.mem_cons.1 hd with rfl | hd; omega; exact HE.out d hd, below_step hbw (below_step hb2 (below_new _ _))⟩
        case measure => rw [Hrd.out, rdVal_rd (hq.rd.alloc _), val_limbs]; exact Hlt.out

end Go.Proofs.YtkjcdnlpjldhaaaGreat

