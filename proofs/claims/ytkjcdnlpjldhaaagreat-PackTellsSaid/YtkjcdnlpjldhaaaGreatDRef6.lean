/-
  The walks of the reference of layer 6.
-/
import Derived.Test.YtkjcdnlpjldhaaaGreatK11
import Derived.Test.YtkjcdnlpjldhaaaGreatK09
import Derived.Test.YtkjcdnlpjldhaaaGreatK08
import Derived.Test.YtkjcdnlpjldhaaaGreatK07
import Derived.Test.YtkjcdnlpjldhaaaGreatK02
import Derived.Test.YtkjcdnlpjldhaaaGreatK01
import Derived.Test.YtkjcdnlpjldhaaaGreatK06
import Derived.Test.YtkjcdnlpjldhaaaGreatK03
import Derived.Test.YtkjcdnlpjldhaaaGreatK04
import Derived.Test.YtkjcdnlpjldhaaaGreatDDeciMath
namespace Go.Proofs.YtkjcdnlpjldhaaaGreat
open Go.RowKit Tw
set_option linter.unusedVariables false
set_option linter.unusedSimpArgs false

theorem run_byte (w : World) (b : Nat) (c : Nat) (h : w.cell? ⟨b, 0, none⟩ = some (u8v c)) :
    (convert 54 9 (.slice (some ⟨b, 0, none⟩) 1 1)).run Tryz.prog w = .ok (.string (ba [c])) w :=
  zkm w b 1 1 [c] rfl (fun i hi => by
    have : i = 0 := by simpa using hi
    subst this; exact h)

set_option maxRecDepth 100000 in
set_option maxHeartbeats 4000000 in
theorem ref6_print (va : Value) (la : List Nat) (w : World) (ha : Rd w va la) (hla : la.length ≤ 5000) :
    Calls Tryz.prog 60 #[va] w fun e w' => e = .returned (.string (ba (zbZ (val la)))) ∧ Below w.heap.size w w' := by
  have hnd := zio ha.1
  have hsa := zu ha.1
  have Hnd := Lib.hid (show zds (val la) ≤ 50001 by omega)
  clear hnd
  rcases Nat.eq_zero_or_pos (val la) with h0 | h0
  · have Hl := Lib.hid (show za (val la) = [] by rw [h0]; rfl)
    have Hd := Lib.hid (show ba (zbZ (val la)) = ⟨#[48]⟩ by rw [h0]; decide +kernel)
    clear h0
    rw [Hd.out]
    go_enter Tryz.func60, Tryz.ntmps60
    go_wp2_with fail
    refine (zY _ la _ ha (by omega)).mono ?_
    rintro e w1 ⟨v1, rfl, hv1, aS⟩
    rw [Hl.out] at hv1
    obtain ⟨a1, c1, rfl⟩ := hv1.rd.shape
    go_wp2_with fail
    go_ret
    exact ⟨rfl, aS⟩
  · have hl0 : 0 < (za (val la)).length := by rw [zc]; have := mt zz.1 (Nat.ne_of_gt h0); omega
    have H0 := Lib.hid h0
    clear h0
    go_enter Tryz.func60, Tryz.ntmps60
    go_wp2_with fail
    refine (zY _ la _ ha (by omega)).mono ?_
    rintro e w1 ⟨v1, rfl, hv1, aS⟩
    obtain ⟨a1, n1, c1, rfl, Hn1, _⟩ := hv1.rd.open
    have hn1 : 0 < n1 := by have := Hn1.out; omega
    have hnz : ((n1 : Int) == 0) = false := by rw [beq_eq_false_iff_ne]; omega
    go_wp2_with fail
    go_loopw [3, 4] (fun x out ww => ∃ (X : Nat) (E : List Nat), Rd ww x (za X) ∧ sz X ≤ 5000 ∧ out = .string (ba E) ∧ Hid (TellsN (val la) X E) ∧ Hid (∀ d, d ∈ E → d < 256) ∧ Below w.heap.size w ww) (fun x _ ww => zfa ww x)
    case atStart => exact ⟨val la, [], hv1.rd, by omega, rfl, tells_start (by have := H0.out; omega), by unfold Hid; simp, aS⟩
    case round =>
      obtain ⟨X, E, hx, hX, rfl, HT, HE, hbw⟩ := hrel
      have hEl := Nat.le_trans (tells_len HT.out) Hnd.out
      obtain ⟨ax, nx, cx, rfl, Hnx, _⟩ := hx.open
      have Hrd := Lib.hid ((zaA hx).trans (vL X))
      rcases Nat.eq_zero_or_pos X with hX0 | hXp
      · have hnx : nx = 0 := by rw [← Hnx.out, hX0]; rfl
        subst hnx
        have Hf := Lib.hid (show E = zbZ (val la) from tells_end (by rw [← hX0]; exact HT.out))
        clear hX0
        go_wp2_with fail
        go_ret
        exact ⟨zo (congrArg (fun l => Value.string (ba l)) Hf.out), hbw⟩
      · have hnx : 0 < nx := by have := Hnx.out; rw [zc] at this; have := mt zz.1 (Nat.ne_of_gt hXp); omega
        obtain ⟨r, hr, hr10⟩ : ∃ r, X % 10 = r ∧ r < 10 := ⟨_, rfl, Nat.mod_lt _ (by omega)⟩
        have HR := Lib.hid (show val (za X) % (10 : Int).toNat = r by rw [vL]; exact hr)
        have Hst := Lib.hid (show TellsN (val la) (X / 10) ((48 + r) :: E) by rw [← hr]; exact tells_step HT.out (by omega))
        have hsq := zdg X 10
        have Hlt := Lib.hid (show X / 10 < X by omega)
        have hba : ∀ (ww : World), (Op.stringOp .add (ba [48 + r]) (ba E)).run Tryz.prog ww = .ok (.string (ba ((48 + r) :: E))) ww := fun ww => by
          rw [run_string_add_sum ww _ _ (by rw [ba_size, ba_size]; simp; omega), ba_append]; rfl
        clear hr
        go_wp2_with fail
        refine (zix _ _ 10 _ hx (by rw [zc]; omega) (by omega) (by omega)).mono ?_
        rintro e w2 ⟨vq, rfl, hq, aM⟩
        rw [HR.out]
        replace hq : Own wr.heap.size w2 vq (za (X / 10)) := by rw [vL] at hq; exact hq
        have hcv := run_byte (w2.alloc (.cells #[.int .u8 (48 + (r : Int))] 5)) w2.heap.size (48 + r) (by simp [go_sem])
        go_wp2_with fail
        go_roundw
        case rel => exact ⟨X / 10, (48 + r) :: E, hq.rd.alloc _, by omega, rfl, Hst, by unfold Hid; intro d hd; rcases List.mem_cons.1 hd with rfl | hd; omega; exact HE.out d hd, bS hbw (bS aM (bN _ _))⟩
        case measure => rw [Hrd.out, zaA (hq.rd.alloc _), vL]; exact Hlt.out

end Go.Proofs.YtkjcdnlpjldhaaaGreat

