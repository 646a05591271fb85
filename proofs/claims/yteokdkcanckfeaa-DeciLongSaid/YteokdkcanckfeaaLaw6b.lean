/-
  The walk of the statement DeciLong.
-/
import Derived.Test.YteokdkcanckfeaaLaw6
namespace Go.Proofs.Yteokdkcanckfeaa
open Go.RowKit Tw
set_option linter.unusedVariables false
set_option linter.unusedSimpArgs false

theorem okText_rep {N c : Nat} (hN : 1 < N) (h1 : 49 ≤ c) (h2 : c ≤ 57) : OkText (List.replicate N c) := by
  refine ⟨fun e => by have := congrArg List.length e; simp at this; omega, fun d hd => ?_, fun e => ?_⟩
  · rw [(List.mem_replicate.1 hd).2]; exact ⟨by omega, h2⟩
  · obtain ⟨k, rfl⟩ : ∃ k, N = k + 1 := ⟨N - 1, by omega⟩
    rw [List.replicate_succ] at e
    injection e with e
    omega

set_option maxRecDepth 100000 in
set_option maxHeartbeats 4000000 in
theorem walk_DeciLong (more d : Int) (w : World) (m0 : 0 ≤ more) (m1 : more < 256) (d0 : 0 ≤ d) (d1 : d < 256) :
    Calls Try.prog 5 #[.int .u8 more, .int .u8 d] w (Holds w) := by
  obtain ⟨N, hN⟩ : ∃ N : Nat, 995 + more % 10 = (N : Int) := ⟨(995 + more % 10).toNat, by omega⟩
  obtain ⟨c, hc⟩ : ∃ c : Nat, 49 + d % 9 = (c : Int) := ⟨(49 + d % 9).toNat, by omega⟩
  have hN0 : 995 ≤ N := by omega
  have hN1 : N ≤ 1004 := by omega
  have hc0 : 49 ≤ c := by omega
  have hc1 : c ≤ 57 := by omega
  have HN := Lib.hid hN
  have Hc := Lib.hid hc
  have hmm : 0 ≤ more % 10 := by omega
  have hmm2 : more % 10 < 10 := by omega
  have hdd : 0 ≤ d % 9 := by omega
  have hdd2 : d % 9 < 9 := by omega
  have Hbs := Lib.hid (show bs (ba (List.replicate N c)) = List.replicate N c from bs_ba (fun x hx => by rw [(List.mem_replicate.1 hx).2]; omega))
  have Hok := Lib.hid (okText_rep (N := N) (c := c) (by omega) hc0 hc1)
  have Hsize := Lib.hid (show (ba (List.replicate N c)).size = N by rw [ba_size, List.length_replicate])
  clear hN hc
  go_enter Try.func5, Try.ntmps5
  go_wp2_with fail
  refine (awake6 _).mono ?_
  rintro e w1 ⟨rfl, hB⟩
  go_wp2_with fail
  go_loopw [7, 8] (fun s i ww => ∃ k : Nat, k ≤ N ∧ i = .int .i64 k ∧ s = .string (ba (List.replicate k c)) ∧ Below w.heap.size w ww) (fun _ i _ => N - (intOf i).toNat)
  case atStart => exact ⟨0, by omega, rfl, rfl, hB⟩
  case round =>
    obtain ⟨k, hk, rfl, rfl, hbw⟩ := hrel
    by_cases hkN : k < N
    · have t1 : (k : Int) < 995 + more % 10 := by rw [HN.out]; omega
      have hcv := run_byte (wr.alloc (.cells #[.int .u8 (49 + d % 9)] 5)) wr.heap.size c (by
        rw [show u8v c = Value.int .u8 (49 + d % 9) from int_eq Hc.out.symm]; simp [go_sem])
      have hadd : ∀ (ww : World), (Op.stringOp .add (ba (List.replicate k c)) (ba [c])).run Try.prog ww = .ok (.string (ba (List.replicate (k + 1) c))) ww := fun ww => by
        rw [run_string_add_sum ww _ _ (by rw [ba_size, ba_size]; simp; omega), ba_append, List.replicate_succ']
      go_wp2_with fail
      go_roundw
      case rel => exact ⟨k + 1, by omega, by go_num, rfl, below_step hbw (below_new _ _)⟩
      case measure => simp [intOf]; omega
    · obtain rfl : k = N := by omega
      have t1 : ¬ (k : Int) < 995 + more % 10 := by rw [HN.out]; omega
      by_cases hlong : 1000 < k
      · have t2 : (1000 : Int) < 995 + more % 10 := by rw [HN.out]; omega
        have t3 : decide ((1000 : Int) < 995 + more % 10) = true := by simpa using t2
        go_wp2_with fail
        refine (deci_parse_long _ _ (by rw [Hsize.out]; exact hlong) (by rw [Hsize.out]; simp [maxLen]; omega)).mono ?_
        rintro e w' ⟨rfl, rfl⟩
        go_wp2_with fail
        go_ret
        exact ⟨rfl, hbw⟩
      · have t2 : ¬ (1000 : Int) < 995 + more % 10 := by rw [HN.out]; omega
        have t3 : decide ((1000 : Int) < 995 + more % 10) = false := by simpa using t2
        have Hfin := Lib.hid (show ba (digs (val (limbs (dval (bs (ba (List.replicate k c))))))) = ba (List.replicate k c) by rw [val_limbs, Hbs.out, digs_dval Hok.out])
        have Hsz := Lib.hid (show sz (dval (bs (ba (List.replicate k c)))) ≤ 1001 by rw [Hbs.out]; exact sz_digs Hok.out.2.1 (by rw [List.length_replicate]; omega))
        go_wp2_with fail
        refine (deci_parse_ok _ _ (by rw [Hsize.out]; omega) (by rw [Hbs.out]; exact Hok.out)).mono ?_
        rintro e w2 ⟨v, rfl, hv, hb2⟩
        go_wp2_with fail
        refine (deci_print _ _ _ hv.rd (by rw [sz_def]; have := Hsz.out; omega)).mono ?_
        rintro e w3 ⟨rfl, hb3⟩
        rw [Hfin.out]
        go_wp2_with fail
        go_ret
        exact ⟨by first | rfl | exact ret_bool (by simp), below_step (below_step hbw hb2) hb3⟩

end Go.Proofs.Yteokdkcanckfeaa
