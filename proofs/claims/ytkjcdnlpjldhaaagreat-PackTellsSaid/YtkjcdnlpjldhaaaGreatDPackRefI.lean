/-
  The document's bytes of an instruction, and of a code.
-/
import Derived.Test.YtkjcdnlpjldhaaaGreatK25
import Derived.Test.YtkjcdnlpjldhaaaGreatK04
import Derived.Test.YtkjcdnlpjldhaaaGreatK02
import Derived.Test.YtkjcdnlpjldhaaaGreatK01
import Derived.Test.YtkjcdnlpjldhaaaGreatK03
import Derived.Test.YtkjcdnlpjldhaaaGreatK21
import Derived.Test.YtkjcdnlpjldhaaaGreatK20
import Derived.Test.YtkjcdnlpjldhaaaGreatK18
import Derived.Test.YtkjcdnlpjldhaaaGreatK16
import Derived.Test.YtkjcdnlpjldhaaaGreatK13
import Derived.Test.YtkjcdnlpjldhaaaGreatK12
import Derived.Test.YtkjcdnlpjldhaaaGreatK10
import Derived.Test.YtkjcdnlpjldhaaaGreatK09
import Derived.Test.YtkjcdnlpjldhaaaGreatK08
import Derived.Test.YtkjcdnlpjldhaaaGreatK07
import Derived.Test.YtkjcdnlpjldhaaaGreatK06
import Derived.Test.YtkjcdnlpjldhaaaGreatK11
import Derived.Test.YtkjcdnlpjldhaaaGreatK15
import Derived.Test.YtkjcdnlpjldhaaaGreatK14
import Derived.Test.YtkjcdnlpjldhaaaGreatK17
import Derived.Test.YtkjcdnlpjldhaaaGreatK28
import Derived.Test.YtkjcdnlpjldhaaaGreatK22
import Derived.Test.YtkjcdnlpjldhaaaGreatDDeciMath
import Derived.Test.YtkjcdnlpjldhaaaGreatDRef6
import Derived.Test.YtkjcdnlpjldhaaaGreatDRef8
import Derived.Test.YtkjcdnlpjldhaaaGreatDVmRow
import Derived.Test.YtkjcdnlpjldhaaaGreatDPackRow
import Derived.Test.YtkjcdnlpjldhaaaGreatDPackRef
import Derived.Test.YtkjcdnlpjldhaaaGreatDVm1
import Derived.Test.YtkjcdnlpjldhaaaGreatDVm5
import Derived.Test.YtkjcdnlpjldhaaaGreatDPackEnc
import Derived.Test.YtkjcdnlpjldhaaaGreatDVm7
import Derived.Test.YtkjcdnlpjldhaaaGreatDRef25
import Derived.Deep.RegionHeld3
import Derived.RegionTactic
namespace Go.Proofs.YtkjcdnlpjldhaaaGreat
open Go.RowKit Tw
set_option linter.unusedVariables false
set_option linter.unusedSimpArgs false
attribute [local go_sem ↓] Go.wp_at_zero Go.wp_at_succ

def NewB (N : Nat) (w : World) (g n c : Nat) (l : List Nat) : Prop := zR 0 w (.slice (some ⟨g, 0, none⟩) n c) l ∧ N ≤ g ∧ g < w.heap.size

section

variable {N g n c g' n' c' g2 n2 c2 H : Nat} {w w' w2 : World} {l l2 : List Nat}

theorem NewB.to (h : NewB N w g n c l) (hb : Below w.heap.size w w') : NewB N w' g n c l := ⟨h.1.to hb, h.2.1, Nat.lt_of_lt_of_le h.2.2 hb.size⟩

theorem NewB.own (h : NewB N w g n c l) : zR 0 w (.slice (some ⟨g, 0, none⟩) n c) l := h.1

theorem NewB.len (h : NewB N w g n c l) : l.length = n := (zcn h.1).symm

theorem NewB.small (h : NewB N w g n c l) : ∀ x ∈ l, x < 256 := h.1.1

theorem NewB.cell (h : NewB N w g n c l) : ∀ j, j < l.length → w.cell? ⟨g, j, none⟩ = some (u8v (nth l j)) := fun j hj => (zcQ h.1 hj).1

theorem NewB.mk {e : Ending} (h : GivesB w l e w') (hN : N ≤ w.heap.size) : ∃ g n c, e = .returned (.slice (some ⟨g, 0, none⟩) n c) ∧ NewB N w' g n c l ∧ Below w.heap.size w w' := by
  obtain ⟨g, n, c, h1, h2, h3, h4, h5⟩ := h
  exact ⟨g, n, c, h1, ⟨h2, by omega, h4⟩, h5⟩

theorem NewB.app (h : NewB N w g n c l) (hO : zR 0 w' (.slice (some ⟨g', 0, none⟩) n' c') l2) (hat : (Value.slice (some ⟨g, 0, none⟩) n c).ownBlock = some g' ∨ g' = w.heap.size) (hlt : g' < w'.heap.size) (hN : N ≤ w.heap.size) : NewB N w' g' n' c' l2 := by
  refine ⟨hO, ?_, hlt⟩
  rcases hat with e | e
  · have e : g = g' := Option.some.inj e
    rw [← e]; exact h.2.1
  · omega

theorem NewB.grow (h : NewB N w g n c l) (hg : w.grownBy w' (Value.slice (some ⟨g, 0, none⟩) n c).ownBlock) (hN : N ≤ w.heap.size) : Below N w w' :=
  zhd hg (fun k e => by have e : g = k := Option.some.inj e; rw [← e]; exact h.2.1) hN

end

theorem step_appendN (w : World) {ops : Array Oper} {o : Oper} {a : Act} {K : Act → World → Prop} {Q : Exit → Act → World → Prop} {E : Prop} (hg : o.guard = none)
    (s x : Operand) (ho : o.op = Op.call { callee := Callee.builtin Builtin.append, args := #[s, x], argTypes := #[54, 54] })
    (v : Value) (l l2 : List Nat) (b2 n2 c2 : Nat) (hs : a.eval s = v) (hx : a.eval x = .slice (some ⟨b2, 0, none⟩) n2 c2) (hown : zR 0 w v l)
    (hl2 : l2.length = n2) (h0 : 0 < n2) (h256 : ∀ x ∈ l2, x < 256) (hcell : ∀ j, j < l2.length → w.cell? ⟨b2, j, none⟩ = some (u8v (nth l2 j))) (hn : l.length + n2 ≤ 1099511627776) (H : Nat) (hH : w.heap.size = H)
    (hK : ∀ g m c w', zR 0 w' (.slice (some ⟨g, 0, none⟩) m c) (l ++ l2) → w.grownBy w' v.ownBlock → (v.ownBlock = some g ∨ g = H) → g < w'.heap.size → K (a.put o.dst (.slice (some ⟨g, 0, none⟩) m c)) w') :
    if Region.wanted o (yielded ops a.tmps) = true then Oper.wp Tryz.prog o a w K Q else E :=
  step_appendBs w hg s x ho v l l2 b2 n2 c2 hs hx hown hl2 h0 h256 hcell hn H hH (fun g c w' => hK g (l.length + n2) c w')

theorem wp_appendN (w : World) {ops : Array Oper} {rest : List Oper} {o : Oper} {a : Act} {Q : Exit → Act → World → Prop} (hg : o.guard = none)
    (s x : Operand) (ho : o.op = Op.call { callee := Callee.builtin Builtin.append, args := #[s, x], argTypes := #[54, 54] })
    (v : Value) (l l2 : List Nat) (b2 n2 c2 : Nat) (hs : a.eval s = v) (hx : a.eval x = .slice (some ⟨b2, 0, none⟩) n2 c2) (hown : zR 0 w v l)
    (hl2 : l2.length = n2) (h0 : 0 < n2) (h256 : ∀ x ∈ l2, x < 256) (hcell : ∀ j, j < l2.length → w.cell? ⟨b2, j, none⟩ = some (u8v (nth l2 j))) (hn : l.length + n2 ≤ 1099511627776) (H : Nat) (hH : w.heap.size = H)
    (hK : ∀ g m c w', zR 0 w' (.slice (some ⟨g, 0, none⟩) m c) (l ++ l2) → w.grownBy w' v.ownBlock → (v.ownBlock = some g ∨ g = H) → g < w'.heap.size → wpList Tryz.prog ops Q rest (a.put o.dst (.slice (some ⟨g, 0, none⟩) m c)) w') :
    wpList Tryz.prog ops Q (o :: rest) a w :=
  zcN w hg s x ho v l l2 b2 n2 c2 hs hx hown hl2 h0 h256 hcell hn H hH (fun g c w' => hK g (l.length + n2) c w')

set_option maxRecDepth 100000 in
set_option maxHeartbeats 40000000 in
theorem ref28_instr (x : Ins) (a1 : Option Addr) (n1 c1 : Nat) (a2 : Option Addr) (n2 c2 : Nat) (w : World) (hn : Rd w (.slice a1 n1 c1) x.q.n) (hd : Rd w (.slice a2 n2 c2) x.q.d) (hw : Wire x) (h1 : x.q.n.length ≤ 1000) (h2 : x.q.d.length ≤ 1000) :
    Calls Tryz.prog 52 #[.agg #[.int .i64 x.op, .int .i64 x.to, .int .i64 x.a, .int .i64 x.b, .bool x.q.ng, .slice a1 n1 c1, .slice a2 n2 c2]] w (GivesB w (zao x)) := by
  obtain ⟨op, to_, xa, xb, ng, qn, qd⟩ := x
  obtain ⟨⟨o0, o1⟩, ⟨t0, t1⟩, ⟨u0, u1⟩, ⟨b0, b1⟩, hwn, hwd, hq0⟩ := hw
  simp only at o0 o1 t0 t1 u0 u1 hwn hwd hq0 hn hd h1 h2
  obtain ⟨O, rfl⟩ := Int.eq_ofNat_of_zero_le o0
  obtain ⟨T, rfl⟩ := Int.eq_ofNat_of_zero_le t0
  obtain ⟨A, rfl⟩ := Int.eq_ofNat_of_zero_le u0
  obtain ⟨Bo, hBo⟩ := Int.eq_ofNat_of_zero_le b0
  rw [hBo] at b1
  have hbO : xb = if O = 7 then (Bo : Int) - 64 else (Bo : Int) := by
    rw [← hBo]
    unfold bOf
    simp only
    by_cases h : O = 7
    · rw [if_pos h, if_pos (by omega)]; omega
    · rw [if_neg h, if_neg (by omega)]
  have Hx := Lib.hid (show zao ⟨(O : Int), (T : Int), (A : Int), xb, ⟨ng, qn, qd⟩⟩ = (cnt O ++ (cnt T ++ (cnt A ++ cnt Bo))) ++ (if O = 1 then cnt (if ng then 1 else 0) ++ (zaQ qn ++ zaQ qd) else []) by
    unfold zao
    rw [hBo]
    simp only [Int.toNat_natCast, List.append_assoc]
    congr 4
    by_cases h : O = 1
    · rw [if_pos h, if_pos (by omega)]
    · rw [if_neg h, if_neg (by omega)])
  have HO28 := Lib.hid (show O < 268435456 by omega)
  have HT28 := Lib.hid (show T < 268435456 by omega)
  have HA28 := Lib.hid (show A < 268435456 by omega)
  have HB28 := Lib.hid (show Bo < 268435456 by omega)
  have c4O := zT HO28.out
  have c4T := zT HT28.out
  have c4A := zT HA28.out
  have c4B := zT HB28.out
  have lN := zbP hwn
  have lD := zbP hwd
  have HPOS := Lib.hid (show ∀ (l : List Nat) (n : Nat), l.length = n → l ≠ [] → 0 < n from fun l n e hne => by rw [← e]; exact List.length_pos_iff.2 hne)
  have HN2 := Lib.hid (cnt_ne T)
  have HN4 := Lib.hid (cnt_ne A)
  have HN6 := Lib.hid (cnt_ne Bo)
  have HN10 := Lib.hid (show zaQ qn ≠ [] from fun e => cnt_ne qn.length (List.append_eq_nil_iff.1 e).1)
  have HN12 := Lib.hid (show zaQ qd ≠ [] from fun e => cnt_ne qd.length (List.append_eq_nil_iff.1 e).1)
  have HL3 := Lib.hid (show (cnt O).length + (cnt T).length ≤ 1099511627776 by omega)
  have HL5 := Lib.hid (show (cnt O ++ cnt T).length + (cnt A).length ≤ 1099511627776 by simp only [List.length_append]; omega)
  have HL7 := Lib.hid (show (cnt O ++ cnt T ++ cnt A).length + (cnt Bo).length ≤ 1099511627776 by simp only [List.length_append]; omega)
  have HL9 := Lib.hid (show (cnt O ++ cnt T ++ cnt A ++ cnt Bo).length ≤ 100 by simp only [List.length_append]; omega)
  have HL11 := Lib.hid (show ∀ q : Nat, (cnt O ++ cnt T ++ cnt A ++ cnt Bo ++ [q]).length + (zaQ qn).length ≤ 1099511627776 from fun q => by simp only [List.length_append, List.length_cons, List.length_nil]; omega)
  have HL13 := Lib.hid (show ∀ q : Nat, (cnt O ++ cnt T ++ cnt A ++ cnt Bo ++ [q] ++ zaQ qn).length + (zaQ qd).length ≤ 1099511627776 from fun q => by simp only [List.length_append, List.length_cons, List.length_nil]; omega)
  have Hn := Lib.hid hn
  have Hd := Lib.hid hd
  have Hwn := Lib.hid hwn
  have Hwd := Lib.hid hwd
  have Hqn := Lib.hid (show qn.length ≤ 1000000 by omega)
  have Hqd := Lib.hid (show qd.length ≤ 1000000 by omega)
  have hbB : Bo < 268435456 := HB28.out
  have HbO := Lib.hid hbO
  clear hbO o0 o1 t0 t1 u0 u1 b0 b1 hwn hwd hq0 hn hd h1 h2 hBo c4O c4T c4A c4B lN lD
  go_enter Tryz.func52, Tryz.ntmps52
  go_upto_region 1 with fail
  obtain ⟨W0, ap⟩ : ∃ W0, w.alloc (.cells #[.int .i64 (O : Int), .int .i64 (T : Int), .int .i64 (A : Int), .int .i64 xb, .bool ng, .slice a1 n1 c1, .slice a2 n2 c2] 49) = W0 := ⟨_, rfl⟩
  have zb : Below w.heap.size w W0 := by rw [← ap]; exact bN _ _
  have HS : Hid (∀ W', Below W0.heap.size W0 W' → (W'.cell? ⟨w.heap.size, 0, none⟩ = some (.int .i64 (O : Int)) ∧ W'.cell? ⟨w.heap.size, 1, none⟩ = some (.int .i64 (T : Int)) ∧ W'.cell? ⟨w.heap.size, 2, none⟩ = some (.int .i64 (A : Int)) ∧ W'.cell? ⟨w.heap.size, 3, none⟩ = some (.int .i64 xb) ∧ W'.cell? ⟨w.heap.size, 4, none⟩ = some (.bool ng) ∧ W'.cell? ⟨w.heap.size, 5, none⟩ = some (.slice a1 n1 c1) ∧ W'.cell? ⟨w.heap.size, 6, none⟩ = some (.slice a2 n2 c2))) := fun W' hb => by
    have hl : w.heap.size < W0.heap.size := by rw [← ap]; simp
    refine ⟨(hb.cell (p := ⟨w.heap.size, 0, none⟩) hl).trans (by rw [← ap]; simp [go_sem]), (hb.cell (p := ⟨w.heap.size, 1, none⟩) hl).trans (by rw [← ap]; simp [go_sem]), (hb.cell (p := ⟨w.heap.size, 2, none⟩) hl).trans (by rw [← ap]; simp [go_sem]), (hb.cell (p := ⟨w.heap.size, 3, none⟩) hl).trans (by rw [← ap]; simp [go_sem]), (hb.cell (p := ⟨w.heap.size, 4, none⟩) hl).trans (by rw [← ap]; simp [go_sem]), (hb.cell (p := ⟨w.heap.size, 5, none⟩) hl).trans (by rw [← ap]; simp [go_sem]), (hb.cell (p := ⟨w.heap.size, 6, none⟩) hl).trans (by rw [← ap]; simp [go_sem])⟩
  rw [ap]
  clear ap
  have gb : Below W0.heap.size W0 W0 := Below.refl _ _
  obtain ⟨m0, m1, m2, m3, m4, m5, m6⟩ := HS.out _ gb
  by_cases h7o : O = 7
  · have v7 : ((O : Int) == 7) = true := by simp; omega
    have v1 : ((O : Int) != 1) = true := by simp; omega
    have hb64 : IntKind.i64.wrap (xb + 64) = (Bo : Int) := by rw [HbO.out, if_pos h7o]; rw [show (Bo : Int) - 64 + 64 = (Bo : Int) by omega]; exact IntWalk.i64_in _ (by omega)
    have h1o : ¬ O = 1 := by omega
    rw [if_neg h1o, List.append_nil] at Hx
    clear h7o h1o
    go_wp2_with fail
    go_region_held3 (fun W' => W'.cell? ⟨w.heap.size, 0, none⟩ = some (.int .i64 (O : Int)) ∧ W'.cell? ⟨w.heap.size, 1, none⟩ = some (.int .i64 (T : Int)) ∧ W'.cell? ⟨w.heap.size, 2, none⟩ = some (.int .i64 (A : Int)) ∧ W'.cell? ⟨w.heap.size, 3, none⟩ = some (.int .i64 xb) ∧ W'.cell? ⟨w.heap.size, 4, none⟩ = some (.bool ng) ∧ W'.cell? ⟨w.heap.size, 5, none⟩ = some (.slice a1 n1 c1) ∧ W'.cell? ⟨w.heap.size, 6, none⟩ = some (.slice a2 n2 c2)) (first | (with_reducible exact HS.out _ gb) | ((with_reducible refine HS.out _ ?_); repeat' (first | (with_reducible exact gb) | (with_reducible refine Below.drew ?_) | (with_reducible refine bS ?_ (bN _ _))))) (first
      | ((refine step_appendN _ rfl (.tmp 23) (.tmp 25) rfl _ _ _ g6_ n6_ k6_ rfl rfl b5_.own b6_.len (HPOS.out _ _ b6_.len HN6.out) b6_.small b6_.cell (by rw [← b6_.len]; exact HL7.out) _ rfl ?_); intro g7_ n7_ k7_ x7 hO7 hg7 hat7 hlt7; have hB7 := b5_.grow hg7 gb.size; have b7_ := b5_.app hO7 hat7 hlt7 gb.size; have gb := gb.trans hB7; obtain ⟨m0, m1, m2, m3, m4, m5, m6⟩ := HS.out _ gb)
      | (go_at_call 51; (refine zg x5 (by first | with_reducible exact Below.refl _ _ | with_reducible exact (Below.refl _ _).drew) ?_); intro V6 hV6 hbV6; have gb := bS gb hbV6; (with_reducible refine (ref28_count Bo _ HB28.out).mono ?_); rintro e x6 hG6; obtain ⟨g6_, n6_, k6_, rfl, b6_, hb6_⟩ := NewB.mk (N := W0.heap.size) hG6 gb.size; have gb := bS gb hb6_; have b5_ := (b5_.to hbV6).to hb6_; obtain ⟨m0, m1, m2, m3, m4, m5, m6⟩ := HS.out _ gb)
      | ((refine step_appendN _ rfl (.tmp 19) (.tmp 22) rfl _ _ _ g4_ n4_ k4_ rfl rfl b3_.own b4_.len (HPOS.out _ _ b4_.len HN4.out) b4_.small b4_.cell (by rw [← b4_.len]; exact HL5.out) _ rfl ?_); intro g5_ n5_ k5_ x5 hO5 hg5 hat5 hlt5; have hB5 := b3_.grow hg5 gb.size; have b5_ := b3_.app hO5 hat5 hlt5 gb.size; have gb := gb.trans hB5; obtain ⟨m0, m1, m2, m3, m4, m5, m6⟩ := HS.out _ gb)
      | (go_at_call 51; (refine zg x3 (by first | with_reducible exact Below.refl _ _ | with_reducible exact (Below.refl _ _).drew) ?_); intro V4 hV4 hbV4; have gb := bS gb hbV4; (with_reducible refine (ref28_count A _ HA28.out).mono ?_); rintro e x4 hG4; obtain ⟨g4_, n4_, k4_, rfl, b4_, hb4_⟩ := NewB.mk (N := W0.heap.size) hG4 gb.size; have gb := bS gb hb4_; have b3_ := (b3_.to hbV4).to hb4_; obtain ⟨m0, m1, m2, m3, m4, m5, m6⟩ := HS.out _ gb)
      | ((refine step_appendN _ rfl (.tmp 15) (.tmp 18) rfl _ _ _ g2_ n2_ k2_ rfl rfl b1_.own b2_.len (HPOS.out _ _ b2_.len HN2.out) b2_.small b2_.cell (by rw [← b2_.len]; exact HL3.out) _ rfl ?_); intro g3_ n3_ k3_ x3 hO3 hg3 hat3 hlt3; have hB3 := b1_.grow hg3 gb.size; have b3_ := b1_.app hO3 hat3 hlt3 gb.size; have gb := gb.trans hB3; obtain ⟨m0, m1, m2, m3, m4, m5, m6⟩ := HS.out _ gb)
      | (go_at_call 51; (refine zg x1 (by first | with_reducible exact Below.refl _ _ | with_reducible exact (Below.refl _ _).drew) ?_); intro V2 dE bV; have gb := bS gb bV; (with_reducible refine (ref28_count T _ HT28.out).mono ?_); rintro e x2 hG2; obtain ⟨g2_, n2_, k2_, rfl, b2_, hb2_⟩ := NewB.mk (N := W0.heap.size) hG2 gb.size; have gb := bS gb hb2_; have b1_ := (b1_.to bV).to hb2_; obtain ⟨m0, m1, m2, m3, m4, m5, m6⟩ := HS.out _ gb)
      | (go_at_call 51; (refine zg W0 (by first | with_reducible exact Below.refl _ _ | with_reducible exact (Below.refl _ _).drew) ?_); intro V1 dD ch; have gb := bS gb ch; (with_reducible refine (ref28_count O _ HO28.out).mono ?_); rintro e x1 hG1; obtain ⟨g1_, n1_, k1_, rfl, b1_, hb1_⟩ := NewB.mk (N := W0.heap.size) hG1 gb.size; have gb := bS gb hb1_; obtain ⟨m0, m1, m2, m3, m4, m5, m6⟩ := HS.out _ gb))
    go_wp2_with fail
    go_ret
    exact ⟨g7_, _, k7_, rfl, by rw [Hx.out]; simpa [List.append_assoc] using b7_.own, by have := b7_.2.1; have := zb.size; omega, b7_.2.2, bS zb gb⟩
  · by_cases h1o : O = 1
    · have v7 : ((O : Int) == 7) = false := by simp; omega
      have v1 : ((O : Int) != 1) = false := by simp; omega
      obtain rfl : xb = (Bo : Int) := by rw [HbO.out, if_neg h7o]
      rw [if_pos h1o] at Hx
      clear h7o h1o
      go_wp2_with fail
      go_region_held3 (fun W' => W'.cell? ⟨w.heap.size, 0, none⟩ = some (.int .i64 (O : Int)) ∧ W'.cell? ⟨w.heap.size, 1, none⟩ = some (.int .i64 (T : Int)) ∧ W'.cell? ⟨w.heap.size, 2, none⟩ = some (.int .i64 (A : Int)) ∧ W'.cell? ⟨w.heap.size, 3, none⟩ = some (.int .i64 (Bo : Int)) ∧ W'.cell? ⟨w.heap.size, 4, none⟩ = some (.bool ng) ∧ W'.cell? ⟨w.heap.size, 5, none⟩ = some (.slice a1 n1 c1) ∧ W'.cell? ⟨w.heap.size, 6, none⟩ = some (.slice a2 n2 c2)) (first | (with_reducible exact HS.out _ gb) | ((with_reducible refine HS.out _ ?_); repeat' (first | (with_reducible exact gb) | (with_reducible refine Below.drew ?_) | (with_reducible refine bS ?_ (bN _ _))))) (first
        | ((refine step_appendN _ rfl (.tmp 23) (.tmp 25) rfl _ _ _ g6_ n6_ k6_ rfl rfl b5_.own b6_.len (HPOS.out _ _ b6_.len HN6.out) b6_.small b6_.cell (by rw [← b6_.len]; exact HL7.out) _ rfl ?_); intro g7_ n7_ k7_ x7 hO7 hg7 hat7 hlt7; have hB7 := b5_.grow hg7 gb.size; have b7_ := b5_.app hO7 hat7 hlt7 gb.size; have gb := gb.trans hB7; obtain ⟨m0, m1, m2, m3, m4, m5, m6⟩ := HS.out _ gb)
        | (go_at_call 51; (refine zg x5 (by first | with_reducible exact Below.refl _ _ | with_reducible exact (Below.refl _ _).drew) ?_); intro V6 hV6 hbV6; have gb := bS gb hbV6; (with_reducible refine (ref28_count Bo _ HB28.out).mono ?_); rintro e x6 hG6; obtain ⟨g6_, n6_, k6_, rfl, b6_, hb6_⟩ := NewB.mk (N := W0.heap.size) hG6 gb.size; have gb := bS gb hb6_; have b5_ := (b5_.to hbV6).to hb6_; obtain ⟨m0, m1, m2, m3, m4, m5, m6⟩ := HS.out _ gb)
        | ((refine step_appendN _ rfl (.tmp 19) (.tmp 22) rfl _ _ _ g4_ n4_ k4_ rfl rfl b3_.own b4_.len (HPOS.out _ _ b4_.len HN4.out) b4_.small b4_.cell (by rw [← b4_.len]; exact HL5.out) _ rfl ?_); intro g5_ n5_ k5_ x5 hO5 hg5 hat5 hlt5; have hB5 := b3_.grow hg5 gb.size; have b5_ := b3_.app hO5 hat5 hlt5 gb.size; have gb := gb.trans hB5; obtain ⟨m0, m1, m2, m3, m4, m5, m6⟩ := HS.out _ gb)
        | (go_at_call 51; (refine zg x3 (by first | with_reducible exact Below.refl _ _ | with_reducible exact (Below.refl _ _).drew) ?_); intro V4 hV4 hbV4; have gb := bS gb hbV4; (with_reducible refine (ref28_count A _ HA28.out).mono ?_); rintro e x4 hG4; obtain ⟨g4_, n4_, k4_, rfl, b4_, hb4_⟩ := NewB.mk (N := W0.heap.size) hG4 gb.size; have gb := bS gb hb4_; have b3_ := (b3_.to hbV4).to hb4_; obtain ⟨m0, m1, m2, m3, m4, m5, m6⟩ := HS.out _ gb)
        | ((refine step_appendN _ rfl (.tmp 15) (.tmp 18) rfl _ _ _ g2_ n2_ k2_ rfl rfl b1_.own b2_.len (HPOS.out _ _ b2_.len HN2.out) b2_.small b2_.cell (by rw [← b2_.len]; exact HL3.out) _ rfl ?_); intro g3_ n3_ k3_ x3 hO3 hg3 hat3 hlt3; have hB3 := b1_.grow hg3 gb.size; have b3_ := b1_.app hO3 hat3 hlt3 gb.size; have gb := gb.trans hB3; obtain ⟨m0, m1, m2, m3, m4, m5, m6⟩ := HS.out _ gb)
        | (go_at_call 51; (refine zg x1 (by first | with_reducible exact Below.refl _ _ | with_reducible exact (Below.refl _ _).drew) ?_); intro V2 dE bV; have gb := bS gb bV; (with_reducible refine (ref28_count T _ HT28.out).mono ?_); rintro e x2 hG2; obtain ⟨g2_, n2_, k2_, rfl, b2_, hb2_⟩ := NewB.mk (N := W0.heap.size) hG2 gb.size; have gb := bS gb hb2_; have b1_ := (b1_.to bV).to hb2_; obtain ⟨m0, m1, m2, m3, m4, m5, m6⟩ := HS.out _ gb)
        | (go_at_call 51; (refine zg W0 (by first | with_reducible exact Below.refl _ _ | with_reducible exact (Below.refl _ _).drew) ?_); intro V1 dD ch; have gb := bS gb ch; (with_reducible refine (ref28_count O _ HO28.out).mono ?_); rintro e x1 hG1; obtain ⟨g1_, n1_, k1_, rfl, b1_, hb1_⟩ := NewB.mk (N := W0.heap.size) hG1 gb.size; have gb := bS gb hb1_; obtain ⟨m0, m1, m2, m3, m4, m5, m6⟩ := HS.out _ gb))
      cases ng
      case false =>
        go_wp2_with (at_builtin; refine wp_appendN _ rfl (.tmp 34) (.tmp 36) rfl _ _ [0] x7.heap.size 1 1 rfl rfl (b7_.own.alloc _) rfl (by decide) (by decide) (zeQ (x := _)) (by have := HL9.out; omega) _ rfl ?_; intro g9_ n9_ k9_ x9 hO9 hg9 hat9 hlt9; have b9_ := NewB.app (b7_.to (bN x7 _)) hO9 hat9 hlt9 (bS gb (bN x7 _)).size; have hB9 := NewB.grow (b7_.to (bN x7 _)) hg9 (bS gb (bN x7 _)).size; have gb := (bS gb (bN x7 _)).trans hB9; obtain ⟨m0, m1, m2, m3, m4, m5, m6⟩ := HS.out _ gb)
        go_region_held3 (fun W' => W'.cell? ⟨w.heap.size, 0, none⟩ = some (.int .i64 (O : Int)) ∧ W'.cell? ⟨w.heap.size, 1, none⟩ = some (.int .i64 (T : Int)) ∧ W'.cell? ⟨w.heap.size, 2, none⟩ = some (.int .i64 (A : Int)) ∧ W'.cell? ⟨w.heap.size, 3, none⟩ = some (.int .i64 (Bo : Int)) ∧ W'.cell? ⟨w.heap.size, 4, none⟩ = some (.bool false) ∧ W'.cell? ⟨w.heap.size, 5, none⟩ = some (.slice a1 n1 c1) ∧ W'.cell? ⟨w.heap.size, 6, none⟩ = some (.slice a2 n2 c2)) (first | (with_reducible exact HS.out _ gb) | ((with_reducible refine HS.out _ ?_); repeat' (first | (with_reducible exact gb) | (with_reducible refine Below.drew ?_) | (with_reducible refine bS ?_ (bN _ _))))) (first
          | ((refine step_appendN _ rfl (.tmp 43) (.tmp 47) rfl _ _ _ g12_ n12_ k12_ rfl rfl b11_.own b12_.len (HPOS.out _ _ b12_.len HN12.out) b12_.small b12_.cell (by rw [← b12_.len]; exact HL13.out _) _ rfl ?_); intro g13_ n13_ k13_ x13 hO13 hg13 hat13 hlt13; have hB13 := b11_.grow hg13 gb.size; have b13_ := b11_.app hO13 hat13 hlt13 gb.size; have gb := gb.trans hB13; obtain ⟨m0, m1, m2, m3, m4, m5, m6⟩ := HS.out _ gb)
          | (go_at_call 77; (refine zg x11 (by first | with_reducible exact Below.refl _ _ | with_reducible exact (Below.refl _ _).drew) ?_); intro V12 gF eX; have gb := bS gb eX; (with_reducible refine (ref28_nat _ qd _ (Hd.out.to (bS zb gb)) Hwd.out Hqd.out).mono ?_); rintro e x12 hG12; obtain ⟨g12_, n12_, k12_, rfl, b12_, hb12_⟩ := NewB.mk (N := W0.heap.size) hG12 gb.size; have gb := bS gb hb12_; have b11_ := (b11_.to eX).to hb12_; obtain ⟨m0, m1, m2, m3, m4, m5, m6⟩ := HS.out _ gb)
          | ((refine step_appendN _ rfl (.tmp 38) (.tmp 42) rfl _ _ _ g10_ n10_ k10_ rfl rfl b9_.own b10_.len (HPOS.out _ _ b10_.len HN10.out) b10_.small b10_.cell (by rw [← b10_.len]; exact HL11.out _) _ rfl ?_); intro g11_ n11_ k11_ x11 hO11 hg11 hat11 hlt11; have hB11 := b9_.grow hg11 gb.size; have b11_ := b9_.app hO11 hat11 hlt11 gb.size; have gb := gb.trans hB11; obtain ⟨m0, m1, m2, m3, m4, m5, m6⟩ := HS.out _ gb)
          | (go_at_call 77; (refine zg x9 (by first | with_reducible exact Below.refl _ _ | with_reducible exact (Below.refl _ _).drew) ?_); intro V10 hV10 hbV10; have gb := bS gb hbV10; (with_reducible refine (ref28_nat _ qn _ (Hn.out.to (bS zb gb)) Hwn.out Hqn.out).mono ?_); rintro e x10 hG10; obtain ⟨g10_, n10_, k10_, rfl, b10_, hb10_⟩ := NewB.mk (N := W0.heap.size) hG10 gb.size; have gb := bS gb hb10_; have b9_ := (b9_.to hbV10).to hb10_; obtain ⟨m0, m1, m2, m3, m4, m5, m6⟩ := HS.out _ gb))
        go_wp2_with fail
        go_ret
        exact ⟨g13_, _, k13_, rfl, by rw [Hx.out]; simpa [List.append_assoc, zdd] using b13_.own, by have := b13_.2.1; have := zb.size; omega, b13_.2.2, bS zb gb⟩
      case true =>
        go_wp2_with (at_builtin; refine wp_appendN _ rfl (.tmp 34) (.tmp 36) rfl _ _ [1] x7.heap.size 1 1 rfl rfl (b7_.own.alloc _) rfl (by decide) (by decide) (zeQ (x := _)) (by have := HL9.out; omega) _ rfl ?_; intro g9_ n9_ k9_ x9 hO9 hg9 hat9 hlt9; have b9_ := NewB.app (b7_.to (bN x7 _)) hO9 hat9 hlt9 (bS gb (bN x7 _)).size; have hB9 := NewB.grow (b7_.to (bN x7 _)) hg9 (bS gb (bN x7 _)).size; have gb := (bS gb (bN x7 _)).trans hB9; obtain ⟨m0, m1, m2, m3, m4, m5, m6⟩ := HS.out _ gb)
        go_region_held3 (fun W' => W'.cell? ⟨w.heap.size, 0, none⟩ = some (.int .i64 (O : Int)) ∧ W'.cell? ⟨w.heap.size, 1, none⟩ = some (.int .i64 (T : Int)) ∧ W'.cell? ⟨w.heap.size, 2, none⟩ = some (.int .i64 (A : Int)) ∧ W'.cell? ⟨w.heap.size, 3, none⟩ = some (.int .i64 (Bo : Int)) ∧ W'.cell? ⟨w.heap.size, 4, none⟩ = some (.bool true) ∧ W'.cell? ⟨w.heap.size, 5, none⟩ = some (.slice a1 n1 c1) ∧ W'.cell? ⟨w.heap.size, 6, none⟩ = some (.slice a2 n2 c2)) (first | (with_reducible exact HS.out _ gb) | ((with_reducible refine HS.out _ ?_); repeat' (first | (with_reducible exact gb) | (with_reducible refine Below.drew ?_) | (with_reducible refine bS ?_ (bN _ _))))) (first
          | ((refine step_appendN _ rfl (.tmp 43) (.tmp 47) rfl _ _ _ g12_ n12_ k12_ rfl rfl b11_.own b12_.len (HPOS.out _ _ b12_.len HN12.out) b12_.small b12_.cell (by rw [← b12_.len]; exact HL13.out _) _ rfl ?_); intro g13_ n13_ k13_ x13 hO13 hg13 hat13 hlt13; have hB13 := b11_.grow hg13 gb.size; have b13_ := b11_.app hO13 hat13 hlt13 gb.size; have gb := gb.trans hB13; obtain ⟨m0, m1, m2, m3, m4, m5, m6⟩ := HS.out _ gb)
          | (go_at_call 77; (refine zg x11 (by first | with_reducible exact Below.refl _ _ | with_reducible exact (Below.refl _ _).drew) ?_); intro V12 gF eX; have gb := bS gb eX; (with_reducible refine (ref28_nat _ qd _ (Hd.out.to (bS zb gb)) Hwd.out Hqd.out).mono ?_); rintro e x12 hG12; obtain ⟨g12_, n12_, k12_, rfl, b12_, hb12_⟩ := NewB.mk (N := W0.heap.size) hG12 gb.size; have gb := bS gb hb12_; have b11_ := (b11_.to eX).to hb12_; obtain ⟨m0, m1, m2, m3, m4, m5, m6⟩ := HS.out _ gb)
          | ((refine step_appendN _ rfl (.tmp 38) (.tmp 42) rfl _ _ _ g10_ n10_ k10_ rfl rfl b9_.own b10_.len (HPOS.out _ _ b10_.len HN10.out) b10_.small b10_.cell (by rw [← b10_.len]; exact HL11.out _) _ rfl ?_); intro g11_ n11_ k11_ x11 hO11 hg11 hat11 hlt11; have hB11 := b9_.grow hg11 gb.size; have b11_ := b9_.app hO11 hat11 hlt11 gb.size; have gb := gb.trans hB11; obtain ⟨m0, m1, m2, m3, m4, m5, m6⟩ := HS.out _ gb)
          | (go_at_call 77; (refine zg x9 (by first | with_reducible exact Below.refl _ _ | with_reducible exact (Below.refl _ _).drew) ?_); intro V10 hV10 hbV10; have gb := bS gb hbV10; (with_reducible refine (ref28_nat _ qn _ (Hn.out.to (bS zb gb)) Hwn.out Hqn.out).mono ?_); rintro e x10 hG10; obtain ⟨g10_, n10_, k10_, rfl, b10_, hb10_⟩ := NewB.mk (N := W0.heap.size) hG10 gb.size; have gb := bS gb hb10_; have b9_ := (b9_.to hbV10).to hb10_; obtain ⟨m0, m1, m2, m3, m4, m5, m6⟩ := HS.out _ gb))
        go_wp2_with fail
        go_ret
        exact ⟨g13_, _, k13_, rfl, by rw [Hx.out]; simpa [List.append_assoc, zdd] using b13_.own, by have := b13_.2.1; have := zb.size; omega, b13_.2.2, bS zb gb⟩
    · have v7 : ((O : Int) == 7) = false := by simp; omega
      have v1 : ((O : Int) != 1) = true := by simp; omega
      obtain rfl : xb = (Bo : Int) := by rw [HbO.out, if_neg h7o]
      rw [if_neg h1o, List.append_nil] at Hx
      clear h7o h1o
      go_wp2_with fail
      go_region_held3 (fun W' => W'.cell? ⟨w.heap.size, 0, none⟩ = some (.int .i64 (O : Int)) ∧ W'.cell? ⟨w.heap.size, 1, none⟩ = some (.int .i64 (T : Int)) ∧ W'.cell? ⟨w.heap.size, 2, none⟩ = some (.int .i64 (A : Int)) ∧ W'.cell? ⟨w.heap.size, 3, none⟩ = some (.int .i64 (Bo : Int)) ∧ W'.cell? ⟨w.heap.size, 4, none⟩ = some (.bool ng) ∧ W'.cell? ⟨w.heap.size, 5, none⟩ = some (.slice a1 n1 c1) ∧ W'.cell? ⟨w.heap.size, 6, none⟩ = some (.slice a2 n2 c2)) (first | (with_reducible exact HS.out _ gb) | ((with_reducible refine HS.out _ ?_); repeat' (first | (with_reducible exact gb) | (with_reducible refine Below.drew ?_) | (with_reducible refine bS ?_ (bN _ _))))) (first
        | ((refine step_appendN _ rfl (.tmp 23) (.tmp 25) rfl _ _ _ g6_ n6_ k6_ rfl rfl b5_.own b6_.len (HPOS.out _ _ b6_.len HN6.out) b6_.small b6_.cell (by rw [← b6_.len]; exact HL7.out) _ rfl ?_); intro g7_ n7_ k7_ x7 hO7 hg7 hat7 hlt7; have hB7 := b5_.grow hg7 gb.size; have b7_ := b5_.app hO7 hat7 hlt7 gb.size; have gb := gb.trans hB7; obtain ⟨m0, m1, m2, m3, m4, m5, m6⟩ := HS.out _ gb)
        | (go_at_call 51; (refine zg x5 (by first | with_reducible exact Below.refl _ _ | with_reducible exact (Below.refl _ _).drew) ?_); intro V6 hV6 hbV6; have gb := bS gb hbV6; (with_reducible refine (ref28_count Bo _ HB28.out).mono ?_); rintro e x6 hG6; obtain ⟨g6_, n6_, k6_, rfl, b6_, hb6_⟩ := NewB.mk (N := W0.heap.size) hG6 gb.size; have gb := bS gb hb6_; have b5_ := (b5_.to hbV6).to hb6_; obtain ⟨m0, m1, m2, m3, m4, m5, m6⟩ := HS.out _ gb)
        | ((refine step_appendN _ rfl (.tmp 19) (.tmp 22) rfl _ _ _ g4_ n4_ k4_ rfl rfl b3_.own b4_.len (HPOS.out _ _ b4_.len HN4.out) b4_.small b4_.cell (by rw [← b4_.len]; exact HL5.out) _ rfl ?_); intro g5_ n5_ k5_ x5 hO5 hg5 hat5 hlt5; have hB5 := b3_.grow hg5 gb.size; have b5_ := b3_.app hO5 hat5 hlt5 gb.size; have gb := gb.trans hB5; obtain ⟨m0, m1, m2, m3, m4, m5, m6⟩ := HS.out _ gb)
        | (go_at_call 51; (refine zg x3 (by first | with_reducible exact Below.refl _ _ | with_reducible exact (Below.refl _ _).drew) ?_); intro V4 hV4 hbV4; have gb := bS gb hbV4; (with_reducible refine (ref28_count A _ HA28.out).mono ?_); rintro e x4 hG4; obtain ⟨g4_, n4_, k4_, rfl, b4_, hb4_⟩ := NewB.mk (N := W0.heap.size) hG4 gb.size; have gb := bS gb hb4_; have b3_ := (b3_.to hbV4).to hb4_; obtain ⟨m0, m1, m2, m3, m4, m5, m6⟩ := HS.out _ gb)
        | ((refine step_appendN _ rfl (.tmp 15) (.tmp 18) rfl _ _ _ g2_ n2_ k2_ rfl rfl b1_.own b2_.len (HPOS.out _ _ b2_.len HN2.out) b2_.small b2_.cell (by rw [← b2_.len]; exact HL3.out) _ rfl ?_); intro g3_ n3_ k3_ x3 hO3 hg3 hat3 hlt3; have hB3 := b1_.grow hg3 gb.size; have b3_ := b1_.app hO3 hat3 hlt3 gb.size; have gb := gb.trans hB3; obtain ⟨m0, m1, m2, m3, m4, m5, m6⟩ := HS.out _ gb)
        | (go_at_call 51; (refine zg x1 (by first | with_reducible exact Below.refl _ _ | with_reducible exact (Below.refl _ _).drew) ?_); intro V2 dE bV; have gb := bS gb bV; (with_reducible refine (ref28_count T _ HT28.out).mono ?_); rintro e x2 hG2; obtain ⟨g2_, n2_, k2_, rfl, b2_, hb2_⟩ := NewB.mk (N := W0.heap.size) hG2 gb.size; have gb := bS gb hb2_; have b1_ := (b1_.to bV).to hb2_; obtain ⟨m0, m1, m2, m3, m4, m5, m6⟩ := HS.out _ gb)
        | (go_at_call 51; (refine zg W0 (by first | with_reducible exact Below.refl _ _ | with_reducible exact (Below.refl _ _).drew) ?_); intro V1 dD ch; have gb := bS gb ch; (with_reducible refine (ref28_count O _ HO28.out).mono ?_); rintro e x1 hG1; obtain ⟨g1_, n1_, k1_, rfl, b1_, hb1_⟩ := NewB.mk (N := W0.heap.size) hG1 gb.size; have gb := bS gb hb1_; obtain ⟨m0, m1, m2, m3, m4, m5, m6⟩ := HS.out _ gb))
      go_wp2_with fail
      go_ret
      exact ⟨g7_, _, k7_, rfl, by rw [Hx.out]; simpa [List.append_assoc] using b7_.own, by have := b7_.2.1; have := zb.size; omega, b7_.2.2, bS zb gb⟩

end Go.Proofs.YtkjcdnlpjldhaaaGreat

