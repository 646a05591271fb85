/-
  The document's bytes of a code: the whole.
-/
import Derived.Test.YtkjcdnlpjldhaaaGreatK25
import Derived.Test.YtkjcdnlpjldhaaaGreatK04
import Derived.Test.YtkjcdnlpjldhaaaGreatK02
import Derived.Test.YtkjcdnlpjldhaaaGreatK01
import Derived.Test.YtkjcdnlpjldhaaaGreatK03
import Derived.Test.YtkjcdnlpjldhaaaGreatK21
import Derived.Test.YtkjcdnlpjldhaaaGreatK20
import Derived.Test.YtkjcdnlpjldhaaaGreatK18
import Derived.Test.YtkjcdnlpjldhaaaGreatK16
import Derived.Test.YtkjcdnlpjldhaaaGreatK13
import Derived.Test.YtkjcdnlpjldhaaaGreatK12
import Derived.Test.YtkjcdnlpjldhaaaGreatK10
import Derived.Test.YtkjcdnlpjldhaaaGreatK09
import Derived.Test.YtkjcdnlpjldhaaaGreatK08
import Derived.Test.YtkjcdnlpjldhaaaGreatK07
import Derived.Test.YtkjcdnlpjldhaaaGreatK06
import Derived.Test.YtkjcdnlpjldhaaaGreatK11
import Derived.Test.YtkjcdnlpjldhaaaGreatK15
import Derived.Test.YtkjcdnlpjldhaaaGreatK14
import Derived.Test.YtkjcdnlpjldhaaaGreatK17
import Derived.Test.YtkjcdnlpjldhaaaGreatK28
import Derived.Test.YtkjcdnlpjldhaaaGreatK22
import Derived.Test.YtkjcdnlpjldhaaaGreatDDeciMath
import Derived.Test.YtkjcdnlpjldhaaaGreatDRef6
import Derived.Test.YtkjcdnlpjldhaaaGreatDRef8
import Derived.Test.YtkjcdnlpjldhaaaGreatDVmRow
import Derived.Test.YtkjcdnlpjldhaaaGreatDPackRow
import Derived.Test.YtkjcdnlpjldhaaaGreatDPackRef
import Derived.Test.YtkjcdnlpjldhaaaGreatDVm1
import Derived.Test.YtkjcdnlpjldhaaaGreatDVm5
import Derived.Test.YtkjcdnlpjldhaaaGreatDPackEnc
import Derived.Test.YtkjcdnlpjldhaaaGreatDVm7
import Derived.Test.YtkjcdnlpjldhaaaGreatDRef25
import Derived.Test.YtkjcdnlpjldhaaaGreatDPackRefI
import Derived.Deep.RegionHeld3
import Derived.RegionTactic
namespace Go.Proofs.YtkjcdnlpjldhaaaGreat
open Go.RowKit Tw
set_option linter.unusedVariables false
set_option linter.unusedSimpArgs false
attribute [local go_sem ↓] Go.wp_at_zero Go.wp_at_succ

theorem bytesI_ne (x : Ins) : zao x ≠ [] := by
  unfold zao
  intro h
  simp only [List.append_eq_nil_iff] at h
  exact cnt_ne _ h.1

set_option maxRecDepth 100000 in
set_option maxHeartbeats 40000000 in
theorem ref28_encode_no (c : Cd) (v : Value) (w : World) (hc : IsC w c v) (hs : zbA 1000 c.all) (h0 : zU c = false) :
    Calls Tryz.prog 28 #[aggC c v] w (fun e w' => e = .returned (.tuple #[.slice none 0 0, .int .i64 11]) ∧ Below w.heap.size w w') := by
  have Hs := Lib.hid hs
  have Hr0 := Lib.hid h0
  clear hs h0
  obtain ⟨a0, n0, c0, rfl, H0, hm0⟩ := hc.1.open
  go_enter Tryz.func28, Tryz.ntmps28
  go_wp2_with fail
  obtain ⟨W0, ap⟩ : ∃ W0, w.alloc (.cells #[.int .i64 c.ins, .int .i64 c.rows, .int .i64 c.cols, .int .i64 c.regs, .slice a0 n0 c0] 24) = W0 := ⟨_, rfl⟩
  have zb : Below w.heap.size w W0 := by rw [← ap]; exact bN _ _
  have hC : B5 W0 w.heap.size (.int .i64 c.ins) (.int .i64 c.rows) (.int .i64 c.cols) (.int .i64 c.regs) (.slice a0 n0 c0) := by
    rw [← ap]
    unfold B5
    and_intros <;> first | (simp [go_sem]; done) | (simp [go_sem]; omega)
  rw [ap]
  clear ap
  have i0 := hc.to zb
  obtain ⟨cz, c0_, c1_, c2_, c3_, c4_, cf0, cf1, cf2, cf3, cf4⟩ := id hC
  go_wp2_with fail
  refine (ref25_right c _ _ i0 Hs.out false Hr0.out).mono ?_
  rintro e w1 ⟨rfl, aS⟩
  clear cz c0_ c1_ c2_ c3_ c4_ cf0 cf1 cf2 cf3 cf4
  go_wp2_with fail
  refine bodyPost_ret (results_tmp2 rfl _ _ _) rfl ?_
  exact ⟨rfl, bS zb aS⟩

set_option maxRecDepth 100000 in
set_option maxHeartbeats 80000000 in
theorem ref28_encode_yes (c : Cd) (v : Value) (w : World) (hc : IsC w c v) (hs : zbA 1000 c.all) (hA : c.all.length ≤ 1000) (h1 : zU c = true) :
    Calls Tryz.prog 28 #[aggC c v] w (fun e w' => ∃ g n cp, e = .returned (.tuple #[.slice (some ⟨g, 0, none⟩) n cp, .int .i64 0]) ∧ zR 0 w' (.slice (some ⟨g, 0, none⟩) n cp) (zbm c) ∧ w.heap.size ≤ g ∧ g < w'.heap.size ∧ Below w.heap.size w w') := by
  have hwc := wide_of hc hs
  have hW := zfn h1 hwc
  obtain ⟨ins, rows, cols, regs, all⟩ := c
  obtain ⟨⟨p0, q0⟩, ⟨p1, q1⟩, ⟨p2, q2⟩, ⟨p3, q3⟩, p4, hWi⟩ := hW
  simp only at p0 q0 p1 q1 p2 q2 p3 q3 p4 hWi hs hA hwc
  obtain ⟨I, rfl⟩ := Int.eq_ofNat_of_zero_le p0
  obtain ⟨R, rfl⟩ := Int.eq_ofNat_of_zero_le p1
  obtain ⟨C, rfl⟩ := Int.eq_ofNat_of_zero_le p2
  obtain ⟨G, rfl⟩ := Int.eq_ofNat_of_zero_le p3
  obtain ⟨a0, n0, c0, rfl, H0, hm0⟩ := hc.1.open
  have h0l : all.length = n0 := H0.out
  have H28 := Lib.hid (show ∀ x ∈ [I, R, C, G, n0], x < 268435456 by intro x hx; simp only [List.mem_cons, List.not_mem_nil, or_false] at hx; omega)
  have hn0 : n0 ≤ 1000 := by omega
  have Hs := Lib.hid hs
  have HW := Lib.hid hWi
  have Hr := Lib.hid h1
  have Hbytes := Lib.hid (show zbm ⟨(I : Int), (R : Int), (C : Int), (G : Int), all⟩ = (cnt I ++ cnt R ++ cnt C ++ cnt G ++ cnt n0) ++ all.flatMap zao by
    unfold zbm
    simp [h0l])
  have l1 := zT (H28.out I (by simp))
  have l2 := zT (H28.out R (by simp))
  have l3 := zT (H28.out C (by simp))
  have l4 := zT (H28.out G (by simp))
  have l5 := zT (H28.out n0 (by simp))
  have HPOS := Lib.hid (show ∀ (l : List Nat) (n : Nat), l.length = n → l ≠ [] → 0 < n from fun l n e hne => by rw [← e]; exact List.length_pos_iff.2 hne)
  have HN2 := Lib.hid (cnt_ne R)
  have HN4 := Lib.hid (cnt_ne C)
  have HN6 := Lib.hid (cnt_ne G)
  have HN8 := Lib.hid (cnt_ne n0)
  have HL3 := Lib.hid (show (cnt I).length + (cnt R).length ≤ 1099511627776 by omega)
  have HL5 := Lib.hid (show (cnt I ++ cnt R).length + (cnt C).length ≤ 1099511627776 by simp only [List.length_append]; omega)
  have HL7 := Lib.hid (show (cnt I ++ cnt R ++ cnt C).length + (cnt G).length ≤ 1099511627776 by simp only [List.length_append]; omega)
  have HL9 := Lib.hid (show (cnt I ++ cnt R ++ cnt C ++ cnt G).length + (cnt n0).length ≤ 1099511627776 by simp only [List.length_append]; omega)
  have HL10 := Lib.hid (show (cnt I ++ cnt R ++ cnt C ++ cnt G ++ cnt n0).length ≤ 20 by simp only [List.length_append]; omega)
  clear h0l p0 q0 p1 q1 p2 q2 p3 q3 p4 hWi hs hA hwc h1 l1 l2 l3 l4 l5
  go_enter Tryz.func28, Tryz.ntmps28
  go_wp2_with fail
  obtain ⟨W0, ap⟩ : ∃ W0, w.alloc (.cells #[.int .i64 (I : Int), .int .i64 (R : Int), .int .i64 (C : Int), .int .i64 (G : Int), .slice a0 n0 c0] 24) = W0 := ⟨_, rfl⟩
  have zb : Below w.heap.size w W0 := by rw [← ap]; exact bN _ _
  have hC : B5 W0 w.heap.size (.int .i64 (I : Int)) (.int .i64 (R : Int)) (.int .i64 (C : Int)) (.int .i64 (G : Int)) (.slice a0 n0 c0) := by
    rw [← ap]
    unfold B5
    and_intros <;> first | (simp [go_sem]; done) | (simp [go_sem]; omega)
  rw [ap]
  clear ap
  have i0 := hc.to zb
  obtain ⟨cz, c0_, c1_, c2_, c3_, c4_, cf0, cf1, cf2, cf3, cf4⟩ := id hC
  go_wp2_with fail
  refine (ref25_right _ _ _ i0 Hs.out true Hr.out).mono ?_
  rintro e w1 ⟨rfl, aS⟩
  clear cz c0_ c1_ c2_ c3_ c4_ cf0 cf1 cf2 cf3 cf4
  have HS : Hid (∀ W', Below w1.heap.size w1 W' → (W'.cell? ⟨w.heap.size, 0, none⟩ = some (.int .i64 (I : Int)) ∧ W'.cell? ⟨w.heap.size, 1, none⟩ = some (.int .i64 (R : Int)) ∧ W'.cell? ⟨w.heap.size, 2, none⟩ = some (.int .i64 (C : Int)) ∧ W'.cell? ⟨w.heap.size, 3, none⟩ = some (.int .i64 (G : Int)) ∧ W'.cell? ⟨w.heap.size, 4, none⟩ = some (.slice a0 n0 c0))) := fun W' hb => by
    obtain ⟨cz, c0_, c1_, c2_, c3_, c4_, cf0, cf1, cf2, cf3, cf4⟩ := (hC.to aS).to hb
    exact ⟨c0_, c1_, c2_, c3_, c4_⟩
  have gb : Below w1.heap.size w1 w1 := Below.refl _ _
  obtain ⟨m0, m1, m2, m3, m4⟩ := HS.out _ gb
  go_wp2_with fail
  go_region_held3 (fun W' => W'.cell? ⟨w.heap.size, 0, none⟩ = some (.int .i64 (I : Int)) ∧ W'.cell? ⟨w.heap.size, 1, none⟩ = some (.int .i64 (R : Int)) ∧ W'.cell? ⟨w.heap.size, 2, none⟩ = some (.int .i64 (C : Int)) ∧ W'.cell? ⟨w.heap.size, 3, none⟩ = some (.int .i64 (G : Int)) ∧ W'.cell? ⟨w.heap.size, 4, none⟩ = some (.slice a0 n0 c0)) (first | (with_reducible exact HS.out _ gb) | ((with_reducible refine HS.out _ ?_); repeat' (first | (with_reducible exact gb) | (with_reducible refine Below.drew ?_) | (with_reducible refine bS ?_ (bN _ _))))) (first
    | ((refine step_appendN _ rfl (.tmp 25) (.tmp 29) rfl _ _ _ g8_ n8_ k8_ rfl rfl b7_.own b8_.len (HPOS.out _ _ b8_.len HN8.out) b8_.small b8_.cell (by rw [← b8_.len]; exact HL9.out) _ rfl ?_); intro g9_ n9_ k9_ x9 hO9 hg9 hat9 hlt9; have hB9 := b7_.grow hg9 gb.size; have b9_ := b7_.app hO9 hat9 hlt9 gb.size; have gb := gb.trans hB9; obtain ⟨m0, m1, m2, m3, m4⟩ := HS.out _ gb)
    | (go_at_call 51; (refine zg x7 (by first | with_reducible exact Below.refl _ _ | with_reducible exact (Below.refl _ _).drew) ?_); intro V8 hV8 gN; have gb := bS gb gN; (with_reducible refine (ref28_count n0 _ (H28.out _ (by simp))).mono ?_); rintro e x8 hG8; obtain ⟨g8_, n8_, k8_, rfl, b8_, hb8_⟩ := NewB.mk (N := w1.heap.size) hG8 gb.size; have gb := bS gb hb8_; have b7_ := (b7_.to gN).to hb8_; obtain ⟨m0, m1, m2, m3, m4⟩ := HS.out _ gb)
    | ((refine step_appendN _ rfl (.tmp 21) (.tmp 24) rfl _ _ _ g6_ n6_ k6_ rfl rfl b5_.own b6_.len (HPOS.out _ _ b6_.len HN6.out) b6_.small b6_.cell (by rw [← b6_.len]; exact HL7.out) _ rfl ?_); intro g7_ n7_ k7_ x7 hO7 hg7 hat7 hlt7; have hB7 := b5_.grow hg7 gb.size; have b7_ := b5_.app hO7 hat7 hlt7 gb.size; have gb := gb.trans hB7; obtain ⟨m0, m1, m2, m3, m4⟩ := HS.out _ gb)
    | (go_at_call 51; (refine zg x5 (by first | with_reducible exact Below.refl _ _ | with_reducible exact (Below.refl _ _).drew) ?_); intro V6 hV6 hbV6; have gb := bS gb hbV6; (with_reducible refine (ref28_count G _ (H28.out _ (by simp))).mono ?_); rintro e x6 hG6; obtain ⟨g6_, n6_, k6_, rfl, b6_, hb6_⟩ := NewB.mk (N := w1.heap.size) hG6 gb.size; have gb := bS gb hb6_; have b5_ := (b5_.to hbV6).to hb6_; obtain ⟨m0, m1, m2, m3, m4⟩ := HS.out _ gb)
    | ((refine step_appendN _ rfl (.tmp 17) (.tmp 20) rfl _ _ _ g4_ n4_ k4_ rfl rfl b3_.own b4_.len (HPOS.out _ _ b4_.len HN4.out) b4_.small b4_.cell (by rw [← b4_.len]; exact HL5.out) _ rfl ?_); intro g5_ n5_ k5_ x5 hO5 hg5 hat5 hlt5; have hB5 := b3_.grow hg5 gb.size; have b5_ := b3_.app hO5 hat5 hlt5 gb.size; have gb := gb.trans hB5; obtain ⟨m0, m1, m2, m3, m4⟩ := HS.out _ gb)
    | (go_at_call 51; (refine zg x3 (by first | with_reducible exact Below.refl _ _ | with_reducible exact (Below.refl _ _).drew) ?_); intro V4 hV4 hbV4; have gb := bS gb hbV4; (with_reducible refine (ref28_count C _ (H28.out _ (by simp))).mono ?_); rintro e x4 hG4; obtain ⟨g4_, n4_, k4_, rfl, b4_, hb4_⟩ := NewB.mk (N := w1.heap.size) hG4 gb.size; have gb := bS gb hb4_; have b3_ := (b3_.to hbV4).to hb4_; obtain ⟨m0, m1, m2, m3, m4⟩ := HS.out _ gb)
    | ((refine step_appendN _ rfl (.tmp 13) (.tmp 16) rfl _ _ _ g2_ n2_ k2_ rfl rfl b1_.own b2_.len (HPOS.out _ _ b2_.len HN2.out) b2_.small b2_.cell (by rw [← b2_.len]; exact HL3.out) _ rfl ?_); intro g3_ n3_ k3_ x3 hO3 hg3 hat3 hlt3; have hB3 := b1_.grow hg3 gb.size; have b3_ := b1_.app hO3 hat3 hlt3 gb.size; have gb := gb.trans hB3; obtain ⟨m0, m1, m2, m3, m4⟩ := HS.out _ gb)
    | (go_at_call 51; (refine zg x1 (by first | with_reducible exact Below.refl _ _ | with_reducible exact (Below.refl _ _).drew) ?_); intro V2 dE bV; have gb := bS gb bV; (with_reducible refine (ref28_count R _ (H28.out _ (by simp))).mono ?_); rintro e x2 hG2; obtain ⟨g2_, n2_, k2_, rfl, b2_, hb2_⟩ := NewB.mk (N := w1.heap.size) hG2 gb.size; have gb := bS gb hb2_; have b1_ := (b1_.to bV).to hb2_; obtain ⟨m0, m1, m2, m3, m4⟩ := HS.out _ gb)
    | (go_at_call 51; (refine zg w1 (by first | with_reducible exact Below.refl _ _ | with_reducible exact (Below.refl _ _).drew) ?_); intro V1 dD ch; have gb := bS gb ch; (with_reducible refine (ref28_count I _ (H28.out _ (by simp))).mono ?_); rintro e x1 hG1; obtain ⟨g1_, n1_, k1_, rfl, b1_, hb1_⟩ := NewB.mk (N := w1.heap.size) hG1 gb.size; have gb := bS gb hb1_; obtain ⟨m0, m1, m2, m3, m4⟩ := HS.out _ gb))
  have hbA := bS zb aS
  have hsA := hbA.size
  go_wp2_with fail
  go_loopw [5, 6] (fun v' i ww => ∃ (k : Nat) (l' : List Nat) (g m c : Nat), k ≤ n0 ∧ v' = .slice (some ⟨g, 0, none⟩) m c ∧ i = .int .i64 k ∧ NewB w1.heap.size ww g m c l' ∧ Below w1.heap.size w1 ww ∧ Hid (l' ++ (all.drop k).flatMap zao = zbm ⟨(I : Int), (R : Int), (C : Int), (G : Int), all⟩) ∧ Hid (l'.length ≤ 20 + 8028 * k)) (fun _ i _ => n0 - (intOf i).toNat)
  case atStart => exact ⟨0, _, g9_, _, k9_, Nat.zero_le _, rfl, rfl, b9_, gb, Lib.hid (by rw [Hbytes.out]; rfl), Lib.hid (by have := HL10.out; omega)⟩
  case round =>
  clear b9_
  obtain ⟨k, l', g, m, c, hk, rfl, rfl, b1_, gb, HB, HL⟩ := hrel
  obtain ⟨wv, hwv⟩ : ∃ W, W = wr := ⟨_, rfl⟩
  subst hwv
  obtain ⟨m0, m1, m2, m3, m4⟩ := HS.out _ gb
  by_cases hkn : k < n0
  · have hki : (k : Int) < (n0 : Int) := by omega
    have hkl : k < all.length := by rw [H0.out]; exact hkn
    have hbr := bS hbA gb
    obtain ⟨b, off, rfl, h7⟩ := hc.1.nth hkl
    have hsx := Hs.out _ (List.getElem_mem hkl)
    have hWx := HW.out _ (List.getElem_mem hkl)
    have hdr : (all.drop k).flatMap zao = zao all[k] ++ (all.drop (k + 1)).flatMap zao := by rw [List.drop_eq_getElem_cons hkl, List.flatMap_cons]
    obtain ⟨x, hx⟩ : ∃ x, all[k] = x := ⟨_, rfl⟩
    rw [hx] at h7 hsx hWx hdr
    have Hdr := Lib.hid hdr
    have HLI := Lib.hid (zhU hWx hsx.1 hsx.2)
    have HNE := Lib.hid (bytesI_ne x)
    obtain ⟨vn, vd, s0, s1, s2, s3, s4, s5, s6, hX⟩ := h7.isX hsx.1 hsx.2
    have hbl := zj s0
    replace s0 := (hbr.cell (p := ⟨b, off + k * 7, none⟩) hbl).trans s0
    replace s1 := (hbr.cell (p := ⟨b, off + k * 7 + 1, none⟩) hbl).trans s1
    replace s2 := (hbr.cell (p := ⟨b, off + k * 7 + 2, none⟩) hbl).trans s2
    replace s3 := (hbr.cell (p := ⟨b, off + k * 7 + 3, none⟩) hbl).trans s3
    replace s4 := (hbr.cell (p := ⟨b, off + k * 7 + 4, none⟩) hbl).trans s4
    replace s5 := (hbr.cell (p := ⟨b, off + k * 7 + 5, none⟩) hbl).trans s5
    replace s6 := (hbr.cell (p := ⟨b, off + k * 7 + 6, none⟩) hbl).trans s6
    obtain ⟨a1, n1, c1, rfl, H1, hm1⟩ := hX.1.1.open
    obtain ⟨a2, n2, c2, rfl, H2, hm2⟩ := hX.1.2.1.open
    have HXn := Lib.hid (hX.1.1.to hbr)
    have HXd := Lib.hid (hX.1.2.1.to hbr)
    have HWx := Lib.hid hWx
    have Hsx := Lib.hid hsx
    clear h7 hsx hdr hx hWx hX
    go_wp2_with fail
    refine (ref28_instr x a1 n1 c1 a2 n2 c2 _ HXn.out HXd.out HWx.out Hsx.out.1 Hsx.out.2).mono ?_
    rintro e w2 hG
    obtain ⟨g2_, n2_, c2_, rfl, b2_, hb2_⟩ := NewB.mk (N := w1.heap.size) hG gb.size
    have b1_ := b1_.to hb2_
    have gb := bS gb hb2_
    go_wp2_with (at_builtin; refine wp_appendN _ rfl (.tmp 38) (.tmp 44) rfl _ _ _ g2_ n2_ c2_ rfl rfl b1_.own b2_.len (HPOS.out _ _ b2_.len HNE.out) b2_.small b2_.cell (by rw [← b2_.len]; have h1 := HL.out; have h2 := HLI.out; omega) _ rfl ?_; intro g3_ n3_ c3_ w3 hO3 hg3 hat3 hlt3; have hB3 := b1_.grow hg3 gb.size; have b3_ := b1_.app hO3 hat3 hlt3 gb.size; have gb := gb.trans hB3)
    go_roundw
    case rel =>
      refine ⟨k + 1, _, g3_, _, c3_, by omega, rfl, by go_num, b3_, gb, Lib.hid ?_, Lib.hid ?_⟩
      · rw [← HB.out, Hdr.out, List.append_assoc]
      · rw [List.length_append]
        have h1 := HL.out
        have h2 := HLI.out
        omega
    case measure => simp [intOf] <;> omega
  · obtain rfl : k = n0 := by omega
    have hki : ¬ ((k : Int) < (k : Int)) := by omega
    have HE := Lib.hid (show l' = zbm ⟨(I : Int), (R : Int), (C : Int), (G : Int), all⟩ by have h := HB.out; rw [← H0.out, List.drop_length] at h; simpa using h)
    go_wp2_with fail
    refine bodyPost_ret (results_tmp2 rfl _ _ _) rfl ?_
    have dF := b1_.2.1
    exact ⟨g, m, c, rfl, by rw [← HE.out]; exact b1_.own, by omega, b1_.2.2, bS hbA gb⟩

end Go.Proofs.YtkjcdnlpjldhaaaGreat

