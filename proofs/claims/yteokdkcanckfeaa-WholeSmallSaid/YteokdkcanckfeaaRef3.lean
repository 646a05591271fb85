/-
  The walks of the reference of layer 3.
-/
import Derived.Test.YteokdkcanckfeaaTimes
import Derived.Test.YteokdkcanckfeaaRef2b
import Derived.Deep.RegionLaw
import Derived.Deep.OwnRows
namespace Go.Proofs.Yteokdkcanckfeaa
open Go.RowKit Tw
set_option linter.unusedVariables false
set_option linter.unusedSimpArgs false

theorem rone_step {X la : List Nat} {k c wd C x s q : Nat} (hX : X.length = k) (hv : val X + B ^ k * c = val (la.take k) * wd + C) (hx : nth la k * wd + c = x) (hs : x % 4294967296 = s) (hq : x / 4294967296 = q) :
    val (X ++ [s]) + B ^ (k + 1) * q = val (la.take (k + 1)) * wd + C := by
  rw [val_snoc, hX, val_take_succ']
  have h := line_math (S := val X) (Sz := 0) (A := val (la.take k)) (k := k) (c := c) (x := nth la k) (z := 0) (w := wd) (q := q) (s := s) (o := C) (by rw [Nat.zero_add]; exact hv) (by rw [Nat.add_zero, hx]; exact hq) (by rw [Nat.add_zero, hx]; exact hs)
  rw [Nat.mul_zero, Nat.zero_add] at h
  exact h

set_option maxHeartbeats 1000000 in
theorem ref3_one (va : Value) (la : List Nat) (wd c : Int) (w : World) (ha : Rd w va la) (hla : la.length ≤ 1000000) (wd0 : 0 ≤ wd) (wd1 : wd < 4294967296) (c0 : 0 ≤ c) (c1 : c < 4294967296) :
    Calls Try.prog 52 #[va, .int .u32 wd, .int .u32 c] w (Gives w (limbs (val la * wd.toNat + c.toNat))) := by
  obtain ⟨wd, rfl⟩ := Int.eq_ofNat_of_zero_le wd0
  obtain ⟨C, rfl⟩ := Int.eq_ofNat_of_zero_le c0
  simp only [Int.toNat_natCast]
  obtain ⟨aa, na, capa, rfl, Hna, _⟩ := ha.open
  have hna : na ≤ 1000000 := by have := Hna.out; omega
  go_enter Try.func52, Try.ntmps52
  go_wp2_with fail
  go_loopw [7, 8, 9, 10] (fun v c i _ ww => ∃ (k cc : Nat) (X : List Nat), k ≤ na ∧ cc < 4294967296 ∧ i = .int .i64 k ∧ c = .int .u64 cc ∧ Own w.heap.size ww v X ∧ Below w.heap.size w ww ∧ Hid (X.length = k) ∧
      Hid (val X + B ^ k * cc = val (la.take k) * wd + C)) (fun _ _ i _ _ => na - (intOf i).toNat)
  case atStart => exact ⟨0, C, [], by omega, by omega, rfl, rfl, Own.nil _ _, Below.refl _ _, rfl, by unfold Hid; simp [val]⟩
  case round =>
    obtain ⟨k, c, X, hk, hc, rfl, rfl, hown, hbw, HX, HV⟩ := hrel
    have hlx : X.length ≤ 1000001 := by have := HX.out; omega
    by_cases hkn : k < na
    · obtain ⟨b, o, rfl, hcell⟩ := (ha.to hbw).cells (by rw [Hna.out]; omega)
      have hck := hcell k (by rw [Hna.out]; omega)
      have hx := ha.1.nth k
      simp only [B_eq] at hx
      clear hcell
      have hm : nth la k * wd ≤ 4294967295 * 4294967295 := Nat.mul_le_mul (by omega) (by omega)
      have hm2 : (nth la k : Int) * wd ≤ 4294967295 * 4294967295 := Int.mul_le_mul (by omega) (by omega) (by omega) (by omega)
      have hm3 : 0 ≤ (nth la k : Int) * wd := Int.mul_nonneg (by omega) (by omega)
      have E := Lib.hid (show (nth la k : Int) * wd + c = ((nth la k * wd + c : Nat) : Int) by push_cast; rfl)
      have hst := Lib.hid (rone_step HX.out HV.out rfl rfl rfl)
      have Hq := Lib.hid (show ((nth la k : Int) * wd + c) / 4294967296 = (((nth la k * wd + c) / 4294967296 : Nat) : Int) by rw [E.out]; omega)
      have Hs := Lib.hid (show ((nth la k : Int) * wd + c) % 4294967296 = (((nth la k * wd + c) % 4294967296 : Nat) : Int) by rw [E.out]; omega)
      have hq1 : (nth la k * wd + c) / 4294967296 < 4294967296 := by omega
      have Hsl := Lib.hid (show (nth la k * wd + c) % 4294967296 < 4294967296 by omega)
      generalize (nth la k * wd + c) / 4294967296 = q at *
      generalize (nth la k * wd + c) % 4294967296 = s at *
      have hrd : Rd (wr.alloc (.cells #[.int .u32 (((nth la k : Int) * wd + c) % 4294967296)] 38)) (.slice (some ⟨wr.heap.size, 0, none⟩) 1 1) [s] := by
        rw [Hs.out]
        exact (own_lit_at wr _ [s] rfl (small1 Hsl.out) (by simp [maxLen])).rd
      have Hrd := Lib.hid hrd
      clear hrd hm
      go_wp2_with (at_builtin; refine wp_append _ rfl (.tmp 29) (.tmp 33) rfl w.heap.size _ _ X [s] rfl rfl (hown.alloc _) Hrd.out (by have := hbw.size; simp; omega) (by simp; omega) ?_; intro v2 w2 hown2 hb2 hs2)
      go_roundw
      case rel => exact ⟨k + 1, q, X ++ [s], by omega, hq1, by go_num, int_eq Hq.out, hown2, (hbw.alloc hbw.size _).trans hb2, by unfold Hid; rw [List.length_append, HX.out]; rfl, hst⟩
      case measure => simp [intOf]; omega
    · have hkn2 : k = na := by omega
      subst hkn2
      have Hv := Lib.hid (show val (X ++ [c]) = val la * wd + C by
        have h1 := HV.out
        rw [val_take_all (l := la) (by rw [Hna.out]; exact Nat.le_refl _)] at h1
        rw [val_snoc, HX.out]; exact h1)
      go_wp2_with (at_builtin; refine wp_append _ rfl (.tmp 37) (.tmp 40) rfl w.heap.size _ _ X [c] rfl rfl (hown.alloc _) (own_lit_at wr _ [c] rfl (small1 hc) (by simp [maxLen])).rd (by have := hbw.size; simp; omega) (by simp; omega) ?_; intro v2 w2 hown2 hb2 hs2)
      refine (ref2_trim _ _ _ hown2.rd (by simp; omega)).mono ?_
      rintro e w3 ⟨v, rfl, hv, hb3⟩
      go_wp2_with fail
      go_ret
      exact ⟨_, rfl, by rw [← Hv.out]; exact hv.mono hs2, ((hbw.alloc hbw.size _).trans hb2).trans (hb3.mono hs2)⟩

/-- 'append' as a run: to a row of the call's own, whatever is appended. -/
theorem run_append_rd (w : World) (base : Nat) (ty : TypeId) (v vx : Value) (l m : List Nat) (hown : Own base w v l) (hrd : Rd w vx m) (hbase : base ≤ w.heap.size) (hn : l.length + m.length ≤ 1099511627776) :
    ∃ v' w', (Builtin.append_ #[23, 23] ty #[v, vx]).run Try.prog w = .ok v' w' ∧ Own base w' v' (l ++ m) ∧ Below base w w' ∧ base ≤ w'.heap.size := by
  obtain ⟨i0, hi, hz0, hz1, hz2⟩ := info_parts info32
  have hsm : Small (l ++ m) := small_append.2 ⟨hown.1, hrd.1⟩
  have fin : ∀ (ad : Addr) (c : Nat), vx = .slice (some ad) m.length c → (∀ j u, (m.map u32v)[j]? = some u → w.cell? (ad.add j) = some u) →
      ∃ v' w', (Builtin.append_ #[23, 23] ty #[v, vx]).run Try.prog w = .ok v' w' ∧ Own base w' v' (l ++ m) ∧ Below base w w' ∧ base ≤ w'.heap.size := by
    intro ad c hv hcells
    obtain ⟨v', w', hr, ho, hg, _⟩ := run_append_own (P := Try.prog) w base 23 ty 38 i0 (.int .u32 0) 1 4 Try.underlying23 hi hz0 hz1 hz2 rfl (by decide) v l.length (l.map u32v) hown.2 ad m.length c (m.map u32v)
      (by simp) hcells (ints_one m) (by simp [maxLen]; omega) (by omega) hbase
    rw [hv]
    exact ⟨v', w', hr, ⟨hsm, by rw [List.length_append, List.map_append]; exact ho⟩, (Below.refl _ _).grown hg hbase (fun k hk => (hown.lt k hk).1), Nat.le_trans hbase hg.size⟩
  rcases hrd.2 with ⟨rfl, ad, cap, hv, hm, hnone⟩ | ⟨b, off, cap, hv, hl, hc, hm, hcell⟩
  · cases ad with
    | none =>
      have := hnone rfl
      subst this
      rw [hv]
      exact ⟨v, w, run_append_owned_none (P := Try.prog) w base 23 ty 38 i0 1 Try.underlying23 hi v l.length (l.map u32v) hown.2, by simpa using hown, Below.refl _ _, hbase⟩
    | some ad => exact fin ad cap hv (by simp)
  · refine fin ⟨b, off, none⟩ cap hv (fun j u hj => ?_)
    obtain ⟨h1, rfl⟩ := map_getElem? hj
    rw [addr_add]; exact hcell j h1

/-- 'append' as one step of a region that draws its order. -/
theorem step_append {ops : Array Oper} {o : Oper} {a : Act} {w : World} {K : Act → World → Prop} {Q : Exit → Act → World → Prop} {E : Prop} (hg : o.guard = none)
    (s x : Operand) (ho : o.op = Op.call { callee := Callee.builtin Builtin.append, args := #[s, x], argTypes := #[23, 23] })
    (base : Nat) (v vx : Value) (l m : List Nat) (hs : a.eval s = v) (hx : a.eval x = vx) (hown : Own base w v l) (hrd : Rd w vx m) (hbase : base ≤ w.heap.size) (hn : l.length + m.length ≤ 1099511627776)
    (hK : ∀ v' w', Own base w' v' (l ++ m) → Below base w w' → base ≤ w'.heap.size → K (a.put o.dst v') w') :
    if Region.wanted o (yielded ops a.tmps) = true then Oper.wp Try.prog o a w K Q else E := by
  have hw : Region.wanted o (yielded ops a.tmps) = true := by simp [Region.wanted, hg]
  rw [if_pos hw]
  obtain ⟨v', w', hr, h1, h2, h3⟩ := run_append_rd w base o.type v vx l m hown hrd hbase hn
  exact Lib.wp_append_run w s x _ _ ho v vx hs hx v' w' hr (hK v' w' h1 h2 h3)

theorem own_made (w : World) (n : Nat) (hn : n ≤ maxLen) : Own w.heap.size (w.alloc (.cells (madeCells #[.int .u32 0] n) 38)) (.slice (some ⟨w.heap.size, 0, none⟩) n n) (List.replicate n 0) := by
  have h := own_lit w (List.replicate n 0) (small_replicate n) (by simpa using hn)
  have e : madeCells #[.int .u32 0] n = ((List.replicate n 0).map u32v).toArray := by
    apply Array.ext'
    rw [toList_madeCells_one, List.map_replicate]
    rfl
  rw [e]
  simpa using h

theorem run_make_u32 (n : Nat) (hn : n ≤ 1099511627776) (w : World) :
    (Instr.makeSlice 23 (.int .i64 (n : Int)) (.int .i64 (n : Int))).run Try.prog w = .ok (.slice (some ⟨w.heap.size, 0, none⟩) n n) (w.alloc (.cells (madeCells #[.int .u32 0] n) 38)) :=
  run_make_row' 23 38 (.int .u32 0) 4 Try.underlying23 info32 rfl .i64 .i64 n (by omega) (by omega) w

set_option maxRecDepth 100000 in
set_option maxHeartbeats 4000000 in
theorem ref3_mul (va vb : Value) (la lb : List Nat) (w : World) (ha : Rd w va la) (hb : Rd w vb lb) (hla : la.length ≤ 100000) (hlb : lb.length ≤ 100000) :
    Calls Try.prog 73 #[va, vb] w (Gives w (limbs (val la * val lb))) := by
  obtain ⟨ab, nb, capb, rfl, Hnb, _⟩ := hb.open
  have hnb : nb ≤ 100000 := by have := Hnb.out; omega
  have hsa := sz_val ha.1
  go_enter Try.func73, Try.ntmps73
  go_wp2_with fail
  go_loopw [5, 6, 7] (fun v i _ ww => ∃ (k : Nat), k ≤ nb ∧ i = .int .i64 k ∧ Own w.heap.size ww v (limbs (val la * val (lb.take k))) ∧ Below w.heap.size w ww) (fun _ i _ _ => nb - (intOf i).toNat)
  case atStart => exact ⟨0, by omega, rfl, Own.nil _ _, Below.refl _ _⟩
  case round =>
    obtain ⟨k, hk, rfl, hown, hbw⟩ := hrel
    by_cases hkn : k < nb
    · obtain ⟨b, o, rfl, hcell⟩ := (hb.to hbw).cells (by rw [Hnb.out]; omega)
      have hck := hcell k (by rw [Hnb.out]; omega)
      have hx := hb.1.nth k
      simp only [B_eq] at hx
      have hi1 : (k : Int) < (nb : Int) := by omega
      have hmk := run_make_u32 k (by omega)
      have hA := ha.to hbw
      have hsw := hbw.size
      have hszm := sz_mul (val la) (nth lb k)
      have hszw := sz_word hx
      have hszm2 : sz (val la * (nth lb k : Int).toNat + (0 : Int).toNat) ≤ 100001 := by rw [Int.toNat_natCast, Int.toNat_zero, Nat.add_zero]; omega
      have hsz4 : sz (val la * val (lb.take k)) ≤ 200000 := by have h1 := sz_mul (val la) (val (lb.take k)); have h2 := sz_val (hb.1.take k); rw [List.length_take] at h2; omega
      have Hval := Lib.hid (show val (limbs (val la * val (lb.take k))) + val (List.replicate k 0 ++ limbs (val la * (nth lb k : Int).toNat + (0 : Int).toNat)) = val la * val (lb.take (k + 1)) by
        rw [val_limbs, val_append, val_replicate, val_limbs, List.length_replicate, Int.toNat_natCast, Int.toNat_zero, Nat.add_zero, Nat.zero_add, val_take_succ', Nat.mul_add, ← Nat.mul_assoc, Nat.mul_comm (B ^ k), Nat.mul_assoc])
      have hck2 : (wr.alloc (.cells (madeCells #[.int .u32 0] k) 38)).cell? ⟨b, o + k, none⟩ = some (u32v (nth lb k)) := by
        rw [(below_new wr (.cells (madeCells #[.int .u32 0] k) 38)).cell (p := ⟨b, o + k, none⟩) (block_lt hck)]; exact hck
      clear hcell
      go_wp2_with fail
      go_region_law (first
        | (refine step_append rfl (.tmp 15) (.tmp 21) rfl wr.heap.size _ _ (List.replicate k 0) _ (by rfl) (by rfl) (by first | exact ((own_made wr k (by simp [maxLen]; omega)).drew).to hb2 | exact (own_made w2 k (by simp [maxLen]; omega)).mono (by have := hb2.size; simp at this; omega)) (by first | exact hv2.rd | exact hv2.rd.alloc _) (by have := hb2.size; simp at this ⊢; omega) (by simp only [List.length_replicate]; show _ + sz _ ≤ _; omega) ?_; intro v3 w3 hown3 hb3 hs3)
        | (go_simp; go_at_call 52; refine (ref3_one va la _ _ _ (by first | exact hA.drew | exact hA.drew.alloc _ | exact (hA.alloc _).drew) (by omega) (by omega) (by omega) (by omega) (by omega)).mono ?_; rintro e w2 ⟨v2, rfl, hv2, hb2⟩))
      all_goals
        have hbt : Below wr.heap.size wr w3 := by
          first
            | exact ((below_new wr _).drew.trans (hb2.mono (by simp))).trans hb3
            | exact (((Below.refl wr.heap.size wr).drew.trans hb2).alloc (by have := hb2.size; simp at this; omega) _).trans hb3
        clear hb3 hb2 hv2 hck hck2 hmk
        go_wp2_with fail
        refine (ref2_add _ _ _ _ w3 (hown.to hbt).rd hown3.rd (by show sz _ ≤ _; omega) (by simp only [List.length_append, List.length_replicate]; show _ + sz _ ≤ _; omega)).mono ?_
        rintro e w4 ⟨v4, rfl, hv4, hb4⟩
        rw [Hval.out] at hv4
        go_wp2_with fail
        go_roundw
        case rel => exact ⟨k + 1, by omega, by go_num, hv4.mono (by have := hbt.size; omega), hbw.trans ((hbt.trans (hb4.mono hs3)).mono hsw)⟩
        case measure => simp [intOf]; omega
    · have hkn2 : k = nb := by omega
      subst hkn2
      have Hv := Lib.hid (show val (lb.take k) = val lb from val_take_all (by rw [Hnb.out]; exact Nat.le_refl _))
      go_wp2_with fail
      go_ret
      exact ⟨_, rfl, by rw [← Hv.out]; exact hown, hbw⟩

end Go.Proofs.Yteokdkcanckfeaa
