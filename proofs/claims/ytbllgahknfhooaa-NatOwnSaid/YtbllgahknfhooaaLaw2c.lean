/-
  The walk of 'NatOwn': what the functions of nat answer is the caller's own.
-/
import Derived.Test.YtbllgahknfhooaaLaw2b
namespace Go.Proofs.Ytbllgahknfhooaa
open Go.RowKit Tw
set_option linter.unusedVariables false
set_option linter.unusedSimpArgs false

theorem own_addr {base : Nat} {w : World} {a : Option Addr} {n cap : Nat} {l : List Nat} (h : Own base w (.slice a n cap) l) (h0 : 0 < l.length) : ∃ g, a = some ⟨g, 0, none⟩ ∧ base ≤ g := by
  rcases h.2.2 with ⟨h2, h3⟩ | ⟨g, cap', cur, hv, hg, _⟩
  · omega
  · injection hv with h1 _ _; exact ⟨g, h1, hg⟩

theorem own_store_int {base : Nat} {w : World} {g n cap : Nat} {l : List Nat} (h : Own base w (.slice (some ⟨g, 0, none⟩) n cap) l) (i : Nat) (y : Int) (h0 : 0 ≤ y) (h1 : y < 4294967296) :
    Own base (w.setCell ⟨g, i, none⟩ (.int .u32 y)) (.slice (some ⟨g, 0, none⟩) n cap) (l.set i y.toNat) := by
  have h2 := own_store h i y.toNat (by simp only [B_eq]; omega)
  have h3 : u32v y.toNat = .int .u32 y := by show Value.int .u32 _ = _; rw [Int.toNat_of_nonneg h0]
  rwa [h3] at h2

theorem Own.aside {base : Nat} {w : World} {v : Value} {l : List Nat} (h : Own base w v l) (g off : Nat) (u : Value) (hg : g < base) : Own base (w.setCell ⟨g, off, none⟩ u) v l :=
  ⟨h.1, ownsRow_setCell_below h.2 hg _⟩

set_option maxRecDepth 100000 in
set_option maxHeartbeats 4000000 in
theorem walk_NatOwn (va : Value) (la : List Nat) (vb : Value) (lb : List Nat) (more : Int) (w : World) (ha : Rd w va la) (hb : Rd w vb lb) (m0 : 0 ≤ more) (m1 : more < 256) :
    Calls Try.prog 13 #[va, vb, .int .u8 more] w (Holds w) := by
  have hlma := ha.len_le
  have hlmb := hb.len_le
  unfold maxLen at hlma hlmb
  have hmm1 : more % 9 < 9 := Int.emod_lt_of_pos _ (by omega)
  have hmm0 : 0 ≤ more % 9 := Int.emod_nonneg _ (by omega)
  obtain ⟨m, Hm⟩ : ∃ m : Nat, more % 9 = m := ⟨(more % 9).toNat, by omega⟩
  rw [Hm] at hmm0 hmm1
  by_cases hfew : (la.length : Int) ≤ 40 ∧ (lb.length : Int) ≤ 40
  · obtain ⟨hla, hlb⟩ := hfew
    have hsa := sz_val ha.1
    have hsb := sz_val hb.1
    go_enter Try.func13, Try.ntmps13
    go_wp2_with fail
    refine (awake2 _).mono ?_
    rintro e w1 ⟨rfl, hb1⟩
    have hB := hb1
    replace ha := ha.to hb1
    replace hb := hb.to hb1
    clear hb1
    go_wp2_with fail
    refine (few_yes _ _ la lb 40 _ ha hb hla hlb).mono ?_
    rintro e w' ⟨rfl, rfl⟩
    replace Hm := Lib.hid Hm
    go_wp2_with (first
      | (at_builtin; refine wp_append _ rfl (.tmp 29) (.tmp 30) rfl w1.heap.size _ _ [] la rfl rfl (own_lit w1 [] small_nil (by simp)) (ha.alloc _) (by simp) (by simp; omega) ?_; intro v2 w2 hown2 hb2 hs2; have hB2 : Below w1.heap.size w1 w2 := (below_new _ _).trans hb2; have ha2 := ha.to hB2)
      | (at_builtin; refine wp_append _ rfl (.tmp 32) (.tmp 33) rfl w2.heap.size _ _ [] la rfl rfl (own_lit w2 [] small_nil (by simp)) (ha2.alloc _) (by simp) (by simp; omega) ?_; intro v3 w3 hown3 hb3 hs3)
      | (at_builtin; refine wp_append_zeros _ rfl (.tmp 34) (.tmp 37) rfl w2.heap.size _ _ _ m rfl rfl (by first | rfl | exact Hm.out) hown3 hs3 (by simp; omega) ?_; intro v4 w4 hown4 hb4 hs4))
    have hB4 : Below w2.heap.size w2 w4 := ((below_new _ _).trans hb3).trans hb4
    replace hB := below_step (below_step hB hB2) hB4
    replace ha := ha2.to hB4
    replace hb := (hb.to hB2).to hB4
    have hw : Rd w4 v2 la := by have h1 := hown2.rd.to hB4; rwa [List.nil_append] at h1
    have hl : Rd w4 v4 (la ++ List.replicate m 0) := by have h1 := hown4.rd; rwa [List.nil_append] at h1
    have Hlong := Lib.hid (val_zeros la m)
    have Hll := Lib.hid (show (la ++ List.replicate m 0).length = la.length + m by simp)
    clear hown2 hown3 hown4 hb2 hb3 hb4 hB2 hB4 ha2 hs2 hs3 hs4
    -- BEGIN
    rcases Nat.lt_or_ge (val la) (val lb) with hle | hle
    · go_wp2_with fail
      refine (nat_add _ _ la lb _ ha hb (by omega) (by omega)).mono ?_
      rintro e w5 ⟨vs, rfl, hs, hb5⟩
      replace hB := below_step hB hb5
      replace ha := ha.to hb5
      replace hb := hb.to hb5
      replace hw := hw.to hb5
      replace hl := hl.to hb5
      replace hs := hs.rd
      clear hb5
      go_wp2_with fail
      refine (nat_add _ _ _ lb _ hl hb (by rw [Hll.out]; omega) (by omega)).mono ?_
      rintro e w6 ⟨vt, rfl, ht, hb6⟩
      replace hB := below_step hB hb6
      replace ha := ha.to hb6
      replace hb := hb.to hb6
      replace hw := hw.to hb6
      replace hl := hl.to hb6
      replace hs := hs.to hb6
      replace ht := ht.rd
      clear hb6
      rw [Hlong.out] at ht
      go_wp2_with fail
      refine (nat_sub_no _ _ _ lb _ hl hb (by rw [Hlong.out]; exact hle)).mono ?_
      rintro e w7 ⟨rfl, hb7⟩
      replace hB := below_step hB hb7
      replace ha := ha.to hb7
      replace hb := hb.to hb7
      replace hw := hw.to hb7
      replace hl := hl.to hb7
      replace hs := hs.to hb7
      replace ht := ht.to hb7
      clear hb7
      go_wp2_with fail
      refine (nat_sub_no _ _ la lb _ ha hb hle).mono ?_
      rintro e w8 ⟨rfl, hb8⟩
      replace hB := below_step hB hb8
      replace ha := ha.to hb8
      replace hb := hb.to hb8
      replace hw := hw.to hb8
      replace hl := hl.to hb8
      replace hs := hs.to hb8
      replace ht := ht.to hb8
      clear hb8
      go_wp2_with fail
      refine (words_same _ _ _ _ hs ht).mono ?_
      rintro e w9 ⟨rfl, hb9⟩
      replace hB := below_step hB hb9
      replace ha := ha.to hb9
      replace hb := hb.to hb9
      replace hw := hw.to hb9
      replace hl := hl.to hb9
      replace hs := hs.to hb9
      replace ht := ht.to hb9
      clear hb9
      go_wp2_with fail
      refine (words_same _ _ [] _ (Rd.nil _) (Rd.nil _)).mono ?_
      rintro e w10 ⟨rfl, hb10⟩
      replace hB := below_step hB hb10
      replace ha := ha.to hb10
      replace hb := hb.to hb10
      replace hw := hw.to hb10
      replace hl := hl.to hb10
      replace hs := hs.to hb10
      replace ht := ht.to hb10
      clear hb10
      go_wp2_with fail
      refine (nat_bits _ _ _ hl (by rw [Hll.out]; omega)).mono ?_
      rintro e w' ⟨rfl, rfl⟩
      rw [Hlong.out]
      go_wp2_with fail
      refine (nat_bits _ la _ ha (by omega)).mono ?_
      rintro e w' ⟨rfl, rfl⟩
      clear hs ht
      go_wp2_with fail
      refine (nat_trim _ la _ ha (by omega)).mono ?_
      rintro e x1 ⟨vx, rfl, hx, hb1⟩
      have ha0 := ha
      have hw0 := hw
      have hxlt := hx.lt
      replace ha := ha.to hb1
      replace hw := hw.to hb1
      go_wp2_with fail
      refine (nat_add _ _ la [] _ ha (Rd.nil _) (by omega) (by simp)).mono ?_
      rintro e x2 ⟨vy, rfl, hy, hb2⟩
      replace ha := ha.to hb2
      replace hw := hw.to hb2
      replace hx := hx.to hb2
      have hbx : Below w10.heap.size w10 x2 := below_step hb1 hb2
      obtain ⟨ax, nx, cx, rfl, Hnx, _⟩ := hx.rd.open
      obtain ⟨ay, ny, cy, rfl, Hny, _⟩ := hy.rd.open
      have hnx : nx ≤ 40 := by have h1 := Hnx.out; rw [sz_def] at h1; omega
      have hny : ny ≤ 40 := by have h1 := Hny.out; rw [val_nil, Nat.add_zero, sz_def] at h1; omega
      go_wp2_with fail
      go_loopw [20] (fun i ww => ∃ k : Nat, k ≤ nx ∧ i = .int .i64 k ∧ Hid (∃ z : List Nat, Own w10.heap.size ww (.slice ax nx cx) z ∧ z.length = nx) ∧ Below w10.heap.size w10 ww ∧ w10.heap.size ≤ ww.heap.size ∧ Own x1.heap.size ww (.slice ay ny cy) (limbs (val la + val []))) (fun i _ => nx - (intOf i).toNat)
      case atStart => exact ⟨0, Nat.zero_le _, rfl, ⟨_, hx, Hnx.out⟩, hbx, hbx.size, hy⟩
      case round =>
        obtain ⟨k, hk, rfl, HZ, hbw, hsw, hyw⟩ := hrel
        obtain ⟨z, hz, hzl⟩ := HZ.out
        have Hzl := Lib.hid hzl
        clear HZ hzl
        by_cases hkn : k < nx
        · obtain ⟨g, rfl, hg⟩ := own_addr hz (by rw [Hzl.out]; omega)
          obtain ⟨q1, q2⟩ := own_cell2 hz (show k < z.length by rw [Hzl.out]; omega)
          go_wp2_with fail
          go_roundw
          case measure => simp [intOf]; omega
          case rel => exact ⟨k + 1, by omega, by go_num, Lib.hid ⟨_, own_store_int hz k _ (Int.emod_nonneg _ (by omega)) (Int.emod_lt_of_pos _ (by omega)), by rw [List.length_set]; exact Hzl.out⟩, hbw.setCell (hg) _, by simpa using hsw, hyw.aside _ _ _ (hxlt _ rfl).2⟩
        · go_wp2_with fail
          obtain ⟨zy, hyw, hzy⟩ : ∃ z : List Nat, Own x1.heap.size wr (.slice ay ny cy) z ∧ z.length = ny := ⟨_, hyw, Hny.out⟩
          clear Hny Hzl hz
          go_loopw [21] (fun i ww => ∃ k : Nat, k ≤ ny ∧ i = .int .i64 k ∧ Hid (∃ z : List Nat, Own x1.heap.size ww (.slice ay ny cy) z ∧ z.length = ny) ∧ Below w10.heap.size w10 ww ∧ w10.heap.size ≤ ww.heap.size) (fun i _ => ny - (intOf i).toNat)
          case atStart => exact ⟨0, Nat.zero_le _, rfl, ⟨_, hyw, hzy⟩, hbw, hsw⟩
          case round =>
            obtain ⟨k, hk, rfl, HZ, hbw2, hsw⟩ := hrel
            obtain ⟨z, hz, hzl⟩ := HZ.out
            have Hzl := Lib.hid hzl
            clear HZ hzl
            by_cases hkn : k < ny
            · obtain ⟨g, rfl, hg⟩ := own_addr hz (by rw [Hzl.out]; omega)
              obtain ⟨q1, q2⟩ := own_cell2 hz (show k < z.length by rw [Hzl.out]; omega)
              go_wp2_with fail
              go_roundw
              case measure => simp [intOf]; omega
              case rel => exact ⟨k + 1, by omega, by go_num, Lib.hid ⟨_, own_store_int hz k _ (Int.emod_nonneg _ (by omega)) (Int.emod_lt_of_pos _ (by omega)), by rw [List.length_set]; exact Hzl.out⟩, hbw2.setCell (Nat.le_trans hb1.size hg) _, by simpa using hsw⟩
            · go_wp2_with fail
              refine (words_same _ _ la _ (ha0.to hbw2) (hw0.to hbw2)).mono ?_
              rintro e w99 ⟨rfl, hb99⟩
              replace hB := below_step (below_step hB hbw2) hb99
              go_wp2_with fail
              go_ret
              exact ⟨by first | rfl | exact ret_bool (by first | (simp; done) | (simp; omega)), hB⟩
    · go_wp2_with fail
      refine (nat_add _ _ la lb _ ha hb (by omega) (by omega)).mono ?_
      rintro e w5 ⟨vs, rfl, hs, hb5⟩
      replace hB := below_step hB hb5
      replace ha := ha.to hb5
      replace hb := hb.to hb5
      replace hw := hw.to hb5
      replace hl := hl.to hb5
      replace hs := hs.rd
      clear hb5
      go_wp2_with fail
      refine (nat_add _ _ _ lb _ hl hb (by rw [Hll.out]; omega) (by omega)).mono ?_
      rintro e w6 ⟨vt, rfl, ht, hb6⟩
      replace hB := below_step hB hb6
      replace ha := ha.to hb6
      replace hb := hb.to hb6
      replace hw := hw.to hb6
      replace hl := hl.to hb6
      replace hs := hs.to hb6
      replace ht := ht.rd
      clear hb6
      rw [Hlong.out] at ht
      go_wp2_with fail
      refine (nat_sub _ _ _ lb _ hl hb (by rw [Hll.out]; omega) (by rw [Hlong.out]; exact hle)).mono ?_
      rintro e w7 ⟨vd, rfl, hd, hb7⟩
      replace hB := below_step hB hb7
      replace ha := ha.to hb7
      replace hb := hb.to hb7
      replace hw := hw.to hb7
      replace hl := hl.to hb7
      replace hs := hs.to hb7
      replace ht := ht.to hb7
      replace hd := hd.rd
      clear hb7
      rw [Hlong.out] at hd
      go_wp2_with fail
      refine (nat_sub _ _ la lb _ ha hb (by omega) hle).mono ?_
      rintro e w8 ⟨ve, rfl, he, hb8⟩
      replace hB := below_step hB hb8
      replace ha := ha.to hb8
      replace hb := hb.to hb8
      replace hw := hw.to hb8
      replace hl := hl.to hb8
      replace hs := hs.to hb8
      replace ht := ht.to hb8
      replace hd := hd.to hb8
      replace he := he.rd
      clear hb8
      go_wp2_with fail
      refine (words_same _ _ _ _ hs ht).mono ?_
      rintro e w9 ⟨rfl, hb9⟩
      replace hB := below_step hB hb9
      replace ha := ha.to hb9
      replace hb := hb.to hb9
      replace hw := hw.to hb9
      replace hl := hl.to hb9
      replace hs := hs.to hb9
      replace ht := ht.to hb9
      replace hd := hd.to hb9
      replace he := he.to hb9
      clear hb9
      go_wp2_with fail
      refine (words_same _ _ _ _ hd he).mono ?_
      rintro e w10 ⟨rfl, hb10⟩
      replace hB := below_step hB hb10
      replace ha := ha.to hb10
      replace hb := hb.to hb10
      replace hw := hw.to hb10
      replace hl := hl.to hb10
      replace hs := hs.to hb10
      replace ht := ht.to hb10
      replace hd := hd.to hb10
      replace he := he.to hb10
      clear hb10
      go_wp2_with fail
      refine (nat_bits _ _ _ hl (by rw [Hll.out]; omega)).mono ?_
      rintro e w' ⟨rfl, rfl⟩
      rw [Hlong.out]
      go_wp2_with fail
      refine (nat_bits _ la _ ha (by omega)).mono ?_
      rintro e w' ⟨rfl, rfl⟩
      clear hs ht hd he
      go_wp2_with fail
      refine (nat_trim _ la _ ha (by omega)).mono ?_
      rintro e x1 ⟨vx, rfl, hx, hb1⟩
      have ha0 := ha
      have hw0 := hw
      have hxlt := hx.lt
      replace ha := ha.to hb1
      replace hw := hw.to hb1
      go_wp2_with fail
      refine (nat_add _ _ la [] _ ha (Rd.nil _) (by omega) (by simp)).mono ?_
      rintro e x2 ⟨vy, rfl, hy, hb2⟩
      replace ha := ha.to hb2
      replace hw := hw.to hb2
      replace hx := hx.to hb2
      have hbx : Below w10.heap.size w10 x2 := below_step hb1 hb2
      obtain ⟨ax, nx, cx, rfl, Hnx, _⟩ := hx.rd.open
      obtain ⟨ay, ny, cy, rfl, Hny, _⟩ := hy.rd.open
      have hnx : nx ≤ 40 := by have h1 := Hnx.out; rw [sz_def] at h1; omega
      have hny : ny ≤ 40 := by have h1 := Hny.out; rw [val_nil, Nat.add_zero, sz_def] at h1; omega
      go_wp2_with fail
      go_loopw [20] (fun i ww => ∃ k : Nat, k ≤ nx ∧ i = .int .i64 k ∧ Hid (∃ z : List Nat, Own w10.heap.size ww (.slice ax nx cx) z ∧ z.length = nx) ∧ Below w10.heap.size w10 ww ∧ w10.heap.size ≤ ww.heap.size ∧ Own x1.heap.size ww (.slice ay ny cy) (limbs (val la + val []))) (fun i _ => nx - (intOf i).toNat)
      case atStart => exact ⟨0, Nat.zero_le _, rfl, ⟨_, hx, Hnx.out⟩, hbx, hbx.size, hy⟩
      case round =>
        obtain ⟨k, hk, rfl, HZ, hbw, hsw, hyw⟩ := hrel
        obtain ⟨z, hz, hzl⟩ := HZ.out
        have Hzl := Lib.hid hzl
        clear HZ hzl
        by_cases hkn : k < nx
        · obtain ⟨g, rfl, hg⟩ := own_addr hz (by rw [Hzl.out]; omega)
          obtain ⟨q1, q2⟩ := own_cell2 hz (show k < z.length by rw [Hzl.out]; omega)
          go_wp2_with fail
          go_roundw
          case measure => simp [intOf]; omega
          case rel => exact ⟨k + 1, by omega, by go_num, Lib.hid ⟨_, own_store_int hz k _ (Int.emod_nonneg _ (by omega)) (Int.emod_lt_of_pos _ (by omega)), by rw [List.length_set]; exact Hzl.out⟩, hbw.setCell (hg) _, by simpa using hsw, hyw.aside _ _ _ (hxlt _ rfl).2⟩
        · go_wp2_with fail
          obtain ⟨zy, hyw, hzy⟩ : ∃ z : List Nat, Own x1.heap.size wr (.slice ay ny cy) z ∧ z.length = ny := ⟨_, hyw, Hny.out⟩
          clear Hny Hzl hz
          go_loopw [21] (fun i ww => ∃ k : Nat, k ≤ ny ∧ i = .int .i64 k ∧ Hid (∃ z : List Nat, Own x1.heap.size ww (.slice ay ny cy) z ∧ z.length = ny) ∧ Below w10.heap.size w10 ww ∧ w10.heap.size ≤ ww.heap.size) (fun i _ => ny - (intOf i).toNat)
          case atStart => exact ⟨0, Nat.zero_le _, rfl, ⟨_, hyw, hzy⟩, hbw, hsw⟩
          case round =>
            obtain ⟨k, hk, rfl, HZ, hbw2, hsw⟩ := hrel
            obtain ⟨z, hz, hzl⟩ := HZ.out
            have Hzl := Lib.hid hzl
            clear HZ hzl
            by_cases hkn : k < ny
            · obtain ⟨g, rfl, hg⟩ := own_addr hz (by rw [Hzl.out]; omega)
              obtain ⟨q1, q2⟩ := own_cell2 hz (show k < z.length by rw [Hzl.out]; omega)
              go_wp2_with fail
              go_roundw
              case measure => simp [intOf]; omega
              case rel => exact ⟨k + 1, by omega, by go_num, Lib.hid ⟨_, own_store_int hz k _ (Int.emod_nonneg _ (by omega)) (Int.emod_lt_of_pos _ (by omega)), by rw [List.length_set]; exact Hzl.out⟩, hbw2.setCell (Nat.le_trans hb1.size hg) _, by simpa using hsw⟩
            · go_wp2_with fail
              refine (words_same _ _ la _ (ha0.to hbw2) (hw0.to hbw2)).mono ?_
              rintro e w99 ⟨rfl, hb99⟩
              replace hB := below_step (below_step hB hbw2) hb99
              go_wp2_with fail
              go_ret
              exact ⟨by first | rfl | exact ret_bool (by first | (simp; done) | (simp; omega)), hB⟩
    -- END
  · go_enter Try.func13, Try.ntmps13
    go_wp2_with fail
    refine (awake2 _).mono ?_
    rintro e w1 ⟨rfl, hb1⟩
    have hB := hb1
    replace ha := ha.to hb1
    replace hb := hb.to hb1
    clear hb1
    go_wp2_with fail
    refine (few_no _ _ la lb 40 _ ha hb hfew).mono ?_
    rintro e w' ⟨rfl, rfl⟩
    go_wp2_with fail
    go_ret
    exact ⟨rfl, hB⟩

end Go.Proofs.Ytbllgahknfhooaa
