/-
  The walk of split.Div.
-/
import Derived.Test.YteokdkcanckfeaaSplit
import Derived.Test.YteokdkcanckfeaaRef3b
namespace Go.Proofs.Yteokdkcanckfeaa
open Go.RowKit Tw
set_option linter.unusedVariables false
set_option linter.unusedSimpArgs false

theorem val_two' : val [2] = 2 := by decide

theorem ddiv_step {base g n j D : Nat} {w : World} {Z la : List Nat} (hz : Own base w (.slice (some ⟨g, 0, none⟩) n n) Z) (hzl : Z.length = n) (hj : j < n) (hll : la.length = n) (hla : Small la)
    (hD : 0 < D) (hv : val (Z.drop (j + 1)) = val (la.drop (j + 1)) / D) :
    Hid (∃ Z', Own base (w.setCell ⟨g, j, none⟩ (.int .u32 (((nth la j + B * (val (la.drop (j + 1)) % D)) / D : Nat) : Int))) (.slice (some ⟨g, 0, none⟩) n n) Z' ∧ Z'.length = n ∧ val (Z'.drop j) = val (la.drop j) / D) := by
  have hq : (nth la j + B * (val (la.drop (j + 1)) % D)) / D < B := digit_lt (hla.nth j) (Nat.mod_lt _ hD)
  exact ⟨Z.set j ((nth la j + B * (val (la.drop (j + 1)) % D)) / D), own_store hz _ _ hq, by simpa using hzl, word_div hD (by omega) (by omega) hv⟩

theorem pow_two_le {s : Nat} (h : s ≤ 31) : 2 ^ s ≤ 2147483648 := Nat.pow_le_pow_right (n := 2) (by omega) h

theorem own1_any (w : World) {x base : Nat} (hx : x < 4294967296) (hb : base ≤ w.heap.size) : Own base (w.alloc (.cells #[.int .u32 (x : Int)] 38)) (.slice (some ⟨w.heap.size, 0, none⟩) 1 1) [x] :=
  (own_lit w [x] (small1 hx) (by simp [maxLen])).mono hb

theorem Own.setOther {base : Nat} {w : World} {v : Value} {l : List Nat} (h : Own base w v l) {p : Addr} (hp : p.block < base) (x : Value) : Own base (w.setCell p x) v l := by
  refine ⟨h.1, h.2.1, ?_⟩
  rcases h.2.2 with h2 | ⟨g, cap, cur, hv, hg, hh, r⟩
  · exact .inl h2
  · exact .inr ⟨g, cap, cur, hv, hg, by rw [Below.heap_setCell w p x g (by omega)]; exact hh, r⟩

end Go.Proofs.Yteokdkcanckfeaa
