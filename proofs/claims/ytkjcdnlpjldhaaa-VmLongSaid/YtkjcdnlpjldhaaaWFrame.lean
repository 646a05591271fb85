/-
  What the frames of the laws use beside the walks.
-/
import Derived.Test.YtkjcdnlpjldhaaaG01
import Derived.Test.YtkjcdnlpjldhaaaG02
import Derived.Test.YtkjcdnlpjldhaaaG03
import Derived.Test.YtkjcdnlpjldhaaaG04
import Derived.Test.YtkjcdnlpjldhaaaG05
import Derived.Test.YtkjcdnlpjldhaaaG06
import Derived.Test.YtkjcdnlpjldhaaaG07
import Derived.Test.YtkjcdnlpjldhaaaG08
import Derived.Test.YtkjcdnlpjldhaaaG09
import Derived.Test.YtkjcdnlpjldhaaaG10
import Derived.Test.YtkjcdnlpjldhaaaG11
import Derived.Test.YtkjcdnlpjldhaaaG12
import Derived.Test.YtkjcdnlpjldhaaaG13
import Derived.Test.YtkjcdnlpjldhaaaG14
import Derived.Test.YtkjcdnlpjldhaaaG15
import Derived.Test.YtkjcdnlpjldhaaaG16
import Derived.Test.YtkjcdnlpjldhaaaG17
import Derived.Test.YtkjcdnlpjldhaaaG18
import Derived.Test.YtkjcdnlpjldhaaaG19
import Derived.Test.YtkjcdnlpjldhaaaG20
import Derived.Test.YtkjcdnlpjldhaaaG21
import Derived.Test.YtkjcdnlpjldhaaaG22
import Derived.Test.YtkjcdnlpjldhaaaG23
import Derived.Test.YtkjcdnlpjldhaaaG24
set_option linter.unusedVariables false
set_option linter.unusedSimpArgs false
set_option maxRecDepth 100000
set_option maxHeartbeats 400000000
namespace Go.Proofs.Ytkjcdnlpjldhaaa
open Go.RowKit Tw
set_option linter.unusedVariables false
theorem rd_of_row {w : World} {a : Option Addr} {len cap : Nat} {zs : List Int}
    (h : (a = none ∧ len = 0 ∧ cap = 0 ∧ zs = []) ∨ ∃ x, a = some x ∧ len ≤ cap ∧ cap ≤ maxLen ∧ zs.length = cap ∧ (∀ i, i < zs.length → w.cell? (x.add i) = some (.int .u32 (zs.getD i 0))) ∧ ∀ n ∈ zs, (Lit.int .u32 n).wf = true) :
    ∃ l, Rd w (.slice a len cap) l := by
  rcases h with ⟨rfl, rfl, rfl, _⟩ | ⟨x, rfl, hl, hm, hz, hcell, hwf⟩
  · exact ⟨[], Rd.nil w⟩
  · have hlen : ((zs.take len).map Int.toNat).length = len := by rw [List.length_map, List.length_take]; omega
    have hb : ∀ n, n ∈ zs → 0 ≤ n ∧ n < 4294967296 := fun n hn => by
      have := hwf n hn
      simp [Lit.wf, IntKind.min, IntKind.max, IntKind.signed, IntKind.bits] at this
      omega
    refine ⟨(zs.take len).map Int.toNat, fun y hy => ?_, ?_⟩
    · obtain ⟨z, hz1, rfl⟩ := List.mem_map.1 hy
      have := hb z (List.mem_of_mem_take hz1)
      simp only [zam]; omega
    · by_cases h0 : len = 0
      · subst h0
        exact .inl ⟨by simp, some x, cap, rfl, hm, fun h => by cases h⟩
      · obtain ⟨b, off, spot⟩ := x
        have hc := hcell 0 (by omega)
        have hspot : spot = none := by simpa [Addr.add] using World.cell?_spot hc
        subst hspot
        refine .inr ⟨b, off, cap, by rw [hlen], by omega, by omega, hm, fun i hi => ?_⟩
        rw [hlen] at hi
        have h1 := hcell i (by omega)
        rw [zcj] at h1
        rw [h1]
        have hi2 : i < zs.length := by omega
        have e : zs.getD i 0 = zs[i] := by rw [List.getD_eq_getElem?_getD, List.getElem?_eq_getElem hi2]; rfl
        have hn : nth ((zs.take len).map Int.toNat) i = zs[i].toNat := by
          rw [zaH (by rw [hlen]; exact hi)]
          simp
        have hp := hb zs[i] (List.getElem_mem hi2)
        rw [e, hn, show zau zs[i].toNat = .int .u32 zs[i] from zr (Int.toNat_of_nonneg hp.1)]
end Go.Proofs.Ytkjcdnlpjldhaaa
