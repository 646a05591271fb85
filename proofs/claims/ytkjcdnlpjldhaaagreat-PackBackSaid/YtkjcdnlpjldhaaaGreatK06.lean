/-
  The texts Len, merged.
-/
import Derived.Test.YtkjcdnlpjldhaaaGreatChecked
import Derived.Test.YtkjcdnlpjldhaaaGreatK01
import Derived.Lib.Strings
import Derived.Lib.Slices
import Derived.Lib.Small
import Derived.Lib.Walk
import Derived.Lib.BitFns
set_option linter.unusedVariables false
set_option linter.unusedSimpArgs false
set_option maxRecDepth 100000
set_option maxHeartbeats 400000000
namespace Go.Proofs.YtkjcdnlpjldhaaaGreat
open Tw

theorem zid:∀ (f x:Nat),x<2 ^ f->Lib.bitLenAux f x=zK x:=by
 intro f
 induction f with
 | zero =>
   intro x hx;have:x=0:=by simpa using hx
   subst this;rfl
 | succ f ih =>
  intro x hx
  simp only [Lib.bitLenAux]
  by_cases h0:x=0
  ·subst h0;rfl
  ·rw [if_neg h0,ih (x / 2) (by rw [Nat.pow_succ] at hx;omega)]
   unfold zK
   rw [if_neg h0]
   by_cases h1:x / 2=0
   ·rw [if_pos h1]
    have:x=1:=by omega
    subst this;rfl
   ·rw [if_neg h1,Nat.log2_def x,if_pos (by omega)];omega

theorem zmm {x:Nat} (h:x<4294967296):Lib.bitLen x=zK x:=zid 64 x (by omega)

theorem zml (x:Int) (w:World) (h0:0<=x) (h1:x<=4294967295) :
  Calls Tryz.prog 153 #[.int .u32 x] w fun e w' => e=.returned (.int .i64 (zK x.toNat:Nat))/\w=w':=by
 go_enter Tryz.func153,Tryz.ntmps153
 go_wp2
 all_goals (go_ret;refine ⟨congrArg Ending.returned (congrArg (Value.int IntKind.i64) ?_),rfl⟩)
 all_goals rw [<- zmm (by omega)]
 all_goals first
  | (
    rw [Lib.len8_of (x / 65536 / 256 % 256) (by omega) (by omega)]
    have e:(x / 65536 / 256 % 256).toNat=x.toNat / 16777216:=by omega
    have l:=Lib.bitLen_le8' (x / 65536 / 256 % 256) (by omega) (by omega)
    have s:=Lib.bitLen_shift24 x.toNat (by omega) (by omega)
    rw [e] at l ⊢
    omega)
  | (
    rw [Lib.len8_of (x / 65536 % 256) (by omega) (by omega)]
    have e:(x / 65536 % 256).toNat=x.toNat / 65536:=by omega
    have l:=Lib.bitLen_le8' (x / 65536 % 256) (by omega) (by omega)
    have s:=Lib.bitLen_shift16 x.toNat (by omega) (by omega)
    rw [e] at l ⊢
    omega)
  | (
    rw [Lib.len8_of (x / 256 % 256) (by omega) (by omega)]
    have e:(x / 256 % 256).toNat=x.toNat / 256:=by omega
    have l:=Lib.bitLen_le8' (x / 256 % 256) (by omega) (by omega)
    have s:=Lib.bitLen_shift8 x.toNat (by omega) (by omega)
    rw [e] at l ⊢
    omega)
  | (
    rw [Lib.len8_of (x % 256) (by omega) (by omega)]
    have e:(x % 256).toNat=x.toNat:=by omega
    have l:=Lib.bitLen_le8' (x % 256) (by omega) (by omega)
    rw [e] at l ⊢
    omega)

end Go.Proofs.YtkjcdnlpjldhaaaGreat

