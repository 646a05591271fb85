/-
  The texts Len, merged.
-/
import Derived.Test.YtkjcdnlpjldhaaaChecked
import Derived.Test.YtkjcdnlpjldhaaaG01
import Derived.Lib.Strings
import Derived.Lib.Slices
import Derived.Lib.Small
import Derived.Lib.Walk
import Derived.Lib.BitFns
set_option linter.unusedVariables false
set_option linter.unusedSimpArgs false
set_option maxRecDepth 100000
set_option maxHeartbeats 400000000
namespace Go.Proofs.Ytkjcdnlpjldhaaa
open Tw

theorem zfD:∀ (f x:Nat),x<2 ^ f->Lib.bitLenAux f x=zD x:=by
 intro f
 induction f with
 | zero =>
   intro x hx;have:x=0:=by simpa using hx
   subst this;rfl
 | succ f ih =>
  intro x hx
  simp only [Lib.bitLenAux]
  by_cases h0:x=0
  ·subst h0;rfl
  ·rw [if_neg h0,ih (x / 2) (by rw [Nat.pow_succ] at hx;omega)]
   unfold zD
   rw [if_neg h0]
   by_cases h1:x / 2=0
   ·rw [if_pos h1]
    have:x=1:=by omega
    subst this;rfl
   ·rw [if_neg h1,Nat.log2_def x,if_pos (by omega)];omega

theorem zjn {x:Nat} (h:x<4294967296):Lib.bitLen x=zD x:=zfD 64 x (by omega)

theorem zjm (x:Int) (w:World) (h0:0<=x) (h1:x<=4294967295) :
  Calls Try.prog 87 #[.int .u32 x] w fun e w' => e=.returned (.int .i64 (zD x.toNat:Nat))/\w=w':=by
 go_enter Try.func87,Try.ntmps87
 go_wp2
 all_goals (go_ret;refine ⟨congrArg Ending.returned (congrArg (Value.int IntKind.i64) ?_),rfl⟩)
 all_goals rw [<- zjn (by omega)]
 all_goals first
  | (
    rw [Lib.len8_of (x / 65536 / 256 % 256) (by omega) (by omega)]
    have e:(x / 65536 / 256 % 256).toNat=x.toNat / 16777216:=by omega
    have l:=Lib.bitLen_le8' (x / 65536 / 256 % 256) (by omega) (by omega)
    have s:=Lib.bitLen_shift24 x.toNat (by omega) (by omega)
    rw [e] at l ⊢
    omega)
  | (
    rw [Lib.len8_of (x / 65536 % 256) (by omega) (by omega)]
    have e:(x / 65536 % 256).toNat=x.toNat / 65536:=by omega
    have l:=Lib.bitLen_le8' (x / 65536 % 256) (by omega) (by omega)
    have s:=Lib.bitLen_shift16 x.toNat (by omega) (by omega)
    rw [e] at l ⊢
    omega)
  | (
    rw [Lib.len8_of (x / 256 % 256) (by omega) (by omega)]
    have e:(x / 256 % 256).toNat=x.toNat / 256:=by omega
    have l:=Lib.bitLen_le8' (x / 256 % 256) (by omega) (by omega)
    have s:=Lib.bitLen_shift8 x.toNat (by omega) (by omega)
    rw [e] at l ⊢
    omega)
  | (
    rw [Lib.len8_of (x % 256) (by omega) (by omega)]
    have e:(x % 256).toNat=x.toNat:=by omega
    have l:=Lib.bitLen_le8' (x % 256) (by omega) (by omega)
    rw [e] at l ⊢
    omega)

end Go.Proofs.Ytkjcdnlpjldhaaa

