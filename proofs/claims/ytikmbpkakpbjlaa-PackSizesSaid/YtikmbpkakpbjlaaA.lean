/-
  Plain facts on the Lean functions that stand for package pack's: no memory and no Go here.
-/
import Derived.Test.YtikmbpkakpbjlaaP2
import Derived.Test.YtikmbpkakpbjlaaP5
import Derived.Test.YtikmbpkakpbjlaaMath
import Derived.OpenShut
namespace Go.Proofs.Ytikmbpkakpbjlaa.A
open Go.RowKit Go.Proofs.Ytikmbpkakpbjlaa.P Go.Proofs.YtikmbpkakpbjlaaW.PrintWords Go.Proofs.YtikmbpkakpbjlaaW.PrintLast

theorem up {α : Type} {f : Nat → Option α} (h : ∀ k, LeO (f k) (f (k + 1))) {k n : Nat} {r : α} (hk : k ≤ n) (hr : f k = some r) : f n = some r := by
  obtain ⟨d, rfl⟩ := Nat.le.dest hk
  clear hk
  induction d with
  | zero => exact hr
  | succ d ih => exact h _ _ ih
theorem awake {k : Nat} (hk : 8 ≤ k) : mooringslaw03_awake.f k = some true := up mooringslaw03_awake.mono hk (by decide +kernel)
theorem wf64 {x : Int} (h : (Lit.int .i64 x).wf = true) : -9223372036854775808 ≤ x ∧ x ≤ 9223372036854775807 := Go.bounds_i64 h
theorem wf8 {x : Int} (h : (Lit.int .u8 x).wf = true) : 0 ≤ x ∧ x ≤ 255 := Go.bounds_u8 h
theorem w64 {x : Int} (h0 : -9223372036854775808 ≤ x) (h1 : x ≤ 9223372036854775807) : wrap64 x = x := by unfold wrap64; omega
end Go.Proofs.Ytikmbpkakpbjlaa.A
