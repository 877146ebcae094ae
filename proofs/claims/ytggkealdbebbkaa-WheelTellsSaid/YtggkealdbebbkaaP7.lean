-- Laid by this session's own program (wip/myprint.py): Lean functions for the Go functions that a law reaches, and their contracts. Not trusted: Lean checks it. (slimmed by wip/slim10.py)
import Derived.Test.YtggkealdbebbkaaP3
import Derived.Test.YtggkealdbebbkaaP0
namespace Go.Proofs.Ytggkealdbebbkaa.P
noncomputable section
open Go.RowKit Go.Proofs.YtggkealdbebbkaaW.PrintWords Go.Proofs.YtggkealdbebbkaaW.PrintLast Go.Proofs.YtggkealdbebbkaaW.PrintMore
attribute [local go_sem] max2_int min2_int max_two min_two max_three min_three max_four min_four   -- for this text's walks alone
set_option linter.unusedVariables false
set_option linter.unusedSimpArgs false

/-! ### wheel_Drop: function 16 (given) -/
theorem wheel_Drop.ex : ∃ g : Int → List (S33) → Int → Option (Int × List (S33) × Bool), ∀ qa ql a1, g qa ql a1 = if Dev.okL ql = true then some (qa, Dev.ofT (W10.dropR qa (Dev.toT ql) a1).1, (W10.dropR qa (Dev.toT ql) a1).2) else none := ⟨fun qa ql a1 => if Dev.okL ql = true then some (qa, Dev.ofT (W10.dropR qa (Dev.toT ql) a1).1, (W10.dropR qa (Dev.toT ql) a1).2) else none, fun _ _ _ => rfl⟩
def wheel_Drop.f (qa : Int) (ql : List (S33)) (a1 : Int) : Option (Int × List (S33) × Bool) := Classical.choose wheel_Drop.ex qa ql a1
theorem wheel_Drop.f_eq (qa : Int) (ql : List (S33)) (a1 : Int) : wheel_Drop.f qa ql a1 = if Dev.okL ql = true then some (qa, Dev.ofT (W10.dropR qa (Dev.toT ql) a1).1, (W10.dropR qa (Dev.toT ql) a1).2) else none := Classical.choose_spec wheel_Drop.ex qa ql a1
theorem wheel_Drop.calls (qa : Int) (qA : Option Addr) (qc : Nat) (ql : List (S33)) (a1 : Int) (r1 : Int) (r2 : List (S33)) (r3 : Bool) (w : World) (hr0_1 : Kd.C k33 w qA ql.length ql) (hc0_1 : ql.length ≤ qc) (h : wheel_Drop.f qa ql a1 = some (r1, r2, r3)) :
  Calls Try.prog 16 #[.agg #[.int .i64 qa, .slice qA ql.length qc], .int .i64 a1] w fun e w' => ∃ v1_ : Value, e = .returned (.tuple #[.agg #[.int .i64 r1, v1_], .bool r3]) ∧ Kd.R k33 33 w' w.heap.size (fun _ => True) v1_ r2 ∧ Below w.heap.size w w' := by
 rw [wheel_Drop.f_eq] at h
 split at h
 ·rename_i hk
  obtain ⟨e1, h2⟩ := Prod.mk.inj (Option.some.inj h)
  obtain ⟨e2, e3⟩ := Prod.mk.inj h2
  clear h h2
  subst e1 e2 e3
  have := W10.drop_ qa qA qc (Dev.toT ql) a1 w (Dev.reads_of hr0_1) (by rw [Dev.toT_len]; exact hc0_1) (Dev.okL_len hk) (Dev.okL_wf hk)
  rw [Dev.toT_len] at this
  refine this.mono ?_
  rintro e w' ⟨v, he, ho, hb⟩
  exact ⟨v, he, Dev.row_of ho (fun _ _ => trivial), hb⟩
 ·cases h

end
end Go.Proofs.Ytggkealdbebbkaa.P
