/- The law DetWhole: a port of an address is a subscriber's, or of a block, or neither. -/
import Derived.Test.YtfkdflhijfkjoaaP23
import Derived.Test.YtfkdflhijfkjoaaC
namespace Go.Proofs.Ytfkdflhijfkjoaa.Pure
set_option linter.unusedVariables false
open Go.RowKit Go.Proofs.Ytfkdflhijfkjoaa.P Go.Proofs.Ytfkdflhijfkjoaa.A Go.Proofs.YtfkdflhijfkjoaaW.PrintWords Go.Proofs.YtfkdflhijfkjoaaW.PrintLast Go.Proofs.YtfkdflhijfkjoaaW.PrintMore
theorem DetWhole (x0 x1 x2 x3 x4 x5 x6 x7 a1 a2 : Int) (h0 : (Lit.int .i64 x0).wf = true) (h1 : (Lit.int .i64 x1).wf = true) (h2 : (Lit.int .i64 x2).wf = true) (h3 : (Lit.int .i64 x3).wf = true) (u4 : (Lit.int .i64 x4).wf = true) (u5 : (Lit.int .i64 x5).wf = true) (u6 : (Lit.int .i64 x6).wf = true) (u7 : (Lit.int .i64 x7).wf = true) (w1 : (Lit.int .i64 a1).wf = true) (w2 : (Lit.int .i64 a2).wf = true) :
    ∃ k, mooringslaw08_DetWhole.f k x0 x1 x2 x3 x4 x5 x6 x7 a1 a2 = some true := by
  obtain ⟨s0, s1, R, E, B, F, H⟩ := facts (x0 := x0) (x1 := x1) (x2 := x2) (x3 := x3) u4 u5 u6 u7
  obtain ⟨y, hy, cy⟩ := who_ok H 0 a1 a2
  obtain ⟨z, hz, cz⟩ := which_ok H 0 a1 a2
  have ky : y = -1 ∨ (0 ≤ y ∧ x4 ≤ a2 ∧ a2 ≤ x5 - x6 ∧ 0 ≤ x6 ∧ wrap64 (x5 - x6) = x5 - x6) := by
    rcases cy with ⟨c, rfl⟩ | ⟨_, rfl⟩
    · have N := nums H c.1
      have l := who_lin N c
      have e4 := N.lo; have e5 := N.dyn
      exact .inr ⟨by omega, by omega, by omega, by omega, w64 (by omega) (by omega)⟩
    · exact .inl rfl
  have kz : z = -1 ∨ (0 ≤ z ∧ x5 - x6 < a2 ∧ a2 ≤ x5 ∧ x4 ≤ a2 ∧ wrap64 (x5 - x6) = x5 - x6) := by
    rcases cz with ⟨c, rfl⟩ | ⟨_, rfl⟩
    · have N := nums H c.1
      have l := which_lin N c
      have e4 := N.lo; have e5 := N.dyn
      exact .inr ⟨by omega, by omega, by omega, by omega, w64 (by omega) (by omega)⟩
    · exact .inl rfl
  refine ⟨2, ?_⟩
  unfold mooringslaw08_DetWhole.f mooringslaw08_awake.f
  rw [Option.bind_some, hy, Option.bind_some, hz, Option.bind_some, if_pos rfl]
  have J : mooringslaw08_DetWhole.j0 2 a2 y z false x0 x1 x2 x3 x4 x5 x6 x7 = some true := by
    rw [mooringslaw08_DetWhole.j0, if_neg (by decide)]
    generalize wrap64 (x5 - x6) = W at *
    clear hy hz cy cz H
    repeat' split
    all_goals first | rfl | (exfalso; omega) | (rw [decide_eq_true (by omega)])
  by_cases c : y ≥ 0
  · rw [if_pos c, decide_eq_false (show ¬ z ≥ 0 by omega), J]
  · rw [if_neg c, J]
end Go.Proofs.Ytfkdflhijfkjoaa.Pure
