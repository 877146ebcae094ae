/- The law DetOrder: subscribers one behind the other have ports one behind the other. -/
import Derived.Test.YtfkdflhijfkjoaaP22
import Derived.Test.YtfkdflhijfkjoaaC
namespace Go.Proofs.Ytfkdflhijfkjoaa.Pure
set_option linter.unusedVariables false
open Go.RowKit Go.Proofs.Ytfkdflhijfkjoaa.P Go.Proofs.Ytfkdflhijfkjoaa.A Go.Proofs.YtfkdflhijfkjoaaW.PrintWords Go.Proofs.YtfkdflhijfkjoaaW.PrintLast Go.Proofs.YtfkdflhijfkjoaaW.PrintMore
theorem DetOrder (x0 x1 x2 x3 x4 x5 x6 x7 a1 : Int) (h0 : (Lit.int .i64 x0).wf = true) (h1 : (Lit.int .i64 x1).wf = true) (h2 : (Lit.int .i64 x2).wf = true) (h3 : (Lit.int .i64 x3).wf = true) (u4 : (Lit.int .i64 x4).wf = true) (u5 : (Lit.int .i64 x5).wf = true) (u6 : (Lit.int .i64 x6).wf = true) (u7 : (Lit.int .i64 x7).wf = true) (w1 : (Lit.int .i64 a1).wf = true) :
    ∃ k, mooringslaw08_DetOrder.f k x0 x1 x2 x3 x4 x5 x6 x7 a1 = some true := by
  obtain ⟨s0, s1, R, E, B, F, H⟩ := facts (x0 := x0) (x1 := x1) (x2 := x2) (x3 := x3) u4 u5 u6 u7
  refine ⟨2, ?_⟩
  unfold mooringslaw08_DetOrder.f mooringslaw08_awake.f
  have jt : mooringslaw08_DetOrder.j0 2 a1 true true x0 x1 x2 x3 x4 x5 x6 x7 = some true := by rw [mooringslaw08_DetOrder.j0, if_pos rfl]
  rw [Option.bind_some, if_pos rfl]
  by_cases c0 : a1 < 0
  · rw [if_pos c0, jt]
  rw [if_neg c0]
  by_cases c1 : a1 > 40
  · rw [decide_eq_true c1, jt]
  rw [decide_eq_false c1, mooringslaw08_DetOrder.j0, if_neg (by decide), w64 (x := a1 + 1) (by omega) (by omega)]
  obtain ⟨y, hy, cy⟩ := base_ok H 0 a1
  obtain ⟨z, hz, cz⟩ := base_ok H 0 (a1 + 1)
  rw [hy, Option.bind_some, hz, Option.bind_some]
  rcases cz with ⟨hF, _, d1, rfl⟩ | ⟨_, rfl⟩
  · rcases cy with ⟨_, d2, d3, rfl⟩ | ⟨n, rfl⟩
    · have N := nums H hF
      have e1 := N.r; have e2 := N.e; have e3 := N.q0; have e4 := N.lo; have e5 := N.dyn; have e6 := N.q1
      obtain ⟨⟨q0, q1⟩, ⟨v0, v1⟩, hs, z0, z1⟩ := sub_of N d2 d3
      rw [if_pos rfl, mooringslaw08_DetOrder.j1]
      dsimp only
      rw [if_neg (by decide)]
      by_cases l : a1 % R + 1 < R
      · obtain ⟨f, g⟩ := div_eq (a := a1 + 1) (b := R) (q := a1 / R) (c := a1 % R + 1) (by omega) (by omega) l
        rw [f, g, if_pos rfl, Int.add_mul, Int.one_mul]
        generalize a1 % R * E = m at *
        rw [w64 (by omega) (by omega)]
        simp only [Option.some.injEq, beq_iff_eq]
        omega
      · obtain ⟨f, g⟩ := div_eq (a := a1 + 1) (b := R) (q := a1 / R + 1) (c := 0) (by rw [Int.add_mul, Int.one_mul]; omega) (by omega) (by omega)
        have q2 : a1 / R ≤ 40 := Int.le_trans (Int.ediv_le_self _ (by omega)) (by omega)
        rw [f, g, if_neg (by omega), w64 (x := a1 / R + 1) (by omega) (by omega), if_pos rfl, Int.zero_mul, Int.add_zero, if_pos rfl, H.ratio, Option.bind_some, if_neg (by omega), w64 (x := a1 + 1) (by omega) (by omega), Int.tmod_eq_emod_of_nonneg (by omega), g]
        rfl
    · exact absurd ⟨hF, by omega, by omega⟩ n
  · have jn : ∀ i a b c d e f, mooringslaw08_DetOrder.j1 1 a1 i false true x0 x1 x2 x3 x4 x5 x6 x7 a b c d e f = some true := by
      intro i a b c d e f
      rw [mooringslaw08_DetOrder.j1, if_pos rfl, if_neg (by decide)]
    split
    · exact jn _ _ _ _ _ _ _
    · exact jn _ _ _ _ _ _ _
end Go.Proofs.Ytfkdflhijfkjoaa.Pure
