/- The law DetShare: each subscriber has as many ports, and no address more than Ratio of them. -/
import Derived.Test.YtfkdflhijfkjoaaP21
import Derived.Test.YtfkdflhijfkjoaaC
namespace Go.Proofs.Ytfkdflhijfkjoaa.Pure
set_option linter.unusedVariables false
open Go.RowKit Go.Proofs.Ytfkdflhijfkjoaa.P Go.Proofs.Ytfkdflhijfkjoaa.A Go.Proofs.YtfkdflhijfkjoaaW.PrintWords Go.Proofs.YtfkdflhijfkjoaaW.PrintLast Go.Proofs.YtfkdflhijfkjoaaW.PrintMore
theorem DetShare (x0 x1 x2 x3 x4 x5 x6 x7 a1 : Int) (h0 : (Lit.int .i64 x0).wf = true) (h1 : (Lit.int .i64 x1).wf = true) (h2 : (Lit.int .i64 x2).wf = true) (h3 : (Lit.int .i64 x3).wf = true) (u4 : (Lit.int .i64 x4).wf = true) (u5 : (Lit.int .i64 x5).wf = true) (u6 : (Lit.int .i64 x6).wf = true) (u7 : (Lit.int .i64 x7).wf = true) (w1 : (Lit.int .i64 a1).wf = true) :
    ∃ k, mooringslaw08_DetShare.f k x0 x1 x2 x3 x4 x5 x6 x7 a1 = some true := by
  obtain ⟨s0, s1, R, E, B, F, H⟩ := facts (x0 := x0) (x1 := x1) (x2 := x2) (x3 := x3) u4 u5 u6 u7
  refine ⟨3, ?_⟩
  unfold mooringslaw08_DetShare.f mooringslaw08_awake.f
  rw [Option.bind_some, H.ratio, Option.bind_some, H.each, Option.bind_some, if_pos rfl, H.fit, Option.bind_some, mooringslaw08_DetShare.j0]
  cases hF : F with
  | false =>
    obtain ⟨rfl, rfl⟩ := H.no hF
    rw [if_pos (by decide), if_pos rfl, if_pos rfl, H.blocks]
    rfl
  | true =>
    have N := nums H hF
    have e1 := N.r; have e2 := N.e; have e3 := N.q0; have e4 := N.lo; have e5 := N.dyn; have e6 := N.q1
    obtain ⟨r0, r1⟩ := N.re
    obtain ⟨t0, t1⟩ := N.rs
    have m0 : 0 ≤ R * E := Int.mul_nonneg (by omega) (by omega)
    have m1 : R * (E + 1) = R * E + R := by rw [Int.mul_add, Int.mul_one]
    have m2 : (R - 1) * s1 = R * s1 - s1 := by rw [Int.sub_mul, Int.one_mul]
    rw [if_neg (by decide), if_neg (by omega), if_neg (by omega)]
    rw [w64 (x := x5 - x4) (by omega) (by omega), w64 (x := x5 - x4 + 1) (by omega) (by omega), w64 (x := x5 - x4 + 1 - x6) (by omega) (by omega), w64 (x := R * E) (by omega) (by omega), w64 (x := E + 1) (by omega) (by omega), w64 (x := R * (E + 1)) (by omega) (by omega)]
    rw [if_neg (by omega), if_neg (by omega), H.size1, Option.bind_some, H.size0, Option.bind_some, w64 (x := R * s1) (by omega) (by omega), if_neg (by omega), Option.bind_some, Option.bind_some, w64 (x := R - 1) (by omega) (by omega), w64 (x := (R - 1) * s1) (by omega) (by omega), decide_eq_false (by omega), mooringslaw08_DetShare.j1, if_neg (by decide)]
    obtain ⟨y, hy, cy⟩ := base_ok H 0 a1
    rw [hy, Option.bind_some]
    rcases cy with ⟨_, c0, c1, rfl⟩ | ⟨_, rfl⟩
    · obtain ⟨⟨q0, q1⟩, ⟨v0, v1⟩, hs, z0, z1⟩ := sub_of N c0 c1
      have m3 : (a1 / R + 1) * R = a1 / R * R + R := by rw [Int.add_mul, Int.one_mul]
      have m4 : 0 ≤ a1 / R * R := Int.mul_nonneg q0 (by omega)
      show (if true = true then _ else _) = _
      simp only []
      generalize a1 % R * E = m at *
      generalize a1 % R = r at *
      rw [if_pos trivial, w64 (x := x4 + m + E - 1 - (x4 + m)) (by omega) (by omega), w64 (x := x4 + m + E - 1 - (x4 + m) + 1) (by omega) (by omega), if_pos (by omega), w64 (x := a1 / R * R) (by omega) (by omega), if_pos (by omega), w64 (x := a1 / R + 1) (by omega) (by omega), w64 (x := (a1 / R + 1) * R) (by omega) (by omega), decide_eq_true (by omega)]
    · rfl
end Go.Proofs.Ytfkdflhijfkjoaa.Pure
