/- The law DetBlocks: each port of a block is of that one, each port that is of one lies in it. -/
import Derived.Test.YtfkdflhijfkjoaaP19
import Derived.Test.YtfkdflhijfkjoaaC
namespace Go.Proofs.Ytfkdflhijfkjoaa.Pure
set_option linter.unusedVariables false
open Go.RowKit Go.Proofs.Ytfkdflhijfkjoaa.P Go.Proofs.Ytfkdflhijfkjoaa.A Go.Proofs.YtfkdflhijfkjoaaW.PrintWords Go.Proofs.YtfkdflhijfkjoaaW.PrintLast Go.Proofs.YtfkdflhijfkjoaaW.PrintMore
theorem DetBlocks (x0 x1 x2 x3 x4 x5 x6 x7 a1 a2 a3 : Int) (h0 : (Lit.int .i64 x0).wf = true) (h1 : (Lit.int .i64 x1).wf = true) (h2 : (Lit.int .i64 x2).wf = true) (h3 : (Lit.int .i64 x3).wf = true) (u4 : (Lit.int .i64 x4).wf = true) (u5 : (Lit.int .i64 x5).wf = true) (u6 : (Lit.int .i64 x6).wf = true) (u7 : (Lit.int .i64 x7).wf = true) (w1 : (Lit.int .i64 a1).wf = true) (w2 : (Lit.int .i64 a2).wf = true) (w3 : (Lit.int .i64 a3).wf = true) :
    ∃ k, mooringslaw08_DetBlocks.f k x0 x1 x2 x3 x4 x5 x6 x7 a1 a2 a3 = some true := by
  obtain ⟨s0, s1, R, E, B, F, H⟩ := facts (x0 := x0) (x1 := x1) (x2 := x2) (x3 := x3) u4 u5 u6 u7
  refine ⟨3, ?_⟩
  unfold mooringslaw08_DetBlocks.f mooringslaw08_awake.f
  obtain ⟨y, hy, cy⟩ := block_ok H 2 a1 a2
  rw [Option.bind_some, hy, Option.bind_some, if_pos rfl]
  have J : mooringslaw08_DetBlocks.j0 3 a1 a3 y.2.2.2 false x0 x1 x2 x3 x4 x5 x6 x7 y.1 y.2.1 y.2.2.1 = some true := by
    rw [mooringslaw08_DetBlocks.j0, if_neg (by decide)]
    obtain ⟨q, hq, cq⟩ := which_ok H 0 a1 a3
    obtain ⟨z, hz, cz⟩ := block_ok H 1 a1 q
    rw [hq, Option.bind_some, hz, Option.bind_some]
    rcases cq with ⟨cq, rfl⟩ | ⟨nq, rfl⟩
    · have hF := cq.1
      have N := nums H hF
      have e4 := N.lo; have e5 := N.dyn; have e6 := N.blk; have e7 := N.b
      have l := which_lin N cq
      obtain ⟨_, a, _, d⟩ := cq
      obtain ⟨r0, r1⟩ := row_of (E := x7) (p := a3 - (x5 - x6 + 1)) (by omega)
      rcases cz with ⟨_, _, _, _, _, rfl⟩ | ⟨n, _⟩
      · have f := blk_of N l.2.2 d
        generalize (a3 - (x5 - x6 + 1)) / x7 = t at *
        generalize t * x7 = m at *
        rw [if_neg (by omega), if_pos rfl, if_pos (by show _ ≤ _; simp only; omega), if_pos (by simp only; omega), H.blocks, Option.bind_some, decide_eq_true d]
      · exact absurd ⟨hF, a.1, a.2, l.2.2, d⟩ n
    · rw [if_pos (by decide), if_pos rfl]
      rcases cy with ⟨hF, b0, b1, b2, b3, rfl⟩ | ⟨_, rfl⟩
      · have N := nums H hF
        have e4 := N.lo; have e5 := N.dyn; have e6 := N.blk; have e7 := N.b
        have f := blk_of N b2 b3
        simp only []
        rw [if_pos trivial]
        by_cases c : a3 ≥ x5 - x6 + 1 + a2 * x7
        · rw [if_pos c]
          by_cases d : a3 ≤ x5 - x6 + 1 + a2 * x7 + x7 - 1
          · have g : (a3 - (x5 - x6 + 1)) / x7 = a2 := in_row (by omega) (by omega)
            exact absurd ⟨hF, ⟨b0, b1⟩, ⟨by omega, by omega⟩, by rw [g]; exact b3⟩ nq
          · rw [decide_eq_false d]; rfl
        · rw [if_neg c]; rfl
      · rfl
  rcases cy with ⟨hF, b0, b1, b2, b3, rfl⟩ | ⟨_, rfl⟩
  · have N := nums H hF
    have e4 := N.lo; have e5 := N.dyn; have e6 := N.blk; have e7 := N.b
    have f := blk_of N b2 b3
    simp only [] at J ⊢
    obtain ⟨t, ht, ct⟩ := which_ok H 1 a1 (x5 - x6 + 1 + a2 * x7)
    obtain ⟨v, hv, cv⟩ := which_ok H 1 a1 (x5 - x6 + 1 + a2 * x7 + x7 - 1)
    have g0 : (x5 - x6 + 1 + a2 * x7 - (x5 - x6 + 1)) / x7 = a2 := in_row (by omega) (by omega)
    have g1 : (x5 - x6 + 1 + a2 * x7 + x7 - 1 - (x5 - x6 + 1)) / x7 = a2 := in_row (by omega) (by omega)
    have ht' : t = a2 := by
      rcases ct with ⟨_, h⟩ | ⟨n, _⟩
      · rw [h, g0]
      · exact absurd ⟨hF, ⟨b0, b1⟩, ⟨by omega, by omega⟩, by rw [g0]; exact b3⟩ n
    have hv' : v = a2 := by
      rcases cv with ⟨_, h⟩ | ⟨n, _⟩
      · rw [h, g1]
      · exact absurd ⟨hF, ⟨b0, b1⟩, ⟨by omega, by omega⟩, by rw [g1]; exact b3⟩ n
    subst ht'
    subst hv'
    generalize v * x7 = m at *
    rw [if_pos trivial, w64 (x := x5 - x6) (by omega) (by omega), if_neg (by omega), if_neg (by omega), if_pos (by rw [w64 (by omega) (by omega), w64 (by omega) (by omega)]; omega), ht, Option.bind_some, if_pos rfl, hv, Option.bind_some, bne_self_eq_false, J]
  · exact J
end Go.Proofs.Ytfkdflhijfkjoaa.Pure
