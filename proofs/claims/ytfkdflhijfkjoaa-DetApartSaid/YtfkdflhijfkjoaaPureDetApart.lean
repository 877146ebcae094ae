/- The law DetApart: no port is both a subscriber's and of a block; two subscribers, and two blocks, have none alike. -/
import Derived.Test.YtfkdflhijfkjoaaP20
import Derived.Test.YtfkdflhijfkjoaaC
namespace Go.Proofs.Ytfkdflhijfkjoaa.Pure
set_option linter.unusedVariables false
open Go.RowKit Go.Proofs.Ytfkdflhijfkjoaa.P Go.Proofs.Ytfkdflhijfkjoaa.A Go.Proofs.YtfkdflhijfkjoaaW.PrintWords Go.Proofs.YtfkdflhijfkjoaaW.PrintLast Go.Proofs.YtfkdflhijfkjoaaW.PrintMore
/-- Rows of E of two numbers that differ have no port alike. -/
theorem rows_apart {r q E : Int} (hE : 0 < E) (h1 : r * E ≤ q * E + E - 1) (h2 : q * E ≤ r * E + E - 1) : r = q := by
  have a : (r * E) / E = r := in_row (by omega) (by omega)
  rcases Int.lt_trichotomy r q with c | c | c
  · have := Int.mul_le_mul_of_nonneg_right (show r + 1 ≤ q by omega) (show 0 ≤ E by omega)
    rw [Int.add_mul, Int.one_mul] at this; omega
  · exact c
  · have := Int.mul_le_mul_of_nonneg_right (show q + 1 ≤ r by omega) (show 0 ≤ E by omega)
    rw [Int.add_mul, Int.one_mul] at this; omega
theorem DetApart (x0 x1 x2 x3 x4 x5 x6 x7 a1 a2 a3 a4 : Int) (h0 : (Lit.int .i64 x0).wf = true) (h1 : (Lit.int .i64 x1).wf = true) (h2 : (Lit.int .i64 x2).wf = true) (h3 : (Lit.int .i64 x3).wf = true) (u4 : (Lit.int .i64 x4).wf = true) (u5 : (Lit.int .i64 x5).wf = true) (u6 : (Lit.int .i64 x6).wf = true) (u7 : (Lit.int .i64 x7).wf = true) (w1 : (Lit.int .i64 a1).wf = true) (w2 : (Lit.int .i64 a2).wf = true) (w3 : (Lit.int .i64 a3).wf = true) (w4 : (Lit.int .i64 a4).wf = true) :
    ∃ k, mooringslaw08_DetApart.f k x0 x1 x2 x3 x4 x5 x6 x7 a1 a2 a3 a4 = some true := by
  obtain ⟨s0, s1, R, E, B, F, H⟩ := facts (x0 := x0) (x1 := x1) (x2 := x2) (x3 := x3) u4 u5 u6 u7
  refine ⟨4, ?_⟩
  unfold mooringslaw08_DetApart.f mooringslaw08_awake.f
  obtain ⟨y, hy, cy⟩ := base_ok H 3 a1
  obtain ⟨z, hz, cz⟩ := base_ok H 3 a2
  obtain ⟨u, hu, cu⟩ := block_ok H 3 a3 a4
  rw [Option.bind_some, hy, Option.bind_some, hz, Option.bind_some, hu, Option.bind_some, if_pos rfl]
  have J1 : mooringslaw08_DetApart.j1 3 y.2.2.2 false x0 x1 x2 x3 x4 x5 x6 x7 y.1 y.2.1 y.2.2.1 = some true := by
    rw [mooringslaw08_DetApart.j1, if_neg (by decide)]
    rcases cy with ⟨hF, b0, b1, rfl⟩ | ⟨_, rfl⟩
    · have N := nums H hF
      have e1 := N.r; have e2 := N.e; have e3 := N.q0; have e4 := N.lo; have e5 := N.dyn; have e6 := N.q1
      obtain ⟨⟨q0, q1⟩, ⟨v0, v1⟩, hs, z0, z1⟩ := sub_of N b0 b1
      have no : ∀ p, p ≤ x5 - x6 → ∃ t, detmap_Which.f 2 x0 x1 x2 x3 x4 x5 x6 x7 (a1 / R) p = some t ∧ t = -1 := by
        intro p hp
        obtain ⟨t, ht, ct⟩ := which_ok H 0 (a1 / R) p
        rcases ct with ⟨c, _⟩ | ⟨_, c⟩
        · have := which_lin N c; omega
        · exact ⟨t, ht, c⟩
      obtain ⟨t, ht, rfl⟩ := no (x4 + a1 % R * E) (by omega)
      obtain ⟨t, hv, rfl⟩ := no (x4 + a1 % R * E + E - 1) (by omega)
      dsimp only
      rw [if_pos rfl, ht, Option.bind_some, if_pos rfl, hv, Option.bind_some]
      rfl
    · rfl
  have J0 : mooringslaw08_DetApart.j0 4 y.2.2.2 u.2.2.2 false x0 x1 x2 x3 x4 x5 x6 x7 y.1 y.2.1 y.2.2.1 u.1 u.2.1 u.2.2.1 = some true := by
    rw [mooringslaw08_DetApart.j0, if_neg (by decide)]
    by_cases c0 : y.2.2.2 = true
    · rw [if_pos c0]
      by_cases c1 : u.2.2.2 = true
      · rw [if_pos c1]
        by_cases c2 : y.1 = u.1
        · rw [if_pos c2]
          by_cases c3 : y.2.1 ≤ u.2.2.1
          · rw [if_pos c3]
            have c4 : ¬ u.2.1 ≤ y.2.2.1 := by
              rcases cy with ⟨hF, b0, b1, rfl⟩ | ⟨_, rfl⟩
              · rcases cu with ⟨_, _, _, d2, d3, rfl⟩ | ⟨_, rfl⟩
                · have N := nums H hF
                  have e2 := N.e; have e4 := N.lo; have e5 := N.dyn
                  obtain ⟨⟨q0, q1⟩, ⟨v0, v1⟩, hs, z0, z1⟩ := sub_of N b0 b1
                  have f := blk_of N d2 d3
                  show ¬ x5 - x6 + 1 + a4 * x7 ≤ x4 + a1 % R * E + E - 1
                  omega
                · cases c1
              · cases c0
            rw [decide_eq_false c4, J1]
          · rw [if_neg c3, J1]
        · rw [if_neg c2, J1]
      · rw [if_neg c1, J1]
    · rw [if_neg c0, J1]
  by_cases c0 : y.2.2.2 = true
  · rw [if_pos c0]
    by_cases c1 : z.2.2.2 = true
    · rw [if_pos c1]
      by_cases c2 : a1 = a2
      · rw [if_pos c2, J0]
      · rw [if_neg c2]
        by_cases c3 : y.1 = z.1
        · rw [if_pos c3]
          by_cases c4 : y.2.1 ≤ z.2.2.1
          · rw [if_pos c4]
            have c5 : ¬ z.2.1 ≤ y.2.2.1 := by
              intro c5
              rcases cy with ⟨hF, b0, b1, rfl⟩ | ⟨_, rfl⟩
              · rcases cz with ⟨_, d0, d1, rfl⟩ | ⟨_, rfl⟩
                · have N := nums H hF
                  have e2 := N.e
                  obtain ⟨_, _, hs, _⟩ := sub_of N b0 b1
                  obtain ⟨_, _, ht, _⟩ := sub_of N d0 d1
                  have f3 : a1 / R = a2 / R := c3
                  have f4 : x4 + a1 % R * E ≤ x4 + a2 % R * E + E - 1 := c4
                  have f5 : x4 + a2 % R * E ≤ x4 + a1 % R * E + E - 1 := c5
                  have := rows_apart (r := a1 % R) (q := a2 % R) (E := E) (by omega) (by omega) (by omega)
                  rw [f3, this, ← ht] at hs
                  exact c2 hs
                · cases c1
              · cases c0
            rw [decide_eq_false c5, J0]
          · rw [if_neg c4, J0]
        · rw [if_neg c3, J0]
    · rw [if_neg c1, J0]
  · rw [if_neg c0, J0]
end Go.Proofs.Ytfkdflhijfkjoaa.Pure
