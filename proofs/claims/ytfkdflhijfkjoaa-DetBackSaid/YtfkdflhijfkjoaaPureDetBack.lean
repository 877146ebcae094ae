/- The law DetBack: each port of a subscriber's is its, each port that is one's lies in its ports. -/
import Derived.Test.YtfkdflhijfkjoaaP18
import Derived.Test.YtfkdflhijfkjoaaC
namespace Go.Proofs.Ytfkdflhijfkjoaa.Pure
set_option linter.unusedVariables false
open Go.RowKit Go.Proofs.Ytfkdflhijfkjoaa.P Go.Proofs.Ytfkdflhijfkjoaa.A Go.Proofs.YtfkdflhijfkjoaaW.PrintWords Go.Proofs.YtfkdflhijfkjoaaW.PrintLast Go.Proofs.YtfkdflhijfkjoaaW.PrintMore
/-- A port of a subscriber's row is that subscriber's. -/
theorem is_who {x4 x5 x6 x7 s0 s1 R E B : Int} {F : Bool} (hF : F = true) (N : Nums x4 x5 x6 x7 s0 s1 R E B) {sub p : Int} (b0 : 0 ≤ sub) (b1 : sub < s0) (h0 : x4 + sub % R * E ≤ p) (h1 : p ≤ x4 + sub % R * E + E - 1) :
    IsWho x4 x5 s0 s1 R E F (sub / R) p ∧ sub / R * R + (p - x4) / E = sub := by
  have e1 := N.r; have e2 := N.e; have e3 := N.q0; have e4 := N.lo; have e5 := N.dyn; have e6 := N.q1
  obtain ⟨⟨q0, q1⟩, ⟨v0, v1⟩, hs, z0, z1⟩ := sub_of N b0 b1
  have g : (p - x4) / E = sub % R := in_row (by omega) (by omega)
  exact ⟨⟨hF, ⟨q0, q1⟩, ⟨by omega, by omega⟩, by rw [g]; exact v1, by rw [g]; omega⟩, by rw [g]; omega⟩
theorem DetBack (x0 x1 x2 x3 x4 x5 x6 x7 a1 a2 a3 : Int) (h0 : (Lit.int .i64 x0).wf = true) (h1 : (Lit.int .i64 x1).wf = true) (h2 : (Lit.int .i64 x2).wf = true) (h3 : (Lit.int .i64 x3).wf = true) (u4 : (Lit.int .i64 x4).wf = true) (u5 : (Lit.int .i64 x5).wf = true) (u6 : (Lit.int .i64 x6).wf = true) (u7 : (Lit.int .i64 x7).wf = true) (w1 : (Lit.int .i64 a1).wf = true) (w2 : (Lit.int .i64 a2).wf = true) (w3 : (Lit.int .i64 a3).wf = true) :
    ∃ k, mooringslaw08_DetBack.f k x0 x1 x2 x3 x4 x5 x6 x7 a1 a2 a3 = some true := by
  obtain ⟨s0, s1, R, E, B, F, H⟩ := facts (x0 := x0) (x1 := x1) (x2 := x2) (x3 := x3) u4 u5 u6 u7
  refine ⟨4, ?_⟩
  unfold mooringslaw08_DetBack.f mooringslaw08_awake.f
  obtain ⟨y, hy, cy⟩ := base_ok H 3 a1
  rw [Option.bind_some, hy, Option.bind_some, if_pos rfl, H.fit, Option.bind_some]
  -- the ports of the one, and whose the port is
  have J1 : mooringslaw08_DetBack.j1 3 a2 a3 y.2.2.2 false x0 x1 x2 x3 x4 x5 x6 x7 y.1 y.2.1 y.2.2.1 = some true := by
    rw [mooringslaw08_DetBack.j1, if_neg (by decide)]
    obtain ⟨q, hq, cq⟩ := who_ok H 0 a2 a3
    obtain ⟨z, hz, cz⟩ := base_ok H 1 q
    rw [hq, Option.bind_some, hz, Option.bind_some]
    rcases cq with ⟨cq, rfl⟩ | ⟨nq, rfl⟩
    · have hF := cq.1
      have N := nums H hF
      have e1 := N.r; have e2 := N.e
      have l := who_lin N cq
      obtain ⟨_, a, _, d, e⟩ := cq
      obtain ⟨r0, r1⟩ := row_of (E := E) (p := a3 - x4) (by omega)
      rcases cz with ⟨_, _, _, rfl⟩ | ⟨n, _⟩
      · obtain ⟨f, g⟩ := div_eq (a := a2 * R + (a3 - x4) / E) (b := R) (q := a2) (c := (a3 - x4) / E) rfl l.2.2.1 d
        dsimp only
        rw [f, g, if_neg (by omega), if_pos rfl, if_pos rfl, if_pos (by omega), decide_eq_true (by omega)]
      · exact absurd ⟨hF, by omega, e⟩ n
    · rw [if_pos (by decide), if_pos rfl]
      rcases cy with ⟨hF, b0, b1, rfl⟩ | ⟨_, rfl⟩
      · have N := nums H hF
        dsimp only
        rw [if_pos rfl]
        by_cases c : a1 / R = a2
        · rw [if_pos c]
          by_cases d : a3 ≥ x4 + a1 % R * E
          · rw [if_pos d]
            by_cases e : a3 ≤ x4 + a1 % R * E + E - 1
            · have f := (is_who hF N b0 b1 d e).1
              rw [c] at f
              exact absurd f nq
            · rw [decide_eq_false e]; rfl
          · rw [if_neg d]; rfl
        · rw [if_neg c]; rfl
      · rfl
  have J0 : mooringslaw08_DetBack.j0 4 a1 a2 a3 y.2.2.2 false x0 x1 x2 x3 x4 x5 x6 x7 y.1 y.2.1 y.2.2.1 = some true := by
    rw [mooringslaw08_DetBack.j0, if_neg (by decide)]
    rcases cy with ⟨hF, b0, b1, rfl⟩ | ⟨_, rfl⟩
    · have N := nums H hF
      have e1 := N.r; have e2 := N.e; have e3 := N.q0; have e4 := N.lo; have e5 := N.dyn; have e6 := N.q1
      obtain ⟨⟨q0, q1⟩, ⟨v0, v1⟩, hs, z0, z1⟩ := sub_of N b0 b1
      obtain ⟨f0, f1⟩ := is_who (p := x4 + a1 % R * E) hF N b0 b1 (by omega) (by omega)
      obtain ⟨g0, g1⟩ := is_who (p := x4 + a1 % R * E + E - 1) hF N b0 b1 (by omega) (by omega)
      obtain ⟨t, ht, ct⟩ := who_ok H 1 (a1 / R) (x4 + a1 % R * E)
      obtain ⟨v, hv, cv⟩ := who_ok H 1 (a1 / R) (x4 + a1 % R * E + E - 1)
      have et : t = a1 := by
        rcases ct with ⟨_, h⟩ | ⟨n, _⟩
        · rw [h, f1]
        · exact absurd f0 n
      have ev : v = a1 := by
        rcases cv with ⟨_, h⟩ | ⟨n, _⟩
        · rw [h, g1]
        · exact absurd g0 n
      dsimp only at J1 ⊢
      rw [if_pos rfl, if_neg (by omega), w64 (x := x5 - x6) (by omega) (by omega), if_neg (by omega), if_neg (by omega), ht, Option.bind_some, if_pos et, hv, Option.bind_some, ev, bne_self_eq_false, J1]
    · exact J1
  cases hF : F with
  | false =>
    rcases cy with ⟨c, _⟩ | ⟨_, rfl⟩
    · rw [hF] at c; cases c
    · rw [if_neg (by decide)]; exact J0
  | true =>
    rw [if_pos rfl]
    by_cases c : a1 ≥ 0
    · rw [if_pos c, H.size0, Option.bind_some]
      rcases cy with ⟨_, b0, b1, rfl⟩ | ⟨n, rfl⟩
      · rw [decide_eq_true b1]; exact J0
      · rw [decide_eq_false (fun d => n ⟨hF, c, d⟩)]; exact J0
    · rw [if_neg c]
      rcases cy with ⟨_, b0, b1, rfl⟩ | ⟨n, rfl⟩
      · omega
      · exact J0
end Go.Proofs.Ytfkdflhijfkjoaa.Pure
