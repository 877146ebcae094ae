/- The document's mapping (mooringsref08) answers as the package detmap's does. -/
import Derived.Test.YtfkdflhijfkjoaaRefA
import Derived.Test.YtfkdflhijfkjoaaP13
import Derived.Test.YtfkdflhijfkjoaaP14
import Derived.Test.YtfkdflhijfkjoaaP15
import Derived.Test.YtfkdflhijfkjoaaP16
namespace Go.Proofs.Ytfkdflhijfkjoaa.A
open Go.RowKit Go.Proofs.Ytfkdflhijfkjoaa.P Go.Proofs.YtfkdflhijfkjoaaW.PrintWords Go.Proofs.YtfkdflhijfkjoaaW.PrintLast Go.Proofs.YtfkdflhijfkjoaaW.PrintMore
section
variable {x0 x1 x2 x3 x4 x5 x6 x7 s0 s1 R E B : Int} {F : Bool}
theorem rratio (H : Facts x0 x1 x2 x3 x4 x5 x6 x7 s0 s1 R E B F) (k : Nat) : mooringsref08_Ratio.f (k + 40) x0 x1 x2 x3 x4 x5 x6 x7 = some R := by
  rw [← H.ratio]
  unfold mooringsref08_Ratio.f detmap_Ratio.f
  rw [rsize, rsize, H.size0, Option.bind_some, H.size1, Option.bind_some, Option.bind_some, Option.bind_some]
  have z0 := H.z0
  have z1 := H.z1
  by_cases c0 : s0 = 0
  · rw [if_pos c0, if_pos (by unfold mn; split <;> omega)]
  · rw [if_neg c0]
    by_cases c1 : s1 = 0
    · rw [if_pos c1, if_pos (by unfold mn; split <;> omega)]
    · rw [if_neg c1, if_neg (by unfold mn; split <;> omega), if_neg c1, w64 (x := s0 + s1) (by omega) (by omega), w64 (x := s0 + s1 - 1) (by omega) (by omega), w64 (x := s0 - 1) (by omega) (by omega), Int.tdiv_eq_ediv_of_nonneg (by omega), Int.tdiv_eq_ediv_of_nonneg (by omega)]
      obtain ⟨r0, r1⟩ := row_of (E := s1) (p := s0 - 1) (by omega)
      have a : 0 ≤ (s0 - 1) / s1 := Int.ediv_nonneg (by omega) (by omega)
      have b : (s0 - 1) / s1 ≤ s0 - 1 := Int.ediv_le_self _ (by omega)
      have g : (s0 + s1 - 1) / s1 = (s0 - 1) / s1 + 1 := in_row (by rw [Int.add_mul, Int.one_mul]; omega) (by rw [Int.add_mul, Int.one_mul]; omega)
      rw [g]
      generalize (s0 - 1) / s1 = q at *
      rw [w64 (x := q) (by omega) (by omega)]
theorem rfit (H : Facts x0 x1 x2 x3 x4 x5 x6 x7 s0 s1 R E B F) (h0 : (Lit.int .i64 x0).wf = true) (h2 : (Lit.int .i64 x2).wf = true) (k : Nat) : mooringsref08_Fit.f (k + 43) x0 x1 x2 x3 x4 x5 x6 x7 = some F := by
  obtain ⟨m, hm⟩ := meet_ok 2 x0 x1 x2 x3
  have hf := H.fit
  have b0 := Go.bounds_i64 h0
  have b2 := Go.bounds_i64 h2
  unfold detmap_Fit.f detmap_shared.f at hf
  rw [H.size0, Option.bind_some, H.size1, Option.bind_some, hm, Option.bind_some, Option.bind_some, H.ratio, Option.bind_some] at hf
  have hi : F = true ↔ ((1 ≤ s0 ∧ s0 ≤ 32) ∧ (1 ≤ s1 ∧ s1 ≤ 4)) ∧ m = false ∧ ((1 ≤ x4 ∧ x4 ≤ x5) ∧ x5 ≤ 65535) ∧ ((0 ≤ x6 ∧ x6 ≤ wrap64 (x5 - x4)) ∧ ((1 ≤ x7 ∧ x7 ≤ 65535) ∧ wrap64 (Int.tdiv x6 x7) ≤ 8)) ∧ R ≤ wrap64 (wrap64 (wrap64 (x5 - x4) + 1) - x6) := by
    rw [← Option.some.inj hf]
    simp only [Bool.and_eq_true, Dev.inB, decide_eq_true_eq, Bool.not_eq_true']
  clear hf
  have no : ∀ {Q : Prop}, (F = true → Q) → ¬ Q → some false = some F := by
    intro Q h n
    cases hF : F with
    | false => rfl
    | true => exact absurd (h hF) n
  have j0t : mooringsref08_Fit.j0 (k + 43) true x0 x1 x2 x3 x4 x5 x6 x7 = some false := by rw [mooringsref08_Fit.j0, if_pos rfl]
  have j1t : mooringsref08_Fit.j1 (k + 42) true x0 x1 x2 x3 x4 x5 x6 x7 = some false := by rw [mooringsref08_Fit.j1, if_pos rfl]
  have j2t : ∀ p, mooringsref08_Fit.j2 (k + 41) p true x0 x1 x2 x3 x4 x5 x6 x7 = some false := fun p => by rw [mooringsref08_Fit.j2, if_pos rfl]
  unfold mooringsref08_Fit.f
  rw [show k + 43 = (k + 3) + 40 from rfl, rsize, rsize, rmeet (k + 3) 2 x0 x1 x2 x3 b0 b2, hm, H.size0, Option.bind_some, H.size1, Option.bind_some, Option.bind_some, show (k + 3) + 40 = k + 43 from rfl]
  by_cases c0 : s0 < 1
  · rw [if_pos c0, j0t]; exact no (fun h => (hi.1 h).1.1.1) (by omega)
  rw [if_neg c0]
  by_cases c1 : s0 > 32
  · rw [if_pos c1, j0t]; exact no (fun h => (hi.1 h).1.1.2) (by omega)
  rw [if_neg c1]
  by_cases c2 : s1 < 1
  · rw [if_pos c2, j0t]; exact no (fun h => (hi.1 h).1.2.1) (by omega)
  rw [if_neg c2]
  by_cases c3 : s1 > 4
  · rw [if_pos c3, j0t]; exact no (fun h => (hi.1 h).1.2.2) (by omega)
  rw [if_neg c3]
  cases m with
  | true => rw [j0t]; exact no (fun h => (hi.1 h).2.1) (by decide)
  | false =>
    rw [mooringsref08_Fit.j0, if_neg (by decide)]
    by_cases c4 : x4 < 1
    · rw [if_pos c4, j1t]; exact no (fun h => (hi.1 h).2.2.1.1.1) (by omega)
    rw [if_neg c4]
    by_cases c5 : x5 < x4
    · rw [if_pos c5, j1t]; exact no (fun h => (hi.1 h).2.2.1.1.2) (by omega)
    rw [if_neg c5]
    by_cases c6 : x5 > 65535
    · rw [decide_eq_true c6, j1t]; exact no (fun h => (hi.1 h).2.2.1.2) (by omega)
    rw [w64 (x := x5 - x4) (by omega) (by omega), w64 (x := x5 - x4 + 1) (by omega) (by omega)] at hi
    rw [decide_eq_false c6, mooringsref08_Fit.j1, if_neg (by decide), w64 (x := x5 - x4) (by omega) (by omega), w64 (x := x5 - x4 + 1) (by omega) (by omega)]
    by_cases c7 : x6 < 0
    · rw [if_pos c7, j2t]; exact no (fun h => (hi.1 h).2.2.2.1.1.1) (by omega)
    rw [if_neg c7]
    by_cases c8 : x6 ≥ x5 - x4 + 1
    · rw [if_pos c8, j2t]; exact no (fun h => (hi.1 h).2.2.2.1.1.2) (by omega)
    rw [if_neg c8]
    by_cases c9 : x7 < 1
    · rw [if_pos c9, j2t]; exact no (fun h => (hi.1 h).2.2.2.1.2.1.1) (by omega)
    rw [if_neg c9]
    by_cases c10 : x7 > 65535
    · rw [if_pos c10, j2t]; exact no (fun h => (hi.1 h).2.2.2.1.2.1.2) (by omega)
    rw [if_neg c10, if_neg (by omega)]
    by_cases c11 : wrap64 (Int.tdiv x6 x7) > 8
    · rw [decide_eq_true c11, j2t]; exact no (fun h => (hi.1 h).2.2.2.1.2.2) (by omega)
    rw [decide_eq_false c11, mooringsref08_Fit.j2, if_neg (by decide), rratio H, Option.bind_some]
    generalize wrap64 (Int.tdiv x6 x7) = q at *
    generalize wrap64 (x5 - x4 + 1 - x6) = S at *
    by_cases c12 : R ≤ S
    · rw [decide_eq_true c12, hi.2 ⟨⟨⟨by omega, by omega⟩, by omega, by omega⟩, rfl, ⟨⟨by omega, by omega⟩, by omega⟩, ⟨⟨by omega, by omega⟩, ⟨by omega, by omega⟩, by omega⟩, c12⟩]
    · rw [decide_eq_false c12]; exact no (fun h => (hi.1 h).2.2.2.2) c12
theorem reach (H : Facts x0 x1 x2 x3 x4 x5 x6 x7 s0 s1 R E B F) (h0 : (Lit.int .i64 x0).wf = true) (h2 : (Lit.int .i64 x2).wf = true) (k : Nat) : mooringsref08_Each.f (k + 43) x0 x1 x2 x3 x4 x5 x6 x7 = some E := by
  rw [← H.each]
  unfold mooringsref08_Each.f detmap_Each.f detmap_shared.f
  rw [rfit H h0 h2, H.fit, Option.bind_some, Option.bind_some]
  cases F with
  | false => rfl
  | true => rw [if_pos rfl, if_pos rfl, show k + 43 = (k + 3) + 40 from rfl, rratio H, H.ratio]; rfl
theorem rblocks (H : Facts x0 x1 x2 x3 x4 x5 x6 x7 s0 s1 R E B F) (h0 : (Lit.int .i64 x0).wf = true) (h2 : (Lit.int .i64 x2).wf = true) (k : Nat) : mooringsref08_Blocks.f (k + 43) x0 x1 x2 x3 x4 x5 x6 x7 = some B := by
  rw [← H.blocks]
  unfold mooringsref08_Blocks.f detmap_Blocks.f
  rw [rfit H h0 h2, H.fit]
theorem rbase (H : Facts x0 x1 x2 x3 x4 x5 x6 x7 s0 s1 R E B F) (h0 : (Lit.int .i64 x0).wf = true) (h2 : (Lit.int .i64 x2).wf = true) (k l : Nat) (sub : Int) : mooringsref08_Base.f (k + 44) x0 x1 x2 x3 x4 x5 x6 x7 sub = detmap_Base.f (l + 1) x0 x1 x2 x3 x4 x5 x6 x7 sub := by
  unfold mooringsref08_Base.f detmap_Base.f
  have rt : mooringsref08_Base.j0 (k + 44) sub true x0 x1 x2 x3 x4 x5 x6 x7 = some (0, 0, 0, false) := by rw [mooringsref08_Base.j0, if_pos rfl]
  have jt : detmap_Base.j0 (l + 1) sub true x0 x1 x2 x3 x4 x5 x6 x7 = some (0, 0, 0, false) := by rw [detmap_Base.j0, if_pos rfl]
  rw [show k + 44 = (k + 1) + 43 from rfl, rfit H h0 h2, H.fit, show (k + 1) + 43 = k + 44 from rfl, Option.bind_some, Option.bind_some]
  cases hF : F with
  | false => rw [if_neg (by decide), if_neg (by decide), rt, jt]
  | true =>
    have N := nums H hF
    have e1 := N.r
    rw [if_pos rfl, if_pos rfl]
    by_cases c : sub < 0
    · rw [if_pos c, if_pos c, rt, jt]
    rw [if_neg c, if_neg c, show k + 44 = (k + 4) + 40 from rfl, rsize, H.size0, Option.bind_some, Option.bind_some]
    cases decide (sub ≥ s0) with
    | true => rw [show (k + 4) + 40 = k + 44 from rfl, rt, jt]
    | false =>
      rw [show (k + 4) + 40 = (k + 43) + 1 from rfl, mooringsref08_Base.j0, if_neg (by decide), detmap_Base.j0, if_neg (by decide), reach H h0 h2, show k + 43 = (k + 3) + 40 from rfl, rratio H, H.ratio, H.each]
      simp only [Option.bind_some]
      repeat rw [if_neg (show ¬ R = 0 by omega)]
theorem rblock (H : Facts x0 x1 x2 x3 x4 x5 x6 x7 s0 s1 R E B F) (h0 : (Lit.int .i64 x0).wf = true) (h2 : (Lit.int .i64 x2).wf = true) (k l : Nat) (a b : Int) : mooringsref08_Block.f (k + 43) x0 x1 x2 x3 x4 x5 x6 x7 a b = detmap_Block.f (l + 1) x0 x1 x2 x3 x4 x5 x6 x7 a b := by
  unfold mooringsref08_Block.f detmap_Block.f
  have r : ∀ d, mooringsref08_Block.j0 (k + 43) a b d x0 x1 x2 x3 x4 x5 x6 x7 = detmap_Block.j0 (l + 1) a b d x0 x1 x2 x3 x4 x5 x6 x7 := by
    intro d; rw [mooringsref08_Block.j0, detmap_Block.j0]
  rw [r, rblocks H h0 h2, H.blocks, show k + 43 = (k + 3) + 40 from rfl, rsize, H.size1]
  simp only [Option.bind_some]
  rw [show (k + 3) + 40 = k + 43 from rfl, r]
theorem rwho (H : Facts x0 x1 x2 x3 x4 x5 x6 x7 s0 s1 R E B F) (h0 : (Lit.int .i64 x0).wf = true) (h2 : (Lit.int .i64 x2).wf = true) {at' port y : Int} (hy : (IsWho x4 x5 s0 s1 R E F at' port ∧ y = at' * R + (port - x4) / E) ∨ (¬ IsWho x4 x5 s0 s1 R E F at' port ∧ y = -1)) :
    ∀ (n k : Nat) (i : Int), i + n = 32 → 0 ≤ i → (IsWho x4 x5 s0 s1 R E F at' port → i ≤ at' * R + (port - x4) / E) →
      mooringsref08_Who.l0 (k + 2 * n + 60) at' port i x0 x1 x2 x3 x4 x5 x6 x7 = some y := by
  intro n
  induction n with
  | zero =>
    intro k i hi i0 hle
    rw [show k + 2 * 0 + 60 = (k + 59) + 1 by omega, mooringsref08_Who.l0, if_neg (by omega)]
    rcases hy with ⟨c, _⟩ | ⟨_, rfl⟩
    · have := hle c
      have N := nums H c.1
      have e := N.q0
      have := c.2.2.2.2
      omega
    · rfl
  | succ n ih =>
    intro k i hi i0 hle
    rw [show k + 2 * (n + 1) + 60 = (k + 2 * n + 61) + 1 by omega, mooringsref08_Who.l0, if_pos (by omega), show k + 2 * n + 61 = (k + 2 * n + 17) + 44 by omega, rbase H h0 h2 _ 0]
    obtain ⟨z, hz, cz⟩ := base_ok H 0 i
    rw [hz, Option.bind_some, show (k + 2 * n + 17) + 44 = (k + 2 * n + 60) + 1 by omega]
    have next : ∀ (g : IsWho x4 x5 s0 s1 R E F at' port → i ≠ at' * R + (port - x4) / E), mooringsref08_Who.j1 ((k + 2 * n + 60) + 1) at' port i false x0 x1 x2 x3 x4 x5 x6 x7 = some y := by
      intro g
      rw [mooringsref08_Who.j1, if_neg (by decide), w64 (x := i + 1) (by omega) (by omega)]
      exact ih k (i + 1) (by omega) (by omega) (fun c => by have := hle c; have := g c; omega)
    rcases cz with ⟨hF, b0, b1, rfl⟩ | ⟨nb, rfl⟩
    · have N := nums H hF
      have e2 := N.e
      dsimp only
      rw [if_pos rfl]
      -- where the port is this one's
      have iff : IsWho x4 x5 s0 s1 R E F at' port → i = at' * R + (port - x4) / E → i / R = at' ∧ x4 + i % R * E ≤ port ∧ port ≤ x4 + i % R * E + E - 1 := by
        intro c hi
        have l := who_lin N c
        obtain ⟨f, g⟩ := div_eq hi l.2.2.1 c.2.2.2.1
        obtain ⟨r0, r1⟩ := row_of (E := E) (p := port - x4) (by omega)
        rw [f, g]
        exact ⟨rfl, by omega, by omega⟩
      by_cases c0 : i / R = at'
      · rw [if_pos c0]
        by_cases c1 : port ≥ x4 + i % R * E
        · rw [if_pos c1]
          by_cases c2 : port ≤ x4 + i % R * E + E - 1
          · rw [decide_eq_true c2, mooringsref08_Who.j1, if_pos rfl]
            have e1 := N.r; have e3 := N.q0; have e4 := N.lo; have e5 := N.dyn; have e6 := N.q1
            obtain ⟨⟨q0, q1⟩, ⟨v0, v1⟩, hs, z0, z1⟩ := sub_of N b0 b1
            have g : (port - x4) / E = i % R := in_row (by omega) (by omega)
            have w : IsWho x4 x5 s0 s1 R E F at' port := ⟨hF, by rw [← c0]; exact ⟨q0, q1⟩, ⟨by omega, by omega⟩, by rw [g]; exact v1, by rw [g, ← c0]; omega⟩
            rcases hy with ⟨_, rfl⟩ | ⟨n, _⟩
            · rw [g, ← c0]; exact congrArg some hs
            · exact absurd w n
          · rw [decide_eq_false c2]; exact next (fun c hi => c2 (iff c hi).2.2)
        · rw [if_neg c1]; exact next (fun c hi => c1 (iff c hi).2.1)
      · rw [if_neg c0]; exact next (fun c hi => c0 (iff c hi).1)
    · rw [if_neg (by decide)]
      exact next (fun c hi => nb ⟨c.1, i0, by rw [hi]; exact c.2.2.2.2⟩)
theorem rwhich (H : Facts x0 x1 x2 x3 x4 x5 x6 x7 s0 s1 R E B F) (h0 : (Lit.int .i64 x0).wf = true) (h2 : (Lit.int .i64 x2).wf = true) {at' port y : Int} (hy : (IsWhich x5 x6 x7 s1 B F at' port ∧ y = (port - (x5 - x6 + 1)) / x7) ∨ (¬ IsWhich x5 x6 x7 s1 B F at' port ∧ y = -1)) :
    ∀ (n k : Nat) (i : Int), i + n = 8 → 0 ≤ i → (IsWhich x5 x6 x7 s1 B F at' port → i ≤ (port - (x5 - x6 + 1)) / x7) →
      mooringsref08_Which.l0 (k + 2 * n + 60) at' port i x0 x1 x2 x3 x4 x5 x6 x7 = some y := by
  intro n
  induction n with
  | zero =>
    intro k i hi i0 hle
    rw [show k + 2 * 0 + 60 = (k + 59) + 1 by omega, mooringsref08_Which.l0, if_neg (by omega)]
    rcases hy with ⟨c, _⟩ | ⟨_, rfl⟩
    · have := hle c
      have N := nums H c.1
      have e := N.b
      have := c.2.2.2
      omega
    · rfl
  | succ n ih =>
    intro k i hi i0 hle
    rw [show k + 2 * (n + 1) + 60 = (k + 2 * n + 61) + 1 by omega, mooringsref08_Which.l0, if_pos (by omega), show k + 2 * n + 61 = (k + 2 * n + 18) + 43 by omega, rblock H h0 h2 _ 0]
    obtain ⟨z, hz, cz⟩ := block_ok H 0 at' i
    rw [hz, Option.bind_some, show (k + 2 * n + 18) + 43 = (k + 2 * n + 60) + 1 by omega]
    have next : ∀ (g : IsWhich x5 x6 x7 s1 B F at' port → i ≠ (port - (x5 - x6 + 1)) / x7), mooringsref08_Which.j1 ((k + 2 * n + 60) + 1) at' port i false x0 x1 x2 x3 x4 x5 x6 x7 = some y := by
      intro g
      rw [mooringsref08_Which.j1, if_neg (by decide), w64 (x := i + 1) (by omega) (by omega)]
      exact ih k (i + 1) (by omega) (by omega) (fun c => by have := hle c; have := g c; omega)
    rcases cz with ⟨hF, b0, b1, b2, b3, rfl⟩ | ⟨nb, rfl⟩
    · have N := nums H hF
      have e2 := N.blk
      dsimp only
      rw [if_pos rfl]
      have iff : i = (port - (x5 - x6 + 1)) / x7 → x5 - x6 + 1 + i * x7 ≤ port ∧ port ≤ x5 - x6 + 1 + i * x7 + x7 - 1 := by
        intro hi
        obtain ⟨r0, r1⟩ := row_of (E := x7) (p := port - (x5 - x6 + 1)) (by omega)
        rw [← hi] at r0 r1
        exact ⟨by omega, by omega⟩
      by_cases c1 : port ≥ x5 - x6 + 1 + i * x7
      · rw [if_pos c1]
        by_cases c2 : port ≤ x5 - x6 + 1 + i * x7 + x7 - 1
        · rw [decide_eq_true c2, mooringsref08_Which.j1, if_pos rfl]
          have e4 := N.lo; have e5 := N.dyn; have e6 := N.blk; have e7 := N.b
          have f := blk_of N b2 b3
          have g : (port - (x5 - x6 + 1)) / x7 = i := in_row (by omega) (by omega)
          rcases hy with ⟨_, rfl⟩ | ⟨n, _⟩
          · rw [g]
          · exact absurd ⟨hF, ⟨b0, b1⟩, ⟨by omega, by omega⟩, by rw [g]; exact b3⟩ n
        · rw [decide_eq_false c2]; exact next (fun c hi => c2 (iff hi).2)
      · rw [if_neg c1]; exact next (fun c hi => c1 (iff hi).1)
    · rw [if_neg (by decide)]
      exact next (fun c hi => nb ⟨c.1, c.2.1.1, c.2.1.2, i0, by rw [hi]; exact c.2.2.2⟩)
end
end Go.Proofs.Ytfkdflhijfkjoaa.A
