/- What detmap's Base, Block, Who and Which answer, in plain numbers. -/
import Derived.Test.YtfkdflhijfkjoaaA
import Derived.Test.YtfkdflhijfkjoaaP5
import Derived.Test.YtfkdflhijfkjoaaP6
import Derived.Test.YtfkdflhijfkjoaaP7
namespace Go.Proofs.Ytfkdflhijfkjoaa.A
open Go.RowKit Go.Proofs.Ytfkdflhijfkjoaa.P Go.Proofs.YtfkdflhijfkjoaaW.PrintWords Go.Proofs.YtfkdflhijfkjoaaW.PrintLast Go.Proofs.YtfkdflhijfkjoaaW.PrintMore

/-- A remainder's row lies in the shared ports. -/
theorem row_le {R E S r : Int} (hr : r < R) (hE : 0 ≤ E) (h : R * E ≤ S) (r0 : 0 ≤ r) : 0 ≤ r * E ∧ r * E + E ≤ S := by
  have a : (r + 1) * E ≤ R * E := Int.mul_le_mul_of_nonneg_right (by omega) hE
  rw [Int.add_mul, Int.one_mul] at a
  exact ⟨Int.mul_nonneg r0 hE, by omega⟩
section
variable {x0 x1 x2 x3 x4 x5 x6 x7 s0 s1 R E B : Int} {F : Bool}
theorem base_ok (h : Facts x0 x1 x2 x3 x4 x5 x6 x7 s0 s1 R E B F) (k : Nat) (sub : Int) :
    ∃ y, detmap_Base.f (k + 1) x0 x1 x2 x3 x4 x5 x6 x7 sub = some y ∧
      ((F = true ∧ 0 ≤ sub ∧ sub < s0 ∧ y = (sub / R, x4 + sub % R * E, x4 + sub % R * E + E - 1, true)) ∨ (¬(F = true ∧ 0 ≤ sub ∧ sub < s0) ∧ y = (0, 0, 0, false))) := by
  unfold detmap_Base.f
  have jt : detmap_Base.j0 (k + 1) sub true x0 x1 x2 x3 x4 x5 x6 x7 = some (0, 0, 0, false) := by rw [detmap_Base.j0, if_pos rfl]
  rw [h.fit, Option.bind_some]
  cases hF : F with
  | false => rw [if_neg (by decide), jt]; exact ⟨_, rfl, .inr ⟨(by rintro ⟨a, _⟩; cases a), rfl⟩⟩
  | true =>
    rw [if_pos rfl]
    by_cases c0 : sub < 0
    · rw [if_pos c0, jt]; exact ⟨_, rfl, .inr ⟨by rintro ⟨_, a, _⟩; omega, rfl⟩⟩
    · rw [if_neg c0, h.size0, Option.bind_some]
      by_cases c1 : sub ≥ s0
      · rw [decide_eq_true c1, jt]; exact ⟨_, rfl, .inr ⟨by rintro ⟨_, _, a⟩; omega, rfl⟩⟩
      · rw [decide_eq_false c1, detmap_Base.j0, if_neg (by decide), h.ratio, Option.bind_some, h.each, Option.bind_some]
        have N := nums h hF
        have e1 := N.r; have e2 := N.e; have e3 := N.q0; have e4 := N.lo; have e5 := N.dyn
        rw [if_neg (by omega)]
        refine ⟨_, rfl, .inl ⟨rfl, by omega, by omega, ?_⟩⟩
        rw [Int.tdiv_eq_ediv_of_nonneg (by omega), Int.tmod_eq_emod_of_nonneg (by omega)]
        have a : 0 ≤ sub / R := Int.ediv_nonneg (by omega) (by omega)
        have b : sub / R ≤ sub := Int.ediv_le_self _ (by omega)
        have c := Int.emod_nonneg sub (b := R) (by omega)
        have d := Int.emod_lt_of_pos sub (b := R) (by omega)
        obtain ⟨f, g⟩ := row_le d (by omega) N.re.1 c
        generalize sub % R * E = m at *
        rw [w64 (x := sub / R) (by omega) (by omega), w64 (x := m) (by omega) (by omega), w64 (x := x4 + m) (by omega) (by omega), w64 (x := x4 + m + E) (by omega) (by omega), w64 (x := x4 + m + E - 1) (by omega) (by omega)]
theorem block_ok (h : Facts x0 x1 x2 x3 x4 x5 x6 x7 s0 s1 R E B F) (k : Nat) (at' blk : Int) :
    ∃ y, detmap_Block.f (k + 1) x0 x1 x2 x3 x4 x5 x6 x7 at' blk = some y ∧
      ((F = true ∧ 0 ≤ at' ∧ at' < s1 ∧ 0 ≤ blk ∧ blk < B ∧ y = (at', x5 - x6 + 1 + blk * x7, x5 - x6 + 1 + blk * x7 + x7 - 1, true)) ∨ (¬(F = true ∧ 0 ≤ at' ∧ at' < s1 ∧ 0 ≤ blk ∧ blk < B) ∧ y = (0, 0, 0, false))) := by
  unfold detmap_Block.f
  have jt : detmap_Block.j0 (k + 1) at' blk true x0 x1 x2 x3 x4 x5 x6 x7 = some (0, 0, 0, false) := by rw [detmap_Block.j0, if_pos rfl]
  by_cases c0 : at' < 0
  · rw [if_pos c0, jt]; exact ⟨_, rfl, .inr ⟨by rintro ⟨_, a, _⟩; omega, rfl⟩⟩
  · rw [if_neg c0, h.size1, Option.bind_some]
    by_cases c1 : at' ≥ s1
    · rw [if_pos c1, jt]; exact ⟨_, rfl, .inr ⟨by rintro ⟨_, _, a, _⟩; omega, rfl⟩⟩
    · rw [if_neg c1]
      by_cases c2 : blk < 0
      · rw [if_pos c2, jt]; exact ⟨_, rfl, .inr ⟨by rintro ⟨_, _, _, a, _⟩; omega, rfl⟩⟩
      · rw [if_neg c2, h.blocks, Option.bind_some]
        by_cases c3 : blk ≥ B
        · rw [decide_eq_true c3, jt]; exact ⟨_, rfl, .inr ⟨by rintro ⟨_, _, _, _, a⟩; omega, rfl⟩⟩
        · rw [decide_eq_false c3, detmap_Block.j0, if_neg (by decide)]
          cases hF : F with
          | false => have := (h.no hF).2; omega
          | true =>
            have N := nums h hF
            have e4 := N.lo; have e5 := N.dyn; have e6 := N.blk; have e7 := N.b
            refine ⟨_, rfl, .inl ⟨rfl, by omega, by omega, by omega, by omega, ?_⟩⟩
            obtain ⟨f, g⟩ := row_le (r := blk) (show blk < B by omega) (by omega) N.bx.1 (by omega)
            generalize blk * x7 = m at *
            rw [w64 (x := x5 - x6) (by omega) (by omega), w64 (x := x5 - x6 + 1) (by omega) (by omega), w64 (x := m) (by omega) (by omega), w64 (x := x5 - x6 + 1 + m) (by omega) (by omega), w64 (x := x5 - x6 + 1 + m + x7) (by omega) (by omega), w64 (x := x5 - x6 + 1 + m + x7 - 1) (by omega) (by omega)]
/-- Where a port is a subscriber's. -/
def IsWho (x4 x5 s0 s1 R E : Int) (F : Bool) (at' port : Int) : Prop :=
  F = true ∧ (0 ≤ at' ∧ at' < s1) ∧ (x4 ≤ port ∧ port ≤ x5) ∧ (port - x4) / E < R ∧ at' * R + (port - x4) / E < s0
theorem who_ok (h : Facts x0 x1 x2 x3 x4 x5 x6 x7 s0 s1 R E B F) (k : Nat) (at' port : Int) :
    ∃ y, detmap_Who.f (k + 2) x0 x1 x2 x3 x4 x5 x6 x7 at' port = some y ∧
      ((IsWho x4 x5 s0 s1 R E F at' port ∧ y = at' * R + (port - x4) / E) ∨ (¬ IsWho x4 x5 s0 s1 R E F at' port ∧ y = -1)) := by
  unfold detmap_Who.f
  have jt : detmap_Who.j0 (k + 2) at' port true x0 x1 x2 x3 x4 x5 x6 x7 = some (-1) := by rw [detmap_Who.j0, if_pos rfl]
  rw [h.fit, Option.bind_some]
  cases hF : F with
  | false => rw [if_neg (by decide), jt]; exact ⟨_, rfl, .inr ⟨(by rintro ⟨a, _⟩; cases a), rfl⟩⟩
  | true =>
    rw [if_pos rfl]
    by_cases c0 : at' < 0
    · rw [if_pos c0, jt]; exact ⟨_, rfl, .inr ⟨by rintro ⟨_, a, _⟩; omega, rfl⟩⟩
    · rw [if_neg c0, h.size1, Option.bind_some]
      by_cases c1 : at' ≥ s1
      · rw [if_pos c1, jt]; exact ⟨_, rfl, .inr ⟨by rintro ⟨_, a, _⟩; omega, rfl⟩⟩
      · rw [if_neg c1]
        by_cases c2 : port < x4
        · rw [if_pos c2, jt]; exact ⟨_, rfl, .inr ⟨by rintro ⟨_, _, a, _⟩; omega, rfl⟩⟩
        · rw [if_neg c2]
          by_cases c3 : port > x5
          · rw [decide_eq_true c3, jt]; exact ⟨_, rfl, .inr ⟨by rintro ⟨_, _, a, _⟩; omega, rfl⟩⟩
          · rw [decide_eq_false c3, detmap_Who.j0, if_neg (by decide), h.ratio, Option.bind_some, h.each, Option.bind_some]
            have N := nums h hF
            have e1 := N.r; have e2 := N.e; have e3 := N.q0; have e4 := N.lo; have e5 := N.dyn; have e6 := N.q1
            rw [if_neg (by omega), w64 (x := port - x4) (by omega) (by omega), Int.tdiv_eq_ediv_of_nonneg (by omega)]
            have a : 0 ≤ (port - x4) / E := Int.ediv_nonneg (by omega) (by omega)
            have b : (port - x4) / E ≤ port - x4 := Int.ediv_le_self _ (by omega)
            have m0 : 0 ≤ at' * R := Int.mul_nonneg (by omega) (by omega)
            have m1 : at' * R ≤ 4 * R := Int.mul_le_mul_of_nonneg_right (by omega) (by omega)
            unfold IsWho
            generalize (port - x4) / E = q at *
            generalize at' * R = m at *
            rw [w64 (x := q) (by omega) (by omega), w64 (x := m) (by omega) (by omega), w64 (x := m + q) (by omega) (by omega)]
            obtain ⟨y, hy, hc⟩ := base_ok h k (m + q)
            have j1t : detmap_Who.j1 (k + 1) (m + q) true = some (-1) := by rw [detmap_Who.j1, if_pos rfl]
            have j1f : detmap_Who.j1 (k + 1) (m + q) false = some (m + q) := by rw [detmap_Who.j1, if_neg (by decide)]
            rw [hy, Option.bind_some]
            by_cases c4 : q ≥ R
            · rw [if_pos c4, j1t]; exact ⟨_, rfl, .inr ⟨by rintro ⟨_, _, _, a, _⟩; omega, rfl⟩⟩
            · rw [if_neg c4]
              rcases hc with ⟨_, g1, g2, rfl⟩ | ⟨g, rfl⟩
              · have f := Int.emod_nonneg (m + q) (b := R) (by omega)
                have z := Int.mul_nonneg f (show 0 ≤ E by omega)
                rw [if_pos rfl]
                have ne : ((x4 + (m + q) % R * E == 0) : Bool) = false := by rw [beq_eq_false_iff_ne]; omega
                show ∃ y, detmap_Who.j1 (k + 1) (m + q) ((m + q) / R == 0 && (x4 + (m + q) % R * E == 0 && (x4 + (m + q) % R * E + E - 1 == 0))) = some y ∧ _
                rw [ne, Bool.false_and, Bool.and_false, j1f]
                exact ⟨_, rfl, .inl ⟨⟨rfl, by omega, by omega, by omega, by omega⟩, rfl⟩⟩
              · rw [if_neg (by decide), j1t]
                exact ⟨_, rfl, .inr ⟨by rintro ⟨_, _, _, a, b⟩; exact g ⟨hF, by omega, b⟩, rfl⟩⟩
/-- Where a port is of a block. -/
def IsWhich (x5 x6 x7 s1 B : Int) (F : Bool) (at' port : Int) : Prop :=
  F = true ∧ (0 ≤ at' ∧ at' < s1) ∧ (x5 - x6 + 1 ≤ port ∧ port ≤ x5) ∧ (port - (x5 - x6 + 1)) / x7 < B
theorem which_ok (h : Facts x0 x1 x2 x3 x4 x5 x6 x7 s0 s1 R E B F) (k : Nat) (at' port : Int) :
    ∃ y, detmap_Which.f (k + 2) x0 x1 x2 x3 x4 x5 x6 x7 at' port = some y ∧
      ((IsWhich x5 x6 x7 s1 B F at' port ∧ y = (port - (x5 - x6 + 1)) / x7) ∨ (¬ IsWhich x5 x6 x7 s1 B F at' port ∧ y = -1)) := by
  unfold detmap_Which.f
  have jt : detmap_Which.j0 (k + 2) port true x0 x1 x2 x3 x4 x5 x6 x7 = some (-1) := by rw [detmap_Which.j0, if_pos rfl]
  rw [h.fit, Option.bind_some]
  cases hF : F with
  | false => rw [if_neg (by decide), jt]; exact ⟨_, rfl, .inr ⟨(by rintro ⟨a, _⟩; cases a), rfl⟩⟩
  | true =>
    rw [if_pos rfl]
    by_cases c0 : at' < 0
    · rw [if_pos c0, jt]; exact ⟨_, rfl, .inr ⟨by rintro ⟨_, a, _⟩; omega, rfl⟩⟩
    · rw [if_neg c0, h.size1, Option.bind_some]
      by_cases c1 : at' ≥ s1
      · rw [decide_eq_true c1, jt]; exact ⟨_, rfl, .inr ⟨by rintro ⟨_, a, _⟩; omega, rfl⟩⟩
      · have N := nums h hF
        have e4 := N.lo; have e5 := N.dyn; have e6 := N.blk; have e7 := N.b
        have j1t : detmap_Which.j1 (k + 1) port (x5 - x6 + 1) true x0 x1 x2 x3 x4 x5 x6 x7 = some (-1) := by rw [detmap_Which.j1, if_pos rfl]
        rw [decide_eq_false c1, detmap_Which.j0, if_neg (by decide), w64 (x := x5 - x6) (by omega) (by omega), w64 (x := x5 - x6 + 1) (by omega) (by omega)]
        by_cases c2 : port < x5 - x6 + 1
        · rw [if_pos c2, j1t]; exact ⟨_, rfl, .inr ⟨by rintro ⟨_, _, a, _⟩; omega, rfl⟩⟩
        · rw [if_neg c2]
          by_cases c3 : port > x5
          · rw [decide_eq_true c3, j1t]; exact ⟨_, rfl, .inr ⟨by rintro ⟨_, _, a, _⟩; omega, rfl⟩⟩
          · rw [decide_eq_false c3, detmap_Which.j1, if_neg (by decide), if_neg (by omega), h.blocks, Option.bind_some, w64 (x := port - (x5 - x6 + 1)) (by omega) (by omega), Int.tdiv_eq_ediv_of_nonneg (by omega)]
            have a : 0 ≤ (port - (x5 - x6 + 1)) / x7 := Int.ediv_nonneg (by omega) (by omega)
            have b : (port - (x5 - x6 + 1)) / x7 ≤ port - (x5 - x6 + 1) := Int.ediv_le_self _ (by omega)
            unfold IsWhich
            generalize (port - (x5 - x6 + 1)) / x7 = q at *
            rw [w64 (x := q) (by omega) (by omega)]
            by_cases c4 : q < B
            · rw [if_pos c4]; exact ⟨_, rfl, .inl ⟨⟨rfl, by omega, by omega, c4⟩, rfl⟩⟩
            · rw [if_neg c4]; exact ⟨_, rfl, .inr ⟨by rintro ⟨_, _, _, a⟩; omega, rfl⟩⟩
end
end Go.Proofs.Ytfkdflhijfkjoaa.A
