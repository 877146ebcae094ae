/- The arithmetic of a mapping that fits: rows of ports, and of blocks. -/
import Derived.Test.YtfkdflhijfkjoaaB
namespace Go.Proofs.Ytfkdflhijfkjoaa.A
open Go.RowKit Go.Proofs.Ytfkdflhijfkjoaa.P Go.Proofs.YtfkdflhijfkjoaaW.PrintWords Go.Proofs.YtfkdflhijfkjoaaW.PrintLast Go.Proofs.YtfkdflhijfkjoaaW.PrintMore
theorem div_eq {a b q c : Int} (h : a = q * b + c) (h0 : 0 ≤ c) (h1 : c < b) : a / b = q ∧ a % b = c :=
  (Int.ediv_emod_unique (by omega)).2 ⟨by rw [h, Int.mul_comm q b]; omega, h0, h1⟩
section
variable {x4 x5 x6 x7 s0 s1 R E B : Int}
theorem sub_of (N : Nums x4 x5 x6 x7 s0 s1 R E B) {sub : Int} (h0 : 0 ≤ sub) (h1 : sub < s0) :
    (0 ≤ sub / R ∧ sub / R < s1) ∧ (0 ≤ sub % R ∧ sub % R < R) ∧ sub = sub / R * R + sub % R ∧ 0 ≤ sub % R * E ∧ sub % R * E + E ≤ x5 - x4 + 1 - x6 := by
  have a := N.r
  have e := N.e
  have c := Int.emod_nonneg sub (b := R) (by omega)
  have d := Int.emod_lt_of_pos sub (b := R) (by omega)
  have f := row_le d (by omega) N.re.1 c
  have g := Int.emod_add_mul_ediv sub R
  rw [Int.mul_comm] at g
  refine ⟨⟨Int.ediv_nonneg h0 (by omega), ?_⟩, ⟨c, d⟩, by omega, f⟩
  have := N.rs.2
  rw [Int.mul_comm] at this
  exact (Int.ediv_lt_iff_lt_mul (by omega)).2 (by omega)
theorem who_lin (N : Nums x4 x5 x6 x7 s0 s1 R E B) {F : Bool} {at' port : Int} (h : IsWho x4 x5 s0 s1 R E F at' port) :
    x4 ≤ port ∧ port ≤ x5 - x6 ∧ 0 ≤ (port - x4) / E ∧ 0 ≤ at' * R := by
  obtain ⟨_, ⟨a0, a1⟩, ⟨p0, p1⟩, q, _⟩ := h
  have a := N.r
  have e := N.e
  have r := N.re.1
  have := (Int.ediv_lt_iff_lt_mul (by omega)).1 q
  exact ⟨p0, by omega, Int.ediv_nonneg (by omega) (by omega), Int.mul_nonneg a0 (by omega)⟩
theorem blk_of (N : Nums x4 x5 x6 x7 s0 s1 R E B) {blk : Int} (h0 : 0 ≤ blk) (h1 : blk < B) : 0 ≤ blk * x7 ∧ blk * x7 + x7 ≤ x6 := by
  have := N.blk
  exact row_le h1 (by omega) N.bx.1 h0
theorem which_lin (N : Nums x4 x5 x6 x7 s0 s1 R E B) {F : Bool} {at' port : Int} (h : IsWhich x5 x6 x7 s1 B F at' port) :
    x5 - x6 + 1 ≤ port ∧ port ≤ x5 ∧ 0 ≤ (port - (x5 - x6 + 1)) / x7 := by
  obtain ⟨_, _, ⟨p0, p1⟩, _⟩ := h
  have := N.blk
  exact ⟨p0, p1, Int.ediv_nonneg (by omega) (by omega)⟩
/-- A port in a row of E from r * E: its row's number is r. -/
theorem in_row {E p r : Int} (h0 : r * E ≤ p) (h1 : p < r * E + E) : p / E = r := (div_eq (c := p - r * E) (by omega) (by omega) (by omega)).1
theorem row_of {E p : Int} (hE : 0 < E) : p / E * E ≤ p ∧ p < p / E * E + E := by
  have a := Int.ediv_mul_le p (b := E) (by omega)
  have b := Int.lt_ediv_add_one_mul_self p hE
  rw [Int.add_mul, Int.one_mul] at b
  exact ⟨a, b⟩
end
end Go.Proofs.Ytfkdflhijfkjoaa.A
