/- What the functions of the packages addr and detmap answer, in plain numbers: each of them answers, whatever its integers (no panic), and where the mapping fits, what the numbers are. -/
import Derived.Test.YtfkdflhijfkjoaaP8
import Derived.OpenShut
namespace Go.Proofs.Ytfkdflhijfkjoaa.A
open Go.RowKit Go.Proofs.Ytfkdflhijfkjoaa.P Go.Proofs.YtfkdflhijfkjoaaW.PrintWords Go.Proofs.YtfkdflhijfkjoaaW.PrintLast Go.Proofs.YtfkdflhijfkjoaaW.PrintMore

theorem w64 {x : Int} (h0 : -9223372036854775808 ≤ x) (h1 : x ≤ 9223372036854775807) : wrap64 x = x := by unfold wrap64; omega
theorem shl_fin : ∀ m : Fin 33, 1 ≤ shl .i64 1 (wrap64 (32 - (m.val : Int))) ∧ shl .i64 1 (wrap64 (32 - (m.val : Int))) ≤ 4294967296 := by decide +kernel
theorem shl_le {n : Int} (h0 : 0 ≤ n) (h1 : n ≤ 32) : 1 ≤ shl .i64 1 (wrap64 (32 - n)) ∧ shl .i64 1 (wrap64 (32 - n)) ≤ 4294967296 := by
  have h := shl_fin ⟨n.toNat, by omega⟩
  have e : ((n.toNat : Nat) : Int) = n := by omega
  simp only [e] at h
  exact h
theorem may_ok (b n : Int) : ∃ r, addr_May.f b n = some r ∧ (r = true → 0 ≤ n ∧ n ≤ 32) := by
  unfold addr_May.f
  by_cases h0 : n ≥ 0
  · by_cases h1 : n ≤ 32
    · rw [if_pos h0, if_pos h1, w64 (x := 32 - n) (by omega) (by omega), if_pos (show 0 ≤ 32 - n by omega)]
      split
      · split
        · exact ⟨_, rfl, fun _ => ⟨h0, h1⟩⟩
        · exact ⟨_, rfl, fun _ => ⟨h0, h1⟩⟩
      · exact ⟨_, rfl, fun _ => ⟨h0, h1⟩⟩
    · rw [if_pos h0, if_neg h1]; exact ⟨_, rfl, fun h => by cases h⟩
  · rw [if_neg h0]; exact ⟨_, rfl, fun h => by cases h⟩
theorem size_ok (b n : Int) : ∃ s, addr_Size.f b n = some s ∧ 0 ≤ s ∧ s ≤ 4294967296 := by
  unfold addr_Size.f
  obtain ⟨r, hr, h⟩ := may_ok b n
  rw [hr, Option.bind_some]
  cases r with
  | false => exact ⟨0, rfl, by omega, by omega⟩
  | true =>
    obtain ⟨h0, h1⟩ := h rfl
    have := shl_le h0 h1
    rw [if_pos rfl, if_pos (by rw [w64 (by omega) (by omega)]; omega)]
    exact ⟨_, rfl, by omega, by omega⟩
theorem index_ok (k : Nat) (b n a : Int) : ∃ r, addr_Index.f (k + 1) b n a = some r := by
  unfold addr_Index.f
  obtain ⟨r, hr, h⟩ := may_ok b n
  have j : ∀ x, ∃ r, addr_Index.j0 (k + 1) a x b n = some r := by
    intro x; rw [addr_Index.j0]; split <;> exact ⟨_, rfl⟩
  rw [hr, Option.bind_some]
  cases r with
  | false => rw [if_neg (by decide)]; exact j _
  | true =>
    obtain ⟨h0, h1⟩ := h rfl
    rw [if_pos rfl, if_pos (show 0 ≤ wrap64 (32 - n) by rw [w64 (by omega) (by omega)]; omega)]
    split
    · exact j _
    · split <;> exact j _
theorem meet_ok (k : Nat) (b n c m : Int) : ∃ r, addr_Meet.f (k + 1) b n c m = some r := by
  unfold addr_Meet.f
  obtain ⟨r, hr, _⟩ := may_ok b n
  obtain ⟨q, hq, _⟩ := may_ok c m
  obtain ⟨i, hi⟩ := index_ok k b n c
  obtain ⟨j, hj⟩ := index_ok k c m b
  rw [hr, Option.bind_some, hq, Option.bind_some, hi, Option.bind_some, hj, Option.bind_some]
  repeat' split
  all_goals exact ⟨_, rfl⟩

/-- What the mapping's numbers are. -/
structure Facts (x0 x1 x2 x3 x4 x5 x6 x7 s0 s1 R E B : Int) (F : Bool) : Prop where
  size0 : addr_Size.f x0 x1 = some s0
  size1 : addr_Size.f x2 x3 = some s1
  ratio : detmap_Ratio.f x0 x1 x2 x3 x4 x5 x6 x7 = some R
  fit : detmap_Fit.f x0 x1 x2 x3 x4 x5 x6 x7 = some F
  each : detmap_Each.f x0 x1 x2 x3 x4 x5 x6 x7 = some E
  blocks : detmap_Blocks.f x0 x1 x2 x3 x4 x5 x6 x7 = some B
  z0 : 0 ≤ s0 ∧ s0 ≤ 4294967296
  z1 : 0 ≤ s1 ∧ s1 ≤ 4294967296
  no : F = false → E = 0 ∧ B = 0
  yes : F = true → (1 ≤ s0 ∧ s0 ≤ 32) ∧ (1 ≤ s1 ∧ s1 ≤ 4) ∧ R = (s0 - 1) / s1 + 1 ∧ (1 ≤ x4 ∧ x4 ≤ x5 ∧ x5 ≤ 65535) ∧ (0 ≤ x6 ∧ x6 ≤ x5 - x4) ∧ (1 ≤ x7 ∧ x7 ≤ 65535) ∧ R ≤ x5 - x4 + 1 - x6 ∧ E = (x5 - x4 + 1 - x6) / R ∧ B = x6 / x7 ∧ B ≤ 8

theorem ratio_ok (x0 x1 x2 x3 x4 x5 x6 x7 : Int) {s0 s1 : Int} (h0 : addr_Size.f x0 x1 = some s0) (h1 : addr_Size.f x2 x3 = some s1) (z0 : 0 ≤ s0 ∧ s0 ≤ 4294967296) (z1 : 0 ≤ s1 ∧ s1 ≤ 4294967296) :
    ∃ R, detmap_Ratio.f x0 x1 x2 x3 x4 x5 x6 x7 = some R ∧ (1 ≤ s0 → 1 ≤ s1 → R = (s0 - 1) / s1 + 1) := by
  unfold detmap_Ratio.f
  rw [h0, Option.bind_some, h1, Option.bind_some]
  by_cases hm : mn s0 s1 = 0
  · rw [if_pos hm]
    refine ⟨_, rfl, fun a b => ?_⟩
    unfold mn at hm
    split at hm <;> omega
  · rw [if_neg hm]
    unfold mn at hm
    have : 1 ≤ s0 ∧ 1 ≤ s1 := by split at hm <;> omega
    rw [if_neg (by omega)]
    refine ⟨_, rfl, fun _ _ => ?_⟩
    rw [w64 (x := s0 - 1) (by omega) (by omega), Int.tdiv_eq_ediv_of_nonneg (by omega)]
    have a : 0 ≤ (s0 - 1) / s1 := Int.ediv_nonneg (by omega) (by omega)
    have b : (s0 - 1) / s1 ≤ s0 - 1 := Int.ediv_le_self _ (by omega)
    generalize (s0 - 1) / s1 = q at *
    rw [w64 (x := q) (by omega) (by omega), w64 (by omega) (by omega)]

theorem facts {x0 x1 x2 x3 x4 x5 x6 x7 : Int} (u4 : (Lit.int .i64 x4).wf = true) (u5 : (Lit.int .i64 x5).wf = true) (u6 : (Lit.int .i64 x6).wf = true) (u7 : (Lit.int .i64 x7).wf = true) :
    ∃ s0 s1 R E B F, Facts x0 x1 x2 x3 x4 x5 x6 x7 s0 s1 R E B F := by
  obtain ⟨s0, h0, z0⟩ := size_ok x0 x1
  obtain ⟨s1, h1, z1⟩ := size_ok x2 x3
  obtain ⟨R, hR, hR1⟩ := ratio_ok x0 x1 x2 x3 x4 x5 x6 x7 h0 h1 z0 z1
  obtain ⟨m, hm⟩ := meet_ok 2 x0 x1 x2 x3
  have b4 := Go.bounds_i64 u4
  have b5 := Go.bounds_i64 u5
  have b6 := Go.bounds_i64 u6
  have b7 := Go.bounds_i64 u7
  obtain ⟨F, hF, hy⟩ : ∃ F, detmap_Fit.f x0 x1 x2 x3 x4 x5 x6 x7 = some F ∧ (F = true → (1 ≤ s0 ∧ s0 ≤ 32) ∧ (1 ≤ s1 ∧ s1 ≤ 4) ∧ (1 ≤ x4 ∧ x4 ≤ x5 ∧ x5 ≤ 65535) ∧ (0 ≤ x6 ∧ x6 ≤ x5 - x4) ∧ (1 ≤ x7 ∧ x7 ≤ 65535) ∧ R ≤ x5 - x4 + 1 - x6 ∧ x6 / x7 ≤ 8) := by
    unfold detmap_Fit.f detmap_shared.f
    rw [h0, Option.bind_some, h1, Option.bind_some, hm, Option.bind_some, Option.bind_some, hR, Option.bind_some]
    refine ⟨_, rfl, fun h => ?_⟩
    simp only [Bool.and_eq_true, Dev.inB, decide_eq_true_eq] at h
    obtain ⟨⟨⟨a1, a2⟩, a3, a4⟩, _, ⟨⟨a5, a6⟩, a7⟩, ⟨⟨a8, a9⟩, ⟨a10, a11⟩, a12⟩, a13⟩ := h
    rw [w64 (x := x5 - x4) (by omega) (by omega)] at a9 a13
    rw [w64 (x := x5 - x4 + 1) (by omega) (by omega), w64 (x := x5 - x4 + 1 - x6) (by omega) (by omega)] at a13
    rw [Int.tdiv_eq_ediv_of_nonneg a8] at a12
    have d0 : 0 ≤ x6 / x7 := Int.ediv_nonneg a8 (by omega)
    have d1 : x6 / x7 ≤ x6 := Int.ediv_le_self _ a8
    rw [w64 (by omega) (by omega)] at a12
    exact ⟨⟨a1, a2⟩, ⟨a3, a4⟩, ⟨a5, a6, a7⟩, ⟨a8, a9⟩, ⟨a10, a11⟩, a13, a12⟩
  cases F with
  | false =>
    exact ⟨s0, s1, R, 0, 0, false, h0, h1, hR, hF, by unfold detmap_Each.f; rw [hF]; rfl, by unfold detmap_Blocks.f; rw [hF]; rfl, z0, z1, fun _ => ⟨rfl, rfl⟩, fun h => by cases h⟩
  | true =>
    obtain ⟨a, b, c, d, e, f, g⟩ := hy rfl
    have hr := hR1 a.1 b.1
    have r0 : 0 ≤ (s0 - 1) / s1 := Int.ediv_nonneg (by omega) (by omega)
    have e0 : 0 ≤ (x5 - x4 + 1 - x6) / R := Int.ediv_nonneg (by omega) (by omega)
    have e1 : (x5 - x4 + 1 - x6) / R ≤ x5 - x4 + 1 - x6 := Int.ediv_le_self _ (by omega)
    have d0 : 0 ≤ x6 / x7 := Int.ediv_nonneg (by omega) (by omega)
    refine ⟨s0, s1, R, (x5 - x4 + 1 - x6) / R, x6 / x7, true, h0, h1, hR, hF, ?_, ?_, z0, z1, (fun h => by cases h), fun _ => ⟨a, b, hr, c, d, e, f, rfl, rfl, g⟩⟩
    · unfold detmap_Each.f detmap_shared.f
      rw [hF, Option.bind_some, if_pos rfl, Option.bind_some, hR, Option.bind_some, if_neg (by omega), w64 (x := x5 - x4) (by omega) (by omega), w64 (x := x5 - x4 + 1) (by omega) (by omega), w64 (x := x5 - x4 + 1 - x6) (by omega) (by omega), Int.tdiv_eq_ediv_of_nonneg (by omega), w64 (by omega) (by omega)]
    · unfold detmap_Blocks.f
      rw [hF, Option.bind_some, if_pos rfl, if_neg (by omega), Int.tdiv_eq_ediv_of_nonneg (by omega), w64 (by omega) (by omega)]

/-- The products of a mapping that fits. -/
structure Nums (x4 x5 x6 x7 s0 s1 R E B : Int) : Prop where
  q0 : 1 ≤ s0 ∧ s0 ≤ 32
  q1 : 1 ≤ s1 ∧ s1 ≤ 4
  lo : 1 ≤ x4 ∧ x4 ≤ x5 ∧ x5 ≤ 65535
  dyn : 0 ≤ x6 ∧ x6 ≤ x5 - x4
  blk : 1 ≤ x7 ∧ x7 ≤ 65535
  r : 1 ≤ R ∧ R ≤ 32
  e : 1 ≤ E ∧ E ≤ 65535
  b : 0 ≤ B ∧ B ≤ 8
  rs : (R - 1) * s1 < s0 ∧ s0 ≤ R * s1
  re : R * E ≤ x5 - x4 + 1 - x6 ∧ x5 - x4 + 1 - x6 < R * (E + 1)
  bx : B * x7 ≤ x6 ∧ x6 < (B + 1) * x7
theorem nums {x0 x1 x2 x3 x4 x5 x6 x7 s0 s1 R E B : Int} {F : Bool} (h : Facts x0 x1 x2 x3 x4 x5 x6 x7 s0 s1 R E B F) (hF : F = true) : Nums x4 x5 x6 x7 s0 s1 R E B := by
  obtain ⟨a, b, hr, c, d, e, f, he, hb, g⟩ := h.yes hF
  have r0 : 0 ≤ (s0 - 1) / s1 := Int.ediv_nonneg (by omega) (by omega)
  have r1 : (s0 - 1) / s1 ≤ s0 - 1 := Int.ediv_le_self _ (by omega)
  have e0 : 1 ≤ (x5 - x4 + 1 - x6) / R := (Int.le_ediv_iff_mul_le (by omega)).2 (by omega)
  have e1 : (x5 - x4 + 1 - x6) / R ≤ x5 - x4 + 1 - x6 := Int.ediv_le_self _ (by omega)
  have d0 : 0 ≤ x6 / x7 := Int.ediv_nonneg (by omega) (by omega)
  refine ⟨a, b, c, d, e, by omega, by omega, by omega, ⟨?_, ?_⟩, ⟨?_, ?_⟩, ?_, ?_⟩
  · have := Int.ediv_mul_le (s0 - 1) (b := s1) (by omega)
    rw [hr, Int.add_sub_cancel]; omega
  · have := Int.lt_ediv_add_one_mul_self (s0 - 1) (b := s1) (by omega)
    rw [hr]; omega
  · rw [he, Int.mul_comm]; exact Int.ediv_mul_le _ (by omega)
  · rw [he, Int.mul_comm]; exact Int.lt_ediv_add_one_mul_self _ (by omega)
  · rw [hb]; exact Int.ediv_mul_le _ (by omega)
  · rw [hb]; exact Int.lt_ediv_add_one_mul_self _ (by omega)
end Go.Proofs.Ytfkdflhijfkjoaa.A
