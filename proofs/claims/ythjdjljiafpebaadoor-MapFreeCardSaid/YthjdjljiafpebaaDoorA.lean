/- Chapter 9's plain words: what a map that may not be answers; a block outside a map. -/
import Derived.Test.YthjdjljiafpebaaDoorP3
import Derived.Test.YthjdjljiafpebaaDoorP5
namespace Go.Proofs.YthjdjljiafpebaaDoor.P
open Go.RowKit Go.Proofs.YthjdjljiafpebaaDoorW.PrintWords Go.Proofs.YthjdjljiafpebaaDoorW.PrintLast Go.Proofs.YthjdjljiafpebaaDoorW.PrintMore
namespace A
theorem may_total (N U : Int) : ∃ b, bitmap_May.f N U = some b := by
  unfold bitmap_May.f
  by_cases h0 : N ≥ 0
  · rw [if_pos h0]
    by_cases h1 : N ≤ 8
    · rw [if_pos h1]
      by_cases h2 : U ≥ 0
      · rw [if_pos h2, if_pos h0]; exact ⟨_, rfl⟩
      · rw [if_neg h2]; exact ⟨_, rfl⟩
    · rw [if_neg h1]; exact ⟨_, rfl⟩
  · rw [if_neg h0]; exact ⟨_, rfl⟩
variable {N U : Int}
section
variable (h : bitmap_May.f N U = some false)
include h
theorem in_no (i : Int) : bitmap_in.f N U i = some false := by
  unfold bitmap_in.f; rw [h]; rfl
theorem has_no (i : Int) : bitmap_Has.f N U i = some false := by
  unfold bitmap_Has.f; rw [in_no h]; rfl
theorem take_no (i : Int) : bitmap_Take.f N U i = some (N, U, false) := by
  unfold bitmap_Take.f bitmap_turn.f; rw [in_no h]; rfl
theorem give_no (i : Int) : bitmap_Give.f N U i = some (N, U, false) := by
  unfold bitmap_Give.f bitmap_turn.f; rw [in_no h]; rfl
theorem count_no : bitmap_Count.f N U = some 0 := by
  unfold bitmap_Count.f; rw [h]; rfl
theorem free_no : bitmap_Free.f N U = some [] := by
  unfold bitmap_Free.f; rw [h]; rfl
theorem first_no : bitmap_First.f N U = some (-1) := by
  unfold bitmap_First.f; rw [h]; rfl
end
section
variable (h : bitmap_May.f N U = some true) {i : Int} (hi : ¬ (0 ≤ i ∧ i < N))
include h hi
theorem in_out : bitmap_in.f N U i = some false := by
  unfold bitmap_in.f
  rw [h]
  rw [Option.bind_some, if_pos rfl]
  by_cases h0 : i ≥ 0
  · rw [if_pos h0, decide_eq_false (by omega)]
  · rw [if_neg h0]
theorem has_out : bitmap_Has.f N U i = some false := by
  unfold bitmap_Has.f; rw [in_out h hi]; rfl
theorem take_out : bitmap_Take.f N U i = some (N, U, false) := by
  unfold bitmap_Take.f bitmap_turn.f; rw [in_out h hi]; rfl
theorem give_out : bitmap_Give.f N U i = some (N, U, false) := by
  unfold bitmap_Give.f bitmap_turn.f; rw [in_out h hi]; rfl
end
/-- A map that may be is one of these. -/
theorem as_fin (h : bitmap_May.f N U = some true) : ∃ (n : Fin 9) (u : Fin 256), N = (n : Int) ∧ U = (u : Int) := by
  obtain ⟨h0, h1, h2, h3⟩ := Dev.may_true h
  exact ⟨⟨N.toNat, by omega⟩, ⟨U.toNat, by omega⟩, by simp; omega, by simp; omega⟩
theorem as_fin8 {N i : Int} (h1 : N ≤ 8) (hi : 0 ≤ i ∧ i < N) : ∃ j : Fin 8, i = (j : Int) := ⟨⟨i.toNat, by omega⟩, by simp; omega⟩
/-- Taking keeps how many there are, and that the map may be. -/
theorem keeps_all : ∀ n : Fin 9, ∀ u : Fin 256, bitmap_May.f n u = some true → ∀ i : Fin 8, (bitmap_Take.f n u i).any (fun t => t.1 == (n : Int) && bitmap_May.f n t.2.1 == some true) = true := by decide +kernel
theorem take_keeps (h : bitmap_May.f N U = some true) (i : Int) : ∃ U' b, bitmap_Take.f N U i = some (N, U', b) ∧ bitmap_May.f N U' = some true := by
  by_cases hi : 0 ≤ i ∧ i < N
  · obtain ⟨h0, h1, _, _⟩ := Dev.may_true h
    obtain ⟨n, u, rfl, rfl⟩ := as_fin h
    obtain ⟨j, rfl⟩ := as_fin8 h1 hi
    have := keeps_all n u h j
    cases hT : bitmap_Take.f n u j with
    | none => rw [hT] at this; cases this
    | some t =>
      obtain ⟨a, U', b⟩ := t
      rw [hT] at this
      simp only [Option.any_some, Bool.and_eq_true, beq_iff_eq] at this
      obtain ⟨rfl, h2⟩ := this
      exact ⟨U', b, rfl, h2⟩
  · exact ⟨U, false, take_out h hi, h⟩
theorem first_some (N U : Int) : ∃ r, bitmap_First.f N U = some r := by
  obtain ⟨b, h⟩ := may_total N U
  unfold bitmap_First.f
  rw [h]
  exact ⟨_, rfl⟩
end A
end Go.Proofs.YthjdjljiafpebaaDoor.P
