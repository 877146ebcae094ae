/- MapFree's plain law: those that are free, and those that are used, are all; the first one that is free is the least of them. -/
import Derived.Test.YthjdjljiafpebaaDoorA
import Derived.Test.YthjdjljiafpebaaDoorP10
namespace Go.Proofs.YthjdjljiafpebaaDoor.P
open Go.RowKit Go.Proofs.YthjdjljiafpebaaDoorW.PrintWords Go.Proofs.YthjdjljiafpebaaDoorW.PrintLast Go.Proofs.YthjdjljiafpebaaDoorW.PrintMore
namespace B10
set_option maxRecDepth 100000 in
theorem one : ∀ n : Fin 9, ∀ u : Fin 256, bitmap_May.f n u = some true → ∀ i : Fin 8, mooringslaw09_MapFree.f 12 n u i = some true := by decide +kernel
set_option maxRecDepth 100000 in
theorem none_ : ∀ n : Fin 9, ∀ u : Fin 256, bitmap_May.f n u = some true → mooringslaw09_MapFree.f 12 n u (-1) = some true := by decide +kernel
set_option maxRecDepth 100000 in
theorem inside : ∀ n : Fin 9, ∀ u : Fin 256, bitmap_May.f n u = some true → ∀ x ∈ Dev.fl true n u, 0 ≤ x ∧ x < (n : Int) := by decide +kernel
theorem ite_out {α : Type} {i N : Int} (hi : ¬ (0 ≤ i ∧ i < N)) (X E : α) : (if i ≥ 0 then (if i < N then X else E) else E) = E := by
  by_cases h0 : i ≥ 0
  · rw [if_pos h0, if_neg (by omega)]
  · rw [if_neg h0]
theorem rd_mem {l : List Int} {x : Int} (h0 : 0 ≤ x) (h1 : x < (l.length : Int)) : rd l x ∈ l := by
  have h2 : x.toNat < l.length := by omega
  have e : rd l x = l[x.toNat] := by simp [rd, rdOf, List.getD_eq_getElem?_getD, List.getElem?_eq_getElem h2]
  rw [e]
  exact List.getElem_mem h2
theorem l0_out {N U i j : Int} (hi : ¬ (0 ≤ i ∧ i < N)) (hj : ¬ (0 ≤ j ∧ j < N)) {l : List Int} (hl : ∀ x ∈ l, 0 ≤ x ∧ x < N) (x7 : Int) :
    ∀ q x8 x9, mooringslaw09_MapFree.l0 q i l x7 x8 x9 N U = mooringslaw09_MapFree.l0 q j l x7 x8 x9 N U
  | 0, _, _ => by simp only [mooringslaw09_MapFree.l0]
  | q + 1, x8, x9 => by
    have ih := l0_out hi hj hl x7 q (U := U)
    by_cases c : x9 < (l.length : Int)
    · by_cases c0 : 0 ≤ x9
      · have hm := hl _ (rd_mem c0 c)
        have e1 : (rd l x9 == i) = false := by
          simp only [beq_eq_false_iff_ne]
          intro e
          rw [e] at hm
          exact hi hm
        have e2 : (rd l x9 == j) = false := by
          simp only [beq_eq_false_iff_ne]
          intro e
          rw [e] at hm
          exact hj hm
        simp only [mooringslaw09_MapFree.l0, if_pos c, if_pos c0, e1, e2, ih]
      · simp only [mooringslaw09_MapFree.l0, if_pos c, if_neg c0, ih]
    · simp only [mooringslaw09_MapFree.l0, if_neg c, ite_out hi, ite_out hj]
end B10
theorem mapFree_pure (N U i : Int) : ∃ q, mooringslaw09_MapFree.f q N U i = some true := by
  refine ⟨12, ?_⟩
  obtain ⟨b, h⟩ := A.may_total N U
  cases b with
  | false =>
    unfold mooringslaw09_MapFree.f mooringslaw09_awake.f
    rw [A.free_no h, A.first_no h, h]
    simp [mooringslaw09_MapFree.j0]
  | true =>
    obtain ⟨h0, h1, _, _⟩ := Dev.may_true h
    by_cases hi : 0 ≤ i ∧ i < N
    · obtain ⟨n, u, rfl, rfl⟩ := A.as_fin h
      obtain ⟨j, rfl⟩ := A.as_fin8 h1 hi
      exact B10.one n u h j
    · have hn : ¬ (0 ≤ (-1 : Int) ∧ (-1 : Int) < N) := by omega
      have hF : bitmap_Free.f N U = some (Dev.fl true N U) := by
        unfold bitmap_Free.f; rw [h]; rfl
      have hl : ∀ x ∈ Dev.fl true N U, 0 ≤ x ∧ x < N := by
        obtain ⟨n, u, rfl, rfl⟩ := A.as_fin h
        exact B10.inside n u h
      obtain ⟨r, hr⟩ := A.first_some N U
      have e : mooringslaw09_MapFree.f 12 N U i = mooringslaw09_MapFree.f 12 N U (-1) := by
        unfold mooringslaw09_MapFree.f mooringslaw09_awake.f
        rw [hF, hr, h]
        simp only [Option.bind_some, if_true, Bool.not_true, mooringslaw09_MapFree.j0, Bool.false_eq_true, if_false, B10.l0_out hi hn hl]
      rw [e]
      obtain ⟨n, u, rfl, rfl⟩ := A.as_fin h
      exact B10.none_ n u h
end Go.Proofs.YthjdjljiafpebaaDoor.P
