/- MapGives' plain law: what is given is free. -/
import Derived.Test.YthjdjljiafpebaaDoorA
import Derived.Test.YthjdjljiafpebaaDoorP13
namespace Go.Proofs.YthjdjljiafpebaaDoor.P
open Go.RowKit Go.Proofs.YthjdjljiafpebaaDoorW.PrintWords Go.Proofs.YthjdjljiafpebaaDoorW.PrintLast Go.Proofs.YthjdjljiafpebaaDoorW.PrintMore
namespace B13
set_option maxRecDepth 100000 in
theorem one : ∀ n : Fin 9, ∀ u : Fin 256, bitmap_May.f n u = some true → ∀ i : Fin 8, mooringslaw09_MapGives.f 1 n u i = some true := by decide +kernel
end B13
theorem mapGives_pure (N U i : Int) : ∃ q, mooringslaw09_MapGives.f q N U i = some true := by
  refine ⟨1, ?_⟩
  obtain ⟨b, h⟩ := A.may_total N U
  cases b with
  | false =>
    unfold mooringslaw09_MapGives.f mooringslaw09_awake.f
    simp [A.give_no h, A.has_no h, A.first_no h, mooringslaw09_MapGives.j0]
  | true =>
    by_cases hi : 0 ≤ i ∧ i < N
    · obtain ⟨h0, h1, _, _⟩ := Dev.may_true h
      obtain ⟨n, u, rfl, rfl⟩ := A.as_fin h
      obtain ⟨j, rfl⟩ := A.as_fin8 h1 hi
      exact B13.one n u h j
    · obtain ⟨r, hF⟩ := A.first_some N U
      unfold mooringslaw09_MapGives.f mooringslaw09_awake.f
      simp [A.give_out h hi, A.has_out h hi, hF, mooringslaw09_MapGives.j0]
end Go.Proofs.YthjdjljiafpebaaDoor.P
