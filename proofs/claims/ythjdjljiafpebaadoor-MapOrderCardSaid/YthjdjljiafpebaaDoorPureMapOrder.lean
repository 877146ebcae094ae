/- MapOrder's plain law: it is the same in which order two blocks are taken. -/
import Derived.Test.YthjdjljiafpebaaDoorA
import Derived.Test.YthjdjljiafpebaaDoorP12
namespace Go.Proofs.YthjdjljiafpebaaDoor.P
open Go.RowKit Go.Proofs.YthjdjljiafpebaaDoorW.PrintWords Go.Proofs.YthjdjljiafpebaaDoorW.PrintLast Go.Proofs.YthjdjljiafpebaaDoorW.PrintMore
namespace B12
set_option maxRecDepth 100000 in
theorem two : ∀ n : Fin 9, ∀ u : Fin 256, bitmap_May.f n u = some true → ∀ i : Fin 8, ∀ k : Fin 8, mooringslaw09_MapOrder.f 1 n u i k = some true := by decide +kernel
end B12
theorem mapOrder_pure (N U i k : Int) : ∃ q, mooringslaw09_MapOrder.f q N U i k = some true := by
  refine ⟨1, ?_⟩
  obtain ⟨b, h⟩ := A.may_total N U
  cases b with
  | false =>
    unfold mooringslaw09_MapOrder.f mooringslaw09_awake.f
    simp [A.take_no h, mooringslaw09_MapOrder.j0]
  | true =>
    by_cases hi : 0 ≤ i ∧ i < N
    · by_cases hk : 0 ≤ k ∧ k < N
      · obtain ⟨h0, h1, _, _⟩ := Dev.may_true h
        obtain ⟨n, u, rfl, rfl⟩ := A.as_fin h
        obtain ⟨j, rfl⟩ := A.as_fin8 h1 hi
        obtain ⟨m, rfl⟩ := A.as_fin8 h1 hk
        exact B12.two n u h j m
      · obtain ⟨U', b, hT, hM⟩ := A.take_keeps h i
        unfold mooringslaw09_MapOrder.f mooringslaw09_awake.f
        cases b <;> simp [hT, A.take_out h hk, A.take_out hM hk, mooringslaw09_MapOrder.j0]
    · obtain ⟨U', b, hT, hM⟩ := A.take_keeps h k
      unfold mooringslaw09_MapOrder.f mooringslaw09_awake.f
      cases b <;> simp [hT, A.take_out h hi, A.take_out hM hi, mooringslaw09_MapOrder.j0]
end Go.Proofs.YthjdjljiafpebaaDoor.P
