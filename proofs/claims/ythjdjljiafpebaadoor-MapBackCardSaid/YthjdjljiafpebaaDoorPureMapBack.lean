/- MapBack's plain law: what is taken, and given back, is as it was. -/
import Derived.Test.YthjdjljiafpebaaDoorA
import Derived.Test.YthjdjljiafpebaaDoorP9
namespace Go.Proofs.YthjdjljiafpebaaDoor.P
open Go.RowKit Go.Proofs.YthjdjljiafpebaaDoorW.PrintWords Go.Proofs.YthjdjljiafpebaaDoorW.PrintLast Go.Proofs.YthjdjljiafpebaaDoorW.PrintMore
namespace B9
set_option maxRecDepth 100000 in
theorem two : ∀ n : Fin 9, ∀ u : Fin 256, bitmap_May.f n u = some true → ∀ i : Fin 8, ∀ k : Fin 8, mooringslaw09_MapBack.f 1 n u i k = some true := by decide +kernel
set_option maxRecDepth 100000 in
theorem one : ∀ n : Fin 9, ∀ u : Fin 256, bitmap_May.f n u = some true → ∀ i : Fin 8, mooringslaw09_MapBack.f 1 n u i (-1) = some true := by decide +kernel
theorem j0_k {x1 k k' : Int} (hk : k ≠ x1) (hk' : k' ≠ x1) {a b c d : Int} (hA : bitmap_Has.f c d k = bitmap_Has.f c d k') (hB : bitmap_Has.f a b k = bitmap_Has.f a b k') (x9 x11 x13 x43 : Bool) (e f : Int) :
    mooringslaw09_MapBack.j0 1 x1 k x9 x11 x13 x43 a b c d e f = mooringslaw09_MapBack.j0 1 x1 k' x9 x11 x13 x43 a b c d e f := by
  simp only [mooringslaw09_MapBack.j0, if_neg hk, if_neg hk', hA, hB]
end B9
theorem mapBack_pure (N U i k : Int) : ∃ q, mooringslaw09_MapBack.f q N U i k = some true := by
  refine ⟨1, ?_⟩
  obtain ⟨b, h⟩ := A.may_total N U
  cases b with
  | false =>
    unfold mooringslaw09_MapBack.f mooringslaw09_awake.f
    rw [A.take_no h]
    simp only [Option.bind_some]
    rw [A.give_no h, A.take_no h]
    simp [mooringslaw09_MapBack.j0]
  | true =>
    by_cases hi : 0 ≤ i ∧ i < N
    · obtain ⟨h0, h1, _, _⟩ := Dev.may_true h
      by_cases hk : 0 ≤ k ∧ k < N
      · obtain ⟨n, u, rfl, rfl⟩ := A.as_fin h
        obtain ⟨j, rfl⟩ := A.as_fin8 h1 hi
        obtain ⟨m, rfl⟩ := A.as_fin8 h1 hk
        exact B9.two n u h j m
      · obtain ⟨U', b, hT, hM⟩ := A.take_keeps h i
        have hk1 : k ≠ i := by rintro rfl; exact hk hi
        have hk2 : (-1 : Int) ≠ i := by omega
        have hn : ¬ (0 ≤ (-1 : Int) ∧ (-1 : Int) < N) := by omega
        have e : mooringslaw09_MapBack.f 1 N U i k = mooringslaw09_MapBack.f 1 N U i (-1) := by
          unfold mooringslaw09_MapBack.f
          rw [hT]
          simp only [Option.bind_some, B9.j0_k hk1 hk2 ((A.has_out hM hk).trans (A.has_out hM hn).symm) ((A.has_out h hk).trans (A.has_out h hn).symm)]
        rw [e]
        obtain ⟨n, u, rfl, rfl⟩ := A.as_fin h
        obtain ⟨j, rfl⟩ := A.as_fin8 h1 hi
        exact B9.one n u h j
    · unfold mooringslaw09_MapBack.f mooringslaw09_awake.f
      rw [A.take_out h hi]
      simp only [Option.bind_some]
      rw [A.give_out h hi, A.take_out h hi]
      simp [mooringslaw09_MapBack.j0]
end Go.Proofs.YthjdjljiafpebaaDoor.P
