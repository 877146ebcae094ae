/- MapFills' plain law: taking what is first free uses all. -/
import Derived.Test.YthjdjljiafpebaaDoorA
import Derived.Test.YthjdjljiafpebaaDoorP11
namespace Go.Proofs.YthjdjljiafpebaaDoor.P
open Go.RowKit Go.Proofs.YthjdjljiafpebaaDoorW.PrintWords Go.Proofs.YthjdjljiafpebaaDoorW.PrintLast Go.Proofs.YthjdjljiafpebaaDoorW.PrintMore
namespace B11
set_option maxRecDepth 100000 in
theorem all : ∀ n : Fin 9, mooringslaw09_MapFills.f 20 n = some true := by decide +kernel
end B11
theorem mapFills_pure (n : Int) : ∃ q, mooringslaw09_MapFills.f q n = some true := by
  refine ⟨20, ?_⟩
  by_cases hn : 0 ≤ n ∧ n ≤ 8
  · have := B11.all ⟨n.toNat, by omega⟩
    rw [show ((⟨n.toNat, by omega⟩ : Fin 9) : Int) = n from by simp; omega] at this
    exact this
  · have hM : bitmap_May.f n 0 = some false := by
      unfold bitmap_May.f
      by_cases h0 : n ≥ 0
      · rw [if_pos h0, if_neg (by omega)]
      · rw [if_neg h0]
    have hN : bitmap_New.f n = some (0, 0, false) := by
      unfold bitmap_New.f; rw [hM]; rfl
    unfold mooringslaw09_MapFills.f mooringslaw09_awake.f
    rw [hN]
    simp only [Option.bind_some, if_true]
    by_cases h0 : n ≥ 0
    · rw [if_pos h0, decide_eq_false (by omega)]
      simp [mooringslaw09_MapFills.j0]
    · rw [if_neg h0]
      simp [mooringslaw09_MapFills.j0]
end Go.Proofs.YthjdjljiafpebaaDoor.P
