/- The law PackSizes of package pack: sizes grow with how many numbers there are and with how wide they are; eight numbers take as many bytes as one has bits. For all integers. -/
import Derived.Test.YtikmbpkakpbjlaaP9
import Derived.Test.YtikmbpkakpbjlaaA
namespace Go.Proofs.Ytikmbpkakpbjlaa.Pure
open Go.RowKit Go.Proofs.Ytikmbpkakpbjlaa.P Go.Proofs.YtikmbpkakpbjlaaW.PrintWords Go.Proofs.YtikmbpkakpbjlaaW.PrintLast

theorem size_no {n w : Int} (h : ¬ (0 ≤ n ∧ n ≤ 400 ∧ 0 ≤ w ∧ w ≤ 32)) : pack_Size.f n w = some (-1) := by
  rw [Dev.size_eq, Dev.sizeOf, if_neg h]
theorem size_yes {n w : Int} (h : 0 ≤ n ∧ n ≤ 400 ∧ 0 ≤ w ∧ w ≤ 32) : pack_Size.f n w = some ((n * w + 7) / 8) := by
  rw [Dev.size_eq, Dev.sizeOf, if_pos h]
theorem PackSizes : mooringslaw03_PackSizes.Pure := by
  intro n w k hn hw hk
  have hn := A.wf64 hn
  have hw := A.wf64 hw
  have hk := A.wf64 hk
  refine ⟨10, ?_⟩
  unfold mooringslaw03_PackSizes.f
  rw [A.awake (by omega)]
  simp only [Option.bind_some, if_true]
  by_cases hv : 0 ≤ n ∧ n ≤ 400 ∧ 0 ≤ w ∧ w ≤ 32
  · have h0 : 0 ≤ n * w := Int.mul_nonneg (by omega) (by omega)
    have h1 : n * w ≤ 400 * 32 := Int.mul_le_mul (by omega) (by omega) (by omega) (by omega)
    rw [size_yes hv]
    obtain ⟨P, hP⟩ : ∃ P, n * w = P := ⟨_, rfl⟩
    rw [hP] at h0 h1 ⊢
    simp only [Option.bind_some]
    rw [if_pos (by omega), if_pos (by omega), if_pos (by omega), decide_eq_true (by omega : (P + 7) / 8 ≥ 0), decide_eq_true (by omega : w ≤ 32), decide_eq_false (by omega : ¬ (P + 7) / 8 < -1)]
    rw [if_neg (by decide), mooringslaw03_PackSizes.j0, if_neg (by decide), if_neg (by omega)]
    by_cases hk0 : k < 0
    · rw [if_pos hk0, mooringslaw03_PackSizes.j1, if_pos rfl]
    · rw [if_neg hk0, A.w64 (by omega) (by omega)]
      by_cases hk1 : k > 400 - n
      · rw [decide_eq_true hk1, mooringslaw03_PackSizes.j1, if_pos rfl]
      · have hk2 : 0 ≤ k * w := Int.mul_nonneg (by omega) (by omega)
        have hk3 : k * w ≤ 400 * 32 := Int.mul_le_mul (by omega) (by omega) (by omega) (by omega)
        rw [decide_eq_false hk1, mooringslaw03_PackSizes.j1, if_neg (by decide), A.w64 (by omega) (by omega), size_yes (by omega), Int.add_mul, hP]
        have e8 : (n + 8) * w = P + 8 * w := by rw [Int.add_mul, hP]
        have e1 : n * (w + 1) = P + n := by rw [Int.mul_add, hP]; omega
        simp only [Option.bind_some]
        rw [if_pos (by omega)]
        have last : (if wrap64 (8 * ((P + 7) / 8)) ≥ wrap64 P then some (decide (wrap64 (8 * ((P + 7) / 8)) < wrap64 (wrap64 P + 8))) else some false) = some true := by
          rw [A.w64 (by omega) (by omega), A.w64 (x := P) (by omega) (by omega), A.w64 (by omega) (by omega), if_pos (by omega), decide_eq_true (by omega)]
        rw [last, A.w64 (x := n + 8) (by omega) (by omega)]
        by_cases hw32 : w = 32
        · rw [if_pos hw32]
          by_cases hk8 : k = 8
          · rw [if_pos hk8, size_yes (by omega), e8]
            simp only [Option.bind_some]
            rw [A.w64 (by omega) (by omega), if_pos (by omega)]
          · rw [if_neg hk8]
        · rw [if_neg hw32, A.w64 (x := w + 1) (by omega) (by omega), size_yes (by omega), e1]
          simp only [Option.bind_some]
          rw [if_pos (by omega)]
          by_cases hk8 : k = 8
          · rw [if_pos hk8, size_yes (by omega), e8]
            simp only [Option.bind_some]
            rw [A.w64 (by omega) (by omega), if_pos (by omega)]
          · rw [if_neg hk8]
  · rw [size_no hv]
    simp only [Option.bind_some]
    have hd : (decide ((-1 : Int) ≥ 0)) = false := by decide
    have hd2 : decide ((-1 : Int) < -1) = false := by decide
    rw [hd, hd2]
    have fin : mooringslaw03_PackSizes.j0 10 n w k (-1) false = some true := by
      rw [mooringslaw03_PackSizes.j0, if_neg (by decide), if_pos (by omega), mooringslaw03_PackSizes.j1, if_pos rfl]
    simp only [fin]
    by_cases c1 : n ≥ 0
    · by_cases c2 : n ≤ 400
      · by_cases c3 : w ≥ 0
        · rw [if_pos c1, if_pos c2, if_pos c3, decide_eq_false (by omega : ¬ w ≤ 32)]; rfl
        · rw [if_pos c1, if_pos c2, if_neg c3]; rfl
      · rw [if_pos c1, if_neg c2]; rfl
    · rw [if_neg c1]; rfl

end Go.Proofs.Ytikmbpkakpbjlaa.Pure
