/- The law PackApart of package pack: two lists of as many numbers, of one width, that are not the same have other bytes; numbers that have a width come back from bytes of 32 bits each. For every two lists and every width (beyond 400 numbers, or of other lengths, the law asks nothing). -/
import Derived.Test.YtikmbpkakpbjlaaP10
import Derived.Test.YtikmbpkakpbjlaaB
namespace Go.Proofs.Ytikmbpkakpbjlaa.Pure
open Go.RowKit Go.Proofs.Ytikmbpkakpbjlaa.P Go.Proofs.YtikmbpkakpbjlaaW.PrintWords Go.Proofs.YtikmbpkakpbjlaaW.PrintLast Go.Proofs.Ytikmbpkakpbjlaa.A Go.Proofs.Ytikmbpkakpbjlaa.B

theorem PackApart : mooringslaw03_PackApart.Pure := by
  intro l m w hl1 hl2 hl3 hm1 hm2 hm3 hw
  have hw := wf64 hw
  refine ⟨1000, ?_⟩
  unfold mooringslaw03_PackApart.f
  rw [awake (by omega)]
  simp only [Option.bind_some, if_true]
  by_cases hlen : l.length ≤ 400
  · rw [if_neg (by omega)]
    by_cases he : l.length = m.length
    · have : ((l.length : Int) != (m.length : Int)) = false := by rw [bne_eq_false_iff_eq]; omega
      rw [this, mooringslaw03_PackApart.j0, if_neg (by decide)]
      by_cases hl : Ok l w
      · have hl32 : Ok l 32 := ⟨hl.1, by omega, by omega, fit_mono hl.2.2.2 (by have := hl.2.2.1; omega)⟩
        rw [pack_yes hl, pack_yes hl32]
        simp only [Option.bind_some]
        rw [ints l m (by omega) (by omega), unpack_bytes hl32]
        simp only [Option.bind_some]
        rw [ints l l (by omega) (by omega), decide_eq_true rfl]
        simp only [Option.bind_some, if_true]
        by_cases hm : Ok m w
        · rw [pack_yes hm]
          simp only [Option.bind_some, if_true]
          have key : ((strOfNums (B.bytes l w)).toList == (strOfNums (B.bytes m w)).toList) = decide (l = m) := by
            rw [Bool.eq_iff_iff, beq_iff_eq, decide_eq_true_eq, str_inj (bytes_fit _ _) (bytes_fit _ _)]
            exact ⟨fun h => bytes_inj hl hm he h, fun h => by rw [h]⟩
          rw [key]
          simp
        · rw [pack_no hm]
          rfl
      · have h1 : ∃ x c, pack_Pack.f m w = some (x, c) := by
          by_cases c : Ok m w
          · exact ⟨_, _, pack_yes c⟩
          · exact ⟨_, _, pack_no c⟩
        have h2 : ∃ x c, pack_Pack.f l 32 = some (x, c) ∧ M.Fit 8 x := by
          by_cases c : Ok l 32
          · exact ⟨_, _, pack_yes c, bytes_fit _ _⟩
          · exact ⟨_, _, pack_no c, fit_nil 8⟩
        obtain ⟨x1, c1, e1⟩ := h1
        obtain ⟨x2, c2, e2, f2⟩ := h2
        have h3 : ∃ x c, pack_Unpack.f x2 l.length 32 = some (x, c) ∧ x.length ≤ 400 := by
          by_cases c : Un x2 l.length 32
          · exact ⟨_, _, unpack_yes f2 c, by rw [M.digits_length]; omega⟩
          · exact ⟨_, _, unpack_no f2 c, by simp⟩
        obtain ⟨x3, c3, e3, l3⟩ := h3
        rw [pack_no hl, e1, e2]
        simp only [Option.bind_some]
        rw [ints l m (by omega) (by omega), e3]
        simp only [Option.bind_some]
        rw [ints x3 l (by omega) (by omega)]
        rfl
    · have : ((l.length : Int) != (m.length : Int)) = true := by rw [bne_iff_ne]; omega
      rw [this, mooringslaw03_PackApart.j0, if_pos rfl]
  · rw [if_pos (by omega), mooringslaw03_PackApart.j0, if_pos rfl]

end Go.Proofs.Ytikmbpkakpbjlaa.Pure
