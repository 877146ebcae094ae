/- The law PackTells, the stage's theorem of package pack: Pack, Unpack, Width and Size answer what the document's answer does. For every list of integers, every bytes and all integers (beyond 410 numbers or 1700 bytes the law asks nothing). -/
import Derived.Test.YtikmbpkakpbjlaaP6
import Derived.Test.YtikmbpkakpbjlaaC
namespace Go.Proofs.Ytikmbpkakpbjlaa.Pure
open Go.RowKit Go.Proofs.Ytikmbpkakpbjlaa.P Go.Proofs.YtikmbpkakpbjlaaW.PrintWords Go.Proofs.YtikmbpkakpbjlaaW.PrintLast Go.Proofs.Ytikmbpkakpbjlaa.A Go.Proofs.Ytikmbpkakpbjlaa.B Go.Proofs.Ytikmbpkakpbjlaa.C

theorem PackTells : mooringslaw03_PackTells.Pure := by
  intro l w b n hl1 hl2 hl3 hw hb1 hb2 hb3 hn
  have hb : M.Fit 8 b := fun x hx => by have := wf8 (hb3 x hx); exact ⟨this.1, by omega⟩
  refine ⟨40000, ?_⟩
  unfold mooringslaw03_PackTells.f
  rw [awake (by omega), Option.bind_some, if_pos rfl]
  by_cases hlen : l.length ≤ 410
  · rw [if_neg (by omega)]
    by_cases hblen : b.length ≤ 1700
    · rw [decide_eq_false (by omega), mooringslaw03_PackTells.j0, if_neg (by decide), rpack (by omega) (by omega)]
      have hp : ∃ x c, pack_Pack.f l w = some (x, c) := by
        by_cases c : Ok l w
        · exact ⟨_, _, pack_yes c⟩
        · exact ⟨_, _, pack_no c⟩
      have hu : ∃ x c, pack_Unpack.f b n w = some (x, c) ∧ x.length ≤ 400 := by
        by_cases c : Un b n w
        · exact ⟨_, _, unpack_yes hb c, by rw [M.digits_length]; have := size_range c.1; omega⟩
        · exact ⟨_, _, unpack_no hb c, by simp⟩
      obtain ⟨x, cx, hx⟩ := hp
      obtain ⟨y, cy, hy, ly⟩ := hu
      obtain ⟨r, hr, r1⟩ := width l (fun x hx => wf64 (hl3 x hx)) (by omega) (k := 39999) (by omega)
      obtain ⟨s, hs, s1⟩ := rwidth l (by omega) (k := 39999) (by omega)
      rw [runpack hb (by omega), hx, Option.bind_some, Option.bind_some, hy, Option.bind_some, Option.bind_some, ints y y (by omega) (by omega), Option.bind_some, if_pos rfl, if_pos (by simp), if_pos (by simp), if_pos (by simp),
        hr, Option.bind_some, hs, Option.bind_some, if_pos (r1.unique s1), Dev.size_eq, Option.bind_some, rsize, Option.bind_some]
      simp
    · rw [decide_eq_true (by omega), mooringslaw03_PackTells.j0, if_pos rfl]
  · rw [if_pos (by omega), mooringslaw03_PackTells.j0, if_pos rfl]

end Go.Proofs.Ytikmbpkakpbjlaa.Pure
