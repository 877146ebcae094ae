/- The law PackWidth of package pack: with the width that Width tells numbers are packed, with one less they are not, with any other width from it to 32 they are. For every list of integers (beyond 400 numbers the law asks nothing). -/
import Derived.Test.YtikmbpkakpbjlaaP8
import Derived.Test.YtikmbpkakpbjlaaB
namespace Go.Proofs.Ytikmbpkakpbjlaa.Pure
open Go.RowKit Go.Proofs.Ytikmbpkakpbjlaa.P Go.Proofs.YtikmbpkakpbjlaaW.PrintWords Go.Proofs.YtikmbpkakpbjlaaW.PrintLast Go.Proofs.Ytikmbpkakpbjlaa.A Go.Proofs.Ytikmbpkakpbjlaa.B

theorem ok_width {l : List Int} {r w : Int} (hl : l.length ≤ 400) (h : IsWidth l r) : Ok l w ↔ 0 ≤ r ∧ r ≤ w ∧ w ≤ 32 := by
  rcases h with ⟨rfl, h⟩ | ⟨h0, h1, h2, h3⟩
  · exact ⟨fun k => absurd (fit_mono k.2.2.2 (by have := k.2.2.1; omega)) h, fun k => by omega⟩
  · constructor
    · intro k
      refine ⟨h0, ?_, k.2.2.1⟩
      rcases Int.lt_or_le w r with c | c
      · exact absurd k.2.2.2 (h3 w.toNat (by have := k.2.1; omega))
      · exact c
    · rintro ⟨_, a, b⟩
      exact ⟨hl, by omega, b, fit_mono h2 (by omega)⟩
theorem pack_snd {l : List Int} {w : Int} (b : Bool) (h : Ok l w ↔ b = true) : ∃ x, pack_Pack.f l w = some (x, b) := by
  by_cases c : Ok l w
  · rw [pack_yes c, h.1 c]; exact ⟨_, rfl⟩
  · rw [pack_no c]
    refine ⟨[], ?_⟩
    cases b with
    | false => rfl
    | true => exact absurd (h.2 rfl) c
theorem PackWidth : mooringslaw03_PackWidth.Pure := by
  intro l w hl1 hl2 hl3 hw
  have hw := wf64 hw
  refine ⟨1000, ?_⟩
  unfold mooringslaw03_PackWidth.f
  rw [awake (by omega)]
  simp only [Option.bind_some, if_true]
  by_cases hlen : l.length ≤ 400
  · rw [decide_eq_false (by omega)]
    obtain ⟨r, hr, hwd⟩ := width l (fun x hx => wf64 (hl3 x hx)) (by omega) (k := 999) (by omega)
    have hrange : -1 ≤ r ∧ r ≤ 32 := by
      rcases hwd with ⟨rfl, _⟩ | ⟨h0, h1, _⟩ <;> omega
    obtain ⟨x1, e1⟩ := pack_snd (l := l) (w := r) (decide (r ≥ 0)) (by rw [ok_width hlen hwd, decide_eq_true_eq]; omega)
    obtain ⟨x2, e2⟩ := pack_snd (l := l) (w := r - 1) false (by rw [ok_width hlen hwd]; exact ⟨fun h => by omega, fun h => by cases h⟩)
    obtain ⟨x3, e3⟩ := pack_snd (l := l) (w := w) (decide (r ≥ 0 ∧ w ≥ r ∧ w ≤ 32)) (by rw [ok_width hlen hwd, decide_eq_true_eq])
    rw [mooringslaw03_PackWidth.j0, if_neg (by decide), hr]
    simp only [Option.bind_some]
    rw [e1, w64 (by omega) (by omega), e2, e3]
    simp only [Option.bind_some]
    rw [if_neg (by omega), if_neg (by omega), if_neg (by simp)]
    by_cases c : r ≥ 0
    · rw [if_pos c, if_neg (by decide)]
      by_cases c2 : w ≥ r
      · rw [if_pos c2]
        have : decide (r ≥ 0 ∧ w ≥ r ∧ w ≤ 32) = decide (w ≤ 32) := by rw [decide_eq_decide]; exact ⟨fun h => h.2.2, fun h => ⟨c, c2, h⟩⟩
        rw [this]; simp
      · rw [if_neg c2, decide_eq_false (fun h => c2 h.2.1)]; rfl
    · rw [if_neg c, decide_eq_false (fun h => c h.1)]; rfl
  · rw [decide_eq_true (by omega), mooringslaw03_PackWidth.j0, if_pos rfl]

end Go.Proofs.Ytikmbpkakpbjlaa.Pure
