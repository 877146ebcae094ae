/- WheelTwice's plain law: by one step, or by two to the same tick, the same timers are due, in the same order, and the same are left. -/
import Derived.Test.YtggkealdbebbkaaA
import Derived.Test.YtggkealdbebbkaaP12
namespace Go.Proofs.Ytggkealdbebbkaa.W10
theorem twice_due {xs : List T} {first tt : Int} (h : xs.Pairwise Bf) (hf : first ≤ tt) : xs.filter (fun x => decide (x.2 ≤ tt)) = xs.filter (fun x => decide (x.2 ≤ first)) ++ (xs.filter fun x => !decide (x.2 ≤ first)).filter fun x => decide (x.2 ≤ tt) := by
  refine sorted_eq ?_ (srt_weak (h.filter _)) (srt_weak (List.pairwise_append.2 ⟨h.filter _, (h.filter _).filter _, fun a ha b hb => ?_⟩))
  · have hp := List.filter_append_perm (fun x : T => decide (x.2 ≤ first)) (xs.filter fun x => decide (x.2 ≤ tt))
    refine hp.symm.trans ?_
    rw [List.filter_filter, List.filter_filter, List.filter_filter]
    have e1 : xs.filter (fun x => decide (x.2 ≤ first) && decide (x.2 ≤ tt)) = xs.filter fun x => decide (x.2 ≤ first) := List.filter_congr fun x _ => by
      by_cases h : x.2 ≤ first
      · have : x.2 ≤ tt := by omega
        simp [h, this]
      · simp [h]
    rw [e1]
    have e2 : xs.filter (fun x => !decide (x.2 ≤ first) && decide (x.2 ≤ tt)) = xs.filter fun x => decide (x.2 ≤ tt) && !decide (x.2 ≤ first) := List.filter_congr fun x _ => Bool.and_comm _ _
    rw [e2]
  · have h1 := (List.mem_filter.1 ha).2
    have h2 := (List.mem_filter.1 (List.mem_filter.1 hb).1).2
    simp only [decide_eq_true_eq, Bool.not_eq_true', decide_eq_false_iff_not] at h1 h2
    exact .inl (by omega)
theorem twice_law {now first tt : Int} {xs : List T} (hf : first ≤ tt) (hS : (stepR now xs tt).2.2.2 = 0) (hA : (stepR now xs first).2.2.2 = 0) :
    (stepR (stepR now xs first).1 (stepR now xs first).2.1 tt).2.2.2 = 0 ∧ (stepR now xs tt).2.2.1 = (stepR now xs first).2.2.1 ++ (stepR (stepR now xs first).1 (stepR now xs first).2.1 tt).2.2.1 ∧
    (stepR now xs tt).1 = (stepR (stepR now xs first).1 (stepR now xs first).2.1 tt).1 ∧ (stepR now xs tt).2.1 = (stepR (stepR now xs first).1 (stepR now xs first).2.1 tt).2.1 := by
  obtain ⟨hM, s1, s2, es⟩ := stepR_ok hS
  obtain ⟨_, a1, a2, ea⟩ := stepR_ok hA
  have hM2 := hM.step a1 a2
  rw [es, ea]
  simp only
  rw [stepR_eq, mayB_iff.2 hM2, if_pos rfl, if_neg (by omega)]
  refine ⟨rfl, twice_due hM.srt hf, rfl, ?_⟩
  simp only
  rw [List.filter_filter]
  refine List.filter_congr fun x _ => ?_
  by_cases h : x.2 ≤ tt
  · simp [h]
  · have : ¬ x.2 ≤ first := by omega
    simp [h, this]
end Go.Proofs.Ytggkealdbebbkaa.W10
namespace Go.Proofs.Ytggkealdbebbkaa.P
open Go.RowKit Go.Proofs.YtggkealdbebbkaaW.PrintWords Go.Proofs.YtggkealdbebbkaaW.PrintLast Go.Proofs.YtggkealdbebbkaaW.PrintMore
open Go.Proofs.Ytggkealdbebbkaa
set_option linter.unusedVariables false
open Dev in
theorem wheelTwice_pure (now : Int) (l : List S33) (first tt : Int) (hl : ∀ s ∈ l, (Lit.int .i64 s.f0).wf = true) : ∃ k, mooringslaw10_WheelTwice.f k now l first tt = some true := by
  refine ⟨1002, ?_⟩
  rw [← ofT_toT l]
  have hw : ∀ x ∈ toT l, (Lit.int .i64 x.1).wf = true := fun x hx => by
    unfold toT at hx
    obtain ⟨s, hs, rfl⟩ := List.mem_map.1 hx
    exact hl s hs
  generalize toT l = xs at hw
  unfold mooringslaw10_WheelTwice.f
  rw [awake_f (by decide), Option.bind_some, if_pos rfl, ofT_len]
  by_cases h70 : (xs.length : Int) > 70
  · rw [if_pos h70]; rfl
  · rw [if_neg h70]
    by_cases hf : first > tt
    · rw [decide_eq_true hf]; rfl
    · rw [decide_eq_false hf]
      have fx : Fine 70 xs := ⟨by omega, hw⟩
      have fs := Fine.step (now := now) (tt := first) fx
      have fl := Fine.due (now := now) (tt := tt) fx
      have fk := Fine.due (now := now) (tt := first) fx
      have fm := Fine.due (now := (W10.stepR now xs first).1) (tt := tt) fs
      have fz := Fine.step (now := now) (tt := tt) fx
      have e1 := Step_f (now := now) (tt := tt) fx (by decide)
      have e2 := Step_f (now := now) (tt := first) fx (by decide)
      have e3 := Step_f (now := (W10.stepR now xs first).1) (tt := tt) fs (by decide)
      simp only [mooringslaw10_WheelTwice.j0]
      rw [if_neg (by decide), e1, Option.bind_some, e2, Option.bind_some, e3, Option.bind_some]
      by_cases hS : (W10.stepR now xs tt).2.2.2 = 0
      · rw [if_pos hS]
        by_cases hA : (W10.stepR now xs first).2.2.2 = 0
        · obtain ⟨g1, g2, g3, g4⟩ := W10.twice_law (by omega) hS hA
          rw [hA]
          simp only [mooringslaw10_WheelTwice.j1]
          have b1 := fk.len
          have b2 := fm.len
          have ea : ([] : List S33) ++ ofT (W10.stepR now xs first).2.2.1 = ofT (W10.stepR now xs first).2.2.1 := rfl
          have eb : ofT (W10.stepR now xs first).2.2.1 ++ ofT (W10.stepR (W10.stepR now xs first).1 (W10.stepR now xs first).2.1 tt).2.2.1 = ofT ((W10.stepR now xs first).2.2.1 ++ (W10.stepR (W10.stepR now xs first).1 (W10.stepR now xs first).2.1 tt).2.2.1) := by simp [ofT]
          rw [if_neg (by decide), if_pos (by rw [ofT_len]; show 0 + _ < _; omega), Option.bind_some, ea, if_pos (by rw [ofT_len, ofT_len]; omega), eb, Timers_f (by have := fl.len; omega) (by decide), Option.bind_some, if_pos g1, decide_eq_true g2, if_pos rfl, Same_f (by have := fz.len; omega) (by decide), Option.bind_some, decide_eq_true ⟨g3, g4⟩]
        · rw [bne_iff_ne.2 hA]
          rfl
      · rw [if_neg hS]; rfl
end Go.Proofs.Ytggkealdbebbkaa.P
