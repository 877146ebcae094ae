/- WheelStays' plain law: what may be stays so; with an error nothing changes; what is added, and dropped, is as it was. -/
import Derived.Test.YtggkealdbebbkaaD
import Derived.Test.YtggkealdbebbkaaP11
namespace Go.Proofs.Ytggkealdbebbkaa.W10
theorem stays_add {now : Int} {xs : List T} (h : mayB now xs = true) (id at_ : Int) : mayB now (addR now xs id at_).1 = true := by
  by_cases hA : (addR now xs id at_).2 = 0
  · obtain ⟨hM, i0, a1, a2, a3, a4, ea⟩ := addR_ok hA
    rw [ea]
    exact mayB_iff.2 (hM.ins (x := (id, at_)) ⟨a1, a2⟩ i0 a3 a4)
  · rw [addR_err hA]
    exact h
theorem stays_step {now : Int} {xs : List T} (h : mayB now xs = true) (tt : Int) : mayB (stepR now xs tt).1 (stepR now xs tt).2.1 = true := by
  by_cases hS : (stepR now xs tt).2.2.2 = 0
  · obtain ⟨hM, s1, s2, es⟩ := stepR_ok hS
    rw [es]
    exact mayB_iff.2 (hM.step s1 s2)
  · obtain ⟨e1, e2, _⟩ := stepR_err hS
    rw [e1, e2]
    exact h
theorem stays_drop {now : Int} {xs : List T} (h : mayB now xs = true) (id : Int) : mayB now (dropR now xs id).1 = true := by
  rw [dropR_eq, if_pos h]
  exact mayB_iff.2 ((mayB_iff.1 h).filter _)
theorem stays_back {now : Int} {xs : List T} {id at_ : Int} (hA : (addR now xs id at_).2 = 0) : (dropR now (addR now xs id at_).1 id).2 = true ∧ (dropR now (addR now xs id at_).1 id).1 = xs ∧ (addR now xs id at_).1.length = xs.length + 1 := by
  obtain ⟨hM, i0, a1, a2, a3, a4, ea⟩ := addR_ok hA
  have hI := hM.ins (x := (id, at_)) ⟨a1, a2⟩ i0 a3 a4
  have hp := ins_perm (x := (id, at_)) hM ⟨a1, a2⟩
  rw [dropR_eq, ea, if_pos (mayB_iff.2 hI)]
  refine ⟨?_, ?_, by rw [hp.length_eq, List.length_append]; rfl⟩
  · rw [decide_eq_true_eq, (hp.filter _).length_eq, List.filter_append, List.length_append]
    simp
  · refine (hI.filter _).eq hM ?_
    refine (hp.filter _).trans ?_
    rw [List.filter_append, List.filter_eq_self.2 (fun y hy => by simpa using a3 y hy)]
    simp
end Go.Proofs.Ytggkealdbebbkaa.W10
namespace Go.Proofs.Ytggkealdbebbkaa.P
open Go.RowKit Go.Proofs.YtggkealdbebbkaaW.PrintWords Go.Proofs.YtggkealdbebbkaaW.PrintLast Go.Proofs.YtggkealdbebbkaaW.PrintMore
open Go.Proofs.Ytggkealdbebbkaa
set_option linter.unusedVariables false
open Dev in
theorem wheelStays_pure (now : Int) (l : List S33) (id at_ : Int) (hl : ∀ s ∈ l, (Lit.int .i64 s.f0).wf = true) (wi : (Lit.int .i64 id).wf = true) : ∃ k, mooringslaw10_WheelStays.f k now l id at_ = some true := by
  refine ⟨1002, ?_⟩
  rw [← ofT_toT l]
  have hw : ∀ x ∈ toT l, (Lit.int .i64 x.1).wf = true := fun x hx => by
    unfold toT at hx
    obtain ⟨s, hs, rfl⟩ := List.mem_map.1 hx
    exact hl s hs
  generalize toT l = xs at hw
  unfold mooringslaw10_WheelStays.f
  rw [awake_f (by decide), Option.bind_some, if_pos rfl, ofT_len]
  by_cases h70 : (xs.length : Int) > 70
  · rw [if_pos h70]; rfl
  · rw [if_neg h70]
    have fx : Fine 70 xs := ⟨by omega, hw⟩
    rw [May_f fx (by decide), Option.bind_some]
    by_cases hM : W10.mayB now xs = true
    · rw [hM]
      have fa := Fine.add (now := now) (at_ := at_) fx wi
      have fs := Fine.step (now := now) (tt := at_) fx
      have fd := Fine.drop (now := now) (id := id) fa
      have e1 := Add_f (now := now) (id := id) (at_ := at_) fx (by decide)
      have e2 := Step_f (now := now) (tt := at_) fx (by decide)
      have e3 := Drop_f (now := now) (id := id) fa (by decide)
      have m1 := May_f (now := now) fa (by decide)
      have m2 := May_f (now := (W10.stepR now xs at_).1) fs (by decide)
      have m3 := May_f (now := now) fd (by decide)
      rw [W10.stays_add hM] at m1
      rw [W10.stays_step hM] at m2
      rw [W10.stays_drop (W10.stays_add hM _ _)] at m3
      have q1 := Same_f (k := 1001) (a := now) (b := now) (xs := (W10.addR now xs id at_).1) (ys := xs) (by have := fa.len; omega) (by decide)
      have q2 := Same_f (k := 1001) (a := (W10.stepR now xs at_).1) (b := now) (xs := (W10.stepR now xs at_).2.1) (ys := xs) (by have := fs.len; omega) (by decide)
      have q3 := Same_f (k := 1000) (a := now) (b := now) (xs := (W10.dropR now (W10.addR now xs id at_).1 id).1) (ys := xs) (by have := fd.len; omega) (by decide)
      have last : mooringslaw10_WheelStays.j1 1001 (W10.addR now xs id at_).2 (W10.dropR now (W10.addR now xs id at_).1 id).2 (!true) now (ofT xs) now (ofT (W10.addR now xs id at_).1) now (ofT (W10.dropR now (W10.addR now xs id at_).1 id).1) = some true := by
        simp only [mooringslaw10_WheelStays.j1]
        rw [if_neg (by decide)]
        by_cases hA : (W10.addR now xs id at_).2 = 0
        · obtain ⟨b1, b2, b3⟩ := W10.stays_back hA
          rw [if_pos hA, if_pos b1, q3, decide_eq_true ⟨rfl, b2⟩, Option.bind_some, if_pos rfl, ofT_len, ofT_len, b3, w64 (by omega) (by omega)]
          congr 1
          rw [beq_iff_eq]
          omega
        · rw [if_neg hA]
      simp only [mooringslaw10_WheelStays.j0]
      rw [if_neg (by decide), e1, Option.bind_some, e2, Option.bind_some, e3, Option.bind_some]
      by_cases hA : (W10.addR now xs id at_).2 = 0
      · rw [if_pos hA]
        by_cases hS : (W10.stepR now xs at_).2.2.2 = 0
        · rw [if_pos hS, m1, Option.bind_some, if_pos rfl, m2, Option.bind_some, if_pos rfl, m3, Option.bind_some]
          exact last
        · rw [if_neg hS, q2, decide_eq_true ⟨(W10.stepR_err hS).1, (W10.stepR_err hS).2.1⟩, Option.bind_some, if_pos rfl, m1, Option.bind_some, if_pos rfl, m2, Option.bind_some, if_pos rfl, m3, Option.bind_some]
          exact last
      · rw [if_neg hA, q1, decide_eq_true ⟨rfl, W10.addR_err hA⟩, Option.bind_some, if_pos rfl]
        by_cases hS : (W10.stepR now xs at_).2.2.2 = 0
        · rw [if_pos hS, m1, Option.bind_some, if_pos rfl, m2, Option.bind_some, if_pos rfl, m3, Option.bind_some]
          exact last
        · rw [if_neg hS, q2, decide_eq_true ⟨(W10.stepR_err hS).1, (W10.stepR_err hS).2.1⟩, Option.bind_some, if_pos rfl, m1, Option.bind_some, if_pos rfl, m2, Option.bind_some, if_pos rfl, m3, Option.bind_some]
          exact last
    · rw [Bool.eq_false_iff.2 hM]
      rfl
end Go.Proofs.Ytggkealdbebbkaa.P
