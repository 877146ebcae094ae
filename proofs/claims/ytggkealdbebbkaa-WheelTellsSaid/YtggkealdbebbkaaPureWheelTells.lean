/- WheelTells' plain law: any wheel may be, or not, and, with a timer added, or dropped, or stepped, is what the document says, or why not; two are the same, or not. -/
import Derived.Test.YtggkealdbebbkaaRef
import Derived.Test.YtggkealdbebbkaaP11
namespace Go.Proofs.Ytggkealdbebbkaa.P
open Go.RowKit Go.Proofs.YtggkealdbebbkaaW.PrintWords Go.Proofs.YtggkealdbebbkaaW.PrintLast Go.Proofs.YtggkealdbebbkaaW.PrintMore
open Go.Proofs.Ytggkealdbebbkaa
set_option linter.unusedVariables false
open Dev in
theorem wheelTells_pure (now : Int) (l : List S33) (now2 : Int) (l2 : List S33) (id at_ nw : Int) (hl : ∀ s ∈ l, (Lit.int .i64 s.f0).wf = true) (hl2 : ∀ s ∈ l2, (Lit.int .i64 s.f0).wf = true) (wi : (Lit.int .i64 id).wf = true) : ∃ k, mooringslaw10_awake.f k = some true ∧ mooringslaw10_WheelTells.f k now l now2 l2 id at_ nw = some true := by
  refine ⟨7001, awake_f (by decide), ?_⟩
  rw [← ofT_toT l, ← ofT_toT l2]
  have hw : ∀ x ∈ toT l, (Lit.int .i64 x.1).wf = true := fun x hx => by
    unfold toT at hx
    obtain ⟨s, hs, rfl⟩ := List.mem_map.1 hx
    exact hl s hs
  generalize toT l = xs at hw
  generalize toT l2 = ys
  unfold mooringslaw10_WheelTells.f
  rw [awake_f (by decide), Option.bind_some, if_pos rfl, ofT_len, ofT_len]
  by_cases h70 : (xs.length : Int) > 70
  · rw [if_pos h70]; rfl
  · rw [if_neg h70]
    by_cases h71 : (ys.length : Int) > 70
    · rw [decide_eq_true h71]; rfl
    · rw [decide_eq_false h71]
      have fx : Fine 70 xs := ⟨by omega, hw⟩
      have fa := Fine.add (now := now) (at_ := at_) fx wi
      have fs := Fine.step (now := now) (tt := at_) fx
      have fl := Fine.due (now := now) (tt := at_) fx
      have fd := Fine.drop (now := now) (id := id) fx
      have hl70 : xs.length ≤ 70 := fx.len
      have e1 := Add_f (now := now) (id := id) (at_ := at_) fx (by decide)
      have e2 := refAdd_f (k := 7000) (now := now) (id := id) (at_ := at_) hl70 (by decide)
      have e3 := Drop_f (now := now) (id := id) fx (by decide)
      have e4 := refDrop_f (k := 7000) (now := now) (id := id) hl70 (by decide)
      have e5 := Step_f (now := now) (tt := at_) fx (by decide)
      have e6 := refStep_f (k := 7000) (now := now) (tt := at_) hl70 (by decide)
      obtain ⟨⟨n1, n2⟩, e8, e7⟩ := refNew_f (k := 7000) (now := nw) (by decide)
      have s1 := refSame_f (k := 7000) (a := now) (b := now) (xs := (W10.addR now xs id at_).1) (ys := (W10.addR now xs id at_).1) (by have := fa.len; omega) (by decide)
      rw [decide_eq_true (by first | exact ⟨rfl, rfl⟩ | rfl)] at s1
      have s2 := refSame_f (k := 7000) (a := now) (b := now) (xs := (W10.dropR now xs id).1) (ys := (W10.dropR now xs id).1) (by have := fd.len; omega) (by decide)
      rw [decide_eq_true (by first | exact ⟨rfl, rfl⟩ | rfl)] at s2
      have s3 := refSame_f (k := 7000) (a := (W10.stepR now xs at_).1) (b := (W10.stepR now xs at_).1) (xs := (W10.stepR now xs at_).2.1) (ys := (W10.stepR now xs at_).2.1) (by have := fs.len; omega) (by decide)
      rw [decide_eq_true (by first | exact ⟨rfl, rfl⟩ | rfl)] at s3
      have s4 := refSame_f (k := 7000) (a := n1) (b := n1) (xs := []) (ys := []) (by decide) (by decide)
      rw [decide_eq_true (by first | exact ⟨rfl, rfl⟩ | rfl)] at s4
      have s5 := Timers_f (k := 7000) (xs := (W10.stepR now xs at_).2.2.1) (ys := (W10.stepR now xs at_).2.2.1) (by have := fl.len; omega) (by decide)
      rw [decide_eq_true (by first | exact ⟨rfl, rfl⟩ | rfl)] at s5
      have s6 := refMay_f (k := 7000) (now := now) hl70 (by decide)
      have s7 := refSame_f (k := 7000) (a := now) (b := now2) (xs := xs) (ys := ys) (by omega) (by decide)
      have s8 := May_f (now := now) fx (by decide)
      have s9 := Same_f (k := 7000) (a := now) (b := now2) (xs := xs) (ys := ys) (by omega) (by decide)
      simp only [mooringslaw10_WheelTells.j0]
      rw [if_neg (by decide), e1, Option.bind_some, e2, Option.bind_some, e3, Option.bind_some, e4, Option.bind_some, e5, Option.bind_some, e6, Option.bind_some, e7, Option.bind_some, e8, Option.bind_some]
      rw [s1, Option.bind_some, s2, Option.bind_some, s3, Option.bind_some, s4, Option.bind_some, s5, Option.bind_some, s6, Option.bind_some, s7, Option.bind_some]
      rw [if_pos rfl, if_pos rfl, if_pos rfl, if_pos (beq_self_eq_true _), if_pos rfl, if_pos rfl, if_pos rfl, if_pos rfl, if_pos (beq_self_eq_true _), s8, Option.bind_some, if_pos (beq_self_eq_true _), s9, Option.bind_some, beq_self_eq_true]
end Go.Proofs.Ytggkealdbebbkaa.P
