/- WheelOrder's plain law: it is the same in which order two timers are added. -/
import Derived.Test.YtggkealdbebbkaaA
import Derived.Test.YtggkealdbebbkaaP15
namespace Go.Proofs.Ytggkealdbebbkaa.W10
theorem addR_errs {now : Int} {xs ys : List T} {b : T} (hx : MayP now xs) (hy : MayP now ys) (hm : (∃ x ∈ xs, x.1 = b.1) ↔ (∃ y ∈ ys, y.1 = b.1)) (lx : xs.length ≠ 64) (ly : ys.length ≠ 64) : (addR now xs b.1 b.2).2 = (addR now ys b.1 b.2).2 := by
  have ha : (xs.any fun x => x.1 == b.1) = (ys.any fun x => x.1 == b.1) := by
    rw [Bool.eq_iff_iff, List.any_eq_true, List.any_eq_true]
    simpa using hm
  rw [addR_eq, addR_eq, mayB_iff.2 hx, mayB_iff.2 hy, ha, if_neg lx, if_neg ly]
  repeat' split
  all_goals rfl
theorem err_ins {now : Int} {xs : List T} {a b : T} (h : MayP now xs) (hl : xs.length ≤ 60) (ha : now < a.2 ∧ a.2 ≤ maxTick) (h0 : 0 ≤ a.1) (hn : ∀ y ∈ xs, y.1 ≠ a.1) (hab : a.1 ≠ b.1) : (addR now (ins xs a) b.1 b.2).2 = (addR now xs b.1 b.2).2 := by
  have hp := ins_perm h ha
  refine addR_errs (h.ins ha h0 hn (by omega)) h ?_ (by rw [hp.length_eq, List.length_append]; simp; omega) (by omega)
  constructor
  · rintro ⟨y, hy, e⟩
    rcases List.mem_append.1 (hp.mem_iff.1 hy) with hy | hy
    · exact ⟨y, hy, e⟩
    · rw [List.mem_singleton.1 hy] at e; exact absurd e hab
  · rintro ⟨y, hy, e⟩
    exact ⟨y, hp.mem_iff.2 (List.mem_append_left _ hy), e⟩
theorem order_law (now : Int) (xs : List T) (a b : T) (hl : xs.length ≤ 60) (hab : a.1 ≠ b.1) :
    (addR now xs a.1 a.2).2 = (addR now (addR now xs b.1 b.2).1 a.1 a.2).2 ∧ (addR now (addR now xs a.1 a.2).1 b.1 b.2).2 = (addR now xs b.1 b.2).2 ∧ (addR now (addR now xs a.1 a.2).1 b.1 b.2).1 = (addR now (addR now xs b.1 b.2).1 a.1 a.2).1 := by
  by_cases hA : (addR now xs a.1 a.2).2 = 0
  · obtain ⟨hM, a0, a1, a2, a3, a4, ea⟩ := addR_ok hA
    have kb := err_ins (b := b) hM hl ⟨a1, a2⟩ a0 a3 hab
    rw [← ea] at kb
    by_cases hC : (addR now xs b.1 b.2).2 = 0
    · obtain ⟨_, b0, b1, b2, b3, b4, eb⟩ := addR_ok hC
      have ka := err_ins (b := a) hM hl ⟨b1, b2⟩ b0 b3 (Ne.symm hab)
      rw [← eb] at ka
      refine ⟨ka.symm, kb, ?_⟩
      obtain ⟨M1, _, c1, c2, _, _, e1⟩ := addR_ok (kb.trans hC)
      obtain ⟨M2, _, d1, d2, _, _, e2⟩ := addR_ok (ka.trans hA)
      rw [e1, e2]
      refine sorted_eq ?_ (pick_sorted _ _) (pick_sorted _ _)
      refine (ins_perm M1 ⟨c1, c2⟩).trans (List.Perm.trans ?_ (ins_perm M2 ⟨d1, d2⟩).symm)
      rw [ea, eb]
      refine ((ins_perm hM ⟨a1, a2⟩).append_right _).trans (List.Perm.trans ?_ ((ins_perm hM ⟨b1, b2⟩).append_right _).symm)
      rw [List.append_assoc, List.append_assoc]
      exact List.Perm.append_left _ (List.Perm.swap _ _ _)
    · have ec := addR_err hC
      rw [ec]
      refine ⟨rfl, kb, ?_⟩
      rw [addR_err (fun e => hC (kb.symm.trans e))]
  · have ea := addR_err hA
    rw [ea]
    by_cases hC : (addR now xs b.1 b.2).2 = 0
    · obtain ⟨hM, b0, b1, b2, b3, b4, eb⟩ := addR_ok hC
      have ka := err_ins (b := a) hM hl ⟨b1, b2⟩ b0 b3 (Ne.symm hab)
      rw [← eb] at ka
      exact ⟨ka.symm, rfl, (addR_err (fun e => hA (ka.symm.trans e))).symm⟩
    · have ec := addR_err hC
      rw [ec]
      exact ⟨rfl, rfl, ea.symm⟩
end Go.Proofs.Ytggkealdbebbkaa.W10
namespace Go.Proofs.Ytggkealdbebbkaa.P
open Go.RowKit Go.Proofs.YtggkealdbebbkaaW.PrintWords Go.Proofs.YtggkealdbebbkaaW.PrintLast Go.Proofs.YtggkealdbebbkaaW.PrintMore
open Go.Proofs.Ytggkealdbebbkaa
set_option linter.unusedVariables false
open Dev in
theorem wheelOrder_pure (now : Int) (l : List S33) (ai aa bi ba : Int) (hl : ∀ s ∈ l, (Lit.int .i64 s.f0).wf = true) (wa : (Lit.int .i64 ai).wf = true) (wb : (Lit.int .i64 bi).wf = true) : ∃ k, mooringslaw10_WheelOrder.f k now l ai aa bi ba = some true := by
  refine ⟨1001, ?_⟩
  rw [← ofT_toT l]
  have hw : ∀ x ∈ toT l, (Lit.int .i64 x.1).wf = true := fun x hx => by
    unfold toT at hx
    obtain ⟨s, hs, rfl⟩ := List.mem_map.1 hx
    exact hl s hs
  generalize toT l = xs at hw
  unfold mooringslaw10_WheelOrder.f
  rw [awake_f (by decide), Option.bind_some, if_pos rfl, ofT_len]
  by_cases h60 : (xs.length : Int) > 60
  · rw [if_pos h60]; rfl
  · rw [if_neg h60]
    by_cases hab : ai = bi
    · rw [hab, beq_self_eq_true]; rfl
    · have fx : Fine 60 xs := ⟨by omega, hw⟩
      obtain ⟨g1, g2, g3⟩ := W10.order_law now xs (ai, aa) (bi, ba) fx.len hab
      have fa := Fine.add (now := now) (at_ := aa) fx wa
      have fb := Fine.add (now := now) (at_ := ba) fx wb
      have fab := Fine.add (now := now) (at_ := ba) fa wb
      have e1 := Add_f (now := now) (id := ai) (at_ := aa) fx (by decide)
      have e2 := Add_f (now := now) (id := bi) (at_ := ba) fa (by decide)
      have e3 := Add_f (now := now) (id := bi) (at_ := ba) fx (by decide)
      have e4 := Add_f (now := now) (id := ai) (at_ := aa) fb (by decide)
      have e5 := Same_f (k := 1000) (a := now) (b := now) (xs := (W10.addR now (W10.addR now xs ai aa).1 bi ba).1) (ys := (W10.addR now (W10.addR now xs bi ba).1 ai aa).1) (by have := fab.len; omega) (by decide)
      rw [beq_eq_false_iff_ne.2 hab]
      simp only [mooringslaw10_WheelOrder.j0]
      rw [if_neg (by decide), e1, Option.bind_some, e2, Option.bind_some, e3, Option.bind_some, e4, Option.bind_some, if_pos g1, if_pos g2, e5, Option.bind_some]
      congr 1
      rw [decide_eq_true_eq]
      exact ⟨rfl, g3⟩
end Go.Proofs.Ytggkealdbebbkaa.P
