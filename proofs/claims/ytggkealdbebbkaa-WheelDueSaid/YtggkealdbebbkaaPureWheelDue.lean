/- WheelDue's plain law: who is due has an At up to the tick, in order; who is left has one above it; all are who was there. -/
import Derived.Test.YtggkealdbebbkaaA
import Derived.Test.YtggkealdbebbkaaP13
namespace Go.Proofs.Ytggkealdbebbkaa.P
open Go.RowKit Go.Proofs.YtggkealdbebbkaaW.PrintWords Go.Proofs.YtggkealdbebbkaaW.PrintLast Go.Proofs.YtggkealdbebbkaaW.PrintMore
open Go.Proofs.Ytggkealdbebbkaa
set_option linter.unusedVariables false
namespace Dev
variable {tt x2 n m : Int} {ls xs ys : List W10.T}
theorem due_l0 (hs : ls.length < 1000) (hb : ls.Pairwise W10.Bf) (ht : ∀ x ∈ ls, x.2 ≤ tt) : ∀ (d k i : Nat), i + d = ls.length → 2 * d < k → mooringslaw10_WheelDue.l0 k tt x2 (ofT ls) (i : Int) n (ofT xs) m (ofT ys) = mooringslaw10_WheelDue.l1 (k - 2 * d - 1) tt x2 (ofT ls) 0 n (ofT xs) m (ofT ys)
  | 0, 0, _, _, hk => absurd hk (by omega)
  | d + 1, 0, _, _, hk => absurd hk (by omega)
  | d + 1, 1, _, _, hk => absurd hk (by omega)
  | 0, k + 1, i, hi, _ => by
    simp only [mooringslaw10_WheelDue.l0, ofT_len]
    rw [if_neg (by omega)]
    rfl
  | d + 1, k + 2, i, hi, hk => by
    have hx : i < ls.length := by omega
    have e : wrap64 ((i : Int) + 1) = ((i + 1 : Nat) : Int) := by rw [w64 (by omega) (by omega)]; omega
    have e3 : k + 2 - 2 * (d + 1) - 1 = k - 2 * d - 1 := by omega
    have ih := due_l0 hs hb ht d k (i + 1) (by omega) (by omega)
    have ht' := ht _ (List.getElem_mem hx)
    have hj : mooringslaw10_WheelDue.j2 (k + 1) tt x2 (ofT ls) (i : Int) false n (ofT xs) m (ofT ys) = mooringslaw10_WheelDue.l1 (k - 2 * d - 1) tt x2 (ofT ls) 0 n (ofT xs) m (ofT ys) := by
      simp only [mooringslaw10_WheelDue.j2]
      rw [if_neg (by decide), e, ih]
    rw [show k + 2 = (k + 1) + 1 from rfl]
    rw [show k + 1 + 1 - 2 * (d + 1) - 1 = k - 2 * d - 1 from by omega]
    simp only [mooringslaw10_WheelDue.l0, ofT_len]
    rw [if_pos (by omega), if_pos (by omega), rd_ofT hx]
    simp only
    rw [if_neg (by omega)]
    by_cases h0 : i = 0
    · rw [if_neg (by omega), hj]
    · obtain ⟨p, rfl⟩ : ∃ p, i = p + 1 := ⟨i - 1, by omega⟩
      have hp : p < ls.length := by omega
      have e1 : wrap64 (((p + 1 : Nat) : Int) - 1) = (p : Int) := by rw [w64 (by omega) (by omega)]; omega
      have hbf := List.pairwise_iff_getElem.1 hb p (p + 1) hp hx (by omega)
      unfold W10.Bf at hbf
      rw [if_pos (by omega), e1, if_pos (by omega), if_pos (by omega), rd_ofT hp]
      simp only
      rw [if_neg (by omega)]
      by_cases hq : ls[p + 1].2 = ls[p].2
      · rw [if_pos hq, decide_eq_false (by omega), hj]
      · rw [if_neg hq, hj]
/-- What stands behind the two loops. -/
theorem due_l1 (hs : ys.length < 1000) (ht : ∀ x ∈ ys, ¬ x.2 ≤ tt) (hm : m = tt) (hl : wrap64 ((ls.length : Int) + (ys.length : Int)) = (xs.length : Int)) : ∀ (d k i : Nat), i + d = ys.length → d < k → mooringslaw10_WheelDue.l1 k tt x2 (ofT ls) (i : Int) n (ofT xs) m (ofT ys) = if x2 < 0 then mooringslaw10_WheelDue.j4 (k - d - 1) tt x2 (ofT ls) true n (ofT xs) m (ofT ys) else mooringslaw10_WheelDue.j4 (k - d - 1) tt x2 (ofT ls) (decide (x2 ≥ (xs.length : Int))) n (ofT xs) m (ofT ys)
  | 0, 0, _, _, hk => absurd hk (by omega)
  | d + 1, 0, _, _, hk => absurd hk (by omega)
  | 0, k + 1, i, hi, _ => by
    simp only [mooringslaw10_WheelDue.l1, ofT_len]
    rw [if_neg (by omega), if_pos hm, if_pos hl]
    rfl
  | d + 1, k + 1, i, hi, hk => by
    have hx : i < ys.length := by omega
    have e : wrap64 ((i : Int) + 1) = ((i + 1 : Nat) : Int) := by rw [w64 (by omega) (by omega)]; omega
    have ih := due_l1 hs ht hm hl d k (i + 1) (by omega) (by omega)
    simp only [mooringslaw10_WheelDue.l1, ofT_len]
    rw [if_pos (by omega), if_pos (by omega), rd_ofT hx]
    simp only
    rw [if_neg (ht _ (List.getElem_mem hx)), e, ih]
    rw [show k + 1 - (d + 1) - 1 = k - d - 1 from by omega]
def eqT (a b : W10.T) : Bool := a.1 == b.1 && (a.2 == b.2)
theorem due_l3 {j : Nat} (hj : j < xs.length) (hs : ys.length < 1000) (hx1 : xs.length < 1000) : ∀ (d k i : Nat) (b : Bool), i + d = ys.length → d < k → mooringslaw10_WheelDue.l3 k (j : Int) b (i : Int) n (ofT xs) m (ofT ys) = some (b || (ys.drop i).any fun y => eqT y xs[j])
  | 0, 0, _, _, _, hk => absurd hk (by omega)
  | d + 1, 0, _, _, _, hk => absurd hk (by omega)
  | 0, k + 1, i, b, hi, _ => by
    simp only [mooringslaw10_WheelDue.l3, ofT_len]
    rw [if_neg (by omega), List.drop_eq_nil_of_le (by omega)]
    simp
  | d + 1, k + 1, i, b, hi, hk => by
    have hx : i < ys.length := by omega
    have e : wrap64 ((i : Int) + 1) = ((i + 1 : Nat) : Int) := by rw [w64 (by omega) (by omega)]; omega
    have ih := fun b => due_l3 hj hs hx1 d k (i + 1) b (by omega) (by omega)
    simp only [mooringslaw10_WheelDue.l3, ofT_len]
    rw [if_pos (by omega), e, List.drop_eq_getElem_cons hx, List.any_cons]
    cases b with
    | true => rw [if_pos rfl, ih]; simp
    | false =>
      rw [if_neg (by decide), if_pos (by omega), if_pos (by omega), if_pos (by omega), rd_ofT hx, rd_ofT hj, ih]
      rw [Bool.false_or]
      rfl
theorem due_l2 {j : Nat} (hj : j < xs.length) (hs : ls.length < 1000) (hx1 : xs.length < 1000) : ∀ (d k i : Nat) (b : Bool), i + d = ls.length → d < k → mooringslaw10_WheelDue.l2 k (j : Int) (ofT ls) b (i : Int) n (ofT xs) m (ofT ys) = mooringslaw10_WheelDue.l3 (k - d - 1) (j : Int) (b || (ls.drop i).any fun y => eqT y xs[j]) 0 n (ofT xs) m (ofT ys)
  | 0, 0, _, _, _, hk => absurd hk (by omega)
  | d + 1, 0, _, _, _, hk => absurd hk (by omega)
  | 0, k + 1, i, b, hi, _ => by
    simp only [mooringslaw10_WheelDue.l2, ofT_len]
    rw [if_neg (by omega), List.drop_eq_nil_of_le (by omega)]
    simp
  | d + 1, k + 1, i, b, hi, hk => by
    have hx : i < ls.length := by omega
    have e : wrap64 ((i : Int) + 1) = ((i + 1 : Nat) : Int) := by rw [w64 (by omega) (by omega)]; omega
    have ih := fun b => due_l2 hj hs hx1 d k (i + 1) b (by omega) (by omega)
    have e3 : k + 1 - (d + 1) - 1 = k - d - 1 := by omega
    simp only [mooringslaw10_WheelDue.l2, ofT_len]
    rw [if_pos (by omega), e, List.drop_eq_getElem_cons hx, List.any_cons, e3]
    cases b with
    | true => rw [if_pos rfl, ih]; simp
    | false =>
      rw [if_neg (by decide), if_pos (by omega), if_pos (by omega), if_pos (by omega), rd_ofT hx, rd_ofT hj, ih]
      rw [Bool.false_or]
      rfl
end Dev
open Dev in
theorem wheelDue_pure (now : Int) (l : List S33) (tt i : Int) (hl : ∀ s ∈ l, (Lit.int .i64 s.f0).wf = true) : ∃ k, mooringslaw10_WheelDue.f k now l tt i = some true := by
  refine ⟨5000, ?_⟩
  rw [← ofT_toT l]
  have hw : ∀ x ∈ toT l, (Lit.int .i64 x.1).wf = true := fun x hx => by
    unfold toT at hx
    obtain ⟨s, hs, rfl⟩ := List.mem_map.1 hx
    exact hl s hs
  generalize toT l = xs at hw
  unfold mooringslaw10_WheelDue.f
  rw [awake_f (by decide), Option.bind_some, if_pos rfl, ofT_len]
  by_cases h70 : (xs.length : Int) > 70
  · rw [decide_eq_true h70]; rfl
  · rw [decide_eq_false h70]
    have fx : Fine 70 xs := ⟨by omega, hw⟩
    have fs := Fine.step (now := now) (tt := tt) fx
    have fl := Fine.due (now := now) (tt := tt) fx
    have e1 := Step_f (now := now) (tt := tt) fx (by decide)
    simp only [mooringslaw10_WheelDue.j0]
    rw [if_neg (by decide), e1, Option.bind_some]
    by_cases hS : (W10.stepR now xs tt).2.2.2 = 0
    · rw [if_pos hS]
      obtain ⟨hM, s1, s2, es⟩ := W10.stepR_ok hS
      have b1 := fs.len
      have b2 := fl.len
      have b3 := fx.len
      have en : (W10.stepR now xs tt).1 = tt := by rw [es]
      have ey : (W10.stepR now xs tt).2.1 = xs.filter fun x => !decide (x.2 ≤ tt) := by rw [es]
      have ed : (W10.stepR now xs tt).2.2.1 = xs.filter fun x => decide (x.2 ≤ tt) := by rw [es]
      show mooringslaw10_WheelDue.l0 4999 tt i (ofT (W10.stepR now xs tt).2.2.1) 0 now (ofT xs) (W10.stepR now xs tt).1 (ofT (W10.stepR now xs tt).2.1) = some true
      rw [en]
      rw [ey] at b1 ⊢
      rw [ed] at b2 ⊢
      have hlen : (xs.filter fun x => decide (x.2 ≤ tt)).length + (xs.filter fun x => !decide (x.2 ≤ tt)).length = xs.length := by
        have := (List.filter_append_perm (fun x : W10.T => decide (x.2 ≤ tt)) xs).length_eq
        rwa [List.length_append] at this
      have hl : wrap64 (((xs.filter fun x => decide (x.2 ≤ tt)).length : Int) + ((xs.filter fun x => !decide (x.2 ≤ tt)).length : Int)) = (xs.length : Int) := by
        rw [w64 (by omega) (by omega)]; omega
      refine (due_l0 (by omega) (hM.srt.filter _) (fun x hx => by simpa using (List.mem_filter.1 hx).2) _ 4999 0 (Nat.zero_add _) (by omega)).trans ?_
      refine (due_l1 (by omega) (fun x hx => by simpa using (List.mem_filter.1 hx).2) rfl hl _ _ 0 (Nat.zero_add _) (by omega)).trans ?_
      obtain ⟨k, hk, hk2⟩ : ∃ k, 4999 - 2 * (xs.filter fun x => decide (x.2 ≤ tt)).length - 1 - (xs.filter fun x => !decide (x.2 ≤ tt)).length - 1 = k + 1 ∧ 1000 ≤ k := ⟨4999 - 2 * (xs.filter fun x => decide (x.2 ≤ tt)).length - 1 - (xs.filter fun x => !decide (x.2 ≤ tt)).length - 1 - 1, by omega, by omega⟩
      rw [hk]
      have ht : mooringslaw10_WheelDue.j4 (k + 1) tt i (ofT (xs.filter fun x => decide (x.2 ≤ tt))) true now (ofT xs) tt (ofT (xs.filter fun x => !decide (x.2 ≤ tt))) = some true := by
        simp only [mooringslaw10_WheelDue.j4, ofT_len]
        rw [if_pos trivial, if_pos trivial, hl, beq_self_eq_true]
      by_cases h0 : i < 0
      · rw [if_pos h0, ht]
      · rw [if_neg h0]
        by_cases h1 : i ≥ (xs.length : Int)
        · rw [decide_eq_true h1, ht]
        · rw [decide_eq_false h1]
          obtain ⟨j, rfl⟩ : ∃ j : Nat, i = (j : Int) := ⟨i.toNat, by omega⟩
          have hj : j < xs.length := by omega
          simp only [mooringslaw10_WheelDue.j4]
          rw [if_neg (by decide)]
          refine (due_l2 hj (by omega) (by omega) _ k 0 false (Nat.zero_add _) (by omega)).trans ?_
          refine (due_l3 hj (by omega) (by omega) _ _ 0 _ (Nat.zero_add _) (by omega)).trans ?_
          congr 1
          rw [List.drop_zero, List.drop_zero, Bool.false_or, Bool.or_eq_true, List.any_eq_true, List.any_eq_true]
          have hm := List.getElem_mem hj
          by_cases hc : xs[j].2 ≤ tt
          · exact .inl ⟨_, List.mem_filter.2 ⟨hm, decide_eq_true hc⟩, by simp [eqT]⟩
          · exact .inr ⟨_, List.mem_filter.2 ⟨hm, by simp [hc]⟩, by simp [eqT]⟩
    · rw [if_neg hS, (W10.stepR_err hS).2.2]
      rfl
end Go.Proofs.Ytggkealdbebbkaa.P
