/- WheelOnce's plain law: a timer is due once: at the first step to its tick, or behind it, and never again. -/
import Derived.Test.YtggkealdbebbkaaA
import Derived.Test.YtggkealdbebbkaaP14
namespace Go.Proofs.Ytggkealdbebbkaa.P
open Go.RowKit Go.Proofs.YtggkealdbebbkaaW.PrintWords Go.Proofs.YtggkealdbebbkaaW.PrintLast Go.Proofs.YtggkealdbebbkaaW.PrintMore
open Go.Proofs.Ytggkealdbebbkaa
set_option linter.unusedVariables false
namespace Dev
def cnt (id : Int) (xs : List W10.T) : Nat := List.countP (fun y : W10.T => y.1 == id) xs
theorem cnt_drop {id : Int} {xs : List W10.T} {i : Nat} (hi : i < xs.length) : cnt id (xs.drop i) = (if xs[i].1 = id then 1 else 0) + cnt id (xs.drop (i + 1)) := by
  unfold cnt
  rw [List.drop_eq_getElem_cons hi, List.countP_cons]
  by_cases h : xs[i].1 = id
  · simp [h]; omega
  · simp [h]
/-- What WheelOnce says of the two numbers. -/
def fin (at_ tt later c1 c2 : Int) : Option Bool := if ((c1 == 1) == (decide (at_ ≤ tt))) = true then (if at_ > tt then (if ((c2 == 1) == (decide (at_ ≤ later))) = true then (some (decide ((wrap64 (c1 + c2)) ≤ 1))) else (some false)) else (if ((c2 == 1) == false) = true then (some (decide ((wrap64 (c1 + c2)) ≤ 1))) else (some false))) else (some false)
theorem once_l1 {id at_ tt later c1 : Int} {ks : List W10.T} (hs : ks.length < 1000) : ∀ (d k i c : Nat), i + d = ks.length → d < k → c ≤ i → mooringslaw10_WheelOnce.l1 k id at_ tt later (ofT ks) c1 (c : Int) (i : Int) = fin at_ tt later c1 ((c + cnt id (ks.drop i) : Nat) : Int)
  | 0, 0, _, _, _, hk, _ => absurd hk (by omega)
  | d + 1, 0, _, _, _, hk, _ => absurd hk (by omega)
  | 0, k + 1, i, c, hi, _, _ => by
    simp only [mooringslaw10_WheelOnce.l1, ofT_len]
    rw [if_neg (by omega), List.drop_eq_nil_of_le (by omega)]
    rfl
  | d + 1, k + 1, i, c, hi, hk, hc => by
    have hx : i < ks.length := by omega
    have e : wrap64 ((i : Int) + 1) = ((i + 1 : Nat) : Int) := by rw [w64 (by omega) (by omega)]; omega
    have e2 : wrap64 ((c : Int) + 1) = ((c + 1 : Nat) : Int) := by rw [w64 (by omega) (by omega)]; omega
    simp only [mooringslaw10_WheelOnce.l1, ofT_len]
    rw [if_pos (by omega), if_pos (by omega), rd_ofT hx, e, e2, cnt_drop hx]
    by_cases h : ks[i].1 = id
    · rw [if_pos h, if_pos h, once_l1 hs d k (i + 1) (c + 1) (by omega) (by omega) (by omega)]
      rw [Nat.add_assoc]
    · rw [if_neg h, if_neg h, once_l1 hs d k (i + 1) c (by omega) (by omega) (by omega), Nat.zero_add]
theorem once_l0 {id at_ tt later : Int} {ls ks : List W10.T} (hs : ls.length < 1000) : ∀ (d k i c : Nat), i + d = ls.length → d < k → c ≤ i → mooringslaw10_WheelOnce.l0 k id at_ tt later (ofT ls) (ofT ks) (c : Int) (i : Int) = mooringslaw10_WheelOnce.l1 (k - d - 1) id at_ tt later (ofT ks) ((c + cnt id (ls.drop i) : Nat) : Int) 0 0
  | 0, 0, _, _, _, hk, _ => absurd hk (by omega)
  | d + 1, 0, _, _, _, hk, _ => absurd hk (by omega)
  | 0, k + 1, i, c, hi, _, _ => by
    simp only [mooringslaw10_WheelOnce.l0, ofT_len]
    rw [if_neg (by omega), List.drop_eq_nil_of_le (by omega)]
    rfl
  | d + 1, k + 1, i, c, hi, hk, hc => by
    have hx : i < ls.length := by omega
    have e : wrap64 ((i : Int) + 1) = ((i + 1 : Nat) : Int) := by rw [w64 (by omega) (by omega)]; omega
    have e2 : wrap64 ((c : Int) + 1) = ((c + 1 : Nat) : Int) := by rw [w64 (by omega) (by omega)]; omega
    have e3 : k + 1 - (d + 1) - 1 = k - d - 1 := by omega
    simp only [mooringslaw10_WheelOnce.l0, ofT_len]
    rw [if_pos (by omega), if_pos (by omega), rd_ofT hx, e, e2, cnt_drop hx, e3]
    by_cases h : ls[i].1 = id
    · rw [if_pos h, if_pos h, once_l0 hs d k (i + 1) (c + 1) (by omega) (by omega) (by omega)]
      rw [Nat.add_assoc]
    · rw [if_neg h, if_neg h, once_l0 hs d k (i + 1) c (by omega) (by omega) (by omega), Nat.zero_add]
theorem fin_ok (at_ tt later : Int) : fin at_ tt later ((if decide (at_ ≤ tt) = true then 1 else 0 : Nat) : Int) ((if (!decide (at_ ≤ tt) && decide (at_ ≤ later)) = true then 1 else 0 : Nat) : Int) = some true := by
  unfold fin
  by_cases h : at_ ≤ tt
  · have h' : ¬ at_ > tt := by omega
    simp [h, h']
    (unfold wrap64; omega)
  · have h' : at_ > tt := by omega
    by_cases h2 : at_ ≤ later
    · simp [h, h', h2]
      (unfold wrap64; omega)
    · simp [h, h', h2]
      (unfold wrap64; omega)
end Dev
open Dev in
theorem wheelOnce_pure (now : Int) (l : List S33) (id at_ tt later : Int) (hl : ∀ s ∈ l, (Lit.int .i64 s.f0).wf = true) (wi : (Lit.int .i64 id).wf = true) : ∃ k, mooringslaw10_WheelOnce.f k now l id at_ tt later = some true := by
  refine ⟨3000, ?_⟩
  rw [← ofT_toT l]
  have hw : ∀ x ∈ toT l, (Lit.int .i64 x.1).wf = true := fun x hx => by
    unfold toT at hx
    obtain ⟨s, hs, rfl⟩ := List.mem_map.1 hx
    exact hl s hs
  generalize toT l = xs at hw
  unfold mooringslaw10_WheelOnce.f
  rw [awake_f (by decide), Option.bind_some, if_pos rfl, ofT_len]
  by_cases h70 : (xs.length : Int) > 70
  · rw [decide_eq_true h70]; rfl
  · rw [decide_eq_false h70]
    have fx : Fine 70 xs := ⟨by omega, hw⟩
    have fa := Fine.add (now := now) (at_ := at_) fx wi
    have e1 := Add_f (now := now) (id := id) (at_ := at_) fx (by decide)
    have e2 := Step_f (now := now) (tt := tt) fa (by decide)
    have fs := Fine.step (now := now) (tt := tt) fa
    have fd := Fine.due (now := now) (tt := tt) fa
    have e3 := Step_f (now := (W10.stepR now (W10.addR now xs id at_).1 tt).1) (tt := later) fs (by decide)
    have fk := Fine.due (now := (W10.stepR now (W10.addR now xs id at_).1 tt).1) (tt := later) fs
    simp only [mooringslaw10_WheelOnce.j0]
    rw [if_neg (by decide), e1, Option.bind_some, e2, Option.bind_some, e3, Option.bind_some]
    by_cases hA : (W10.addR now xs id at_).2 = 0
    · rw [if_pos hA]
      by_cases hS : (W10.stepR now (W10.addR now xs id at_).1 tt).2.2.2 = 0
      · rw [if_pos hS]
        by_cases hK : (W10.stepR (W10.stepR now (W10.addR now xs id at_).1 tt).1 (W10.stepR now (W10.addR now xs id at_).1 tt).2.1 later).2.2.2 = 0
        · rw [hK]
          simp only [mooringslaw10_WheelOnce.j1]
          rw [if_neg (by decide)]
          have q0 := once_l0 (id := id) (at_ := at_) (tt := tt) (later := later) (ls := (W10.stepR now (W10.addR now xs id at_).1 tt).2.2.1) (ks := (W10.stepR (W10.stepR now (W10.addR now xs id at_).1 tt).1 (W10.stepR now (W10.addR now xs id at_).1 tt).2.1 later).2.2.1) (by have := fd.len; omega) _ 2998 0 0 (Nat.zero_add _) (by have := fd.len; omega) (Nat.le_refl _)
          have q1 := fun c1 : Int => once_l1 (id := id) (at_ := at_) (tt := tt) (later := later) (c1 := c1) (ks := (W10.stepR (W10.stepR now (W10.addR now xs id at_).1 tt).1 (W10.stepR now (W10.addR now xs id at_).1 tt).2.1 later).2.2.1) (by have := fk.len; omega) _ (2998 - (W10.stepR now (W10.addR now xs id at_).1 tt).2.2.1.length - 1) 0 0 (Nat.zero_add _) (by have := fk.len; have := fd.len; omega) (Nat.le_refl _)
          refine q0.trans ((q1 _).trans ?_)
          rw [Nat.zero_add, Nat.zero_add, List.drop_zero, List.drop_zero]
          obtain ⟨hM, i0, a1, a2, a3, a4, ea⟩ := W10.addR_ok hA
          obtain ⟨hM1, s1, s2, es⟩ := W10.stepR_ok hS
          obtain ⟨hM2, k1, k2, ek⟩ := W10.stepR_ok hK
          rw [ek, es, ea]
          have c1 := W10.ins_step_count (x := (id, at_)) hM ⟨a1, a2⟩ a3 (fun x => decide (x.2 ≤ tt))
          have c2 := W10.ins_step_count (x := (id, at_)) hM ⟨a1, a2⟩ a3 (fun x => !decide (x.2 ≤ tt) && decide (x.2 ≤ later))
          have f1 : cnt id ((W10.ins xs (id, at_)).filter fun x => decide (x.2 ≤ tt)) = if decide (at_ ≤ tt) = true then 1 else 0 := c1
          have f2 : cnt id (((W10.ins xs (id, at_)).filter fun x => !decide (x.2 ≤ tt)).filter fun x => decide (x.2 ≤ later)) = if (!decide (at_ ≤ tt) && decide (at_ ≤ later)) = true then 1 else 0 := by
            rw [List.filter_filter]
            refine Eq.trans ?_ c2
            unfold cnt
            congr 1
            refine List.filter_congr fun x _ => Bool.and_comm _ _
          show fin at_ tt later (((cnt id ((W10.ins xs (id, at_)).filter fun x => decide (x.2 ≤ tt)) : Nat) : Int)) (((cnt id (((W10.ins xs (id, at_)).filter fun x => !decide (x.2 ≤ tt)).filter fun x => decide (x.2 ≤ later)) : Nat) : Int)) = some true
          rw [f1, f2]
          exact fin_ok at_ tt later
        · rw [bne_iff_ne.2 hK]
          rfl
      · rw [if_neg hS]; rfl
    · rw [if_neg hA]; rfl
end Go.Proofs.Ytggkealdbebbkaa.P
