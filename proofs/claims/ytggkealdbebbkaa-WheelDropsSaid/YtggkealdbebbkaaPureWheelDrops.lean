/- WheelDrops' plain law: what is dropped is due nevermore; all others are, as they were. -/
import Derived.Test.YtggkealdbebbkaaD
import Derived.Test.YtggkealdbebbkaaP16
namespace Go.Proofs.Ytggkealdbebbkaa.W10
theorem drops_law (now : Int) (xs : List T) (id tt : Int) : (stepR now xs tt).2.2.2 = (stepR now (dropR now xs id).1 tt).2.2.2 ∧ (stepR now (dropR now xs id).1 tt).2.2.1 = (stepR now xs tt).2.2.1.filter (fun x => !(x.1 == id)) ∧ ((dropR now xs id).2 = false → (dropR now xs id).1 = xs) := by
  rw [dropR_eq]
  by_cases h : mayB now xs = true
  · rw [if_pos h]
    have h2 : mayB now (xs.filter fun x => !(x.1 == id)) = true := mayB_iff.2 ((mayB_iff.1 h).filter _)
    refine ⟨?_, ?_, fun hf => ?_⟩
    · rw [stepR_eq, stepR_eq, if_pos h, if_pos h2]
      split <;> rfl
    · rw [stepR_eq, stepR_eq, if_pos h, if_pos h2]
      split
      · rfl
      · show List.filter _ (List.filter _ _) = List.filter _ (List.filter _ _)
        rw [List.filter_filter, List.filter_filter]
        exact List.filter_congr fun x _ => Bool.and_comm _ _
    · refine List.filter_eq_self.2 fun x hx => ?_
      have h0 : (xs.filter fun x => x.1 == id).length = 0 := by
        have : ¬ 0 < (xs.filter fun x => x.1 == id).length := by simpa using hf
        omega
      have := List.filter_eq_nil_iff.1 (List.length_eq_zero_iff.1 h0) x hx
      simpa using this
  · rw [if_neg h]
    refine ⟨rfl, ?_, fun _ => rfl⟩
    rw [stepR_eq, if_neg h]
    rfl
end Go.Proofs.Ytggkealdbebbkaa.W10
namespace Go.Proofs.Ytggkealdbebbkaa.P
open Go.RowKit Go.Proofs.YtggkealdbebbkaaW.PrintWords Go.Proofs.YtggkealdbebbkaaW.PrintLast Go.Proofs.YtggkealdbebbkaaW.PrintMore
open Go.Proofs.Ytggkealdbebbkaa
set_option linter.unusedVariables false
namespace Dev
theorem drops_l0 {id e f n m : Int} {is_ : Bool} {ls ks xs ys : List W10.T} (hs : ls.length < 1000) : ∀ (d k i : Nat) (acc : List W10.T), i + d = ls.length → d < k → acc.length ≤ i →
    mooringslaw10_WheelDrops.l0 k id is_ (ofT ls) e (ofT ks) f (ofT acc) (i : Int) n (ofT xs) m (ofT ys) = ((mooringsref10_Timers.f (k - d - 1) (ofT ks) (ofT (acc ++ (ls.drop i).filter fun x => !(x.1 == id)))).bind fun t401 => (if e = f then (if is_ = true then (some t401) else ((wheel_Same.f (k - d - 1) m (ofT ys) n (ofT xs)).bind fun t402 => (if t402 = true then (some t401) else (some false)))) else (some false)))
  | 0, 0, _, _, _, hk, _ => absurd hk (by omega)
  | d + 1, 0, _, _, _, hk, _ => absurd hk (by omega)
  | 0, k + 1, i, acc, hi, _, _ => by
    simp only [mooringslaw10_WheelDrops.l0, ofT_len]
    rw [if_neg (by omega), List.drop_eq_nil_of_le (by omega), List.filter_nil, List.append_nil]
    rfl
  | d + 1, k + 1, i, acc, hi, hk, hc => by
    have hx : i < ls.length := by omega
    have e1 : wrap64 ((i : Int) + 1) = ((i + 1 : Nat) : Int) := by rw [w64 (by omega) (by omega)]; omega
    have e3 : k + 1 - (d + 1) - 1 = k - d - 1 := by omega
    simp only [mooringslaw10_WheelDrops.l0, ofT_len]
    rw [if_pos (by omega), if_pos (by omega), rd_ofT hx, e1, e3, List.drop_eq_getElem_cons hx, List.filter_cons]
    by_cases h : ls[i].1 = id
    · rw [if_pos h, if_neg (by simp [h]), drops_l0 hs d k (i + 1) acc (by omega) (by omega) (by omega)]
    · rw [if_neg h, if_pos (show acc.length < 8796093022208 by omega), if_pos (show (!(ls[i].1 == id)) = true by simp [h])]
      have ea : ofT acc ++ [(⟨(ls[i]).1, (ls[i]).2⟩ : S33)] = ofT (acc ++ [ls[i]]) := by simp [ofT]
      rw [ea, drops_l0 hs d k (i + 1) (acc ++ [ls[i]]) (by omega) (by omega) (by simp; omega), List.append_assoc]
      rfl
end Dev
open Dev in
theorem wheelDrops_pure (now : Int) (l : List S33) (id tt : Int) (hl : ∀ s ∈ l, (Lit.int .i64 s.f0).wf = true) : ∃ k, mooringslaw10_WheelDrops.f k now l id tt = some true := by
  refine ⟨3000, ?_⟩
  rw [← ofT_toT l]
  have hw : ∀ x ∈ toT l, (Lit.int .i64 x.1).wf = true := fun x hx => by
    unfold toT at hx
    obtain ⟨s, hs, rfl⟩ := List.mem_map.1 hx
    exact hl s hs
  generalize toT l = xs at hw
  unfold mooringslaw10_WheelDrops.f
  rw [awake_f (by decide), Option.bind_some, if_pos rfl, ofT_len]
  by_cases h70 : (xs.length : Int) > 70
  · rw [decide_eq_true h70]; rfl
  · rw [decide_eq_false h70]
    have fx : Fine 70 xs := ⟨by omega, hw⟩
    have fd := Fine.drop (now := now) (id := id) fx
    have fl := Fine.due (now := now) (tt := tt) fx
    have fk := Fine.due (now := now) (tt := tt) fd
    have e1 := Drop_f (now := now) (id := id) fx (by decide)
    have e2 := Step_f (now := now) (tt := tt) fx (by decide)
    have e3 := Step_f (now := now) (tt := tt) fd (by decide)
    obtain ⟨g1, g2, g3⟩ := W10.drops_law now xs id tt
    simp only [mooringslaw10_WheelDrops.j0]
    rw [if_neg (by decide), e1, Option.bind_some, e2, Option.bind_some, e3, Option.bind_some]
    refine (drops_l0 (ls := (W10.stepR now xs tt).2.2.1) (by have := fl.len; omega) _ 2999 0 [] (Nat.zero_add _) (by have := fl.len; omega) (Nat.le_refl _)).trans ?_
    rw [List.drop_zero, List.nil_append, Timers_f (by have := fk.len; omega) (by have := fl.len; omega), Option.bind_some, if_pos g1, decide_eq_true g2]
    by_cases hd : (W10.dropR now xs id).2 = true
    · rw [if_pos hd]
    · rw [if_neg hd, Same_f (by have := fd.len; omega) (by have := fl.len; omega), Option.bind_some, decide_eq_true ⟨rfl, g3 (by simpa using hd)⟩]
      rfl
end Go.Proofs.Ytggkealdbebbkaa.P
