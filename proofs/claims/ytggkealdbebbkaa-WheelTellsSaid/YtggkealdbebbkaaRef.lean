/- What the document's answer (mooringsref10) computes: the same as the code does, over rows of pairs. -/
import Derived.Test.YtggkealdbebbkaaD
import Derived.Test.YtggkealdbebbkaaP5
import Derived.Test.YtggkealdbebbkaaP6
import Derived.Test.YtggkealdbebbkaaP8
import Derived.Test.YtggkealdbebbkaaP9
import Derived.Test.YtggkealdbebbkaaP10
namespace Go.Proofs.Ytggkealdbebbkaa.P
open Go.RowKit Go.Proofs.YtggkealdbebbkaaW.PrintWords Go.Proofs.YtggkealdbebbkaaW.PrintLast Go.Proofs.YtggkealdbebbkaaW.PrintMore
open Go.Proofs.Ytggkealdbebbkaa
set_option linter.unusedVariables false
namespace Dev
variable {now tt id at_ : Int} {xs ys : List W10.T}
instance (x y : W10.T) : Decidable (W10.Bf x y) := inferInstanceAs (Decidable (_ ∨ _))
theorem before_f (x y : W10.T) : mooringsref10_before.f x.1 x.2 y.1 y.2 = some (decide (W10.Bf x y)) := by
  unfold mooringsref10_before.f W10.Bf
  by_cases h : x.2 < y.2
  · rw [if_pos h]; simp [h]
  · rw [if_neg h]
    by_cases h2 : x.2 = y.2
    · rw [if_pos h2]; simp [h2]
    · rw [if_neg h2]; simp [h, h2]
theorem next {i : Nat} (h : i < 1000) : wrap64 ((i : Int) + 1) = ((i + 1 : Nat) : Int) := by rw [w64 (by omega) (by omega)]; omega
theorem may_l1 {i : Nat} (hl : xs.length ≤ 70) (hi : i < xs.length) : ∀ (d k j : Nat), j + d = i → d < k → mooringsref10_May.l1 k (i : Int) (j : Int) now (ofT xs) xs[i].1 xs[i].2 = if xs[i].1 ∈ ((xs.take i).drop j).map (·.1) then some false else mooringsref10_May.l0 (k - d - 1) ((i + 1 : Nat) : Int) now (ofT xs)
  | 0, 0, _, _, hk => absurd hk (by omega)
  | d + 1, 0, _, _, hk => absurd hk (by omega)
  | 0, k + 1, j, hj, _ => by
    simp only [mooringsref10_May.l1]
    rw [if_neg (by omega), next (by omega), List.drop_eq_nil_of_le (by rw [List.length_take]; omega)]
    simp
  | d + 1, k + 1, j, hj, hk => by
    have ih := may_l1 hl hi d k (j + 1) (by omega) (by omega)
    have hx : j < xs.length := by omega
    have ht : j < (xs.take i).length := by rw [List.length_take]; omega
    simp only [mooringsref10_May.l1, ofT_len]
    rw [if_pos (by omega), if_pos (by omega), if_pos (by omega), rd_ofT hx, next (by omega), ih, List.drop_eq_getElem_cons ht, List.getElem_take, List.map_cons]
    simp only
    by_cases he : xs[j].1 = xs[i].1
    · rw [if_pos he, if_pos (by rw [he]; exact List.mem_cons_self)]
    · rw [if_neg he, show k + 1 - (d + 1) - 1 = k - d - 1 from by omega]
      have : xs[i].1 ∈ xs[j].1 :: ((xs.take i).drop (j + 1)).map (·.1) ↔ xs[i].1 ∈ ((xs.take i).drop (j + 1)).map (·.1) := by
        rw [List.mem_cons]
        exact ⟨fun h => h.resolve_left (fun e => he e.symm), .inr⟩
      simp only [this]
theorem may_round {i k : Nat} (hl : xs.length ≤ 70) (hi : i < xs.length) (hk : 75 ≤ k) : mooringsref10_May.l0 k (i : Int) now (ofT xs) = if W10.okB now xs i xs[i] = true then mooringsref10_May.l0 (k - i - 4) ((i + 1 : Nat) : Int) now (ofT xs) else some false := by
  obtain ⟨k, rfl⟩ : ∃ q, k = q + 3 := ⟨k - 3, by omega⟩
  have hj2 : mooringsref10_May.j2 (k + 2) (i : Int) true now (ofT xs) xs[i].1 xs[i].2 = some false := by
    rw [show k + 2 = (k + 1) + 1 from rfl]; simp only [mooringsref10_May.j2]; rw [if_pos trivial]
  have hl1 := may_l1 (now := now) hl hi i k 0 (Nat.zero_add _) (by omega)
  rw [List.drop_zero] at hl1
  have hids : (xs.take i).map (·.1) = W10.ids xs i := rfl
  rw [hids] at hl1
  have hj3 : mooringsref10_May.j3 (k + 1) (i : Int) true now (ofT xs) xs[i].1 xs[i].2 = if xs[i].1 ∈ W10.ids xs i then some false else mooringsref10_May.l0 (k - i - 1) ((i + 1 : Nat) : Int) now (ofT xs) := by
    simp only [mooringsref10_May.j3]; rw [if_pos trivial]; exact hl1
  have hj3f : mooringsref10_May.j3 (k + 1) (i : Int) false now (ofT xs) xs[i].1 xs[i].2 = some false := by
    simp only [mooringsref10_May.j3]; rw [if_neg (by decide)]
  simp only [W10.okB_iff]
  rw [show k + 3 - i - 4 = k - i - 1 from by omega]
  rw [show k + 3 = (k + 2) + 1 from rfl]
  simp only [mooringsref10_May.l0, ofT_len]
  rw [if_pos (by omega), if_pos (by omega), rd_ofT hi]
  simp only
  by_cases h1 : xs[i].2 ≤ now
  · rw [if_pos h1, hj2, if_neg (fun h => by omega)]
  · rw [if_neg h1]
    by_cases h2 : xs[i].2 > 1073741824
    · rw [if_pos h2, hj2, if_neg (fun h => by have : xs[i].2 ≤ 1073741824 := h.2.1; omega)]
    · rw [if_neg h2]
      by_cases h3 : xs[i].1 < 0
      · rw [decide_eq_true h3, hj2, if_neg (fun h => by omega)]
      · rw [decide_eq_false h3]
        rw [show k + 2 = (k + 1) + 1 from rfl]
        simp only [mooringsref10_May.j2, ofT_len]
        rw [if_neg (by decide)]
        have hm : xs[i].2 ≤ W10.maxTick := by have : W10.maxTick = 1073741824 := rfl; omega
        by_cases h4 : i = 0
        · rw [if_pos (by omega), hj3]
          by_cases h5 : xs[i].1 ∈ W10.ids xs i
          · rw [if_pos h5, if_neg (fun h => h.2.2.2.1 h5)]
          · rw [if_neg h5, if_pos ⟨by omega, hm, by omega, h5, .inl h4⟩]
        · obtain ⟨p, rfl⟩ : ∃ p, i = p + 1 := ⟨i - 1, by omega⟩
          have hp : p < xs.length := by omega
          have e1 : wrap64 (((p + 1 : Nat) : Int) - 1) = (p : Int) := by rw [w64 (by omega) (by omega)]; omega
          have el : W10.lastOf now xs (p + 1) = xs[p] := by
            unfold W10.lastOf
            rw [if_neg (by omega)]
            simp [List.getElem?_eq_getElem hp]
          rw [if_neg (by omega), e1, if_pos (by omega), if_pos (by omega), rd_ofT hp]
          simp only
          rw [before_f, Option.bind_some, el]
          by_cases h6 : W10.Bf xs[p] xs[p + 1]
          · rw [decide_eq_true h6, hj3]
            by_cases h5 : xs[p + 1].1 ∈ W10.ids xs (p + 1)
            · rw [if_pos h5, if_neg (fun h => h.2.2.2.1 h5)]
            · rw [if_neg h5, if_pos ⟨by omega, hm, by omega, h5, .inr h6⟩]
          · rw [decide_eq_false h6, hj3f, if_neg (fun h => h.2.2.2.2.elim (fun e => absurd e (by omega)) h6)]
theorem may_l0 (hl : xs.length ≤ 70) (d : Nat) : ∀ (k i : Nat), i + d = xs.length → 80 * d + 80 ≤ k → mooringsref10_May.l0 k (i : Int) now (ofT xs) = some ((List.range' i d).all fun q => W10.okB now xs q (xs.getD q (0, 0))) := by
  induction d with
  | zero =>
    intro k i hi hk
    obtain ⟨k, rfl⟩ : ∃ q, k = q + 1 := ⟨k - 1, by omega⟩
    simp only [mooringsref10_May.l0, ofT_len]
    rw [if_neg (by omega)]
    rfl
  | succ d ih =>
    intro k i hi hk
    have hx : i < xs.length := by omega
    have e : xs.getD i (0, 0) = xs[i] := by simp [List.getElem?_eq_getElem hx]
    rw [may_round hl hx (by omega), ih (k - i - 4) (i + 1) (by omega) (by omega), List.range'_succ, List.all_cons, e]
    cases W10.okB now xs i xs[i] <;> simp
theorem refMay_f {k : Nat} (hl : xs.length ≤ 70) (hk : 6000 ≤ k) : mooringsref10_May.f k now (ofT xs) = some (W10.mayB now xs) := by
  obtain ⟨k, rfl⟩ : ∃ q, k = q + 1 := ⟨k - 1, by omega⟩
  unfold mooringsref10_May.f W10.mayB
  have hf : mooringsref10_May.j0 (k + 1) true now (ofT xs) = some false := by simp only [mooringsref10_May.j0]; rw [if_pos trivial]
  rw [List.range_eq_range']
  by_cases h0 : now < 0
  · rw [if_pos h0, hf, decide_eq_false (show ¬ 0 ≤ now by omega)]; simp
  · rw [if_neg h0]
    by_cases h1 : now > 1073741824
    · rw [if_pos h1, hf, decide_eq_false (show ¬ now ≤ W10.maxTick from fun h => by have : now ≤ 1073741824 := h; omega)]; simp
    · rw [if_neg h1, ofT_len]
      by_cases h2 : (xs.length : Int) > 64
      · rw [decide_eq_true h2, hf, decide_eq_false (show ¬ xs.length ≤ 64 by omega)]; simp
      · rw [decide_eq_false h2]
        simp only [mooringsref10_May.j0]
        rw [if_neg (by decide)]
        have := may_l0 (now := now) hl xs.length k 0 (Nat.zero_add _) (by omega)
        refine this.trans ?_
        rw [decide_eq_true (show 0 ≤ now by omega), decide_eq_true (show now ≤ W10.maxTick from by show now ≤ 1073741824; omega), decide_eq_true (show xs.length ≤ 64 by omega)]
        simp
/-! ### Add -/
def insG (x : W10.T) : List W10.T → List W10.T
  | [] => [x]
  | y :: r => if W10.Bf x y then x :: y :: r else y :: insG x r
theorem insG_perm (x : W10.T) : ∀ l, (insG x l).Perm (x :: l)
  | [] => List.Perm.refl _
  | y :: r => by
    unfold insG
    split
    · exact List.Perm.refl _
    · exact ((insG_perm x r).cons y).trans (List.Perm.swap _ _ _)
theorem insG_sorted (x : W10.T) : ∀ l : List W10.T, l.Pairwise W10.Bf → (insG x l).Pairwise fun a b => ¬ W10.Bf b a
  | [], _ => by unfold insG; exact List.pairwise_singleton _ _
  | y :: r, h => by
    obtain ⟨h1, h2⟩ := List.pairwise_cons.1 h
    unfold insG
    split
    · rename_i hb
      refine List.pairwise_cons.2 ⟨fun z hz hc => ?_, W10.srt_weak h⟩
      rcases List.mem_cons.1 hz with rfl | hz
      · exact hb.asym hc
      · exact (hb.trans (h1 z hz)).asym hc
    · rename_i hb
      refine List.pairwise_cons.2 ⟨fun z hz hc => ?_, insG_sorted x r h2⟩
      rcases List.mem_cons.1 ((insG_perm x r).mem_iff.1 hz) with rfl | hz
      · exact hb hc
      · exact (h1 z hz).asym hc
theorem insG_eq {x : W10.T} (h : W10.MayP now xs) (hx : now < x.2 ∧ x.2 ≤ W10.maxTick) : insG x xs = W10.ins xs x := by
  refine W10.sorted_eq ?_ (insG_sorted x xs h.srt) (W10.pick_sorted _ _)
  refine (insG_perm x xs).trans (List.Perm.trans ?_ (W10.ins_perm h hx).symm)
  exact (List.perm_append_singleton x xs).symm
theorem app_ofT (acc : List W10.T) (x : W10.T) : ofT acc ++ [(⟨x.1, x.2⟩ : S33)] = ofT (acc ++ [x]) := by simp [ofT]
theorem add_l1 {m : Int} {x : W10.T} (hl : xs.length ≤ 70) : ∀ (d k i : Nat) (dn : Bool) (acc : List W10.T), i + d = xs.length → d < k → acc.length ≤ 2 * i →
    mooringsref10_Add.l1 k dn (i : Int) m (ofT xs) x.1 x.2 now (ofT acc) = some (now, ofT (acc ++ if dn = true then xs.drop i else insG x (xs.drop i)), 0)
  | 0, 0, _, _, _, _, hk, _ => absurd hk (by omega)
  | d + 1, 0, _, _, _, _, hk, _ => absurd hk (by omega)
  | 0, k + 1, i, dn, acc, hi, _, ha => by
    simp only [mooringsref10_Add.l1, ofT_len]
    rw [if_neg (by omega), List.drop_eq_nil_of_le (by omega)]
    cases dn with
    | true => rw [if_pos rfl, if_pos rfl, List.append_nil]
    | false => rw [if_neg (show ¬ (false = true) by decide), if_pos (show acc.length < 8796093022208 by omega), if_neg (show ¬ (false = true) by decide), app_ofT]; rfl
  | d + 1, k + 1, i, dn, acc, hi, hk, ha => by
    have hx : i < xs.length := by omega
    have ih := fun dn acc => add_l1 (m := m) (x := x) hl d k (i + 1) dn acc (by omega) (by omega)
    simp only [mooringsref10_Add.l1, ofT_len]
    rw [if_pos (by omega), if_pos (by omega), rd_ofT hx]
    simp only
    rw [before_f, Option.bind_some, next (by omega), List.drop_eq_getElem_cons hx]
    have a1 : acc.length < 8796093022208 := by omega
    have a2 : (acc ++ [x]).length < 8796093022208 := by simp; omega
    have l1 : (acc ++ [xs[i]]).length ≤ 2 * (i + 1) := by simp; omega
    have l2 : ((acc ++ [x]) ++ [xs[i]]).length ≤ 2 * (i + 1) := by simp; omega
    cases dn with
    | true =>
      by_cases hb : W10.Bf x xs[i]
      · rw [decide_eq_true hb, if_pos rfl, if_pos rfl, if_pos a1, app_ofT, ih true _ l1, if_pos rfl, if_pos rfl, List.append_assoc]; rfl
      · rw [decide_eq_false hb, if_neg (by decide), if_pos a1, app_ofT, ih true _ l1, if_pos rfl, if_pos rfl, List.append_assoc]; rfl
    | false =>
      by_cases hb : W10.Bf x xs[i]
      · rw [decide_eq_true hb, if_pos rfl, if_neg (by decide), if_pos a1, Option.bind_some, app_ofT, ofT_len, if_pos a2, app_ofT, ih true _ l2, if_pos rfl, if_neg (by decide)]
        unfold insG
        rw [if_pos hb, List.append_assoc, List.append_assoc]
        rfl
      · rw [decide_eq_false hb, if_neg (by decide), if_pos a1, app_ofT, ih false _ l1, if_neg (by decide), if_neg (by decide)]
        rw [insG, if_neg hb, List.append_assoc]
        rfl
theorem add_l0 {m : Int} (hl : xs.length ≤ 70) : ∀ (d k i : Nat), i + d = xs.length → d < k →
    mooringsref10_Add.l0 k id at_ (i : Int) m (ofT xs) = if ((xs.drop i).any fun x => x.1 == id) = true then some (m, ofT xs, 11) else if xs.length = 64 then some (m, ofT xs, 9) else mooringsref10_Add.l1 (k - d - 1) false 0 m (ofT xs) id at_ m (ofT [])
  | 0, 0, _, _, hk => absurd hk (by omega)
  | d + 1, 0, _, _, hk => absurd hk (by omega)
  | 0, k + 1, i, hi, _ => by
    simp only [mooringsref10_Add.l0, ofT_len]
    rw [if_neg (by omega), List.drop_eq_nil_of_le (by omega), if_neg (show ¬ (([] : List W10.T).any fun x => x.1 == id) = true by simp)]
    by_cases h : xs.length = 64
    · rw [if_pos (by omega), if_pos h]
    · rw [if_neg (by omega), if_neg h]; rfl
  | d + 1, k + 1, i, hi, hk => by
    have hx : i < xs.length := by omega
    have ih := add_l0 (m := m) hl d k (i + 1) (by omega) (by omega)
    simp only [mooringsref10_Add.l0, ofT_len]
    rw [if_pos (by omega), if_pos (by omega), rd_ofT hx, next (by omega), ih, List.drop_eq_getElem_cons hx, List.any_cons]
    simp only
    by_cases he : xs[i].1 = id
    · rw [if_pos he, if_pos (by simp [he])]
    · rw [if_neg he, show k + 1 - (d + 1) - 1 = k - d - 1 from by omega, beq_eq_false_iff_ne.2 he, Bool.false_or]
theorem refAdd_f {k : Nat} (hl : xs.length ≤ 70) (hk : 6000 ≤ k) : mooringsref10_Add.f k now (ofT xs) id at_ = some (now, ofT (W10.addR now xs id at_).1, (W10.addR now xs id at_).2) := by
  obtain ⟨k, rfl⟩ : ∃ q, k = q + 2 := ⟨k - 2, by omega⟩
  unfold mooringsref10_Add.f
  rw [refMay_f hl hk, Option.bind_some, W10.addR_eq]
  have hf : mooringsref10_Add.j0 (k + 2) id at_ true now (ofT xs) = some (now, ofT xs, 1) := by
    rw [show k + 2 = (k + 1) + 1 from rfl]; simp only [mooringsref10_Add.j0]; rw [if_pos trivial]
  by_cases hM : W10.mayB now xs = true
  · rw [if_pos hM]
    by_cases h0 : id < 0
    · rw [decide_eq_true h0, hf, if_pos (.inr h0)]
    · rw [decide_eq_false h0, if_neg (fun h => h.elim (fun e => by rw [hM] at e; cases e) h0)]
      rw [show k + 2 = (k + 1) + 1 from rfl]
      simp only [mooringsref10_Add.j0]
      rw [if_neg (by decide)]
      have hj : mooringsref10_Add.j1 (k + 1) id at_ true now (ofT xs) = some (now, ofT xs, 10) := by simp only [mooringsref10_Add.j1]; rw [if_pos trivial]
      by_cases h1 : at_ ≤ now
      · rw [if_pos h1, hj, if_pos (.inl h1)]
      · rw [if_neg h1]
        by_cases h2 : at_ > 1073741824
        · rw [decide_eq_true h2, hj, if_pos (.inr h2)]
        · rw [decide_eq_false h2, if_neg (fun h => h.elim h1 h2)]
          simp only [mooringsref10_Add.j1]
          rw [if_neg (by decide)]
          refine (add_l0 (m := now) hl xs.length k 0 (Nat.zero_add _) (by omega)).trans ?_
          rw [List.drop_zero]
          by_cases h3 : (xs.any fun x => x.1 == id) = true
          · rw [if_pos h3, if_pos h3]
          · rw [if_neg h3, if_neg h3]
            by_cases h4 : xs.length = 64
            · rw [if_pos h4, if_pos h4]
            · rw [if_neg h4, if_neg h4]
              refine (add_l1 (m := now) (x := (id, at_)) hl xs.length _ 0 false [] (Nat.zero_add _) (by omega) (Nat.zero_le _)).trans ?_
              rw [if_neg (by decide), List.drop_zero, List.nil_append, insG_eq (W10.mayB_iff.1 hM) ⟨by show now < at_; omega, by show at_ ≤ 1073741824; omega⟩]
  · rw [if_neg hM, hf, if_pos (.inl (Bool.eq_false_iff.2 hM))]
/-! ### Drop -/
theorem drop_l0 {m : Int} (hl : xs.length ≤ 70) : ∀ (d k i : Nat) (acc : List W10.T), i + d = xs.length → 2 * d + 1 < k → acc.length ≤ i →
    mooringsref10_Drop.l0 k id true (i : Int) m (ofT xs) now (ofT acc) = if (acc ++ (xs.drop i).filter fun x => !(x.1 == id)).length = xs.length then some (m, ofT xs, false) else some (now, ofT (acc ++ (xs.drop i).filter fun x => !(x.1 == id)), true)
  | 0, 0, _, _, _, hk, _ => absurd hk (by omega)
  | 0, 1, _, _, _, hk, _ => absurd hk (by omega)
  | d + 1, 0, _, _, _, hk, _ => absurd hk (by omega)
  | d + 1, 1, _, _, _, hk, _ => absurd hk (by omega)
  | 0, k + 2, i, acc, hi, _, _ => by
    rw [show k + 2 = (k + 1) + 1 from rfl]
    simp only [mooringsref10_Drop.l0, mooringsref10_Drop.j1, ofT_len]
    rw [if_neg (by omega), if_neg (by decide), if_pos trivial, List.drop_eq_nil_of_le (by omega), List.filter_nil, List.append_nil]
    by_cases h : acc.length = xs.length
    · rw [if_pos (by omega), if_pos h]
    · rw [if_neg (by omega), if_neg h]
  | d + 1, k + 2, i, acc, hi, hk, ha => by
    have hx : i < xs.length := by omega
    have ih := fun acc => drop_l0 (m := m) hl d k (i + 1) acc (by omega) (by omega)
    rw [show k + 2 = (k + 1) + 1 from rfl]
    simp only [mooringsref10_Drop.l0, mooringsref10_Drop.j1, ofT_len]
    rw [if_pos (by omega), if_pos trivial, if_pos (by omega), if_pos (by omega), rd_ofT hx, next (by omega), List.drop_eq_getElem_cons hx, List.filter_cons]
    simp only
    by_cases he : xs[i].1 = id
    · rw [if_pos he, ih acc (by omega), if_neg (show ¬ (!(xs[i].1 == id)) = true by simp [he])]
    · rw [if_neg he, if_pos (by omega), app_ofT, ih (acc ++ [xs[i]]) (by simp; omega), if_pos (show (!(xs[i].1 == id)) = true by simp [he]), List.append_assoc]
      rfl
theorem refDrop_f {k : Nat} (hl : xs.length ≤ 70) (hk : 6000 ≤ k) : mooringsref10_Drop.f k now (ofT xs) id = some (now, ofT (W10.dropR now xs id).1, (W10.dropR now xs id).2) := by
  unfold mooringsref10_Drop.f
  rw [refMay_f hl hk, Option.bind_some, W10.dropR_eq]
  by_cases hM : W10.mayB now xs = true
  · rw [if_pos hM, hM]
    refine (drop_l0 (m := now) (now := now) hl xs.length k 0 [] (Nat.zero_add _) (by omega) (Nat.zero_le _)).trans ?_
    rw [List.nil_append, List.drop_zero]
    have hlen : (xs.filter fun x => x.1 == id).length + (xs.filter fun x => !(x.1 == id)).length = xs.length := by
      have := (List.filter_append_perm (fun x : W10.T => x.1 == id) xs).length_eq
      rwa [List.length_append] at this
    by_cases h : (xs.filter fun x => !(x.1 == id)).length = xs.length
    · rw [if_pos h, decide_eq_false (by omega)]
      have : xs.filter (fun x => !(x.1 == id)) = xs := List.filter_eq_self.2 fun y hy => by
        have h0 : (xs.filter fun x => x.1 == id).length = 0 := by omega
        have := List.filter_eq_nil_iff.1 (List.length_eq_zero_iff.1 h0) y hy
        simpa using this
      rw [this]
    · rw [if_neg h, decide_eq_true (by omega)]
  · rw [if_neg hM, Bool.eq_false_iff.2 hM]
    obtain ⟨k, rfl⟩ : ∃ q, k = (q + 1) + 1 := ⟨k - 2, by omega⟩
    have hj : mooringsref10_Drop.j1 (k + 1) id false 0 false now (ofT xs) now [] = some (now, ofT xs, false) := by
      simp only [mooringsref10_Drop.j1]
      rw [if_neg (by decide), if_neg (by decide)]
    simp only [mooringsref10_Drop.l0]
    rw [hj, ite_self]
/-! ### Step -/
theorem step_l0 {m n : Int} (hl : xs.length ≤ 70) : ∀ (d k i : Nat) (a b : List W10.T), i + d = xs.length → d < k → a.length ≤ i → b.length ≤ i →
    mooringsref10_Step.l0 k tt (ofT a) (i : Int) m (ofT xs) n (ofT b) = some (n, ofT (b ++ (xs.drop i).filter fun x => !decide (x.2 ≤ tt)), ofT (a ++ (xs.drop i).filter fun x => decide (x.2 ≤ tt)), 0)
  | 0, 0, _, _, _, _, hk, _, _ => absurd hk (by omega)
  | d + 1, 0, _, _, _, _, hk, _, _ => absurd hk (by omega)
  | 0, k + 1, i, a, b, hi, _, _, _ => by
    simp only [mooringsref10_Step.l0, ofT_len]
    rw [if_neg (by omega), List.drop_eq_nil_of_le (by omega), List.filter_nil, List.filter_nil, List.append_nil, List.append_nil]
  | d + 1, k + 1, i, a, b, hi, hk, ha, hb => by
    have hx : i < xs.length := by omega
    have ih := fun a b => step_l0 (m := m) (n := n) hl d k (i + 1) a b (by omega) (by omega)
    simp only [mooringsref10_Step.l0, ofT_len]
    rw [if_pos (by omega), if_pos (by omega), rd_ofT hx, next (by omega), List.drop_eq_getElem_cons hx, List.filter_cons, List.filter_cons]
    simp only
    by_cases he : xs[i].2 ≤ tt
    · rw [if_pos he, if_pos (show a.length < 8796093022208 by omega), app_ofT, ih (a ++ [xs[i]]) b (by simp; omega) (by omega), if_neg (show ¬ (!decide (xs[i].2 ≤ tt)) = true by simp [he]), if_pos (decide_eq_true he), List.append_assoc]
      rfl
    · rw [if_neg he, if_pos (show b.length < 8796093022208 by omega), app_ofT, ih a (b ++ [xs[i]]) (by omega) (by simp; omega), if_pos (show (!decide (xs[i].2 ≤ tt)) = true by simp [he]), if_neg (show ¬ decide (xs[i].2 ≤ tt) = true by simp [he]), List.append_assoc]
      rfl
theorem refStep_f {k : Nat} (hl : xs.length ≤ 70) (hk : 6000 ≤ k) : mooringsref10_Step.f k now (ofT xs) tt = some ((W10.stepR now xs tt).1, ofT (W10.stepR now xs tt).2.1, ofT (W10.stepR now xs tt).2.2.1, (W10.stepR now xs tt).2.2.2) := by
  obtain ⟨k, rfl⟩ : ∃ q, k = q + 1 := ⟨k - 1, by omega⟩
  unfold mooringsref10_Step.f
  rw [refMay_f hl hk, Option.bind_some, W10.stepR_eq]
  by_cases hM : W10.mayB now xs = true
  · rw [if_pos hM, if_pos hM]
    have hf : mooringsref10_Step.j0 (k + 1) tt true now (ofT xs) = some (now, ofT xs, ([] : List S33), 10) := by simp only [mooringsref10_Step.j0]; rw [if_pos trivial]
    by_cases h1 : tt < now
    · rw [if_pos h1, hf, if_pos (.inl h1)]; rfl
    · rw [if_neg h1]
      by_cases h2 : tt > 1073741824
      · rw [decide_eq_true h2, hf, if_pos (.inr h2)]; rfl
      · rw [decide_eq_false h2, if_neg (fun h => h.elim h1 h2)]
        simp only [mooringsref10_Step.j0]
        rw [if_neg (by decide)]
        refine (step_l0 (m := now) (n := tt) (tt := tt) hl xs.length k 0 [] [] (Nat.zero_add _) (by omega) (Nat.zero_le _) (Nat.zero_le _)).trans ?_
        rw [List.drop_zero, List.nil_append, List.nil_append]
  · rw [if_neg hM, if_neg hM]
    rfl
theorem refNew_f {k : Nat} (hk : 6000 ≤ k) : ∃ r : Int × Bool, mooringsref10_New.f k now = some (r.1, ofT [], r.2) ∧ wheel_New.f now = some (r.1, ofT [], r.2) := by
  have h1 := refMay_f (now := now) (xs := []) (k := k) (by decide) hk
  have h2 := May_f (now := now) (n := 1) (xs := []) Fine.nil (by decide)
  have e : ([] : List S33) = ofT [] := rfl
  unfold mooringsref10_New.f wheel_New.f
  rw [e, h1, h2, Option.bind_some]
  cases W10.mayB now [] with
  | true => exact ⟨(now, true), rfl, rfl⟩
  | false => exact ⟨(0, false), rfl, rfl⟩
theorem refSame_f {k : Nat} {a b : Int} (hx : xs.length < 1000) (hk : 1000 ≤ k) : mooringsref10_Same.f k a (ofT xs) b (ofT ys) = some (decide (a = b ∧ xs = ys)) := by
  unfold mooringsref10_Same.f
  rw [Timers_f hx hk, Option.bind_some]
  by_cases h : xs = ys
  · rw [decide_eq_true h, if_pos rfl]
    by_cases h2 : a = b
    · simp [h, h2]
    · simp [h2]
  · rw [decide_eq_false h, if_neg (by decide)]
    simp [h]
end Dev
end Go.Proofs.Ytggkealdbebbkaa.P
