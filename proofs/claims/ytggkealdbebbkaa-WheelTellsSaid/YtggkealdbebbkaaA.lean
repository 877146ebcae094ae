/- Chapter 10's plain laws' words over the printed functions: what each answers, over rows of pairs (Id, At). -/
import Derived.Test.YtggkealdbebbkaaMath
import Derived.Test.YtggkealdbebbkaaP4
namespace Go.Proofs.Ytggkealdbebbkaa.P
open Go.RowKit Go.Proofs.YtggkealdbebbkaaW.PrintWords Go.Proofs.YtggkealdbebbkaaW.PrintLast Go.Proofs.YtggkealdbebbkaaW.PrintMore
open Go.Proofs.Ytggkealdbebbkaa
set_option linter.unusedVariables false
namespace Dev
theorem w64 {x : Int} (h0 : -9223372036854775808 ≤ x) (h1 : x ≤ 9223372036854775807) : wrap64 x = x := by unfold wrap64; omega
theorem toT_ofT (xs : List W10.T) : toT (ofT xs) = xs := by
  unfold toT ofT
  rw [List.map_map]
  exact (List.map_congr_left fun x _ => rfl).trans (List.map_id xs)
theorem ofT_toT (l : List S33) : ofT (toT l) = l := by
  unfold toT ofT
  rw [List.map_map]
  exact (List.map_congr_left fun x _ => rfl).trans (List.map_id l)
theorem ofT_len (xs : List W10.T) : (ofT xs).length = xs.length := by simp [ofT]
/-- A row of short length, its Ids whole. -/
structure Fine (n : Nat) (xs : List W10.T) : Prop where
  len : xs.length ≤ n
  wf : ∀ x ∈ xs, (Lit.int .i64 x.1).wf = true
variable {n m : Nat} {now tt id at_ : Int} {xs ys : List W10.T}
theorem Fine.ok (h : Fine n xs) (hn : n < 1000) : okL (ofT xs) = true := by
  unfold okL
  rw [Bool.and_eq_true, decide_eq_true_eq, ofT_len, List.all_eq_true]
  refine ⟨by have := h.len; omega, fun s hs => ?_⟩
  unfold ofT at hs
  obtain ⟨x, hx, rfl⟩ := List.mem_map.1 hs
  exact h.wf x hx
theorem Fine.mono (h : Fine n xs) (hn : n ≤ m) : Fine m xs := ⟨Nat.le_trans h.len hn, h.wf⟩
theorem Fine.filter (h : Fine n xs) (p : W10.T → Bool) : Fine n (xs.filter p) := ⟨Nat.le_trans (List.length_filter_le _ _) h.len, fun x hx => h.wf x (List.mem_filter.1 hx).1⟩
theorem Fine.nil : Fine n [] := ⟨Nat.zero_le _, fun x hx => by cases hx⟩
theorem Fine.ins (h : Fine n xs) {x : W10.T} (hw : (Lit.int .i64 x.1).wf = true) (hM : W10.MayP now xs) (hx : now < x.2 ∧ x.2 ≤ W10.maxTick) : Fine (n + 1) (W10.ins xs x) := by
  have hp := W10.ins_perm hM hx
  refine ⟨by rw [hp.length_eq, List.length_append]; have := h.len; simp; omega, fun y hy => ?_⟩
  rcases List.mem_append.1 (hp.mem_iff.1 hy) with hy | hy
  · exact h.wf y hy
  · rw [List.mem_singleton.1 hy]; exact hw
theorem Fine.add (h : Fine n xs) (hw : (Lit.int .i64 id).wf = true) : Fine (n + 1) (W10.addR now xs id at_).1 := by
  by_cases he : (W10.addR now xs id at_).2 = 0
  · obtain ⟨hM, h0, h1, h2, h3, h4, e⟩ := W10.addR_ok he
    rw [e]
    exact h.ins (x := (id, at_)) hw hM ⟨h1, h2⟩
  · rw [W10.addR_err he]
    exact h.mono (Nat.le_succ _)
theorem Fine.step (h : Fine n xs) : Fine n (W10.stepR now xs tt).2.1 := by
  by_cases he : (W10.stepR now xs tt).2.2.2 = 0
  · rw [(W10.stepR_ok he).2.2.2]
    exact h.filter _
  · rw [(W10.stepR_err he).2.1]
    exact h
theorem Fine.due (h : Fine n xs) : Fine n (W10.stepR now xs tt).2.2.1 := by
  by_cases he : (W10.stepR now xs tt).2.2.2 = 0
  · rw [(W10.stepR_ok he).2.2.2]
    exact h.filter _
  · rw [(W10.stepR_err he).2.2]
    exact Fine.nil
theorem Fine.drop (h : Fine n xs) : Fine n (W10.dropR now xs id).1 := by
  rw [W10.dropR_eq]
  split
  · exact h.filter _
  · exact h
theorem May_f (h : Fine n xs) (hn : n < 1000) : wheel_May.f now (ofT xs) = some (W10.mayB now xs) := by
  rw [wheel_May.f_eq, if_pos (h.ok hn), toT_ofT]
theorem Step_f (h : Fine n xs) (hn : n < 1000) : wheel_Step.f now (ofT xs) tt = some ((W10.stepR now xs tt).1, ofT (W10.stepR now xs tt).2.1, ofT (W10.stepR now xs tt).2.2.1, (W10.stepR now xs tt).2.2.2) := by
  rw [wheel_Step.f_eq, if_pos (h.ok hn), toT_ofT]
theorem Add_f (h : Fine n xs) (hn : n < 1000) : wheel_Add.f now (ofT xs) id at_ = some (now, ofT (W10.addR now xs id at_).1, (W10.addR now xs id at_).2) := by
  rw [wheel_Add.f_eq, if_pos (h.ok hn), toT_ofT]
theorem rd_ofT {i : Nat} (hi : i < xs.length) : rd_T33 (ofT xs) (i : Int) = ⟨(xs[i]).1, (xs[i]).2⟩ := by
  unfold rd_T33 ofT
  rw [Int.toNat_natCast, List.getD_eq_getElem?_getD, List.getElem?_map, List.getElem?_eq_getElem hi]
  rfl
theorem drop_eq {i : Nat} (hx : i < xs.length) (hy : i < ys.length) : xs.drop i = ys.drop i ↔ (xs[i].1 = ys[i].1 ∧ xs[i].2 = ys[i].2) ∧ xs.drop (i + 1) = ys.drop (i + 1) := by
  rw [List.drop_eq_getElem_cons hx, List.drop_eq_getElem_cons hy, List.cons.injEq, Prod.ext_iff]
theorem ne_bool (a b c d : Int) : (!(a == b) || !(c == d)) = true ↔ ¬ (a = b ∧ c = d) := by
  by_cases h : a = b <;> by_cases h2 : c = d <;> simp [h, h2]
theorem timers_l0 (hl : xs.length = ys.length) (hs : xs.length < 1000) : ∀ (d k i : Nat), i + d = xs.length → d < k → mooringsref10_Timers.l0 k (ofT xs) (ofT ys) (i : Int) = some (decide (xs.drop i = ys.drop i))
  | 0, 0, _, _, hk => absurd hk (by omega)
  | d + 1, 0, _, _, hk => absurd hk (by omega)
  | 0, k + 1, i, hi, _ => by
    have e : i = xs.length := by omega
    simp only [mooringsref10_Timers.l0, ofT_len]
    rw [if_neg (by omega)]
    rw [List.drop_eq_nil_of_le (by omega), List.drop_eq_nil_of_le (by omega)]
    simp
  | d + 1, k + 1, i, hi, hk => by
    have ih := timers_l0 hl hs d k (i + 1) (by omega) (by omega)
    have hx : i < xs.length := by omega
    have hy : i < ys.length := by omega
    have e : wrap64 ((i : Int) + 1) = ((i + 1 : Nat) : Int) := by rw [w64 (by omega) (by omega)]; omega
    simp only [mooringsref10_Timers.l0, ofT_len]
    rw [if_pos (by omega), if_pos (by omega), if_pos (by omega), rd_ofT hx, rd_ofT hy, e, ih]
    by_cases hd : xs[i].1 = ys[i].1 ∧ xs[i].2 = ys[i].2
    · rw [if_neg (by rw [ne_bool]; exact fun h => h hd)]
      congr 1
      rw [decide_eq_decide, drop_eq hx hy]
      exact ⟨fun h => ⟨hd, h⟩, fun h => h.2⟩
    · rw [if_pos ((ne_bool _ _ _ _).2 hd)]
      congr 1
      symm
      rw [decide_eq_false_iff_not, drop_eq hx hy]
      exact fun h => hd h.1
theorem timers29_l0 (hl : xs.length = ys.length) (hs : xs.length < 1000) : ∀ (d k i : Nat), i + d = xs.length → d < k → api_Timer_29.l0 k (ofT xs) (ofT ys) (xs.length : Int) (i : Int) = some (decide (xs.drop i = ys.drop i))
  | 0, 0, _, _, hk => absurd hk (by omega)
  | d + 1, 0, _, _, hk => absurd hk (by omega)
  | 0, k + 1, i, hi, _ => by
    have e : i = xs.length := by omega
    simp only [api_Timer_29.l0, ofT_len]
    rw [if_neg (by omega)]
    rw [List.drop_eq_nil_of_le (by omega), List.drop_eq_nil_of_le (by omega)]
    simp
  | d + 1, k + 1, i, hi, hk => by
    have ih := timers29_l0 hl hs d k (i + 1) (by omega) (by omega)
    have hx : i < xs.length := by omega
    have hy : i < ys.length := by omega
    have e : wrap64 ((i : Int) + 1) = ((i + 1 : Nat) : Int) := by rw [w64 (by omega) (by omega)]; omega
    simp only [api_Timer_29.l0, ofT_len]
    rw [if_pos (by omega), if_pos (by omega), if_pos (by omega), if_pos (by omega), rd_ofT hx, rd_ofT hy, e, ih]
    by_cases hd : xs[i].1 = ys[i].1 ∧ xs[i].2 = ys[i].2
    · rw [if_neg (by rw [ne_bool]; exact fun h => h hd)]
      congr 1
      rw [decide_eq_decide, drop_eq hx hy]
      exact ⟨fun h => ⟨hd, h⟩, fun h => h.2⟩
    · rw [if_pos ((ne_bool _ _ _ _).2 hd)]
      congr 1
      symm
      rw [decide_eq_false_iff_not, drop_eq hx hy]
      exact fun h => hd h.1
theorem Timers_f {k : Nat} (hx : xs.length < 1000) (hk : 1000 ≤ k) : mooringsref10_Timers.f k (ofT xs) (ofT ys) = some (decide (xs = ys)) := by
  unfold mooringsref10_Timers.f
  rw [ofT_len, ofT_len]
  by_cases hl : xs.length = ys.length
  · rw [if_pos (by omega), show (0 : Int) = ((0 : Nat) : Int) from rfl, timers_l0 hl hx xs.length k 0 (by omega) (by omega)]
    simp
  · rw [if_neg (by omega)]
    congr 1
    symm
    rw [decide_eq_false_iff_not]
    intro e
    exact hl (by rw [e])
theorem Same_f {k : Nat} {a b : Int} (hx : xs.length < 1000) (hk : 1000 ≤ k) : wheel_Same.f k a (ofT xs) b (ofT ys) = some (decide (a = b ∧ xs = ys)) := by
  unfold wheel_Same.f api_Timer_29.f
  rw [ofT_len, ofT_len]
  by_cases ha : a = b
  · rw [if_pos ha]
    by_cases hl : xs.length = ys.length
    · rw [if_pos (by omega), show (0 : Int) = ((0 : Nat) : Int) from rfl, timers29_l0 hl hx xs.length k 0 (by omega) (by omega)]
      simp [ha]
    · rw [if_neg (by omega)]
      have : ¬ xs = ys := fun e => hl (by rw [e])
      simp [this]
  · rw [if_neg ha]
    simp [ha]
theorem m0 : W10.MayP 0 [] := ⟨by decide, by decide, by decide, .nil, .nil, fun x hx => by cases hx⟩
theorem i1 : W10.ins [] (1, 5) = [(1, 5)] := List.perm_singleton.1 (W10.ins_perm m0 (by decide))
theorem m1 : W10.MayP 0 [(1, 5)] := by rw [← i1]; exact m0.ins (by decide) (by decide) (fun y hy => by cases hy) (by decide)
theorem i2 : W10.ins [(1, 5)] (2, 3) = [(2, 3), (1, 5)] := by
  refine W10.sorted_eq ((W10.ins_perm m1 (by decide)).trans (List.Perm.swap _ _ _)) (W10.pick_sorted _ _) ?_
  simp [W10.Bf]
theorem m2 : W10.MayP 0 [(2, 3), (1, 5)] := by rw [← i2]; exact m1.ins (by decide) (by decide) (fun y hy => by simp at hy; rw [hy]; decide) (by decide)
theorem a1 : W10.addR 0 [] 1 5 = ([(1, 5)], 0) := by
  rw [W10.addR_eq, W10.mayB_iff.2 m0, i1]; rfl
theorem a2 : W10.addR 0 [(1, 5)] 2 3 = ([(2, 3), (1, 5)], 0) := by
  rw [W10.addR_eq, W10.mayB_iff.2 m1, i2]; rfl
theorem s3 : W10.stepR 0 [(2, 3), (1, 5)] 4 = (4, [(1, 5)], [(2, 3)], 0) := by
  rw [W10.stepR_eq, W10.mayB_iff.2 m2]; rfl
theorem m4 : W10.mayB 4 [(1, 5)] = true := by
  refine W10.mayB_iff.2 ?_
  have := m2.step (tt := 4) (by decide) (by decide)
  exact this
theorem awake_f {k : Nat} (hk : 1000 ≤ k) : mooringslaw10_awake.f k = some true := by
  have fn : Fine 2 [] := Fine.nil
  have f1 : Fine 2 [((1 : Int), (5 : Int))] := ⟨by decide, fun x hx => by rw [List.mem_singleton.1 hx]; decide⟩
  have f2 : Fine 2 [((2 : Int), (3 : Int)), (1, 5)] := ⟨by decide, fun x hx => by simp at hx; rcases hx with rfl | rfl <;> decide⟩
  have e0 : wheel_New.f 0 = some (0, ofT [], true) := by
    unfold wheel_New.f
    have := May_f (now := 0) fn (by decide)
    rw [W10.mayB_iff.2 m0] at this
    rw [show ([] : List S33) = ofT [] from rfl, this]
    rfl
  have e1 := Add_f (now := 0) (id := 1) (at_ := 5) fn (by decide)
  have e2 := Add_f (now := 0) (id := 2) (at_ := 3) f1 (by decide)
  have e3 := Step_f (now := 0) (tt := 4) f2 (by decide)
  have e4 := May_f (now := 4) f1 (by decide)
  have e5 := Same_f (xs := [((1 : Int), (5 : Int))]) (ys := [((1 : Int), (5 : Int))]) (a := 4) (b := 4) (by decide) hk
  rw [a1] at e1
  rw [a2] at e2
  rw [s3] at e3
  rw [m4] at e4
  unfold mooringslaw10_awake.f
  rw [e0]
  simp only [Option.bind_some, e1, e2, e3, e4, e5, ofT_len, List.length_cons, List.length_nil, if_true]
  rfl
end Dev
end Go.Proofs.Ytggkealdbebbkaa.P
