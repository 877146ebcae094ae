/- Chapter 10's plain words: what May says of a wheel; what is picked of a sorted row is what is so of it; what is added stands in its place. -/
import Derived.Test.YtggkealdbebbkaaMB
namespace Go.Proofs.Ytggkealdbebbkaa.W10
open Go.RowKit
set_option linter.unusedVariables false
/-- x stands ahead of y. -/
def Bf (x y : T) : Prop := x.2 < y.2 ∨ x.2 = y.2 ∧ x.1 < y.1
theorem cf_lt (x y : T) : cf x y < 0 ↔ Bf x y := by
  unfold cf cmpI Bf
  repeat' split
  all_goals omega
theorem Bf.trans {x y z : T} (h : Bf x y) (k : Bf y z) : Bf x z := by unfold Bf at *; omega
theorem Bf.asym {x y : T} (h : Bf x y) (k : Bf y x) : False := by unfold Bf at *; omega
structure MayP (now : Int) (xs : List T) : Prop where
  now0 : 0 ≤ now
  now1 : now ≤ maxTick
  len : xs.length ≤ 64
  srt : xs.Pairwise Bf
  ids : xs.Pairwise fun x y => x.1 ≠ y.1
  each : ∀ x ∈ xs, now < x.2 ∧ x.2 ≤ maxTick ∧ 0 ≤ x.1
theorem okB_iff {now : Int} {xs : List T} {k : Nat} {x : T} : okB now xs k x = true ↔ now < x.2 ∧ x.2 ≤ maxTick ∧ 0 ≤ x.1 ∧ x.1 ∉ ids xs k ∧ (k = 0 ∨ Bf (lastOf now xs k) x) := by
  unfold okB
  simp only [Bool.and_eq_true, decide_eq_true_eq, Bool.or_eq_true, cf_lt, and_assoc]
theorem mem_ids {xs : List T} {k : Nat} {i : Int} : i ∈ ids xs k ↔ ∃ j, ∃ h : j < xs.length, j < k ∧ xs[j].1 = i := by
  unfold ids
  rw [List.mem_map]
  constructor
  · rintro ⟨x, hx, rfl⟩
    obtain ⟨j, hj, rfl⟩ := List.mem_iff_getElem.1 hx
    rw [List.length_take] at hj
    exact ⟨j, by omega, by omega, by rw [List.getElem_take]⟩
  · rintro ⟨j, h, hk, rfl⟩
    exact ⟨xs[j], List.mem_iff_getElem.2 ⟨j, by rw [List.length_take]; omega, by rw [List.getElem_take]⟩, rfl⟩
theorem mayB_iff {now : Int} {xs : List T} : mayB now xs = true ↔ MayP now xs := by
  have hall : ((List.range xs.length).all fun k => okB now xs k (xs.getD k (0, 0))) = true ↔ ∀ k (h : k < xs.length), okB now xs k xs[k] = true := by
    rw [List.all_eq_true]
    constructor
    · intro h k hk
      have := h k (List.mem_range.2 hk)
      simpa [List.getElem?_eq_getElem hk] using this
    · intro h k hk
      have hk := List.mem_range.1 hk
      simpa [List.getElem?_eq_getElem hk] using h k hk
  unfold mayB
  rw [Bool.and_eq_true, hall]
  simp only [Bool.and_eq_true, decide_eq_true_eq, okB_iff]
  constructor
  · rintro ⟨h, h0, h1, hl⟩
    have hs : ∀ (j : Nat) (hj : j < xs.length) (i : Nat) (hij : i < j), Bf (xs[i]'(Nat.lt_trans hij hj)) xs[j] := by
      intro j
      induction j with
      | zero => intro hj i hij; omega
      | succ j ih =>
        intro hj i hij
        have hb : Bf (xs[j]'(by omega)) xs[j + 1] := by
          rcases (h (j + 1) hj).2.2.2.2 with e | e
          · omega
          · unfold lastOf at e
            rw [if_neg (by omega)] at e
            simpa [List.getElem?_eq_getElem (show j < xs.length by omega)] using e
        by_cases e : i = j
        · subst e; exact hb
        · exact (ih (by omega) i (by omega)).trans hb
    refine ⟨h0, h1, hl, List.pairwise_iff_getElem.2 fun i j _ hj hij => hs j hj i hij, List.pairwise_iff_getElem.2 fun i j hi hj hij e => ?_, fun x hx => ?_⟩
    · exact (h j hj).2.2.2.1 (mem_ids.2 ⟨i, hi, hij, e⟩)
    · obtain ⟨k, hk, rfl⟩ := List.mem_iff_getElem.1 hx
      exact ⟨(h k hk).1, (h k hk).2.1, (h k hk).2.2.1⟩
  · intro h
    refine ⟨fun k hk => ?_, h.now0, h.now1, h.len⟩
    have he := h.each _ (List.getElem_mem hk)
    refine ⟨he.1, he.2.1, he.2.2, fun hm => ?_, ?_⟩
    · obtain ⟨j, hj, hjk, e⟩ := mem_ids.1 hm
      exact List.pairwise_iff_getElem.1 h.ids j k hj hk hjk e
    · cases k with
      | zero => exact .inl rfl
      | succ k =>
        right
        have := List.pairwise_iff_getElem.1 h.srt k (k + 1) (by omega) hk (by omega)
        unfold lastOf
        rw [if_neg (by omega)]
        simpa [List.getElem?_eq_getElem (show k < xs.length by omega)] using this
theorem not_bf {x y : T} : ltOf cf x y = true ↔ Bf x y := by
  rw [lt_cf]
  unfold lt Bf
  rw [decide_eq_true_eq]
theorem sortT_pw (xs : List T) : (sortT xs).Pairwise fun x y => ¬ Bf y x := by
  have := List.pairwise_mergeSort (le := fun x y : T => !(ltOf cf) y x) (fun a b c h1 h2 => ?_) (fun a b => ?_) xs
  · refine this.imp fun {a b} h => ?_
    intro hb
    rw [not_bf.2 hb] at h
    cases h
  · rw [Bool.not_eq_true', ← Bool.not_eq_true, not_bf] at *
    unfold Bf at *; omega
  · rw [Bool.or_eq_true, Bool.not_eq_true', ← Bool.not_eq_true, not_bf, Bool.not_eq_true', ← Bool.not_eq_true, not_bf]
    unfold Bf; omega
/-- Two sorted rows of the same timers are one. -/
theorem sorted_eq {xs ys : List T} (h : xs.Perm ys) (hx : xs.Pairwise fun x y => ¬ Bf y x) (hy : ys.Pairwise fun x y => ¬ Bf y x) : xs = ys := by
  refine List.Perm.eq_of_pairwise (fun a b _ _ h1 h2 => ?_) hx hy h
  unfold Bf at h1 h2
  exact Prod.ext (by omega) (by omega)
theorem srt_weak {xs : List T} (h : xs.Pairwise Bf) : xs.Pairwise fun x y => ¬ Bf y x := h.imp fun {a b} h k => h.asym k
theorem MayP.at_ {now : Int} {xs : List T} (h : MayP now xs) : ∀ x ∈ xs, AtOk x := (mayB_at (mayB_iff.2 h)).1
theorem pick_perm {p : T → Bool} {xs : List T} (h : ∀ x ∈ xs, AtOk x) : (pick p xs).Perm (xs.filter p) := (sortT_perm _).trans (col_perm p xs fun x hx => (h x hx).lt)
theorem pick_sorted (p : T → Bool) (xs : List T) : (pick p xs).Pairwise fun x y => ¬ Bf y x := sortT_pw _
theorem pick_filter {now : Int} {xs : List T} (h : MayP now xs) (p : T → Bool) : pick p xs = xs.filter p :=
  sorted_eq (pick_perm h.at_) (pick_sorted p xs) (srt_weak (h.srt.filter p))
theorem MayP.filter {now : Int} {xs : List T} (h : MayP now xs) (p : T → Bool) : MayP now (xs.filter p) :=
  ⟨h.now0, h.now1, Nat.le_trans (List.length_filter_le _ _) h.len, h.srt.filter p, h.ids.filter p, fun x hx => h.each x (List.mem_filter.1 hx).1⟩
/-- The row with one timer more. -/
def ins (xs : List T) (x : T) : List T := pick (fun _ => true) (xs ++ [x])
theorem AtOk.of_le {now : Int} {x : T} (h0 : 0 ≤ now) (h : now < x.2 ∧ x.2 ≤ maxTick) : AtOk x := atOk_of (by omega) (by have : x.2 ≤ 1073741824 := h.2; omega)
theorem ins_perm {now : Int} {xs : List T} {x : T} (h : MayP now xs) (hx : now < x.2 ∧ x.2 ≤ maxTick) : (ins xs x).Perm (xs ++ [x]) := by
  have := pick_perm (p := fun _ => true) (xs := xs ++ [x]) (fun y hy => by
    rcases List.mem_append.1 hy with hy | hy
    · exact h.at_ y hy
    · rw [List.mem_singleton.1 hy]; exact AtOk.of_le h.now0 hx)
  rwa [List.filter_eq_self.2 (fun _ _ => rfl)] at this
theorem ne_symm {x y : T} (h : x.1 ≠ y.1) : y.1 ≠ x.1 := fun e => h e.symm
theorem MayP.ins {now : Int} {xs : List T} {x : T} (h : MayP now xs) (hx : now < x.2 ∧ x.2 ≤ maxTick) (h0 : 0 ≤ x.1) (hn : ∀ y ∈ xs, y.1 ≠ x.1) (hl : xs.length ≠ 64) : MayP now (ins xs x) := by
  have hp := ins_perm h hx
  have hid : (W10.ins xs x).Pairwise fun x y => x.1 ≠ y.1 := by
    refine hp.symm.pairwise ?_ ne_symm
    exact List.pairwise_append.2 ⟨h.ids, List.pairwise_singleton _ _, fun a ha b hb => by rw [List.mem_singleton.1 hb]; exact hn a ha⟩
  refine ⟨h.now0, h.now1, by rw [hp.length_eq, List.length_append]; have := h.len; simp; omega, ?_, hid, fun y hy => ?_⟩
  · refine ((pick_sorted _ _).and hid).imp fun {a b} hab => ?_
    obtain ⟨h1, h2⟩ := hab
    unfold Bf at *; omega
  · rcases List.mem_append.1 (hp.mem_iff.1 hy) with hy | hy
    · exact h.each y hy
    · rw [List.mem_singleton.1 hy]; exact ⟨hx.1, hx.2, h0⟩
/-- Two wheels of the same timers are one. -/
theorem MayP.eq {n m : Int} {xs ys : List T} (h : MayP n xs) (k : MayP m ys) (e : xs.Perm ys) : xs = ys := sorted_eq e (srt_weak h.srt) (srt_weak k.srt)
/-- What a step leaves. -/
theorem MayP.step {now tt : Int} {xs : List T} (h : MayP now xs) (h0 : now ≤ tt) (h1 : tt ≤ maxTick) : MayP tt (xs.filter fun x => !decide (x.2 ≤ tt)) := by
  refine ⟨by have := h.now0; omega, h1, (h.filter _).len, (h.filter _).srt, (h.filter _).ids, fun x hx => ?_⟩
  have hm := List.mem_filter.1 hx
  have := h.each x hm.1
  have h2 := hm.2
  simp only [Bool.not_eq_true', decide_eq_false_iff_not] at h2
  omega
/-- What is done, in plain words. -/
theorem stepR_eq (now : Int) (xs : List T) (tt : Int) : stepR now xs tt = if mayB now xs = true then (if tt < now ∨ tt > maxTick then (now, xs, [], 10) else (tt, xs.filter (fun x => !decide (x.2 ≤ tt)), xs.filter (fun x => decide (x.2 ≤ tt)), 0)) else (now, xs, [], 1) := by
  unfold stepR
  split
  · rename_i h
    rw [pick_filter (mayB_iff.1 h), pick_filter (mayB_iff.1 h)]
  · rfl
theorem dropR_eq (now : Int) (xs : List T) (id : Int) : dropR now xs id = if mayB now xs = true then (xs.filter (fun x => !(x.1 == id)), decide (0 < (xs.filter (fun x => x.1 == id)).length)) else (xs, false) := by
  unfold dropR
  split
  · rename_i h
    rw [pick_filter (mayB_iff.1 h), pick_filter (mayB_iff.1 h)]
  · rfl
theorem addR_eq (now : Int) (xs : List T) (id at_ : Int) : addR now xs id at_ = if mayB now xs = false ∨ id < 0 then (xs, 1) else if at_ ≤ now ∨ at_ > maxTick then (xs, 10) else if (xs.any fun x => x.1 == id) = true then (xs, 11) else if xs.length = 64 then (xs, 9) else (ins xs (id, at_), 0) := rfl
/-- What add answers: an error, and the row as it was; or none, and the row with it. -/
theorem addR_ok {now : Int} {xs : List T} {id at_ : Int} (h : (addR now xs id at_).2 = 0) : MayP now xs ∧ 0 ≤ id ∧ now < at_ ∧ at_ ≤ maxTick ∧ (∀ y ∈ xs, y.1 ≠ id) ∧ xs.length ≠ 64 ∧ (addR now xs id at_).1 = ins xs (id, at_) := by
  rw [addR_eq] at h ⊢
  split at h
  · cases h
  · rename_i h1
    rw [if_neg h1]
    split at h
    · cases h
    · rename_i h2
      rw [if_neg h2]
      split at h
      · cases h
      · rename_i h3
        rw [if_neg h3]
        split at h
        · cases h
        · rename_i h4
          rw [if_neg h4]
          rw [not_or, Bool.not_eq_false] at h1
          refine ⟨mayB_iff.1 h1.1, by omega, by omega, by omega, fun y hy e => h3 ?_, h4, rfl⟩
          rw [List.any_eq_true]
          exact ⟨y, hy, by simp [e]⟩
theorem addR_err {now : Int} {xs : List T} {id at_ : Int} (h : (addR now xs id at_).2 ≠ 0) : (addR now xs id at_).1 = xs := by
  rw [addR_eq] at h ⊢
  repeat' split
  all_goals first | rfl | skip
  rename_i h1 h2 h3 h4
  rw [if_neg h1, if_neg h2, if_neg h3, if_neg h4] at h
  exact absurd rfl h
theorem stepR_ok {now : Int} {xs : List T} {tt : Int} (h : (stepR now xs tt).2.2.2 = 0) : MayP now xs ∧ now ≤ tt ∧ tt ≤ maxTick ∧ stepR now xs tt = (tt, xs.filter (fun x => !decide (x.2 ≤ tt)), xs.filter (fun x => decide (x.2 ≤ tt)), 0) := by
  rw [stepR_eq] at h ⊢
  split at h
  · rename_i h1
    rw [if_pos h1]
    split at h
    · cases h
    · rename_i h2
      rw [if_neg h2]
      exact ⟨mayB_iff.1 h1, by omega, by omega, rfl⟩
  · cases h
theorem stepR_err {now : Int} {xs : List T} {tt : Int} (h : (stepR now xs tt).2.2.2 ≠ 0) : (stepR now xs tt).1 = now ∧ (stepR now xs tt).2.1 = xs ∧ (stepR now xs tt).2.2.1 = [] := by
  rw [stepR_eq] at h ⊢
  split at h
  · rename_i h1
    rw [if_pos h1]
    split at h
    · rename_i h2
      rw [if_pos h2]
      exact ⟨rfl, rfl, rfl⟩
    · exact absurd rfl h
  · rename_i h1
    rw [if_neg h1]
    exact ⟨rfl, rfl, rfl⟩
theorem ins_step_count {now : Int} {xs : List T} {x : T} (h : MayP now xs) (hx : now < x.2 ∧ x.2 ≤ maxTick) (hn : ∀ y ∈ xs, y.1 ≠ x.1) (q : T → Bool) : List.countP (fun y => y.1 == x.1) ((ins xs x).filter q) = if q x = true then 1 else 0 := by
  rw [((ins_perm h hx).filter q).countP_eq, List.filter_append, List.countP_append]
  have h0 : List.countP (fun y : T => y.1 == x.1) (xs.filter q) = 0 := List.countP_eq_zero.2 fun y hy => by simpa using hn y (List.mem_filter.1 hy).1
  rw [h0]
  cases hq : q x <;> simp [hq]
end Go.Proofs.Ytggkealdbebbkaa.W10
