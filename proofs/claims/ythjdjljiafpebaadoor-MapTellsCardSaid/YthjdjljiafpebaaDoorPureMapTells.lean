/- MapTells' plain law: the map answers as the document's own. -/
import Derived.Test.YthjdjljiafpebaaDoorA
import Derived.Test.YthjdjljiafpebaaDoorP8
namespace Go.Proofs.YthjdjljiafpebaaDoor.P
open Go.RowKit Go.Proofs.YthjdjljiafpebaaDoorW.PrintWords Go.Proofs.YthjdjljiafpebaaDoorW.PrintLast Go.Proofs.YthjdjljiafpebaaDoorW.PrintMore
namespace B8
set_option maxRecDepth 100000 in
theorem one : ∀ n : Fin 9, ∀ u : Fin 256, bitmap_May.f n u = some true → ∀ i : Fin 8, mooringslaw09_MapTells.f 40 n u i 0 = some true := by decide +kernel
set_option maxRecDepth 100000 in
theorem none_ : ∀ n : Fin 9, ∀ u : Fin 256, bitmap_May.f n u = some true → mooringslaw09_MapTells.f 40 n u (-1) 0 = some true := by decide +kernel
theorem pows : ∀ n : Fin 9, mooringsref09_pow.f 40 n = some (2 ^ (n : Nat)) ∧ mooringsref09_pow.f 39 n = some (2 ^ (n : Nat)) := by decide +kernel
variable {N U : Int} {b : Bool}
theorem refMay (k : Nat) (hk : k = 40 ∨ k = 39) (h : bitmap_May.f N U = some b) : mooringsref09_May.f k N U = some b := by
  unfold bitmap_May.f at h
  unfold mooringsref09_May.f
  by_cases h0 : N ≥ 0
  · rw [if_pos h0] at h ⊢
    by_cases h1 : N ≤ 8
    · rw [if_pos h1] at h ⊢
      by_cases h2 : U ≥ 0
      · rw [if_pos h2] at h ⊢
        rw [if_pos h0] at h
        have hp : mooringsref09_pow.f k N = some (2 ^ N.toNat) := by
          have := pows ⟨N.toNat, by omega⟩
          rw [show ((⟨N.toNat, by omega⟩ : Fin 9) : Int) = N from by simp; omega] at this
          rcases hk with rfl | rfl
          · exact this.1
          · exact this.2
        rw [hp, Option.bind_some, ← h]
        obtain ⟨j, hj⟩ : ∃ j, shr .i64 U N = j := ⟨_, rfl⟩
        have h3 : U / 2 ^ N.toNat = j := shr_small hj (by show N ≤ 64; omega)
        have h4 : (0 : Int) < 2 ^ N.toNat := Int.pow_pos (by omega)
        rw [hj]
        congr 1
        by_cases hU : U < 2 ^ N.toNat
        · rw [decide_eq_true hU]
          have : j = 0 := by rw [← h3]; exact Int.ediv_eq_zero_of_lt h2 hU
          rw [this]
          rfl
        · rw [decide_eq_false hU]
          have : j ≠ 0 := fun e => hU (Dev.lt_of_div0 h4 (h3.trans e))
          simp [this]
      · rw [if_neg h2] at h ⊢
        exact h
    · rw [if_neg h1] at h ⊢
      exact h
  · rw [if_neg h0] at h ⊢
    exact h
section
variable (h : bitmap_May.f N U = some false)
include h
theorem refHas_no (i : Int) : mooringsref09_Has.f 40 N U i = some false := by
  unfold mooringsref09_Has.f; rw [refMay 40 (.inl rfl) h]; rfl
theorem refTake_no (i : Int) : mooringsref09_Take.f 40 N U i = some (N, U, false) := by
  unfold mooringsref09_Take.f; rw [refMay 40 (.inl rfl) h, refHas_no h]; rfl
theorem refGive_no (i : Int) : mooringsref09_Give.f 40 N U i = some (N, U, false) := by
  unfold mooringsref09_Give.f; rw [refHas_no h]; rfl
omit h in
theorem free0 (k : Nat) (N U : Int) : mooringsref09_Free.l0 (k + 2) [] false 0 N U = some [] := by
  simp only [mooringsref09_Free.l0, mooringsref09_Free.j1, ite_self, Bool.false_eq_true, if_false]
theorem refFree_no : mooringsref09_Free.f 40 N U = some [] ∧ mooringsref09_Free.f 39 N U = some [] := by
  unfold mooringsref09_Free.f
  rw [refMay 40 (.inl rfl) h, refMay 39 (.inr rfl) h]
  exact ⟨free0 38 N U, free0 37 N U⟩
theorem refFirst_no : mooringsref09_First.f 39 N U = some (-1) := by
  unfold mooringsref09_First.f; rw [(refFree_no h).2]; rfl
theorem refCount_no : mooringsref09_Count.f 39 N U = some 0 := by
  unfold mooringsref09_Count.f; rw [refMay 39 (.inr rfl) h]; rfl
end
section
variable (h : bitmap_May.f N U = some true) {i : Int} (hi : ¬ (0 ≤ i ∧ i < N))
include h hi
theorem refHas_out : mooringsref09_Has.f 40 N U i = some false := by
  unfold mooringsref09_Has.f
  rw [refMay 40 (.inl rfl) h, Option.bind_some, if_pos rfl]
  by_cases h0 : i ≥ 0
  · rw [if_pos h0, if_neg (by omega)]
  · rw [if_neg h0]
theorem refTake_out : mooringsref09_Take.f 40 N U i = some (N, U, false) := by
  unfold mooringsref09_Take.f
  rw [refMay 40 (.inl rfl) h, refHas_out h hi, Option.bind_some, Option.bind_some, if_pos rfl]
  by_cases h0 : i < 0
  · rw [if_pos h0]; rfl
  · rw [if_neg h0, if_pos (by omega)]; rfl
theorem refGive_out : mooringsref09_Give.f 40 N U i = some (N, U, false) := by
  unfold mooringsref09_Give.f; rw [refHas_out h hi]; rfl
end
theorem news (n : Int) : ∃ x y c, bitmap_New.f n = some (x, y, c) ∧ mooringsref09_New.f 40 n = some (x, y, c) := by
  obtain ⟨b, h⟩ := A.may_total n 0
  unfold bitmap_New.f mooringsref09_New.f
  rw [refMay 40 (.inl rfl) h, h]
  cases b
  · exact ⟨0, 0, false, rfl, rfl⟩
  · exact ⟨n, 0, true, rfl, rfl⟩
set_option maxHeartbeats 4000000 in
theorem any_new (N U i n m : Int) : mooringslaw09_MapTells.f 40 N U i n = mooringslaw09_MapTells.f 40 N U i m := by
  obtain ⟨x, y, c, h1, h2⟩ := news n
  obtain ⟨x', y', c', h3, h4⟩ := news m
  unfold mooringslaw09_MapTells.f
  rw [h1, h2, h3, h4]
  simp only [Option.bind_some, beq_self_eq_true, Bool.not_true, Bool.or_self, bne_self_eq_false, Bool.false_eq_true, if_false]
set_option maxHeartbeats 4000000 in
theorem j0_k {q : Nat} {i j : Int} (hH : bitmap_Has.f N U i = bitmap_Has.f N U j) (x21 x22 x103 : Bool) :
    mooringslaw09_MapTells.j0 q i x21 x22 x103 N U = mooringslaw09_MapTells.j0 q j x21 x22 x103 N U := by
  cases q with
  | zero => simp only [mooringslaw09_MapTells.j0]
  | succ q => simp only [mooringslaw09_MapTells.j0, hH]
end B8
set_option maxHeartbeats 8000000 in
theorem mapTells_pure (N U i n : Int) : ∃ q, mooringslaw09_MapTells.f q N U i n = some true := by
  refine ⟨40, ?_⟩
  rw [B8.any_new N U i n 0]
  obtain ⟨b, h⟩ := A.may_total N U
  cases b with
  | false =>
    obtain ⟨x, y, c, h1, h2⟩ := B8.news 0
    have hI : mooringsref01_Ints.f 40 [] [] = some true := by decide +kernel
    unfold mooringslaw09_MapTells.f mooringslaw09_awake.f
    rw [A.take_no h, B8.refTake_no h, A.give_no h, B8.refGive_no h, h1, h2, A.free_no h, (B8.refFree_no h).1]
    simp only [Option.bind_some]
    rw [hI, B8.refMay 40 (.inl rfl) h, B8.refHas_no h]
    simp only [Option.bind_some, if_true, beq_self_eq_true, Bool.not_true, Bool.or_self, bne_self_eq_false, Bool.false_eq_true, if_false, mooringslaw09_MapTells.j0, h, A.has_no h, A.first_no h, A.count_no h, B8.refFirst_no h, B8.refCount_no h]
  | true =>
    obtain ⟨h0, h1, _, _⟩ := Dev.may_true h
    by_cases hi : 0 ≤ i ∧ i < N
    · obtain ⟨n, u, rfl, rfl⟩ := A.as_fin h
      obtain ⟨j, rfl⟩ := A.as_fin8 h1 hi
      exact B8.one n u h j
    · have hn : ¬ (0 ≤ (-1 : Int) ∧ (-1 : Int) < N) := by omega
      have e : mooringslaw09_MapTells.f 40 N U i 0 = mooringslaw09_MapTells.f 40 N U (-1) 0 := by
        unfold mooringslaw09_MapTells.f
        rw [A.take_out h hi, A.take_out h hn, B8.refTake_out h hi, B8.refTake_out h hn, A.give_out h hi, A.give_out h hn, B8.refGive_out h hi, B8.refGive_out h hn, B8.refHas_out h hi, B8.refHas_out h hn]
        simp only [B8.j0_k ((A.has_out h hi).trans (A.has_out h hn).symm)]
      rw [e]
      obtain ⟨n, u, rfl, rfl⟩ := A.as_fin h
      exact B8.none_ n u h
end Go.Proofs.YthjdjljiafpebaaDoor.P
