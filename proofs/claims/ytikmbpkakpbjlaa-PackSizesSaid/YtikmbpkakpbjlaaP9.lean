-- Laid by this session's own program (wip/myprint.py): Lean functions for the Go functions that a law reaches, and their contracts. Not trusted: Lean checks it.
import Derived.Test.YtikmbpkakpbjlaaP0
import Derived.Test.YtikmbpkakpbjlaaP1
import Derived.Test.YtikmbpkakpbjlaaP2
namespace Go.Proofs.Ytikmbpkakpbjlaa.P
open Go.RowKit Go.Proofs.YtikmbpkakpbjlaaW.PrintWords Go.Proofs.YtikmbpkakpbjlaaW.PrintLast Go.Proofs.YtikmbpkakpbjlaaW.PrintMore
attribute [local go_sem] max2_int min2_int max_two min_two max_three min_three max_four min_four   -- for this text's walks alone
set_option linter.unusedVariables false
set_option linter.unusedSimpArgs false

/-! ### mooringslaw03_PackSizes: function 7 -/
mutual
def mooringslaw03_PackSizes.j0 : Nat → Int → Int → Int → Int → Bool → Option (Bool)
  | 0, _, _, _, _, _ => none
  | k + 1, x0, x1, x2, x8, x37 => if x37 = true then (some false) else (if x8 < 0 then (mooringslaw03_PackSizes.j1 k x0 x1 x2 x8 true) else (if x2 < 0 then (mooringslaw03_PackSizes.j1 k x0 x1 x2 x8 true) else (mooringslaw03_PackSizes.j1 k x0 x1 x2 x8 (decide (x2 > (wrap64 (400 - x0)))))))
def mooringslaw03_PackSizes.j1 : Nat → Int → Int → Int → Int → Bool → Option (Bool)
  | 0, _, _, _, _, _ => none
  | k + 1, x0, x1, x2, x8, x49 => if x49 = true then (some true) else ((pack_Size.f (wrap64 (x0 + x2)) x1).bind fun t224 => (if t224 ≥ x8 then (if x1 = 32 then (if x2 = 8 then ((pack_Size.f (wrap64 (x0 + 8)) x1).bind fun t225 => (if t225 = (wrap64 (x8 + x1)) then (if (wrap64 (8 * x8)) ≥ (wrap64 (x0 * x1)) then (some (decide ((wrap64 (8 * x8)) < (wrap64 ((wrap64 (x0 * x1)) + 8))))) else (some false)) else (some false))) else (if (wrap64 (8 * x8)) ≥ (wrap64 (x0 * x1)) then (some (decide ((wrap64 (8 * x8)) < (wrap64 ((wrap64 (x0 * x1)) + 8))))) else (some false))) else ((pack_Size.f x0 (wrap64 (x1 + 1))).bind fun t226 => (if t226 ≥ x8 then (if x2 = 8 then ((pack_Size.f (wrap64 (x0 + 8)) x1).bind fun t227 => (if t227 = (wrap64 (x8 + x1)) then (if (wrap64 (8 * x8)) ≥ (wrap64 (x0 * x1)) then (some (decide ((wrap64 (8 * x8)) < (wrap64 ((wrap64 (x0 * x1)) + 8))))) else (some false)) else (some false))) else (if (wrap64 (8 * x8)) ≥ (wrap64 (x0 * x1)) then (some (decide ((wrap64 (8 * x8)) < (wrap64 ((wrap64 (x0 * x1)) + 8))))) else (some false))) else (some false)))) else (some false)))
end
def mooringslaw03_PackSizes.f (k : Nat) (a0 : Int) (a1 : Int) (a2 : Int) : Option (Bool) := (mooringslaw03_awake.f k).bind fun t222 => ((pack_Size.f a0 a1).bind fun t223 => (if t222 = true then (if a0 ≥ 0 then (if a0 ≤ 400 then (if a1 ≥ 0 then (if ((decide (t223 ≥ 0)) != (decide (a1 ≤ 32))) = true then (mooringslaw03_PackSizes.j0 k a0 a1 a2 t223 true) else (mooringslaw03_PackSizes.j0 k a0 a1 a2 t223 (decide (t223 < (-1))))) else (if ((decide (t223 ≥ 0)) != false) = true then (mooringslaw03_PackSizes.j0 k a0 a1 a2 t223 true) else (mooringslaw03_PackSizes.j0 k a0 a1 a2 t223 (decide (t223 < (-1)))))) else (if ((decide (t223 ≥ 0)) != false) = true then (mooringslaw03_PackSizes.j0 k a0 a1 a2 t223 true) else (mooringslaw03_PackSizes.j0 k a0 a1 a2 t223 (decide (t223 < (-1)))))) else (if ((decide (t223 ≥ 0)) != false) = true then (mooringslaw03_PackSizes.j0 k a0 a1 a2 t223 true) else (mooringslaw03_PackSizes.j0 k a0 a1 a2 t223 (decide (t223 < (-1)))))) else (mooringslaw03_PackSizes.j0 k a0 a1 a2 t223 true)))
theorem mooringslaw03_PackSizes.mono_l : ∀ k, (∀ y0 y1 y2 y3 y4, LeO (mooringslaw03_PackSizes.j0 k y0 y1 y2 y3 y4) (mooringslaw03_PackSizes.j0 (k + 1) y0 y1 y2 y3 y4)) ∧ (∀ y0 y1 y2 y3 y4, LeO (mooringslaw03_PackSizes.j1 k y0 y1 y2 y3 y4) (mooringslaw03_PackSizes.j1 (k + 1) y0 y1 y2 y3 y4))
  | 0 => ⟨fun _ _ _ _ _ r h => by simp [mooringslaw03_PackSizes.j0] at h, fun _ _ _ _ _ r h => by simp [mooringslaw03_PackSizes.j1] at h⟩
  | k + 1 => by
    obtain ⟨ih0, ih1⟩ := mooringslaw03_PackSizes.mono_l k
    refine ⟨?_, ?_⟩
    · intro y0 y1 y2 y3 y4
      unfold mooringslaw03_PackSizes.j0
      repeat' first
      | (with_reducible exact ih0 _ _ _ _ _)
      | (with_reducible exact ih1 _ _ _ _ _)
      | (with_reducible exact mooringslaw03_awake.mono _)
      | (with_reducible exact LeO.refl _)
      | (with_reducible exact LeO.none _)
      | (with_reducible refine LeO.ite ?_ ?_)
      | (with_reducible refine LeO.bind ?_ (fun _ => ?_))
      | exact ih0 _ _ _ _ _
      | exact ih1 _ _ _ _ _
      | exact mooringslaw03_awake.mono _
      | exact LeO.none _
      | refine LeO.ite ?_ ?_
      | refine LeO.bind ?_ (fun _ => ?_)
    · intro y0 y1 y2 y3 y4
      unfold mooringslaw03_PackSizes.j1
      repeat' first
      | (with_reducible exact ih0 _ _ _ _ _)
      | (with_reducible exact ih1 _ _ _ _ _)
      | (with_reducible exact mooringslaw03_awake.mono _)
      | (with_reducible exact LeO.refl _)
      | (with_reducible exact LeO.none _)
      | (with_reducible refine LeO.ite ?_ ?_)
      | (with_reducible refine LeO.bind ?_ (fun _ => ?_))
      | exact ih0 _ _ _ _ _
      | exact ih1 _ _ _ _ _
      | exact mooringslaw03_awake.mono _
      | exact LeO.none _
      | refine LeO.ite ?_ ?_
      | refine LeO.bind ?_ (fun _ => ?_)
theorem mooringslaw03_PackSizes.mono : ∀ a0 a1 a2 k, LeO (mooringslaw03_PackSizes.f k a0 a1 a2) (mooringslaw03_PackSizes.f (k + 1) a0 a1 a2) := by
  intro a0 a1 a2 k
  obtain ⟨ih0, ih1⟩ := mooringslaw03_PackSizes.mono_l k
  unfold mooringslaw03_PackSizes.f
  repeat' first
      | (with_reducible exact ih0 _ _ _ _ _)
      | (with_reducible exact ih1 _ _ _ _ _)
      | (with_reducible exact mooringslaw03_awake.mono _)
      | (with_reducible exact LeO.refl _)
      | (with_reducible exact LeO.none _)
      | (with_reducible refine LeO.ite ?_ ?_)
      | (with_reducible refine LeO.bind ?_ (fun _ => ?_))
      | exact ih0 _ _ _ _ _
      | exact ih1 _ _ _ _ _
      | exact mooringslaw03_awake.mono _
      | exact LeO.none _
      | refine LeO.ite ?_ ?_
      | refine LeO.bind ?_ (fun _ => ?_)
set_option maxHeartbeats 8000000 in
set_option maxRecDepth 100000 in
theorem mooringslaw03_PackSizes.calls (k : Nat) (a0 : Int) (a1 : Int) (a2 : Int) (r : Bool) (w : World) (h : mooringslaw03_PackSizes.f k a0 a1 a2 = some r) :
    Calls Try.prog 7 #[.int .i64 a0, .int .i64 a1, .int .i64 a2] w fun e w' => e = .returned (.bool r) ∧ Below w.heap.size w w' := by
  have HB := Aside0.mk (Below.refl w.heap.size w)
  have H : ((mooringslaw03_awake.f k).bind fun t222 => ((pack_Size.f a0 a1).bind fun t223 => (if t222 = true then (if a0 ≥ 0 then (if a0 ≤ 400 then (if a1 ≥ 0 then (if ((decide (t223 ≥ 0)) != (decide (a1 ≤ 32))) = true then (mooringslaw03_PackSizes.j0 k a0 a1 a2 t223 true) else (mooringslaw03_PackSizes.j0 k a0 a1 a2 t223 (decide (t223 < (-1))))) else (if ((decide (t223 ≥ 0)) != false) = true then (mooringslaw03_PackSizes.j0 k a0 a1 a2 t223 true) else (mooringslaw03_PackSizes.j0 k a0 a1 a2 t223 (decide (t223 < (-1)))))) else (if ((decide (t223 ≥ 0)) != false) = true then (mooringslaw03_PackSizes.j0 k a0 a1 a2 t223 true) else (mooringslaw03_PackSizes.j0 k a0 a1 a2 t223 (decide (t223 < (-1)))))) else (if ((decide (t223 ≥ 0)) != false) = true then (mooringslaw03_PackSizes.j0 k a0 a1 a2 t223 true) else (mooringslaw03_PackSizes.j0 k a0 a1 a2 t223 (decide (t223 < (-1)))))) else (mooringslaw03_PackSizes.j0 k a0 a1 a2 t223 true)))) = some r := h
  clear h
  replace H := Option.bind_eq_some_iff.mp H
  obtain ⟨t222, A40, H⟩ := H
  replace H : ((pack_Size.f a0 a1).bind fun t223 => (if t222 = true then (if a0 ≥ 0 then (if a0 ≤ 400 then (if a1 ≥ 0 then (if ((decide (t223 ≥ 0)) != (decide (a1 ≤ 32))) = true then (mooringslaw03_PackSizes.j0 k a0 a1 a2 t223 true) else (mooringslaw03_PackSizes.j0 k a0 a1 a2 t223 (decide (t223 < (-1))))) else (if ((decide (t223 ≥ 0)) != false) = true then (mooringslaw03_PackSizes.j0 k a0 a1 a2 t223 true) else (mooringslaw03_PackSizes.j0 k a0 a1 a2 t223 (decide (t223 < (-1)))))) else (if ((decide (t223 ≥ 0)) != false) = true then (mooringslaw03_PackSizes.j0 k a0 a1 a2 t223 true) else (mooringslaw03_PackSizes.j0 k a0 a1 a2 t223 (decide (t223 < (-1)))))) else (if ((decide (t223 ≥ 0)) != false) = true then (mooringslaw03_PackSizes.j0 k a0 a1 a2 t223 true) else (mooringslaw03_PackSizes.j0 k a0 a1 a2 t223 (decide (t223 < (-1)))))) else (mooringslaw03_PackSizes.j0 k a0 a1 a2 t223 true))) = some r := H
  have A4 := Aside0.mk A40
  clear A40
  replace H := Option.bind_eq_some_iff.mp H
  obtain ⟨t223, A50, H⟩ := H
  replace H : (if t222 = true then (if a0 ≥ 0 then (if a0 ≤ 400 then (if a1 ≥ 0 then (if ((decide (t223 ≥ 0)) != (decide (a1 ≤ 32))) = true then (mooringslaw03_PackSizes.j0 k a0 a1 a2 t223 true) else (mooringslaw03_PackSizes.j0 k a0 a1 a2 t223 (decide (t223 < (-1))))) else (if ((decide (t223 ≥ 0)) != false) = true then (mooringslaw03_PackSizes.j0 k a0 a1 a2 t223 true) else (mooringslaw03_PackSizes.j0 k a0 a1 a2 t223 (decide (t223 < (-1)))))) else (if ((decide (t223 ≥ 0)) != false) = true then (mooringslaw03_PackSizes.j0 k a0 a1 a2 t223 true) else (mooringslaw03_PackSizes.j0 k a0 a1 a2 t223 (decide (t223 < (-1)))))) else (if ((decide (t223 ≥ 0)) != false) = true then (mooringslaw03_PackSizes.j0 k a0 a1 a2 t223 true) else (mooringslaw03_PackSizes.j0 k a0 a1 a2 t223 (decide (t223 < (-1)))))) else (mooringslaw03_PackSizes.j0 k a0 a1 a2 t223 true)) = some r := H
  have A5 := Aside0.mk A50
  clear A50
  have HC6 := Aside0.mk H
  clear H
  go_enter Try.func7, Try.ntmps7
  go_upto_region 3 with (first | ((with_reducible refine gate_callee (f := 9) rfl ?_); refine goesL_ (some 9) rfl rfl Try.func9 (by kernel_rfl) rfl #[] rfl (by (try simp only [List.map_toArray, List.map_cons, List.map_nil]); first | done | rfl | (simp only [List.length_drop, List.length_take]; rfl)) ?_; (with_reducible refine (mooringslaw03_awake.calls k  t222 _ A4.out).mono ?_); rintro e w7 ⟨rfl, hb⟩; refine ⟨_, rfl, ?_⟩; have n0_ := Aside0.mk (below_step (by repeat (first | (with_reducible first | exact HB.out | apply below_alloc | apply pw_below_drewN | apply below_drew1) | exact HB.out)) hb); clear HB; have HB := n0_; clear n0_; (try clear hb); (try clear hb2); (try clear hk); (try clear hi)) | ((with_reducible refine gate_callee (f := 17) rfl ?_); refine goesL_ (some 12) rfl rfl Try.func17 (by kernel_rfl) rfl #[.int .i64 a0, .int .i64 a1] rfl (by (try simp only [List.map_toArray, List.map_cons, List.map_nil]); first | done | rfl | (simp only [List.length_drop, List.length_take]; rfl)) ?_; (with_reducible refine (pack_Size.calls a0 a1 t223 _ A5.out).mono ?_); rintro e w' ⟨rfl, ⟨nd, rfl⟩⟩; refine ⟨_, rfl, ?_⟩))
  (try simp only [Act.put, List.setIfInBounds_toArray, List.set_cons_zero, List.set_cons_succ])
  go_cut [37] (fun v37 wc => ∃ (kq : Nat) (x37_5 : Bool), v37 = .bool x37_5 ∧ Aside0 (mooringslaw03_PackSizes.j0 kq a0 a1 a2 t223 x37_5 = some r) ∧ Aside0 (kq ≤ k) ∧ Aside0 (Below w.heap.size w wc))
  case first =>
    have H := HC6.out
    clear HC6
    by_cases c8 : t222 = true
    · subst c8
      have H1 : (if a0 ≥ 0 then (if a0 ≤ 400 then (if a1 ≥ 0 then (if ((decide (t223 ≥ 0)) != (decide (a1 ≤ 32))) = true then (mooringslaw03_PackSizes.j0 k a0 a1 a2 t223 true) else (mooringslaw03_PackSizes.j0 k a0 a1 a2 t223 (decide (t223 < (-1))))) else (if ((decide (t223 ≥ 0)) != false) = true then (mooringslaw03_PackSizes.j0 k a0 a1 a2 t223 true) else (mooringslaw03_PackSizes.j0 k a0 a1 a2 t223 (decide (t223 < (-1)))))) else (if ((decide (t223 ≥ 0)) != false) = true then (mooringslaw03_PackSizes.j0 k a0 a1 a2 t223 true) else (mooringslaw03_PackSizes.j0 k a0 a1 a2 t223 (decide (t223 < (-1)))))) else (if ((decide (t223 ≥ 0)) != false) = true then (mooringslaw03_PackSizes.j0 k a0 a1 a2 t223 true) else (mooringslaw03_PackSizes.j0 k a0 a1 a2 t223 (decide (t223 < (-1)))))) = some r := by rw [if_pos rfl] at H; exact H
      clear H
      have H := H1
      clear H1
      by_cases c9 : a0 ≥ 0
      · rw [if_pos c9] at H
        have c9b0 : decide (0 ≤ a0) = true := decide_eq_true c9
        clear c9
        (first | rw [c9b0] | (simp only [i64_w, i32_w]; rw [c9b0]) | skip)
        by_cases c10 : a0 ≤ 400
        · rw [if_pos c10] at H
          have c10b0 : decide (a0 ≤ 400) = true := decide_eq_true c10
          clear c10
          by_cases c11 : a1 ≥ 0
          · rw [if_pos c11] at H
            have c11b0 : decide (0 ≤ a1) = true := decide_eq_true c11
            clear c11
            by_cases c12 : ((decide (t223 ≥ 0)) != (decide (a1 ≤ 32))) = true
            · rw [if_pos c12] at H
              have c12b0 : ((decide (t223 ≥ 0)) != (decide (a1 ≤ 32))) = true := c12
              (try (have c12b1 : decide ((decide (t223 ≥ 0)) = (decide (a1 ≤ 32))) = false := by simpa using c12))
              (try (have c12b2 : ((decide (t223 ≥ 0)) == (decide (a1 ≤ 32))) = false := by simpa using c12))
              (try (have c12b3 : ¬ ((decide (t223 ≥ 0)) = (decide (a1 ≤ 32))) := by simpa using c12))
              clear c12
              have H' := Aside0.mk H
              clear H
              go_wp2
              go_meet
              case rel => exact ⟨_, (true), (by first | rfl | (simp; done) | (simp [*]; done)), H', ⟨by first | omega | exact Nat.le_refl _⟩, ⟨by repeat (first | (with_reducible first | exact HB.out | apply below_alloc | apply pw_below_drewN | apply below_drew1) | exact HB.out)⟩⟩
            · rw [if_neg c12] at H
              have c12b0 : ((decide (t223 ≥ 0)) != (decide (a1 ≤ 32))) = false := by simpa using c12
              (try (have c12b1 : decide ((decide (t223 ≥ 0)) = (decide (a1 ≤ 32))) = true := by simpa using c12))
              (try (have c12b2 : ((decide (t223 ≥ 0)) == (decide (a1 ≤ 32))) = true := by simpa using c12))
              clear c12
              have H' := Aside0.mk H
              clear H
              go_wp2
              go_meet
              case rel => exact ⟨_, (decide (t223 < (-1))), (by first | rfl | (simp; done) | (simp [*]; done)), H', ⟨by first | omega | exact Nat.le_refl _⟩, ⟨by repeat (first | (with_reducible first | exact HB.out | apply below_alloc | apply pw_below_drewN | apply below_drew1) | exact HB.out)⟩⟩
          · rw [if_neg c11] at H
            have c11b0 : decide (0 ≤ a1) = false := decide_eq_false c11
            clear c11
            by_cases c13 : ((decide (t223 ≥ 0)) != false) = true
            · rw [if_pos c13] at H
              have c13b0 : ((decide (t223 ≥ 0)) != false) = true := c13
              (try (have c13b1 : decide ((decide (t223 ≥ 0)) = false) = false := by simpa using c13))
              (try (have c13b2 : ((decide (t223 ≥ 0)) == false) = false := by simpa using c13))
              (try (have c13b3 : ¬ ((decide (t223 ≥ 0)) = false) := by simpa using c13))
              clear c13
              have H' := Aside0.mk H
              clear H
              go_wp2
              go_meet
              case rel => exact ⟨_, (true), (by first | rfl | (simp; done) | (simp [*]; done)), H', ⟨by first | omega | exact Nat.le_refl _⟩, ⟨by repeat (first | (with_reducible first | exact HB.out | apply below_alloc | apply pw_below_drewN | apply below_drew1) | exact HB.out)⟩⟩
            · rw [if_neg c13] at H
              have c13b0 : ((decide (t223 ≥ 0)) != false) = false := by simpa using c13
              (try (have c13b1 : decide ((decide (t223 ≥ 0)) = false) = true := by simpa using c13))
              (try (have c13b2 : ((decide (t223 ≥ 0)) == false) = true := by simpa using c13))
              clear c13
              have H' := Aside0.mk H
              clear H
              go_wp2
              go_meet
              case rel => exact ⟨_, (decide (t223 < (-1))), (by first | rfl | (simp; done) | (simp [*]; done)), H', ⟨by first | omega | exact Nat.le_refl _⟩, ⟨by repeat (first | (with_reducible first | exact HB.out | apply below_alloc | apply pw_below_drewN | apply below_drew1) | exact HB.out)⟩⟩
        · rw [if_neg c10] at H
          have c10b0 : decide (a0 ≤ 400) = false := decide_eq_false c10
          clear c10
          by_cases c14 : ((decide (t223 ≥ 0)) != false) = true
          · rw [if_pos c14] at H
            have c14b0 : ((decide (t223 ≥ 0)) != false) = true := c14
            (try (have c14b1 : decide ((decide (t223 ≥ 0)) = false) = false := by simpa using c14))
            (try (have c14b2 : ((decide (t223 ≥ 0)) == false) = false := by simpa using c14))
            (try (have c14b3 : ¬ ((decide (t223 ≥ 0)) = false) := by simpa using c14))
            clear c14
            have H' := Aside0.mk H
            clear H
            go_wp2
            go_meet
            case rel => exact ⟨_, (true), (by first | rfl | (simp; done) | (simp [*]; done)), H', ⟨by first | omega | exact Nat.le_refl _⟩, ⟨by repeat (first | (with_reducible first | exact HB.out | apply below_alloc | apply pw_below_drewN | apply below_drew1) | exact HB.out)⟩⟩
          · rw [if_neg c14] at H
            have c14b0 : ((decide (t223 ≥ 0)) != false) = false := by simpa using c14
            (try (have c14b1 : decide ((decide (t223 ≥ 0)) = false) = true := by simpa using c14))
            (try (have c14b2 : ((decide (t223 ≥ 0)) == false) = true := by simpa using c14))
            clear c14
            have H' := Aside0.mk H
            clear H
            go_wp2
            go_meet
            case rel => exact ⟨_, (decide (t223 < (-1))), (by first | rfl | (simp; done) | (simp [*]; done)), H', ⟨by first | omega | exact Nat.le_refl _⟩, ⟨by repeat (first | (with_reducible first | exact HB.out | apply below_alloc | apply pw_below_drewN | apply below_drew1) | exact HB.out)⟩⟩
      · rw [if_neg c9] at H
        have c9b0 : decide (0 ≤ a0) = false := decide_eq_false c9
        clear c9
        (first | rw [c9b0] | (simp only [i64_w, i32_w]; rw [c9b0]) | skip)
        by_cases c15 : ((decide (t223 ≥ 0)) != false) = true
        · rw [if_pos c15] at H
          have c15b0 : ((decide (t223 ≥ 0)) != false) = true := c15
          (try (have c15b1 : decide ((decide (t223 ≥ 0)) = false) = false := by simpa using c15))
          (try (have c15b2 : ((decide (t223 ≥ 0)) == false) = false := by simpa using c15))
          (try (have c15b3 : ¬ ((decide (t223 ≥ 0)) = false) := by simpa using c15))
          clear c15
          have H' := Aside0.mk H
          clear H
          go_wp2
          go_meet
          case rel => exact ⟨_, (true), (by first | rfl | (simp; done) | (simp [*]; done)), H', ⟨by first | omega | exact Nat.le_refl _⟩, ⟨by repeat (first | (with_reducible first | exact HB.out | apply below_alloc | apply pw_below_drewN | apply below_drew1) | exact HB.out)⟩⟩
        · rw [if_neg c15] at H
          have c15b0 : ((decide (t223 ≥ 0)) != false) = false := by simpa using c15
          (try (have c15b1 : decide ((decide (t223 ≥ 0)) = false) = true := by simpa using c15))
          (try (have c15b2 : ((decide (t223 ≥ 0)) == false) = true := by simpa using c15))
          clear c15
          have H' := Aside0.mk H
          clear H
          go_wp2
          go_meet
          case rel => exact ⟨_, (decide (t223 < (-1))), (by first | rfl | (simp; done) | (simp [*]; done)), H', ⟨by first | omega | exact Nat.le_refl _⟩, ⟨by repeat (first | (with_reducible first | exact HB.out | apply below_alloc | apply pw_below_drewN | apply below_drew1) | exact HB.out)⟩⟩
    · replace c8 := Bool.eq_false_iff.mpr c8
      subst c8
      have H1 : (mooringslaw03_PackSizes.j0 k a0 a1 a2 t223 true) = some r := by rw [if_neg (show ¬ (false = true) by decide)] at H; exact H
      clear H
      have H := H1
      clear H1
      have H' := Aside0.mk H
      clear H
      go_wp2
      go_meet
      case rel => exact ⟨_, (true), (by first | rfl | (simp; done) | (simp [*]; done)), H', ⟨by first | omega | exact Nat.le_refl _⟩, ⟨by repeat (first | (with_reducible first | exact HB.out | apply below_alloc | apply pw_below_drewN | apply below_drew1) | exact HB.out)⟩⟩
  case rest =>
    clear HC6
    try clear c1
    try clear p2
    try clear c7
    try clear c8
    try clear c9
    try clear c9b0
    try clear c10
    try clear c10b0
    try clear c11
    try clear c11b0
    try clear c12
    try clear c12b0
    try clear c12b1
    try clear c12b2
    try clear c13
    try clear c13b0
    try clear c13b1
    try clear c13b2
    try clear c14
    try clear c14b0
    try clear c14b1
    try clear c14b2
    try clear c15
    try clear c15b0
    try clear c15b1
    try clear c15b2
    obtain ⟨kq, x37_5, rfl, HA, HJ5, HB⟩ := hcut
    cases kq with
    | zero => exact absurd HA.out (by simp [mooringslaw03_PackSizes.j0])
    | succ kj5 =>
      have H := HA.out
      clear HA
      simp only [mooringslaw03_PackSizes.j0] at H
      by_cases c16 : x37_5 = true
      · subst c16
        have H1 : (some false) = some r := by rw [if_pos rfl] at H; exact H
        clear H
        have H := H1
        clear H1
        obtain rfl := Option.some.inj H
        go_wp2
        go_ret
        exact ⟨by first | rfl | (simp [errW_none, errW_some] <;> rfl) | (simp [*, errW_none, errW_some] <;> rfl), by repeat (first | (with_reducible first | exact HB.out | apply below_alloc | apply pw_below_drewN | apply below_drew1) | exact HB.out)⟩
      · replace c16 := Bool.eq_false_iff.mpr c16
        subst c16
        have H1 : (if t223 < 0 then (mooringslaw03_PackSizes.j1 kj5 a0 a1 a2 t223 true) else (if a2 < 0 then (mooringslaw03_PackSizes.j1 kj5 a0 a1 a2 t223 true) else (mooringslaw03_PackSizes.j1 kj5 a0 a1 a2 t223 (decide (a2 > (wrap64 (400 - a0))))))) = some r := by rw [if_neg (show ¬ (false = true) by decide)] at H; exact H
        clear H
        have H := H1
        clear H1
        have HC17 := Aside0.mk H
        clear H
        go_upto_region 5 with (fail)
        go_cut [49] (fun v49 wc => ∃ (kq : Nat) (x49_16 : Bool), v49 = .bool x49_16 ∧ Aside0 (mooringslaw03_PackSizes.j1 kq a0 a1 a2 t223 x49_16 = some r) ∧ Aside0 (kq ≤ kj5) ∧ Aside0 (Below w.heap.size w wc))
        case first =>
          have H := HC17.out
          clear HC17
          by_cases c18 : t223 < 0
          · rw [if_pos c18] at H
            have c18b0 : decide (t223 < 0) = true := decide_eq_true c18
            clear c18
            (first | rw [c18b0] | (simp only [i64_w, i32_w]; rw [c18b0]) | skip)
            have H' := Aside0.mk H
            clear H
            go_wp2
            go_meet
            case rel => exact ⟨_, (true), (by first | rfl | (simp; done) | (simp [*]; done)), H', ⟨by have := HJ5.out; first | omega | exact Nat.le_refl _⟩, ⟨by repeat (first | (with_reducible first | exact HB.out | apply below_alloc | apply pw_below_drewN | apply below_drew1) | exact HB.out)⟩⟩
          · rw [if_neg c18] at H
            have c18b0 : decide (t223 < 0) = false := decide_eq_false c18
            clear c18
            (first | rw [c18b0] | (simp only [i64_w, i32_w]; rw [c18b0]) | skip)
            by_cases c19 : a2 < 0
            · rw [if_pos c19] at H
              have c19b0 : decide (a2 < 0) = true := decide_eq_true c19
              clear c19
              have H' := Aside0.mk H
              clear H
              go_wp2
              go_meet
              case rel => exact ⟨_, (true), (by first | rfl | (simp; done) | (simp [*]; done)), H', ⟨by have := HJ5.out; first | omega | exact Nat.le_refl _⟩, ⟨by repeat (first | (with_reducible first | exact HB.out | apply below_alloc | apply pw_below_drewN | apply below_drew1) | exact HB.out)⟩⟩
            · rw [if_neg c19] at H
              have c19b0 : decide (a2 < 0) = false := decide_eq_false c19
              clear c19
              have H' := Aside0.mk H
              clear H
              go_wp2
              go_meet
              case rel => exact ⟨_, (decide (a2 > (wrap64 (400 - a0)))), (by first | rfl | (simp; done) | (simp [*]; done)), H', ⟨by have := HJ5.out; first | omega | exact Nat.le_refl _⟩, ⟨by repeat (first | (with_reducible first | exact HB.out | apply below_alloc | apply pw_below_drewN | apply below_drew1) | exact HB.out)⟩⟩
        case rest =>
          clear HC17
          try clear c1
          try clear p2
          try clear p6
          try clear c7
          try clear c8
          try clear c9
          try clear c9b0
          try clear c10
          try clear c10b0
          try clear c11
          try clear c11b0
          try clear c12
          try clear c12b0
          try clear c12b1
          try clear c12b2
          try clear c13
          try clear c13b0
          try clear c13b1
          try clear c13b2
          try clear c14
          try clear c14b0
          try clear c14b1
          try clear c14b2
          try clear c15
          try clear c15b0
          try clear c15b1
          try clear c15b2
          try clear c16
          try clear c17
          try clear c18
          try clear c18b0
          try clear c19
          try clear c19b0
          try clear p2
          obtain ⟨kq, x49_16, rfl, HA, HJ16, HB⟩ := hcut
          cases kq with
          | zero => exact absurd HA.out (by simp [mooringslaw03_PackSizes.j1])
          | succ kj16 =>
            have H := HA.out
            clear HA
            simp only [mooringslaw03_PackSizes.j1] at H
            by_cases c20 : x49_16 = true
            · subst c20
              have H1 : (some true) = some r := by rw [if_pos rfl] at H; exact H
              clear H
              have H := H1
              clear H1
              obtain rfl := Option.some.inj H
              go_wp2
              go_ret
              exact ⟨by first | rfl | (simp [errW_none, errW_some] <;> rfl) | (simp [*, errW_none, errW_some] <;> rfl), by repeat (first | (with_reducible first | exact HB.out | apply below_alloc | apply pw_below_drewN | apply below_drew1) | exact HB.out)⟩
            · replace c20 := Bool.eq_false_iff.mpr c20
              subst c20
              have H1 : ((pack_Size.f (wrap64 (a0 + a2)) a1).bind fun t224 => (if t224 ≥ t223 then (if a1 = 32 then (if a2 = 8 then ((pack_Size.f (wrap64 (a0 + 8)) a1).bind fun t225 => (if t225 = (wrap64 (t223 + a1)) then (if (wrap64 (8 * t223)) ≥ (wrap64 (a0 * a1)) then (some (decide ((wrap64 (8 * t223)) < (wrap64 ((wrap64 (a0 * a1)) + 8))))) else (some false)) else (some false))) else (if (wrap64 (8 * t223)) ≥ (wrap64 (a0 * a1)) then (some (decide ((wrap64 (8 * t223)) < (wrap64 ((wrap64 (a0 * a1)) + 8))))) else (some false))) else ((pack_Size.f a0 (wrap64 (a1 + 1))).bind fun t226 => (if t226 ≥ t223 then (if a2 = 8 then ((pack_Size.f (wrap64 (a0 + 8)) a1).bind fun t227 => (if t227 = (wrap64 (t223 + a1)) then (if (wrap64 (8 * t223)) ≥ (wrap64 (a0 * a1)) then (some (decide ((wrap64 (8 * t223)) < (wrap64 ((wrap64 (a0 * a1)) + 8))))) else (some false)) else (some false))) else (if (wrap64 (8 * t223)) ≥ (wrap64 (a0 * a1)) then (some (decide ((wrap64 (8 * t223)) < (wrap64 ((wrap64 (a0 * a1)) + 8))))) else (some false))) else (some false)))) else (some false))) = some r := by rw [if_neg (show ¬ (false = true) by decide)] at H; exact H
              clear H
              have H := H1
              clear H1
              replace H := Option.bind_eq_some_iff.mp H
              obtain ⟨t224, A210, H⟩ := H
              replace H : (if t224 ≥ t223 then (if a1 = 32 then (if a2 = 8 then ((pack_Size.f (wrap64 (a0 + 8)) a1).bind fun t225 => (if t225 = (wrap64 (t223 + a1)) then (if (wrap64 (8 * t223)) ≥ (wrap64 (a0 * a1)) then (some (decide ((wrap64 (8 * t223)) < (wrap64 ((wrap64 (a0 * a1)) + 8))))) else (some false)) else (some false))) else (if (wrap64 (8 * t223)) ≥ (wrap64 (a0 * a1)) then (some (decide ((wrap64 (8 * t223)) < (wrap64 ((wrap64 (a0 * a1)) + 8))))) else (some false))) else ((pack_Size.f a0 (wrap64 (a1 + 1))).bind fun t226 => (if t226 ≥ t223 then (if a2 = 8 then ((pack_Size.f (wrap64 (a0 + 8)) a1).bind fun t227 => (if t227 = (wrap64 (t223 + a1)) then (if (wrap64 (8 * t223)) ≥ (wrap64 (a0 * a1)) then (some (decide ((wrap64 (8 * t223)) < (wrap64 ((wrap64 (a0 * a1)) + 8))))) else (some false)) else (some false))) else (if (wrap64 (8 * t223)) ≥ (wrap64 (a0 * a1)) then (some (decide ((wrap64 (8 * t223)) < (wrap64 ((wrap64 (a0 * a1)) + 8))))) else (some false))) else (some false)))) else (some false)) = some r := H
              have A21 := Aside0.mk A210
              clear A210
              by_cases c22 : t224 ≥ t223
              · rw [if_pos c22] at H
                have c22b0 : decide (t223 ≤ t224) = true := decide_eq_true c22
                clear c22
                by_cases c23 : a1 = 32
                · rw [if_pos c23] at H
                  have c23b0 : (a1 == 32) = true := beq_iff_eq.mpr c23
                  have c23b1 : (a1 != 32) = false := bne_eq_false_iff_eq.mpr c23
                  clear c23
                  by_cases c24 : a2 = 8
                  · rw [if_pos c24] at H
                    have c24b0 : (a2 == 8) = true := beq_iff_eq.mpr c24
                    have c24b1 : (a2 != 8) = false := bne_eq_false_iff_eq.mpr c24
                    clear c24
                    replace H := Option.bind_eq_some_iff.mp H
                    obtain ⟨t225, A250, H⟩ := H
                    replace H : (if t225 = (wrap64 (t223 + a1)) then (if (wrap64 (8 * t223)) ≥ (wrap64 (a0 * a1)) then (some (decide ((wrap64 (8 * t223)) < (wrap64 ((wrap64 (a0 * a1)) + 8))))) else (some false)) else (some false)) = some r := H
                    have A25 := Aside0.mk A250
                    clear A250
                    by_cases c26 : t225 = (wrap64 (t223 + a1))
                    · rw [if_pos c26] at H
                      have c26b0 : (t225 == (wrap64 (t223 + a1))) = true := beq_iff_eq.mpr c26
                      have c26b1 : (t225 != (wrap64 (t223 + a1))) = false := bne_eq_false_iff_eq.mpr c26
                      clear c26
                      by_cases c27 : (wrap64 (8 * t223)) ≥ (wrap64 (a0 * a1))
                      · rw [if_pos c27] at H
                        have c27b0 : decide ((wrap64 (a0 * a1)) ≤ (wrap64 (8 * t223))) = true := decide_eq_true c27
                        clear c27
                        obtain rfl := Option.some.inj H
                        go_wp2_with (first | ((with_reducible refine gate_callee (f := 17) rfl ?_); refine goesL_ (some 54) rfl rfl Try.func17 (by kernel_rfl) rfl #[.int .i64 (wrap64 (a0 + a2)), .int .i64 a1] rfl (by (try simp only [List.map_toArray, List.map_cons, List.map_nil]); first | done | rfl | (simp only [List.length_drop, List.length_take]; rfl)) ?_; (with_reducible refine (pack_Size.calls (wrap64 (a0 + a2)) a1 t224 _ A21.out).mono ?_); rintro e w' ⟨rfl, ⟨nd, rfl⟩⟩; refine ⟨_, rfl, ?_⟩) | (go_at_call 17; (with_reducible refine (pack_Size.calls (wrap64 (a0 + 8)) a1 t225 _ A25.out).mono ?_); rintro e w' ⟨rfl, ⟨nd, rfl⟩⟩))
                        go_ret
                        exact ⟨by first | rfl | (simp [errW_none, errW_some] <;> rfl) | (simp [*, errW_none, errW_some] <;> rfl), by repeat (first | (with_reducible first | exact HB.out | apply below_alloc | apply pw_below_drewN | apply below_drew1) | exact HB.out)⟩
                      · rw [if_neg c27] at H
                        have c27b0 : decide ((wrap64 (a0 * a1)) ≤ (wrap64 (8 * t223))) = false := decide_eq_false c27
                        clear c27
                        obtain rfl := Option.some.inj H
                        go_wp2_with (first | ((with_reducible refine gate_callee (f := 17) rfl ?_); refine goesL_ (some 54) rfl rfl Try.func17 (by kernel_rfl) rfl #[.int .i64 (wrap64 (a0 + a2)), .int .i64 a1] rfl (by (try simp only [List.map_toArray, List.map_cons, List.map_nil]); first | done | rfl | (simp only [List.length_drop, List.length_take]; rfl)) ?_; (with_reducible refine (pack_Size.calls (wrap64 (a0 + a2)) a1 t224 _ A21.out).mono ?_); rintro e w' ⟨rfl, ⟨nd, rfl⟩⟩; refine ⟨_, rfl, ?_⟩) | (go_at_call 17; (with_reducible refine (pack_Size.calls (wrap64 (a0 + 8)) a1 t225 _ A25.out).mono ?_); rintro e w' ⟨rfl, ⟨nd, rfl⟩⟩))
                        go_ret
                        exact ⟨by first | rfl | (simp [errW_none, errW_some] <;> rfl) | (simp [*, errW_none, errW_some] <;> rfl), by repeat (first | (with_reducible first | exact HB.out | apply below_alloc | apply pw_below_drewN | apply below_drew1) | exact HB.out)⟩
                    · rw [if_neg c26] at H
                      have c26b0 : (t225 == (wrap64 (t223 + a1))) = false := beq_eq_false_iff_ne.mpr c26
                      have c26b1 : (t225 != (wrap64 (t223 + a1))) = true := bne_iff_ne.mpr c26
                      obtain rfl := Option.some.inj H
                      go_wp2_with (first | ((with_reducible refine gate_callee (f := 17) rfl ?_); refine goesL_ (some 54) rfl rfl Try.func17 (by kernel_rfl) rfl #[.int .i64 (wrap64 (a0 + a2)), .int .i64 a1] rfl (by (try simp only [List.map_toArray, List.map_cons, List.map_nil]); first | done | rfl | (simp only [List.length_drop, List.length_take]; rfl)) ?_; (with_reducible refine (pack_Size.calls (wrap64 (a0 + a2)) a1 t224 _ A21.out).mono ?_); rintro e w' ⟨rfl, ⟨nd, rfl⟩⟩; refine ⟨_, rfl, ?_⟩) | (go_at_call 17; (with_reducible refine (pack_Size.calls (wrap64 (a0 + 8)) a1 t225 _ A25.out).mono ?_); rintro e w' ⟨rfl, ⟨nd, rfl⟩⟩))
                      go_ret
                      exact ⟨by first | rfl | (simp [errW_none, errW_some] <;> rfl) | (simp [*, errW_none, errW_some] <;> rfl), by repeat (first | (with_reducible first | exact HB.out | apply below_alloc | apply pw_below_drewN | apply below_drew1) | exact HB.out)⟩
                  · rw [if_neg c24] at H
                    have c24b0 : (a2 == 8) = false := beq_eq_false_iff_ne.mpr c24
                    have c24b1 : (a2 != 8) = true := bne_iff_ne.mpr c24
                    by_cases c28 : (wrap64 (8 * t223)) ≥ (wrap64 (a0 * a1))
                    · rw [if_pos c28] at H
                      have c28b0 : decide ((wrap64 (a0 * a1)) ≤ (wrap64 (8 * t223))) = true := decide_eq_true c28
                      clear c28
                      obtain rfl := Option.some.inj H
                      go_wp2_with (first | ((with_reducible refine gate_callee (f := 17) rfl ?_); refine goesL_ (some 54) rfl rfl Try.func17 (by kernel_rfl) rfl #[.int .i64 (wrap64 (a0 + a2)), .int .i64 a1] rfl (by (try simp only [List.map_toArray, List.map_cons, List.map_nil]); first | done | rfl | (simp only [List.length_drop, List.length_take]; rfl)) ?_; (with_reducible refine (pack_Size.calls (wrap64 (a0 + a2)) a1 t224 _ A21.out).mono ?_); rintro e w' ⟨rfl, ⟨nd, rfl⟩⟩; refine ⟨_, rfl, ?_⟩))
                      go_ret
                      exact ⟨by first | rfl | (simp [errW_none, errW_some] <;> rfl) | (simp [*, errW_none, errW_some] <;> rfl), by repeat (first | (with_reducible first | exact HB.out | apply below_alloc | apply pw_below_drewN | apply below_drew1) | exact HB.out)⟩
                    · rw [if_neg c28] at H
                      have c28b0 : decide ((wrap64 (a0 * a1)) ≤ (wrap64 (8 * t223))) = false := decide_eq_false c28
                      clear c28
                      obtain rfl := Option.some.inj H
                      go_wp2_with (first | ((with_reducible refine gate_callee (f := 17) rfl ?_); refine goesL_ (some 54) rfl rfl Try.func17 (by kernel_rfl) rfl #[.int .i64 (wrap64 (a0 + a2)), .int .i64 a1] rfl (by (try simp only [List.map_toArray, List.map_cons, List.map_nil]); first | done | rfl | (simp only [List.length_drop, List.length_take]; rfl)) ?_; (with_reducible refine (pack_Size.calls (wrap64 (a0 + a2)) a1 t224 _ A21.out).mono ?_); rintro e w' ⟨rfl, ⟨nd, rfl⟩⟩; refine ⟨_, rfl, ?_⟩))
                      go_ret
                      exact ⟨by first | rfl | (simp [errW_none, errW_some] <;> rfl) | (simp [*, errW_none, errW_some] <;> rfl), by repeat (first | (with_reducible first | exact HB.out | apply below_alloc | apply pw_below_drewN | apply below_drew1) | exact HB.out)⟩
                · rw [if_neg c23] at H
                  have c23b0 : (a1 == 32) = false := beq_eq_false_iff_ne.mpr c23
                  have c23b1 : (a1 != 32) = true := bne_iff_ne.mpr c23
                  replace H := Option.bind_eq_some_iff.mp H
                  obtain ⟨t226, A290, H⟩ := H
                  replace H : (if t226 ≥ t223 then (if a2 = 8 then ((pack_Size.f (wrap64 (a0 + 8)) a1).bind fun t227 => (if t227 = (wrap64 (t223 + a1)) then (if (wrap64 (8 * t223)) ≥ (wrap64 (a0 * a1)) then (some (decide ((wrap64 (8 * t223)) < (wrap64 ((wrap64 (a0 * a1)) + 8))))) else (some false)) else (some false))) else (if (wrap64 (8 * t223)) ≥ (wrap64 (a0 * a1)) then (some (decide ((wrap64 (8 * t223)) < (wrap64 ((wrap64 (a0 * a1)) + 8))))) else (some false))) else (some false)) = some r := H
                  have A29 := Aside0.mk A290
                  clear A290
                  by_cases c30 : t226 ≥ t223
                  · rw [if_pos c30] at H
                    have c30b0 : decide (t223 ≤ t226) = true := decide_eq_true c30
                    clear c30
                    by_cases c31 : a2 = 8
                    · rw [if_pos c31] at H
                      have c31b0 : (a2 == 8) = true := beq_iff_eq.mpr c31
                      have c31b1 : (a2 != 8) = false := bne_eq_false_iff_eq.mpr c31
                      clear c31
                      replace H := Option.bind_eq_some_iff.mp H
                      obtain ⟨t227, A320, H⟩ := H
                      replace H : (if t227 = (wrap64 (t223 + a1)) then (if (wrap64 (8 * t223)) ≥ (wrap64 (a0 * a1)) then (some (decide ((wrap64 (8 * t223)) < (wrap64 ((wrap64 (a0 * a1)) + 8))))) else (some false)) else (some false)) = some r := H
                      have A32 := Aside0.mk A320
                      clear A320
                      by_cases c33 : t227 = (wrap64 (t223 + a1))
                      · rw [if_pos c33] at H
                        have c33b0 : (t227 == (wrap64 (t223 + a1))) = true := beq_iff_eq.mpr c33
                        have c33b1 : (t227 != (wrap64 (t223 + a1))) = false := bne_eq_false_iff_eq.mpr c33
                        clear c33
                        by_cases c34 : (wrap64 (8 * t223)) ≥ (wrap64 (a0 * a1))
                        · rw [if_pos c34] at H
                          have c34b0 : decide ((wrap64 (a0 * a1)) ≤ (wrap64 (8 * t223))) = true := decide_eq_true c34
                          clear c34
                          obtain rfl := Option.some.inj H
                          go_wp2_with (first | ((with_reducible refine gate_callee (f := 17) rfl ?_); refine goesL_ (some 54) rfl rfl Try.func17 (by kernel_rfl) rfl #[.int .i64 (wrap64 (a0 + a2)), .int .i64 a1] rfl (by (try simp only [List.map_toArray, List.map_cons, List.map_nil]); first | done | rfl | (simp only [List.length_drop, List.length_take]; rfl)) ?_; (with_reducible refine (pack_Size.calls (wrap64 (a0 + a2)) a1 t224 _ A21.out).mono ?_); rintro e w' ⟨rfl, ⟨nd, rfl⟩⟩; refine ⟨_, rfl, ?_⟩) | (go_at_call 17; (with_reducible refine (pack_Size.calls a0 (wrap64 (a1 + 1)) t226 _ A29.out).mono ?_); rintro e w' ⟨rfl, ⟨nd, rfl⟩⟩) | (go_at_call 17; (with_reducible refine (pack_Size.calls (wrap64 (a0 + 8)) a1 t227 _ A32.out).mono ?_); rintro e w' ⟨rfl, ⟨nd, rfl⟩⟩))
                          go_ret
                          exact ⟨by first | rfl | (simp [errW_none, errW_some] <;> rfl) | (simp [*, errW_none, errW_some] <;> rfl), by repeat (first | (with_reducible first | exact HB.out | apply below_alloc | apply pw_below_drewN | apply below_drew1) | exact HB.out)⟩
                        · rw [if_neg c34] at H
                          have c34b0 : decide ((wrap64 (a0 * a1)) ≤ (wrap64 (8 * t223))) = false := decide_eq_false c34
                          clear c34
                          obtain rfl := Option.some.inj H
                          go_wp2_with (first | ((with_reducible refine gate_callee (f := 17) rfl ?_); refine goesL_ (some 54) rfl rfl Try.func17 (by kernel_rfl) rfl #[.int .i64 (wrap64 (a0 + a2)), .int .i64 a1] rfl (by (try simp only [List.map_toArray, List.map_cons, List.map_nil]); first | done | rfl | (simp only [List.length_drop, List.length_take]; rfl)) ?_; (with_reducible refine (pack_Size.calls (wrap64 (a0 + a2)) a1 t224 _ A21.out).mono ?_); rintro e w' ⟨rfl, ⟨nd, rfl⟩⟩; refine ⟨_, rfl, ?_⟩) | (go_at_call 17; (with_reducible refine (pack_Size.calls a0 (wrap64 (a1 + 1)) t226 _ A29.out).mono ?_); rintro e w' ⟨rfl, ⟨nd, rfl⟩⟩) | (go_at_call 17; (with_reducible refine (pack_Size.calls (wrap64 (a0 + 8)) a1 t227 _ A32.out).mono ?_); rintro e w' ⟨rfl, ⟨nd, rfl⟩⟩))
                          go_ret
                          exact ⟨by first | rfl | (simp [errW_none, errW_some] <;> rfl) | (simp [*, errW_none, errW_some] <;> rfl), by repeat (first | (with_reducible first | exact HB.out | apply below_alloc | apply pw_below_drewN | apply below_drew1) | exact HB.out)⟩
                      · rw [if_neg c33] at H
                        have c33b0 : (t227 == (wrap64 (t223 + a1))) = false := beq_eq_false_iff_ne.mpr c33
                        have c33b1 : (t227 != (wrap64 (t223 + a1))) = true := bne_iff_ne.mpr c33
                        obtain rfl := Option.some.inj H
                        go_wp2_with (first | ((with_reducible refine gate_callee (f := 17) rfl ?_); refine goesL_ (some 54) rfl rfl Try.func17 (by kernel_rfl) rfl #[.int .i64 (wrap64 (a0 + a2)), .int .i64 a1] rfl (by (try simp only [List.map_toArray, List.map_cons, List.map_nil]); first | done | rfl | (simp only [List.length_drop, List.length_take]; rfl)) ?_; (with_reducible refine (pack_Size.calls (wrap64 (a0 + a2)) a1 t224 _ A21.out).mono ?_); rintro e w' ⟨rfl, ⟨nd, rfl⟩⟩; refine ⟨_, rfl, ?_⟩) | (go_at_call 17; (with_reducible refine (pack_Size.calls a0 (wrap64 (a1 + 1)) t226 _ A29.out).mono ?_); rintro e w' ⟨rfl, ⟨nd, rfl⟩⟩) | (go_at_call 17; (with_reducible refine (pack_Size.calls (wrap64 (a0 + 8)) a1 t227 _ A32.out).mono ?_); rintro e w' ⟨rfl, ⟨nd, rfl⟩⟩))
                        go_ret
                        exact ⟨by first | rfl | (simp [errW_none, errW_some] <;> rfl) | (simp [*, errW_none, errW_some] <;> rfl), by repeat (first | (with_reducible first | exact HB.out | apply below_alloc | apply pw_below_drewN | apply below_drew1) | exact HB.out)⟩
                    · rw [if_neg c31] at H
                      have c31b0 : (a2 == 8) = false := beq_eq_false_iff_ne.mpr c31
                      have c31b1 : (a2 != 8) = true := bne_iff_ne.mpr c31
                      by_cases c35 : (wrap64 (8 * t223)) ≥ (wrap64 (a0 * a1))
                      · rw [if_pos c35] at H
                        have c35b0 : decide ((wrap64 (a0 * a1)) ≤ (wrap64 (8 * t223))) = true := decide_eq_true c35
                        clear c35
                        obtain rfl := Option.some.inj H
                        go_wp2_with (first | ((with_reducible refine gate_callee (f := 17) rfl ?_); refine goesL_ (some 54) rfl rfl Try.func17 (by kernel_rfl) rfl #[.int .i64 (wrap64 (a0 + a2)), .int .i64 a1] rfl (by (try simp only [List.map_toArray, List.map_cons, List.map_nil]); first | done | rfl | (simp only [List.length_drop, List.length_take]; rfl)) ?_; (with_reducible refine (pack_Size.calls (wrap64 (a0 + a2)) a1 t224 _ A21.out).mono ?_); rintro e w' ⟨rfl, ⟨nd, rfl⟩⟩; refine ⟨_, rfl, ?_⟩) | (go_at_call 17; (with_reducible refine (pack_Size.calls a0 (wrap64 (a1 + 1)) t226 _ A29.out).mono ?_); rintro e w' ⟨rfl, ⟨nd, rfl⟩⟩))
                        go_ret
                        exact ⟨by first | rfl | (simp [errW_none, errW_some] <;> rfl) | (simp [*, errW_none, errW_some] <;> rfl), by repeat (first | (with_reducible first | exact HB.out | apply below_alloc | apply pw_below_drewN | apply below_drew1) | exact HB.out)⟩
                      · rw [if_neg c35] at H
                        have c35b0 : decide ((wrap64 (a0 * a1)) ≤ (wrap64 (8 * t223))) = false := decide_eq_false c35
                        clear c35
                        obtain rfl := Option.some.inj H
                        go_wp2_with (first | ((with_reducible refine gate_callee (f := 17) rfl ?_); refine goesL_ (some 54) rfl rfl Try.func17 (by kernel_rfl) rfl #[.int .i64 (wrap64 (a0 + a2)), .int .i64 a1] rfl (by (try simp only [List.map_toArray, List.map_cons, List.map_nil]); first | done | rfl | (simp only [List.length_drop, List.length_take]; rfl)) ?_; (with_reducible refine (pack_Size.calls (wrap64 (a0 + a2)) a1 t224 _ A21.out).mono ?_); rintro e w' ⟨rfl, ⟨nd, rfl⟩⟩; refine ⟨_, rfl, ?_⟩) | (go_at_call 17; (with_reducible refine (pack_Size.calls a0 (wrap64 (a1 + 1)) t226 _ A29.out).mono ?_); rintro e w' ⟨rfl, ⟨nd, rfl⟩⟩))
                        go_ret
                        exact ⟨by first | rfl | (simp [errW_none, errW_some] <;> rfl) | (simp [*, errW_none, errW_some] <;> rfl), by repeat (first | (with_reducible first | exact HB.out | apply below_alloc | apply pw_below_drewN | apply below_drew1) | exact HB.out)⟩
                  · rw [if_neg c30] at H
                    have c30b0 : decide (t223 ≤ t226) = false := decide_eq_false c30
                    clear c30
                    obtain rfl := Option.some.inj H
                    go_wp2_with (first | ((with_reducible refine gate_callee (f := 17) rfl ?_); refine goesL_ (some 54) rfl rfl Try.func17 (by kernel_rfl) rfl #[.int .i64 (wrap64 (a0 + a2)), .int .i64 a1] rfl (by (try simp only [List.map_toArray, List.map_cons, List.map_nil]); first | done | rfl | (simp only [List.length_drop, List.length_take]; rfl)) ?_; (with_reducible refine (pack_Size.calls (wrap64 (a0 + a2)) a1 t224 _ A21.out).mono ?_); rintro e w' ⟨rfl, ⟨nd, rfl⟩⟩; refine ⟨_, rfl, ?_⟩) | (go_at_call 17; (with_reducible refine (pack_Size.calls a0 (wrap64 (a1 + 1)) t226 _ A29.out).mono ?_); rintro e w' ⟨rfl, ⟨nd, rfl⟩⟩))
                    go_ret
                    exact ⟨by first | rfl | (simp [errW_none, errW_some] <;> rfl) | (simp [*, errW_none, errW_some] <;> rfl), by repeat (first | (with_reducible first | exact HB.out | apply below_alloc | apply pw_below_drewN | apply below_drew1) | exact HB.out)⟩
              · rw [if_neg c22] at H
                have c22b0 : decide (t223 ≤ t224) = false := decide_eq_false c22
                clear c22
                obtain rfl := Option.some.inj H
                go_wp2_with (first | ((with_reducible refine gate_callee (f := 17) rfl ?_); refine goesL_ (some 54) rfl rfl Try.func17 (by kernel_rfl) rfl #[.int .i64 (wrap64 (a0 + a2)), .int .i64 a1] rfl (by (try simp only [List.map_toArray, List.map_cons, List.map_nil]); first | done | rfl | (simp only [List.length_drop, List.length_take]; rfl)) ?_; (with_reducible refine (pack_Size.calls (wrap64 (a0 + a2)) a1 t224 _ A21.out).mono ?_); rintro e w' ⟨rfl, ⟨nd, rfl⟩⟩; refine ⟨_, rfl, ?_⟩))
                go_ret
                exact ⟨by first | rfl | (simp [errW_none, errW_some] <;> rfl) | (simp [*, errW_none, errW_some] <;> rfl), by repeat (first | (with_reducible first | exact HB.out | apply below_alloc | apply pw_below_drewN | apply below_drew1) | exact HB.out)⟩

/-- THE ONE PURE STATEMENT of mooringslaw03_PackSizes: yours. -/
def mooringslaw03_PackSizes.Pure : Prop := ∀ (a0 : Int) (a1 : Int) (a2 : Int), (Lit.int .i64 a0).wf = true → (Lit.int .i64 a1).wf = true → (Lit.int .i64 a2).wf = true → ∃ k, mooringslaw03_PackSizes.f k a0 a1 a2 = some true
theorem mooringslaw03_PackSizes.walk (P : mooringslaw03_PackSizes.Pure) (a0 : Int) (a1 : Int) (a2 : Int) (w : World) (w0 : (Lit.int .i64 a0).wf = true) (w1 : (Lit.int .i64 a1).wf = true) (w2 : (Lit.int .i64 a2).wf = true) :
    Calls Try.prog 7 #[.int .i64 a0, .int .i64 a1, .int .i64 a2] w fun e w' => e = .returned (.bool true) ∧ Below w.heap.size w w' := by
  obtain ⟨k, h⟩ := P a0 a1 a2 w0 w1 w2
  refine (mooringslaw03_PackSizes.calls k a0 a1 a2 true w h).mono ?_
  rintro e w' ⟨rfl, hd⟩
  exact ⟨rfl, hd⟩

end Go.Proofs.Ytikmbpkakpbjlaa.P
