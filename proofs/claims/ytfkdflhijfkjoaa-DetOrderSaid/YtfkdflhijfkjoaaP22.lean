-- Laid by this session's own program (wip/myprint.py): Lean functions for the Go functions that a law reaches, and their contracts. Not trusted: Lean checks it.
import Derived.Test.YtfkdflhijfkjoaaP0
import Derived.Test.YtfkdflhijfkjoaaP3
import Derived.Test.YtfkdflhijfkjoaaP4
import Derived.Test.YtfkdflhijfkjoaaP5
import Derived.Test.YtfkdflhijfkjoaaP9
namespace Go.Proofs.Ytfkdflhijfkjoaa.P
open Go.RowKit Go.Proofs.YtfkdflhijfkjoaaW.PrintWords Go.Proofs.YtfkdflhijfkjoaaW.PrintLast Go.Proofs.YtfkdflhijfkjoaaW.PrintMore
attribute [local go_sem] max2_int min2_int max_two min_two max_three min_three max_four min_four   -- for this text's walks alone
set_option linter.unusedVariables false
set_option linter.unusedSimpArgs false

/-! ### mooringslaw08_DetOrder: function 8 -/
mutual
def mooringslaw08_DetOrder.j0 : Nat → Int → Bool → Bool → Int → Int → Int → Int → Int → Int → Int → Int → Option (Bool)
  | 0, _, _, _, _, _, _, _, _, _, _, _ => none
  | k + 1, x1, x5, x20, x299000, x299001, x299002, x299003, x299004, x299005, x299006, x299007 => if x20 = true then (some x5) else ((detmap_Base.f k x299000 x299001 x299002 x299003 x299004 x299005 x299006 x299007 x1).bind fun bt300 => ((detmap_Base.f k x299000 x299001 x299002 x299003 x299004 x299005 x299006 x299007 (wrap64 (x1 + 1))).bind fun bt305 => (if bt300.2.2.2 = true then (mooringslaw08_DetOrder.j1 k x1 bt300.2.2.2 bt305.2.2.2 (!bt305.2.2.2) x299000 x299001 x299002 x299003 x299004 x299005 x299006 x299007 bt300.1 bt300.2.1 bt300.2.2.1 bt305.1 bt305.2.1 bt305.2.2.1) else (mooringslaw08_DetOrder.j1 k x1 bt300.2.2.2 bt305.2.2.2 true x299000 x299001 x299002 x299003 x299004 x299005 x299006 x299007 bt300.1 bt300.2.1 bt300.2.2.1 bt305.1 bt305.2.1 bt305.2.2.1))))
def mooringslaw08_DetOrder.j1 : Nat → Int → Bool → Bool → Bool → Int → Int → Int → Int → Int → Int → Int → Int → Int → Int → Int → Int → Int → Int → Option (Bool)
  | 0, _, _, _, _, _, _, _, _, _, _, _, _, _, _, _, _, _, _ => none
  | k + 1, x1, x7, x9, x40, x299000, x299001, x299002, x299003, x299004, x299005, x299006, x299007, x305000, x305001, x305002, x310000, x310001, x310002 => if x40 = true then (if x9 = true then (some x7) else (some true)) else (if x310000 = x305000 then (some (x310001 == (wrap64 (x305002 + 1)))) else (if x310000 = (wrap64 (x305000 + 1)) then (if x310001 = x299004 then ((detmap_Ratio.f x299000 x299001 x299002 x299003 x299004 x299005 x299006 x299007).bind fun t310 => (if t310 = 0 then (none) else (some ((Int.tmod (wrap64 (x1 + 1)) t310) == 0)))) else (some false)) else (some false)))
end
def mooringslaw08_DetOrder.f (k : Nat) (a0_0 : Int) (a0_1 : Int) (a0_2 : Int) (a0_3 : Int) (a0_4 : Int) (a0_5 : Int) (a0_6 : Int) (a0_7 : Int) (a1 : Int) : Option (Bool) := (mooringslaw08_awake.f).bind fun t299 => (if t299 = true then (if a1 < 0 then (mooringslaw08_DetOrder.j0 k a1 t299 true a0_0 a0_1 a0_2 a0_3 a0_4 a0_5 a0_6 a0_7) else (mooringslaw08_DetOrder.j0 k a1 t299 (decide (a1 > 40)) a0_0 a0_1 a0_2 a0_3 a0_4 a0_5 a0_6 a0_7)) else (mooringslaw08_DetOrder.j0 k a1 t299 true a0_0 a0_1 a0_2 a0_3 a0_4 a0_5 a0_6 a0_7))
theorem mooringslaw08_DetOrder.mono_l : ∀ k, (∀ y0 y1 y2 y3 y4 y5 y6 y7 y8 y9 y10, LeO (mooringslaw08_DetOrder.j0 k y0 y1 y2 y3 y4 y5 y6 y7 y8 y9 y10) (mooringslaw08_DetOrder.j0 (k + 1) y0 y1 y2 y3 y4 y5 y6 y7 y8 y9 y10)) ∧ (∀ y0 y1 y2 y3 y4 y5 y6 y7 y8 y9 y10 y11 y12 y13 y14 y15 y16 y17, LeO (mooringslaw08_DetOrder.j1 k y0 y1 y2 y3 y4 y5 y6 y7 y8 y9 y10 y11 y12 y13 y14 y15 y16 y17) (mooringslaw08_DetOrder.j1 (k + 1) y0 y1 y2 y3 y4 y5 y6 y7 y8 y9 y10 y11 y12 y13 y14 y15 y16 y17))
  | 0 => ⟨fun _ _ _ _ _ _ _ _ _ _ _ r h => by simp [mooringslaw08_DetOrder.j0] at h, fun _ _ _ _ _ _ _ _ _ _ _ _ _ _ _ _ _ _ r h => by simp [mooringslaw08_DetOrder.j1] at h⟩
  | k + 1 => by
    obtain ⟨ih0, ih1⟩ := mooringslaw08_DetOrder.mono_l k
    refine ⟨?_, ?_⟩
    · intro y0 y1 y2 y3 y4 y5 y6 y7 y8 y9 y10
      unfold mooringslaw08_DetOrder.j0
      repeat' first
      | (with_reducible exact ih0 _ _ _ _ _ _ _ _ _ _ _)
      | (with_reducible exact ih1 _ _ _ _ _ _ _ _ _ _ _ _ _ _ _ _ _ _)
      | (with_reducible exact detmap_Base.mono _ _ _ _ _ _ _ _ _ _)
      | (with_reducible exact LeO.refl _)
      | (with_reducible exact LeO.none _)
      | (with_reducible refine LeO.ite ?_ ?_)
      | (with_reducible refine LeO.bind ?_ (fun _ => ?_))
      | exact ih0 _ _ _ _ _ _ _ _ _ _ _
      | exact ih1 _ _ _ _ _ _ _ _ _ _ _ _ _ _ _ _ _ _
      | exact detmap_Base.mono _ _ _ _ _ _ _ _ _ _
      | exact LeO.none _
      | refine LeO.ite ?_ ?_
      | refine LeO.bind ?_ (fun _ => ?_)
    · intro y0 y1 y2 y3 y4 y5 y6 y7 y8 y9 y10 y11 y12 y13 y14 y15 y16 y17
      unfold mooringslaw08_DetOrder.j1
      repeat' first
      | (with_reducible exact ih0 _ _ _ _ _ _ _ _ _ _ _)
      | (with_reducible exact ih1 _ _ _ _ _ _ _ _ _ _ _ _ _ _ _ _ _ _)
      | (with_reducible exact detmap_Base.mono _ _ _ _ _ _ _ _ _ _)
      | (with_reducible exact LeO.refl _)
      | (with_reducible exact LeO.none _)
      | (with_reducible refine LeO.ite ?_ ?_)
      | (with_reducible refine LeO.bind ?_ (fun _ => ?_))
      | exact ih0 _ _ _ _ _ _ _ _ _ _ _
      | exact ih1 _ _ _ _ _ _ _ _ _ _ _ _ _ _ _ _ _ _
      | exact detmap_Base.mono _ _ _ _ _ _ _ _ _ _
      | exact LeO.none _
      | refine LeO.ite ?_ ?_
      | refine LeO.bind ?_ (fun _ => ?_)
theorem mooringslaw08_DetOrder.mono : ∀ a0 a1 a2 a3 a4 a5 a6 a7 a8 k, LeO (mooringslaw08_DetOrder.f k a0 a1 a2 a3 a4 a5 a6 a7 a8) (mooringslaw08_DetOrder.f (k + 1) a0 a1 a2 a3 a4 a5 a6 a7 a8) := by
  intro a0 a1 a2 a3 a4 a5 a6 a7 a8 k
  obtain ⟨ih0, ih1⟩ := mooringslaw08_DetOrder.mono_l k
  unfold mooringslaw08_DetOrder.f
  repeat' first
      | (with_reducible exact ih0 _ _ _ _ _ _ _ _ _ _ _)
      | (with_reducible exact ih1 _ _ _ _ _ _ _ _ _ _ _ _ _ _ _ _ _ _)
      | (with_reducible exact detmap_Base.mono _ _ _ _ _ _ _ _ _ _)
      | (with_reducible exact LeO.refl _)
      | (with_reducible exact LeO.none _)
      | (with_reducible refine LeO.ite ?_ ?_)
      | (with_reducible refine LeO.bind ?_ (fun _ => ?_))
      | exact ih0 _ _ _ _ _ _ _ _ _ _ _
      | exact ih1 _ _ _ _ _ _ _ _ _ _ _ _ _ _ _ _ _ _
      | exact detmap_Base.mono _ _ _ _ _ _ _ _ _ _
      | exact LeO.none _
      | refine LeO.ite ?_ ?_
      | refine LeO.bind ?_ (fun _ => ?_)
set_option maxHeartbeats 8000000 in
set_option maxRecDepth 100000 in
theorem mooringslaw08_DetOrder.calls (k : Nat) (a0_0 : Int) (a0_1 : Int) (a0_2 : Int) (a0_3 : Int) (a0_4 : Int) (a0_5 : Int) (a0_6 : Int) (a0_7 : Int) (a1 : Int) (r : Bool) (w : World) (h : mooringslaw08_DetOrder.f k a0_0 a0_1 a0_2 a0_3 a0_4 a0_5 a0_6 a0_7 a1 = some r) :
    Calls Try.prog 8 #[.agg #[.int .i64 a0_0, .int .i64 a0_1, .int .i64 a0_2, .int .i64 a0_3, .int .i64 a0_4, .int .i64 a0_5, .int .i64 a0_6, .int .i64 a0_7], .int .i64 a1] w fun e w' => e = .returned (.bool r) ∧ Below w.heap.size w w' := by
  have hu25 := Try.underlying25
  have hu28 := Try.underlying28
  have HB := Aside0.mk (Below.refl w.heap.size w)
  have H : ((mooringslaw08_awake.f).bind fun t299 => (if t299 = true then (if a1 < 0 then (mooringslaw08_DetOrder.j0 k a1 t299 true a0_0 a0_1 a0_2 a0_3 a0_4 a0_5 a0_6 a0_7) else (mooringslaw08_DetOrder.j0 k a1 t299 (decide (a1 > 40)) a0_0 a0_1 a0_2 a0_3 a0_4 a0_5 a0_6 a0_7)) else (mooringslaw08_DetOrder.j0 k a1 t299 true a0_0 a0_1 a0_2 a0_3 a0_4 a0_5 a0_6 a0_7))) = some r := h
  clear h
  replace H := Option.bind_eq_some_iff.mp H
  obtain ⟨t299, A30, H⟩ := H
  replace H : (if t299 = true then (if a1 < 0 then (mooringslaw08_DetOrder.j0 k a1 t299 true a0_0 a0_1 a0_2 a0_3 a0_4 a0_5 a0_6 a0_7) else (mooringslaw08_DetOrder.j0 k a1 t299 (decide (a1 > 40)) a0_0 a0_1 a0_2 a0_3 a0_4 a0_5 a0_6 a0_7)) else (mooringslaw08_DetOrder.j0 k a1 t299 true a0_0 a0_1 a0_2 a0_3 a0_4 a0_5 a0_6 a0_7)) = some r := H
  have A3 := Aside0.mk A30
  clear A30
  have HC4 := Aside0.mk H
  clear H
  go_enter Try.func8, Try.ntmps8
  go_upto_region 2 with (first | ((with_reducible refine gate_dst (N := 2) rfl ?_); refine box_event ?hg (N := 2) ?hd (cs := #[.int .i64 a0_0, .int .i64 a0_1, .int .i64 a0_2, .int .i64 a0_3, .int .i64 a0_4, .int .i64 a0_5, .int .i64 a0_6, .int .i64 a0_7]) (t := 25) ?hr ?_; (case hd => rfl); (case hg => rfl); (case hr => first | (go_simp; done) | (go_simp; rfl)); intro gb298 hg w5 hbox hb; have n0_ := Aside0.mk (below_step (by repeat (first | (with_reducible first | exact HB.out | apply below_alloc | apply pw_below_drewN | apply below_drew1) | exact HB.out)) hb); have n1_ := Aside0.mk (hbox); have n2_ := Aside0.mk ((by rw [hg]; exact (below_size (by repeat (first | (with_reducible first | exact HB.out | apply below_alloc | apply pw_below_drewN | apply below_drew1) | exact HB.out))) : w.heap.size ≤ gb298)); have n3_ := Aside0.mk ((by rw [hg]; exact (below_size (by repeat (first | (with_reducible first | exact HB.out | apply below_alloc | apply pw_below_drewN | apply below_drew1) | exact HB.out))) : w.heap.size ≤ gb298)); clear HB; have HB := n0_; have BK298 := n1_; have GW298 := n2_; have GE298 := n3_; clear n0_ n1_ n2_ n3_; clear hb hbox hg) | ((with_reducible refine gate_callee (f := 10) rfl ?_); refine goesL_ (some 10) rfl rfl Try.func10 (by kernel_rfl) rfl #[] rfl (by (try simp only [List.map_toArray, List.map_cons, List.map_nil]); first | done | rfl | (simp only [List.length_drop, List.length_take]; rfl)) ?_; (with_reducible refine (mooringslaw08_awake.calls  t299 _ A3.out).mono ?_); rintro e w6 ⟨rfl, hb⟩; refine ⟨_, rfl, ?_⟩; have n0_ := Aside0.mk (blk_below (g := gb298) (o := .cells #[.int .i64 a0_0, .int .i64 a0_1, .int .i64 a0_2, .int .i64 a0_3, .int .i64 a0_4, .int .i64 a0_5, .int .i64 a0_6, .int .i64 a0_7] 25 (0, 0)) (by (with_reducible repeat (first | refine blk_drewN ?_ _ | refine blk_drew ?_ | refine blk_alloc ?_ _)); exact BK298.out) hb); have n1_ := Aside0.mk (below_step (by repeat (first | (with_reducible first | exact HB.out | apply below_alloc | apply pw_below_drewN | apply below_drew1 | refine below_set ?_ GE298.out) | exact HB.out)) hb); clear BK298; clear HB; have BK298 := n0_; have HB := n1_; clear n0_ n1_; (try clear hb); (try clear hb2); (try clear hk); (try clear hi)))
  (try simp only [Act.put, List.setIfInBounds_toArray, List.set_cons_zero, List.set_cons_succ])
  go_cut [20] (fun v20 wc => ∃ (kq : Nat) (x20_3 : Bool), v20 = .bool x20_3 ∧ Aside0 (mooringslaw08_DetOrder.j0 kq a1 t299 x20_3 a0_0 a0_1 a0_2 a0_3 a0_4 a0_5 a0_6 a0_7 = some r) ∧ Aside0 (kq ≤ k) ∧ Aside0 (wc.heap[gb298]? = some (.cells #[.int .i64 a0_0, .int .i64 a0_1, .int .i64 a0_2, .int .i64 a0_3, .int .i64 a0_4, .int .i64 a0_5, .int .i64 a0_6, .int .i64 a0_7] 25 (0, 0))) ∧ Aside0 (Below w.heap.size w wc))
  case first =>
    have H := HC4.out
    clear HC4
    by_cases c7 : t299 = true
    · subst c7
      have H1 : (if a1 < 0 then (mooringslaw08_DetOrder.j0 k a1 true true a0_0 a0_1 a0_2 a0_3 a0_4 a0_5 a0_6 a0_7) else (mooringslaw08_DetOrder.j0 k a1 true (decide (a1 > 40)) a0_0 a0_1 a0_2 a0_3 a0_4 a0_5 a0_6 a0_7)) = some r := by rw [if_pos rfl] at H; exact H
      clear H
      have H := H1
      clear H1
      by_cases c8 : a1 < 0
      · rw [if_pos c8] at H
        have c8b0 : decide (a1 < 0) = true := decide_eq_true c8
        clear c8
        (first | rw [c8b0] | (simp only [i64_w, i32_w]; rw [c8b0]) | skip)
        have H' := Aside0.mk H
        clear H
        go_wp2
        go_meet
        case rel => exact ⟨_, (true), (by first | rfl | (simp; done) | (simp [*]; done)), H', ⟨by first | omega | exact Nat.le_refl _⟩, ⟨by (with_reducible repeat (first | refine blk_drewN ?_ _ | refine blk_drew ?_ | refine blk_alloc ?_ _)); exact BK298.out⟩, ⟨by repeat (first | (with_reducible first | exact HB.out | apply below_alloc | apply pw_below_drewN | apply below_drew1 | refine below_set ?_ GE298.out) | exact HB.out)⟩⟩
      · rw [if_neg c8] at H
        have c8b0 : decide (a1 < 0) = false := decide_eq_false c8
        clear c8
        (first | rw [c8b0] | (simp only [i64_w, i32_w]; rw [c8b0]) | skip)
        have H' := Aside0.mk H
        clear H
        go_wp2
        go_meet
        case rel => exact ⟨_, (decide (a1 > 40)), (by first | rfl | (simp; done) | (simp [*]; done)), H', ⟨by first | omega | exact Nat.le_refl _⟩, ⟨by (with_reducible repeat (first | refine blk_drewN ?_ _ | refine blk_drew ?_ | refine blk_alloc ?_ _)); exact BK298.out⟩, ⟨by repeat (first | (with_reducible first | exact HB.out | apply below_alloc | apply pw_below_drewN | apply below_drew1 | refine below_set ?_ GE298.out) | exact HB.out)⟩⟩
    · replace c7 := Bool.eq_false_iff.mpr c7
      subst c7
      have H1 : (mooringslaw08_DetOrder.j0 k a1 false true a0_0 a0_1 a0_2 a0_3 a0_4 a0_5 a0_6 a0_7) = some r := by rw [if_neg (show ¬ (false = true) by decide)] at H; exact H
      clear H
      have H := H1
      clear H1
      have H' := Aside0.mk H
      clear H
      go_wp2
      go_meet
      case rel => exact ⟨_, (true), (by first | rfl | (simp; done) | (simp [*]; done)), H', ⟨by first | omega | exact Nat.le_refl _⟩, ⟨by (with_reducible repeat (first | refine blk_drewN ?_ _ | refine blk_drew ?_ | refine blk_alloc ?_ _)); exact BK298.out⟩, ⟨by repeat (first | (with_reducible first | exact HB.out | apply below_alloc | apply pw_below_drewN | apply below_drew1 | refine below_set ?_ GE298.out) | exact HB.out)⟩⟩
  case rest =>
    clear HC4
    try clear c1
    try clear p2
    try clear c7
    try clear c8
    try clear c8b0
    obtain ⟨kq, x20_3, rfl, HA, HJ3, BK298, HB⟩ := hcut
    cases kq with
    | zero => exact absurd HA.out (by simp [mooringslaw08_DetOrder.j0])
    | succ kj3 =>
      have H := HA.out
      clear HA
      simp only [mooringslaw08_DetOrder.j0] at H
      by_cases c9 : x20_3 = true
      · subst c9
        have H1 : (some t299) = some r := by rw [if_pos rfl] at H; exact H
        clear H
        have H := H1
        clear H1
        obtain rfl := Option.some.inj H
        go_wp2
        go_ret
        exact ⟨by first | rfl | (simp [errW_none, errW_some] <;> rfl) | (simp [*, errW_none, errW_some] <;> rfl), by repeat (first | (with_reducible first | exact HB.out | apply below_alloc | apply pw_below_drewN | apply below_drew1 | refine below_set ?_ GE298.out) | exact HB.out)⟩
      · replace c9 := Bool.eq_false_iff.mpr c9
        subst c9
        have H1 : ((detmap_Base.f kj3 a0_0 a0_1 a0_2 a0_3 a0_4 a0_5 a0_6 a0_7 a1).bind fun bt300 => ((detmap_Base.f kj3 a0_0 a0_1 a0_2 a0_3 a0_4 a0_5 a0_6 a0_7 (wrap64 (a1 + 1))).bind fun bt305 => (if bt300.2.2.2 = true then (mooringslaw08_DetOrder.j1 kj3 a1 bt300.2.2.2 bt305.2.2.2 (!bt305.2.2.2) a0_0 a0_1 a0_2 a0_3 a0_4 a0_5 a0_6 a0_7 bt300.1 bt300.2.1 bt300.2.2.1 bt305.1 bt305.2.1 bt305.2.2.1) else (mooringslaw08_DetOrder.j1 kj3 a1 bt300.2.2.2 bt305.2.2.2 true a0_0 a0_1 a0_2 a0_3 a0_4 a0_5 a0_6 a0_7 bt300.1 bt300.2.1 bt300.2.2.1 bt305.1 bt305.2.1 bt305.2.2.1)))) = some r := by rw [if_neg (show ¬ (false = true) by decide)] at H; exact H
        clear H
        have H := H1
        clear H1
        replace H := Option.bind_eq_some_iff.mp H
        obtain ⟨⟨t300, t301, t302, t303⟩, A100, H⟩ := H
        replace H : ((detmap_Base.f kj3 a0_0 a0_1 a0_2 a0_3 a0_4 a0_5 a0_6 a0_7 (wrap64 (a1 + 1))).bind fun bt305 => (if t303 = true then (mooringslaw08_DetOrder.j1 kj3 a1 t303 bt305.2.2.2 (!bt305.2.2.2) a0_0 a0_1 a0_2 a0_3 a0_4 a0_5 a0_6 a0_7 t300 t301 t302 bt305.1 bt305.2.1 bt305.2.2.1) else (mooringslaw08_DetOrder.j1 kj3 a1 t303 bt305.2.2.2 true a0_0 a0_1 a0_2 a0_3 a0_4 a0_5 a0_6 a0_7 t300 t301 t302 bt305.1 bt305.2.1 bt305.2.2.1))) = some r := H
        have A10 := Aside0.mk A100
        clear A100
        replace H := Option.bind_eq_some_iff.mp H
        obtain ⟨⟨t305, t306, t307, t308⟩, A110, H⟩ := H
        replace H : (if t303 = true then (mooringslaw08_DetOrder.j1 kj3 a1 t303 t308 (!t308) a0_0 a0_1 a0_2 a0_3 a0_4 a0_5 a0_6 a0_7 t300 t301 t302 t305 t306 t307) else (mooringslaw08_DetOrder.j1 kj3 a1 t303 t308 true a0_0 a0_1 a0_2 a0_3 a0_4 a0_5 a0_6 a0_7 t300 t301 t302 t305 t306 t307)) = some r := H
        have A11 := Aside0.mk A110
        clear A110
        have HC12 := Aside0.mk H
        clear H
        have hcz13_0 : wc.cell? ⟨gb298, 0, none⟩ = some (.int .i64 a0_0) := (blk_cell BK298.out 0).trans rfl
        have hcz13_1 : wc.cell? ⟨gb298, 1, none⟩ = some (.int .i64 a0_1) := (blk_cell BK298.out 1).trans rfl
        have hcz13_2 : wc.cell? ⟨gb298, 2, none⟩ = some (.int .i64 a0_2) := (blk_cell BK298.out 2).trans rfl
        have hcz13_3 : wc.cell? ⟨gb298, 3, none⟩ = some (.int .i64 a0_3) := (blk_cell BK298.out 3).trans rfl
        have hcz13_4 : wc.cell? ⟨gb298, 4, none⟩ = some (.int .i64 a0_4) := (blk_cell BK298.out 4).trans rfl
        have hcz13_5 : wc.cell? ⟨gb298, 5, none⟩ = some (.int .i64 a0_5) := (blk_cell BK298.out 5).trans rfl
        have hcz13_6 : wc.cell? ⟨gb298, 6, none⟩ = some (.int .i64 a0_6) := (blk_cell BK298.out 6).trans rfl
        have hcz13_7 : wc.cell? ⟨gb298, 7, none⟩ = some (.int .i64 a0_7) := (blk_cell BK298.out 7).trans rfl
        have hfz13_0 := blk_frozen BK298.out 0
        have hfz13_1 := blk_frozen BK298.out 1
        have hfz13_2 := blk_frozen BK298.out 2
        have hfz13_3 := blk_frozen BK298.out 3
        have hfz13_4 := blk_frozen BK298.out 4
        have hfz13_5 := blk_frozen BK298.out 5
        have hfz13_6 := blk_frozen BK298.out 6
        have hfz13_7 := blk_frozen BK298.out 7
        go_upto_region 6 with (first | ((with_reducible refine gate_callee (f := 11) rfl ?_); refine goesL_ (some 25) rfl rfl Try.func11 (by kernel_rfl) rfl #[.agg #[.int .i64 a0_0, .int .i64 a0_1, .int .i64 a0_2, .int .i64 a0_3, .int .i64 a0_4, .int .i64 a0_5, .int .i64 a0_6, .int .i64 a0_7], .int .i64 a1] rfl (by (try simp only [List.map_toArray, List.map_cons, List.map_nil]); first | done | rfl | (simp only [List.length_drop, List.length_take]; rfl)) ?_; (with_reducible refine (detmap_Base.calls kj3 a0_0 a0_1 a0_2 a0_3 a0_4 a0_5 a0_6 a0_7 a1 t300 t301 t302 t303 _ A10.out).mono ?_); rintro e w14 ⟨rfl, hb⟩; refine ⟨_, rfl, ?_⟩; have n0_ := Aside0.mk (blk_below (g := gb298) (o := .cells #[.int .i64 a0_0, .int .i64 a0_1, .int .i64 a0_2, .int .i64 a0_3, .int .i64 a0_4, .int .i64 a0_5, .int .i64 a0_6, .int .i64 a0_7] 25 (0, 0)) (by (with_reducible repeat (first | refine blk_drewN ?_ _ | refine blk_drew ?_ | refine blk_alloc ?_ _)); exact BK298.out) hb); have n1_ := Aside0.mk (below_step (by repeat (first | (with_reducible first | exact HB.out | apply below_alloc | apply pw_below_drewN | apply below_drew1 | refine below_set ?_ GE298.out) | exact HB.out)) hb); clear BK298; clear HB; have BK298 := n0_; have HB := n1_; clear n0_ n1_; (try clear hb); (try clear hb2); (try clear hk); (try clear hi)) | ((with_reducible refine gate_dst (N := 6) rfl ?_); refine box_event ?hg (N := 6) ?hd (cs := #[.int .i64 0, .int .i64 0, .int .i64 0]) (t := 28) ?hr ?_; (case hd => rfl); (case hg => rfl); (case hr => first | (go_simp; done) | (go_simp; rfl)); intro gb304 hg w15 hbox hb; have n0_ := Aside0.mk (blk_below (g := gb298) (o := .cells #[.int .i64 a0_0, .int .i64 a0_1, .int .i64 a0_2, .int .i64 a0_3, .int .i64 a0_4, .int .i64 a0_5, .int .i64 a0_6, .int .i64 a0_7] 25 (0, 0)) (by (with_reducible repeat (first | refine blk_drewN ?_ _ | refine blk_drew ?_ | refine blk_alloc ?_ _)); exact BK298.out) hb); have n1_ := Aside0.mk (below_step (by repeat (first | (with_reducible first | exact HB.out | apply below_alloc | apply pw_below_drewN | apply below_drew1 | refine below_set ?_ GE298.out) | exact HB.out)) hb); have n2_ := Aside0.mk (hbox); have n3_ := Aside0.mk ((by rw [hg]; exact (below_size (by repeat (first | (with_reducible first | exact HB.out | apply below_alloc | apply pw_below_drewN | apply below_drew1 | refine below_set ?_ GE298.out) | exact HB.out))) : w.heap.size ≤ gb304)); have n4_ := Aside0.mk ((by rw [hg]; exact (below_size (by repeat (first | (with_reducible first | exact HB.out | apply below_alloc | apply pw_below_drewN | apply below_drew1 | refine below_set ?_ GE298.out) | exact HB.out))) : w.heap.size ≤ gb304)); have n5_ := Aside0.mk ((by rw [hg]; exact Nat.ne_of_lt (blk_lt (g := gb298) (o := .cells #[.int .i64 a0_0, .int .i64 a0_1, .int .i64 a0_2, .int .i64 a0_3, .int .i64 a0_4, .int .i64 a0_5, .int .i64 a0_6, .int .i64 a0_7] 25 (0, 0)) (by (with_reducible repeat (first | refine blk_drewN ?_ _ | refine blk_drew ?_ | refine blk_alloc ?_ _)); exact BK298.out)) : gb298 ≠ gb304)); have n6_ := Aside0.mk ((by rw [hg]; exact Nat.ne_of_gt (blk_lt (g := gb298) (o := .cells #[.int .i64 a0_0, .int .i64 a0_1, .int .i64 a0_2, .int .i64 a0_3, .int .i64 a0_4, .int .i64 a0_5, .int .i64 a0_6, .int .i64 a0_7] 25 (0, 0)) (by (with_reducible repeat (first | refine blk_drewN ?_ _ | refine blk_drew ?_ | refine blk_alloc ?_ _)); exact BK298.out)) : gb304 ≠ gb298)); clear BK298; clear HB; have BK298 := n0_; have HB := n1_; have BK304 := n2_; have GW304 := n3_; have GE304 := n4_; have NB298_304 := n5_; have NB304_298 := n6_; clear n0_ n1_ n2_ n3_ n4_ n5_ n6_; clear hb hbox hg; have hnb16 := NB304_298.out; have hnc16 := NB298_304.out; have hcz17_0 : w15.cell? ⟨gb304, 0, none⟩ = some (.int .i64 0) := (blk_cell BK304.out 0).trans rfl; have hcz17_1 : w15.cell? ⟨gb304, 1, none⟩ = some (.int .i64 0) := (blk_cell BK304.out 1).trans rfl; have hcz17_2 : w15.cell? ⟨gb304, 2, none⟩ = some (.int .i64 0) := (blk_cell BK304.out 2).trans rfl; have hfz17_0 := blk_frozen BK304.out 0; have hfz17_1 := blk_frozen BK304.out 1; have hfz17_2 := blk_frozen BK304.out 2; have hcz18_0 : w15.cell? ⟨gb298, 0, none⟩ = some (.int .i64 a0_0) := (blk_cell BK298.out 0).trans rfl; have hcz18_1 : w15.cell? ⟨gb298, 1, none⟩ = some (.int .i64 a0_1) := (blk_cell BK298.out 1).trans rfl; have hcz18_2 : w15.cell? ⟨gb298, 2, none⟩ = some (.int .i64 a0_2) := (blk_cell BK298.out 2).trans rfl; have hcz18_3 : w15.cell? ⟨gb298, 3, none⟩ = some (.int .i64 a0_3) := (blk_cell BK298.out 3).trans rfl; have hcz18_4 : w15.cell? ⟨gb298, 4, none⟩ = some (.int .i64 a0_4) := (blk_cell BK298.out 4).trans rfl; have hcz18_5 : w15.cell? ⟨gb298, 5, none⟩ = some (.int .i64 a0_5) := (blk_cell BK298.out 5).trans rfl; have hcz18_6 : w15.cell? ⟨gb298, 6, none⟩ = some (.int .i64 a0_6) := (blk_cell BK298.out 6).trans rfl; have hcz18_7 : w15.cell? ⟨gb298, 7, none⟩ = some (.int .i64 a0_7) := (blk_cell BK298.out 7).trans rfl; have hfz18_0 := blk_frozen BK298.out 0; have hfz18_1 := blk_frozen BK298.out 1; have hfz18_2 := blk_frozen BK298.out 2; have hfz18_3 := blk_frozen BK298.out 3; have hfz18_4 := blk_frozen BK298.out 4; have hfz18_5 := blk_frozen BK298.out 5; have hfz18_6 := blk_frozen BK298.out 6; have hfz18_7 := blk_frozen BK298.out 7) | ((with_reducible refine gate_callee (f := 11) rfl ?_); refine goesL_ (some 32) rfl rfl Try.func11 (by kernel_rfl) rfl #[.agg #[.int .i64 a0_0, .int .i64 a0_1, .int .i64 a0_2, .int .i64 a0_3, .int .i64 a0_4, .int .i64 a0_5, .int .i64 a0_6, .int .i64 a0_7], .int .i64 (wrap64 (a1 + 1))] rfl (by (try simp only [List.map_toArray, List.map_cons, List.map_nil]); first | done | rfl | (simp only [List.length_drop, List.length_take]; rfl)) ?_; (with_reducible refine (detmap_Base.calls kj3 a0_0 a0_1 a0_2 a0_3 a0_4 a0_5 a0_6 a0_7 (wrap64 (a1 + 1)) t305 t306 t307 t308 _ A11.out).mono ?_); rintro e w19 ⟨rfl, hb⟩; refine ⟨_, rfl, ?_⟩; have n0_ := Aside0.mk (blk_below (g := gb298) (o := .cells #[.int .i64 a0_0, .int .i64 a0_1, .int .i64 a0_2, .int .i64 a0_3, .int .i64 a0_4, .int .i64 a0_5, .int .i64 a0_6, .int .i64 a0_7] 25 (0, 0)) (by (with_reducible repeat (first | refine blk_drewN ?_ _ | refine blk_drew ?_ | refine blk_alloc ?_ _)); refine blk_far ?_ NB298_304.out _; (with_reducible repeat (first | refine blk_drewN ?_ _ | refine blk_drew ?_ | refine blk_alloc ?_ _)); refine blk_far ?_ NB298_304.out _; (with_reducible repeat (first | refine blk_drewN ?_ _ | refine blk_drew ?_ | refine blk_alloc ?_ _)); refine blk_far ?_ NB298_304.out _; (with_reducible repeat (first | refine blk_drewN ?_ _ | refine blk_drew ?_ | refine blk_alloc ?_ _)); exact BK298.out) hb); have n1_ := Aside0.mk (blk_below (g := gb304) (o := .cells #[.int .i64 t300, .int .i64 t301, .int .i64 t302] 28 (0, 0)) (by (with_reducible repeat (first | refine blk_drewN ?_ _ | refine blk_drew ?_ | refine blk_alloc ?_ _)); refine blk_put (cs := #[.int .i64 t300, .int .i64 t301, .int .i64 0]) ?_ 2 _ rfl; (with_reducible repeat (first | refine blk_drewN ?_ _ | refine blk_drew ?_ | refine blk_alloc ?_ _)); refine blk_put (cs := #[.int .i64 t300, .int .i64 0, .int .i64 0]) ?_ 1 _ rfl; (with_reducible repeat (first | refine blk_drewN ?_ _ | refine blk_drew ?_ | refine blk_alloc ?_ _)); refine blk_put (cs := #[.int .i64 0, .int .i64 0, .int .i64 0]) ?_ 0 _ rfl; (with_reducible repeat (first | refine blk_drewN ?_ _ | refine blk_drew ?_ | refine blk_alloc ?_ _)); exact BK304.out) hb); have n2_ := Aside0.mk (below_step (by repeat (first | (with_reducible first | exact HB.out | apply below_alloc | apply pw_below_drewN | apply below_drew1 | refine below_set ?_ GE298.out | refine below_set ?_ GE304.out) | exact HB.out)) hb); clear BK298; clear BK304; clear HB; have BK298 := n0_; have BK304 := n1_; have HB := n2_; clear n0_ n1_ n2_; (try clear hb); (try clear hb2); (try clear hk); (try clear hi)) | ((with_reducible refine gate_dst (N := 8) rfl ?_); refine box_event ?hg (N := 8) ?hd (cs := #[.int .i64 0, .int .i64 0, .int .i64 0]) (t := 28) ?hr ?_; (case hd => rfl); (case hg => rfl); (case hr => first | (go_simp; done) | (go_simp; rfl)); intro gb309 hg w20 hbox hb; have n0_ := Aside0.mk (blk_below (g := gb298) (o := .cells #[.int .i64 a0_0, .int .i64 a0_1, .int .i64 a0_2, .int .i64 a0_3, .int .i64 a0_4, .int .i64 a0_5, .int .i64 a0_6, .int .i64 a0_7] 25 (0, 0)) (by (with_reducible repeat (first | refine blk_drewN ?_ _ | refine blk_drew ?_ | refine blk_alloc ?_ _)); exact BK298.out) hb); have n1_ := Aside0.mk (blk_below (g := gb304) (o := .cells #[.int .i64 t300, .int .i64 t301, .int .i64 t302] 28 (0, 0)) (by (with_reducible repeat (first | refine blk_drewN ?_ _ | refine blk_drew ?_ | refine blk_alloc ?_ _)); exact BK304.out) hb); have n2_ := Aside0.mk (below_step (by repeat (first | (with_reducible first | exact HB.out | apply below_alloc | apply pw_below_drewN | apply below_drew1 | refine below_set ?_ GE298.out | refine below_set ?_ GE304.out) | exact HB.out)) hb); have n3_ := Aside0.mk (hbox); have n4_ := Aside0.mk ((by rw [hg]; exact (below_size (by repeat (first | (with_reducible first | exact HB.out | apply below_alloc | apply pw_below_drewN | apply below_drew1 | refine below_set ?_ GE298.out | refine below_set ?_ GE304.out) | exact HB.out))) : w.heap.size ≤ gb309)); have n5_ := Aside0.mk ((by rw [hg]; exact (below_size (by repeat (first | (with_reducible first | exact HB.out | apply below_alloc | apply pw_below_drewN | apply below_drew1 | refine below_set ?_ GE298.out | refine below_set ?_ GE304.out) | exact HB.out))) : w.heap.size ≤ gb309)); have n6_ := Aside0.mk ((by rw [hg]; exact Nat.ne_of_lt (blk_lt (g := gb298) (o := .cells #[.int .i64 a0_0, .int .i64 a0_1, .int .i64 a0_2, .int .i64 a0_3, .int .i64 a0_4, .int .i64 a0_5, .int .i64 a0_6, .int .i64 a0_7] 25 (0, 0)) (by (with_reducible repeat (first | refine blk_drewN ?_ _ | refine blk_drew ?_ | refine blk_alloc ?_ _)); exact BK298.out)) : gb298 ≠ gb309)); have n7_ := Aside0.mk ((by rw [hg]; exact Nat.ne_of_gt (blk_lt (g := gb298) (o := .cells #[.int .i64 a0_0, .int .i64 a0_1, .int .i64 a0_2, .int .i64 a0_3, .int .i64 a0_4, .int .i64 a0_5, .int .i64 a0_6, .int .i64 a0_7] 25 (0, 0)) (by (with_reducible repeat (first | refine blk_drewN ?_ _ | refine blk_drew ?_ | refine blk_alloc ?_ _)); exact BK298.out)) : gb309 ≠ gb298)); have n8_ := Aside0.mk ((by rw [hg]; exact Nat.ne_of_lt (blk_lt (g := gb304) (o := .cells #[.int .i64 t300, .int .i64 t301, .int .i64 t302] 28 (0, 0)) (by (with_reducible repeat (first | refine blk_drewN ?_ _ | refine blk_drew ?_ | refine blk_alloc ?_ _)); exact BK304.out)) : gb304 ≠ gb309)); have n9_ := Aside0.mk ((by rw [hg]; exact Nat.ne_of_gt (blk_lt (g := gb304) (o := .cells #[.int .i64 t300, .int .i64 t301, .int .i64 t302] 28 (0, 0)) (by (with_reducible repeat (first | refine blk_drewN ?_ _ | refine blk_drew ?_ | refine blk_alloc ?_ _)); exact BK304.out)) : gb309 ≠ gb304)); clear BK298; clear BK304; clear HB; have BK298 := n0_; have BK304 := n1_; have HB := n2_; have BK309 := n3_; have GW309 := n4_; have GE309 := n5_; have NB298_309 := n6_; have NB309_298 := n7_; have NB304_309 := n8_; have NB309_304 := n9_; clear n0_ n1_ n2_ n3_ n4_ n5_ n6_ n7_ n8_ n9_; clear hb hbox hg; have hnb21 := NB309_298.out; have hnc21 := NB298_309.out; have hnb22 := NB309_304.out; have hnc22 := NB304_309.out; have hcz23_0 : w20.cell? ⟨gb309, 0, none⟩ = some (.int .i64 0) := (blk_cell BK309.out 0).trans rfl; have hcz23_1 : w20.cell? ⟨gb309, 1, none⟩ = some (.int .i64 0) := (blk_cell BK309.out 1).trans rfl; have hcz23_2 : w20.cell? ⟨gb309, 2, none⟩ = some (.int .i64 0) := (blk_cell BK309.out 2).trans rfl; have hfz23_0 := blk_frozen BK309.out 0; have hfz23_1 := blk_frozen BK309.out 1; have hfz23_2 := blk_frozen BK309.out 2))
        (try simp only [Act.put, List.setIfInBounds_toArray, List.set_cons_zero, List.set_cons_succ])
        go_cut [40] (fun v40 wc => ∃ (kq : Nat) (x40_11 : Bool), v40 = .bool x40_11 ∧ Aside0 (mooringslaw08_DetOrder.j1 kq a1 t303 t308 x40_11 a0_0 a0_1 a0_2 a0_3 a0_4 a0_5 a0_6 a0_7 t300 t301 t302 t305 t306 t307 = some r) ∧ Aside0 (kq ≤ kj3) ∧ Aside0 (wc.heap[gb298]? = some (.cells #[.int .i64 a0_0, .int .i64 a0_1, .int .i64 a0_2, .int .i64 a0_3, .int .i64 a0_4, .int .i64 a0_5, .int .i64 a0_6, .int .i64 a0_7] 25 (0, 0))) ∧ Aside0 (wc.heap[gb304]? = some (.cells #[.int .i64 t300, .int .i64 t301, .int .i64 t302] 28 (0, 0))) ∧ Aside0 (wc.heap[gb309]? = some (.cells #[.int .i64 t305, .int .i64 t306, .int .i64 t307] 28 (0, 0))) ∧ Aside0 (Below w.heap.size w wc))
        case first =>
          have H := HC12.out
          clear HC12
          by_cases c24 : t303 = true
          · subst c24
            have H1 : (mooringslaw08_DetOrder.j1 kj3 a1 true t308 (!t308) a0_0 a0_1 a0_2 a0_3 a0_4 a0_5 a0_6 a0_7 t300 t301 t302 t305 t306 t307) = some r := by rw [if_pos rfl] at H; exact H
            clear H
            have H := H1
            clear H1
            have H' := Aside0.mk H
            clear H
            go_wp2
            go_meet
            case rel => exact ⟨_, (!t308), (by first | rfl | (simp; done) | (simp [*]; done)), H', ⟨by have := HJ3.out; first | omega | exact Nat.le_refl _⟩, ⟨by (with_reducible repeat (first | refine blk_drewN ?_ _ | refine blk_drew ?_ | refine blk_alloc ?_ _)); refine blk_far ?_ NB298_309.out _; (with_reducible repeat (first | refine blk_drewN ?_ _ | refine blk_drew ?_ | refine blk_alloc ?_ _)); refine blk_far ?_ NB298_309.out _; (with_reducible repeat (first | refine blk_drewN ?_ _ | refine blk_drew ?_ | refine blk_alloc ?_ _)); refine blk_far ?_ NB298_309.out _; (with_reducible repeat (first | refine blk_drewN ?_ _ | refine blk_drew ?_ | refine blk_alloc ?_ _)); exact BK298.out⟩, ⟨by (with_reducible repeat (first | refine blk_drewN ?_ _ | refine blk_drew ?_ | refine blk_alloc ?_ _)); refine blk_far ?_ NB304_309.out _; (with_reducible repeat (first | refine blk_drewN ?_ _ | refine blk_drew ?_ | refine blk_alloc ?_ _)); refine blk_far ?_ NB304_309.out _; (with_reducible repeat (first | refine blk_drewN ?_ _ | refine blk_drew ?_ | refine blk_alloc ?_ _)); refine blk_far ?_ NB304_309.out _; (with_reducible repeat (first | refine blk_drewN ?_ _ | refine blk_drew ?_ | refine blk_alloc ?_ _)); exact BK304.out⟩, ⟨by (with_reducible repeat (first | refine blk_drewN ?_ _ | refine blk_drew ?_ | refine blk_alloc ?_ _)); refine blk_put (cs := #[.int .i64 t305, .int .i64 t306, .int .i64 0]) ?_ 2 _ rfl; (with_reducible repeat (first | refine blk_drewN ?_ _ | refine blk_drew ?_ | refine blk_alloc ?_ _)); refine blk_put (cs := #[.int .i64 t305, .int .i64 0, .int .i64 0]) ?_ 1 _ rfl; (with_reducible repeat (first | refine blk_drewN ?_ _ | refine blk_drew ?_ | refine blk_alloc ?_ _)); refine blk_put (cs := #[.int .i64 0, .int .i64 0, .int .i64 0]) ?_ 0 _ rfl; (with_reducible repeat (first | refine blk_drewN ?_ _ | refine blk_drew ?_ | refine blk_alloc ?_ _)); exact BK309.out⟩, ⟨by repeat (first | (with_reducible first | exact HB.out | apply below_alloc | apply pw_below_drewN | apply below_drew1 | refine below_set ?_ GE298.out | refine below_set ?_ GE304.out | refine below_set ?_ GE309.out) | exact HB.out)⟩⟩
          · replace c24 := Bool.eq_false_iff.mpr c24
            subst c24
            have H1 : (mooringslaw08_DetOrder.j1 kj3 a1 false t308 true a0_0 a0_1 a0_2 a0_3 a0_4 a0_5 a0_6 a0_7 t300 t301 t302 t305 t306 t307) = some r := by rw [if_neg (show ¬ (false = true) by decide)] at H; exact H
            clear H
            have H := H1
            clear H1
            have H' := Aside0.mk H
            clear H
            go_wp2
            go_meet
            case rel => exact ⟨_, (true), (by first | rfl | (simp; done) | (simp [*]; done)), H', ⟨by have := HJ3.out; first | omega | exact Nat.le_refl _⟩, ⟨by (with_reducible repeat (first | refine blk_drewN ?_ _ | refine blk_drew ?_ | refine blk_alloc ?_ _)); refine blk_far ?_ NB298_309.out _; (with_reducible repeat (first | refine blk_drewN ?_ _ | refine blk_drew ?_ | refine blk_alloc ?_ _)); refine blk_far ?_ NB298_309.out _; (with_reducible repeat (first | refine blk_drewN ?_ _ | refine blk_drew ?_ | refine blk_alloc ?_ _)); refine blk_far ?_ NB298_309.out _; (with_reducible repeat (first | refine blk_drewN ?_ _ | refine blk_drew ?_ | refine blk_alloc ?_ _)); exact BK298.out⟩, ⟨by (with_reducible repeat (first | refine blk_drewN ?_ _ | refine blk_drew ?_ | refine blk_alloc ?_ _)); refine blk_far ?_ NB304_309.out _; (with_reducible repeat (first | refine blk_drewN ?_ _ | refine blk_drew ?_ | refine blk_alloc ?_ _)); refine blk_far ?_ NB304_309.out _; (with_reducible repeat (first | refine blk_drewN ?_ _ | refine blk_drew ?_ | refine blk_alloc ?_ _)); refine blk_far ?_ NB304_309.out _; (with_reducible repeat (first | refine blk_drewN ?_ _ | refine blk_drew ?_ | refine blk_alloc ?_ _)); exact BK304.out⟩, ⟨by (with_reducible repeat (first | refine blk_drewN ?_ _ | refine blk_drew ?_ | refine blk_alloc ?_ _)); refine blk_put (cs := #[.int .i64 t305, .int .i64 t306, .int .i64 0]) ?_ 2 _ rfl; (with_reducible repeat (first | refine blk_drewN ?_ _ | refine blk_drew ?_ | refine blk_alloc ?_ _)); refine blk_put (cs := #[.int .i64 t305, .int .i64 0, .int .i64 0]) ?_ 1 _ rfl; (with_reducible repeat (first | refine blk_drewN ?_ _ | refine blk_drew ?_ | refine blk_alloc ?_ _)); refine blk_put (cs := #[.int .i64 0, .int .i64 0, .int .i64 0]) ?_ 0 _ rfl; (with_reducible repeat (first | refine blk_drewN ?_ _ | refine blk_drew ?_ | refine blk_alloc ?_ _)); exact BK309.out⟩, ⟨by repeat (first | (with_reducible first | exact HB.out | apply below_alloc | apply pw_below_drewN | apply below_drew1 | refine below_set ?_ GE298.out | refine below_set ?_ GE304.out | refine below_set ?_ GE309.out) | exact HB.out)⟩⟩
        case rest =>
          clear HC12
          try clear c1
          try clear c2
          try clear p2
          try clear p6
          try clear c7
          try clear c8
          try clear c8b0
          try clear c9
          try clear c10
          try clear c11
          try clear c16
          try clear c21
          try clear c22
          try clear c24
          try clear hcz13_0
          try clear hcz13_1
          try clear hcz13_2
          try clear hcz13_3
          try clear hcz13_4
          try clear hcz13_5
          try clear hcz13_6
          try clear hcz13_7
          try clear hcz17_0
          try clear hcz17_1
          try clear hcz17_2
          try clear hcz18_0
          try clear hcz18_1
          try clear hcz18_2
          try clear hcz18_3
          try clear hcz18_4
          try clear hcz18_5
          try clear hcz18_6
          try clear hcz18_7
          try clear hcz23_0
          try clear hcz23_1
          try clear hcz23_2
          try clear hfz13_0
          try clear hfz13_1
          try clear hfz13_2
          try clear hfz13_3
          try clear hfz13_4
          try clear hfz13_5
          try clear hfz13_6
          try clear hfz13_7
          try clear hfz17_0
          try clear hfz17_1
          try clear hfz17_2
          try clear hfz18_0
          try clear hfz18_1
          try clear hfz18_2
          try clear hfz18_3
          try clear hfz18_4
          try clear hfz18_5
          try clear hfz18_6
          try clear hfz18_7
          try clear hfz23_0
          try clear hfz23_1
          try clear hfz23_2
          try clear p2
          obtain ⟨kq, x40_11, rfl, HA, HJ11, BK298, BK304, BK309, HB⟩ := hcut
          cases kq with
          | zero => exact absurd HA.out (by simp [mooringslaw08_DetOrder.j1])
          | succ kj11 =>
            have H := HA.out
            clear HA
            simp only [mooringslaw08_DetOrder.j1] at H
            by_cases c25 : x40_11 = true
            · subst c25
              have H1 : (if t308 = true then (some t303) else (some true)) = some r := by rw [if_pos rfl] at H; exact H
              clear H
              have H := H1
              clear H1
              by_cases c26 : t308 = true
              · subst c26
                have H1 : (some t303) = some r := by rw [if_pos rfl] at H; exact H
                clear H
                have H := H1
                clear H1
                obtain rfl := Option.some.inj H
                go_wp2
                go_ret
                exact ⟨by first | rfl | (simp [errW_none, errW_some] <;> rfl) | (simp [*, errW_none, errW_some] <;> rfl), by repeat (first | (with_reducible first | exact HB.out | apply below_alloc | apply pw_below_drewN | apply below_drew1 | refine below_set ?_ GE298.out | refine below_set ?_ GE304.out | refine below_set ?_ GE309.out) | exact HB.out)⟩
              · replace c26 := Bool.eq_false_iff.mpr c26
                subst c26
                have H1 : (some true) = some r := by rw [if_neg (show ¬ (false = true) by decide)] at H; exact H
                clear H
                have H := H1
                clear H1
                obtain rfl := Option.some.inj H
                go_wp2
                go_ret
                exact ⟨by first | rfl | (simp [errW_none, errW_some] <;> rfl) | (simp [*, errW_none, errW_some] <;> rfl), by repeat (first | (with_reducible first | exact HB.out | apply below_alloc | apply pw_below_drewN | apply below_drew1 | refine below_set ?_ GE298.out | refine below_set ?_ GE304.out | refine below_set ?_ GE309.out) | exact HB.out)⟩
            · replace c25 := Bool.eq_false_iff.mpr c25
              subst c25
              have H1 : (if t305 = t300 then (some (t306 == (wrap64 (t302 + 1)))) else (if t305 = (wrap64 (t300 + 1)) then (if t306 = a0_4 then ((detmap_Ratio.f a0_0 a0_1 a0_2 a0_3 a0_4 a0_5 a0_6 a0_7).bind fun t310 => (if t310 = 0 then (none) else (some ((Int.tmod (wrap64 (a1 + 1)) t310) == 0)))) else (some false)) else (some false))) = some r := by rw [if_neg (show ¬ (false = true) by decide)] at H; exact H
              clear H
              have H := H1
              clear H1
              by_cases c27 : t305 = t300
              · rw [if_pos c27] at H
                have c27b0 : (t305 == t300) = true := beq_iff_eq.mpr c27
                have c27b1 : (t305 != t300) = false := bne_eq_false_iff_eq.mpr c27
                clear c27
                obtain rfl := Option.some.inj H
                have hnb28 := NB309_298.out
                have hnc28 := NB298_309.out
                have hnb29 := NB309_304.out
                have hnc29 := NB304_309.out
                have hcz30_0 : wc.cell? ⟨gb309, 0, none⟩ = some (.int .i64 t305) := (blk_cell BK309.out 0).trans rfl
                have hcz30_1 : wc.cell? ⟨gb309, 1, none⟩ = some (.int .i64 t306) := (blk_cell BK309.out 1).trans rfl
                have hcz30_2 : wc.cell? ⟨gb309, 2, none⟩ = some (.int .i64 t307) := (blk_cell BK309.out 2).trans rfl
                have hfz30_0 := blk_frozen BK309.out 0
                have hfz30_1 := blk_frozen BK309.out 1
                have hfz30_2 := blk_frozen BK309.out 2
                have hnb31 := NB304_298.out
                have hnc31 := NB298_304.out
                have hcz32_0 : wc.cell? ⟨gb304, 0, none⟩ = some (.int .i64 t300) := (blk_cell BK304.out 0).trans rfl
                have hcz32_1 : wc.cell? ⟨gb304, 1, none⟩ = some (.int .i64 t301) := (blk_cell BK304.out 1).trans rfl
                have hcz32_2 : wc.cell? ⟨gb304, 2, none⟩ = some (.int .i64 t302) := (blk_cell BK304.out 2).trans rfl
                have hfz32_0 := blk_frozen BK304.out 0
                have hfz32_1 := blk_frozen BK304.out 1
                have hfz32_2 := blk_frozen BK304.out 2
                go_wp2
                go_ret
                exact ⟨by first | rfl | (simp [errW_none, errW_some] <;> rfl) | (simp [*, errW_none, errW_some] <;> rfl), by repeat (first | (with_reducible first | exact HB.out | apply below_alloc | apply pw_below_drewN | apply below_drew1 | refine below_set ?_ GE298.out | refine below_set ?_ GE304.out | refine below_set ?_ GE309.out) | exact HB.out)⟩
              · rw [if_neg c27] at H
                have c27b0 : (t305 == t300) = false := beq_eq_false_iff_ne.mpr c27
                have c27b1 : (t305 != t300) = true := bne_iff_ne.mpr c27
                by_cases c33 : t305 = (wrap64 (t300 + 1))
                · rw [if_pos c33] at H
                  have c33b0 : (t305 == (wrap64 (t300 + 1))) = true := beq_iff_eq.mpr c33
                  have c33b1 : (t305 != (wrap64 (t300 + 1))) = false := bne_eq_false_iff_eq.mpr c33
                  clear c33
                  by_cases c34 : t306 = a0_4
                  · rw [if_pos c34] at H
                    have c34b0 : (t306 == a0_4) = true := beq_iff_eq.mpr c34
                    have c34b1 : (t306 != a0_4) = false := bne_eq_false_iff_eq.mpr c34
                    clear c34
                    replace H := Option.bind_eq_some_iff.mp H
                    obtain ⟨t310, A350, H⟩ := H
                    replace H : (if t310 = 0 then (none) else (some ((Int.tmod (wrap64 (a1 + 1)) t310) == 0))) = some r := H
                    have A35 := Aside0.mk A350
                    clear A350
                    by_cases c36 : t310 = 0
                    · rw [if_pos c36] at H
                      exact absurd H (by simp)
                    · rw [if_neg c36] at H
                      have c36b0 : (t310 == 0) = false := beq_eq_false_iff_ne.mpr c36
                      have c36b1 : (t310 != 0) = true := bne_iff_ne.mpr c36
                      obtain rfl := Option.some.inj H
                      have hnb37 := NB309_298.out
                      have hnc37 := NB298_309.out
                      have hnb38 := NB309_304.out
                      have hnc38 := NB304_309.out
                      have hcz39_0 : wc.cell? ⟨gb309, 0, none⟩ = some (.int .i64 t305) := (blk_cell BK309.out 0).trans rfl
                      have hcz39_1 : wc.cell? ⟨gb309, 1, none⟩ = some (.int .i64 t306) := (blk_cell BK309.out 1).trans rfl
                      have hcz39_2 : wc.cell? ⟨gb309, 2, none⟩ = some (.int .i64 t307) := (blk_cell BK309.out 2).trans rfl
                      have hfz39_0 := blk_frozen BK309.out 0
                      have hfz39_1 := blk_frozen BK309.out 1
                      have hfz39_2 := blk_frozen BK309.out 2
                      have hnb40 := NB304_298.out
                      have hnc40 := NB298_304.out
                      have hcz41_0 : wc.cell? ⟨gb304, 0, none⟩ = some (.int .i64 t300) := (blk_cell BK304.out 0).trans rfl
                      have hcz41_1 : wc.cell? ⟨gb304, 1, none⟩ = some (.int .i64 t301) := (blk_cell BK304.out 1).trans rfl
                      have hcz41_2 : wc.cell? ⟨gb304, 2, none⟩ = some (.int .i64 t302) := (blk_cell BK304.out 2).trans rfl
                      have hfz41_0 := blk_frozen BK304.out 0
                      have hfz41_1 := blk_frozen BK304.out 1
                      have hfz41_2 := blk_frozen BK304.out 2
                      have hcz42_0 : wc.cell? ⟨gb298, 0, none⟩ = some (.int .i64 a0_0) := (blk_cell BK298.out 0).trans rfl
                      have hcz42_1 : wc.cell? ⟨gb298, 1, none⟩ = some (.int .i64 a0_1) := (blk_cell BK298.out 1).trans rfl
                      have hcz42_2 : wc.cell? ⟨gb298, 2, none⟩ = some (.int .i64 a0_2) := (blk_cell BK298.out 2).trans rfl
                      have hcz42_3 : wc.cell? ⟨gb298, 3, none⟩ = some (.int .i64 a0_3) := (blk_cell BK298.out 3).trans rfl
                      have hcz42_4 : wc.cell? ⟨gb298, 4, none⟩ = some (.int .i64 a0_4) := (blk_cell BK298.out 4).trans rfl
                      have hcz42_5 : wc.cell? ⟨gb298, 5, none⟩ = some (.int .i64 a0_5) := (blk_cell BK298.out 5).trans rfl
                      have hcz42_6 : wc.cell? ⟨gb298, 6, none⟩ = some (.int .i64 a0_6) := (blk_cell BK298.out 6).trans rfl
                      have hcz42_7 : wc.cell? ⟨gb298, 7, none⟩ = some (.int .i64 a0_7) := (blk_cell BK298.out 7).trans rfl
                      have hfz42_0 := blk_frozen BK298.out 0
                      have hfz42_1 := blk_frozen BK298.out 1
                      have hfz42_2 := blk_frozen BK298.out 2
                      have hfz42_3 := blk_frozen BK298.out 3
                      have hfz42_4 := blk_frozen BK298.out 4
                      have hfz42_5 := blk_frozen BK298.out 5
                      have hfz42_6 := blk_frozen BK298.out 6
                      have hfz42_7 := blk_frozen BK298.out 7
                      go_wp2_with (first | (go_at_call 19; (with_reducible refine (detmap_Ratio.calls a0_0 a0_1 a0_2 a0_3 a0_4 a0_5 a0_6 a0_7 t310 _ A35.out).mono ?_); rintro e w43 ⟨rfl, hb⟩; have n0_ := Aside0.mk (blk_below (g := gb298) (o := .cells #[.int .i64 a0_0, .int .i64 a0_1, .int .i64 a0_2, .int .i64 a0_3, .int .i64 a0_4, .int .i64 a0_5, .int .i64 a0_6, .int .i64 a0_7] 25 (0, 0)) (by (with_reducible repeat (first | refine blk_drewN ?_ _ | refine blk_drew ?_ | refine blk_alloc ?_ _)); exact BK298.out) hb); have n1_ := Aside0.mk (blk_below (g := gb304) (o := .cells #[.int .i64 t300, .int .i64 t301, .int .i64 t302] 28 (0, 0)) (by (with_reducible repeat (first | refine blk_drewN ?_ _ | refine blk_drew ?_ | refine blk_alloc ?_ _)); exact BK304.out) hb); have n2_ := Aside0.mk (blk_below (g := gb309) (o := .cells #[.int .i64 t305, .int .i64 t306, .int .i64 t307] 28 (0, 0)) (by (with_reducible repeat (first | refine blk_drewN ?_ _ | refine blk_drew ?_ | refine blk_alloc ?_ _)); exact BK309.out) hb); have n3_ := Aside0.mk (below_step (by repeat (first | (with_reducible first | exact HB.out | apply below_alloc | apply pw_below_drewN | apply below_drew1 | refine below_set ?_ GE298.out | refine below_set ?_ GE304.out | refine below_set ?_ GE309.out) | exact HB.out)) hb); clear BK298; clear BK304; clear BK309; clear HB; have BK298 := n0_; have BK304 := n1_; have BK309 := n2_; have HB := n3_; clear n0_ n1_ n2_ n3_; (try clear hb); (try clear hb2); (try clear hk); (try clear hi)))
                      go_ret
                      exact ⟨by first | rfl | (simp [errW_none, errW_some] <;> rfl) | (simp [*, errW_none, errW_some] <;> rfl), by repeat (first | (with_reducible first | exact HB.out | apply below_alloc | apply pw_below_drewN | apply below_drew1 | refine below_set ?_ GE298.out | refine below_set ?_ GE304.out | refine below_set ?_ GE309.out) | exact HB.out)⟩
                  · rw [if_neg c34] at H
                    have c34b0 : (t306 == a0_4) = false := beq_eq_false_iff_ne.mpr c34
                    have c34b1 : (t306 != a0_4) = true := bne_iff_ne.mpr c34
                    obtain rfl := Option.some.inj H
                    have hnb44 := NB309_298.out
                    have hnc44 := NB298_309.out
                    have hnb45 := NB309_304.out
                    have hnc45 := NB304_309.out
                    have hcz46_0 : wc.cell? ⟨gb309, 0, none⟩ = some (.int .i64 t305) := (blk_cell BK309.out 0).trans rfl
                    have hcz46_1 : wc.cell? ⟨gb309, 1, none⟩ = some (.int .i64 t306) := (blk_cell BK309.out 1).trans rfl
                    have hcz46_2 : wc.cell? ⟨gb309, 2, none⟩ = some (.int .i64 t307) := (blk_cell BK309.out 2).trans rfl
                    have hfz46_0 := blk_frozen BK309.out 0
                    have hfz46_1 := blk_frozen BK309.out 1
                    have hfz46_2 := blk_frozen BK309.out 2
                    have hnb47 := NB304_298.out
                    have hnc47 := NB298_304.out
                    have hcz48_0 : wc.cell? ⟨gb304, 0, none⟩ = some (.int .i64 t300) := (blk_cell BK304.out 0).trans rfl
                    have hcz48_1 : wc.cell? ⟨gb304, 1, none⟩ = some (.int .i64 t301) := (blk_cell BK304.out 1).trans rfl
                    have hcz48_2 : wc.cell? ⟨gb304, 2, none⟩ = some (.int .i64 t302) := (blk_cell BK304.out 2).trans rfl
                    have hfz48_0 := blk_frozen BK304.out 0
                    have hfz48_1 := blk_frozen BK304.out 1
                    have hfz48_2 := blk_frozen BK304.out 2
                    have hcz49_0 : wc.cell? ⟨gb298, 0, none⟩ = some (.int .i64 a0_0) := (blk_cell BK298.out 0).trans rfl
                    have hcz49_1 : wc.cell? ⟨gb298, 1, none⟩ = some (.int .i64 a0_1) := (blk_cell BK298.out 1).trans rfl
                    have hcz49_2 : wc.cell? ⟨gb298, 2, none⟩ = some (.int .i64 a0_2) := (blk_cell BK298.out 2).trans rfl
                    have hcz49_3 : wc.cell? ⟨gb298, 3, none⟩ = some (.int .i64 a0_3) := (blk_cell BK298.out 3).trans rfl
                    have hcz49_4 : wc.cell? ⟨gb298, 4, none⟩ = some (.int .i64 a0_4) := (blk_cell BK298.out 4).trans rfl
                    have hcz49_5 : wc.cell? ⟨gb298, 5, none⟩ = some (.int .i64 a0_5) := (blk_cell BK298.out 5).trans rfl
                    have hcz49_6 : wc.cell? ⟨gb298, 6, none⟩ = some (.int .i64 a0_6) := (blk_cell BK298.out 6).trans rfl
                    have hcz49_7 : wc.cell? ⟨gb298, 7, none⟩ = some (.int .i64 a0_7) := (blk_cell BK298.out 7).trans rfl
                    have hfz49_0 := blk_frozen BK298.out 0
                    have hfz49_1 := blk_frozen BK298.out 1
                    have hfz49_2 := blk_frozen BK298.out 2
                    have hfz49_3 := blk_frozen BK298.out 3
                    have hfz49_4 := blk_frozen BK298.out 4
                    have hfz49_5 := blk_frozen BK298.out 5
                    have hfz49_6 := blk_frozen BK298.out 6
                    have hfz49_7 := blk_frozen BK298.out 7
                    go_wp2
                    go_ret
                    exact ⟨by first | rfl | (simp [errW_none, errW_some] <;> rfl) | (simp [*, errW_none, errW_some] <;> rfl), by repeat (first | (with_reducible first | exact HB.out | apply below_alloc | apply pw_below_drewN | apply below_drew1 | refine below_set ?_ GE298.out | refine below_set ?_ GE304.out | refine below_set ?_ GE309.out) | exact HB.out)⟩
                · rw [if_neg c33] at H
                  have c33b0 : (t305 == (wrap64 (t300 + 1))) = false := beq_eq_false_iff_ne.mpr c33
                  have c33b1 : (t305 != (wrap64 (t300 + 1))) = true := bne_iff_ne.mpr c33
                  obtain rfl := Option.some.inj H
                  have hnb50 := NB309_298.out
                  have hnc50 := NB298_309.out
                  have hnb51 := NB309_304.out
                  have hnc51 := NB304_309.out
                  have hcz52_0 : wc.cell? ⟨gb309, 0, none⟩ = some (.int .i64 t305) := (blk_cell BK309.out 0).trans rfl
                  have hcz52_1 : wc.cell? ⟨gb309, 1, none⟩ = some (.int .i64 t306) := (blk_cell BK309.out 1).trans rfl
                  have hcz52_2 : wc.cell? ⟨gb309, 2, none⟩ = some (.int .i64 t307) := (blk_cell BK309.out 2).trans rfl
                  have hfz52_0 := blk_frozen BK309.out 0
                  have hfz52_1 := blk_frozen BK309.out 1
                  have hfz52_2 := blk_frozen BK309.out 2
                  have hnb53 := NB304_298.out
                  have hnc53 := NB298_304.out
                  have hcz54_0 : wc.cell? ⟨gb304, 0, none⟩ = some (.int .i64 t300) := (blk_cell BK304.out 0).trans rfl
                  have hcz54_1 : wc.cell? ⟨gb304, 1, none⟩ = some (.int .i64 t301) := (blk_cell BK304.out 1).trans rfl
                  have hcz54_2 : wc.cell? ⟨gb304, 2, none⟩ = some (.int .i64 t302) := (blk_cell BK304.out 2).trans rfl
                  have hfz54_0 := blk_frozen BK304.out 0
                  have hfz54_1 := blk_frozen BK304.out 1
                  have hfz54_2 := blk_frozen BK304.out 2
                  go_wp2
                  go_ret
                  exact ⟨by first | rfl | (simp [errW_none, errW_some] <;> rfl) | (simp [*, errW_none, errW_some] <;> rfl), by repeat (first | (with_reducible first | exact HB.out | apply below_alloc | apply pw_below_drewN | apply below_drew1 | refine below_set ?_ GE298.out | refine below_set ?_ GE304.out | refine below_set ?_ GE309.out) | exact HB.out)⟩

end Go.Proofs.Ytfkdflhijfkjoaa.P
