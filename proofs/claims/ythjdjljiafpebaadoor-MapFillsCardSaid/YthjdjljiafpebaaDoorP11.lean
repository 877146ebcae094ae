-- Laid by this session's own program (wip/myprint.py): Lean functions for the Go functions that a law reaches, and their contracts. Not trusted: Lean checks it.
import Derived.Test.YthjdjljiafpebaaDoorP0
import Derived.Test.YthjdjljiafpebaaDoorP1
import Derived.Test.YthjdjljiafpebaaDoorP2
import Derived.Test.YthjdjljiafpebaaDoorP3
namespace Go.Proofs.YthjdjljiafpebaaDoor.P
open Go.RowKit Go.Proofs.YthjdjljiafpebaaDoorW.PrintWords Go.Proofs.YthjdjljiafpebaaDoorW.PrintLast Go.Proofs.YthjdjljiafpebaaDoorW.PrintMore
attribute [local go_sem] max2_int min2_int max_two min_two max_three min_three max_four min_four   -- for this text's walks alone
set_option linter.unusedVariables false
set_option linter.unusedSimpArgs false

attribute [local go_sem high] eqA23
/-! ### mooringslaw09_MapFills: function 4 -/
mutual
def mooringslaw09_MapFills.j0 : Nat → Int → Bool → Bool → Int → Int → Option (Bool)
  | 0, _, _, _, _, _ => none
  | k + 1, x0, x5, x26, x248000, x248001 => if x26 = true then (some false) else (if x5 = true then (mooringslaw09_MapFills.l0 k x0 0 x248000 x248001) else (some (x248000 == 0 && (x248001 == 0))))
def mooringslaw09_MapFills.l0 : Nat → Int → Int → Int → Int → Option (Bool)
  | 0, _, _, _, _ => none
  | k + 1, x0, x6, x248000, x248001 => if x6 < x0 then ((bitmap_First.f x248000 x248001).bind fun t248 => (if t248 = x6 then ((bitmap_Take.f x248000 x248001 x6).bind fun bt249 => (if bt249.2.2 = true then (mooringslaw09_MapFills.l0 k x0 (wrap64 (x6 + 1)) bt249.1 bt249.2.1) else (some false))) else (some false))) else ((bitmap_First.f x248000 x248001).bind fun t253 => (if t253 = (-1) then ((bitmap_Count.f x248000 x248001).bind fun t254 => (if t254 = x0 then ((bitmap_Free.f x248000 x248001).bind fun t255 => (some ((t255.length : Int) == 0))) else (some false))) else (some false)))
end
def mooringslaw09_MapFills.f (k : Nat) (a0 : Int) : Option (Bool) := (mooringslaw09_awake.f).bind fun t243 => ((bitmap_New.f a0).bind fun bt244 => (if t243 = true then (if a0 ≥ 0 then (mooringslaw09_MapFills.j0 k a0 bt244.2.2 (bt244.2.2 != (decide (a0 ≤ 8))) bt244.1 bt244.2.1) else (mooringslaw09_MapFills.j0 k a0 bt244.2.2 (bt244.2.2 != false) bt244.1 bt244.2.1)) else (mooringslaw09_MapFills.j0 k a0 bt244.2.2 true bt244.1 bt244.2.1)))
theorem mooringslaw09_MapFills.mono_l : ∀ k, (∀ y0 y1 y2 y3 y4, LeO (mooringslaw09_MapFills.j0 k y0 y1 y2 y3 y4) (mooringslaw09_MapFills.j0 (k + 1) y0 y1 y2 y3 y4)) ∧ (∀ y0 y1 y2 y3, LeO (mooringslaw09_MapFills.l0 k y0 y1 y2 y3) (mooringslaw09_MapFills.l0 (k + 1) y0 y1 y2 y3))
  | 0 => ⟨fun _ _ _ _ _ r h => by simp [mooringslaw09_MapFills.j0] at h, fun _ _ _ _ r h => by simp [mooringslaw09_MapFills.l0] at h⟩
  | k + 1 => by
    obtain ⟨ih0, ih1⟩ := mooringslaw09_MapFills.mono_l k
    refine ⟨?_, ?_⟩
    · intro y0 y1 y2 y3 y4
      unfold mooringslaw09_MapFills.j0
      repeat' first
      | (with_reducible exact ih0 _ _ _ _ _)
      | (with_reducible exact ih1 _ _ _ _)
      | (with_reducible exact LeO.refl _)
      | (with_reducible exact LeO.none _)
      | (with_reducible refine LeO.ite ?_ ?_)
      | (with_reducible refine LeO.bind ?_ (fun _ => ?_))
      | exact ih0 _ _ _ _ _
      | exact ih1 _ _ _ _
      | exact LeO.none _
      | refine LeO.ite ?_ ?_
      | refine LeO.bind ?_ (fun _ => ?_)
    · intro y0 y1 y2 y3
      unfold mooringslaw09_MapFills.l0
      repeat' first
      | (with_reducible exact ih0 _ _ _ _ _)
      | (with_reducible exact ih1 _ _ _ _)
      | (with_reducible exact LeO.refl _)
      | (with_reducible exact LeO.none _)
      | (with_reducible refine LeO.ite ?_ ?_)
      | (with_reducible refine LeO.bind ?_ (fun _ => ?_))
      | exact ih0 _ _ _ _ _
      | exact ih1 _ _ _ _
      | exact LeO.none _
      | refine LeO.ite ?_ ?_
      | refine LeO.bind ?_ (fun _ => ?_)
theorem mooringslaw09_MapFills.mono : ∀ a0 k, LeO (mooringslaw09_MapFills.f k a0) (mooringslaw09_MapFills.f (k + 1) a0) := by
  intro a0 k
  obtain ⟨ih0, ih1⟩ := mooringslaw09_MapFills.mono_l k
  unfold mooringslaw09_MapFills.f
  repeat' first
      | (with_reducible exact ih0 _ _ _ _ _)
      | (with_reducible exact ih1 _ _ _ _)
      | (with_reducible exact LeO.refl _)
      | (with_reducible exact LeO.none _)
      | (with_reducible refine LeO.ite ?_ ?_)
      | (with_reducible refine LeO.bind ?_ (fun _ => ?_))
      | exact ih0 _ _ _ _ _
      | exact ih1 _ _ _ _
      | exact LeO.none _
      | refine LeO.ite ?_ ?_
      | refine LeO.bind ?_ (fun _ => ?_)
set_option maxHeartbeats 8000000 in
set_option maxRecDepth 100000 in
theorem mooringslaw09_MapFills.calls (k : Nat) (a0 : Int) (r : Bool) (w : World) (h : mooringslaw09_MapFills.f k a0 = some r) (hT0 : Dev.Laid w) (hR0 : r = true) :
    Calls Tryd.prog 4 #[.int .i64 a0] w fun e w' => e = .returned (.bool r) ∧ Below w.heap.size w w' := by
  have HR := Aside0.mk hR0
  clear hR0
  have HT := Aside0.mk hT0
  clear hT0
  have hu23 := Tryd.underlying23
  have HB := Aside0.mk (Below.refl w.heap.size w)
  have H : ((mooringslaw09_awake.f).bind fun t243 => ((bitmap_New.f a0).bind fun bt244 => (if t243 = true then (if a0 ≥ 0 then (mooringslaw09_MapFills.j0 k a0 bt244.2.2 (bt244.2.2 != (decide (a0 ≤ 8))) bt244.1 bt244.2.1) else (mooringslaw09_MapFills.j0 k a0 bt244.2.2 (bt244.2.2 != false) bt244.1 bt244.2.1)) else (mooringslaw09_MapFills.j0 k a0 bt244.2.2 true bt244.1 bt244.2.1)))) = some r := h
  clear h
  replace H := Option.bind_eq_some_iff.mp H
  obtain ⟨t243, A20, H⟩ := H
  replace H : ((bitmap_New.f a0).bind fun bt244 => (if t243 = true then (if a0 ≥ 0 then (mooringslaw09_MapFills.j0 k a0 bt244.2.2 (bt244.2.2 != (decide (a0 ≤ 8))) bt244.1 bt244.2.1) else (mooringslaw09_MapFills.j0 k a0 bt244.2.2 (bt244.2.2 != false) bt244.1 bt244.2.1)) else (mooringslaw09_MapFills.j0 k a0 bt244.2.2 true bt244.1 bt244.2.1))) = some r := H
  have A2 := Aside0.mk A20
  clear A20
  replace H := Option.bind_eq_some_iff.mp H
  obtain ⟨⟨t244, t245, t246⟩, A30, H⟩ := H
  replace H : (if t243 = true then (if a0 ≥ 0 then (mooringslaw09_MapFills.j0 k a0 t246 (t246 != (decide (a0 ≤ 8))) t244 t245) else (mooringslaw09_MapFills.j0 k a0 t246 (t246 != false) t244 t245)) else (mooringslaw09_MapFills.j0 k a0 t246 true t244 t245)) = some r := H
  have A3 := Aside0.mk A30
  clear A30
  have HC4 := Aside0.mk H
  clear H
  go_enter Tryd.func4, Tryd.ntmps4
  go_upto_region 3 with (first | ((with_reducible refine gate_callee (f := 9) rfl ?_); refine goesL_ (some 9) rfl rfl Tryd.func9 (by kernel_rfl) rfl #[] rfl (by (try simp only [List.map_toArray, List.map_cons, List.map_nil]); first | done | rfl | (simp only [List.length_drop, List.length_take]; rfl)) ?_; (with_reducible refine (mooringslaw09_awake.calls  t243 _ A2.out (Dev.laid_below HT.out (by repeat (first | (with_reducible first | exact HB.out | apply below_alloc | apply pw_below_drewN | apply below_drew1) | exact HB.out)))).mono ?_); rintro e w5 ⟨rfl, hb⟩; refine ⟨_, rfl, ?_⟩; have n0_ := Aside0.mk (below_step (by repeat (first | (with_reducible first | exact HB.out | apply below_alloc | apply pw_below_drewN | apply below_drew1) | exact HB.out)) hb); clear HB; have HB := n0_; clear n0_; (try clear hb); (try clear hb2); (try clear hk); (try clear hi)) | ((with_reducible refine gate_callee (f := 16) rfl ?_); refine goesL_ (some 12) rfl rfl Tryd.func16 (by kernel_rfl) rfl #[.int .i64 a0] rfl (by (try simp only [List.map_toArray, List.map_cons, List.map_nil]); first | done | rfl | (simp only [List.length_drop, List.length_take]; rfl)) ?_; (with_reducible refine (bitmap_New.calls a0 t244 t245 t246 _ A3.out).mono ?_); rintro e w6 ⟨rfl, hb⟩; refine ⟨_, rfl, ?_⟩; have n0_ := Aside0.mk (below_step (by repeat (first | (with_reducible first | exact HB.out | apply below_alloc | apply pw_below_drewN | apply below_drew1) | exact HB.out)) hb); clear HB; have HB := n0_; clear n0_; (try clear hb); (try clear hb2); (try clear hk); (try clear hi)) | ((with_reducible refine gate_dst (N := 4) rfl ?_); (try (refine gate_guard (by rfl) ?_; dsimp only)); refine box_event ?hg (N := 4) ?hd (cs := #[.int .i64 0, .int .i64 0]) (t := 23) ?hr ?_; (case hd => rfl); (case hg => rfl); (case hr => first | (go_simp; done) | (go_simp; rfl)); intro gb247 hg w7 hbox hb; have n0_ := Aside0.mk (below_step (by repeat (first | (with_reducible first | exact HB.out | apply below_alloc | apply pw_below_drewN | apply below_drew1) | exact HB.out)) hb); have n1_ := Aside0.mk (hbox); have n2_ := Aside0.mk ((by rw [hg]; exact (below_size (by repeat (first | (with_reducible first | exact HB.out | apply below_alloc | apply pw_below_drewN | apply below_drew1) | exact HB.out))) : w.heap.size ≤ gb247)); have n3_ := Aside0.mk ((by rw [hg]; exact (below_size (by repeat (first | (with_reducible first | exact HB.out | apply below_alloc | apply pw_below_drewN | apply below_drew1) | exact HB.out))) : w.heap.size ≤ gb247)); clear HB; have HB := n0_; have BK247 := n1_; have GW247 := n2_; have GE247 := n3_; clear n0_ n1_ n2_ n3_; clear hb hbox hg; have hcz8_0 : w7.cell? ⟨gb247, 0, none⟩ = some (.int .i64 0) := (blk_cell BK247.out 0).trans rfl; have hcz8_1 : w7.cell? ⟨gb247, 1, none⟩ = some (.int .i64 0) := (blk_cell BK247.out 1).trans rfl; have hfz8_0 := blk_frozen BK247.out 0; have hfz8_1 := blk_frozen BK247.out 1))
  (try simp only [Act.put, List.setIfInBounds_toArray, List.set_cons_zero, List.set_cons_succ])
  go_cut [26] (fun v26 wc => ∃ (kq : Nat) (x26_3 : Bool), v26 = .bool x26_3 ∧ Aside0 (mooringslaw09_MapFills.j0 kq a0 t246 x26_3 t244 t245 = some r) ∧ Aside0 (kq ≤ k) ∧ Aside0 (wc.heap[gb247]? = some (.cells #[.int .i64 t244, .int .i64 t245] 23 (0, 0))) ∧ Aside0 (Below w.heap.size w wc))
  case first =>
    have H := HC4.out
    clear HC4
    by_cases c9 : t243 = true
    · subst c9
      have H1 : (if a0 ≥ 0 then (mooringslaw09_MapFills.j0 k a0 t246 (t246 != (decide (a0 ≤ 8))) t244 t245) else (mooringslaw09_MapFills.j0 k a0 t246 (t246 != false) t244 t245)) = some r := by rw [if_pos rfl] at H; exact H
      clear H
      have H := H1
      clear H1
      by_cases c10 : a0 ≥ 0
      · rw [if_pos c10] at H
        have c10b0 : decide (0 ≤ a0) = true := decide_eq_true c10
        clear c10
        (first | rw [c10b0] | (simp only [i64_w, i32_w]; rw [c10b0]) | skip)
        have H' := Aside0.mk H
        clear H
        go_wp2
        go_meet
        case rel => exact ⟨_, ((t246 != (decide (a0 ≤ 8)))), (by first | rfl | (simp; done) | (simp [*]; done)), H', ⟨by first | omega | exact Nat.le_refl _⟩, ⟨by (with_reducible repeat (first | refine blk_drewN ?_ _ | refine blk_drew ?_ | refine blk_alloc ?_ _)); refine blk_put (cs := #[.int .i64 t244, .int .i64 0]) ?_ 1 _ rfl; (with_reducible repeat (first | refine blk_drewN ?_ _ | refine blk_drew ?_ | refine blk_alloc ?_ _)); refine blk_put (cs := #[.int .i64 0, .int .i64 0]) ?_ 0 _ rfl; (with_reducible repeat (first | refine blk_drewN ?_ _ | refine blk_drew ?_ | refine blk_alloc ?_ _)); exact BK247.out⟩, ⟨by repeat (first | (with_reducible first | exact HB.out | apply below_alloc | apply pw_below_drewN | apply below_drew1 | refine below_set ?_ GE247.out) | exact HB.out)⟩⟩
      · rw [if_neg c10] at H
        have c10b0 : decide (0 ≤ a0) = false := decide_eq_false c10
        clear c10
        (first | rw [c10b0] | (simp only [i64_w, i32_w]; rw [c10b0]) | skip)
        have H' := Aside0.mk H
        clear H
        go_wp2
        go_meet
        case rel => exact ⟨_, ((t246 != false)), (by first | rfl | (simp; done) | (simp [*]; done)), H', ⟨by first | omega | exact Nat.le_refl _⟩, ⟨by (with_reducible repeat (first | refine blk_drewN ?_ _ | refine blk_drew ?_ | refine blk_alloc ?_ _)); refine blk_put (cs := #[.int .i64 t244, .int .i64 0]) ?_ 1 _ rfl; (with_reducible repeat (first | refine blk_drewN ?_ _ | refine blk_drew ?_ | refine blk_alloc ?_ _)); refine blk_put (cs := #[.int .i64 0, .int .i64 0]) ?_ 0 _ rfl; (with_reducible repeat (first | refine blk_drewN ?_ _ | refine blk_drew ?_ | refine blk_alloc ?_ _)); exact BK247.out⟩, ⟨by repeat (first | (with_reducible first | exact HB.out | apply below_alloc | apply pw_below_drewN | apply below_drew1 | refine below_set ?_ GE247.out) | exact HB.out)⟩⟩
    · replace c9 := Bool.eq_false_iff.mpr c9
      subst c9
      have H1 : (mooringslaw09_MapFills.j0 k a0 t246 true t244 t245) = some r := by rw [if_neg (show ¬ (false = true) by decide)] at H; exact H
      clear H
      have H := H1
      clear H1
      have H' := Aside0.mk H
      clear H
      go_wp2
      go_meet
      case rel => exact ⟨_, (true), (by first | rfl | (simp; done) | (simp [*]; done)), H', ⟨by first | omega | exact Nat.le_refl _⟩, ⟨by (with_reducible repeat (first | refine blk_drewN ?_ _ | refine blk_drew ?_ | refine blk_alloc ?_ _)); refine blk_put (cs := #[.int .i64 t244, .int .i64 0]) ?_ 1 _ rfl; (with_reducible repeat (first | refine blk_drewN ?_ _ | refine blk_drew ?_ | refine blk_alloc ?_ _)); refine blk_put (cs := #[.int .i64 0, .int .i64 0]) ?_ 0 _ rfl; (with_reducible repeat (first | refine blk_drewN ?_ _ | refine blk_drew ?_ | refine blk_alloc ?_ _)); exact BK247.out⟩, ⟨by repeat (first | (with_reducible first | exact HB.out | apply below_alloc | apply pw_below_drewN | apply below_drew1 | refine below_set ?_ GE247.out) | exact HB.out)⟩⟩
  case rest =>
    clear HC4
    try clear c1
    try clear p2
    try clear c4
    try clear c9
    try clear c10
    try clear c10b0
    try clear hcz8_0
    try clear hcz8_1
    try clear hfz8_0
    try clear hfz8_1
    obtain ⟨kq, x26_3, rfl, HA, HJ3, BK247, HB⟩ := hcut
    cases kq with
    | zero => exact absurd HA.out (by simp [mooringslaw09_MapFills.j0])
    | succ kj3 =>
      have H := HA.out
      clear HA
      simp only [mooringslaw09_MapFills.j0] at H
      by_cases c11 : x26_3 = true
      · subst c11
        have H1 : (some false) = some r := by rw [if_pos rfl] at H; exact H
        exact absurd (H1.trans (congrArg some HR.out)) (by decide)
      · replace c11 := Bool.eq_false_iff.mpr c11
        subst c11
        have H1 : (if t246 = true then (mooringslaw09_MapFills.l0 kj3 a0 0 t244 t245) else (some (t244 == 0 && (t245 == 0)))) = some r := by rw [if_neg (show ¬ (false = true) by decide)] at H; exact H
        clear H
        have H := H1
        clear H1
        by_cases c12 : t246 = true
        · subst c12
          have H1 : (mooringslaw09_MapFills.l0 kj3 a0 0 t244 t245) = some r := by rw [if_pos rfl] at H; exact H
          clear H
          have H := H1
          clear H1
          have H' := Aside0.mk H
          clear H
          go_wp2
          go_loopg [6] kj3 (fun kq v6 w' => ∃ (x6_2 : Int) (x248000_2 : Int) (x248001_2 : Int), v6 = .int .i64 x6_2 ∧ Aside0 (mooringslaw09_MapFills.l0 kq a0 x6_2 x248000_2 x248001_2 = some r) ∧ Aside0 (kq ≤ kj3) ∧ Aside0 (w'.heap[gb247]? = some (.cells #[.int .i64 x248000_2, .int .i64 x248001_2] 23 (0, 0))) ∧ Aside0 (Below w.heap.size w w'))
          case atStart => exact ⟨(0), (t244), (t245), (by first | rfl | (simp; done) | (simp [*]; done)), H', ⟨Nat.le_refl _⟩, ⟨by (with_reducible repeat (first | refine blk_drewN ?_ _ | refine blk_drew ?_ | refine blk_alloc ?_ _)); exact BK247.out⟩, ⟨by repeat (first | (with_reducible first | exact HB.out | apply below_alloc | apply pw_below_drewN | apply below_drew1 | refine below_set ?_ GE247.out) | exact HB.out)⟩⟩
          case round =>
            clear H'
            try clear c1
            try clear p2
            try clear c4
            try clear c9
            try clear c10
            try clear c10b0
            try clear c11
            try clear c12
            try clear hcz8_0
            try clear hcz8_1
            try clear hfz8_0
            try clear hfz8_1
            try clear p2
            obtain ⟨x6_2, x248000_2, x248001_2, rfl, HA, HK2, BK247, HB⟩ := hrel
            cases gk with
            | zero => exact absurd HA.out (by simp [mooringslaw09_MapFills.l0])
            | succ k2 =>
              have H := HA.out
              clear HA
              simp only [mooringslaw09_MapFills.l0] at H
              by_cases c13 : x6_2 < a0
              · rw [if_pos c13] at H
                have c13b0 : decide (x6_2 < a0) = true := decide_eq_true c13
                clear c13
                replace H := Option.bind_eq_some_iff.mp H
                obtain ⟨t248, A140, H⟩ := H
                replace H : (if t248 = x6_2 then ((bitmap_Take.f x248000_2 x248001_2 x6_2).bind fun bt249 => (if bt249.2.2 = true then (mooringslaw09_MapFills.l0 k2 a0 (wrap64 (x6_2 + 1)) bt249.1 bt249.2.1) else (some false))) else (some false)) = some r := H
                have A14 := Aside0.mk A140
                clear A140
                by_cases c15 : t248 = x6_2
                · rw [if_pos c15] at H
                  have c15b0 : (t248 == x6_2) = true := beq_iff_eq.mpr c15
                  have c15b1 : (t248 != x6_2) = false := bne_eq_false_iff_eq.mpr c15
                  clear c15
                  replace H := Option.bind_eq_some_iff.mp H
                  obtain ⟨⟨t249, t250, t251⟩, A160, H⟩ := H
                  replace H : (if t251 = true then (mooringslaw09_MapFills.l0 k2 a0 (wrap64 (x6_2 + 1)) t249 t250) else (some false)) = some r := H
                  have A16 := Aside0.mk A160
                  clear A160
                  by_cases c17 : t251 = true
                  · subst c17
                    have H1 : (mooringslaw09_MapFills.l0 k2 a0 (wrap64 (x6_2 + 1)) t249 t250) = some r := by rw [if_pos rfl] at H; exact H
                    clear H
                    have H := H1
                    clear H1
                    have H' := Aside0.mk H
                    clear H
                    have hcz18_0 : wr.cell? ⟨gb247, 0, none⟩ = some (.int .i64 x248000_2) := (blk_cell BK247.out 0).trans rfl
                    have hcz18_1 : wr.cell? ⟨gb247, 1, none⟩ = some (.int .i64 x248001_2) := (blk_cell BK247.out 1).trans rfl
                    have hfz18_0 := blk_frozen BK247.out 0
                    have hfz18_1 := blk_frozen BK247.out 1
                    go_wp2_with (first | ((with_reducible refine gate_callee (f := 11) rfl ?_); refine goesL_ (some 38) rfl rfl Tryd.func11 (by kernel_rfl) rfl #[.agg #[.int .i64 x248000_2, .int .i64 x248001_2]] rfl (by (try simp only [List.map_toArray, List.map_cons, List.map_nil]); first | done | rfl | (simp only [List.length_drop, List.length_take]; rfl)) ?_; (with_reducible refine (bitmap_First.calls x248000_2 x248001_2 t248 _ A14.out (Dev.laid_below HT.out (by repeat (first | (with_reducible first | exact HB.out | apply below_alloc | apply pw_below_drewN | apply below_drew1 | refine below_set ?_ GE247.out) | exact HB.out)))).mono ?_); rintro e w19 ⟨rfl, hb⟩; refine ⟨_, rfl, ?_⟩; have n0_ := Aside0.mk (blk_below (g := gb247) (o := .cells #[.int .i64 x248000_2, .int .i64 x248001_2] 23 (0, 0)) (by (with_reducible repeat (first | refine blk_drewN ?_ _ | refine blk_drew ?_ | refine blk_alloc ?_ _)); exact BK247.out) hb); have n1_ := Aside0.mk (below_step (by repeat (first | (with_reducible first | exact HB.out | apply below_alloc | apply pw_below_drewN | apply below_drew1 | refine below_set ?_ GE247.out) | exact HB.out)) hb); clear BK247; clear HB; have BK247 := n0_; have HB := n1_; clear n0_ n1_; (try clear hb); (try clear hb2); (try clear hk); (try clear hi); have hcz20_0 : w19.cell? ⟨gb247, 0, none⟩ = some (.int .i64 x248000_2) := (blk_cell BK247.out 0).trans rfl; have hcz20_1 : w19.cell? ⟨gb247, 1, none⟩ = some (.int .i64 x248001_2) := (blk_cell BK247.out 1).trans rfl; have hfz20_0 := blk_frozen BK247.out 0; have hfz20_1 := blk_frozen BK247.out 1) | ((with_reducible refine gate_callee (f := 15) rfl ?_); refine goesL_ (some 44) rfl rfl Tryd.func15 (by kernel_rfl) rfl #[.agg #[.int .i64 x248000_2, .int .i64 x248001_2], .int .i64 x6_2] rfl (by (try simp only [List.map_toArray, List.map_cons, List.map_nil]); first | done | rfl | (simp only [List.length_drop, List.length_take]; rfl)) ?_; (with_reducible refine (bitmap_Take.calls x248000_2 x248001_2 x6_2 t249 t250 true _ A16.out).mono ?_); rintro e w21 ⟨rfl, hb⟩; refine ⟨_, rfl, ?_⟩; have n0_ := Aside0.mk (blk_below (g := gb247) (o := .cells #[.int .i64 x248000_2, .int .i64 x248001_2] 23 (0, 0)) (by (with_reducible repeat (first | refine blk_drewN ?_ _ | refine blk_drew ?_ | refine blk_alloc ?_ _)); exact BK247.out) hb); have n1_ := Aside0.mk (below_step (by repeat (first | (with_reducible first | exact HB.out | apply below_alloc | apply pw_below_drewN | apply below_drew1 | refine below_set ?_ GE247.out) | exact HB.out)) hb); clear BK247; clear HB; have BK247 := n0_; have HB := n1_; clear n0_ n1_; (try clear hb); (try clear hb2); (try clear hk); (try clear hi)) | ((with_reducible refine gate_dst (N := 7) rfl ?_); (try (refine gate_guard (by rfl) ?_; dsimp only)); refine box_event ?hg (N := 7) ?hd (cs := #[.int .i64 0, .int .i64 0]) (t := 23) ?hr ?_; (case hd => rfl); (case hg => rfl); (case hr => first | (go_simp; done) | (go_simp; rfl)); intro gb252 hg w22 hbox hb; have n0_ := Aside0.mk (blk_below (g := gb247) (o := .cells #[.int .i64 x248000_2, .int .i64 x248001_2] 23 (0, 0)) (by (with_reducible repeat (first | refine blk_drewN ?_ _ | refine blk_drew ?_ | refine blk_alloc ?_ _)); exact BK247.out) hb); have n1_ := Aside0.mk (below_step (by repeat (first | (with_reducible first | exact HB.out | apply below_alloc | apply pw_below_drewN | apply below_drew1 | refine below_set ?_ GE247.out) | exact HB.out)) hb); have n2_ := Aside0.mk (hbox); have n3_ := Aside0.mk ((by rw [hg]; exact (below_size (by repeat (first | (with_reducible first | exact HB.out | apply below_alloc | apply pw_below_drewN | apply below_drew1 | refine below_set ?_ GE247.out) | exact HB.out))) : w.heap.size ≤ gb252)); have n4_ := Aside0.mk ((by rw [hg]; exact (below_size (by repeat (first | (with_reducible first | exact HB.out | apply below_alloc | apply pw_below_drewN | apply below_drew1 | refine below_set ?_ GE247.out) | exact HB.out))) : w.heap.size ≤ gb252)); have n5_ := Aside0.mk ((by rw [hg]; exact Nat.ne_of_lt (blk_lt (g := gb247) (o := .cells #[.int .i64 x248000_2, .int .i64 x248001_2] 23 (0, 0)) (by (with_reducible repeat (first | refine blk_drewN ?_ _ | refine blk_drew ?_ | refine blk_alloc ?_ _)); exact BK247.out)) : gb247 ≠ gb252)); have n6_ := Aside0.mk ((by rw [hg]; exact Nat.ne_of_gt (blk_lt (g := gb247) (o := .cells #[.int .i64 x248000_2, .int .i64 x248001_2] 23 (0, 0)) (by (with_reducible repeat (first | refine blk_drewN ?_ _ | refine blk_drew ?_ | refine blk_alloc ?_ _)); exact BK247.out)) : gb252 ≠ gb247)); clear BK247; clear HB; have BK247 := n0_; have HB := n1_; have BK252 := n2_; have GW252 := n3_; have GE252 := n4_; have NB247_252 := n5_; have NB252_247 := n6_; clear n0_ n1_ n2_ n3_ n4_ n5_ n6_; clear hb hbox hg; have hnb23 := NB252_247.out; have hnc23 := NB247_252.out; have hcz24_0 : w22.cell? ⟨gb252, 0, none⟩ = some (.int .i64 0) := (blk_cell BK252.out 0).trans rfl; have hcz24_1 : w22.cell? ⟨gb252, 1, none⟩ = some (.int .i64 0) := (blk_cell BK252.out 1).trans rfl; have hfz24_0 := blk_frozen BK252.out 0; have hfz24_1 := blk_frozen BK252.out 1; have hcz25_0 : w22.cell? ⟨gb247, 0, none⟩ = some (.int .i64 x248000_2) := (blk_cell BK247.out 0).trans rfl; have hcz25_1 : w22.cell? ⟨gb247, 1, none⟩ = some (.int .i64 x248001_2) := (blk_cell BK247.out 1).trans rfl; have hfz25_0 := blk_frozen BK247.out 0; have hfz25_1 := blk_frozen BK247.out 1))
                    go_roundg k2
                    case measure => have := HJ3.out; have := HK2.out; omega
                    case rel => exact ⟨(wrap64 (x6_2 + 1)), (t249), (t250), (by first | rfl | (simp; done) | (simp [*]; done)), H', ⟨by have := HJ3.out; have := HK2.out; omega⟩, ⟨by (with_reducible repeat (first | refine blk_drewN ?_ _ | refine blk_drew ?_ | refine blk_alloc ?_ _)); refine blk_put (cs := #[.int .i64 t249, .int .i64 x248001_2]) ?_ 1 _ rfl; (with_reducible repeat (first | refine blk_drewN ?_ _ | refine blk_drew ?_ | refine blk_alloc ?_ _)); refine blk_put (cs := #[.int .i64 x248000_2, .int .i64 x248001_2]) ?_ 0 _ rfl; (with_reducible repeat (first | refine blk_drewN ?_ _ | refine blk_drew ?_ | refine blk_alloc ?_ _)); refine blk_far ?_ NB247_252.out _; (with_reducible repeat (first | refine blk_drewN ?_ _ | refine blk_drew ?_ | refine blk_alloc ?_ _)); refine blk_far ?_ NB247_252.out _; (with_reducible repeat (first | refine blk_drewN ?_ _ | refine blk_drew ?_ | refine blk_alloc ?_ _)); exact BK247.out⟩, ⟨by repeat (first | (with_reducible first | exact HB.out | apply below_alloc | apply pw_below_drewN | apply below_drew1 | refine below_set ?_ GE247.out | refine below_set ?_ GE252.out) | exact HB.out)⟩⟩
                  · replace c17 := Bool.eq_false_iff.mpr c17
                    subst c17
                    have H1 : (some false) = some r := by rw [if_neg (show ¬ (false = true) by decide)] at H; exact H
                    exact absurd (H1.trans (congrArg some HR.out)) (by decide)
                · rw [if_neg c15] at H
                  have c15b0 : (t248 == x6_2) = false := beq_eq_false_iff_ne.mpr c15
                  have c15b1 : (t248 != x6_2) = true := bne_iff_ne.mpr c15
                  obtain rfl := Option.some.inj H
                  first
                    | exact absurd HR.out (by decide)
                    | skip
                      have hcz33_0 : wr.cell? ⟨gb247, 0, none⟩ = some (.int .i64 x248000_2) := (blk_cell BK247.out 0).trans rfl
                      have hcz33_1 : wr.cell? ⟨gb247, 1, none⟩ = some (.int .i64 x248001_2) := (blk_cell BK247.out 1).trans rfl
                      have hfz33_0 := blk_frozen BK247.out 0
                      have hfz33_1 := blk_frozen BK247.out 1
                      go_wp2_with (first | ((with_reducible refine gate_callee (f := 11) rfl ?_); refine goesL_ (some 38) rfl rfl Tryd.func11 (by kernel_rfl) rfl #[.agg #[.int .i64 x248000_2, .int .i64 x248001_2]] rfl (by (try simp only [List.map_toArray, List.map_cons, List.map_nil]); first | done | rfl | (simp only [List.length_drop, List.length_take]; rfl)) ?_; (with_reducible refine (bitmap_First.calls x248000_2 x248001_2 t248 _ A14.out (Dev.laid_below HT.out (by repeat (first | (with_reducible first | exact HB.out | apply below_alloc | apply pw_below_drewN | apply below_drew1 | refine below_set ?_ GE247.out) | exact HB.out)))).mono ?_); rintro e w34 ⟨rfl, hb⟩; refine ⟨_, rfl, ?_⟩; have n0_ := Aside0.mk (blk_below (g := gb247) (o := .cells #[.int .i64 x248000_2, .int .i64 x248001_2] 23 (0, 0)) (by (with_reducible repeat (first | refine blk_drewN ?_ _ | refine blk_drew ?_ | refine blk_alloc ?_ _)); exact BK247.out) hb); have n1_ := Aside0.mk (below_step (by repeat (first | (with_reducible first | exact HB.out | apply below_alloc | apply pw_below_drewN | apply below_drew1 | refine below_set ?_ GE247.out) | exact HB.out)) hb); clear BK247; clear HB; have BK247 := n0_; have HB := n1_; clear n0_ n1_; (try clear hb); (try clear hb2); (try clear hk); (try clear hi)))
                      go_ret
                      exact ⟨by first | rfl | (simp [errW_none, errW_some] <;> rfl) | (simp [*, errW_none, errW_some] <;> rfl), by repeat (first | (with_reducible first | exact HB.out | apply below_alloc | apply pw_below_drewN | apply below_drew1 | refine below_set ?_ GE247.out) | exact HB.out)⟩
              · rw [if_neg c13] at H
                have c13b0 : decide (x6_2 < a0) = false := decide_eq_false c13
                clear c13
                replace H := Option.bind_eq_some_iff.mp H
                obtain ⟨t253, A350, H⟩ := H
                replace H : (if t253 = (-1) then ((bitmap_Count.f x248000_2 x248001_2).bind fun t254 => (if t254 = a0 then ((bitmap_Free.f x248000_2 x248001_2).bind fun t255 => (some ((t255.length : Int) == 0))) else (some false))) else (some false)) = some r := H
                have A35 := Aside0.mk A350
                clear A350
                by_cases c36 : t253 = (-1)
                · rw [if_pos c36] at H
                  have c36b0 : (t253 == (-1)) = true := beq_iff_eq.mpr c36
                  have c36b1 : (t253 != (-1)) = false := bne_eq_false_iff_eq.mpr c36
                  clear c36
                  replace H := Option.bind_eq_some_iff.mp H
                  obtain ⟨t254, A370, H⟩ := H
                  replace H : (if t254 = a0 then ((bitmap_Free.f x248000_2 x248001_2).bind fun t255 => (some ((t255.length : Int) == 0))) else (some false)) = some r := H
                  have A37 := Aside0.mk A370
                  clear A370
                  by_cases c38 : t254 = a0
                  · rw [if_pos c38] at H
                    have c38b0 : (t254 == a0) = true := beq_iff_eq.mpr c38
                    have c38b1 : (t254 != a0) = false := bne_eq_false_iff_eq.mpr c38
                    clear c38
                    replace H := Option.bind_eq_some_iff.mp H
                    obtain ⟨t255, A390, H⟩ := H
                    replace H : (some ((t255.length : Int) == 0)) = some r := H
                    have A39 := Aside0.mk A390
                    clear A390
                    obtain rfl := Option.some.inj H
                    first
                      | exact absurd HR.out (by decide)
                      | skip
                        have hcz40_0 : wr.cell? ⟨gb247, 0, none⟩ = some (.int .i64 x248000_2) := (blk_cell BK247.out 0).trans rfl
                        have hcz40_1 : wr.cell? ⟨gb247, 1, none⟩ = some (.int .i64 x248001_2) := (blk_cell BK247.out 1).trans rfl
                        have hfz40_0 := blk_frozen BK247.out 0
                        have hfz40_1 := blk_frozen BK247.out 1
                        go_wp2_with (first | ((with_reducible refine gate_callee (f := 11) rfl ?_); refine goesL_ (some 51) rfl rfl Tryd.func11 (by kernel_rfl) rfl #[.agg #[.int .i64 x248000_2, .int .i64 x248001_2]] rfl (by (try simp only [List.map_toArray, List.map_cons, List.map_nil]); first | done | rfl | (simp only [List.length_drop, List.length_take]; rfl)) ?_; (with_reducible refine (bitmap_First.calls x248000_2 x248001_2 t253 _ A35.out (Dev.laid_below HT.out (by repeat (first | (with_reducible first | exact HB.out | apply below_alloc | apply pw_below_drewN | apply below_drew1 | refine below_set ?_ GE247.out) | exact HB.out)))).mono ?_); rintro e w41 ⟨rfl, hb⟩; refine ⟨_, rfl, ?_⟩; have n0_ := Aside0.mk (blk_below (g := gb247) (o := .cells #[.int .i64 x248000_2, .int .i64 x248001_2] 23 (0, 0)) (by (with_reducible repeat (first | refine blk_drewN ?_ _ | refine blk_drew ?_ | refine blk_alloc ?_ _)); exact BK247.out) hb); have n1_ := Aside0.mk (below_step (by repeat (first | (with_reducible first | exact HB.out | apply below_alloc | apply pw_below_drewN | apply below_drew1 | refine below_set ?_ GE247.out) | exact HB.out)) hb); clear BK247; clear HB; have BK247 := n0_; have HB := n1_; clear n0_ n1_; (try clear hb); (try clear hb2); (try clear hk); (try clear hi); have hcz42_0 : w41.cell? ⟨gb247, 0, none⟩ = some (.int .i64 x248000_2) := (blk_cell BK247.out 0).trans rfl; have hcz42_1 : w41.cell? ⟨gb247, 1, none⟩ = some (.int .i64 x248001_2) := (blk_cell BK247.out 1).trans rfl; have hfz42_0 := blk_frozen BK247.out 0; have hfz42_1 := blk_frozen BK247.out 1) | (go_at_call 13; (with_reducible refine (bitmap_Count.calls x248000_2 x248001_2 t254 _ A37.out).mono ?_); rintro e w43 ⟨rfl, hb⟩; have n0_ := Aside0.mk (blk_below (g := gb247) (o := .cells #[.int .i64 x248000_2, .int .i64 x248001_2] 23 (0, 0)) (by (with_reducible repeat (first | refine blk_drewN ?_ _ | refine blk_drew ?_ | refine blk_alloc ?_ _)); exact BK247.out) hb); have n1_ := Aside0.mk (below_step (by repeat (first | (with_reducible first | exact HB.out | apply below_alloc | apply pw_below_drewN | apply below_drew1 | refine below_set ?_ GE247.out) | exact HB.out)) hb); clear BK247; clear HB; have BK247 := n0_; have HB := n1_; clear n0_ n1_; (try clear hb); (try clear hb2); (try clear hk); (try clear hi); have hcz44_0 : w43.cell? ⟨gb247, 0, none⟩ = some (.int .i64 x248000_2) := (blk_cell BK247.out 0).trans rfl; have hcz44_1 : w43.cell? ⟨gb247, 1, none⟩ = some (.int .i64 x248001_2) := (blk_cell BK247.out 1).trans rfl; have hfz44_0 := blk_frozen BK247.out 0; have hfz44_1 := blk_frozen BK247.out 1) | (go_at_call 10; (with_reducible refine (bitmap_Free.calls x248000_2 x248001_2 t255 _ A39.out (Dev.laid_below HT.out (by repeat (first | (with_reducible first | exact HB.out | apply below_alloc | apply pw_below_drewN | apply below_drew1 | refine below_set ?_ GE247.out) | exact HB.out)))).mono ?_); rintro e w45 ⟨v256, rfl, ho0, hb⟩; have n0_ := Aside0.mk (Kd.R_lower ho0 (below_size (by repeat (first | (with_reducible first | exact HB.out | apply below_alloc | apply pw_below_drewN | apply below_drew1 | refine below_set ?_ GE247.out) | exact HB.out)))); have n1_ := Aside0.mk (blk_below (g := gb247) (o := .cells #[.int .i64 x248000_2, .int .i64 x248001_2] 23 (0, 0)) (by (with_reducible repeat (first | refine blk_drewN ?_ _ | refine blk_drew ?_ | refine blk_alloc ?_ _)); exact BK247.out) hb); have n2_ := Aside0.mk (below_step (by repeat (first | (with_reducible first | exact HB.out | apply below_alloc | apply pw_below_drewN | apply below_drew1 | refine below_set ?_ GE247.out) | exact HB.out)) hb); clear BK247; clear HB; have HO257 := n0_; have BK247 := n1_; have HB := n2_; clear n0_ n1_ n2_; (try clear hb); (try clear hb2); (try clear hk); (try clear hi); (try clear ho0); obtain ⟨Ao46, co46, eo46⟩ := Kd.R_slice HO257.out; subst eo46))
                        go_ret
                        exact ⟨by first | rfl | (simp [errW_none, errW_some] <;> rfl) | (simp [*, errW_none, errW_some] <;> rfl), by repeat (first | (with_reducible first | exact HB.out | apply below_alloc | apply pw_below_drewN | apply below_drew1 | refine below_set ?_ GE247.out) | exact HB.out)⟩
                  · rw [if_neg c38] at H
                    have c38b0 : (t254 == a0) = false := beq_eq_false_iff_ne.mpr c38
                    have c38b1 : (t254 != a0) = true := bne_iff_ne.mpr c38
                    obtain rfl := Option.some.inj H
                    first
                      | exact absurd HR.out (by decide)
                      | skip
                        have hcz47_0 : wr.cell? ⟨gb247, 0, none⟩ = some (.int .i64 x248000_2) := (blk_cell BK247.out 0).trans rfl
                        have hcz47_1 : wr.cell? ⟨gb247, 1, none⟩ = some (.int .i64 x248001_2) := (blk_cell BK247.out 1).trans rfl
                        have hfz47_0 := blk_frozen BK247.out 0
                        have hfz47_1 := blk_frozen BK247.out 1
                        go_wp2_with (first | ((with_reducible refine gate_callee (f := 11) rfl ?_); refine goesL_ (some 51) rfl rfl Tryd.func11 (by kernel_rfl) rfl #[.agg #[.int .i64 x248000_2, .int .i64 x248001_2]] rfl (by (try simp only [List.map_toArray, List.map_cons, List.map_nil]); first | done | rfl | (simp only [List.length_drop, List.length_take]; rfl)) ?_; (with_reducible refine (bitmap_First.calls x248000_2 x248001_2 t253 _ A35.out (Dev.laid_below HT.out (by repeat (first | (with_reducible first | exact HB.out | apply below_alloc | apply pw_below_drewN | apply below_drew1 | refine below_set ?_ GE247.out) | exact HB.out)))).mono ?_); rintro e w48 ⟨rfl, hb⟩; refine ⟨_, rfl, ?_⟩; have n0_ := Aside0.mk (blk_below (g := gb247) (o := .cells #[.int .i64 x248000_2, .int .i64 x248001_2] 23 (0, 0)) (by (with_reducible repeat (first | refine blk_drewN ?_ _ | refine blk_drew ?_ | refine blk_alloc ?_ _)); exact BK247.out) hb); have n1_ := Aside0.mk (below_step (by repeat (first | (with_reducible first | exact HB.out | apply below_alloc | apply pw_below_drewN | apply below_drew1 | refine below_set ?_ GE247.out) | exact HB.out)) hb); clear BK247; clear HB; have BK247 := n0_; have HB := n1_; clear n0_ n1_; (try clear hb); (try clear hb2); (try clear hk); (try clear hi); have hcz49_0 : w48.cell? ⟨gb247, 0, none⟩ = some (.int .i64 x248000_2) := (blk_cell BK247.out 0).trans rfl; have hcz49_1 : w48.cell? ⟨gb247, 1, none⟩ = some (.int .i64 x248001_2) := (blk_cell BK247.out 1).trans rfl; have hfz49_0 := blk_frozen BK247.out 0; have hfz49_1 := blk_frozen BK247.out 1) | (go_at_call 13; (with_reducible refine (bitmap_Count.calls x248000_2 x248001_2 t254 _ A37.out).mono ?_); rintro e w50 ⟨rfl, hb⟩; have n0_ := Aside0.mk (blk_below (g := gb247) (o := .cells #[.int .i64 x248000_2, .int .i64 x248001_2] 23 (0, 0)) (by (with_reducible repeat (first | refine blk_drewN ?_ _ | refine blk_drew ?_ | refine blk_alloc ?_ _)); exact BK247.out) hb); have n1_ := Aside0.mk (below_step (by repeat (first | (with_reducible first | exact HB.out | apply below_alloc | apply pw_below_drewN | apply below_drew1 | refine below_set ?_ GE247.out) | exact HB.out)) hb); clear BK247; clear HB; have BK247 := n0_; have HB := n1_; clear n0_ n1_; (try clear hb); (try clear hb2); (try clear hk); (try clear hi)))
                        go_ret
                        exact ⟨by first | rfl | (simp [errW_none, errW_some] <;> rfl) | (simp [*, errW_none, errW_some] <;> rfl), by repeat (first | (with_reducible first | exact HB.out | apply below_alloc | apply pw_below_drewN | apply below_drew1 | refine below_set ?_ GE247.out) | exact HB.out)⟩
                · rw [if_neg c36] at H
                  have c36b0 : (t253 == (-1)) = false := beq_eq_false_iff_ne.mpr c36
                  have c36b1 : (t253 != (-1)) = true := bne_iff_ne.mpr c36
                  obtain rfl := Option.some.inj H
                  first
                    | exact absurd HR.out (by decide)
                    | skip
                      have hcz51_0 : wr.cell? ⟨gb247, 0, none⟩ = some (.int .i64 x248000_2) := (blk_cell BK247.out 0).trans rfl
                      have hcz51_1 : wr.cell? ⟨gb247, 1, none⟩ = some (.int .i64 x248001_2) := (blk_cell BK247.out 1).trans rfl
                      have hfz51_0 := blk_frozen BK247.out 0
                      have hfz51_1 := blk_frozen BK247.out 1
                      go_wp2_with (first | ((with_reducible refine gate_callee (f := 11) rfl ?_); refine goesL_ (some 51) rfl rfl Tryd.func11 (by kernel_rfl) rfl #[.agg #[.int .i64 x248000_2, .int .i64 x248001_2]] rfl (by (try simp only [List.map_toArray, List.map_cons, List.map_nil]); first | done | rfl | (simp only [List.length_drop, List.length_take]; rfl)) ?_; (with_reducible refine (bitmap_First.calls x248000_2 x248001_2 t253 _ A35.out (Dev.laid_below HT.out (by repeat (first | (with_reducible first | exact HB.out | apply below_alloc | apply pw_below_drewN | apply below_drew1 | refine below_set ?_ GE247.out) | exact HB.out)))).mono ?_); rintro e w52 ⟨rfl, hb⟩; refine ⟨_, rfl, ?_⟩; have n0_ := Aside0.mk (blk_below (g := gb247) (o := .cells #[.int .i64 x248000_2, .int .i64 x248001_2] 23 (0, 0)) (by (with_reducible repeat (first | refine blk_drewN ?_ _ | refine blk_drew ?_ | refine blk_alloc ?_ _)); exact BK247.out) hb); have n1_ := Aside0.mk (below_step (by repeat (first | (with_reducible first | exact HB.out | apply below_alloc | apply pw_below_drewN | apply below_drew1 | refine below_set ?_ GE247.out) | exact HB.out)) hb); clear BK247; clear HB; have BK247 := n0_; have HB := n1_; clear n0_ n1_; (try clear hb); (try clear hb2); (try clear hk); (try clear hi)))
                      go_ret
                      exact ⟨by first | rfl | (simp [errW_none, errW_some] <;> rfl) | (simp [*, errW_none, errW_some] <;> rfl), by repeat (first | (with_reducible first | exact HB.out | apply below_alloc | apply pw_below_drewN | apply below_drew1 | refine below_set ?_ GE247.out) | exact HB.out)⟩
        · replace c12 := Bool.eq_false_iff.mpr c12
          subst c12
          have H1 : (some (t244 == 0 && (t245 == 0))) = some r := by rw [if_neg (show ¬ (false = true) by decide)] at H; exact H
          clear H
          have H := H1
          clear H1
          obtain rfl := Option.some.inj H
          first
            | exact absurd HR.out (by decide)
            | skip
              have hcz53_0 : wc.cell? ⟨gb247, 0, none⟩ = some (.int .i64 t244) := (blk_cell BK247.out 0).trans rfl
              have hcz53_1 : wc.cell? ⟨gb247, 1, none⟩ = some (.int .i64 t245) := (blk_cell BK247.out 1).trans rfl
              have hfz53_0 := blk_frozen BK247.out 0
              have hfz53_1 := blk_frozen BK247.out 1
              go_wp2
              go_ret
              exact ⟨by first | rfl | (simp [errW_none, errW_some] <;> rfl) | (simp [*, errW_none, errW_some] <;> rfl), by repeat (first | (with_reducible first | exact HB.out | apply below_alloc | apply pw_below_drewN | apply below_drew1 | refine below_set ?_ GE247.out) | exact HB.out)⟩

/-- THE ONE PURE STATEMENT of mooringslaw09_MapFills: yours. -/
def mooringslaw09_MapFills.Pure : Prop := ∀ (a0 : Int), (Lit.int .i64 a0).wf = true → ∃ k, mooringslaw09_MapFills.f k a0 = some true
theorem mooringslaw09_MapFills.walk (P : mooringslaw09_MapFills.Pure) (a0 : Int) (w : World) (w0 : (Lit.int .i64 a0).wf = true) (hT0 : Dev.Laid w) :
    Calls Tryd.prog 4 #[.int .i64 a0] w fun e w' => e = .returned (.bool true) ∧ Below w.heap.size w w' := by
  obtain ⟨k, h⟩ := P a0 w0
  refine (mooringslaw09_MapFills.calls k a0 true w h hT0 rfl).mono ?_
  rintro e w' ⟨rfl, hd⟩
  exact ⟨rfl, hd⟩

end Go.Proofs.YthjdjljiafpebaaDoor.P
