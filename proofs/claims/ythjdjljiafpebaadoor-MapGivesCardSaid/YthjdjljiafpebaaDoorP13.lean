-- Laid by this session's own program (wip/myprint.py): Lean functions for the Go functions that a law reaches, and their contracts. Not trusted: Lean checks it.
import Derived.Test.YthjdjljiafpebaaDoorP0
import Derived.Test.YthjdjljiafpebaaDoorP1
import Derived.Test.YthjdjljiafpebaaDoorP2
import Derived.Test.YthjdjljiafpebaaDoorP3
import Derived.Test.YthjdjljiafpebaaDoorP5
namespace Go.Proofs.YthjdjljiafpebaaDoor.P
open Go.RowKit Go.Proofs.YthjdjljiafpebaaDoorW.PrintWords Go.Proofs.YthjdjljiafpebaaDoorW.PrintLast Go.Proofs.YthjdjljiafpebaaDoorW.PrintMore
attribute [local go_sem] max2_int min2_int max_two min_two max_three min_three max_four min_four   -- for this text's walks alone
set_option linter.unusedVariables false
set_option linter.unusedSimpArgs false

attribute [local go_sem high] eqA23
/-! ### mooringslaw09_MapGives: function 8 -/
def mooringslaw09_MapGives.j0 : Nat → Int → Int → Bool → Bool → Int → Int → Option (Bool)
  | 0, _, _, _, _, _, _ => none
  | k + 1, x1, x6, x8, x36, x283000, x283001 => if x36 = true then (some false) else (if x8 = true then ((bitmap_First.f x283000 x283001).bind fun t284 => ((bitmap_Has.f x283000 x283001 x1).bind fun t285 => (if t285 = true then (some false) else (if x6 = (-1) then (if (true == (t284 == x1)) = true then (if t284 = x1 then (some true) else (some (t284 == x6))) else (some false)) else (if ((decide (x1 < x6)) == (t284 == x1)) = true then (if t284 = x1 then (some true) else (some (t284 == x6))) else (some false)))))) else (some true))
def mooringslaw09_MapGives.f (k : Nat) (a0_0 : Int) (a0_1 : Int) (a1 : Int) : Option (Bool) := (mooringslaw09_awake.f).bind fun t277 => ((bitmap_First.f a0_0 a0_1).bind fun t278 => ((bitmap_Give.f a0_0 a0_1 a1).bind fun bt279 => (if t277 = true then ((bitmap_Has.f a0_0 a0_1 a1).bind fun t283 => (if (bt279.2.2 != t283) = true then (mooringslaw09_MapGives.j0 k a1 t278 bt279.2.2 true bt279.1 bt279.2.1) else (if bt279.2.2 = true then (mooringslaw09_MapGives.j0 k a1 t278 bt279.2.2 false bt279.1 bt279.2.1) else (mooringslaw09_MapGives.j0 k a1 t278 bt279.2.2 (!(bt279.1 == a0_0) || (!(bt279.2.1 == a0_1))) bt279.1 bt279.2.1)))) else (mooringslaw09_MapGives.j0 k a1 t278 bt279.2.2 true bt279.1 bt279.2.1))))
theorem mooringslaw09_MapGives.mono_l : ∀ k, (∀ y0 y1 y2 y3 y4 y5, LeO (mooringslaw09_MapGives.j0 k y0 y1 y2 y3 y4 y5) (mooringslaw09_MapGives.j0 (k + 1) y0 y1 y2 y3 y4 y5))
  | 0 => fun _ _ _ _ _ _ r h => by simp [mooringslaw09_MapGives.j0] at h
  | k + 1 => by
    have ih0 := mooringslaw09_MapGives.mono_l k
    · intro y0 y1 y2 y3 y4 y5
      unfold mooringslaw09_MapGives.j0
      repeat' first
      | (with_reducible exact ih0 _ _ _ _ _ _)
      | (with_reducible exact LeO.refl _)
      | (with_reducible exact LeO.none _)
      | (with_reducible refine LeO.ite ?_ ?_)
      | (with_reducible refine LeO.bind ?_ (fun _ => ?_))
      | exact ih0 _ _ _ _ _ _
      | exact LeO.none _
      | refine LeO.ite ?_ ?_
      | refine LeO.bind ?_ (fun _ => ?_)
theorem mooringslaw09_MapGives.mono : ∀ a0 a1 a2 k, LeO (mooringslaw09_MapGives.f k a0 a1 a2) (mooringslaw09_MapGives.f (k + 1) a0 a1 a2) := by
  intro a0 a1 a2 k
  have ih0 := mooringslaw09_MapGives.mono_l k
  unfold mooringslaw09_MapGives.f
  repeat' first
      | (with_reducible exact ih0 _ _ _ _ _ _)
      | (with_reducible exact LeO.refl _)
      | (with_reducible exact LeO.none _)
      | (with_reducible refine LeO.ite ?_ ?_)
      | (with_reducible refine LeO.bind ?_ (fun _ => ?_))
      | exact ih0 _ _ _ _ _ _
      | exact LeO.none _
      | refine LeO.ite ?_ ?_
      | refine LeO.bind ?_ (fun _ => ?_)
set_option maxHeartbeats 8000000 in
set_option maxRecDepth 100000 in
theorem mooringslaw09_MapGives.calls (k : Nat) (a0_0 : Int) (a0_1 : Int) (a1 : Int) (r : Bool) (w : World) (h : mooringslaw09_MapGives.f k a0_0 a0_1 a1 = some r) (hT0 : Dev.Laid w) (hR0 : r = true) :
    Calls Tryd.prog 8 #[.agg #[.int .i64 a0_0, .int .i64 a0_1], .int .i64 a1] w fun e w' => e = .returned (.bool r) ∧ Below w.heap.size w w' := by
  have HR := Aside0.mk hR0
  clear hR0
  have HT := Aside0.mk hT0
  clear hT0
  have hu23 := Tryd.underlying23
  have HB := Aside0.mk (Below.refl w.heap.size w)
  have H : ((mooringslaw09_awake.f).bind fun t277 => ((bitmap_First.f a0_0 a0_1).bind fun t278 => ((bitmap_Give.f a0_0 a0_1 a1).bind fun bt279 => (if t277 = true then ((bitmap_Has.f a0_0 a0_1 a1).bind fun t283 => (if (bt279.2.2 != t283) = true then (mooringslaw09_MapGives.j0 k a1 t278 bt279.2.2 true bt279.1 bt279.2.1) else (if bt279.2.2 = true then (mooringslaw09_MapGives.j0 k a1 t278 bt279.2.2 false bt279.1 bt279.2.1) else (mooringslaw09_MapGives.j0 k a1 t278 bt279.2.2 (!(bt279.1 == a0_0) || (!(bt279.2.1 == a0_1))) bt279.1 bt279.2.1)))) else (mooringslaw09_MapGives.j0 k a1 t278 bt279.2.2 true bt279.1 bt279.2.1))))) = some r := h
  clear h
  replace H := Option.bind_eq_some_iff.mp H
  obtain ⟨t277, A30, H⟩ := H
  replace H : ((bitmap_First.f a0_0 a0_1).bind fun t278 => ((bitmap_Give.f a0_0 a0_1 a1).bind fun bt279 => (if t277 = true then ((bitmap_Has.f a0_0 a0_1 a1).bind fun t283 => (if (bt279.2.2 != t283) = true then (mooringslaw09_MapGives.j0 k a1 t278 bt279.2.2 true bt279.1 bt279.2.1) else (if bt279.2.2 = true then (mooringslaw09_MapGives.j0 k a1 t278 bt279.2.2 false bt279.1 bt279.2.1) else (mooringslaw09_MapGives.j0 k a1 t278 bt279.2.2 (!(bt279.1 == a0_0) || (!(bt279.2.1 == a0_1))) bt279.1 bt279.2.1)))) else (mooringslaw09_MapGives.j0 k a1 t278 bt279.2.2 true bt279.1 bt279.2.1)))) = some r := H
  have A3 := Aside0.mk A30
  clear A30
  replace H := Option.bind_eq_some_iff.mp H
  obtain ⟨t278, A40, H⟩ := H
  replace H : ((bitmap_Give.f a0_0 a0_1 a1).bind fun bt279 => (if t277 = true then ((bitmap_Has.f a0_0 a0_1 a1).bind fun t283 => (if (bt279.2.2 != t283) = true then (mooringslaw09_MapGives.j0 k a1 t278 bt279.2.2 true bt279.1 bt279.2.1) else (if bt279.2.2 = true then (mooringslaw09_MapGives.j0 k a1 t278 bt279.2.2 false bt279.1 bt279.2.1) else (mooringslaw09_MapGives.j0 k a1 t278 bt279.2.2 (!(bt279.1 == a0_0) || (!(bt279.2.1 == a0_1))) bt279.1 bt279.2.1)))) else (mooringslaw09_MapGives.j0 k a1 t278 bt279.2.2 true bt279.1 bt279.2.1))) = some r := H
  have A4 := Aside0.mk A40
  clear A40
  replace H := Option.bind_eq_some_iff.mp H
  obtain ⟨⟨t279, t280, t281⟩, A50, H⟩ := H
  replace H : (if t277 = true then ((bitmap_Has.f a0_0 a0_1 a1).bind fun t283 => (if (t281 != t283) = true then (mooringslaw09_MapGives.j0 k a1 t278 t281 true t279 t280) else (if t281 = true then (mooringslaw09_MapGives.j0 k a1 t278 t281 false t279 t280) else (mooringslaw09_MapGives.j0 k a1 t278 t281 (!(t279 == a0_0) || (!(t280 == a0_1))) t279 t280)))) else (mooringslaw09_MapGives.j0 k a1 t278 t281 true t279 t280)) = some r := H
  have A5 := Aside0.mk A50
  clear A50
  have HC6 := Aside0.mk H
  clear H
  go_enter Tryd.func8, Tryd.ntmps8
  go_upto_region 4 with (first | ((with_reducible refine gate_dst (N := 2) rfl ?_); refine box_event ?hg (N := 2) ?hd (cs := #[.int .i64 a0_0, .int .i64 a0_1]) (t := 23) ?hr ?_; (case hd => rfl); (case hg => rfl); (case hr => first | (go_simp; done) | (go_simp; rfl)); intro gb276 hg w7 hbox hb; have n0_ := Aside0.mk (below_step (by repeat (first | (with_reducible first | exact HB.out | apply below_alloc | apply pw_below_drewN | apply below_drew1) | exact HB.out)) hb); have n1_ := Aside0.mk (hbox); have n2_ := Aside0.mk ((by rw [hg]; exact (below_size (by repeat (first | (with_reducible first | exact HB.out | apply below_alloc | apply pw_below_drewN | apply below_drew1) | exact HB.out))) : w.heap.size ≤ gb276)); have n3_ := Aside0.mk ((by rw [hg]; exact (below_size (by repeat (first | (with_reducible first | exact HB.out | apply below_alloc | apply pw_below_drewN | apply below_drew1) | exact HB.out))) : w.heap.size ≤ gb276)); clear HB; have HB := n0_; have BK276 := n1_; have GW276 := n2_; have GE276 := n3_; clear n0_ n1_ n2_ n3_; clear hb hbox hg) | ((with_reducible refine gate_callee (f := 9) rfl ?_); refine goesL_ (some 10) rfl rfl Tryd.func9 (by kernel_rfl) rfl #[] rfl (by (try simp only [List.map_toArray, List.map_cons, List.map_nil]); first | done | rfl | (simp only [List.length_drop, List.length_take]; rfl)) ?_; (with_reducible refine (mooringslaw09_awake.calls  t277 _ A3.out (Dev.laid_below HT.out (by repeat (first | (with_reducible first | exact HB.out | apply below_alloc | apply pw_below_drewN | apply below_drew1 | refine below_set ?_ GE276.out) | exact HB.out)))).mono ?_); rintro e w8 ⟨rfl, hb⟩; refine ⟨_, rfl, ?_⟩; have n0_ := Aside0.mk (blk_below (g := gb276) (o := .cells #[.int .i64 a0_0, .int .i64 a0_1] 23 (0, 0)) (by (with_reducible repeat (first | refine blk_drewN ?_ _ | refine blk_drew ?_ | refine blk_alloc ?_ _)); exact BK276.out) hb); have n1_ := Aside0.mk (below_step (by repeat (first | (with_reducible first | exact HB.out | apply below_alloc | apply pw_below_drewN | apply below_drew1 | refine below_set ?_ GE276.out) | exact HB.out)) hb); clear BK276; clear HB; have BK276 := n0_; have HB := n1_; clear n0_ n1_; (try clear hb); (try clear hb2); (try clear hk); (try clear hi); have hcz9_0 : w8.cell? ⟨gb276, 0, none⟩ = some (.int .i64 a0_0) := (blk_cell BK276.out 0).trans rfl; have hcz9_1 : w8.cell? ⟨gb276, 1, none⟩ = some (.int .i64 a0_1) := (blk_cell BK276.out 1).trans rfl; have hfz9_0 := blk_frozen BK276.out 0; have hfz9_1 := blk_frozen BK276.out 1) | ((with_reducible refine gate_callee (f := 11) rfl ?_); refine goesL_ (some 12) rfl rfl Tryd.func11 (by kernel_rfl) rfl #[.agg #[.int .i64 a0_0, .int .i64 a0_1]] rfl (by (try simp only [List.map_toArray, List.map_cons, List.map_nil]); first | done | rfl | (simp only [List.length_drop, List.length_take]; rfl)) ?_; (with_reducible refine (bitmap_First.calls a0_0 a0_1 t278 _ A4.out (Dev.laid_below HT.out (by repeat (first | (with_reducible first | exact HB.out | apply below_alloc | apply pw_below_drewN | apply below_drew1 | refine below_set ?_ GE276.out) | exact HB.out)))).mono ?_); rintro e w10 ⟨rfl, hb⟩; refine ⟨_, rfl, ?_⟩; have n0_ := Aside0.mk (blk_below (g := gb276) (o := .cells #[.int .i64 a0_0, .int .i64 a0_1] 23 (0, 0)) (by (with_reducible repeat (first | refine blk_drewN ?_ _ | refine blk_drew ?_ | refine blk_alloc ?_ _)); exact BK276.out) hb); have n1_ := Aside0.mk (below_step (by repeat (first | (with_reducible first | exact HB.out | apply below_alloc | apply pw_below_drewN | apply below_drew1 | refine below_set ?_ GE276.out) | exact HB.out)) hb); clear BK276; clear HB; have BK276 := n0_; have HB := n1_; clear n0_ n1_; (try clear hb); (try clear hb2); (try clear hk); (try clear hi); have hcz11_0 : w10.cell? ⟨gb276, 0, none⟩ = some (.int .i64 a0_0) := (blk_cell BK276.out 0).trans rfl; have hcz11_1 : w10.cell? ⟨gb276, 1, none⟩ = some (.int .i64 a0_1) := (blk_cell BK276.out 1).trans rfl; have hfz11_0 := blk_frozen BK276.out 0; have hfz11_1 := blk_frozen BK276.out 1) | ((with_reducible refine gate_callee (f := 18) rfl ?_); refine goesL_ (some 16) rfl rfl Tryd.func18 (by kernel_rfl) rfl #[.agg #[.int .i64 a0_0, .int .i64 a0_1], .int .i64 a1] rfl (by (try simp only [List.map_toArray, List.map_cons, List.map_nil]); first | done | rfl | (simp only [List.length_drop, List.length_take]; rfl)) ?_; (with_reducible refine (bitmap_Give.calls a0_0 a0_1 a1 t279 t280 t281 _ A5.out).mono ?_); rintro e w12 ⟨rfl, hb⟩; refine ⟨_, rfl, ?_⟩; have n0_ := Aside0.mk (blk_below (g := gb276) (o := .cells #[.int .i64 a0_0, .int .i64 a0_1] 23 (0, 0)) (by (with_reducible repeat (first | refine blk_drewN ?_ _ | refine blk_drew ?_ | refine blk_alloc ?_ _)); exact BK276.out) hb); have n1_ := Aside0.mk (below_step (by repeat (first | (with_reducible first | exact HB.out | apply below_alloc | apply pw_below_drewN | apply below_drew1 | refine below_set ?_ GE276.out) | exact HB.out)) hb); clear BK276; clear HB; have BK276 := n0_; have HB := n1_; clear n0_ n1_; (try clear hb); (try clear hb2); (try clear hk); (try clear hi)) | ((with_reducible refine gate_dst (N := 7) rfl ?_); refine box_event ?hg (N := 7) ?hd (cs := #[.int .i64 0, .int .i64 0]) (t := 23) ?hr ?_; (case hd => rfl); (case hg => rfl); (case hr => first | (go_simp; done) | (go_simp; rfl)); intro gb282 hg w13 hbox hb; have n0_ := Aside0.mk (blk_below (g := gb276) (o := .cells #[.int .i64 a0_0, .int .i64 a0_1] 23 (0, 0)) (by (with_reducible repeat (first | refine blk_drewN ?_ _ | refine blk_drew ?_ | refine blk_alloc ?_ _)); exact BK276.out) hb); have n1_ := Aside0.mk (below_step (by repeat (first | (with_reducible first | exact HB.out | apply below_alloc | apply pw_below_drewN | apply below_drew1 | refine below_set ?_ GE276.out) | exact HB.out)) hb); have n2_ := Aside0.mk (hbox); have n3_ := Aside0.mk ((by rw [hg]; exact (below_size (by repeat (first | (with_reducible first | exact HB.out | apply below_alloc | apply pw_below_drewN | apply below_drew1 | refine below_set ?_ GE276.out) | exact HB.out))) : w.heap.size ≤ gb282)); have n4_ := Aside0.mk ((by rw [hg]; exact (below_size (by repeat (first | (with_reducible first | exact HB.out | apply below_alloc | apply pw_below_drewN | apply below_drew1 | refine below_set ?_ GE276.out) | exact HB.out))) : w.heap.size ≤ gb282)); have n5_ := Aside0.mk ((by rw [hg]; exact Nat.ne_of_lt (blk_lt (g := gb276) (o := .cells #[.int .i64 a0_0, .int .i64 a0_1] 23 (0, 0)) (by (with_reducible repeat (first | refine blk_drewN ?_ _ | refine blk_drew ?_ | refine blk_alloc ?_ _)); exact BK276.out)) : gb276 ≠ gb282)); have n6_ := Aside0.mk ((by rw [hg]; exact Nat.ne_of_gt (blk_lt (g := gb276) (o := .cells #[.int .i64 a0_0, .int .i64 a0_1] 23 (0, 0)) (by (with_reducible repeat (first | refine blk_drewN ?_ _ | refine blk_drew ?_ | refine blk_alloc ?_ _)); exact BK276.out)) : gb282 ≠ gb276)); clear BK276; clear HB; have BK276 := n0_; have HB := n1_; have BK282 := n2_; have GW282 := n3_; have GE282 := n4_; have NB276_282 := n5_; have NB282_276 := n6_; clear n0_ n1_ n2_ n3_ n4_ n5_ n6_; clear hb hbox hg; have hnb14 := NB282_276.out; have hnc14 := NB276_282.out; have hcz15_0 : w13.cell? ⟨gb282, 0, none⟩ = some (.int .i64 0) := (blk_cell BK282.out 0).trans rfl; have hcz15_1 : w13.cell? ⟨gb282, 1, none⟩ = some (.int .i64 0) := (blk_cell BK282.out 1).trans rfl; have hfz15_0 := blk_frozen BK282.out 0; have hfz15_1 := blk_frozen BK282.out 1))
  (try simp only [Act.put, List.setIfInBounds_toArray, List.set_cons_zero, List.set_cons_succ])
  go_cut [36] (fun v36 wc => ∃ (kq : Nat) (x36_5 : Bool), v36 = .bool x36_5 ∧ Aside0 (mooringslaw09_MapGives.j0 kq a1 t278 t281 x36_5 t279 t280 = some r) ∧ Aside0 (kq ≤ k) ∧ Aside0 (wc.heap[gb276]? = some (.cells #[.int .i64 a0_0, .int .i64 a0_1] 23 (0, 0))) ∧ Aside0 (wc.heap[gb282]? = some (.cells #[.int .i64 t279, .int .i64 t280] 23 (0, 0))) ∧ Aside0 (Below w.heap.size w wc))
  case first =>
    have H := HC6.out
    clear HC6
    by_cases c16 : t277 = true
    · subst c16
      have H1 : ((bitmap_Has.f a0_0 a0_1 a1).bind fun t283 => (if (t281 != t283) = true then (mooringslaw09_MapGives.j0 k a1 t278 t281 true t279 t280) else (if t281 = true then (mooringslaw09_MapGives.j0 k a1 t278 t281 false t279 t280) else (mooringslaw09_MapGives.j0 k a1 t278 t281 (!(t279 == a0_0) || (!(t280 == a0_1))) t279 t280)))) = some r := by rw [if_pos rfl] at H; exact H
      clear H
      have H := H1
      clear H1
      replace H := Option.bind_eq_some_iff.mp H
      obtain ⟨t283, A170, H⟩ := H
      replace H : (if (t281 != t283) = true then (mooringslaw09_MapGives.j0 k a1 t278 t281 true t279 t280) else (if t281 = true then (mooringslaw09_MapGives.j0 k a1 t278 t281 false t279 t280) else (mooringslaw09_MapGives.j0 k a1 t278 t281 (!(t279 == a0_0) || (!(t280 == a0_1))) t279 t280))) = some r := H
      have A17 := Aside0.mk A170
      clear A170
      by_cases c18 : (t281 != t283) = true
      · rw [if_pos c18] at H
        have c18b0 : (t281 != t283) = true := c18
        (try (have c18b1 : decide (t281 = t283) = false := by simpa using c18))
        (try (have c18b2 : (t281 == t283) = false := by simpa using c18))
        (try (have c18b3 : ¬ (t281 = t283) := by simpa using c18))
        clear c18
        (first | rw [c18b0] | (simp only [i64_w, i32_w]; rw [c18b0]) | skip)
        have H' := Aside0.mk H
        clear H
        have hnb19 := NB276_282.out
        have hnc19 := NB282_276.out
        have hcz20_0 : w13.cell? ⟨gb276, 0, none⟩ = some (.int .i64 a0_0) := (blk_cell BK276.out 0).trans rfl
        have hcz20_1 : w13.cell? ⟨gb276, 1, none⟩ = some (.int .i64 a0_1) := (blk_cell BK276.out 1).trans rfl
        have hfz20_0 := blk_frozen BK276.out 0
        have hfz20_1 := blk_frozen BK276.out 1
        go_wp2_with (first | (go_at_call 14; (with_reducible refine (bitmap_Has.calls a0_0 a0_1 a1 t283 _ A17.out).mono ?_); rintro e w21 ⟨rfl, hb⟩; have n0_ := Aside0.mk (blk_below (g := gb276) (o := .cells #[.int .i64 a0_0, .int .i64 a0_1] 23 (0, 0)) (by (with_reducible repeat (first | refine blk_drewN ?_ _ | refine blk_drew ?_ | refine blk_alloc ?_ _)); refine blk_far ?_ NB276_282.out _; (with_reducible repeat (first | refine blk_drewN ?_ _ | refine blk_drew ?_ | refine blk_alloc ?_ _)); refine blk_far ?_ NB276_282.out _; (with_reducible repeat (first | refine blk_drewN ?_ _ | refine blk_drew ?_ | refine blk_alloc ?_ _)); exact BK276.out) hb); have n1_ := Aside0.mk (blk_below (g := gb282) (o := .cells #[.int .i64 t279, .int .i64 t280] 23 (0, 0)) (by (with_reducible repeat (first | refine blk_drewN ?_ _ | refine blk_drew ?_ | refine blk_alloc ?_ _)); refine blk_put (cs := #[.int .i64 t279, .int .i64 0]) ?_ 1 _ rfl; (with_reducible repeat (first | refine blk_drewN ?_ _ | refine blk_drew ?_ | refine blk_alloc ?_ _)); refine blk_put (cs := #[.int .i64 0, .int .i64 0]) ?_ 0 _ rfl; (with_reducible repeat (first | refine blk_drewN ?_ _ | refine blk_drew ?_ | refine blk_alloc ?_ _)); exact BK282.out) hb); have n2_ := Aside0.mk (below_step (by repeat (first | (with_reducible first | exact HB.out | apply below_alloc | apply pw_below_drewN | apply below_drew1 | refine below_set ?_ GE276.out | refine below_set ?_ GE282.out) | exact HB.out)) hb); clear BK276; clear BK282; clear HB; have BK276 := n0_; have BK282 := n1_; have HB := n2_; clear n0_ n1_ n2_; (try clear hb); (try clear hb2); (try clear hk); (try clear hi)))
        go_meet
        case rel => exact ⟨_, (true), (by first | rfl | (simp; done) | (simp [*]; done)), H', ⟨by first | omega | exact Nat.le_refl _⟩, ⟨by (with_reducible repeat (first | refine blk_drewN ?_ _ | refine blk_drew ?_ | refine blk_alloc ?_ _)); exact BK276.out⟩, ⟨by (with_reducible repeat (first | refine blk_drewN ?_ _ | refine blk_drew ?_ | refine blk_alloc ?_ _)); exact BK282.out⟩, ⟨by repeat (first | (with_reducible first | exact HB.out | apply below_alloc | apply pw_below_drewN | apply below_drew1 | refine below_set ?_ GE276.out | refine below_set ?_ GE282.out) | exact HB.out)⟩⟩
      · rw [if_neg c18] at H
        have c18b0 : (t281 != t283) = false := by simpa using c18
        (try (have c18b1 : decide (t281 = t283) = true := by simpa using c18))
        (try (have c18b2 : (t281 == t283) = true := by simpa using c18))
        clear c18
        (first | rw [c18b0] | (simp only [i64_w, i32_w]; rw [c18b0]) | skip)
        by_cases c22 : t281 = true
        · subst c22
          have H1 : (mooringslaw09_MapGives.j0 k a1 t278 true false t279 t280) = some r := by rw [if_pos rfl] at H; exact H
          clear H
          have H := H1
          clear H1
          have H' := Aside0.mk H
          clear H
          have hnb23 := NB276_282.out
          have hnc23 := NB282_276.out
          have hcz24_0 : w13.cell? ⟨gb276, 0, none⟩ = some (.int .i64 a0_0) := (blk_cell BK276.out 0).trans rfl
          have hcz24_1 : w13.cell? ⟨gb276, 1, none⟩ = some (.int .i64 a0_1) := (blk_cell BK276.out 1).trans rfl
          have hfz24_0 := blk_frozen BK276.out 0
          have hfz24_1 := blk_frozen BK276.out 1
          go_wp2_with (first | (go_at_call 14; (with_reducible refine (bitmap_Has.calls a0_0 a0_1 a1 t283 _ A17.out).mono ?_); rintro e w25 ⟨rfl, hb⟩; have n0_ := Aside0.mk (blk_below (g := gb276) (o := .cells #[.int .i64 a0_0, .int .i64 a0_1] 23 (0, 0)) (by (with_reducible repeat (first | refine blk_drewN ?_ _ | refine blk_drew ?_ | refine blk_alloc ?_ _)); refine blk_far ?_ NB276_282.out _; (with_reducible repeat (first | refine blk_drewN ?_ _ | refine blk_drew ?_ | refine blk_alloc ?_ _)); refine blk_far ?_ NB276_282.out _; (with_reducible repeat (first | refine blk_drewN ?_ _ | refine blk_drew ?_ | refine blk_alloc ?_ _)); exact BK276.out) hb); have n1_ := Aside0.mk (blk_below (g := gb282) (o := .cells #[.int .i64 t279, .int .i64 t280] 23 (0, 0)) (by (with_reducible repeat (first | refine blk_drewN ?_ _ | refine blk_drew ?_ | refine blk_alloc ?_ _)); refine blk_put (cs := #[.int .i64 t279, .int .i64 0]) ?_ 1 _ rfl; (with_reducible repeat (first | refine blk_drewN ?_ _ | refine blk_drew ?_ | refine blk_alloc ?_ _)); refine blk_put (cs := #[.int .i64 0, .int .i64 0]) ?_ 0 _ rfl; (with_reducible repeat (first | refine blk_drewN ?_ _ | refine blk_drew ?_ | refine blk_alloc ?_ _)); exact BK282.out) hb); have n2_ := Aside0.mk (below_step (by repeat (first | (with_reducible first | exact HB.out | apply below_alloc | apply pw_below_drewN | apply below_drew1 | refine below_set ?_ GE276.out | refine below_set ?_ GE282.out) | exact HB.out)) hb); clear BK276; clear BK282; clear HB; have BK276 := n0_; have BK282 := n1_; have HB := n2_; clear n0_ n1_ n2_; (try clear hb); (try clear hb2); (try clear hk); (try clear hi)))
          go_meet
          case rel => exact ⟨_, (false), (by first | rfl | (simp; done) | (simp [*]; done)), H', ⟨by first | omega | exact Nat.le_refl _⟩, ⟨by (with_reducible repeat (first | refine blk_drewN ?_ _ | refine blk_drew ?_ | refine blk_alloc ?_ _)); exact BK276.out⟩, ⟨by (with_reducible repeat (first | refine blk_drewN ?_ _ | refine blk_drew ?_ | refine blk_alloc ?_ _)); exact BK282.out⟩, ⟨by repeat (first | (with_reducible first | exact HB.out | apply below_alloc | apply pw_below_drewN | apply below_drew1 | refine below_set ?_ GE276.out | refine below_set ?_ GE282.out) | exact HB.out)⟩⟩
        · replace c22 := Bool.eq_false_iff.mpr c22
          subst c22
          have H1 : (mooringslaw09_MapGives.j0 k a1 t278 false (!(t279 == a0_0) || (!(t280 == a0_1))) t279 t280) = some r := by rw [if_neg (show ¬ (false = true) by decide)] at H; exact H
          clear H
          have H := H1
          clear H1
          have H' := Aside0.mk H
          clear H
          have hnb26 := NB276_282.out
          have hnc26 := NB282_276.out
          have hcz27_0 : w13.cell? ⟨gb276, 0, none⟩ = some (.int .i64 a0_0) := (blk_cell BK276.out 0).trans rfl
          have hcz27_1 : w13.cell? ⟨gb276, 1, none⟩ = some (.int .i64 a0_1) := (blk_cell BK276.out 1).trans rfl
          have hfz27_0 := blk_frozen BK276.out 0
          have hfz27_1 := blk_frozen BK276.out 1
          go_wp2_with (first | (go_at_call 14; (with_reducible refine (bitmap_Has.calls a0_0 a0_1 a1 t283 _ A17.out).mono ?_); rintro e w28 ⟨rfl, hb⟩; have n0_ := Aside0.mk (blk_below (g := gb276) (o := .cells #[.int .i64 a0_0, .int .i64 a0_1] 23 (0, 0)) (by (with_reducible repeat (first | refine blk_drewN ?_ _ | refine blk_drew ?_ | refine blk_alloc ?_ _)); refine blk_far ?_ NB276_282.out _; (with_reducible repeat (first | refine blk_drewN ?_ _ | refine blk_drew ?_ | refine blk_alloc ?_ _)); refine blk_far ?_ NB276_282.out _; (with_reducible repeat (first | refine blk_drewN ?_ _ | refine blk_drew ?_ | refine blk_alloc ?_ _)); exact BK276.out) hb); have n1_ := Aside0.mk (blk_below (g := gb282) (o := .cells #[.int .i64 t279, .int .i64 t280] 23 (0, 0)) (by (with_reducible repeat (first | refine blk_drewN ?_ _ | refine blk_drew ?_ | refine blk_alloc ?_ _)); refine blk_put (cs := #[.int .i64 t279, .int .i64 0]) ?_ 1 _ rfl; (with_reducible repeat (first | refine blk_drewN ?_ _ | refine blk_drew ?_ | refine blk_alloc ?_ _)); refine blk_put (cs := #[.int .i64 0, .int .i64 0]) ?_ 0 _ rfl; (with_reducible repeat (first | refine blk_drewN ?_ _ | refine blk_drew ?_ | refine blk_alloc ?_ _)); exact BK282.out) hb); have n2_ := Aside0.mk (below_step (by repeat (first | (with_reducible first | exact HB.out | apply below_alloc | apply pw_below_drewN | apply below_drew1 | refine below_set ?_ GE276.out | refine below_set ?_ GE282.out) | exact HB.out)) hb); clear BK276; clear BK282; clear HB; have BK276 := n0_; have BK282 := n1_; have HB := n2_; clear n0_ n1_ n2_; (try clear hb); (try clear hb2); (try clear hk); (try clear hi); have hcz29_0 : w28.cell? ⟨gb282, 0, none⟩ = some (.int .i64 t279) := (blk_cell BK282.out 0).trans rfl; have hcz29_1 : w28.cell? ⟨gb282, 1, none⟩ = some (.int .i64 t280) := (blk_cell BK282.out 1).trans rfl; have hfz29_0 := blk_frozen BK282.out 0; have hfz29_1 := blk_frozen BK282.out 1; have hcz30_0 : w28.cell? ⟨gb276, 0, none⟩ = some (.int .i64 a0_0) := (blk_cell BK276.out 0).trans rfl; have hcz30_1 : w28.cell? ⟨gb276, 1, none⟩ = some (.int .i64 a0_1) := (blk_cell BK276.out 1).trans rfl; have hfz30_0 := blk_frozen BK276.out 0; have hfz30_1 := blk_frozen BK276.out 1))
          go_meet
          case rel => exact ⟨_, ((!(t279 == a0_0) || (!(t280 == a0_1)))), (by first | rfl | (simp; done) | (simp [*]; done)), H', ⟨by first | omega | exact Nat.le_refl _⟩, ⟨by (with_reducible repeat (first | refine blk_drewN ?_ _ | refine blk_drew ?_ | refine blk_alloc ?_ _)); exact BK276.out⟩, ⟨by (with_reducible repeat (first | refine blk_drewN ?_ _ | refine blk_drew ?_ | refine blk_alloc ?_ _)); exact BK282.out⟩, ⟨by repeat (first | (with_reducible first | exact HB.out | apply below_alloc | apply pw_below_drewN | apply below_drew1 | refine below_set ?_ GE276.out | refine below_set ?_ GE282.out) | exact HB.out)⟩⟩
    · replace c16 := Bool.eq_false_iff.mpr c16
      subst c16
      have H1 : (mooringslaw09_MapGives.j0 k a1 t278 t281 true t279 t280) = some r := by rw [if_neg (show ¬ (false = true) by decide)] at H; exact H
      clear H
      have H := H1
      clear H1
      have H' := Aside0.mk H
      clear H
      go_wp2
      go_meet
      case rel => exact ⟨_, (true), (by first | rfl | (simp; done) | (simp [*]; done)), H', ⟨by first | omega | exact Nat.le_refl _⟩, ⟨by (with_reducible repeat (first | refine blk_drewN ?_ _ | refine blk_drew ?_ | refine blk_alloc ?_ _)); refine blk_far ?_ NB276_282.out _; (with_reducible repeat (first | refine blk_drewN ?_ _ | refine blk_drew ?_ | refine blk_alloc ?_ _)); refine blk_far ?_ NB276_282.out _; (with_reducible repeat (first | refine blk_drewN ?_ _ | refine blk_drew ?_ | refine blk_alloc ?_ _)); exact BK276.out⟩, ⟨by (with_reducible repeat (first | refine blk_drewN ?_ _ | refine blk_drew ?_ | refine blk_alloc ?_ _)); refine blk_put (cs := #[.int .i64 t279, .int .i64 0]) ?_ 1 _ rfl; (with_reducible repeat (first | refine blk_drewN ?_ _ | refine blk_drew ?_ | refine blk_alloc ?_ _)); refine blk_put (cs := #[.int .i64 0, .int .i64 0]) ?_ 0 _ rfl; (with_reducible repeat (first | refine blk_drewN ?_ _ | refine blk_drew ?_ | refine blk_alloc ?_ _)); exact BK282.out⟩, ⟨by repeat (first | (with_reducible first | exact HB.out | apply below_alloc | apply pw_below_drewN | apply below_drew1 | refine below_set ?_ GE276.out | refine below_set ?_ GE282.out) | exact HB.out)⟩⟩
  case rest =>
    clear HC6
    try clear c1
    try clear c2
    try clear p2
    try clear c8
    try clear c9
    try clear c11
    try clear c14
    try clear c16
    try clear c18
    try clear c18b0
    try clear c18b1
    try clear c18b2
    try clear c19
    try clear c22
    try clear c23
    try clear c26
    try clear hcz11_0
    try clear hcz11_1
    try clear hcz15_0
    try clear hcz15_1
    try clear hcz20_0
    try clear hcz20_1
    try clear hcz24_0
    try clear hcz24_1
    try clear hcz27_0
    try clear hcz27_1
    try clear hcz29_0
    try clear hcz29_1
    try clear hcz30_0
    try clear hcz30_1
    try clear hcz9_0
    try clear hcz9_1
    try clear hfz11_0
    try clear hfz11_1
    try clear hfz15_0
    try clear hfz15_1
    try clear hfz20_0
    try clear hfz20_1
    try clear hfz24_0
    try clear hfz24_1
    try clear hfz27_0
    try clear hfz27_1
    try clear hfz29_0
    try clear hfz29_1
    try clear hfz30_0
    try clear hfz30_1
    try clear hfz9_0
    try clear hfz9_1
    obtain ⟨kq, x36_5, rfl, HA, HJ5, BK276, BK282, HB⟩ := hcut
    cases kq with
    | zero => exact absurd HA.out (by simp [mooringslaw09_MapGives.j0])
    | succ kj5 =>
      have H := HA.out
      clear HA
      simp only [mooringslaw09_MapGives.j0] at H
      by_cases c31 : x36_5 = true
      · subst c31
        have H1 : (some false) = some r := by rw [if_pos rfl] at H; exact H
        exact absurd (H1.trans (congrArg some HR.out)) (by decide)
      · replace c31 := Bool.eq_false_iff.mpr c31
        subst c31
        have H1 : (if t281 = true then ((bitmap_First.f t279 t280).bind fun t284 => ((bitmap_Has.f t279 t280 a1).bind fun t285 => (if t285 = true then (some false) else (if t278 = (-1) then (if (true == (t284 == a1)) = true then (if t284 = a1 then (some true) else (some (t284 == t278))) else (some false)) else (if ((decide (a1 < t278)) == (t284 == a1)) = true then (if t284 = a1 then (some true) else (some (t284 == t278))) else (some false)))))) else (some true)) = some r := by rw [if_neg (show ¬ (false = true) by decide)] at H; exact H
        clear H
        have H := H1
        clear H1
        by_cases c32 : t281 = true
        · subst c32
          have H1 : ((bitmap_First.f t279 t280).bind fun t284 => ((bitmap_Has.f t279 t280 a1).bind fun t285 => (if t285 = true then (some false) else (if t278 = (-1) then (if (true == (t284 == a1)) = true then (if t284 = a1 then (some true) else (some (t284 == t278))) else (some false)) else (if ((decide (a1 < t278)) == (t284 == a1)) = true then (if t284 = a1 then (some true) else (some (t284 == t278))) else (some false)))))) = some r := by rw [if_pos rfl] at H; exact H
          clear H
          have H := H1
          clear H1
          replace H := Option.bind_eq_some_iff.mp H
          obtain ⟨t284, A330, H⟩ := H
          replace H : ((bitmap_Has.f t279 t280 a1).bind fun t285 => (if t285 = true then (some false) else (if t278 = (-1) then (if (true == (t284 == a1)) = true then (if t284 = a1 then (some true) else (some (t284 == t278))) else (some false)) else (if ((decide (a1 < t278)) == (t284 == a1)) = true then (if t284 = a1 then (some true) else (some (t284 == t278))) else (some false))))) = some r := H
          have A33 := Aside0.mk A330
          clear A330
          replace H := Option.bind_eq_some_iff.mp H
          obtain ⟨t285, A340, H⟩ := H
          replace H : (if t285 = true then (some false) else (if t278 = (-1) then (if (true == (t284 == a1)) = true then (if t284 = a1 then (some true) else (some (t284 == t278))) else (some false)) else (if ((decide (a1 < t278)) == (t284 == a1)) = true then (if t284 = a1 then (some true) else (some (t284 == t278))) else (some false)))) = some r := H
          have A34 := Aside0.mk A340
          clear A340
          by_cases c35 : t285 = true
          · subst c35
            have H1 : (some false) = some r := by rw [if_pos rfl] at H; exact H
            exact absurd (H1.trans (congrArg some HR.out)) (by decide)
          · replace c35 := Bool.eq_false_iff.mpr c35
            subst c35
            have H1 : (if t278 = (-1) then (if (true == (t284 == a1)) = true then (if t284 = a1 then (some true) else (some (t284 == t278))) else (some false)) else (if ((decide (a1 < t278)) == (t284 == a1)) = true then (if t284 = a1 then (some true) else (some (t284 == t278))) else (some false))) = some r := by rw [if_neg (show ¬ (false = true) by decide)] at H; exact H
            clear H
            have H := H1
            clear H1
            by_cases c41 : t278 = (-1)
            · rw [if_pos c41] at H
              have c41b0 : (t278 == (-1)) = true := beq_iff_eq.mpr c41
              have c41b1 : (t278 != (-1)) = false := bne_eq_false_iff_eq.mpr c41
              clear c41
              by_cases c42 : (true == (t284 == a1)) = true
              · rw [if_pos c42] at H
                have c42b0 : (true == (t284 == a1)) = true := c42
                (try (have c42b1 : decide (true = (t284 == a1)) = true := by simpa using c42))
                (try (have c42b2 : (true == (t284 == a1)) = true := by simpa using c42))
                clear c42
                by_cases c43 : t284 = a1
                · rw [if_pos c43] at H
                  have c43b0 : (t284 == a1) = true := beq_iff_eq.mpr c43
                  have c43b1 : (t284 != a1) = false := bne_eq_false_iff_eq.mpr c43
                  clear c43
                  obtain rfl := Option.some.inj H
                  first
                    | exact absurd HR.out (by decide)
                    | exact absurd c42b0 (by rw [c43b0]; decide)
                    | skip
                      have hnb44 := NB282_276.out
                      have hnc44 := NB276_282.out
                      have hcz45_0 : wc.cell? ⟨gb282, 0, none⟩ = some (.int .i64 t279) := (blk_cell BK282.out 0).trans rfl
                      have hcz45_1 : wc.cell? ⟨gb282, 1, none⟩ = some (.int .i64 t280) := (blk_cell BK282.out 1).trans rfl
                      have hfz45_0 := blk_frozen BK282.out 0
                      have hfz45_1 := blk_frozen BK282.out 1
                      go_wp2_with (first | ((with_reducible refine gate_callee (f := 11) rfl ?_); refine goesL_ (some 40) rfl rfl Tryd.func11 (by kernel_rfl) rfl #[.agg #[.int .i64 t279, .int .i64 t280]] rfl (by (try simp only [List.map_toArray, List.map_cons, List.map_nil]); first | done | rfl | (simp only [List.length_drop, List.length_take]; rfl)) ?_; (with_reducible refine (bitmap_First.calls t279 t280 t284 _ A33.out (Dev.laid_below HT.out (by repeat (first | (with_reducible first | exact HB.out | apply below_alloc | apply pw_below_drewN | apply below_drew1 | refine below_set ?_ GE276.out | refine below_set ?_ GE282.out) | exact HB.out)))).mono ?_); rintro e w46 ⟨rfl, hb⟩; refine ⟨_, rfl, ?_⟩; have n0_ := Aside0.mk (blk_below (g := gb276) (o := .cells #[.int .i64 a0_0, .int .i64 a0_1] 23 (0, 0)) (by (with_reducible repeat (first | refine blk_drewN ?_ _ | refine blk_drew ?_ | refine blk_alloc ?_ _)); exact BK276.out) hb); have n1_ := Aside0.mk (blk_below (g := gb282) (o := .cells #[.int .i64 t279, .int .i64 t280] 23 (0, 0)) (by (with_reducible repeat (first | refine blk_drewN ?_ _ | refine blk_drew ?_ | refine blk_alloc ?_ _)); exact BK282.out) hb); have n2_ := Aside0.mk (below_step (by repeat (first | (with_reducible first | exact HB.out | apply below_alloc | apply pw_below_drewN | apply below_drew1 | refine below_set ?_ GE276.out | refine below_set ?_ GE282.out) | exact HB.out)) hb); clear BK276; clear BK282; clear HB; have BK276 := n0_; have BK282 := n1_; have HB := n2_; clear n0_ n1_ n2_; (try clear hb); (try clear hb2); (try clear hk); (try clear hi); have hcz47_0 : w46.cell? ⟨gb282, 0, none⟩ = some (.int .i64 t279) := (blk_cell BK282.out 0).trans rfl; have hcz47_1 : w46.cell? ⟨gb282, 1, none⟩ = some (.int .i64 t280) := (blk_cell BK282.out 1).trans rfl; have hfz47_0 := blk_frozen BK282.out 0; have hfz47_1 := blk_frozen BK282.out 1) | ((with_reducible refine gate_callee (f := 14) rfl ?_); refine goesL_ (some 43) rfl rfl Tryd.func14 (by kernel_rfl) rfl #[.agg #[.int .i64 t279, .int .i64 t280], .int .i64 a1] rfl (by (try simp only [List.map_toArray, List.map_cons, List.map_nil]); first | done | rfl | (simp only [List.length_drop, List.length_take]; rfl)) ?_; (with_reducible refine (bitmap_Has.calls t279 t280 a1 false _ A34.out).mono ?_); rintro e w48 ⟨rfl, hb⟩; refine ⟨_, rfl, ?_⟩; have n0_ := Aside0.mk (blk_below (g := gb276) (o := .cells #[.int .i64 a0_0, .int .i64 a0_1] 23 (0, 0)) (by (with_reducible repeat (first | refine blk_drewN ?_ _ | refine blk_drew ?_ | refine blk_alloc ?_ _)); exact BK276.out) hb); have n1_ := Aside0.mk (blk_below (g := gb282) (o := .cells #[.int .i64 t279, .int .i64 t280] 23 (0, 0)) (by (with_reducible repeat (first | refine blk_drewN ?_ _ | refine blk_drew ?_ | refine blk_alloc ?_ _)); exact BK282.out) hb); have n2_ := Aside0.mk (below_step (by repeat (first | (with_reducible first | exact HB.out | apply below_alloc | apply pw_below_drewN | apply below_drew1 | refine below_set ?_ GE276.out | refine below_set ?_ GE282.out) | exact HB.out)) hb); clear BK276; clear BK282; clear HB; have BK276 := n0_; have BK282 := n1_; have HB := n2_; clear n0_ n1_ n2_; (try clear hb); (try clear hb2); (try clear hk); (try clear hi)))
                      go_ret
                      exact ⟨by first | rfl | (simp [errW_none, errW_some] <;> rfl) | (simp [*, errW_none, errW_some] <;> rfl), by repeat (first | (with_reducible first | exact HB.out | apply below_alloc | apply pw_below_drewN | apply below_drew1 | refine below_set ?_ GE276.out | refine below_set ?_ GE282.out) | exact HB.out)⟩
                · rw [if_neg c43] at H
                  have c43b0 : (t284 == a1) = false := beq_eq_false_iff_ne.mpr c43
                  have c43b1 : (t284 != a1) = true := bne_iff_ne.mpr c43
                  obtain rfl := Option.some.inj H
                  first
                    | exact absurd HR.out (by decide)
                    | exact absurd c42b0 (by rw [c43b0]; decide)
                    | skip
                      have hnb49 := NB282_276.out
                      have hnc49 := NB276_282.out
                      have hcz50_0 : wc.cell? ⟨gb282, 0, none⟩ = some (.int .i64 t279) := (blk_cell BK282.out 0).trans rfl
                      have hcz50_1 : wc.cell? ⟨gb282, 1, none⟩ = some (.int .i64 t280) := (blk_cell BK282.out 1).trans rfl
                      have hfz50_0 := blk_frozen BK282.out 0
                      have hfz50_1 := blk_frozen BK282.out 1
                      go_wp2_with (first | ((with_reducible refine gate_callee (f := 11) rfl ?_); refine goesL_ (some 40) rfl rfl Tryd.func11 (by kernel_rfl) rfl #[.agg #[.int .i64 t279, .int .i64 t280]] rfl (by (try simp only [List.map_toArray, List.map_cons, List.map_nil]); first | done | rfl | (simp only [List.length_drop, List.length_take]; rfl)) ?_; (with_reducible refine (bitmap_First.calls t279 t280 t284 _ A33.out (Dev.laid_below HT.out (by repeat (first | (with_reducible first | exact HB.out | apply below_alloc | apply pw_below_drewN | apply below_drew1 | refine below_set ?_ GE276.out | refine below_set ?_ GE282.out) | exact HB.out)))).mono ?_); rintro e w51 ⟨rfl, hb⟩; refine ⟨_, rfl, ?_⟩; have n0_ := Aside0.mk (blk_below (g := gb276) (o := .cells #[.int .i64 a0_0, .int .i64 a0_1] 23 (0, 0)) (by (with_reducible repeat (first | refine blk_drewN ?_ _ | refine blk_drew ?_ | refine blk_alloc ?_ _)); exact BK276.out) hb); have n1_ := Aside0.mk (blk_below (g := gb282) (o := .cells #[.int .i64 t279, .int .i64 t280] 23 (0, 0)) (by (with_reducible repeat (first | refine blk_drewN ?_ _ | refine blk_drew ?_ | refine blk_alloc ?_ _)); exact BK282.out) hb); have n2_ := Aside0.mk (below_step (by repeat (first | (with_reducible first | exact HB.out | apply below_alloc | apply pw_below_drewN | apply below_drew1 | refine below_set ?_ GE276.out | refine below_set ?_ GE282.out) | exact HB.out)) hb); clear BK276; clear BK282; clear HB; have BK276 := n0_; have BK282 := n1_; have HB := n2_; clear n0_ n1_ n2_; (try clear hb); (try clear hb2); (try clear hk); (try clear hi); have hcz52_0 : w51.cell? ⟨gb282, 0, none⟩ = some (.int .i64 t279) := (blk_cell BK282.out 0).trans rfl; have hcz52_1 : w51.cell? ⟨gb282, 1, none⟩ = some (.int .i64 t280) := (blk_cell BK282.out 1).trans rfl; have hfz52_0 := blk_frozen BK282.out 0; have hfz52_1 := blk_frozen BK282.out 1) | ((with_reducible refine gate_callee (f := 14) rfl ?_); refine goesL_ (some 43) rfl rfl Tryd.func14 (by kernel_rfl) rfl #[.agg #[.int .i64 t279, .int .i64 t280], .int .i64 a1] rfl (by (try simp only [List.map_toArray, List.map_cons, List.map_nil]); first | done | rfl | (simp only [List.length_drop, List.length_take]; rfl)) ?_; (with_reducible refine (bitmap_Has.calls t279 t280 a1 false _ A34.out).mono ?_); rintro e w53 ⟨rfl, hb⟩; refine ⟨_, rfl, ?_⟩; have n0_ := Aside0.mk (blk_below (g := gb276) (o := .cells #[.int .i64 a0_0, .int .i64 a0_1] 23 (0, 0)) (by (with_reducible repeat (first | refine blk_drewN ?_ _ | refine blk_drew ?_ | refine blk_alloc ?_ _)); exact BK276.out) hb); have n1_ := Aside0.mk (blk_below (g := gb282) (o := .cells #[.int .i64 t279, .int .i64 t280] 23 (0, 0)) (by (with_reducible repeat (first | refine blk_drewN ?_ _ | refine blk_drew ?_ | refine blk_alloc ?_ _)); exact BK282.out) hb); have n2_ := Aside0.mk (below_step (by repeat (first | (with_reducible first | exact HB.out | apply below_alloc | apply pw_below_drewN | apply below_drew1 | refine below_set ?_ GE276.out | refine below_set ?_ GE282.out) | exact HB.out)) hb); clear BK276; clear BK282; clear HB; have BK276 := n0_; have BK282 := n1_; have HB := n2_; clear n0_ n1_ n2_; (try clear hb); (try clear hb2); (try clear hk); (try clear hi)))
                      go_ret
                      exact ⟨by first | rfl | (simp [errW_none, errW_some] <;> rfl) | (simp [*, errW_none, errW_some] <;> rfl), by repeat (first | (with_reducible first | exact HB.out | apply below_alloc | apply pw_below_drewN | apply below_drew1 | refine below_set ?_ GE276.out | refine below_set ?_ GE282.out) | exact HB.out)⟩
              · rw [if_neg c42] at H
                have c42b0 : (true == (t284 == a1)) = false := by simpa using c42
                (try (have c42b1 : decide (true = (t284 == a1)) = false := by simpa using c42))
                (try (have c42b2 : (true == (t284 == a1)) = false := by simpa using c42))
                (try (have c42b3 : ¬ (true = (t284 == a1)) := by simpa using c42))
                clear c42
                obtain rfl := Option.some.inj H
                first
                  | exact absurd HR.out (by decide)
                  | exact absurd c42b0 (by rw [c43b0]; decide)
                  | skip
                    have hnb54 := NB282_276.out
                    have hnc54 := NB276_282.out
                    have hcz55_0 : wc.cell? ⟨gb282, 0, none⟩ = some (.int .i64 t279) := (blk_cell BK282.out 0).trans rfl
                    have hcz55_1 : wc.cell? ⟨gb282, 1, none⟩ = some (.int .i64 t280) := (blk_cell BK282.out 1).trans rfl
                    have hfz55_0 := blk_frozen BK282.out 0
                    have hfz55_1 := blk_frozen BK282.out 1
                    go_wp2_with (first | ((with_reducible refine gate_callee (f := 11) rfl ?_); refine goesL_ (some 40) rfl rfl Tryd.func11 (by kernel_rfl) rfl #[.agg #[.int .i64 t279, .int .i64 t280]] rfl (by (try simp only [List.map_toArray, List.map_cons, List.map_nil]); first | done | rfl | (simp only [List.length_drop, List.length_take]; rfl)) ?_; (with_reducible refine (bitmap_First.calls t279 t280 t284 _ A33.out (Dev.laid_below HT.out (by repeat (first | (with_reducible first | exact HB.out | apply below_alloc | apply pw_below_drewN | apply below_drew1 | refine below_set ?_ GE276.out | refine below_set ?_ GE282.out) | exact HB.out)))).mono ?_); rintro e w56 ⟨rfl, hb⟩; refine ⟨_, rfl, ?_⟩; have n0_ := Aside0.mk (blk_below (g := gb276) (o := .cells #[.int .i64 a0_0, .int .i64 a0_1] 23 (0, 0)) (by (with_reducible repeat (first | refine blk_drewN ?_ _ | refine blk_drew ?_ | refine blk_alloc ?_ _)); exact BK276.out) hb); have n1_ := Aside0.mk (blk_below (g := gb282) (o := .cells #[.int .i64 t279, .int .i64 t280] 23 (0, 0)) (by (with_reducible repeat (first | refine blk_drewN ?_ _ | refine blk_drew ?_ | refine blk_alloc ?_ _)); exact BK282.out) hb); have n2_ := Aside0.mk (below_step (by repeat (first | (with_reducible first | exact HB.out | apply below_alloc | apply pw_below_drewN | apply below_drew1 | refine below_set ?_ GE276.out | refine below_set ?_ GE282.out) | exact HB.out)) hb); clear BK276; clear BK282; clear HB; have BK276 := n0_; have BK282 := n1_; have HB := n2_; clear n0_ n1_ n2_; (try clear hb); (try clear hb2); (try clear hk); (try clear hi); have hcz57_0 : w56.cell? ⟨gb282, 0, none⟩ = some (.int .i64 t279) := (blk_cell BK282.out 0).trans rfl; have hcz57_1 : w56.cell? ⟨gb282, 1, none⟩ = some (.int .i64 t280) := (blk_cell BK282.out 1).trans rfl; have hfz57_0 := blk_frozen BK282.out 0; have hfz57_1 := blk_frozen BK282.out 1) | ((with_reducible refine gate_callee (f := 14) rfl ?_); refine goesL_ (some 43) rfl rfl Tryd.func14 (by kernel_rfl) rfl #[.agg #[.int .i64 t279, .int .i64 t280], .int .i64 a1] rfl (by (try simp only [List.map_toArray, List.map_cons, List.map_nil]); first | done | rfl | (simp only [List.length_drop, List.length_take]; rfl)) ?_; (with_reducible refine (bitmap_Has.calls t279 t280 a1 false _ A34.out).mono ?_); rintro e w58 ⟨rfl, hb⟩; refine ⟨_, rfl, ?_⟩; have n0_ := Aside0.mk (blk_below (g := gb276) (o := .cells #[.int .i64 a0_0, .int .i64 a0_1] 23 (0, 0)) (by (with_reducible repeat (first | refine blk_drewN ?_ _ | refine blk_drew ?_ | refine blk_alloc ?_ _)); exact BK276.out) hb); have n1_ := Aside0.mk (blk_below (g := gb282) (o := .cells #[.int .i64 t279, .int .i64 t280] 23 (0, 0)) (by (with_reducible repeat (first | refine blk_drewN ?_ _ | refine blk_drew ?_ | refine blk_alloc ?_ _)); exact BK282.out) hb); have n2_ := Aside0.mk (below_step (by repeat (first | (with_reducible first | exact HB.out | apply below_alloc | apply pw_below_drewN | apply below_drew1 | refine below_set ?_ GE276.out | refine below_set ?_ GE282.out) | exact HB.out)) hb); clear BK276; clear BK282; clear HB; have BK276 := n0_; have BK282 := n1_; have HB := n2_; clear n0_ n1_ n2_; (try clear hb); (try clear hb2); (try clear hk); (try clear hi)))
                    go_ret
                    exact ⟨by first | rfl | (simp [errW_none, errW_some] <;> rfl) | (simp [*, errW_none, errW_some] <;> rfl), by repeat (first | (with_reducible first | exact HB.out | apply below_alloc | apply pw_below_drewN | apply below_drew1 | refine below_set ?_ GE276.out | refine below_set ?_ GE282.out) | exact HB.out)⟩
            · rw [if_neg c41] at H
              have c41b0 : (t278 == (-1)) = false := beq_eq_false_iff_ne.mpr c41
              have c41b1 : (t278 != (-1)) = true := bne_iff_ne.mpr c41
              by_cases c59 : ((decide (a1 < t278)) == (t284 == a1)) = true
              · rw [if_pos c59] at H
                have c59b0 : ((decide (a1 < t278)) == (t284 == a1)) = true := c59
                (try (have c59b1 : decide ((decide (a1 < t278)) = (t284 == a1)) = true := by simpa using c59))
                (try (have c59b2 : ((decide (a1 < t278)) == (t284 == a1)) = true := by simpa using c59))
                clear c59
                by_cases c60 : t284 = a1
                · rw [if_pos c60] at H
                  have c60b0 : (t284 == a1) = true := beq_iff_eq.mpr c60
                  have c60b1 : (t284 != a1) = false := bne_eq_false_iff_eq.mpr c60
                  clear c60
                  obtain rfl := Option.some.inj H
                  try (have hlt_ : decide (a1 < t278) = true := by (rw [c60b0] at c59b0; simpa using c59b0))
                  try (have hlt_ : decide (a1 < t278) = false := by (rw [c60b0] at c59b0; simpa using c59b0))
                  first
                    | exact absurd HR.out (by decide)
                    | skip
                      have hnb61 := NB282_276.out
                      have hnc61 := NB276_282.out
                      have hcz62_0 : wc.cell? ⟨gb282, 0, none⟩ = some (.int .i64 t279) := (blk_cell BK282.out 0).trans rfl
                      have hcz62_1 : wc.cell? ⟨gb282, 1, none⟩ = some (.int .i64 t280) := (blk_cell BK282.out 1).trans rfl
                      have hfz62_0 := blk_frozen BK282.out 0
                      have hfz62_1 := blk_frozen BK282.out 1
                      go_wp2_with (first | ((with_reducible refine gate_callee (f := 11) rfl ?_); refine goesL_ (some 40) rfl rfl Tryd.func11 (by kernel_rfl) rfl #[.agg #[.int .i64 t279, .int .i64 t280]] rfl (by (try simp only [List.map_toArray, List.map_cons, List.map_nil]); first | done | rfl | (simp only [List.length_drop, List.length_take]; rfl)) ?_; (with_reducible refine (bitmap_First.calls t279 t280 t284 _ A33.out (Dev.laid_below HT.out (by repeat (first | (with_reducible first | exact HB.out | apply below_alloc | apply pw_below_drewN | apply below_drew1 | refine below_set ?_ GE276.out | refine below_set ?_ GE282.out) | exact HB.out)))).mono ?_); rintro e w63 ⟨rfl, hb⟩; refine ⟨_, rfl, ?_⟩; have n0_ := Aside0.mk (blk_below (g := gb276) (o := .cells #[.int .i64 a0_0, .int .i64 a0_1] 23 (0, 0)) (by (with_reducible repeat (first | refine blk_drewN ?_ _ | refine blk_drew ?_ | refine blk_alloc ?_ _)); exact BK276.out) hb); have n1_ := Aside0.mk (blk_below (g := gb282) (o := .cells #[.int .i64 t279, .int .i64 t280] 23 (0, 0)) (by (with_reducible repeat (first | refine blk_drewN ?_ _ | refine blk_drew ?_ | refine blk_alloc ?_ _)); exact BK282.out) hb); have n2_ := Aside0.mk (below_step (by repeat (first | (with_reducible first | exact HB.out | apply below_alloc | apply pw_below_drewN | apply below_drew1 | refine below_set ?_ GE276.out | refine below_set ?_ GE282.out) | exact HB.out)) hb); clear BK276; clear BK282; clear HB; have BK276 := n0_; have BK282 := n1_; have HB := n2_; clear n0_ n1_ n2_; (try clear hb); (try clear hb2); (try clear hk); (try clear hi); have hcz64_0 : w63.cell? ⟨gb282, 0, none⟩ = some (.int .i64 t279) := (blk_cell BK282.out 0).trans rfl; have hcz64_1 : w63.cell? ⟨gb282, 1, none⟩ = some (.int .i64 t280) := (blk_cell BK282.out 1).trans rfl; have hfz64_0 := blk_frozen BK282.out 0; have hfz64_1 := blk_frozen BK282.out 1) | ((with_reducible refine gate_callee (f := 14) rfl ?_); refine goesL_ (some 43) rfl rfl Tryd.func14 (by kernel_rfl) rfl #[.agg #[.int .i64 t279, .int .i64 t280], .int .i64 a1] rfl (by (try simp only [List.map_toArray, List.map_cons, List.map_nil]); first | done | rfl | (simp only [List.length_drop, List.length_take]; rfl)) ?_; (with_reducible refine (bitmap_Has.calls t279 t280 a1 false _ A34.out).mono ?_); rintro e w65 ⟨rfl, hb⟩; refine ⟨_, rfl, ?_⟩; have n0_ := Aside0.mk (blk_below (g := gb276) (o := .cells #[.int .i64 a0_0, .int .i64 a0_1] 23 (0, 0)) (by (with_reducible repeat (first | refine blk_drewN ?_ _ | refine blk_drew ?_ | refine blk_alloc ?_ _)); exact BK276.out) hb); have n1_ := Aside0.mk (blk_below (g := gb282) (o := .cells #[.int .i64 t279, .int .i64 t280] 23 (0, 0)) (by (with_reducible repeat (first | refine blk_drewN ?_ _ | refine blk_drew ?_ | refine blk_alloc ?_ _)); exact BK282.out) hb); have n2_ := Aside0.mk (below_step (by repeat (first | (with_reducible first | exact HB.out | apply below_alloc | apply pw_below_drewN | apply below_drew1 | refine below_set ?_ GE276.out | refine below_set ?_ GE282.out) | exact HB.out)) hb); clear BK276; clear BK282; clear HB; have BK276 := n0_; have BK282 := n1_; have HB := n2_; clear n0_ n1_ n2_; (try clear hb); (try clear hb2); (try clear hk); (try clear hi)))
                      go_ret
                      exact ⟨by first | rfl | (simp [errW_none, errW_some] <;> rfl) | (simp [*, errW_none, errW_some] <;> rfl), by repeat (first | (with_reducible first | exact HB.out | apply below_alloc | apply pw_below_drewN | apply below_drew1 | refine below_set ?_ GE276.out | refine below_set ?_ GE282.out) | exact HB.out)⟩
                · rw [if_neg c60] at H
                  have c60b0 : (t284 == a1) = false := beq_eq_false_iff_ne.mpr c60
                  have c60b1 : (t284 != a1) = true := bne_iff_ne.mpr c60
                  obtain rfl := Option.some.inj H
                  try (have hlt_ : decide (a1 < t278) = true := by (rw [c60b0] at c59b0; simpa using c59b0))
                  try (have hlt_ : decide (a1 < t278) = false := by (rw [c60b0] at c59b0; simpa using c59b0))
                  first
                    | exact absurd HR.out (by decide)
                    | skip
                      have hnb66 := NB282_276.out
                      have hnc66 := NB276_282.out
                      have hcz67_0 : wc.cell? ⟨gb282, 0, none⟩ = some (.int .i64 t279) := (blk_cell BK282.out 0).trans rfl
                      have hcz67_1 : wc.cell? ⟨gb282, 1, none⟩ = some (.int .i64 t280) := (blk_cell BK282.out 1).trans rfl
                      have hfz67_0 := blk_frozen BK282.out 0
                      have hfz67_1 := blk_frozen BK282.out 1
                      go_wp2_with (first | ((with_reducible refine gate_callee (f := 11) rfl ?_); refine goesL_ (some 40) rfl rfl Tryd.func11 (by kernel_rfl) rfl #[.agg #[.int .i64 t279, .int .i64 t280]] rfl (by (try simp only [List.map_toArray, List.map_cons, List.map_nil]); first | done | rfl | (simp only [List.length_drop, List.length_take]; rfl)) ?_; (with_reducible refine (bitmap_First.calls t279 t280 t284 _ A33.out (Dev.laid_below HT.out (by repeat (first | (with_reducible first | exact HB.out | apply below_alloc | apply pw_below_drewN | apply below_drew1 | refine below_set ?_ GE276.out | refine below_set ?_ GE282.out) | exact HB.out)))).mono ?_); rintro e w68 ⟨rfl, hb⟩; refine ⟨_, rfl, ?_⟩; have n0_ := Aside0.mk (blk_below (g := gb276) (o := .cells #[.int .i64 a0_0, .int .i64 a0_1] 23 (0, 0)) (by (with_reducible repeat (first | refine blk_drewN ?_ _ | refine blk_drew ?_ | refine blk_alloc ?_ _)); exact BK276.out) hb); have n1_ := Aside0.mk (blk_below (g := gb282) (o := .cells #[.int .i64 t279, .int .i64 t280] 23 (0, 0)) (by (with_reducible repeat (first | refine blk_drewN ?_ _ | refine blk_drew ?_ | refine blk_alloc ?_ _)); exact BK282.out) hb); have n2_ := Aside0.mk (below_step (by repeat (first | (with_reducible first | exact HB.out | apply below_alloc | apply pw_below_drewN | apply below_drew1 | refine below_set ?_ GE276.out | refine below_set ?_ GE282.out) | exact HB.out)) hb); clear BK276; clear BK282; clear HB; have BK276 := n0_; have BK282 := n1_; have HB := n2_; clear n0_ n1_ n2_; (try clear hb); (try clear hb2); (try clear hk); (try clear hi); have hcz69_0 : w68.cell? ⟨gb282, 0, none⟩ = some (.int .i64 t279) := (blk_cell BK282.out 0).trans rfl; have hcz69_1 : w68.cell? ⟨gb282, 1, none⟩ = some (.int .i64 t280) := (blk_cell BK282.out 1).trans rfl; have hfz69_0 := blk_frozen BK282.out 0; have hfz69_1 := blk_frozen BK282.out 1) | ((with_reducible refine gate_callee (f := 14) rfl ?_); refine goesL_ (some 43) rfl rfl Tryd.func14 (by kernel_rfl) rfl #[.agg #[.int .i64 t279, .int .i64 t280], .int .i64 a1] rfl (by (try simp only [List.map_toArray, List.map_cons, List.map_nil]); first | done | rfl | (simp only [List.length_drop, List.length_take]; rfl)) ?_; (with_reducible refine (bitmap_Has.calls t279 t280 a1 false _ A34.out).mono ?_); rintro e w70 ⟨rfl, hb⟩; refine ⟨_, rfl, ?_⟩; have n0_ := Aside0.mk (blk_below (g := gb276) (o := .cells #[.int .i64 a0_0, .int .i64 a0_1] 23 (0, 0)) (by (with_reducible repeat (first | refine blk_drewN ?_ _ | refine blk_drew ?_ | refine blk_alloc ?_ _)); exact BK276.out) hb); have n1_ := Aside0.mk (blk_below (g := gb282) (o := .cells #[.int .i64 t279, .int .i64 t280] 23 (0, 0)) (by (with_reducible repeat (first | refine blk_drewN ?_ _ | refine blk_drew ?_ | refine blk_alloc ?_ _)); exact BK282.out) hb); have n2_ := Aside0.mk (below_step (by repeat (first | (with_reducible first | exact HB.out | apply below_alloc | apply pw_below_drewN | apply below_drew1 | refine below_set ?_ GE276.out | refine below_set ?_ GE282.out) | exact HB.out)) hb); clear BK276; clear BK282; clear HB; have BK276 := n0_; have BK282 := n1_; have HB := n2_; clear n0_ n1_ n2_; (try clear hb); (try clear hb2); (try clear hk); (try clear hi)))
                      go_ret
                      exact ⟨by first | rfl | (simp [errW_none, errW_some] <;> rfl) | (simp [*, errW_none, errW_some] <;> rfl), by repeat (first | (with_reducible first | exact HB.out | apply below_alloc | apply pw_below_drewN | apply below_drew1 | refine below_set ?_ GE276.out | refine below_set ?_ GE282.out) | exact HB.out)⟩
              · rw [if_neg c59] at H
                have c59b0 : ((decide (a1 < t278)) == (t284 == a1)) = false := by simpa using c59
                (try (have c59b1 : decide ((decide (a1 < t278)) = (t284 == a1)) = false := by simpa using c59))
                (try (have c59b2 : ((decide (a1 < t278)) == (t284 == a1)) = false := by simpa using c59))
                (try (have c59b3 : ¬ ((decide (a1 < t278)) = (t284 == a1)) := by simpa using c59))
                clear c59
                obtain rfl := Option.some.inj H
                try (have hlt_ : decide (a1 < t278) = true := by (rw [c60b0] at c59b0; simpa using c59b0))
                try (have hlt_ : decide (a1 < t278) = false := by (rw [c60b0] at c59b0; simpa using c59b0))
                first
                  | exact absurd HR.out (by decide)
                  | skip
                    have hnb71 := NB282_276.out
                    have hnc71 := NB276_282.out
                    have hcz72_0 : wc.cell? ⟨gb282, 0, none⟩ = some (.int .i64 t279) := (blk_cell BK282.out 0).trans rfl
                    have hcz72_1 : wc.cell? ⟨gb282, 1, none⟩ = some (.int .i64 t280) := (blk_cell BK282.out 1).trans rfl
                    have hfz72_0 := blk_frozen BK282.out 0
                    have hfz72_1 := blk_frozen BK282.out 1
                    go_wp2_with (first | ((with_reducible refine gate_callee (f := 11) rfl ?_); refine goesL_ (some 40) rfl rfl Tryd.func11 (by kernel_rfl) rfl #[.agg #[.int .i64 t279, .int .i64 t280]] rfl (by (try simp only [List.map_toArray, List.map_cons, List.map_nil]); first | done | rfl | (simp only [List.length_drop, List.length_take]; rfl)) ?_; (with_reducible refine (bitmap_First.calls t279 t280 t284 _ A33.out (Dev.laid_below HT.out (by repeat (first | (with_reducible first | exact HB.out | apply below_alloc | apply pw_below_drewN | apply below_drew1 | refine below_set ?_ GE276.out | refine below_set ?_ GE282.out) | exact HB.out)))).mono ?_); rintro e w73 ⟨rfl, hb⟩; refine ⟨_, rfl, ?_⟩; have n0_ := Aside0.mk (blk_below (g := gb276) (o := .cells #[.int .i64 a0_0, .int .i64 a0_1] 23 (0, 0)) (by (with_reducible repeat (first | refine blk_drewN ?_ _ | refine blk_drew ?_ | refine blk_alloc ?_ _)); exact BK276.out) hb); have n1_ := Aside0.mk (blk_below (g := gb282) (o := .cells #[.int .i64 t279, .int .i64 t280] 23 (0, 0)) (by (with_reducible repeat (first | refine blk_drewN ?_ _ | refine blk_drew ?_ | refine blk_alloc ?_ _)); exact BK282.out) hb); have n2_ := Aside0.mk (below_step (by repeat (first | (with_reducible first | exact HB.out | apply below_alloc | apply pw_below_drewN | apply below_drew1 | refine below_set ?_ GE276.out | refine below_set ?_ GE282.out) | exact HB.out)) hb); clear BK276; clear BK282; clear HB; have BK276 := n0_; have BK282 := n1_; have HB := n2_; clear n0_ n1_ n2_; (try clear hb); (try clear hb2); (try clear hk); (try clear hi); have hcz74_0 : w73.cell? ⟨gb282, 0, none⟩ = some (.int .i64 t279) := (blk_cell BK282.out 0).trans rfl; have hcz74_1 : w73.cell? ⟨gb282, 1, none⟩ = some (.int .i64 t280) := (blk_cell BK282.out 1).trans rfl; have hfz74_0 := blk_frozen BK282.out 0; have hfz74_1 := blk_frozen BK282.out 1) | ((with_reducible refine gate_callee (f := 14) rfl ?_); refine goesL_ (some 43) rfl rfl Tryd.func14 (by kernel_rfl) rfl #[.agg #[.int .i64 t279, .int .i64 t280], .int .i64 a1] rfl (by (try simp only [List.map_toArray, List.map_cons, List.map_nil]); first | done | rfl | (simp only [List.length_drop, List.length_take]; rfl)) ?_; (with_reducible refine (bitmap_Has.calls t279 t280 a1 false _ A34.out).mono ?_); rintro e w75 ⟨rfl, hb⟩; refine ⟨_, rfl, ?_⟩; have n0_ := Aside0.mk (blk_below (g := gb276) (o := .cells #[.int .i64 a0_0, .int .i64 a0_1] 23 (0, 0)) (by (with_reducible repeat (first | refine blk_drewN ?_ _ | refine blk_drew ?_ | refine blk_alloc ?_ _)); exact BK276.out) hb); have n1_ := Aside0.mk (blk_below (g := gb282) (o := .cells #[.int .i64 t279, .int .i64 t280] 23 (0, 0)) (by (with_reducible repeat (first | refine blk_drewN ?_ _ | refine blk_drew ?_ | refine blk_alloc ?_ _)); exact BK282.out) hb); have n2_ := Aside0.mk (below_step (by repeat (first | (with_reducible first | exact HB.out | apply below_alloc | apply pw_below_drewN | apply below_drew1 | refine below_set ?_ GE276.out | refine below_set ?_ GE282.out) | exact HB.out)) hb); clear BK276; clear BK282; clear HB; have BK276 := n0_; have BK282 := n1_; have HB := n2_; clear n0_ n1_ n2_; (try clear hb); (try clear hb2); (try clear hk); (try clear hi)))
                    go_ret
                    exact ⟨by first | rfl | (simp [errW_none, errW_some] <;> rfl) | (simp [*, errW_none, errW_some] <;> rfl), by repeat (first | (with_reducible first | exact HB.out | apply below_alloc | apply pw_below_drewN | apply below_drew1 | refine below_set ?_ GE276.out | refine below_set ?_ GE282.out) | exact HB.out)⟩
        · replace c32 := Bool.eq_false_iff.mpr c32
          subst c32
          have H1 : (some true) = some r := by rw [if_neg (show ¬ (false = true) by decide)] at H; exact H
          clear H
          have H := H1
          clear H1
          obtain rfl := Option.some.inj H
          try (have hlt_ : decide (a1 < t278) = true := by (rw [c60b0] at c59b0; simpa using c59b0))
          try (have hlt_ : decide (a1 < t278) = false := by (rw [c60b0] at c59b0; simpa using c59b0))
          first
            | exact absurd HR.out (by decide)
            | skip
              go_wp2
              go_ret
              exact ⟨by first | rfl | (simp [errW_none, errW_some] <;> rfl) | (simp [*, errW_none, errW_some] <;> rfl), by repeat (first | (with_reducible first | exact HB.out | apply below_alloc | apply pw_below_drewN | apply below_drew1 | refine below_set ?_ GE276.out | refine below_set ?_ GE282.out) | exact HB.out)⟩

end Go.Proofs.YthjdjljiafpebaaDoor.P
