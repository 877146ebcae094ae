-- Laid by this session's own program (wip/myprint.py): Lean functions for the Go functions that a law reaches, and their contracts. Not trusted: Lean checks it.
import Derived.Test.YtfkdflhijfkjoaaP0
import Derived.Test.YtfkdflhijfkjoaaP4
import Derived.Test.YtfkdflhijfkjoaaP7
import Derived.Test.YtfkdflhijfkjoaaP8
import Derived.Test.YtfkdflhijfkjoaaP9
namespace Go.Proofs.Ytfkdflhijfkjoaa.P
open Go.RowKit Go.Proofs.YtfkdflhijfkjoaaW.PrintWords Go.Proofs.YtfkdflhijfkjoaaW.PrintLast Go.Proofs.YtfkdflhijfkjoaaW.PrintMore
attribute [local go_sem] max2_int min2_int max_two min_two max_three min_three max_four min_four   -- for this text's walks alone
set_option linter.unusedVariables false
set_option linter.unusedSimpArgs false

/-! ### mooringslaw08_DetWhole: function 9 -/
def mooringslaw08_DetWhole.j0 : Nat → Int → Int → Int → Bool → Int → Int → Int → Int → Int → Int → Int → Int → Option (Bool)
  | 0, _, _, _, _, _, _, _, _, _, _, _, _ => none
  | k + 1, x2, x8, x9, x28, x312000, x312001, x312002, x312003, x312004, x312005, x312006, x312007 => if x28 = true then (some false) else (if x2 ≥ x312004 then (if x2 ≤ x312005 then (if x9 < 0 then (if x8 < 0 then (some true) else (some (decide (x2 ≤ (wrap64 (x312005 - x312006)))))) else (if x2 > (wrap64 (x312005 - x312006)) then (if x8 < 0 then (some true) else (some (decide (x2 ≤ (wrap64 (x312005 - x312006)))))) else (some false))) else (if x8 = (-1) then (if x9 = (-1) then (if x9 < 0 then (if x8 < 0 then (some true) else (some (decide (x2 ≤ (wrap64 (x312005 - x312006)))))) else (if x2 > (wrap64 (x312005 - x312006)) then (if x8 < 0 then (some true) else (some (decide (x2 ≤ (wrap64 (x312005 - x312006)))))) else (some false))) else (some false)) else (some false))) else (if x8 = (-1) then (if x9 = (-1) then (if x9 < 0 then (if x8 < 0 then (some true) else (some (decide (x2 ≤ (wrap64 (x312005 - x312006)))))) else (if x2 > (wrap64 (x312005 - x312006)) then (if x8 < 0 then (some true) else (some (decide (x2 ≤ (wrap64 (x312005 - x312006)))))) else (some false))) else (some false)) else (some false)))
def mooringslaw08_DetWhole.f (k : Nat) (a0_0 : Int) (a0_1 : Int) (a0_2 : Int) (a0_3 : Int) (a0_4 : Int) (a0_5 : Int) (a0_6 : Int) (a0_7 : Int) (a1 : Int) (a2 : Int) : Option (Bool) := (mooringslaw08_awake.f).bind fun t312 => ((detmap_Who.f k a0_0 a0_1 a0_2 a0_3 a0_4 a0_5 a0_6 a0_7 a1 a2).bind fun t313 => ((detmap_Which.f k a0_0 a0_1 a0_2 a0_3 a0_4 a0_5 a0_6 a0_7 a1 a2).bind fun t314 => (if t312 = true then (if t313 ≥ 0 then (mooringslaw08_DetWhole.j0 k a2 t313 t314 (decide (t314 ≥ 0)) a0_0 a0_1 a0_2 a0_3 a0_4 a0_5 a0_6 a0_7) else (mooringslaw08_DetWhole.j0 k a2 t313 t314 false a0_0 a0_1 a0_2 a0_3 a0_4 a0_5 a0_6 a0_7)) else (mooringslaw08_DetWhole.j0 k a2 t313 t314 true a0_0 a0_1 a0_2 a0_3 a0_4 a0_5 a0_6 a0_7))))
theorem mooringslaw08_DetWhole.mono_l : ∀ k, (∀ y0 y1 y2 y3 y4 y5 y6 y7 y8 y9 y10 y11, LeO (mooringslaw08_DetWhole.j0 k y0 y1 y2 y3 y4 y5 y6 y7 y8 y9 y10 y11) (mooringslaw08_DetWhole.j0 (k + 1) y0 y1 y2 y3 y4 y5 y6 y7 y8 y9 y10 y11))
  | 0 => fun _ _ _ _ _ _ _ _ _ _ _ _ r h => by simp [mooringslaw08_DetWhole.j0] at h
  | k + 1 => by
    have ih0 := mooringslaw08_DetWhole.mono_l k
    · intro y0 y1 y2 y3 y4 y5 y6 y7 y8 y9 y10 y11
      unfold mooringslaw08_DetWhole.j0
      repeat' first
      | (with_reducible exact ih0 _ _ _ _ _ _ _ _ _ _ _ _)
      | (with_reducible exact detmap_Which.mono _ _ _ _ _ _ _ _ _ _ _)
      | (with_reducible exact detmap_Who.mono _ _ _ _ _ _ _ _ _ _ _)
      | (with_reducible exact LeO.refl _)
      | (with_reducible exact LeO.none _)
      | (with_reducible refine LeO.ite ?_ ?_)
      | (with_reducible refine LeO.bind ?_ (fun _ => ?_))
      | exact ih0 _ _ _ _ _ _ _ _ _ _ _ _
      | exact detmap_Which.mono _ _ _ _ _ _ _ _ _ _ _
      | exact detmap_Who.mono _ _ _ _ _ _ _ _ _ _ _
      | exact LeO.none _
      | refine LeO.ite ?_ ?_
      | refine LeO.bind ?_ (fun _ => ?_)
theorem mooringslaw08_DetWhole.mono : ∀ a0 a1 a2 a3 a4 a5 a6 a7 a8 a9 k, LeO (mooringslaw08_DetWhole.f k a0 a1 a2 a3 a4 a5 a6 a7 a8 a9) (mooringslaw08_DetWhole.f (k + 1) a0 a1 a2 a3 a4 a5 a6 a7 a8 a9) := by
  intro a0 a1 a2 a3 a4 a5 a6 a7 a8 a9 k
  have ih0 := mooringslaw08_DetWhole.mono_l k
  unfold mooringslaw08_DetWhole.f
  repeat' first
      | (with_reducible exact ih0 _ _ _ _ _ _ _ _ _ _ _ _)
      | (with_reducible exact detmap_Which.mono _ _ _ _ _ _ _ _ _ _ _)
      | (with_reducible exact detmap_Who.mono _ _ _ _ _ _ _ _ _ _ _)
      | (with_reducible exact LeO.refl _)
      | (with_reducible exact LeO.none _)
      | (with_reducible refine LeO.ite ?_ ?_)
      | (with_reducible refine LeO.bind ?_ (fun _ => ?_))
      | exact ih0 _ _ _ _ _ _ _ _ _ _ _ _
      | exact detmap_Which.mono _ _ _ _ _ _ _ _ _ _ _
      | exact detmap_Who.mono _ _ _ _ _ _ _ _ _ _ _
      | exact LeO.none _
      | refine LeO.ite ?_ ?_
      | refine LeO.bind ?_ (fun _ => ?_)
set_option maxHeartbeats 8000000 in
set_option maxRecDepth 100000 in
theorem mooringslaw08_DetWhole.calls (k : Nat) (a0_0 : Int) (a0_1 : Int) (a0_2 : Int) (a0_3 : Int) (a0_4 : Int) (a0_5 : Int) (a0_6 : Int) (a0_7 : Int) (a1 : Int) (a2 : Int) (r : Bool) (w : World) (h : mooringslaw08_DetWhole.f k a0_0 a0_1 a0_2 a0_3 a0_4 a0_5 a0_6 a0_7 a1 a2 = some r) :
    Calls Try.prog 9 #[.agg #[.int .i64 a0_0, .int .i64 a0_1, .int .i64 a0_2, .int .i64 a0_3, .int .i64 a0_4, .int .i64 a0_5, .int .i64 a0_6, .int .i64 a0_7], .int .i64 a1, .int .i64 a2] w fun e w' => e = .returned (.bool r) ∧ Below w.heap.size w w' := by
  have hu25 := Try.underlying25
  have HB := Aside0.mk (Below.refl w.heap.size w)
  have H : ((mooringslaw08_awake.f).bind fun t312 => ((detmap_Who.f k a0_0 a0_1 a0_2 a0_3 a0_4 a0_5 a0_6 a0_7 a1 a2).bind fun t313 => ((detmap_Which.f k a0_0 a0_1 a0_2 a0_3 a0_4 a0_5 a0_6 a0_7 a1 a2).bind fun t314 => (if t312 = true then (if t313 ≥ 0 then (mooringslaw08_DetWhole.j0 k a2 t313 t314 (decide (t314 ≥ 0)) a0_0 a0_1 a0_2 a0_3 a0_4 a0_5 a0_6 a0_7) else (mooringslaw08_DetWhole.j0 k a2 t313 t314 false a0_0 a0_1 a0_2 a0_3 a0_4 a0_5 a0_6 a0_7)) else (mooringslaw08_DetWhole.j0 k a2 t313 t314 true a0_0 a0_1 a0_2 a0_3 a0_4 a0_5 a0_6 a0_7))))) = some r := h
  clear h
  replace H := Option.bind_eq_some_iff.mp H
  obtain ⟨t312, A40, H⟩ := H
  replace H : ((detmap_Who.f k a0_0 a0_1 a0_2 a0_3 a0_4 a0_5 a0_6 a0_7 a1 a2).bind fun t313 => ((detmap_Which.f k a0_0 a0_1 a0_2 a0_3 a0_4 a0_5 a0_6 a0_7 a1 a2).bind fun t314 => (if t312 = true then (if t313 ≥ 0 then (mooringslaw08_DetWhole.j0 k a2 t313 t314 (decide (t314 ≥ 0)) a0_0 a0_1 a0_2 a0_3 a0_4 a0_5 a0_6 a0_7) else (mooringslaw08_DetWhole.j0 k a2 t313 t314 false a0_0 a0_1 a0_2 a0_3 a0_4 a0_5 a0_6 a0_7)) else (mooringslaw08_DetWhole.j0 k a2 t313 t314 true a0_0 a0_1 a0_2 a0_3 a0_4 a0_5 a0_6 a0_7)))) = some r := H
  have A4 := Aside0.mk A40
  clear A40
  replace H := Option.bind_eq_some_iff.mp H
  obtain ⟨t313, A50, H⟩ := H
  replace H : ((detmap_Which.f k a0_0 a0_1 a0_2 a0_3 a0_4 a0_5 a0_6 a0_7 a1 a2).bind fun t314 => (if t312 = true then (if t313 ≥ 0 then (mooringslaw08_DetWhole.j0 k a2 t313 t314 (decide (t314 ≥ 0)) a0_0 a0_1 a0_2 a0_3 a0_4 a0_5 a0_6 a0_7) else (mooringslaw08_DetWhole.j0 k a2 t313 t314 false a0_0 a0_1 a0_2 a0_3 a0_4 a0_5 a0_6 a0_7)) else (mooringslaw08_DetWhole.j0 k a2 t313 t314 true a0_0 a0_1 a0_2 a0_3 a0_4 a0_5 a0_6 a0_7))) = some r := H
  have A5 := Aside0.mk A50
  clear A50
  replace H := Option.bind_eq_some_iff.mp H
  obtain ⟨t314, A60, H⟩ := H
  replace H : (if t312 = true then (if t313 ≥ 0 then (mooringslaw08_DetWhole.j0 k a2 t313 t314 (decide (t314 ≥ 0)) a0_0 a0_1 a0_2 a0_3 a0_4 a0_5 a0_6 a0_7) else (mooringslaw08_DetWhole.j0 k a2 t313 t314 false a0_0 a0_1 a0_2 a0_3 a0_4 a0_5 a0_6 a0_7)) else (mooringslaw08_DetWhole.j0 k a2 t313 t314 true a0_0 a0_1 a0_2 a0_3 a0_4 a0_5 a0_6 a0_7)) = some r := H
  have A6 := Aside0.mk A60
  clear A60
  have HC7 := Aside0.mk H
  clear H
  go_enter Try.func9, Try.ntmps9
  go_upto_region 4 with (first | ((with_reducible refine gate_dst (N := 3) rfl ?_); refine box_event ?hg (N := 3) ?hd (cs := #[.int .i64 a0_0, .int .i64 a0_1, .int .i64 a0_2, .int .i64 a0_3, .int .i64 a0_4, .int .i64 a0_5, .int .i64 a0_6, .int .i64 a0_7]) (t := 25) ?hr ?_; (case hd => rfl); (case hg => rfl); (case hr => first | (go_simp; done) | (go_simp; rfl)); intro gb311 hg w8 hbox hb; have n0_ := Aside0.mk (below_step (by repeat (first | (with_reducible first | exact HB.out | apply below_alloc | apply pw_below_drewN | apply below_drew1) | exact HB.out)) hb); have n1_ := Aside0.mk (hbox); have n2_ := Aside0.mk ((by rw [hg]; exact (below_size (by repeat (first | (with_reducible first | exact HB.out | apply below_alloc | apply pw_below_drewN | apply below_drew1) | exact HB.out))) : w.heap.size ≤ gb311)); have n3_ := Aside0.mk ((by rw [hg]; exact (below_size (by repeat (first | (with_reducible first | exact HB.out | apply below_alloc | apply pw_below_drewN | apply below_drew1) | exact HB.out))) : w.heap.size ≤ gb311)); clear HB; have HB := n0_; have BK311 := n1_; have GW311 := n2_; have GE311 := n3_; clear n0_ n1_ n2_ n3_; clear hb hbox hg) | ((with_reducible refine gate_callee (f := 10) rfl ?_); refine goesL_ (some 10) rfl rfl Try.func10 (by kernel_rfl) rfl #[] rfl (by (try simp only [List.map_toArray, List.map_cons, List.map_nil]); first | done | rfl | (simp only [List.length_drop, List.length_take]; rfl)) ?_; (with_reducible refine (mooringslaw08_awake.calls  t312 _ A4.out).mono ?_); rintro e w9 ⟨rfl, hb⟩; refine ⟨_, rfl, ?_⟩; have n0_ := Aside0.mk (blk_below (g := gb311) (o := .cells #[.int .i64 a0_0, .int .i64 a0_1, .int .i64 a0_2, .int .i64 a0_3, .int .i64 a0_4, .int .i64 a0_5, .int .i64 a0_6, .int .i64 a0_7] 25 (0, 0)) (by (with_reducible repeat (first | refine blk_drewN ?_ _ | refine blk_drew ?_ | refine blk_alloc ?_ _)); exact BK311.out) hb); have n1_ := Aside0.mk (below_step (by repeat (first | (with_reducible first | exact HB.out | apply below_alloc | apply pw_below_drewN | apply below_drew1 | refine below_set ?_ GE311.out) | exact HB.out)) hb); clear BK311; clear HB; have BK311 := n0_; have HB := n1_; clear n0_ n1_; (try clear hb); (try clear hb2); (try clear hk); (try clear hi); have hcz10_0 : w9.cell? ⟨gb311, 0, none⟩ = some (.int .i64 a0_0) := (blk_cell BK311.out 0).trans rfl; have hcz10_1 : w9.cell? ⟨gb311, 1, none⟩ = some (.int .i64 a0_1) := (blk_cell BK311.out 1).trans rfl; have hcz10_2 : w9.cell? ⟨gb311, 2, none⟩ = some (.int .i64 a0_2) := (blk_cell BK311.out 2).trans rfl; have hcz10_3 : w9.cell? ⟨gb311, 3, none⟩ = some (.int .i64 a0_3) := (blk_cell BK311.out 3).trans rfl; have hcz10_4 : w9.cell? ⟨gb311, 4, none⟩ = some (.int .i64 a0_4) := (blk_cell BK311.out 4).trans rfl; have hcz10_5 : w9.cell? ⟨gb311, 5, none⟩ = some (.int .i64 a0_5) := (blk_cell BK311.out 5).trans rfl; have hcz10_6 : w9.cell? ⟨gb311, 6, none⟩ = some (.int .i64 a0_6) := (blk_cell BK311.out 6).trans rfl; have hcz10_7 : w9.cell? ⟨gb311, 7, none⟩ = some (.int .i64 a0_7) := (blk_cell BK311.out 7).trans rfl; have hfz10_0 := blk_frozen BK311.out 0; have hfz10_1 := blk_frozen BK311.out 1; have hfz10_2 := blk_frozen BK311.out 2; have hfz10_3 := blk_frozen BK311.out 3; have hfz10_4 := blk_frozen BK311.out 4; have hfz10_5 := blk_frozen BK311.out 5; have hfz10_6 := blk_frozen BK311.out 6; have hfz10_7 := blk_frozen BK311.out 7) | ((with_reducible refine gate_callee (f := 17) rfl ?_); refine goesL_ (some 14) rfl rfl Try.func17 (by kernel_rfl) rfl #[.agg #[.int .i64 a0_0, .int .i64 a0_1, .int .i64 a0_2, .int .i64 a0_3, .int .i64 a0_4, .int .i64 a0_5, .int .i64 a0_6, .int .i64 a0_7], .int .i64 a1, .int .i64 a2] rfl (by (try simp only [List.map_toArray, List.map_cons, List.map_nil]); first | done | rfl | (simp only [List.length_drop, List.length_take]; rfl)) ?_; (with_reducible refine (detmap_Who.calls k a0_0 a0_1 a0_2 a0_3 a0_4 a0_5 a0_6 a0_7 a1 a2 t313 _ A5.out).mono ?_); rintro e w11 ⟨rfl, hb⟩; refine ⟨_, rfl, ?_⟩; have n0_ := Aside0.mk (blk_below (g := gb311) (o := .cells #[.int .i64 a0_0, .int .i64 a0_1, .int .i64 a0_2, .int .i64 a0_3, .int .i64 a0_4, .int .i64 a0_5, .int .i64 a0_6, .int .i64 a0_7] 25 (0, 0)) (by (with_reducible repeat (first | refine blk_drewN ?_ _ | refine blk_drew ?_ | refine blk_alloc ?_ _)); exact BK311.out) hb); have n1_ := Aside0.mk (below_step (by repeat (first | (with_reducible first | exact HB.out | apply below_alloc | apply pw_below_drewN | apply below_drew1 | refine below_set ?_ GE311.out) | exact HB.out)) hb); clear BK311; clear HB; have BK311 := n0_; have HB := n1_; clear n0_ n1_; (try clear hb); (try clear hb2); (try clear hk); (try clear hi); have hcz12_0 : w11.cell? ⟨gb311, 0, none⟩ = some (.int .i64 a0_0) := (blk_cell BK311.out 0).trans rfl; have hcz12_1 : w11.cell? ⟨gb311, 1, none⟩ = some (.int .i64 a0_1) := (blk_cell BK311.out 1).trans rfl; have hcz12_2 : w11.cell? ⟨gb311, 2, none⟩ = some (.int .i64 a0_2) := (blk_cell BK311.out 2).trans rfl; have hcz12_3 : w11.cell? ⟨gb311, 3, none⟩ = some (.int .i64 a0_3) := (blk_cell BK311.out 3).trans rfl; have hcz12_4 : w11.cell? ⟨gb311, 4, none⟩ = some (.int .i64 a0_4) := (blk_cell BK311.out 4).trans rfl; have hcz12_5 : w11.cell? ⟨gb311, 5, none⟩ = some (.int .i64 a0_5) := (blk_cell BK311.out 5).trans rfl; have hcz12_6 : w11.cell? ⟨gb311, 6, none⟩ = some (.int .i64 a0_6) := (blk_cell BK311.out 6).trans rfl; have hcz12_7 : w11.cell? ⟨gb311, 7, none⟩ = some (.int .i64 a0_7) := (blk_cell BK311.out 7).trans rfl; have hfz12_0 := blk_frozen BK311.out 0; have hfz12_1 := blk_frozen BK311.out 1; have hfz12_2 := blk_frozen BK311.out 2; have hfz12_3 := blk_frozen BK311.out 3; have hfz12_4 := blk_frozen BK311.out 4; have hfz12_5 := blk_frozen BK311.out 5; have hfz12_6 := blk_frozen BK311.out 6; have hfz12_7 := blk_frozen BK311.out 7) | ((with_reducible refine gate_callee (f := 25) rfl ?_); refine goesL_ (some 18) rfl rfl Try.func25 (by kernel_rfl) rfl #[.agg #[.int .i64 a0_0, .int .i64 a0_1, .int .i64 a0_2, .int .i64 a0_3, .int .i64 a0_4, .int .i64 a0_5, .int .i64 a0_6, .int .i64 a0_7], .int .i64 a1, .int .i64 a2] rfl (by (try simp only [List.map_toArray, List.map_cons, List.map_nil]); first | done | rfl | (simp only [List.length_drop, List.length_take]; rfl)) ?_; (with_reducible refine (detmap_Which.calls k a0_0 a0_1 a0_2 a0_3 a0_4 a0_5 a0_6 a0_7 a1 a2 t314 _ A6.out).mono ?_); rintro e w13 ⟨rfl, hb⟩; refine ⟨_, rfl, ?_⟩; have n0_ := Aside0.mk (blk_below (g := gb311) (o := .cells #[.int .i64 a0_0, .int .i64 a0_1, .int .i64 a0_2, .int .i64 a0_3, .int .i64 a0_4, .int .i64 a0_5, .int .i64 a0_6, .int .i64 a0_7] 25 (0, 0)) (by (with_reducible repeat (first | refine blk_drewN ?_ _ | refine blk_drew ?_ | refine blk_alloc ?_ _)); exact BK311.out) hb); have n1_ := Aside0.mk (below_step (by repeat (first | (with_reducible first | exact HB.out | apply below_alloc | apply pw_below_drewN | apply below_drew1 | refine below_set ?_ GE311.out) | exact HB.out)) hb); clear BK311; clear HB; have BK311 := n0_; have HB := n1_; clear n0_ n1_; (try clear hb); (try clear hb2); (try clear hk); (try clear hi)))
  (try simp only [Act.put, List.setIfInBounds_toArray, List.set_cons_zero, List.set_cons_succ])
  go_cut [28] (fun v28 wc => ∃ (kq : Nat) (x28_6 : Bool), v28 = .bool x28_6 ∧ Aside0 (mooringslaw08_DetWhole.j0 kq a2 t313 t314 x28_6 a0_0 a0_1 a0_2 a0_3 a0_4 a0_5 a0_6 a0_7 = some r) ∧ Aside0 (kq ≤ k) ∧ Aside0 (wc.heap[gb311]? = some (.cells #[.int .i64 a0_0, .int .i64 a0_1, .int .i64 a0_2, .int .i64 a0_3, .int .i64 a0_4, .int .i64 a0_5, .int .i64 a0_6, .int .i64 a0_7] 25 (0, 0))) ∧ Aside0 (Below w.heap.size w wc))
  case first =>
    have H := HC7.out
    clear HC7
    by_cases c14 : t312 = true
    · subst c14
      have H1 : (if t313 ≥ 0 then (mooringslaw08_DetWhole.j0 k a2 t313 t314 (decide (t314 ≥ 0)) a0_0 a0_1 a0_2 a0_3 a0_4 a0_5 a0_6 a0_7) else (mooringslaw08_DetWhole.j0 k a2 t313 t314 false a0_0 a0_1 a0_2 a0_3 a0_4 a0_5 a0_6 a0_7)) = some r := by rw [if_pos rfl] at H; exact H
      clear H
      have H := H1
      clear H1
      by_cases c15 : t313 ≥ 0
      · rw [if_pos c15] at H
        have c15b0 : decide (0 ≤ t313) = true := decide_eq_true c15
        clear c15
        (first | rw [c15b0] | (simp only [i64_w, i32_w]; rw [c15b0]) | skip)
        have H' := Aside0.mk H
        clear H
        go_wp2
        go_meet
        case rel => exact ⟨_, (decide (t314 ≥ 0)), (by first | rfl | (simp; done) | (simp [*]; done)), H', ⟨by first | omega | exact Nat.le_refl _⟩, ⟨by (with_reducible repeat (first | refine blk_drewN ?_ _ | refine blk_drew ?_ | refine blk_alloc ?_ _)); exact BK311.out⟩, ⟨by repeat (first | (with_reducible first | exact HB.out | apply below_alloc | apply pw_below_drewN | apply below_drew1 | refine below_set ?_ GE311.out) | exact HB.out)⟩⟩
      · rw [if_neg c15] at H
        have c15b0 : decide (0 ≤ t313) = false := decide_eq_false c15
        clear c15
        (first | rw [c15b0] | (simp only [i64_w, i32_w]; rw [c15b0]) | skip)
        have H' := Aside0.mk H
        clear H
        go_wp2
        go_meet
        case rel => exact ⟨_, (false), (by first | rfl | (simp; done) | (simp [*]; done)), H', ⟨by first | omega | exact Nat.le_refl _⟩, ⟨by (with_reducible repeat (first | refine blk_drewN ?_ _ | refine blk_drew ?_ | refine blk_alloc ?_ _)); exact BK311.out⟩, ⟨by repeat (first | (with_reducible first | exact HB.out | apply below_alloc | apply pw_below_drewN | apply below_drew1 | refine below_set ?_ GE311.out) | exact HB.out)⟩⟩
    · replace c14 := Bool.eq_false_iff.mpr c14
      subst c14
      have H1 : (mooringslaw08_DetWhole.j0 k a2 t313 t314 true a0_0 a0_1 a0_2 a0_3 a0_4 a0_5 a0_6 a0_7) = some r := by rw [if_neg (show ¬ (false = true) by decide)] at H; exact H
      clear H
      have H := H1
      clear H1
      have H' := Aside0.mk H
      clear H
      go_wp2
      go_meet
      case rel => exact ⟨_, (true), (by first | rfl | (simp; done) | (simp [*]; done)), H', ⟨by first | omega | exact Nat.le_refl _⟩, ⟨by (with_reducible repeat (first | refine blk_drewN ?_ _ | refine blk_drew ?_ | refine blk_alloc ?_ _)); exact BK311.out⟩, ⟨by repeat (first | (with_reducible first | exact HB.out | apply below_alloc | apply pw_below_drewN | apply below_drew1 | refine below_set ?_ GE311.out) | exact HB.out)⟩⟩
  case rest =>
    clear HC7
    try clear c1
    try clear c2
    try clear p2
    try clear c9
    try clear c10
    try clear c14
    try clear c15
    try clear c15b0
    try clear hcz10_0
    try clear hcz10_1
    try clear hcz10_2
    try clear hcz10_3
    try clear hcz10_4
    try clear hcz10_5
    try clear hcz10_6
    try clear hcz10_7
    try clear hcz12_0
    try clear hcz12_1
    try clear hcz12_2
    try clear hcz12_3
    try clear hcz12_4
    try clear hcz12_5
    try clear hcz12_6
    try clear hcz12_7
    try clear hfz10_0
    try clear hfz10_1
    try clear hfz10_2
    try clear hfz10_3
    try clear hfz10_4
    try clear hfz10_5
    try clear hfz10_6
    try clear hfz10_7
    try clear hfz12_0
    try clear hfz12_1
    try clear hfz12_2
    try clear hfz12_3
    try clear hfz12_4
    try clear hfz12_5
    try clear hfz12_6
    try clear hfz12_7
    obtain ⟨kq, x28_6, rfl, HA, HJ6, BK311, HB⟩ := hcut
    cases kq with
    | zero => exact absurd HA.out (by simp [mooringslaw08_DetWhole.j0])
    | succ kj6 =>
      have H := HA.out
      clear HA
      simp only [mooringslaw08_DetWhole.j0] at H
      by_cases c16 : x28_6 = true
      · subst c16
        have H1 : (some false) = some r := by rw [if_pos rfl] at H; exact H
        clear H
        have H := H1
        clear H1
        obtain rfl := Option.some.inj H
        go_wp2
        go_ret
        exact ⟨by first | rfl | (simp [errW_none, errW_some] <;> rfl) | (simp [*, errW_none, errW_some] <;> rfl), by repeat (first | (with_reducible first | exact HB.out | apply below_alloc | apply pw_below_drewN | apply below_drew1 | refine below_set ?_ GE311.out) | exact HB.out)⟩
      · replace c16 := Bool.eq_false_iff.mpr c16
        subst c16
        have H1 : (if a2 ≥ a0_4 then (if a2 ≤ a0_5 then (if t314 < 0 then (if t313 < 0 then (some true) else (some (decide (a2 ≤ (wrap64 (a0_5 - a0_6)))))) else (if a2 > (wrap64 (a0_5 - a0_6)) then (if t313 < 0 then (some true) else (some (decide (a2 ≤ (wrap64 (a0_5 - a0_6)))))) else (some false))) else (if t313 = (-1) then (if t314 = (-1) then (if t314 < 0 then (if t313 < 0 then (some true) else (some (decide (a2 ≤ (wrap64 (a0_5 - a0_6)))))) else (if a2 > (wrap64 (a0_5 - a0_6)) then (if t313 < 0 then (some true) else (some (decide (a2 ≤ (wrap64 (a0_5 - a0_6)))))) else (some false))) else (some false)) else (some false))) else (if t313 = (-1) then (if t314 = (-1) then (if t314 < 0 then (if t313 < 0 then (some true) else (some (decide (a2 ≤ (wrap64 (a0_5 - a0_6)))))) else (if a2 > (wrap64 (a0_5 - a0_6)) then (if t313 < 0 then (some true) else (some (decide (a2 ≤ (wrap64 (a0_5 - a0_6)))))) else (some false))) else (some false)) else (some false))) = some r := by rw [if_neg (show ¬ (false = true) by decide)] at H; exact H
        clear H
        have H := H1
        clear H1
        by_cases c17 : a2 ≥ a0_4
        · rw [if_pos c17] at H
          have c17b0 : decide (a0_4 ≤ a2) = true := decide_eq_true c17
          clear c17
          by_cases c18 : a2 ≤ a0_5
          · rw [if_pos c18] at H
            have c18b0 : decide (a2 ≤ a0_5) = true := decide_eq_true c18
            clear c18
            by_cases c19 : t314 < 0
            · rw [if_pos c19] at H
              have c19b0 : decide (t314 < 0) = true := decide_eq_true c19
              clear c19
              by_cases c20 : t313 < 0
              · rw [if_pos c20] at H
                have c20b0 : decide (t313 < 0) = true := decide_eq_true c20
                clear c20
                obtain rfl := Option.some.inj H
                have hcz21_0 : wc.cell? ⟨gb311, 0, none⟩ = some (.int .i64 a0_0) := (blk_cell BK311.out 0).trans rfl
                have hcz21_1 : wc.cell? ⟨gb311, 1, none⟩ = some (.int .i64 a0_1) := (blk_cell BK311.out 1).trans rfl
                have hcz21_2 : wc.cell? ⟨gb311, 2, none⟩ = some (.int .i64 a0_2) := (blk_cell BK311.out 2).trans rfl
                have hcz21_3 : wc.cell? ⟨gb311, 3, none⟩ = some (.int .i64 a0_3) := (blk_cell BK311.out 3).trans rfl
                have hcz21_4 : wc.cell? ⟨gb311, 4, none⟩ = some (.int .i64 a0_4) := (blk_cell BK311.out 4).trans rfl
                have hcz21_5 : wc.cell? ⟨gb311, 5, none⟩ = some (.int .i64 a0_5) := (blk_cell BK311.out 5).trans rfl
                have hcz21_6 : wc.cell? ⟨gb311, 6, none⟩ = some (.int .i64 a0_6) := (blk_cell BK311.out 6).trans rfl
                have hcz21_7 : wc.cell? ⟨gb311, 7, none⟩ = some (.int .i64 a0_7) := (blk_cell BK311.out 7).trans rfl
                have hfz21_0 := blk_frozen BK311.out 0
                have hfz21_1 := blk_frozen BK311.out 1
                have hfz21_2 := blk_frozen BK311.out 2
                have hfz21_3 := blk_frozen BK311.out 3
                have hfz21_4 := blk_frozen BK311.out 4
                have hfz21_5 := blk_frozen BK311.out 5
                have hfz21_6 := blk_frozen BK311.out 6
                have hfz21_7 := blk_frozen BK311.out 7
                go_wp2
                go_ret
                exact ⟨by first | rfl | (simp [errW_none, errW_some] <;> rfl) | (simp [*, errW_none, errW_some] <;> rfl), by repeat (first | (with_reducible first | exact HB.out | apply below_alloc | apply pw_below_drewN | apply below_drew1 | refine below_set ?_ GE311.out) | exact HB.out)⟩
              · rw [if_neg c20] at H
                have c20b0 : decide (t313 < 0) = false := decide_eq_false c20
                clear c20
                obtain rfl := Option.some.inj H
                have hcz22_0 : wc.cell? ⟨gb311, 0, none⟩ = some (.int .i64 a0_0) := (blk_cell BK311.out 0).trans rfl
                have hcz22_1 : wc.cell? ⟨gb311, 1, none⟩ = some (.int .i64 a0_1) := (blk_cell BK311.out 1).trans rfl
                have hcz22_2 : wc.cell? ⟨gb311, 2, none⟩ = some (.int .i64 a0_2) := (blk_cell BK311.out 2).trans rfl
                have hcz22_3 : wc.cell? ⟨gb311, 3, none⟩ = some (.int .i64 a0_3) := (blk_cell BK311.out 3).trans rfl
                have hcz22_4 : wc.cell? ⟨gb311, 4, none⟩ = some (.int .i64 a0_4) := (blk_cell BK311.out 4).trans rfl
                have hcz22_5 : wc.cell? ⟨gb311, 5, none⟩ = some (.int .i64 a0_5) := (blk_cell BK311.out 5).trans rfl
                have hcz22_6 : wc.cell? ⟨gb311, 6, none⟩ = some (.int .i64 a0_6) := (blk_cell BK311.out 6).trans rfl
                have hcz22_7 : wc.cell? ⟨gb311, 7, none⟩ = some (.int .i64 a0_7) := (blk_cell BK311.out 7).trans rfl
                have hfz22_0 := blk_frozen BK311.out 0
                have hfz22_1 := blk_frozen BK311.out 1
                have hfz22_2 := blk_frozen BK311.out 2
                have hfz22_3 := blk_frozen BK311.out 3
                have hfz22_4 := blk_frozen BK311.out 4
                have hfz22_5 := blk_frozen BK311.out 5
                have hfz22_6 := blk_frozen BK311.out 6
                have hfz22_7 := blk_frozen BK311.out 7
                go_wp2
                go_ret
                exact ⟨by first | rfl | (simp [errW_none, errW_some] <;> rfl) | (simp [*, errW_none, errW_some] <;> rfl), by repeat (first | (with_reducible first | exact HB.out | apply below_alloc | apply pw_below_drewN | apply below_drew1 | refine below_set ?_ GE311.out) | exact HB.out)⟩
            · rw [if_neg c19] at H
              have c19b0 : decide (t314 < 0) = false := decide_eq_false c19
              clear c19
              by_cases c23 : a2 > (wrap64 (a0_5 - a0_6))
              · rw [if_pos c23] at H
                have c23b0 : decide ((wrap64 (a0_5 - a0_6)) < a2) = true := decide_eq_true c23
                clear c23
                by_cases c24 : t313 < 0
                · rw [if_pos c24] at H
                  have c24b0 : decide (t313 < 0) = true := decide_eq_true c24
                  clear c24
                  obtain rfl := Option.some.inj H
                  have hcz25_0 : wc.cell? ⟨gb311, 0, none⟩ = some (.int .i64 a0_0) := (blk_cell BK311.out 0).trans rfl
                  have hcz25_1 : wc.cell? ⟨gb311, 1, none⟩ = some (.int .i64 a0_1) := (blk_cell BK311.out 1).trans rfl
                  have hcz25_2 : wc.cell? ⟨gb311, 2, none⟩ = some (.int .i64 a0_2) := (blk_cell BK311.out 2).trans rfl
                  have hcz25_3 : wc.cell? ⟨gb311, 3, none⟩ = some (.int .i64 a0_3) := (blk_cell BK311.out 3).trans rfl
                  have hcz25_4 : wc.cell? ⟨gb311, 4, none⟩ = some (.int .i64 a0_4) := (blk_cell BK311.out 4).trans rfl
                  have hcz25_5 : wc.cell? ⟨gb311, 5, none⟩ = some (.int .i64 a0_5) := (blk_cell BK311.out 5).trans rfl
                  have hcz25_6 : wc.cell? ⟨gb311, 6, none⟩ = some (.int .i64 a0_6) := (blk_cell BK311.out 6).trans rfl
                  have hcz25_7 : wc.cell? ⟨gb311, 7, none⟩ = some (.int .i64 a0_7) := (blk_cell BK311.out 7).trans rfl
                  have hfz25_0 := blk_frozen BK311.out 0
                  have hfz25_1 := blk_frozen BK311.out 1
                  have hfz25_2 := blk_frozen BK311.out 2
                  have hfz25_3 := blk_frozen BK311.out 3
                  have hfz25_4 := blk_frozen BK311.out 4
                  have hfz25_5 := blk_frozen BK311.out 5
                  have hfz25_6 := blk_frozen BK311.out 6
                  have hfz25_7 := blk_frozen BK311.out 7
                  go_wp2
                  go_ret
                  exact ⟨by first | rfl | (simp [errW_none, errW_some] <;> rfl) | (simp [*, errW_none, errW_some] <;> rfl), by repeat (first | (with_reducible first | exact HB.out | apply below_alloc | apply pw_below_drewN | apply below_drew1 | refine below_set ?_ GE311.out) | exact HB.out)⟩
                · rw [if_neg c24] at H
                  have c24b0 : decide (t313 < 0) = false := decide_eq_false c24
                  clear c24
                  obtain rfl := Option.some.inj H
                  have hcz26_0 : wc.cell? ⟨gb311, 0, none⟩ = some (.int .i64 a0_0) := (blk_cell BK311.out 0).trans rfl
                  have hcz26_1 : wc.cell? ⟨gb311, 1, none⟩ = some (.int .i64 a0_1) := (blk_cell BK311.out 1).trans rfl
                  have hcz26_2 : wc.cell? ⟨gb311, 2, none⟩ = some (.int .i64 a0_2) := (blk_cell BK311.out 2).trans rfl
                  have hcz26_3 : wc.cell? ⟨gb311, 3, none⟩ = some (.int .i64 a0_3) := (blk_cell BK311.out 3).trans rfl
                  have hcz26_4 : wc.cell? ⟨gb311, 4, none⟩ = some (.int .i64 a0_4) := (blk_cell BK311.out 4).trans rfl
                  have hcz26_5 : wc.cell? ⟨gb311, 5, none⟩ = some (.int .i64 a0_5) := (blk_cell BK311.out 5).trans rfl
                  have hcz26_6 : wc.cell? ⟨gb311, 6, none⟩ = some (.int .i64 a0_6) := (blk_cell BK311.out 6).trans rfl
                  have hcz26_7 : wc.cell? ⟨gb311, 7, none⟩ = some (.int .i64 a0_7) := (blk_cell BK311.out 7).trans rfl
                  have hfz26_0 := blk_frozen BK311.out 0
                  have hfz26_1 := blk_frozen BK311.out 1
                  have hfz26_2 := blk_frozen BK311.out 2
                  have hfz26_3 := blk_frozen BK311.out 3
                  have hfz26_4 := blk_frozen BK311.out 4
                  have hfz26_5 := blk_frozen BK311.out 5
                  have hfz26_6 := blk_frozen BK311.out 6
                  have hfz26_7 := blk_frozen BK311.out 7
                  go_wp2
                  go_ret
                  exact ⟨by first | rfl | (simp [errW_none, errW_some] <;> rfl) | (simp [*, errW_none, errW_some] <;> rfl), by repeat (first | (with_reducible first | exact HB.out | apply below_alloc | apply pw_below_drewN | apply below_drew1 | refine below_set ?_ GE311.out) | exact HB.out)⟩
              · rw [if_neg c23] at H
                have c23b0 : decide ((wrap64 (a0_5 - a0_6)) < a2) = false := decide_eq_false c23
                clear c23
                obtain rfl := Option.some.inj H
                have hcz27_0 : wc.cell? ⟨gb311, 0, none⟩ = some (.int .i64 a0_0) := (blk_cell BK311.out 0).trans rfl
                have hcz27_1 : wc.cell? ⟨gb311, 1, none⟩ = some (.int .i64 a0_1) := (blk_cell BK311.out 1).trans rfl
                have hcz27_2 : wc.cell? ⟨gb311, 2, none⟩ = some (.int .i64 a0_2) := (blk_cell BK311.out 2).trans rfl
                have hcz27_3 : wc.cell? ⟨gb311, 3, none⟩ = some (.int .i64 a0_3) := (blk_cell BK311.out 3).trans rfl
                have hcz27_4 : wc.cell? ⟨gb311, 4, none⟩ = some (.int .i64 a0_4) := (blk_cell BK311.out 4).trans rfl
                have hcz27_5 : wc.cell? ⟨gb311, 5, none⟩ = some (.int .i64 a0_5) := (blk_cell BK311.out 5).trans rfl
                have hcz27_6 : wc.cell? ⟨gb311, 6, none⟩ = some (.int .i64 a0_6) := (blk_cell BK311.out 6).trans rfl
                have hcz27_7 : wc.cell? ⟨gb311, 7, none⟩ = some (.int .i64 a0_7) := (blk_cell BK311.out 7).trans rfl
                have hfz27_0 := blk_frozen BK311.out 0
                have hfz27_1 := blk_frozen BK311.out 1
                have hfz27_2 := blk_frozen BK311.out 2
                have hfz27_3 := blk_frozen BK311.out 3
                have hfz27_4 := blk_frozen BK311.out 4
                have hfz27_5 := blk_frozen BK311.out 5
                have hfz27_6 := blk_frozen BK311.out 6
                have hfz27_7 := blk_frozen BK311.out 7
                go_wp2
                go_ret
                exact ⟨by first | rfl | (simp [errW_none, errW_some] <;> rfl) | (simp [*, errW_none, errW_some] <;> rfl), by repeat (first | (with_reducible first | exact HB.out | apply below_alloc | apply pw_below_drewN | apply below_drew1 | refine below_set ?_ GE311.out) | exact HB.out)⟩
          · rw [if_neg c18] at H
            have c18b0 : decide (a2 ≤ a0_5) = false := decide_eq_false c18
            clear c18
            by_cases c28 : t313 = (-1)
            · rw [if_pos c28] at H
              have c28b0 : (t313 == (-1)) = true := beq_iff_eq.mpr c28
              have c28b1 : (t313 != (-1)) = false := bne_eq_false_iff_eq.mpr c28
              clear c28
              by_cases c29 : t314 = (-1)
              · rw [if_pos c29] at H
                have c29b0 : (t314 == (-1)) = true := beq_iff_eq.mpr c29
                have c29b1 : (t314 != (-1)) = false := bne_eq_false_iff_eq.mpr c29
                clear c29
                by_cases c30 : t314 < 0
                · rw [if_pos c30] at H
                  have c30b0 : decide (t314 < 0) = true := decide_eq_true c30
                  clear c30
                  by_cases c31 : t313 < 0
                  · rw [if_pos c31] at H
                    have c31b0 : decide (t313 < 0) = true := decide_eq_true c31
                    clear c31
                    obtain rfl := Option.some.inj H
                    have hcz32_0 : wc.cell? ⟨gb311, 0, none⟩ = some (.int .i64 a0_0) := (blk_cell BK311.out 0).trans rfl
                    have hcz32_1 : wc.cell? ⟨gb311, 1, none⟩ = some (.int .i64 a0_1) := (blk_cell BK311.out 1).trans rfl
                    have hcz32_2 : wc.cell? ⟨gb311, 2, none⟩ = some (.int .i64 a0_2) := (blk_cell BK311.out 2).trans rfl
                    have hcz32_3 : wc.cell? ⟨gb311, 3, none⟩ = some (.int .i64 a0_3) := (blk_cell BK311.out 3).trans rfl
                    have hcz32_4 : wc.cell? ⟨gb311, 4, none⟩ = some (.int .i64 a0_4) := (blk_cell BK311.out 4).trans rfl
                    have hcz32_5 : wc.cell? ⟨gb311, 5, none⟩ = some (.int .i64 a0_5) := (blk_cell BK311.out 5).trans rfl
                    have hcz32_6 : wc.cell? ⟨gb311, 6, none⟩ = some (.int .i64 a0_6) := (blk_cell BK311.out 6).trans rfl
                    have hcz32_7 : wc.cell? ⟨gb311, 7, none⟩ = some (.int .i64 a0_7) := (blk_cell BK311.out 7).trans rfl
                    have hfz32_0 := blk_frozen BK311.out 0
                    have hfz32_1 := blk_frozen BK311.out 1
                    have hfz32_2 := blk_frozen BK311.out 2
                    have hfz32_3 := blk_frozen BK311.out 3
                    have hfz32_4 := blk_frozen BK311.out 4
                    have hfz32_5 := blk_frozen BK311.out 5
                    have hfz32_6 := blk_frozen BK311.out 6
                    have hfz32_7 := blk_frozen BK311.out 7
                    go_wp2
                    go_ret
                    exact ⟨by first | rfl | (simp [errW_none, errW_some] <;> rfl) | (simp [*, errW_none, errW_some] <;> rfl), by repeat (first | (with_reducible first | exact HB.out | apply below_alloc | apply pw_below_drewN | apply below_drew1 | refine below_set ?_ GE311.out) | exact HB.out)⟩
                  · rw [if_neg c31] at H
                    have c31b0 : decide (t313 < 0) = false := decide_eq_false c31
                    clear c31
                    obtain rfl := Option.some.inj H
                    have hcz33_0 : wc.cell? ⟨gb311, 0, none⟩ = some (.int .i64 a0_0) := (blk_cell BK311.out 0).trans rfl
                    have hcz33_1 : wc.cell? ⟨gb311, 1, none⟩ = some (.int .i64 a0_1) := (blk_cell BK311.out 1).trans rfl
                    have hcz33_2 : wc.cell? ⟨gb311, 2, none⟩ = some (.int .i64 a0_2) := (blk_cell BK311.out 2).trans rfl
                    have hcz33_3 : wc.cell? ⟨gb311, 3, none⟩ = some (.int .i64 a0_3) := (blk_cell BK311.out 3).trans rfl
                    have hcz33_4 : wc.cell? ⟨gb311, 4, none⟩ = some (.int .i64 a0_4) := (blk_cell BK311.out 4).trans rfl
                    have hcz33_5 : wc.cell? ⟨gb311, 5, none⟩ = some (.int .i64 a0_5) := (blk_cell BK311.out 5).trans rfl
                    have hcz33_6 : wc.cell? ⟨gb311, 6, none⟩ = some (.int .i64 a0_6) := (blk_cell BK311.out 6).trans rfl
                    have hcz33_7 : wc.cell? ⟨gb311, 7, none⟩ = some (.int .i64 a0_7) := (blk_cell BK311.out 7).trans rfl
                    have hfz33_0 := blk_frozen BK311.out 0
                    have hfz33_1 := blk_frozen BK311.out 1
                    have hfz33_2 := blk_frozen BK311.out 2
                    have hfz33_3 := blk_frozen BK311.out 3
                    have hfz33_4 := blk_frozen BK311.out 4
                    have hfz33_5 := blk_frozen BK311.out 5
                    have hfz33_6 := blk_frozen BK311.out 6
                    have hfz33_7 := blk_frozen BK311.out 7
                    go_wp2
                    go_ret
                    exact ⟨by first | rfl | (simp [errW_none, errW_some] <;> rfl) | (simp [*, errW_none, errW_some] <;> rfl), by repeat (first | (with_reducible first | exact HB.out | apply below_alloc | apply pw_below_drewN | apply below_drew1 | refine below_set ?_ GE311.out) | exact HB.out)⟩
                · rw [if_neg c30] at H
                  have c30b0 : decide (t314 < 0) = false := decide_eq_false c30
                  clear c30
                  by_cases c34 : a2 > (wrap64 (a0_5 - a0_6))
                  · rw [if_pos c34] at H
                    have c34b0 : decide ((wrap64 (a0_5 - a0_6)) < a2) = true := decide_eq_true c34
                    clear c34
                    by_cases c35 : t313 < 0
                    · rw [if_pos c35] at H
                      have c35b0 : decide (t313 < 0) = true := decide_eq_true c35
                      clear c35
                      obtain rfl := Option.some.inj H
                      have hcz36_0 : wc.cell? ⟨gb311, 0, none⟩ = some (.int .i64 a0_0) := (blk_cell BK311.out 0).trans rfl
                      have hcz36_1 : wc.cell? ⟨gb311, 1, none⟩ = some (.int .i64 a0_1) := (blk_cell BK311.out 1).trans rfl
                      have hcz36_2 : wc.cell? ⟨gb311, 2, none⟩ = some (.int .i64 a0_2) := (blk_cell BK311.out 2).trans rfl
                      have hcz36_3 : wc.cell? ⟨gb311, 3, none⟩ = some (.int .i64 a0_3) := (blk_cell BK311.out 3).trans rfl
                      have hcz36_4 : wc.cell? ⟨gb311, 4, none⟩ = some (.int .i64 a0_4) := (blk_cell BK311.out 4).trans rfl
                      have hcz36_5 : wc.cell? ⟨gb311, 5, none⟩ = some (.int .i64 a0_5) := (blk_cell BK311.out 5).trans rfl
                      have hcz36_6 : wc.cell? ⟨gb311, 6, none⟩ = some (.int .i64 a0_6) := (blk_cell BK311.out 6).trans rfl
                      have hcz36_7 : wc.cell? ⟨gb311, 7, none⟩ = some (.int .i64 a0_7) := (blk_cell BK311.out 7).trans rfl
                      have hfz36_0 := blk_frozen BK311.out 0
                      have hfz36_1 := blk_frozen BK311.out 1
                      have hfz36_2 := blk_frozen BK311.out 2
                      have hfz36_3 := blk_frozen BK311.out 3
                      have hfz36_4 := blk_frozen BK311.out 4
                      have hfz36_5 := blk_frozen BK311.out 5
                      have hfz36_6 := blk_frozen BK311.out 6
                      have hfz36_7 := blk_frozen BK311.out 7
                      go_wp2
                      go_ret
                      exact ⟨by first | rfl | (simp [errW_none, errW_some] <;> rfl) | (simp [*, errW_none, errW_some] <;> rfl), by repeat (first | (with_reducible first | exact HB.out | apply below_alloc | apply pw_below_drewN | apply below_drew1 | refine below_set ?_ GE311.out) | exact HB.out)⟩
                    · rw [if_neg c35] at H
                      have c35b0 : decide (t313 < 0) = false := decide_eq_false c35
                      clear c35
                      obtain rfl := Option.some.inj H
                      have hcz37_0 : wc.cell? ⟨gb311, 0, none⟩ = some (.int .i64 a0_0) := (blk_cell BK311.out 0).trans rfl
                      have hcz37_1 : wc.cell? ⟨gb311, 1, none⟩ = some (.int .i64 a0_1) := (blk_cell BK311.out 1).trans rfl
                      have hcz37_2 : wc.cell? ⟨gb311, 2, none⟩ = some (.int .i64 a0_2) := (blk_cell BK311.out 2).trans rfl
                      have hcz37_3 : wc.cell? ⟨gb311, 3, none⟩ = some (.int .i64 a0_3) := (blk_cell BK311.out 3).trans rfl
                      have hcz37_4 : wc.cell? ⟨gb311, 4, none⟩ = some (.int .i64 a0_4) := (blk_cell BK311.out 4).trans rfl
                      have hcz37_5 : wc.cell? ⟨gb311, 5, none⟩ = some (.int .i64 a0_5) := (blk_cell BK311.out 5).trans rfl
                      have hcz37_6 : wc.cell? ⟨gb311, 6, none⟩ = some (.int .i64 a0_6) := (blk_cell BK311.out 6).trans rfl
                      have hcz37_7 : wc.cell? ⟨gb311, 7, none⟩ = some (.int .i64 a0_7) := (blk_cell BK311.out 7).trans rfl
                      have hfz37_0 := blk_frozen BK311.out 0
                      have hfz37_1 := blk_frozen BK311.out 1
                      have hfz37_2 := blk_frozen BK311.out 2
                      have hfz37_3 := blk_frozen BK311.out 3
                      have hfz37_4 := blk_frozen BK311.out 4
                      have hfz37_5 := blk_frozen BK311.out 5
                      have hfz37_6 := blk_frozen BK311.out 6
                      have hfz37_7 := blk_frozen BK311.out 7
                      go_wp2
                      go_ret
                      exact ⟨by first | rfl | (simp [errW_none, errW_some] <;> rfl) | (simp [*, errW_none, errW_some] <;> rfl), by repeat (first | (with_reducible first | exact HB.out | apply below_alloc | apply pw_below_drewN | apply below_drew1 | refine below_set ?_ GE311.out) | exact HB.out)⟩
                  · rw [if_neg c34] at H
                    have c34b0 : decide ((wrap64 (a0_5 - a0_6)) < a2) = false := decide_eq_false c34
                    clear c34
                    obtain rfl := Option.some.inj H
                    have hcz38_0 : wc.cell? ⟨gb311, 0, none⟩ = some (.int .i64 a0_0) := (blk_cell BK311.out 0).trans rfl
                    have hcz38_1 : wc.cell? ⟨gb311, 1, none⟩ = some (.int .i64 a0_1) := (blk_cell BK311.out 1).trans rfl
                    have hcz38_2 : wc.cell? ⟨gb311, 2, none⟩ = some (.int .i64 a0_2) := (blk_cell BK311.out 2).trans rfl
                    have hcz38_3 : wc.cell? ⟨gb311, 3, none⟩ = some (.int .i64 a0_3) := (blk_cell BK311.out 3).trans rfl
                    have hcz38_4 : wc.cell? ⟨gb311, 4, none⟩ = some (.int .i64 a0_4) := (blk_cell BK311.out 4).trans rfl
                    have hcz38_5 : wc.cell? ⟨gb311, 5, none⟩ = some (.int .i64 a0_5) := (blk_cell BK311.out 5).trans rfl
                    have hcz38_6 : wc.cell? ⟨gb311, 6, none⟩ = some (.int .i64 a0_6) := (blk_cell BK311.out 6).trans rfl
                    have hcz38_7 : wc.cell? ⟨gb311, 7, none⟩ = some (.int .i64 a0_7) := (blk_cell BK311.out 7).trans rfl
                    have hfz38_0 := blk_frozen BK311.out 0
                    have hfz38_1 := blk_frozen BK311.out 1
                    have hfz38_2 := blk_frozen BK311.out 2
                    have hfz38_3 := blk_frozen BK311.out 3
                    have hfz38_4 := blk_frozen BK311.out 4
                    have hfz38_5 := blk_frozen BK311.out 5
                    have hfz38_6 := blk_frozen BK311.out 6
                    have hfz38_7 := blk_frozen BK311.out 7
                    go_wp2
                    go_ret
                    exact ⟨by first | rfl | (simp [errW_none, errW_some] <;> rfl) | (simp [*, errW_none, errW_some] <;> rfl), by repeat (first | (with_reducible first | exact HB.out | apply below_alloc | apply pw_below_drewN | apply below_drew1 | refine below_set ?_ GE311.out) | exact HB.out)⟩
              · rw [if_neg c29] at H
                have c29b0 : (t314 == (-1)) = false := beq_eq_false_iff_ne.mpr c29
                have c29b1 : (t314 != (-1)) = true := bne_iff_ne.mpr c29
                obtain rfl := Option.some.inj H
                have hcz39_0 : wc.cell? ⟨gb311, 0, none⟩ = some (.int .i64 a0_0) := (blk_cell BK311.out 0).trans rfl
                have hcz39_1 : wc.cell? ⟨gb311, 1, none⟩ = some (.int .i64 a0_1) := (blk_cell BK311.out 1).trans rfl
                have hcz39_2 : wc.cell? ⟨gb311, 2, none⟩ = some (.int .i64 a0_2) := (blk_cell BK311.out 2).trans rfl
                have hcz39_3 : wc.cell? ⟨gb311, 3, none⟩ = some (.int .i64 a0_3) := (blk_cell BK311.out 3).trans rfl
                have hcz39_4 : wc.cell? ⟨gb311, 4, none⟩ = some (.int .i64 a0_4) := (blk_cell BK311.out 4).trans rfl
                have hcz39_5 : wc.cell? ⟨gb311, 5, none⟩ = some (.int .i64 a0_5) := (blk_cell BK311.out 5).trans rfl
                have hcz39_6 : wc.cell? ⟨gb311, 6, none⟩ = some (.int .i64 a0_6) := (blk_cell BK311.out 6).trans rfl
                have hcz39_7 : wc.cell? ⟨gb311, 7, none⟩ = some (.int .i64 a0_7) := (blk_cell BK311.out 7).trans rfl
                have hfz39_0 := blk_frozen BK311.out 0
                have hfz39_1 := blk_frozen BK311.out 1
                have hfz39_2 := blk_frozen BK311.out 2
                have hfz39_3 := blk_frozen BK311.out 3
                have hfz39_4 := blk_frozen BK311.out 4
                have hfz39_5 := blk_frozen BK311.out 5
                have hfz39_6 := blk_frozen BK311.out 6
                have hfz39_7 := blk_frozen BK311.out 7
                go_wp2
                go_ret
                exact ⟨by first | rfl | (simp [errW_none, errW_some] <;> rfl) | (simp [*, errW_none, errW_some] <;> rfl), by repeat (first | (with_reducible first | exact HB.out | apply below_alloc | apply pw_below_drewN | apply below_drew1 | refine below_set ?_ GE311.out) | exact HB.out)⟩
            · rw [if_neg c28] at H
              have c28b0 : (t313 == (-1)) = false := beq_eq_false_iff_ne.mpr c28
              have c28b1 : (t313 != (-1)) = true := bne_iff_ne.mpr c28
              obtain rfl := Option.some.inj H
              have hcz40_0 : wc.cell? ⟨gb311, 0, none⟩ = some (.int .i64 a0_0) := (blk_cell BK311.out 0).trans rfl
              have hcz40_1 : wc.cell? ⟨gb311, 1, none⟩ = some (.int .i64 a0_1) := (blk_cell BK311.out 1).trans rfl
              have hcz40_2 : wc.cell? ⟨gb311, 2, none⟩ = some (.int .i64 a0_2) := (blk_cell BK311.out 2).trans rfl
              have hcz40_3 : wc.cell? ⟨gb311, 3, none⟩ = some (.int .i64 a0_3) := (blk_cell BK311.out 3).trans rfl
              have hcz40_4 : wc.cell? ⟨gb311, 4, none⟩ = some (.int .i64 a0_4) := (blk_cell BK311.out 4).trans rfl
              have hcz40_5 : wc.cell? ⟨gb311, 5, none⟩ = some (.int .i64 a0_5) := (blk_cell BK311.out 5).trans rfl
              have hcz40_6 : wc.cell? ⟨gb311, 6, none⟩ = some (.int .i64 a0_6) := (blk_cell BK311.out 6).trans rfl
              have hcz40_7 : wc.cell? ⟨gb311, 7, none⟩ = some (.int .i64 a0_7) := (blk_cell BK311.out 7).trans rfl
              have hfz40_0 := blk_frozen BK311.out 0
              have hfz40_1 := blk_frozen BK311.out 1
              have hfz40_2 := blk_frozen BK311.out 2
              have hfz40_3 := blk_frozen BK311.out 3
              have hfz40_4 := blk_frozen BK311.out 4
              have hfz40_5 := blk_frozen BK311.out 5
              have hfz40_6 := blk_frozen BK311.out 6
              have hfz40_7 := blk_frozen BK311.out 7
              go_wp2
              go_ret
              exact ⟨by first | rfl | (simp [errW_none, errW_some] <;> rfl) | (simp [*, errW_none, errW_some] <;> rfl), by repeat (first | (with_reducible first | exact HB.out | apply below_alloc | apply pw_below_drewN | apply below_drew1 | refine below_set ?_ GE311.out) | exact HB.out)⟩
        · rw [if_neg c17] at H
          have c17b0 : decide (a0_4 ≤ a2) = false := decide_eq_false c17
          clear c17
          by_cases c41 : t313 = (-1)
          · rw [if_pos c41] at H
            have c41b0 : (t313 == (-1)) = true := beq_iff_eq.mpr c41
            have c41b1 : (t313 != (-1)) = false := bne_eq_false_iff_eq.mpr c41
            clear c41
            by_cases c42 : t314 = (-1)
            · rw [if_pos c42] at H
              have c42b0 : (t314 == (-1)) = true := beq_iff_eq.mpr c42
              have c42b1 : (t314 != (-1)) = false := bne_eq_false_iff_eq.mpr c42
              clear c42
              by_cases c43 : t314 < 0
              · rw [if_pos c43] at H
                have c43b0 : decide (t314 < 0) = true := decide_eq_true c43
                clear c43
                by_cases c44 : t313 < 0
                · rw [if_pos c44] at H
                  have c44b0 : decide (t313 < 0) = true := decide_eq_true c44
                  clear c44
                  obtain rfl := Option.some.inj H
                  have hcz45_0 : wc.cell? ⟨gb311, 0, none⟩ = some (.int .i64 a0_0) := (blk_cell BK311.out 0).trans rfl
                  have hcz45_1 : wc.cell? ⟨gb311, 1, none⟩ = some (.int .i64 a0_1) := (blk_cell BK311.out 1).trans rfl
                  have hcz45_2 : wc.cell? ⟨gb311, 2, none⟩ = some (.int .i64 a0_2) := (blk_cell BK311.out 2).trans rfl
                  have hcz45_3 : wc.cell? ⟨gb311, 3, none⟩ = some (.int .i64 a0_3) := (blk_cell BK311.out 3).trans rfl
                  have hcz45_4 : wc.cell? ⟨gb311, 4, none⟩ = some (.int .i64 a0_4) := (blk_cell BK311.out 4).trans rfl
                  have hcz45_5 : wc.cell? ⟨gb311, 5, none⟩ = some (.int .i64 a0_5) := (blk_cell BK311.out 5).trans rfl
                  have hcz45_6 : wc.cell? ⟨gb311, 6, none⟩ = some (.int .i64 a0_6) := (blk_cell BK311.out 6).trans rfl
                  have hcz45_7 : wc.cell? ⟨gb311, 7, none⟩ = some (.int .i64 a0_7) := (blk_cell BK311.out 7).trans rfl
                  have hfz45_0 := blk_frozen BK311.out 0
                  have hfz45_1 := blk_frozen BK311.out 1
                  have hfz45_2 := blk_frozen BK311.out 2
                  have hfz45_3 := blk_frozen BK311.out 3
                  have hfz45_4 := blk_frozen BK311.out 4
                  have hfz45_5 := blk_frozen BK311.out 5
                  have hfz45_6 := blk_frozen BK311.out 6
                  have hfz45_7 := blk_frozen BK311.out 7
                  go_wp2
                  go_ret
                  exact ⟨by first | rfl | (simp [errW_none, errW_some] <;> rfl) | (simp [*, errW_none, errW_some] <;> rfl), by repeat (first | (with_reducible first | exact HB.out | apply below_alloc | apply pw_below_drewN | apply below_drew1 | refine below_set ?_ GE311.out) | exact HB.out)⟩
                · rw [if_neg c44] at H
                  have c44b0 : decide (t313 < 0) = false := decide_eq_false c44
                  clear c44
                  obtain rfl := Option.some.inj H
                  have hcz46_0 : wc.cell? ⟨gb311, 0, none⟩ = some (.int .i64 a0_0) := (blk_cell BK311.out 0).trans rfl
                  have hcz46_1 : wc.cell? ⟨gb311, 1, none⟩ = some (.int .i64 a0_1) := (blk_cell BK311.out 1).trans rfl
                  have hcz46_2 : wc.cell? ⟨gb311, 2, none⟩ = some (.int .i64 a0_2) := (blk_cell BK311.out 2).trans rfl
                  have hcz46_3 : wc.cell? ⟨gb311, 3, none⟩ = some (.int .i64 a0_3) := (blk_cell BK311.out 3).trans rfl
                  have hcz46_4 : wc.cell? ⟨gb311, 4, none⟩ = some (.int .i64 a0_4) := (blk_cell BK311.out 4).trans rfl
                  have hcz46_5 : wc.cell? ⟨gb311, 5, none⟩ = some (.int .i64 a0_5) := (blk_cell BK311.out 5).trans rfl
                  have hcz46_6 : wc.cell? ⟨gb311, 6, none⟩ = some (.int .i64 a0_6) := (blk_cell BK311.out 6).trans rfl
                  have hcz46_7 : wc.cell? ⟨gb311, 7, none⟩ = some (.int .i64 a0_7) := (blk_cell BK311.out 7).trans rfl
                  have hfz46_0 := blk_frozen BK311.out 0
                  have hfz46_1 := blk_frozen BK311.out 1
                  have hfz46_2 := blk_frozen BK311.out 2
                  have hfz46_3 := blk_frozen BK311.out 3
                  have hfz46_4 := blk_frozen BK311.out 4
                  have hfz46_5 := blk_frozen BK311.out 5
                  have hfz46_6 := blk_frozen BK311.out 6
                  have hfz46_7 := blk_frozen BK311.out 7
                  go_wp2
                  go_ret
                  exact ⟨by first | rfl | (simp [errW_none, errW_some] <;> rfl) | (simp [*, errW_none, errW_some] <;> rfl), by repeat (first | (with_reducible first | exact HB.out | apply below_alloc | apply pw_below_drewN | apply below_drew1 | refine below_set ?_ GE311.out) | exact HB.out)⟩
              · rw [if_neg c43] at H
                have c43b0 : decide (t314 < 0) = false := decide_eq_false c43
                clear c43
                by_cases c47 : a2 > (wrap64 (a0_5 - a0_6))
                · rw [if_pos c47] at H
                  have c47b0 : decide ((wrap64 (a0_5 - a0_6)) < a2) = true := decide_eq_true c47
                  clear c47
                  by_cases c48 : t313 < 0
                  · rw [if_pos c48] at H
                    have c48b0 : decide (t313 < 0) = true := decide_eq_true c48
                    clear c48
                    obtain rfl := Option.some.inj H
                    have hcz49_0 : wc.cell? ⟨gb311, 0, none⟩ = some (.int .i64 a0_0) := (blk_cell BK311.out 0).trans rfl
                    have hcz49_1 : wc.cell? ⟨gb311, 1, none⟩ = some (.int .i64 a0_1) := (blk_cell BK311.out 1).trans rfl
                    have hcz49_2 : wc.cell? ⟨gb311, 2, none⟩ = some (.int .i64 a0_2) := (blk_cell BK311.out 2).trans rfl
                    have hcz49_3 : wc.cell? ⟨gb311, 3, none⟩ = some (.int .i64 a0_3) := (blk_cell BK311.out 3).trans rfl
                    have hcz49_4 : wc.cell? ⟨gb311, 4, none⟩ = some (.int .i64 a0_4) := (blk_cell BK311.out 4).trans rfl
                    have hcz49_5 : wc.cell? ⟨gb311, 5, none⟩ = some (.int .i64 a0_5) := (blk_cell BK311.out 5).trans rfl
                    have hcz49_6 : wc.cell? ⟨gb311, 6, none⟩ = some (.int .i64 a0_6) := (blk_cell BK311.out 6).trans rfl
                    have hcz49_7 : wc.cell? ⟨gb311, 7, none⟩ = some (.int .i64 a0_7) := (blk_cell BK311.out 7).trans rfl
                    have hfz49_0 := blk_frozen BK311.out 0
                    have hfz49_1 := blk_frozen BK311.out 1
                    have hfz49_2 := blk_frozen BK311.out 2
                    have hfz49_3 := blk_frozen BK311.out 3
                    have hfz49_4 := blk_frozen BK311.out 4
                    have hfz49_5 := blk_frozen BK311.out 5
                    have hfz49_6 := blk_frozen BK311.out 6
                    have hfz49_7 := blk_frozen BK311.out 7
                    go_wp2
                    go_ret
                    exact ⟨by first | rfl | (simp [errW_none, errW_some] <;> rfl) | (simp [*, errW_none, errW_some] <;> rfl), by repeat (first | (with_reducible first | exact HB.out | apply below_alloc | apply pw_below_drewN | apply below_drew1 | refine below_set ?_ GE311.out) | exact HB.out)⟩
                  · rw [if_neg c48] at H
                    have c48b0 : decide (t313 < 0) = false := decide_eq_false c48
                    clear c48
                    obtain rfl := Option.some.inj H
                    have hcz50_0 : wc.cell? ⟨gb311, 0, none⟩ = some (.int .i64 a0_0) := (blk_cell BK311.out 0).trans rfl
                    have hcz50_1 : wc.cell? ⟨gb311, 1, none⟩ = some (.int .i64 a0_1) := (blk_cell BK311.out 1).trans rfl
                    have hcz50_2 : wc.cell? ⟨gb311, 2, none⟩ = some (.int .i64 a0_2) := (blk_cell BK311.out 2).trans rfl
                    have hcz50_3 : wc.cell? ⟨gb311, 3, none⟩ = some (.int .i64 a0_3) := (blk_cell BK311.out 3).trans rfl
                    have hcz50_4 : wc.cell? ⟨gb311, 4, none⟩ = some (.int .i64 a0_4) := (blk_cell BK311.out 4).trans rfl
                    have hcz50_5 : wc.cell? ⟨gb311, 5, none⟩ = some (.int .i64 a0_5) := (blk_cell BK311.out 5).trans rfl
                    have hcz50_6 : wc.cell? ⟨gb311, 6, none⟩ = some (.int .i64 a0_6) := (blk_cell BK311.out 6).trans rfl
                    have hcz50_7 : wc.cell? ⟨gb311, 7, none⟩ = some (.int .i64 a0_7) := (blk_cell BK311.out 7).trans rfl
                    have hfz50_0 := blk_frozen BK311.out 0
                    have hfz50_1 := blk_frozen BK311.out 1
                    have hfz50_2 := blk_frozen BK311.out 2
                    have hfz50_3 := blk_frozen BK311.out 3
                    have hfz50_4 := blk_frozen BK311.out 4
                    have hfz50_5 := blk_frozen BK311.out 5
                    have hfz50_6 := blk_frozen BK311.out 6
                    have hfz50_7 := blk_frozen BK311.out 7
                    go_wp2
                    go_ret
                    exact ⟨by first | rfl | (simp [errW_none, errW_some] <;> rfl) | (simp [*, errW_none, errW_some] <;> rfl), by repeat (first | (with_reducible first | exact HB.out | apply below_alloc | apply pw_below_drewN | apply below_drew1 | refine below_set ?_ GE311.out) | exact HB.out)⟩
                · rw [if_neg c47] at H
                  have c47b0 : decide ((wrap64 (a0_5 - a0_6)) < a2) = false := decide_eq_false c47
                  clear c47
                  obtain rfl := Option.some.inj H
                  have hcz51_0 : wc.cell? ⟨gb311, 0, none⟩ = some (.int .i64 a0_0) := (blk_cell BK311.out 0).trans rfl
                  have hcz51_1 : wc.cell? ⟨gb311, 1, none⟩ = some (.int .i64 a0_1) := (blk_cell BK311.out 1).trans rfl
                  have hcz51_2 : wc.cell? ⟨gb311, 2, none⟩ = some (.int .i64 a0_2) := (blk_cell BK311.out 2).trans rfl
                  have hcz51_3 : wc.cell? ⟨gb311, 3, none⟩ = some (.int .i64 a0_3) := (blk_cell BK311.out 3).trans rfl
                  have hcz51_4 : wc.cell? ⟨gb311, 4, none⟩ = some (.int .i64 a0_4) := (blk_cell BK311.out 4).trans rfl
                  have hcz51_5 : wc.cell? ⟨gb311, 5, none⟩ = some (.int .i64 a0_5) := (blk_cell BK311.out 5).trans rfl
                  have hcz51_6 : wc.cell? ⟨gb311, 6, none⟩ = some (.int .i64 a0_6) := (blk_cell BK311.out 6).trans rfl
                  have hcz51_7 : wc.cell? ⟨gb311, 7, none⟩ = some (.int .i64 a0_7) := (blk_cell BK311.out 7).trans rfl
                  have hfz51_0 := blk_frozen BK311.out 0
                  have hfz51_1 := blk_frozen BK311.out 1
                  have hfz51_2 := blk_frozen BK311.out 2
                  have hfz51_3 := blk_frozen BK311.out 3
                  have hfz51_4 := blk_frozen BK311.out 4
                  have hfz51_5 := blk_frozen BK311.out 5
                  have hfz51_6 := blk_frozen BK311.out 6
                  have hfz51_7 := blk_frozen BK311.out 7
                  go_wp2
                  go_ret
                  exact ⟨by first | rfl | (simp [errW_none, errW_some] <;> rfl) | (simp [*, errW_none, errW_some] <;> rfl), by repeat (first | (with_reducible first | exact HB.out | apply below_alloc | apply pw_below_drewN | apply below_drew1 | refine below_set ?_ GE311.out) | exact HB.out)⟩
            · rw [if_neg c42] at H
              have c42b0 : (t314 == (-1)) = false := beq_eq_false_iff_ne.mpr c42
              have c42b1 : (t314 != (-1)) = true := bne_iff_ne.mpr c42
              obtain rfl := Option.some.inj H
              have hcz52_0 : wc.cell? ⟨gb311, 0, none⟩ = some (.int .i64 a0_0) := (blk_cell BK311.out 0).trans rfl
              have hcz52_1 : wc.cell? ⟨gb311, 1, none⟩ = some (.int .i64 a0_1) := (blk_cell BK311.out 1).trans rfl
              have hcz52_2 : wc.cell? ⟨gb311, 2, none⟩ = some (.int .i64 a0_2) := (blk_cell BK311.out 2).trans rfl
              have hcz52_3 : wc.cell? ⟨gb311, 3, none⟩ = some (.int .i64 a0_3) := (blk_cell BK311.out 3).trans rfl
              have hcz52_4 : wc.cell? ⟨gb311, 4, none⟩ = some (.int .i64 a0_4) := (blk_cell BK311.out 4).trans rfl
              have hcz52_5 : wc.cell? ⟨gb311, 5, none⟩ = some (.int .i64 a0_5) := (blk_cell BK311.out 5).trans rfl
              have hcz52_6 : wc.cell? ⟨gb311, 6, none⟩ = some (.int .i64 a0_6) := (blk_cell BK311.out 6).trans rfl
              have hcz52_7 : wc.cell? ⟨gb311, 7, none⟩ = some (.int .i64 a0_7) := (blk_cell BK311.out 7).trans rfl
              have hfz52_0 := blk_frozen BK311.out 0
              have hfz52_1 := blk_frozen BK311.out 1
              have hfz52_2 := blk_frozen BK311.out 2
              have hfz52_3 := blk_frozen BK311.out 3
              have hfz52_4 := blk_frozen BK311.out 4
              have hfz52_5 := blk_frozen BK311.out 5
              have hfz52_6 := blk_frozen BK311.out 6
              have hfz52_7 := blk_frozen BK311.out 7
              go_wp2
              go_ret
              exact ⟨by first | rfl | (simp [errW_none, errW_some] <;> rfl) | (simp [*, errW_none, errW_some] <;> rfl), by repeat (first | (with_reducible first | exact HB.out | apply below_alloc | apply pw_below_drewN | apply below_drew1 | refine below_set ?_ GE311.out) | exact HB.out)⟩
          · rw [if_neg c41] at H
            have c41b0 : (t313 == (-1)) = false := beq_eq_false_iff_ne.mpr c41
            have c41b1 : (t313 != (-1)) = true := bne_iff_ne.mpr c41
            obtain rfl := Option.some.inj H
            have hcz53_0 : wc.cell? ⟨gb311, 0, none⟩ = some (.int .i64 a0_0) := (blk_cell BK311.out 0).trans rfl
            have hcz53_1 : wc.cell? ⟨gb311, 1, none⟩ = some (.int .i64 a0_1) := (blk_cell BK311.out 1).trans rfl
            have hcz53_2 : wc.cell? ⟨gb311, 2, none⟩ = some (.int .i64 a0_2) := (blk_cell BK311.out 2).trans rfl
            have hcz53_3 : wc.cell? ⟨gb311, 3, none⟩ = some (.int .i64 a0_3) := (blk_cell BK311.out 3).trans rfl
            have hcz53_4 : wc.cell? ⟨gb311, 4, none⟩ = some (.int .i64 a0_4) := (blk_cell BK311.out 4).trans rfl
            have hcz53_5 : wc.cell? ⟨gb311, 5, none⟩ = some (.int .i64 a0_5) := (blk_cell BK311.out 5).trans rfl
            have hcz53_6 : wc.cell? ⟨gb311, 6, none⟩ = some (.int .i64 a0_6) := (blk_cell BK311.out 6).trans rfl
            have hcz53_7 : wc.cell? ⟨gb311, 7, none⟩ = some (.int .i64 a0_7) := (blk_cell BK311.out 7).trans rfl
            have hfz53_0 := blk_frozen BK311.out 0
            have hfz53_1 := blk_frozen BK311.out 1
            have hfz53_2 := blk_frozen BK311.out 2
            have hfz53_3 := blk_frozen BK311.out 3
            have hfz53_4 := blk_frozen BK311.out 4
            have hfz53_5 := blk_frozen BK311.out 5
            have hfz53_6 := blk_frozen BK311.out 6
            have hfz53_7 := blk_frozen BK311.out 7
            go_wp2
            go_ret
            exact ⟨by first | rfl | (simp [errW_none, errW_some] <;> rfl) | (simp [*, errW_none, errW_some] <;> rfl), by repeat (first | (with_reducible first | exact HB.out | apply below_alloc | apply pw_below_drewN | apply below_drew1 | refine below_set ?_ GE311.out) | exact HB.out)⟩

end Go.Proofs.Ytfkdflhijfkjoaa.P
