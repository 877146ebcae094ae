-- Laid by this session's own program (wip/myprint.py): Lean functions for the Go functions that a law reaches, and their contracts. Not trusted: Lean checks it.
import Derived.Test.YtfkdflhijfkjoaaP0
import Derived.Test.YtfkdflhijfkjoaaP4
import Derived.Test.YtfkdflhijfkjoaaP6
import Derived.Test.YtfkdflhijfkjoaaP8
import Derived.Test.YtfkdflhijfkjoaaP9
namespace Go.Proofs.Ytfkdflhijfkjoaa.P
open Go.RowKit Go.Proofs.YtfkdflhijfkjoaaW.PrintWords Go.Proofs.YtfkdflhijfkjoaaW.PrintLast Go.Proofs.YtfkdflhijfkjoaaW.PrintMore
attribute [local go_sem] max2_int min2_int max_two min_two max_three min_three max_four min_four   -- for this text's walks alone
set_option linter.unusedVariables false
set_option linter.unusedSimpArgs false

/-! ### mooringslaw08_DetBlocks: function 5 -/
def mooringslaw08_DetBlocks.j0 : Nat → Int → Int → Bool → Bool → Int → Int → Int → Int → Int → Int → Int → Int → Int → Int → Int → Option (Bool)
  | 0, _, _, _, _, _, _, _, _, _, _, _, _, _, _, _ => none
  | k + 1, x1, x3, x11, x73, x249000, x249001, x249002, x249003, x249004, x249005, x249006, x249007, x255000, x255001, x255002 => if x73 = true then (some false) else ((detmap_Which.f k x249000 x249001 x249002 x249003 x249004 x249005 x249006 x249007 x1 x3).bind fun t257 => ((detmap_Block.f k x249000 x249001 x249002 x249003 x249004 x249005 x249006 x249007 x1 t257).bind fun bt258 => (if t257 < 0 then (if t257 = (-1) then (if x11 = true then (if x3 ≥ x255001 then (some (!(decide (x3 ≤ x255002)))) else (some (!false))) else (some (!false))) else (some false)) else (if bt258.2.2.2 = true then (if x3 ≥ bt258.2.1 then (if x3 ≤ bt258.2.2.1 then ((detmap_Blocks.f x249000 x249001 x249002 x249003 x249004 x249005 x249006 x249007).bind fun t263 => (some (decide (t257 < t263)))) else (some false)) else (some false)) else (some false)))))
def mooringslaw08_DetBlocks.f (k : Nat) (a0_0 : Int) (a0_1 : Int) (a0_2 : Int) (a0_3 : Int) (a0_4 : Int) (a0_5 : Int) (a0_6 : Int) (a0_7 : Int) (a1 : Int) (a2 : Int) (a3 : Int) : Option (Bool) := (mooringslaw08_awake.f).bind fun t249 => ((detmap_Block.f k a0_0 a0_1 a0_2 a0_3 a0_4 a0_5 a0_6 a0_7 a1 a2).bind fun bt250 => (if t249 = true then (if bt250.2.2.2 = true then (if bt250.2.1 ≤ (wrap64 (a0_5 - a0_6)) then (mooringslaw08_DetBlocks.j0 k a1 a3 bt250.2.2.2 true a0_0 a0_1 a0_2 a0_3 a0_4 a0_5 a0_6 a0_7 bt250.1 bt250.2.1 bt250.2.2.1) else (if bt250.2.2.1 > a0_5 then (mooringslaw08_DetBlocks.j0 k a1 a3 bt250.2.2.2 true a0_0 a0_1 a0_2 a0_3 a0_4 a0_5 a0_6 a0_7 bt250.1 bt250.2.1 bt250.2.2.1) else (if (wrap64 (bt250.2.2.1 - bt250.2.1)) = (wrap64 (a0_7 - 1)) then ((detmap_Which.f k a0_0 a0_1 a0_2 a0_3 a0_4 a0_5 a0_6 a0_7 a1 bt250.2.1).bind fun t255 => (if t255 = a2 then ((detmap_Which.f k a0_0 a0_1 a0_2 a0_3 a0_4 a0_5 a0_6 a0_7 a1 bt250.2.2.1).bind fun t256 => (mooringslaw08_DetBlocks.j0 k a1 a3 bt250.2.2.2 (t256 != a2) a0_0 a0_1 a0_2 a0_3 a0_4 a0_5 a0_6 a0_7 bt250.1 bt250.2.1 bt250.2.2.1)) else (mooringslaw08_DetBlocks.j0 k a1 a3 bt250.2.2.2 true a0_0 a0_1 a0_2 a0_3 a0_4 a0_5 a0_6 a0_7 bt250.1 bt250.2.1 bt250.2.2.1))) else (mooringslaw08_DetBlocks.j0 k a1 a3 bt250.2.2.2 true a0_0 a0_1 a0_2 a0_3 a0_4 a0_5 a0_6 a0_7 bt250.1 bt250.2.1 bt250.2.2.1)))) else (mooringslaw08_DetBlocks.j0 k a1 a3 bt250.2.2.2 false a0_0 a0_1 a0_2 a0_3 a0_4 a0_5 a0_6 a0_7 bt250.1 bt250.2.1 bt250.2.2.1)) else (mooringslaw08_DetBlocks.j0 k a1 a3 bt250.2.2.2 true a0_0 a0_1 a0_2 a0_3 a0_4 a0_5 a0_6 a0_7 bt250.1 bt250.2.1 bt250.2.2.1)))
theorem mooringslaw08_DetBlocks.mono_l : ∀ k, (∀ y0 y1 y2 y3 y4 y5 y6 y7 y8 y9 y10 y11 y12 y13 y14, LeO (mooringslaw08_DetBlocks.j0 k y0 y1 y2 y3 y4 y5 y6 y7 y8 y9 y10 y11 y12 y13 y14) (mooringslaw08_DetBlocks.j0 (k + 1) y0 y1 y2 y3 y4 y5 y6 y7 y8 y9 y10 y11 y12 y13 y14))
  | 0 => fun _ _ _ _ _ _ _ _ _ _ _ _ _ _ _ r h => by simp [mooringslaw08_DetBlocks.j0] at h
  | k + 1 => by
    have ih0 := mooringslaw08_DetBlocks.mono_l k
    · intro y0 y1 y2 y3 y4 y5 y6 y7 y8 y9 y10 y11 y12 y13 y14
      unfold mooringslaw08_DetBlocks.j0
      repeat' first
      | (with_reducible exact ih0 _ _ _ _ _ _ _ _ _ _ _ _ _ _ _)
      | (with_reducible exact detmap_Block.mono _ _ _ _ _ _ _ _ _ _ _)
      | (with_reducible exact detmap_Which.mono _ _ _ _ _ _ _ _ _ _ _)
      | (with_reducible exact LeO.refl _)
      | (with_reducible exact LeO.none _)
      | (with_reducible refine LeO.ite ?_ ?_)
      | (with_reducible refine LeO.bind ?_ (fun _ => ?_))
      | exact ih0 _ _ _ _ _ _ _ _ _ _ _ _ _ _ _
      | exact detmap_Block.mono _ _ _ _ _ _ _ _ _ _ _
      | exact detmap_Which.mono _ _ _ _ _ _ _ _ _ _ _
      | exact LeO.none _
      | refine LeO.ite ?_ ?_
      | refine LeO.bind ?_ (fun _ => ?_)
theorem mooringslaw08_DetBlocks.mono : ∀ a0 a1 a2 a3 a4 a5 a6 a7 a8 a9 a10 k, LeO (mooringslaw08_DetBlocks.f k a0 a1 a2 a3 a4 a5 a6 a7 a8 a9 a10) (mooringslaw08_DetBlocks.f (k + 1) a0 a1 a2 a3 a4 a5 a6 a7 a8 a9 a10) := by
  intro a0 a1 a2 a3 a4 a5 a6 a7 a8 a9 a10 k
  have ih0 := mooringslaw08_DetBlocks.mono_l k
  unfold mooringslaw08_DetBlocks.f
  repeat' first
      | (with_reducible exact ih0 _ _ _ _ _ _ _ _ _ _ _ _ _ _ _)
      | (with_reducible exact detmap_Block.mono _ _ _ _ _ _ _ _ _ _ _)
      | (with_reducible exact detmap_Which.mono _ _ _ _ _ _ _ _ _ _ _)
      | (with_reducible exact LeO.refl _)
      | (with_reducible exact LeO.none _)
      | (with_reducible refine LeO.ite ?_ ?_)
      | (with_reducible refine LeO.bind ?_ (fun _ => ?_))
      | exact ih0 _ _ _ _ _ _ _ _ _ _ _ _ _ _ _
      | exact detmap_Block.mono _ _ _ _ _ _ _ _ _ _ _
      | exact detmap_Which.mono _ _ _ _ _ _ _ _ _ _ _
      | exact LeO.none _
      | refine LeO.ite ?_ ?_
      | refine LeO.bind ?_ (fun _ => ?_)
set_option maxHeartbeats 8000000 in
set_option maxRecDepth 100000 in
theorem mooringslaw08_DetBlocks.calls (k : Nat) (a0_0 : Int) (a0_1 : Int) (a0_2 : Int) (a0_3 : Int) (a0_4 : Int) (a0_5 : Int) (a0_6 : Int) (a0_7 : Int) (a1 : Int) (a2 : Int) (a3 : Int) (r : Bool) (w : World) (h : mooringslaw08_DetBlocks.f k a0_0 a0_1 a0_2 a0_3 a0_4 a0_5 a0_6 a0_7 a1 a2 a3 = some r) :
    Calls Try.prog 5 #[.agg #[.int .i64 a0_0, .int .i64 a0_1, .int .i64 a0_2, .int .i64 a0_3, .int .i64 a0_4, .int .i64 a0_5, .int .i64 a0_6, .int .i64 a0_7], .int .i64 a1, .int .i64 a2, .int .i64 a3] w fun e w' => e = .returned (.bool r) ∧ Below w.heap.size w w' := by
  have hu25 := Try.underlying25
  have hu28 := Try.underlying28
  have HB := Aside0.mk (Below.refl w.heap.size w)
  have H : ((mooringslaw08_awake.f).bind fun t249 => ((detmap_Block.f k a0_0 a0_1 a0_2 a0_3 a0_4 a0_5 a0_6 a0_7 a1 a2).bind fun bt250 => (if t249 = true then (if bt250.2.2.2 = true then (if bt250.2.1 ≤ (wrap64 (a0_5 - a0_6)) then (mooringslaw08_DetBlocks.j0 k a1 a3 bt250.2.2.2 true a0_0 a0_1 a0_2 a0_3 a0_4 a0_5 a0_6 a0_7 bt250.1 bt250.2.1 bt250.2.2.1) else (if bt250.2.2.1 > a0_5 then (mooringslaw08_DetBlocks.j0 k a1 a3 bt250.2.2.2 true a0_0 a0_1 a0_2 a0_3 a0_4 a0_5 a0_6 a0_7 bt250.1 bt250.2.1 bt250.2.2.1) else (if (wrap64 (bt250.2.2.1 - bt250.2.1)) = (wrap64 (a0_7 - 1)) then ((detmap_Which.f k a0_0 a0_1 a0_2 a0_3 a0_4 a0_5 a0_6 a0_7 a1 bt250.2.1).bind fun t255 => (if t255 = a2 then ((detmap_Which.f k a0_0 a0_1 a0_2 a0_3 a0_4 a0_5 a0_6 a0_7 a1 bt250.2.2.1).bind fun t256 => (mooringslaw08_DetBlocks.j0 k a1 a3 bt250.2.2.2 (t256 != a2) a0_0 a0_1 a0_2 a0_3 a0_4 a0_5 a0_6 a0_7 bt250.1 bt250.2.1 bt250.2.2.1)) else (mooringslaw08_DetBlocks.j0 k a1 a3 bt250.2.2.2 true a0_0 a0_1 a0_2 a0_3 a0_4 a0_5 a0_6 a0_7 bt250.1 bt250.2.1 bt250.2.2.1))) else (mooringslaw08_DetBlocks.j0 k a1 a3 bt250.2.2.2 true a0_0 a0_1 a0_2 a0_3 a0_4 a0_5 a0_6 a0_7 bt250.1 bt250.2.1 bt250.2.2.1)))) else (mooringslaw08_DetBlocks.j0 k a1 a3 bt250.2.2.2 false a0_0 a0_1 a0_2 a0_3 a0_4 a0_5 a0_6 a0_7 bt250.1 bt250.2.1 bt250.2.2.1)) else (mooringslaw08_DetBlocks.j0 k a1 a3 bt250.2.2.2 true a0_0 a0_1 a0_2 a0_3 a0_4 a0_5 a0_6 a0_7 bt250.1 bt250.2.1 bt250.2.2.1)))) = some r := h
  clear h
  replace H := Option.bind_eq_some_iff.mp H
  obtain ⟨t249, A50, H⟩ := H
  replace H : ((detmap_Block.f k a0_0 a0_1 a0_2 a0_3 a0_4 a0_5 a0_6 a0_7 a1 a2).bind fun bt250 => (if t249 = true then (if bt250.2.2.2 = true then (if bt250.2.1 ≤ (wrap64 (a0_5 - a0_6)) then (mooringslaw08_DetBlocks.j0 k a1 a3 bt250.2.2.2 true a0_0 a0_1 a0_2 a0_3 a0_4 a0_5 a0_6 a0_7 bt250.1 bt250.2.1 bt250.2.2.1) else (if bt250.2.2.1 > a0_5 then (mooringslaw08_DetBlocks.j0 k a1 a3 bt250.2.2.2 true a0_0 a0_1 a0_2 a0_3 a0_4 a0_5 a0_6 a0_7 bt250.1 bt250.2.1 bt250.2.2.1) else (if (wrap64 (bt250.2.2.1 - bt250.2.1)) = (wrap64 (a0_7 - 1)) then ((detmap_Which.f k a0_0 a0_1 a0_2 a0_3 a0_4 a0_5 a0_6 a0_7 a1 bt250.2.1).bind fun t255 => (if t255 = a2 then ((detmap_Which.f k a0_0 a0_1 a0_2 a0_3 a0_4 a0_5 a0_6 a0_7 a1 bt250.2.2.1).bind fun t256 => (mooringslaw08_DetBlocks.j0 k a1 a3 bt250.2.2.2 (t256 != a2) a0_0 a0_1 a0_2 a0_3 a0_4 a0_5 a0_6 a0_7 bt250.1 bt250.2.1 bt250.2.2.1)) else (mooringslaw08_DetBlocks.j0 k a1 a3 bt250.2.2.2 true a0_0 a0_1 a0_2 a0_3 a0_4 a0_5 a0_6 a0_7 bt250.1 bt250.2.1 bt250.2.2.1))) else (mooringslaw08_DetBlocks.j0 k a1 a3 bt250.2.2.2 true a0_0 a0_1 a0_2 a0_3 a0_4 a0_5 a0_6 a0_7 bt250.1 bt250.2.1 bt250.2.2.1)))) else (mooringslaw08_DetBlocks.j0 k a1 a3 bt250.2.2.2 false a0_0 a0_1 a0_2 a0_3 a0_4 a0_5 a0_6 a0_7 bt250.1 bt250.2.1 bt250.2.2.1)) else (mooringslaw08_DetBlocks.j0 k a1 a3 bt250.2.2.2 true a0_0 a0_1 a0_2 a0_3 a0_4 a0_5 a0_6 a0_7 bt250.1 bt250.2.1 bt250.2.2.1))) = some r := H
  have A5 := Aside0.mk A50
  clear A50
  replace H := Option.bind_eq_some_iff.mp H
  obtain ⟨⟨t250, t251, t252, t253⟩, A60, H⟩ := H
  replace H : (if t249 = true then (if t253 = true then (if t251 ≤ (wrap64 (a0_5 - a0_6)) then (mooringslaw08_DetBlocks.j0 k a1 a3 t253 true a0_0 a0_1 a0_2 a0_3 a0_4 a0_5 a0_6 a0_7 t250 t251 t252) else (if t252 > a0_5 then (mooringslaw08_DetBlocks.j0 k a1 a3 t253 true a0_0 a0_1 a0_2 a0_3 a0_4 a0_5 a0_6 a0_7 t250 t251 t252) else (if (wrap64 (t252 - t251)) = (wrap64 (a0_7 - 1)) then ((detmap_Which.f k a0_0 a0_1 a0_2 a0_3 a0_4 a0_5 a0_6 a0_7 a1 t251).bind fun t255 => (if t255 = a2 then ((detmap_Which.f k a0_0 a0_1 a0_2 a0_3 a0_4 a0_5 a0_6 a0_7 a1 t252).bind fun t256 => (mooringslaw08_DetBlocks.j0 k a1 a3 t253 (t256 != a2) a0_0 a0_1 a0_2 a0_3 a0_4 a0_5 a0_6 a0_7 t250 t251 t252)) else (mooringslaw08_DetBlocks.j0 k a1 a3 t253 true a0_0 a0_1 a0_2 a0_3 a0_4 a0_5 a0_6 a0_7 t250 t251 t252))) else (mooringslaw08_DetBlocks.j0 k a1 a3 t253 true a0_0 a0_1 a0_2 a0_3 a0_4 a0_5 a0_6 a0_7 t250 t251 t252)))) else (mooringslaw08_DetBlocks.j0 k a1 a3 t253 false a0_0 a0_1 a0_2 a0_3 a0_4 a0_5 a0_6 a0_7 t250 t251 t252)) else (mooringslaw08_DetBlocks.j0 k a1 a3 t253 true a0_0 a0_1 a0_2 a0_3 a0_4 a0_5 a0_6 a0_7 t250 t251 t252)) = some r := H
  have A6 := Aside0.mk A60
  clear A60
  have HC7 := Aside0.mk H
  clear H
  go_enter Try.func5, Try.ntmps5
  go_upto_region 3 with (first | ((with_reducible refine gate_dst (N := 4) rfl ?_); refine box_event ?hg (N := 4) ?hd (cs := #[.int .i64 a0_0, .int .i64 a0_1, .int .i64 a0_2, .int .i64 a0_3, .int .i64 a0_4, .int .i64 a0_5, .int .i64 a0_6, .int .i64 a0_7]) (t := 25) ?hr ?_; (case hd => rfl); (case hg => rfl); (case hr => first | (go_simp; done) | (go_simp; rfl)); intro gb248 hg w8 hbox hb; have n0_ := Aside0.mk (below_step (by repeat (first | (with_reducible first | exact HB.out | apply below_alloc | apply pw_below_drewN | apply below_drew1) | exact HB.out)) hb); have n1_ := Aside0.mk (hbox); have n2_ := Aside0.mk ((by rw [hg]; exact (below_size (by repeat (first | (with_reducible first | exact HB.out | apply below_alloc | apply pw_below_drewN | apply below_drew1) | exact HB.out))) : w.heap.size ≤ gb248)); have n3_ := Aside0.mk ((by rw [hg]; exact (below_size (by repeat (first | (with_reducible first | exact HB.out | apply below_alloc | apply pw_below_drewN | apply below_drew1) | exact HB.out))) : w.heap.size ≤ gb248)); clear HB; have HB := n0_; have BK248 := n1_; have GW248 := n2_; have GE248 := n3_; clear n0_ n1_ n2_ n3_; clear hb hbox hg) | ((with_reducible refine gate_callee (f := 10) rfl ?_); refine goesL_ (some 15) rfl rfl Try.func10 (by kernel_rfl) rfl #[] rfl (by (try simp only [List.map_toArray, List.map_cons, List.map_nil]); first | done | rfl | (simp only [List.length_drop, List.length_take]; rfl)) ?_; (with_reducible refine (mooringslaw08_awake.calls  t249 _ A5.out).mono ?_); rintro e w9 ⟨rfl, hb⟩; refine ⟨_, rfl, ?_⟩; have n0_ := Aside0.mk (blk_below (g := gb248) (o := .cells #[.int .i64 a0_0, .int .i64 a0_1, .int .i64 a0_2, .int .i64 a0_3, .int .i64 a0_4, .int .i64 a0_5, .int .i64 a0_6, .int .i64 a0_7] 25 (0, 0)) (by (with_reducible repeat (first | refine blk_drewN ?_ _ | refine blk_drew ?_ | refine blk_alloc ?_ _)); exact BK248.out) hb); have n1_ := Aside0.mk (below_step (by repeat (first | (with_reducible first | exact HB.out | apply below_alloc | apply pw_below_drewN | apply below_drew1 | refine below_set ?_ GE248.out) | exact HB.out)) hb); clear BK248; clear HB; have BK248 := n0_; have HB := n1_; clear n0_ n1_; (try clear hb); (try clear hb2); (try clear hk); (try clear hi); have hcz10_0 : w9.cell? ⟨gb248, 0, none⟩ = some (.int .i64 a0_0) := (blk_cell BK248.out 0).trans rfl; have hcz10_1 : w9.cell? ⟨gb248, 1, none⟩ = some (.int .i64 a0_1) := (blk_cell BK248.out 1).trans rfl; have hcz10_2 : w9.cell? ⟨gb248, 2, none⟩ = some (.int .i64 a0_2) := (blk_cell BK248.out 2).trans rfl; have hcz10_3 : w9.cell? ⟨gb248, 3, none⟩ = some (.int .i64 a0_3) := (blk_cell BK248.out 3).trans rfl; have hcz10_4 : w9.cell? ⟨gb248, 4, none⟩ = some (.int .i64 a0_4) := (blk_cell BK248.out 4).trans rfl; have hcz10_5 : w9.cell? ⟨gb248, 5, none⟩ = some (.int .i64 a0_5) := (blk_cell BK248.out 5).trans rfl; have hcz10_6 : w9.cell? ⟨gb248, 6, none⟩ = some (.int .i64 a0_6) := (blk_cell BK248.out 6).trans rfl; have hcz10_7 : w9.cell? ⟨gb248, 7, none⟩ = some (.int .i64 a0_7) := (blk_cell BK248.out 7).trans rfl; have hfz10_0 := blk_frozen BK248.out 0; have hfz10_1 := blk_frozen BK248.out 1; have hfz10_2 := blk_frozen BK248.out 2; have hfz10_3 := blk_frozen BK248.out 3; have hfz10_4 := blk_frozen BK248.out 4; have hfz10_5 := blk_frozen BK248.out 5; have hfz10_6 := blk_frozen BK248.out 6; have hfz10_7 := blk_frozen BK248.out 7) | ((with_reducible refine gate_callee (f := 13) rfl ?_); refine goesL_ (some 20) rfl rfl Try.func13 (by kernel_rfl) rfl #[.agg #[.int .i64 a0_0, .int .i64 a0_1, .int .i64 a0_2, .int .i64 a0_3, .int .i64 a0_4, .int .i64 a0_5, .int .i64 a0_6, .int .i64 a0_7], .int .i64 a1, .int .i64 a2] rfl (by (try simp only [List.map_toArray, List.map_cons, List.map_nil]); first | done | rfl | (simp only [List.length_drop, List.length_take]; rfl)) ?_; (with_reducible refine (detmap_Block.calls k a0_0 a0_1 a0_2 a0_3 a0_4 a0_5 a0_6 a0_7 a1 a2 t250 t251 t252 t253 _ A6.out).mono ?_); rintro e w11 ⟨rfl, hb⟩; refine ⟨_, rfl, ?_⟩; have n0_ := Aside0.mk (blk_below (g := gb248) (o := .cells #[.int .i64 a0_0, .int .i64 a0_1, .int .i64 a0_2, .int .i64 a0_3, .int .i64 a0_4, .int .i64 a0_5, .int .i64 a0_6, .int .i64 a0_7] 25 (0, 0)) (by (with_reducible repeat (first | refine blk_drewN ?_ _ | refine blk_drew ?_ | refine blk_alloc ?_ _)); exact BK248.out) hb); have n1_ := Aside0.mk (below_step (by repeat (first | (with_reducible first | exact HB.out | apply below_alloc | apply pw_below_drewN | apply below_drew1 | refine below_set ?_ GE248.out) | exact HB.out)) hb); clear BK248; clear HB; have BK248 := n0_; have HB := n1_; clear n0_ n1_; (try clear hb); (try clear hb2); (try clear hk); (try clear hi)) | ((with_reducible refine gate_dst (N := 10) rfl ?_); refine box_event ?hg (N := 10) ?hd (cs := #[.int .i64 0, .int .i64 0, .int .i64 0]) (t := 28) ?hr ?_; (case hd => rfl); (case hg => rfl); (case hr => first | (go_simp; done) | (go_simp; rfl)); intro gb254 hg w12 hbox hb; have n0_ := Aside0.mk (blk_below (g := gb248) (o := .cells #[.int .i64 a0_0, .int .i64 a0_1, .int .i64 a0_2, .int .i64 a0_3, .int .i64 a0_4, .int .i64 a0_5, .int .i64 a0_6, .int .i64 a0_7] 25 (0, 0)) (by (with_reducible repeat (first | refine blk_drewN ?_ _ | refine blk_drew ?_ | refine blk_alloc ?_ _)); exact BK248.out) hb); have n1_ := Aside0.mk (below_step (by repeat (first | (with_reducible first | exact HB.out | apply below_alloc | apply pw_below_drewN | apply below_drew1 | refine below_set ?_ GE248.out) | exact HB.out)) hb); have n2_ := Aside0.mk (hbox); have n3_ := Aside0.mk ((by rw [hg]; exact (below_size (by repeat (first | (with_reducible first | exact HB.out | apply below_alloc | apply pw_below_drewN | apply below_drew1 | refine below_set ?_ GE248.out) | exact HB.out))) : w.heap.size ≤ gb254)); have n4_ := Aside0.mk ((by rw [hg]; exact (below_size (by repeat (first | (with_reducible first | exact HB.out | apply below_alloc | apply pw_below_drewN | apply below_drew1 | refine below_set ?_ GE248.out) | exact HB.out))) : w.heap.size ≤ gb254)); have n5_ := Aside0.mk ((by rw [hg]; exact Nat.ne_of_lt (blk_lt (g := gb248) (o := .cells #[.int .i64 a0_0, .int .i64 a0_1, .int .i64 a0_2, .int .i64 a0_3, .int .i64 a0_4, .int .i64 a0_5, .int .i64 a0_6, .int .i64 a0_7] 25 (0, 0)) (by (with_reducible repeat (first | refine blk_drewN ?_ _ | refine blk_drew ?_ | refine blk_alloc ?_ _)); exact BK248.out)) : gb248 ≠ gb254)); have n6_ := Aside0.mk ((by rw [hg]; exact Nat.ne_of_gt (blk_lt (g := gb248) (o := .cells #[.int .i64 a0_0, .int .i64 a0_1, .int .i64 a0_2, .int .i64 a0_3, .int .i64 a0_4, .int .i64 a0_5, .int .i64 a0_6, .int .i64 a0_7] 25 (0, 0)) (by (with_reducible repeat (first | refine blk_drewN ?_ _ | refine blk_drew ?_ | refine blk_alloc ?_ _)); exact BK248.out)) : gb254 ≠ gb248)); clear BK248; clear HB; have BK248 := n0_; have HB := n1_; have BK254 := n2_; have GW254 := n3_; have GE254 := n4_; have NB248_254 := n5_; have NB254_248 := n6_; clear n0_ n1_ n2_ n3_ n4_ n5_ n6_; clear hb hbox hg; have hnb13 := NB254_248.out; have hnc13 := NB248_254.out; have hcz14_0 : w12.cell? ⟨gb254, 0, none⟩ = some (.int .i64 0) := (blk_cell BK254.out 0).trans rfl; have hcz14_1 : w12.cell? ⟨gb254, 1, none⟩ = some (.int .i64 0) := (blk_cell BK254.out 1).trans rfl; have hcz14_2 : w12.cell? ⟨gb254, 2, none⟩ = some (.int .i64 0) := (blk_cell BK254.out 2).trans rfl; have hfz14_0 := blk_frozen BK254.out 0; have hfz14_1 := blk_frozen BK254.out 1; have hfz14_2 := blk_frozen BK254.out 2))
  (try simp only [Act.put, List.setIfInBounds_toArray, List.set_cons_zero, List.set_cons_succ])
  go_cut [73] (fun v73 wc => ∃ (kq : Nat) (x73_6 : Bool), v73 = .bool x73_6 ∧ Aside0 (mooringslaw08_DetBlocks.j0 kq a1 a3 t253 x73_6 a0_0 a0_1 a0_2 a0_3 a0_4 a0_5 a0_6 a0_7 t250 t251 t252 = some r) ∧ Aside0 (kq ≤ k) ∧ Aside0 (wc.heap[gb248]? = some (.cells #[.int .i64 a0_0, .int .i64 a0_1, .int .i64 a0_2, .int .i64 a0_3, .int .i64 a0_4, .int .i64 a0_5, .int .i64 a0_6, .int .i64 a0_7] 25 (0, 0))) ∧ Aside0 (wc.heap[gb254]? = some (.cells #[.int .i64 t250, .int .i64 t251, .int .i64 t252] 28 (0, 0))) ∧ Aside0 (Below w.heap.size w wc))
  case first =>
    have H := HC7.out
    clear HC7
    by_cases c15 : t249 = true
    · subst c15
      have H1 : (if t253 = true then (if t251 ≤ (wrap64 (a0_5 - a0_6)) then (mooringslaw08_DetBlocks.j0 k a1 a3 t253 true a0_0 a0_1 a0_2 a0_3 a0_4 a0_5 a0_6 a0_7 t250 t251 t252) else (if t252 > a0_5 then (mooringslaw08_DetBlocks.j0 k a1 a3 t253 true a0_0 a0_1 a0_2 a0_3 a0_4 a0_5 a0_6 a0_7 t250 t251 t252) else (if (wrap64 (t252 - t251)) = (wrap64 (a0_7 - 1)) then ((detmap_Which.f k a0_0 a0_1 a0_2 a0_3 a0_4 a0_5 a0_6 a0_7 a1 t251).bind fun t255 => (if t255 = a2 then ((detmap_Which.f k a0_0 a0_1 a0_2 a0_3 a0_4 a0_5 a0_6 a0_7 a1 t252).bind fun t256 => (mooringslaw08_DetBlocks.j0 k a1 a3 t253 (t256 != a2) a0_0 a0_1 a0_2 a0_3 a0_4 a0_5 a0_6 a0_7 t250 t251 t252)) else (mooringslaw08_DetBlocks.j0 k a1 a3 t253 true a0_0 a0_1 a0_2 a0_3 a0_4 a0_5 a0_6 a0_7 t250 t251 t252))) else (mooringslaw08_DetBlocks.j0 k a1 a3 t253 true a0_0 a0_1 a0_2 a0_3 a0_4 a0_5 a0_6 a0_7 t250 t251 t252)))) else (mooringslaw08_DetBlocks.j0 k a1 a3 t253 false a0_0 a0_1 a0_2 a0_3 a0_4 a0_5 a0_6 a0_7 t250 t251 t252)) = some r := by rw [if_pos rfl] at H; exact H
      clear H
      have H := H1
      clear H1
      by_cases c16 : t253 = true
      · subst c16
        have H1 : (if t251 ≤ (wrap64 (a0_5 - a0_6)) then (mooringslaw08_DetBlocks.j0 k a1 a3 true true a0_0 a0_1 a0_2 a0_3 a0_4 a0_5 a0_6 a0_7 t250 t251 t252) else (if t252 > a0_5 then (mooringslaw08_DetBlocks.j0 k a1 a3 true true a0_0 a0_1 a0_2 a0_3 a0_4 a0_5 a0_6 a0_7 t250 t251 t252) else (if (wrap64 (t252 - t251)) = (wrap64 (a0_7 - 1)) then ((detmap_Which.f k a0_0 a0_1 a0_2 a0_3 a0_4 a0_5 a0_6 a0_7 a1 t251).bind fun t255 => (if t255 = a2 then ((detmap_Which.f k a0_0 a0_1 a0_2 a0_3 a0_4 a0_5 a0_6 a0_7 a1 t252).bind fun t256 => (mooringslaw08_DetBlocks.j0 k a1 a3 true (t256 != a2) a0_0 a0_1 a0_2 a0_3 a0_4 a0_5 a0_6 a0_7 t250 t251 t252)) else (mooringslaw08_DetBlocks.j0 k a1 a3 true true a0_0 a0_1 a0_2 a0_3 a0_4 a0_5 a0_6 a0_7 t250 t251 t252))) else (mooringslaw08_DetBlocks.j0 k a1 a3 true true a0_0 a0_1 a0_2 a0_3 a0_4 a0_5 a0_6 a0_7 t250 t251 t252)))) = some r := by rw [if_pos rfl] at H; exact H
        clear H
        have H := H1
        clear H1
        by_cases c17 : t251 ≤ (wrap64 (a0_5 - a0_6))
        · rw [if_pos c17] at H
          have c17b0 : decide (t251 ≤ (wrap64 (a0_5 - a0_6))) = true := decide_eq_true c17
          clear c17
          (first | rw [c17b0] | (simp only [i64_w, i32_w]; rw [c17b0]) | skip)
          have H' := Aside0.mk H
          clear H
          have hnb18 := NB254_248.out
          have hnc18 := NB248_254.out
          have hcz19_0 : w12.cell? ⟨gb254, 0, none⟩ = some (.int .i64 0) := (blk_cell BK254.out 0).trans rfl
          have hcz19_1 : w12.cell? ⟨gb254, 1, none⟩ = some (.int .i64 0) := (blk_cell BK254.out 1).trans rfl
          have hcz19_2 : w12.cell? ⟨gb254, 2, none⟩ = some (.int .i64 0) := (blk_cell BK254.out 2).trans rfl
          have hfz19_0 := blk_frozen BK254.out 0
          have hfz19_1 := blk_frozen BK254.out 1
          have hfz19_2 := blk_frozen BK254.out 2
          have hcz20_0 : w12.cell? ⟨gb248, 0, none⟩ = some (.int .i64 a0_0) := (blk_cell BK248.out 0).trans rfl
          have hcz20_1 : w12.cell? ⟨gb248, 1, none⟩ = some (.int .i64 a0_1) := (blk_cell BK248.out 1).trans rfl
          have hcz20_2 : w12.cell? ⟨gb248, 2, none⟩ = some (.int .i64 a0_2) := (blk_cell BK248.out 2).trans rfl
          have hcz20_3 : w12.cell? ⟨gb248, 3, none⟩ = some (.int .i64 a0_3) := (blk_cell BK248.out 3).trans rfl
          have hcz20_4 : w12.cell? ⟨gb248, 4, none⟩ = some (.int .i64 a0_4) := (blk_cell BK248.out 4).trans rfl
          have hcz20_5 : w12.cell? ⟨gb248, 5, none⟩ = some (.int .i64 a0_5) := (blk_cell BK248.out 5).trans rfl
          have hcz20_6 : w12.cell? ⟨gb248, 6, none⟩ = some (.int .i64 a0_6) := (blk_cell BK248.out 6).trans rfl
          have hcz20_7 : w12.cell? ⟨gb248, 7, none⟩ = some (.int .i64 a0_7) := (blk_cell BK248.out 7).trans rfl
          have hfz20_0 := blk_frozen BK248.out 0
          have hfz20_1 := blk_frozen BK248.out 1
          have hfz20_2 := blk_frozen BK248.out 2
          have hfz20_3 := blk_frozen BK248.out 3
          have hfz20_4 := blk_frozen BK248.out 4
          have hfz20_5 := blk_frozen BK248.out 5
          have hfz20_6 := blk_frozen BK248.out 6
          have hfz20_7 := blk_frozen BK248.out 7
          go_wp2
          go_meet
          case rel => exact ⟨_, (true), (by first | rfl | (simp; done) | (simp [*]; done)), H', ⟨by first | omega | exact Nat.le_refl _⟩, ⟨by (with_reducible repeat (first | refine blk_drewN ?_ _ | refine blk_drew ?_ | refine blk_alloc ?_ _)); refine blk_far ?_ NB248_254.out _; (with_reducible repeat (first | refine blk_drewN ?_ _ | refine blk_drew ?_ | refine blk_alloc ?_ _)); refine blk_far ?_ NB248_254.out _; (with_reducible repeat (first | refine blk_drewN ?_ _ | refine blk_drew ?_ | refine blk_alloc ?_ _)); refine blk_far ?_ NB248_254.out _; (with_reducible repeat (first | refine blk_drewN ?_ _ | refine blk_drew ?_ | refine blk_alloc ?_ _)); exact BK248.out⟩, ⟨by (with_reducible repeat (first | refine blk_drewN ?_ _ | refine blk_drew ?_ | refine blk_alloc ?_ _)); refine blk_put (cs := #[.int .i64 t250, .int .i64 t251, .int .i64 0]) ?_ 2 _ rfl; (with_reducible repeat (first | refine blk_drewN ?_ _ | refine blk_drew ?_ | refine blk_alloc ?_ _)); refine blk_put (cs := #[.int .i64 t250, .int .i64 0, .int .i64 0]) ?_ 1 _ rfl; (with_reducible repeat (first | refine blk_drewN ?_ _ | refine blk_drew ?_ | refine blk_alloc ?_ _)); refine blk_put (cs := #[.int .i64 0, .int .i64 0, .int .i64 0]) ?_ 0 _ rfl; (with_reducible repeat (first | refine blk_drewN ?_ _ | refine blk_drew ?_ | refine blk_alloc ?_ _)); exact BK254.out⟩, ⟨by repeat (first | (with_reducible first | exact HB.out | apply below_alloc | apply pw_below_drewN | apply below_drew1 | refine below_set ?_ GE248.out | refine below_set ?_ GE254.out) | exact HB.out)⟩⟩
        · rw [if_neg c17] at H
          have c17b0 : decide (t251 ≤ (wrap64 (a0_5 - a0_6))) = false := decide_eq_false c17
          clear c17
          (first | rw [c17b0] | (simp only [i64_w, i32_w]; rw [c17b0]) | skip)
          by_cases c21 : t252 > a0_5
          · rw [if_pos c21] at H
            have c21b0 : decide (a0_5 < t252) = true := decide_eq_true c21
            clear c21
            have H' := Aside0.mk H
            clear H
            have hnb22 := NB254_248.out
            have hnc22 := NB248_254.out
            have hcz23_0 : w12.cell? ⟨gb254, 0, none⟩ = some (.int .i64 0) := (blk_cell BK254.out 0).trans rfl
            have hcz23_1 : w12.cell? ⟨gb254, 1, none⟩ = some (.int .i64 0) := (blk_cell BK254.out 1).trans rfl
            have hcz23_2 : w12.cell? ⟨gb254, 2, none⟩ = some (.int .i64 0) := (blk_cell BK254.out 2).trans rfl
            have hfz23_0 := blk_frozen BK254.out 0
            have hfz23_1 := blk_frozen BK254.out 1
            have hfz23_2 := blk_frozen BK254.out 2
            have hcz24_0 : w12.cell? ⟨gb248, 0, none⟩ = some (.int .i64 a0_0) := (blk_cell BK248.out 0).trans rfl
            have hcz24_1 : w12.cell? ⟨gb248, 1, none⟩ = some (.int .i64 a0_1) := (blk_cell BK248.out 1).trans rfl
            have hcz24_2 : w12.cell? ⟨gb248, 2, none⟩ = some (.int .i64 a0_2) := (blk_cell BK248.out 2).trans rfl
            have hcz24_3 : w12.cell? ⟨gb248, 3, none⟩ = some (.int .i64 a0_3) := (blk_cell BK248.out 3).trans rfl
            have hcz24_4 : w12.cell? ⟨gb248, 4, none⟩ = some (.int .i64 a0_4) := (blk_cell BK248.out 4).trans rfl
            have hcz24_5 : w12.cell? ⟨gb248, 5, none⟩ = some (.int .i64 a0_5) := (blk_cell BK248.out 5).trans rfl
            have hcz24_6 : w12.cell? ⟨gb248, 6, none⟩ = some (.int .i64 a0_6) := (blk_cell BK248.out 6).trans rfl
            have hcz24_7 : w12.cell? ⟨gb248, 7, none⟩ = some (.int .i64 a0_7) := (blk_cell BK248.out 7).trans rfl
            have hfz24_0 := blk_frozen BK248.out 0
            have hfz24_1 := blk_frozen BK248.out 1
            have hfz24_2 := blk_frozen BK248.out 2
            have hfz24_3 := blk_frozen BK248.out 3
            have hfz24_4 := blk_frozen BK248.out 4
            have hfz24_5 := blk_frozen BK248.out 5
            have hfz24_6 := blk_frozen BK248.out 6
            have hfz24_7 := blk_frozen BK248.out 7
            go_wp2
            go_meet
            case rel => exact ⟨_, (true), (by first | rfl | (simp; done) | (simp [*]; done)), H', ⟨by first | omega | exact Nat.le_refl _⟩, ⟨by (with_reducible repeat (first | refine blk_drewN ?_ _ | refine blk_drew ?_ | refine blk_alloc ?_ _)); refine blk_far ?_ NB248_254.out _; (with_reducible repeat (first | refine blk_drewN ?_ _ | refine blk_drew ?_ | refine blk_alloc ?_ _)); refine blk_far ?_ NB248_254.out _; (with_reducible repeat (first | refine blk_drewN ?_ _ | refine blk_drew ?_ | refine blk_alloc ?_ _)); refine blk_far ?_ NB248_254.out _; (with_reducible repeat (first | refine blk_drewN ?_ _ | refine blk_drew ?_ | refine blk_alloc ?_ _)); exact BK248.out⟩, ⟨by (with_reducible repeat (first | refine blk_drewN ?_ _ | refine blk_drew ?_ | refine blk_alloc ?_ _)); refine blk_put (cs := #[.int .i64 t250, .int .i64 t251, .int .i64 0]) ?_ 2 _ rfl; (with_reducible repeat (first | refine blk_drewN ?_ _ | refine blk_drew ?_ | refine blk_alloc ?_ _)); refine blk_put (cs := #[.int .i64 t250, .int .i64 0, .int .i64 0]) ?_ 1 _ rfl; (with_reducible repeat (first | refine blk_drewN ?_ _ | refine blk_drew ?_ | refine blk_alloc ?_ _)); refine blk_put (cs := #[.int .i64 0, .int .i64 0, .int .i64 0]) ?_ 0 _ rfl; (with_reducible repeat (first | refine blk_drewN ?_ _ | refine blk_drew ?_ | refine blk_alloc ?_ _)); exact BK254.out⟩, ⟨by repeat (first | (with_reducible first | exact HB.out | apply below_alloc | apply pw_below_drewN | apply below_drew1 | refine below_set ?_ GE248.out | refine below_set ?_ GE254.out) | exact HB.out)⟩⟩
          · rw [if_neg c21] at H
            have c21b0 : decide (a0_5 < t252) = false := decide_eq_false c21
            clear c21
            by_cases c25 : (wrap64 (t252 - t251)) = (wrap64 (a0_7 - 1))
            · rw [if_pos c25] at H
              have c25b0 : ((wrap64 (t252 - t251)) == (wrap64 (a0_7 - 1))) = true := beq_iff_eq.mpr c25
              have c25b1 : ((wrap64 (t252 - t251)) != (wrap64 (a0_7 - 1))) = false := bne_eq_false_iff_eq.mpr c25
              clear c25
              replace H := Option.bind_eq_some_iff.mp H
              obtain ⟨t255, A260, H⟩ := H
              replace H : (if t255 = a2 then ((detmap_Which.f k a0_0 a0_1 a0_2 a0_3 a0_4 a0_5 a0_6 a0_7 a1 t252).bind fun t256 => (mooringslaw08_DetBlocks.j0 k a1 a3 true (t256 != a2) a0_0 a0_1 a0_2 a0_3 a0_4 a0_5 a0_6 a0_7 t250 t251 t252)) else (mooringslaw08_DetBlocks.j0 k a1 a3 true true a0_0 a0_1 a0_2 a0_3 a0_4 a0_5 a0_6 a0_7 t250 t251 t252)) = some r := H
              have A26 := Aside0.mk A260
              clear A260
              by_cases c27 : t255 = a2
              · rw [if_pos c27] at H
                have c27b0 : (t255 == a2) = true := beq_iff_eq.mpr c27
                have c27b1 : (t255 != a2) = false := bne_eq_false_iff_eq.mpr c27
                clear c27
                replace H := Option.bind_eq_some_iff.mp H
                obtain ⟨t256, A280, H⟩ := H
                replace H : (mooringslaw08_DetBlocks.j0 k a1 a3 true (t256 != a2) a0_0 a0_1 a0_2 a0_3 a0_4 a0_5 a0_6 a0_7 t250 t251 t252) = some r := H
                have A28 := Aside0.mk A280
                clear A280
                have H' := Aside0.mk H
                clear H
                have hnb29 := NB254_248.out
                have hnc29 := NB248_254.out
                have hcz30_0 : w12.cell? ⟨gb254, 0, none⟩ = some (.int .i64 0) := (blk_cell BK254.out 0).trans rfl
                have hcz30_1 : w12.cell? ⟨gb254, 1, none⟩ = some (.int .i64 0) := (blk_cell BK254.out 1).trans rfl
                have hcz30_2 : w12.cell? ⟨gb254, 2, none⟩ = some (.int .i64 0) := (blk_cell BK254.out 2).trans rfl
                have hfz30_0 := blk_frozen BK254.out 0
                have hfz30_1 := blk_frozen BK254.out 1
                have hfz30_2 := blk_frozen BK254.out 2
                have hcz31_0 : w12.cell? ⟨gb248, 0, none⟩ = some (.int .i64 a0_0) := (blk_cell BK248.out 0).trans rfl
                have hcz31_1 : w12.cell? ⟨gb248, 1, none⟩ = some (.int .i64 a0_1) := (blk_cell BK248.out 1).trans rfl
                have hcz31_2 : w12.cell? ⟨gb248, 2, none⟩ = some (.int .i64 a0_2) := (blk_cell BK248.out 2).trans rfl
                have hcz31_3 : w12.cell? ⟨gb248, 3, none⟩ = some (.int .i64 a0_3) := (blk_cell BK248.out 3).trans rfl
                have hcz31_4 : w12.cell? ⟨gb248, 4, none⟩ = some (.int .i64 a0_4) := (blk_cell BK248.out 4).trans rfl
                have hcz31_5 : w12.cell? ⟨gb248, 5, none⟩ = some (.int .i64 a0_5) := (blk_cell BK248.out 5).trans rfl
                have hcz31_6 : w12.cell? ⟨gb248, 6, none⟩ = some (.int .i64 a0_6) := (blk_cell BK248.out 6).trans rfl
                have hcz31_7 : w12.cell? ⟨gb248, 7, none⟩ = some (.int .i64 a0_7) := (blk_cell BK248.out 7).trans rfl
                have hfz31_0 := blk_frozen BK248.out 0
                have hfz31_1 := blk_frozen BK248.out 1
                have hfz31_2 := blk_frozen BK248.out 2
                have hfz31_3 := blk_frozen BK248.out 3
                have hfz31_4 := blk_frozen BK248.out 4
                have hfz31_5 := blk_frozen BK248.out 5
                have hfz31_6 := blk_frozen BK248.out 6
                have hfz31_7 := blk_frozen BK248.out 7
                go_wp2_with (first | (go_at_call 25; (with_reducible refine (detmap_Which.calls k a0_0 a0_1 a0_2 a0_3 a0_4 a0_5 a0_6 a0_7 a1 t251 t255 _ A26.out).mono ?_); rintro e w32 ⟨rfl, hb⟩; have n0_ := Aside0.mk (blk_below (g := gb248) (o := .cells #[.int .i64 a0_0, .int .i64 a0_1, .int .i64 a0_2, .int .i64 a0_3, .int .i64 a0_4, .int .i64 a0_5, .int .i64 a0_6, .int .i64 a0_7] 25 (0, 0)) (by (with_reducible repeat (first | refine blk_drewN ?_ _ | refine blk_drew ?_ | refine blk_alloc ?_ _)); refine blk_far ?_ NB248_254.out _; (with_reducible repeat (first | refine blk_drewN ?_ _ | refine blk_drew ?_ | refine blk_alloc ?_ _)); refine blk_far ?_ NB248_254.out _; (with_reducible repeat (first | refine blk_drewN ?_ _ | refine blk_drew ?_ | refine blk_alloc ?_ _)); refine blk_far ?_ NB248_254.out _; (with_reducible repeat (first | refine blk_drewN ?_ _ | refine blk_drew ?_ | refine blk_alloc ?_ _)); exact BK248.out) hb); have n1_ := Aside0.mk (blk_below (g := gb254) (o := .cells #[.int .i64 t250, .int .i64 t251, .int .i64 t252] 28 (0, 0)) (by (with_reducible repeat (first | refine blk_drewN ?_ _ | refine blk_drew ?_ | refine blk_alloc ?_ _)); refine blk_put (cs := #[.int .i64 t250, .int .i64 t251, .int .i64 0]) ?_ 2 _ rfl; (with_reducible repeat (first | refine blk_drewN ?_ _ | refine blk_drew ?_ | refine blk_alloc ?_ _)); refine blk_put (cs := #[.int .i64 t250, .int .i64 0, .int .i64 0]) ?_ 1 _ rfl; (with_reducible repeat (first | refine blk_drewN ?_ _ | refine blk_drew ?_ | refine blk_alloc ?_ _)); refine blk_put (cs := #[.int .i64 0, .int .i64 0, .int .i64 0]) ?_ 0 _ rfl; (with_reducible repeat (first | refine blk_drewN ?_ _ | refine blk_drew ?_ | refine blk_alloc ?_ _)); exact BK254.out) hb); have n2_ := Aside0.mk (below_step (by repeat (first | (with_reducible first | exact HB.out | apply below_alloc | apply pw_below_drewN | apply below_drew1 | refine below_set ?_ GE248.out | refine below_set ?_ GE254.out) | exact HB.out)) hb); clear BK248; clear BK254; clear HB; have BK248 := n0_; have BK254 := n1_; have HB := n2_; clear n0_ n1_ n2_; (try clear hb); (try clear hb2); (try clear hk); (try clear hi); have hcz33_0 : w32.cell? ⟨gb248, 0, none⟩ = some (.int .i64 a0_0) := (blk_cell BK248.out 0).trans rfl; have hcz33_1 : w32.cell? ⟨gb248, 1, none⟩ = some (.int .i64 a0_1) := (blk_cell BK248.out 1).trans rfl; have hcz33_2 : w32.cell? ⟨gb248, 2, none⟩ = some (.int .i64 a0_2) := (blk_cell BK248.out 2).trans rfl; have hcz33_3 : w32.cell? ⟨gb248, 3, none⟩ = some (.int .i64 a0_3) := (blk_cell BK248.out 3).trans rfl; have hcz33_4 : w32.cell? ⟨gb248, 4, none⟩ = some (.int .i64 a0_4) := (blk_cell BK248.out 4).trans rfl; have hcz33_5 : w32.cell? ⟨gb248, 5, none⟩ = some (.int .i64 a0_5) := (blk_cell BK248.out 5).trans rfl; have hcz33_6 : w32.cell? ⟨gb248, 6, none⟩ = some (.int .i64 a0_6) := (blk_cell BK248.out 6).trans rfl; have hcz33_7 : w32.cell? ⟨gb248, 7, none⟩ = some (.int .i64 a0_7) := (blk_cell BK248.out 7).trans rfl; have hfz33_0 := blk_frozen BK248.out 0; have hfz33_1 := blk_frozen BK248.out 1; have hfz33_2 := blk_frozen BK248.out 2; have hfz33_3 := blk_frozen BK248.out 3; have hfz33_4 := blk_frozen BK248.out 4; have hfz33_5 := blk_frozen BK248.out 5; have hfz33_6 := blk_frozen BK248.out 6; have hfz33_7 := blk_frozen BK248.out 7; have hcz34_0 : w32.cell? ⟨gb254, 0, none⟩ = some (.int .i64 t250) := (blk_cell BK254.out 0).trans rfl; have hcz34_1 : w32.cell? ⟨gb254, 1, none⟩ = some (.int .i64 t251) := (blk_cell BK254.out 1).trans rfl; have hcz34_2 : w32.cell? ⟨gb254, 2, none⟩ = some (.int .i64 t252) := (blk_cell BK254.out 2).trans rfl; have hfz34_0 := blk_frozen BK254.out 0; have hfz34_1 := blk_frozen BK254.out 1; have hfz34_2 := blk_frozen BK254.out 2) | (go_at_call 25; (with_reducible refine (detmap_Which.calls k a0_0 a0_1 a0_2 a0_3 a0_4 a0_5 a0_6 a0_7 a1 t252 t256 _ A28.out).mono ?_); rintro e w35 ⟨rfl, hb⟩; have n0_ := Aside0.mk (blk_below (g := gb248) (o := .cells #[.int .i64 a0_0, .int .i64 a0_1, .int .i64 a0_2, .int .i64 a0_3, .int .i64 a0_4, .int .i64 a0_5, .int .i64 a0_6, .int .i64 a0_7] 25 (0, 0)) (by (with_reducible repeat (first | refine blk_drewN ?_ _ | refine blk_drew ?_ | refine blk_alloc ?_ _)); exact BK248.out) hb); have n1_ := Aside0.mk (blk_below (g := gb254) (o := .cells #[.int .i64 t250, .int .i64 t251, .int .i64 t252] 28 (0, 0)) (by (with_reducible repeat (first | refine blk_drewN ?_ _ | refine blk_drew ?_ | refine blk_alloc ?_ _)); exact BK254.out) hb); have n2_ := Aside0.mk (below_step (by repeat (first | (with_reducible first | exact HB.out | apply below_alloc | apply pw_below_drewN | apply below_drew1 | refine below_set ?_ GE248.out | refine below_set ?_ GE254.out) | exact HB.out)) hb); clear BK248; clear BK254; clear HB; have BK248 := n0_; have BK254 := n1_; have HB := n2_; clear n0_ n1_ n2_; (try clear hb); (try clear hb2); (try clear hk); (try clear hi)))
                go_meet
                case rel => exact ⟨_, ((t256 != a2)), (by first | rfl | (simp; done) | (simp [*]; done)), H', ⟨by first | omega | exact Nat.le_refl _⟩, ⟨by (with_reducible repeat (first | refine blk_drewN ?_ _ | refine blk_drew ?_ | refine blk_alloc ?_ _)); exact BK248.out⟩, ⟨by (with_reducible repeat (first | refine blk_drewN ?_ _ | refine blk_drew ?_ | refine blk_alloc ?_ _)); exact BK254.out⟩, ⟨by repeat (first | (with_reducible first | exact HB.out | apply below_alloc | apply pw_below_drewN | apply below_drew1 | refine below_set ?_ GE248.out | refine below_set ?_ GE254.out) | exact HB.out)⟩⟩
              · rw [if_neg c27] at H
                have c27b0 : (t255 == a2) = false := beq_eq_false_iff_ne.mpr c27
                have c27b1 : (t255 != a2) = true := bne_iff_ne.mpr c27
                have H' := Aside0.mk H
                clear H
                have hnb36 := NB254_248.out
                have hnc36 := NB248_254.out
                have hcz37_0 : w12.cell? ⟨gb254, 0, none⟩ = some (.int .i64 0) := (blk_cell BK254.out 0).trans rfl
                have hcz37_1 : w12.cell? ⟨gb254, 1, none⟩ = some (.int .i64 0) := (blk_cell BK254.out 1).trans rfl
                have hcz37_2 : w12.cell? ⟨gb254, 2, none⟩ = some (.int .i64 0) := (blk_cell BK254.out 2).trans rfl
                have hfz37_0 := blk_frozen BK254.out 0
                have hfz37_1 := blk_frozen BK254.out 1
                have hfz37_2 := blk_frozen BK254.out 2
                have hcz38_0 : w12.cell? ⟨gb248, 0, none⟩ = some (.int .i64 a0_0) := (blk_cell BK248.out 0).trans rfl
                have hcz38_1 : w12.cell? ⟨gb248, 1, none⟩ = some (.int .i64 a0_1) := (blk_cell BK248.out 1).trans rfl
                have hcz38_2 : w12.cell? ⟨gb248, 2, none⟩ = some (.int .i64 a0_2) := (blk_cell BK248.out 2).trans rfl
                have hcz38_3 : w12.cell? ⟨gb248, 3, none⟩ = some (.int .i64 a0_3) := (blk_cell BK248.out 3).trans rfl
                have hcz38_4 : w12.cell? ⟨gb248, 4, none⟩ = some (.int .i64 a0_4) := (blk_cell BK248.out 4).trans rfl
                have hcz38_5 : w12.cell? ⟨gb248, 5, none⟩ = some (.int .i64 a0_5) := (blk_cell BK248.out 5).trans rfl
                have hcz38_6 : w12.cell? ⟨gb248, 6, none⟩ = some (.int .i64 a0_6) := (blk_cell BK248.out 6).trans rfl
                have hcz38_7 : w12.cell? ⟨gb248, 7, none⟩ = some (.int .i64 a0_7) := (blk_cell BK248.out 7).trans rfl
                have hfz38_0 := blk_frozen BK248.out 0
                have hfz38_1 := blk_frozen BK248.out 1
                have hfz38_2 := blk_frozen BK248.out 2
                have hfz38_3 := blk_frozen BK248.out 3
                have hfz38_4 := blk_frozen BK248.out 4
                have hfz38_5 := blk_frozen BK248.out 5
                have hfz38_6 := blk_frozen BK248.out 6
                have hfz38_7 := blk_frozen BK248.out 7
                go_wp2_with (first | (go_at_call 25; (with_reducible refine (detmap_Which.calls k a0_0 a0_1 a0_2 a0_3 a0_4 a0_5 a0_6 a0_7 a1 t251 t255 _ A26.out).mono ?_); rintro e w39 ⟨rfl, hb⟩; have n0_ := Aside0.mk (blk_below (g := gb248) (o := .cells #[.int .i64 a0_0, .int .i64 a0_1, .int .i64 a0_2, .int .i64 a0_3, .int .i64 a0_4, .int .i64 a0_5, .int .i64 a0_6, .int .i64 a0_7] 25 (0, 0)) (by (with_reducible repeat (first | refine blk_drewN ?_ _ | refine blk_drew ?_ | refine blk_alloc ?_ _)); refine blk_far ?_ NB248_254.out _; (with_reducible repeat (first | refine blk_drewN ?_ _ | refine blk_drew ?_ | refine blk_alloc ?_ _)); refine blk_far ?_ NB248_254.out _; (with_reducible repeat (first | refine blk_drewN ?_ _ | refine blk_drew ?_ | refine blk_alloc ?_ _)); refine blk_far ?_ NB248_254.out _; (with_reducible repeat (first | refine blk_drewN ?_ _ | refine blk_drew ?_ | refine blk_alloc ?_ _)); exact BK248.out) hb); have n1_ := Aside0.mk (blk_below (g := gb254) (o := .cells #[.int .i64 t250, .int .i64 t251, .int .i64 t252] 28 (0, 0)) (by (with_reducible repeat (first | refine blk_drewN ?_ _ | refine blk_drew ?_ | refine blk_alloc ?_ _)); refine blk_put (cs := #[.int .i64 t250, .int .i64 t251, .int .i64 0]) ?_ 2 _ rfl; (with_reducible repeat (first | refine blk_drewN ?_ _ | refine blk_drew ?_ | refine blk_alloc ?_ _)); refine blk_put (cs := #[.int .i64 t250, .int .i64 0, .int .i64 0]) ?_ 1 _ rfl; (with_reducible repeat (first | refine blk_drewN ?_ _ | refine blk_drew ?_ | refine blk_alloc ?_ _)); refine blk_put (cs := #[.int .i64 0, .int .i64 0, .int .i64 0]) ?_ 0 _ rfl; (with_reducible repeat (first | refine blk_drewN ?_ _ | refine blk_drew ?_ | refine blk_alloc ?_ _)); exact BK254.out) hb); have n2_ := Aside0.mk (below_step (by repeat (first | (with_reducible first | exact HB.out | apply below_alloc | apply pw_below_drewN | apply below_drew1 | refine below_set ?_ GE248.out | refine below_set ?_ GE254.out) | exact HB.out)) hb); clear BK248; clear BK254; clear HB; have BK248 := n0_; have BK254 := n1_; have HB := n2_; clear n0_ n1_ n2_; (try clear hb); (try clear hb2); (try clear hk); (try clear hi)))
                go_meet
                case rel => exact ⟨_, (true), (by first | rfl | (simp; done) | (simp [*]; done)), H', ⟨by first | omega | exact Nat.le_refl _⟩, ⟨by (with_reducible repeat (first | refine blk_drewN ?_ _ | refine blk_drew ?_ | refine blk_alloc ?_ _)); exact BK248.out⟩, ⟨by (with_reducible repeat (first | refine blk_drewN ?_ _ | refine blk_drew ?_ | refine blk_alloc ?_ _)); exact BK254.out⟩, ⟨by repeat (first | (with_reducible first | exact HB.out | apply below_alloc | apply pw_below_drewN | apply below_drew1 | refine below_set ?_ GE248.out | refine below_set ?_ GE254.out) | exact HB.out)⟩⟩
            · rw [if_neg c25] at H
              have c25b0 : ((wrap64 (t252 - t251)) == (wrap64 (a0_7 - 1))) = false := beq_eq_false_iff_ne.mpr c25
              have c25b1 : ((wrap64 (t252 - t251)) != (wrap64 (a0_7 - 1))) = true := bne_iff_ne.mpr c25
              have H' := Aside0.mk H
              clear H
              have hnb40 := NB254_248.out
              have hnc40 := NB248_254.out
              have hcz41_0 : w12.cell? ⟨gb254, 0, none⟩ = some (.int .i64 0) := (blk_cell BK254.out 0).trans rfl
              have hcz41_1 : w12.cell? ⟨gb254, 1, none⟩ = some (.int .i64 0) := (blk_cell BK254.out 1).trans rfl
              have hcz41_2 : w12.cell? ⟨gb254, 2, none⟩ = some (.int .i64 0) := (blk_cell BK254.out 2).trans rfl
              have hfz41_0 := blk_frozen BK254.out 0
              have hfz41_1 := blk_frozen BK254.out 1
              have hfz41_2 := blk_frozen BK254.out 2
              have hcz42_0 : w12.cell? ⟨gb248, 0, none⟩ = some (.int .i64 a0_0) := (blk_cell BK248.out 0).trans rfl
              have hcz42_1 : w12.cell? ⟨gb248, 1, none⟩ = some (.int .i64 a0_1) := (blk_cell BK248.out 1).trans rfl
              have hcz42_2 : w12.cell? ⟨gb248, 2, none⟩ = some (.int .i64 a0_2) := (blk_cell BK248.out 2).trans rfl
              have hcz42_3 : w12.cell? ⟨gb248, 3, none⟩ = some (.int .i64 a0_3) := (blk_cell BK248.out 3).trans rfl
              have hcz42_4 : w12.cell? ⟨gb248, 4, none⟩ = some (.int .i64 a0_4) := (blk_cell BK248.out 4).trans rfl
              have hcz42_5 : w12.cell? ⟨gb248, 5, none⟩ = some (.int .i64 a0_5) := (blk_cell BK248.out 5).trans rfl
              have hcz42_6 : w12.cell? ⟨gb248, 6, none⟩ = some (.int .i64 a0_6) := (blk_cell BK248.out 6).trans rfl
              have hcz42_7 : w12.cell? ⟨gb248, 7, none⟩ = some (.int .i64 a0_7) := (blk_cell BK248.out 7).trans rfl
              have hfz42_0 := blk_frozen BK248.out 0
              have hfz42_1 := blk_frozen BK248.out 1
              have hfz42_2 := blk_frozen BK248.out 2
              have hfz42_3 := blk_frozen BK248.out 3
              have hfz42_4 := blk_frozen BK248.out 4
              have hfz42_5 := blk_frozen BK248.out 5
              have hfz42_6 := blk_frozen BK248.out 6
              have hfz42_7 := blk_frozen BK248.out 7
              go_wp2
              go_meet
              case rel => exact ⟨_, (true), (by first | rfl | (simp; done) | (simp [*]; done)), H', ⟨by first | omega | exact Nat.le_refl _⟩, ⟨by (with_reducible repeat (first | refine blk_drewN ?_ _ | refine blk_drew ?_ | refine blk_alloc ?_ _)); refine blk_far ?_ NB248_254.out _; (with_reducible repeat (first | refine blk_drewN ?_ _ | refine blk_drew ?_ | refine blk_alloc ?_ _)); refine blk_far ?_ NB248_254.out _; (with_reducible repeat (first | refine blk_drewN ?_ _ | refine blk_drew ?_ | refine blk_alloc ?_ _)); refine blk_far ?_ NB248_254.out _; (with_reducible repeat (first | refine blk_drewN ?_ _ | refine blk_drew ?_ | refine blk_alloc ?_ _)); exact BK248.out⟩, ⟨by (with_reducible repeat (first | refine blk_drewN ?_ _ | refine blk_drew ?_ | refine blk_alloc ?_ _)); refine blk_put (cs := #[.int .i64 t250, .int .i64 t251, .int .i64 0]) ?_ 2 _ rfl; (with_reducible repeat (first | refine blk_drewN ?_ _ | refine blk_drew ?_ | refine blk_alloc ?_ _)); refine blk_put (cs := #[.int .i64 t250, .int .i64 0, .int .i64 0]) ?_ 1 _ rfl; (with_reducible repeat (first | refine blk_drewN ?_ _ | refine blk_drew ?_ | refine blk_alloc ?_ _)); refine blk_put (cs := #[.int .i64 0, .int .i64 0, .int .i64 0]) ?_ 0 _ rfl; (with_reducible repeat (first | refine blk_drewN ?_ _ | refine blk_drew ?_ | refine blk_alloc ?_ _)); exact BK254.out⟩, ⟨by repeat (first | (with_reducible first | exact HB.out | apply below_alloc | apply pw_below_drewN | apply below_drew1 | refine below_set ?_ GE248.out | refine below_set ?_ GE254.out) | exact HB.out)⟩⟩
      · replace c16 := Bool.eq_false_iff.mpr c16
        subst c16
        have H1 : (mooringslaw08_DetBlocks.j0 k a1 a3 false false a0_0 a0_1 a0_2 a0_3 a0_4 a0_5 a0_6 a0_7 t250 t251 t252) = some r := by rw [if_neg (show ¬ (false = true) by decide)] at H; exact H
        clear H
        have H := H1
        clear H1
        have H' := Aside0.mk H
        clear H
        go_wp2
        go_meet
        case rel => exact ⟨_, (false), (by first | rfl | (simp; done) | (simp [*]; done)), H', ⟨by first | omega | exact Nat.le_refl _⟩, ⟨by (with_reducible repeat (first | refine blk_drewN ?_ _ | refine blk_drew ?_ | refine blk_alloc ?_ _)); refine blk_far ?_ NB248_254.out _; (with_reducible repeat (first | refine blk_drewN ?_ _ | refine blk_drew ?_ | refine blk_alloc ?_ _)); refine blk_far ?_ NB248_254.out _; (with_reducible repeat (first | refine blk_drewN ?_ _ | refine blk_drew ?_ | refine blk_alloc ?_ _)); refine blk_far ?_ NB248_254.out _; (with_reducible repeat (first | refine blk_drewN ?_ _ | refine blk_drew ?_ | refine blk_alloc ?_ _)); exact BK248.out⟩, ⟨by (with_reducible repeat (first | refine blk_drewN ?_ _ | refine blk_drew ?_ | refine blk_alloc ?_ _)); refine blk_put (cs := #[.int .i64 t250, .int .i64 t251, .int .i64 0]) ?_ 2 _ rfl; (with_reducible repeat (first | refine blk_drewN ?_ _ | refine blk_drew ?_ | refine blk_alloc ?_ _)); refine blk_put (cs := #[.int .i64 t250, .int .i64 0, .int .i64 0]) ?_ 1 _ rfl; (with_reducible repeat (first | refine blk_drewN ?_ _ | refine blk_drew ?_ | refine blk_alloc ?_ _)); refine blk_put (cs := #[.int .i64 0, .int .i64 0, .int .i64 0]) ?_ 0 _ rfl; (with_reducible repeat (first | refine blk_drewN ?_ _ | refine blk_drew ?_ | refine blk_alloc ?_ _)); exact BK254.out⟩, ⟨by repeat (first | (with_reducible first | exact HB.out | apply below_alloc | apply pw_below_drewN | apply below_drew1 | refine below_set ?_ GE248.out | refine below_set ?_ GE254.out) | exact HB.out)⟩⟩
    · replace c15 := Bool.eq_false_iff.mpr c15
      subst c15
      have H1 : (mooringslaw08_DetBlocks.j0 k a1 a3 t253 true a0_0 a0_1 a0_2 a0_3 a0_4 a0_5 a0_6 a0_7 t250 t251 t252) = some r := by rw [if_neg (show ¬ (false = true) by decide)] at H; exact H
      clear H
      have H := H1
      clear H1
      have H' := Aside0.mk H
      clear H
      go_wp2
      go_meet
      case rel => exact ⟨_, (true), (by first | rfl | (simp; done) | (simp [*]; done)), H', ⟨by first | omega | exact Nat.le_refl _⟩, ⟨by (with_reducible repeat (first | refine blk_drewN ?_ _ | refine blk_drew ?_ | refine blk_alloc ?_ _)); refine blk_far ?_ NB248_254.out _; (with_reducible repeat (first | refine blk_drewN ?_ _ | refine blk_drew ?_ | refine blk_alloc ?_ _)); refine blk_far ?_ NB248_254.out _; (with_reducible repeat (first | refine blk_drewN ?_ _ | refine blk_drew ?_ | refine blk_alloc ?_ _)); refine blk_far ?_ NB248_254.out _; (with_reducible repeat (first | refine blk_drewN ?_ _ | refine blk_drew ?_ | refine blk_alloc ?_ _)); exact BK248.out⟩, ⟨by (with_reducible repeat (first | refine blk_drewN ?_ _ | refine blk_drew ?_ | refine blk_alloc ?_ _)); refine blk_put (cs := #[.int .i64 t250, .int .i64 t251, .int .i64 0]) ?_ 2 _ rfl; (with_reducible repeat (first | refine blk_drewN ?_ _ | refine blk_drew ?_ | refine blk_alloc ?_ _)); refine blk_put (cs := #[.int .i64 t250, .int .i64 0, .int .i64 0]) ?_ 1 _ rfl; (with_reducible repeat (first | refine blk_drewN ?_ _ | refine blk_drew ?_ | refine blk_alloc ?_ _)); refine blk_put (cs := #[.int .i64 0, .int .i64 0, .int .i64 0]) ?_ 0 _ rfl; (with_reducible repeat (first | refine blk_drewN ?_ _ | refine blk_drew ?_ | refine blk_alloc ?_ _)); exact BK254.out⟩, ⟨by repeat (first | (with_reducible first | exact HB.out | apply below_alloc | apply pw_below_drewN | apply below_drew1 | refine below_set ?_ GE248.out | refine below_set ?_ GE254.out) | exact HB.out)⟩⟩
  case rest =>
    clear HC7
    try clear c1
    try clear c2
    try clear p2
    try clear c3
    try clear c4
    try clear c5
    try clear p6
    try clear c10
    try clear c13
    try clear c15
    try clear c16
    try clear c17
    try clear c17b0
    try clear c18
    try clear c21
    try clear c21b0
    try clear c22
    try clear c25
    try clear c25b0
    try clear c25b1
    try clear c27
    try clear c27b0
    try clear c27b1
    try clear c29
    try clear c36
    try clear c40
    try clear hcz10_0
    try clear hcz10_1
    try clear hcz10_2
    try clear hcz10_3
    try clear hcz10_4
    try clear hcz10_5
    try clear hcz10_6
    try clear hcz10_7
    try clear hcz14_0
    try clear hcz14_1
    try clear hcz14_2
    try clear hcz19_0
    try clear hcz19_1
    try clear hcz19_2
    try clear hcz20_0
    try clear hcz20_1
    try clear hcz20_2
    try clear hcz20_3
    try clear hcz20_4
    try clear hcz20_5
    try clear hcz20_6
    try clear hcz20_7
    try clear hcz23_0
    try clear hcz23_1
    try clear hcz23_2
    try clear hcz24_0
    try clear hcz24_1
    try clear hcz24_2
    try clear hcz24_3
    try clear hcz24_4
    try clear hcz24_5
    try clear hcz24_6
    try clear hcz24_7
    try clear hcz30_0
    try clear hcz30_1
    try clear hcz30_2
    try clear hcz31_0
    try clear hcz31_1
    try clear hcz31_2
    try clear hcz31_3
    try clear hcz31_4
    try clear hcz31_5
    try clear hcz31_6
    try clear hcz31_7
    try clear hcz33_0
    try clear hcz33_1
    try clear hcz33_2
    try clear hcz33_3
    try clear hcz33_4
    try clear hcz33_5
    try clear hcz33_6
    try clear hcz33_7
    try clear hcz34_0
    try clear hcz34_1
    try clear hcz34_2
    try clear hcz37_0
    try clear hcz37_1
    try clear hcz37_2
    try clear hcz38_0
    try clear hcz38_1
    try clear hcz38_2
    try clear hcz38_3
    try clear hcz38_4
    try clear hcz38_5
    try clear hcz38_6
    try clear hcz38_7
    try clear hcz41_0
    try clear hcz41_1
    try clear hcz41_2
    try clear hcz42_0
    try clear hcz42_1
    try clear hcz42_2
    try clear hcz42_3
    try clear hcz42_4
    try clear hcz42_5
    try clear hcz42_6
    try clear hcz42_7
    try clear hfz10_0
    try clear hfz10_1
    try clear hfz10_2
    try clear hfz10_3
    try clear hfz10_4
    try clear hfz10_5
    try clear hfz10_6
    try clear hfz10_7
    try clear hfz14_0
    try clear hfz14_1
    try clear hfz14_2
    try clear hfz19_0
    try clear hfz19_1
    try clear hfz19_2
    try clear hfz20_0
    try clear hfz20_1
    try clear hfz20_2
    try clear hfz20_3
    try clear hfz20_4
    try clear hfz20_5
    try clear hfz20_6
    try clear hfz20_7
    try clear hfz23_0
    try clear hfz23_1
    try clear hfz23_2
    try clear hfz24_0
    try clear hfz24_1
    try clear hfz24_2
    try clear hfz24_3
    try clear hfz24_4
    try clear hfz24_5
    try clear hfz24_6
    try clear hfz24_7
    try clear hfz30_0
    try clear hfz30_1
    try clear hfz30_2
    try clear hfz31_0
    try clear hfz31_1
    try clear hfz31_2
    try clear hfz31_3
    try clear hfz31_4
    try clear hfz31_5
    try clear hfz31_6
    try clear hfz31_7
    try clear hfz33_0
    try clear hfz33_1
    try clear hfz33_2
    try clear hfz33_3
    try clear hfz33_4
    try clear hfz33_5
    try clear hfz33_6
    try clear hfz33_7
    try clear hfz34_0
    try clear hfz34_1
    try clear hfz34_2
    try clear hfz37_0
    try clear hfz37_1
    try clear hfz37_2
    try clear hfz38_0
    try clear hfz38_1
    try clear hfz38_2
    try clear hfz38_3
    try clear hfz38_4
    try clear hfz38_5
    try clear hfz38_6
    try clear hfz38_7
    try clear hfz41_0
    try clear hfz41_1
    try clear hfz41_2
    try clear hfz42_0
    try clear hfz42_1
    try clear hfz42_2
    try clear hfz42_3
    try clear hfz42_4
    try clear hfz42_5
    try clear hfz42_6
    try clear hfz42_7
    obtain ⟨kq, x73_6, rfl, HA, HJ6, BK248, BK254, HB⟩ := hcut
    cases kq with
    | zero => exact absurd HA.out (by simp [mooringslaw08_DetBlocks.j0])
    | succ kj6 =>
      have H := HA.out
      clear HA
      simp only [mooringslaw08_DetBlocks.j0] at H
      by_cases c43 : x73_6 = true
      · subst c43
        have H1 : (some false) = some r := by rw [if_pos rfl] at H; exact H
        clear H
        have H := H1
        clear H1
        obtain rfl := Option.some.inj H
        go_wp2
        go_ret
        exact ⟨by first | rfl | (simp [errW_none, errW_some] <;> rfl) | (simp [*, errW_none, errW_some] <;> rfl), by repeat (first | (with_reducible first | exact HB.out | apply below_alloc | apply pw_below_drewN | apply below_drew1 | refine below_set ?_ GE248.out | refine below_set ?_ GE254.out) | exact HB.out)⟩
      · replace c43 := Bool.eq_false_iff.mpr c43
        subst c43
        have H1 : ((detmap_Which.f kj6 a0_0 a0_1 a0_2 a0_3 a0_4 a0_5 a0_6 a0_7 a1 a3).bind fun t257 => ((detmap_Block.f kj6 a0_0 a0_1 a0_2 a0_3 a0_4 a0_5 a0_6 a0_7 a1 t257).bind fun bt258 => (if t257 < 0 then (if t257 = (-1) then (if t253 = true then (if a3 ≥ t251 then (some (!(decide (a3 ≤ t252)))) else (some (!false))) else (some (!false))) else (some false)) else (if bt258.2.2.2 = true then (if a3 ≥ bt258.2.1 then (if a3 ≤ bt258.2.2.1 then ((detmap_Blocks.f a0_0 a0_1 a0_2 a0_3 a0_4 a0_5 a0_6 a0_7).bind fun t263 => (some (decide (t257 < t263)))) else (some false)) else (some false)) else (some false))))) = some r := by rw [if_neg (show ¬ (false = true) by decide)] at H; exact H
        clear H
        have H := H1
        clear H1
        replace H := Option.bind_eq_some_iff.mp H
        obtain ⟨t257, A440, H⟩ := H
        replace H : ((detmap_Block.f kj6 a0_0 a0_1 a0_2 a0_3 a0_4 a0_5 a0_6 a0_7 a1 t257).bind fun bt258 => (if t257 < 0 then (if t257 = (-1) then (if t253 = true then (if a3 ≥ t251 then (some (!(decide (a3 ≤ t252)))) else (some (!false))) else (some (!false))) else (some false)) else (if bt258.2.2.2 = true then (if a3 ≥ bt258.2.1 then (if a3 ≤ bt258.2.2.1 then ((detmap_Blocks.f a0_0 a0_1 a0_2 a0_3 a0_4 a0_5 a0_6 a0_7).bind fun t263 => (some (decide (t257 < t263)))) else (some false)) else (some false)) else (some false)))) = some r := H
        have A44 := Aside0.mk A440
        clear A440
        replace H := Option.bind_eq_some_iff.mp H
        obtain ⟨⟨t258, t259, t260, t261⟩, A450, H⟩ := H
        replace H : (if t257 < 0 then (if t257 = (-1) then (if t253 = true then (if a3 ≥ t251 then (some (!(decide (a3 ≤ t252)))) else (some (!false))) else (some (!false))) else (some false)) else (if t261 = true then (if a3 ≥ t259 then (if a3 ≤ t260 then ((detmap_Blocks.f a0_0 a0_1 a0_2 a0_3 a0_4 a0_5 a0_6 a0_7).bind fun t263 => (some (decide (t257 < t263)))) else (some false)) else (some false)) else (some false))) = some r := H
        have A45 := Aside0.mk A450
        clear A450
        by_cases c46 : t257 < 0
        · rw [if_pos c46] at H
          have c46b0 : decide (t257 < 0) = true := decide_eq_true c46
          clear c46
          by_cases c47 : t257 = (-1)
          · rw [if_pos c47] at H
            have c47b0 : (t257 == (-1)) = true := beq_iff_eq.mpr c47
            have c47b1 : (t257 != (-1)) = false := bne_eq_false_iff_eq.mpr c47
            clear c47
            by_cases c48 : t253 = true
            · subst c48
              have H1 : (if a3 ≥ t251 then (some (!(decide (a3 ≤ t252)))) else (some (!false))) = some r := by rw [if_pos rfl] at H; exact H
              clear H
              have H := H1
              clear H1
              by_cases c49 : a3 ≥ t251
              · rw [if_pos c49] at H
                have c49b0 : decide (t251 ≤ a3) = true := decide_eq_true c49
                clear c49
                obtain rfl := Option.some.inj H
                have hnb50 := NB248_254.out
                have hnc50 := NB254_248.out
                have hcz51_0 : wc.cell? ⟨gb248, 0, none⟩ = some (.int .i64 a0_0) := (blk_cell BK248.out 0).trans rfl
                have hcz51_1 : wc.cell? ⟨gb248, 1, none⟩ = some (.int .i64 a0_1) := (blk_cell BK248.out 1).trans rfl
                have hcz51_2 : wc.cell? ⟨gb248, 2, none⟩ = some (.int .i64 a0_2) := (blk_cell BK248.out 2).trans rfl
                have hcz51_3 : wc.cell? ⟨gb248, 3, none⟩ = some (.int .i64 a0_3) := (blk_cell BK248.out 3).trans rfl
                have hcz51_4 : wc.cell? ⟨gb248, 4, none⟩ = some (.int .i64 a0_4) := (blk_cell BK248.out 4).trans rfl
                have hcz51_5 : wc.cell? ⟨gb248, 5, none⟩ = some (.int .i64 a0_5) := (blk_cell BK248.out 5).trans rfl
                have hcz51_6 : wc.cell? ⟨gb248, 6, none⟩ = some (.int .i64 a0_6) := (blk_cell BK248.out 6).trans rfl
                have hcz51_7 : wc.cell? ⟨gb248, 7, none⟩ = some (.int .i64 a0_7) := (blk_cell BK248.out 7).trans rfl
                have hfz51_0 := blk_frozen BK248.out 0
                have hfz51_1 := blk_frozen BK248.out 1
                have hfz51_2 := blk_frozen BK248.out 2
                have hfz51_3 := blk_frozen BK248.out 3
                have hfz51_4 := blk_frozen BK248.out 4
                have hfz51_5 := blk_frozen BK248.out 5
                have hfz51_6 := blk_frozen BK248.out 6
                have hfz51_7 := blk_frozen BK248.out 7
                go_wp2_with (first | ((with_reducible refine gate_callee (f := 25) rfl ?_); refine goesL_ (some 77) rfl rfl Try.func25 (by kernel_rfl) rfl #[.agg #[.int .i64 a0_0, .int .i64 a0_1, .int .i64 a0_2, .int .i64 a0_3, .int .i64 a0_4, .int .i64 a0_5, .int .i64 a0_6, .int .i64 a0_7], .int .i64 a1, .int .i64 a3] rfl (by (try simp only [List.map_toArray, List.map_cons, List.map_nil]); first | done | rfl | (simp only [List.length_drop, List.length_take]; rfl)) ?_; (with_reducible refine (detmap_Which.calls kj6 a0_0 a0_1 a0_2 a0_3 a0_4 a0_5 a0_6 a0_7 a1 a3 t257 _ A44.out).mono ?_); rintro e w52 ⟨rfl, hb⟩; refine ⟨_, rfl, ?_⟩; have n0_ := Aside0.mk (blk_below (g := gb248) (o := .cells #[.int .i64 a0_0, .int .i64 a0_1, .int .i64 a0_2, .int .i64 a0_3, .int .i64 a0_4, .int .i64 a0_5, .int .i64 a0_6, .int .i64 a0_7] 25 (0, 0)) (by (with_reducible repeat (first | refine blk_drewN ?_ _ | refine blk_drew ?_ | refine blk_alloc ?_ _)); exact BK248.out) hb); have n1_ := Aside0.mk (blk_below (g := gb254) (o := .cells #[.int .i64 t250, .int .i64 t251, .int .i64 t252] 28 (0, 0)) (by (with_reducible repeat (first | refine blk_drewN ?_ _ | refine blk_drew ?_ | refine blk_alloc ?_ _)); exact BK254.out) hb); have n2_ := Aside0.mk (below_step (by repeat (first | (with_reducible first | exact HB.out | apply below_alloc | apply pw_below_drewN | apply below_drew1 | refine below_set ?_ GE248.out | refine below_set ?_ GE254.out) | exact HB.out)) hb); clear BK248; clear BK254; clear HB; have BK248 := n0_; have BK254 := n1_; have HB := n2_; clear n0_ n1_ n2_; (try clear hb); (try clear hb2); (try clear hk); (try clear hi); have hcz53_0 : w52.cell? ⟨gb248, 0, none⟩ = some (.int .i64 a0_0) := (blk_cell BK248.out 0).trans rfl; have hcz53_1 : w52.cell? ⟨gb248, 1, none⟩ = some (.int .i64 a0_1) := (blk_cell BK248.out 1).trans rfl; have hcz53_2 : w52.cell? ⟨gb248, 2, none⟩ = some (.int .i64 a0_2) := (blk_cell BK248.out 2).trans rfl; have hcz53_3 : w52.cell? ⟨gb248, 3, none⟩ = some (.int .i64 a0_3) := (blk_cell BK248.out 3).trans rfl; have hcz53_4 : w52.cell? ⟨gb248, 4, none⟩ = some (.int .i64 a0_4) := (blk_cell BK248.out 4).trans rfl; have hcz53_5 : w52.cell? ⟨gb248, 5, none⟩ = some (.int .i64 a0_5) := (blk_cell BK248.out 5).trans rfl; have hcz53_6 : w52.cell? ⟨gb248, 6, none⟩ = some (.int .i64 a0_6) := (blk_cell BK248.out 6).trans rfl; have hcz53_7 : w52.cell? ⟨gb248, 7, none⟩ = some (.int .i64 a0_7) := (blk_cell BK248.out 7).trans rfl; have hfz53_0 := blk_frozen BK248.out 0; have hfz53_1 := blk_frozen BK248.out 1; have hfz53_2 := blk_frozen BK248.out 2; have hfz53_3 := blk_frozen BK248.out 3; have hfz53_4 := blk_frozen BK248.out 4; have hfz53_5 := blk_frozen BK248.out 5; have hfz53_6 := blk_frozen BK248.out 6; have hfz53_7 := blk_frozen BK248.out 7) | ((with_reducible refine gate_callee (f := 13) rfl ?_); refine goesL_ (some 82) rfl rfl Try.func13 (by kernel_rfl) rfl #[.agg #[.int .i64 a0_0, .int .i64 a0_1, .int .i64 a0_2, .int .i64 a0_3, .int .i64 a0_4, .int .i64 a0_5, .int .i64 a0_6, .int .i64 a0_7], .int .i64 a1, .int .i64 t257] rfl (by (try simp only [List.map_toArray, List.map_cons, List.map_nil]); first | done | rfl | (simp only [List.length_drop, List.length_take]; rfl)) ?_; (with_reducible refine (detmap_Block.calls kj6 a0_0 a0_1 a0_2 a0_3 a0_4 a0_5 a0_6 a0_7 a1 t257 t258 t259 t260 t261 _ A45.out).mono ?_); rintro e w54 ⟨rfl, hb⟩; refine ⟨_, rfl, ?_⟩; have n0_ := Aside0.mk (blk_below (g := gb248) (o := .cells #[.int .i64 a0_0, .int .i64 a0_1, .int .i64 a0_2, .int .i64 a0_3, .int .i64 a0_4, .int .i64 a0_5, .int .i64 a0_6, .int .i64 a0_7] 25 (0, 0)) (by (with_reducible repeat (first | refine blk_drewN ?_ _ | refine blk_drew ?_ | refine blk_alloc ?_ _)); exact BK248.out) hb); have n1_ := Aside0.mk (blk_below (g := gb254) (o := .cells #[.int .i64 t250, .int .i64 t251, .int .i64 t252] 28 (0, 0)) (by (with_reducible repeat (first | refine blk_drewN ?_ _ | refine blk_drew ?_ | refine blk_alloc ?_ _)); exact BK254.out) hb); have n2_ := Aside0.mk (below_step (by repeat (first | (with_reducible first | exact HB.out | apply below_alloc | apply pw_below_drewN | apply below_drew1 | refine below_set ?_ GE248.out | refine below_set ?_ GE254.out) | exact HB.out)) hb); clear BK248; clear BK254; clear HB; have BK248 := n0_; have BK254 := n1_; have HB := n2_; clear n0_ n1_ n2_; (try clear hb); (try clear hb2); (try clear hk); (try clear hi)) | ((with_reducible refine gate_dst (N := 13) rfl ?_); refine box_event ?hg (N := 13) ?hd (cs := #[.int .i64 0, .int .i64 0, .int .i64 0]) (t := 28) ?hr ?_; (case hd => rfl); (case hg => rfl); (case hr => first | (go_simp; done) | (go_simp; rfl)); intro gb262 hg w55 hbox hb; have n0_ := Aside0.mk (blk_below (g := gb248) (o := .cells #[.int .i64 a0_0, .int .i64 a0_1, .int .i64 a0_2, .int .i64 a0_3, .int .i64 a0_4, .int .i64 a0_5, .int .i64 a0_6, .int .i64 a0_7] 25 (0, 0)) (by (with_reducible repeat (first | refine blk_drewN ?_ _ | refine blk_drew ?_ | refine blk_alloc ?_ _)); exact BK248.out) hb); have n1_ := Aside0.mk (blk_below (g := gb254) (o := .cells #[.int .i64 t250, .int .i64 t251, .int .i64 t252] 28 (0, 0)) (by (with_reducible repeat (first | refine blk_drewN ?_ _ | refine blk_drew ?_ | refine blk_alloc ?_ _)); exact BK254.out) hb); have n2_ := Aside0.mk (below_step (by repeat (first | (with_reducible first | exact HB.out | apply below_alloc | apply pw_below_drewN | apply below_drew1 | refine below_set ?_ GE248.out | refine below_set ?_ GE254.out) | exact HB.out)) hb); have n3_ := Aside0.mk (hbox); have n4_ := Aside0.mk ((by rw [hg]; exact (below_size (by repeat (first | (with_reducible first | exact HB.out | apply below_alloc | apply pw_below_drewN | apply below_drew1 | refine below_set ?_ GE248.out | refine below_set ?_ GE254.out) | exact HB.out))) : w.heap.size ≤ gb262)); have n5_ := Aside0.mk ((by rw [hg]; exact (below_size (by repeat (first | (with_reducible first | exact HB.out | apply below_alloc | apply pw_below_drewN | apply below_drew1 | refine below_set ?_ GE248.out | refine below_set ?_ GE254.out) | exact HB.out))) : w.heap.size ≤ gb262)); have n6_ := Aside0.mk ((by rw [hg]; exact Nat.ne_of_lt (blk_lt (g := gb248) (o := .cells #[.int .i64 a0_0, .int .i64 a0_1, .int .i64 a0_2, .int .i64 a0_3, .int .i64 a0_4, .int .i64 a0_5, .int .i64 a0_6, .int .i64 a0_7] 25 (0, 0)) (by (with_reducible repeat (first | refine blk_drewN ?_ _ | refine blk_drew ?_ | refine blk_alloc ?_ _)); exact BK248.out)) : gb248 ≠ gb262)); have n7_ := Aside0.mk ((by rw [hg]; exact Nat.ne_of_gt (blk_lt (g := gb248) (o := .cells #[.int .i64 a0_0, .int .i64 a0_1, .int .i64 a0_2, .int .i64 a0_3, .int .i64 a0_4, .int .i64 a0_5, .int .i64 a0_6, .int .i64 a0_7] 25 (0, 0)) (by (with_reducible repeat (first | refine blk_drewN ?_ _ | refine blk_drew ?_ | refine blk_alloc ?_ _)); exact BK248.out)) : gb262 ≠ gb248)); have n8_ := Aside0.mk ((by rw [hg]; exact Nat.ne_of_lt (blk_lt (g := gb254) (o := .cells #[.int .i64 t250, .int .i64 t251, .int .i64 t252] 28 (0, 0)) (by (with_reducible repeat (first | refine blk_drewN ?_ _ | refine blk_drew ?_ | refine blk_alloc ?_ _)); exact BK254.out)) : gb254 ≠ gb262)); have n9_ := Aside0.mk ((by rw [hg]; exact Nat.ne_of_gt (blk_lt (g := gb254) (o := .cells #[.int .i64 t250, .int .i64 t251, .int .i64 t252] 28 (0, 0)) (by (with_reducible repeat (first | refine blk_drewN ?_ _ | refine blk_drew ?_ | refine blk_alloc ?_ _)); exact BK254.out)) : gb262 ≠ gb254)); clear BK248; clear BK254; clear HB; have BK248 := n0_; have BK254 := n1_; have HB := n2_; have BK262 := n3_; have GW262 := n4_; have GE262 := n5_; have NB248_262 := n6_; have NB262_248 := n7_; have NB254_262 := n8_; have NB262_254 := n9_; clear n0_ n1_ n2_ n3_ n4_ n5_ n6_ n7_ n8_ n9_; clear hb hbox hg; have hnb56 := NB262_248.out; have hnc56 := NB248_262.out; have hnb57 := NB262_254.out; have hnc57 := NB254_262.out; have hcz58_0 : w55.cell? ⟨gb262, 0, none⟩ = some (.int .i64 0) := (blk_cell BK262.out 0).trans rfl; have hcz58_1 : w55.cell? ⟨gb262, 1, none⟩ = some (.int .i64 0) := (blk_cell BK262.out 1).trans rfl; have hcz58_2 : w55.cell? ⟨gb262, 2, none⟩ = some (.int .i64 0) := (blk_cell BK262.out 2).trans rfl; have hfz58_0 := blk_frozen BK262.out 0; have hfz58_1 := blk_frozen BK262.out 1; have hfz58_2 := blk_frozen BK262.out 2; have hcz59_0 : w55.cell? ⟨gb254, 0, none⟩ = some (.int .i64 t250) := (blk_cell BK254.out 0).trans rfl; have hcz59_1 : w55.cell? ⟨gb254, 1, none⟩ = some (.int .i64 t251) := (blk_cell BK254.out 1).trans rfl; have hcz59_2 : w55.cell? ⟨gb254, 2, none⟩ = some (.int .i64 t252) := (blk_cell BK254.out 2).trans rfl; have hfz59_0 := blk_frozen BK254.out 0; have hfz59_1 := blk_frozen BK254.out 1; have hfz59_2 := blk_frozen BK254.out 2))
                go_ret
                exact ⟨by first | rfl | (simp [errW_none, errW_some] <;> rfl) | (simp [*, errW_none, errW_some] <;> rfl), by repeat (first | (with_reducible first | exact HB.out | apply below_alloc | apply pw_below_drewN | apply below_drew1 | refine below_set ?_ GE248.out | refine below_set ?_ GE254.out | refine below_set ?_ GE262.out) | exact HB.out)⟩
              · rw [if_neg c49] at H
                have c49b0 : decide (t251 ≤ a3) = false := decide_eq_false c49
                clear c49
                obtain rfl := Option.some.inj H
                have hnb60 := NB248_254.out
                have hnc60 := NB254_248.out
                have hcz61_0 : wc.cell? ⟨gb248, 0, none⟩ = some (.int .i64 a0_0) := (blk_cell BK248.out 0).trans rfl
                have hcz61_1 : wc.cell? ⟨gb248, 1, none⟩ = some (.int .i64 a0_1) := (blk_cell BK248.out 1).trans rfl
                have hcz61_2 : wc.cell? ⟨gb248, 2, none⟩ = some (.int .i64 a0_2) := (blk_cell BK248.out 2).trans rfl
                have hcz61_3 : wc.cell? ⟨gb248, 3, none⟩ = some (.int .i64 a0_3) := (blk_cell BK248.out 3).trans rfl
                have hcz61_4 : wc.cell? ⟨gb248, 4, none⟩ = some (.int .i64 a0_4) := (blk_cell BK248.out 4).trans rfl
                have hcz61_5 : wc.cell? ⟨gb248, 5, none⟩ = some (.int .i64 a0_5) := (blk_cell BK248.out 5).trans rfl
                have hcz61_6 : wc.cell? ⟨gb248, 6, none⟩ = some (.int .i64 a0_6) := (blk_cell BK248.out 6).trans rfl
                have hcz61_7 : wc.cell? ⟨gb248, 7, none⟩ = some (.int .i64 a0_7) := (blk_cell BK248.out 7).trans rfl
                have hfz61_0 := blk_frozen BK248.out 0
                have hfz61_1 := blk_frozen BK248.out 1
                have hfz61_2 := blk_frozen BK248.out 2
                have hfz61_3 := blk_frozen BK248.out 3
                have hfz61_4 := blk_frozen BK248.out 4
                have hfz61_5 := blk_frozen BK248.out 5
                have hfz61_6 := blk_frozen BK248.out 6
                have hfz61_7 := blk_frozen BK248.out 7
                go_wp2_with (first | ((with_reducible refine gate_callee (f := 25) rfl ?_); refine goesL_ (some 77) rfl rfl Try.func25 (by kernel_rfl) rfl #[.agg #[.int .i64 a0_0, .int .i64 a0_1, .int .i64 a0_2, .int .i64 a0_3, .int .i64 a0_4, .int .i64 a0_5, .int .i64 a0_6, .int .i64 a0_7], .int .i64 a1, .int .i64 a3] rfl (by (try simp only [List.map_toArray, List.map_cons, List.map_nil]); first | done | rfl | (simp only [List.length_drop, List.length_take]; rfl)) ?_; (with_reducible refine (detmap_Which.calls kj6 a0_0 a0_1 a0_2 a0_3 a0_4 a0_5 a0_6 a0_7 a1 a3 t257 _ A44.out).mono ?_); rintro e w62 ⟨rfl, hb⟩; refine ⟨_, rfl, ?_⟩; have n0_ := Aside0.mk (blk_below (g := gb248) (o := .cells #[.int .i64 a0_0, .int .i64 a0_1, .int .i64 a0_2, .int .i64 a0_3, .int .i64 a0_4, .int .i64 a0_5, .int .i64 a0_6, .int .i64 a0_7] 25 (0, 0)) (by (with_reducible repeat (first | refine blk_drewN ?_ _ | refine blk_drew ?_ | refine blk_alloc ?_ _)); exact BK248.out) hb); have n1_ := Aside0.mk (blk_below (g := gb254) (o := .cells #[.int .i64 t250, .int .i64 t251, .int .i64 t252] 28 (0, 0)) (by (with_reducible repeat (first | refine blk_drewN ?_ _ | refine blk_drew ?_ | refine blk_alloc ?_ _)); exact BK254.out) hb); have n2_ := Aside0.mk (below_step (by repeat (first | (with_reducible first | exact HB.out | apply below_alloc | apply pw_below_drewN | apply below_drew1 | refine below_set ?_ GE248.out | refine below_set ?_ GE254.out) | exact HB.out)) hb); clear BK248; clear BK254; clear HB; have BK248 := n0_; have BK254 := n1_; have HB := n2_; clear n0_ n1_ n2_; (try clear hb); (try clear hb2); (try clear hk); (try clear hi); have hcz63_0 : w62.cell? ⟨gb248, 0, none⟩ = some (.int .i64 a0_0) := (blk_cell BK248.out 0).trans rfl; have hcz63_1 : w62.cell? ⟨gb248, 1, none⟩ = some (.int .i64 a0_1) := (blk_cell BK248.out 1).trans rfl; have hcz63_2 : w62.cell? ⟨gb248, 2, none⟩ = some (.int .i64 a0_2) := (blk_cell BK248.out 2).trans rfl; have hcz63_3 : w62.cell? ⟨gb248, 3, none⟩ = some (.int .i64 a0_3) := (blk_cell BK248.out 3).trans rfl; have hcz63_4 : w62.cell? ⟨gb248, 4, none⟩ = some (.int .i64 a0_4) := (blk_cell BK248.out 4).trans rfl; have hcz63_5 : w62.cell? ⟨gb248, 5, none⟩ = some (.int .i64 a0_5) := (blk_cell BK248.out 5).trans rfl; have hcz63_6 : w62.cell? ⟨gb248, 6, none⟩ = some (.int .i64 a0_6) := (blk_cell BK248.out 6).trans rfl; have hcz63_7 : w62.cell? ⟨gb248, 7, none⟩ = some (.int .i64 a0_7) := (blk_cell BK248.out 7).trans rfl; have hfz63_0 := blk_frozen BK248.out 0; have hfz63_1 := blk_frozen BK248.out 1; have hfz63_2 := blk_frozen BK248.out 2; have hfz63_3 := blk_frozen BK248.out 3; have hfz63_4 := blk_frozen BK248.out 4; have hfz63_5 := blk_frozen BK248.out 5; have hfz63_6 := blk_frozen BK248.out 6; have hfz63_7 := blk_frozen BK248.out 7) | ((with_reducible refine gate_callee (f := 13) rfl ?_); refine goesL_ (some 82) rfl rfl Try.func13 (by kernel_rfl) rfl #[.agg #[.int .i64 a0_0, .int .i64 a0_1, .int .i64 a0_2, .int .i64 a0_3, .int .i64 a0_4, .int .i64 a0_5, .int .i64 a0_6, .int .i64 a0_7], .int .i64 a1, .int .i64 t257] rfl (by (try simp only [List.map_toArray, List.map_cons, List.map_nil]); first | done | rfl | (simp only [List.length_drop, List.length_take]; rfl)) ?_; (with_reducible refine (detmap_Block.calls kj6 a0_0 a0_1 a0_2 a0_3 a0_4 a0_5 a0_6 a0_7 a1 t257 t258 t259 t260 t261 _ A45.out).mono ?_); rintro e w64 ⟨rfl, hb⟩; refine ⟨_, rfl, ?_⟩; have n0_ := Aside0.mk (blk_below (g := gb248) (o := .cells #[.int .i64 a0_0, .int .i64 a0_1, .int .i64 a0_2, .int .i64 a0_3, .int .i64 a0_4, .int .i64 a0_5, .int .i64 a0_6, .int .i64 a0_7] 25 (0, 0)) (by (with_reducible repeat (first | refine blk_drewN ?_ _ | refine blk_drew ?_ | refine blk_alloc ?_ _)); exact BK248.out) hb); have n1_ := Aside0.mk (blk_below (g := gb254) (o := .cells #[.int .i64 t250, .int .i64 t251, .int .i64 t252] 28 (0, 0)) (by (with_reducible repeat (first | refine blk_drewN ?_ _ | refine blk_drew ?_ | refine blk_alloc ?_ _)); exact BK254.out) hb); have n2_ := Aside0.mk (below_step (by repeat (first | (with_reducible first | exact HB.out | apply below_alloc | apply pw_below_drewN | apply below_drew1 | refine below_set ?_ GE248.out | refine below_set ?_ GE254.out) | exact HB.out)) hb); clear BK248; clear BK254; clear HB; have BK248 := n0_; have BK254 := n1_; have HB := n2_; clear n0_ n1_ n2_; (try clear hb); (try clear hb2); (try clear hk); (try clear hi)) | ((with_reducible refine gate_dst (N := 13) rfl ?_); refine box_event ?hg (N := 13) ?hd (cs := #[.int .i64 0, .int .i64 0, .int .i64 0]) (t := 28) ?hr ?_; (case hd => rfl); (case hg => rfl); (case hr => first | (go_simp; done) | (go_simp; rfl)); intro gb262 hg w65 hbox hb; have n0_ := Aside0.mk (blk_below (g := gb248) (o := .cells #[.int .i64 a0_0, .int .i64 a0_1, .int .i64 a0_2, .int .i64 a0_3, .int .i64 a0_4, .int .i64 a0_5, .int .i64 a0_6, .int .i64 a0_7] 25 (0, 0)) (by (with_reducible repeat (first | refine blk_drewN ?_ _ | refine blk_drew ?_ | refine blk_alloc ?_ _)); exact BK248.out) hb); have n1_ := Aside0.mk (blk_below (g := gb254) (o := .cells #[.int .i64 t250, .int .i64 t251, .int .i64 t252] 28 (0, 0)) (by (with_reducible repeat (first | refine blk_drewN ?_ _ | refine blk_drew ?_ | refine blk_alloc ?_ _)); exact BK254.out) hb); have n2_ := Aside0.mk (below_step (by repeat (first | (with_reducible first | exact HB.out | apply below_alloc | apply pw_below_drewN | apply below_drew1 | refine below_set ?_ GE248.out | refine below_set ?_ GE254.out) | exact HB.out)) hb); have n3_ := Aside0.mk (hbox); have n4_ := Aside0.mk ((by rw [hg]; exact (below_size (by repeat (first | (with_reducible first | exact HB.out | apply below_alloc | apply pw_below_drewN | apply below_drew1 | refine below_set ?_ GE248.out | refine below_set ?_ GE254.out) | exact HB.out))) : w.heap.size ≤ gb262)); have n5_ := Aside0.mk ((by rw [hg]; exact (below_size (by repeat (first | (with_reducible first | exact HB.out | apply below_alloc | apply pw_below_drewN | apply below_drew1 | refine below_set ?_ GE248.out | refine below_set ?_ GE254.out) | exact HB.out))) : w.heap.size ≤ gb262)); have n6_ := Aside0.mk ((by rw [hg]; exact Nat.ne_of_lt (blk_lt (g := gb248) (o := .cells #[.int .i64 a0_0, .int .i64 a0_1, .int .i64 a0_2, .int .i64 a0_3, .int .i64 a0_4, .int .i64 a0_5, .int .i64 a0_6, .int .i64 a0_7] 25 (0, 0)) (by (with_reducible repeat (first | refine blk_drewN ?_ _ | refine blk_drew ?_ | refine blk_alloc ?_ _)); exact BK248.out)) : gb248 ≠ gb262)); have n7_ := Aside0.mk ((by rw [hg]; exact Nat.ne_of_gt (blk_lt (g := gb248) (o := .cells #[.int .i64 a0_0, .int .i64 a0_1, .int .i64 a0_2, .int .i64 a0_3, .int .i64 a0_4, .int .i64 a0_5, .int .i64 a0_6, .int .i64 a0_7] 25 (0, 0)) (by (with_reducible repeat (first | refine blk_drewN ?_ _ | refine blk_drew ?_ | refine blk_alloc ?_ _)); exact BK248.out)) : gb262 ≠ gb248)); have n8_ := Aside0.mk ((by rw [hg]; exact Nat.ne_of_lt (blk_lt (g := gb254) (o := .cells #[.int .i64 t250, .int .i64 t251, .int .i64 t252] 28 (0, 0)) (by (with_reducible repeat (first | refine blk_drewN ?_ _ | refine blk_drew ?_ | refine blk_alloc ?_ _)); exact BK254.out)) : gb254 ≠ gb262)); have n9_ := Aside0.mk ((by rw [hg]; exact Nat.ne_of_gt (blk_lt (g := gb254) (o := .cells #[.int .i64 t250, .int .i64 t251, .int .i64 t252] 28 (0, 0)) (by (with_reducible repeat (first | refine blk_drewN ?_ _ | refine blk_drew ?_ | refine blk_alloc ?_ _)); exact BK254.out)) : gb262 ≠ gb254)); clear BK248; clear BK254; clear HB; have BK248 := n0_; have BK254 := n1_; have HB := n2_; have BK262 := n3_; have GW262 := n4_; have GE262 := n5_; have NB248_262 := n6_; have NB262_248 := n7_; have NB254_262 := n8_; have NB262_254 := n9_; clear n0_ n1_ n2_ n3_ n4_ n5_ n6_ n7_ n8_ n9_; clear hb hbox hg; have hnb66 := NB262_248.out; have hnc66 := NB248_262.out; have hnb67 := NB262_254.out; have hnc67 := NB254_262.out; have hcz68_0 : w65.cell? ⟨gb262, 0, none⟩ = some (.int .i64 0) := (blk_cell BK262.out 0).trans rfl; have hcz68_1 : w65.cell? ⟨gb262, 1, none⟩ = some (.int .i64 0) := (blk_cell BK262.out 1).trans rfl; have hcz68_2 : w65.cell? ⟨gb262, 2, none⟩ = some (.int .i64 0) := (blk_cell BK262.out 2).trans rfl; have hfz68_0 := blk_frozen BK262.out 0; have hfz68_1 := blk_frozen BK262.out 1; have hfz68_2 := blk_frozen BK262.out 2; have hcz69_0 : w65.cell? ⟨gb254, 0, none⟩ = some (.int .i64 t250) := (blk_cell BK254.out 0).trans rfl; have hcz69_1 : w65.cell? ⟨gb254, 1, none⟩ = some (.int .i64 t251) := (blk_cell BK254.out 1).trans rfl; have hcz69_2 : w65.cell? ⟨gb254, 2, none⟩ = some (.int .i64 t252) := (blk_cell BK254.out 2).trans rfl; have hfz69_0 := blk_frozen BK254.out 0; have hfz69_1 := blk_frozen BK254.out 1; have hfz69_2 := blk_frozen BK254.out 2))
                go_ret
                exact ⟨by first | rfl | (simp [errW_none, errW_some] <;> rfl) | (simp [*, errW_none, errW_some] <;> rfl), by repeat (first | (with_reducible first | exact HB.out | apply below_alloc | apply pw_below_drewN | apply below_drew1 | refine below_set ?_ GE248.out | refine below_set ?_ GE254.out | refine below_set ?_ GE262.out) | exact HB.out)⟩
            · replace c48 := Bool.eq_false_iff.mpr c48
              subst c48
              have H1 : (some (!false)) = some r := by rw [if_neg (show ¬ (false = true) by decide)] at H; exact H
              clear H
              have H := H1
              clear H1
              obtain rfl := Option.some.inj H
              have hnb70 := NB248_254.out
              have hnc70 := NB254_248.out
              have hcz71_0 : wc.cell? ⟨gb248, 0, none⟩ = some (.int .i64 a0_0) := (blk_cell BK248.out 0).trans rfl
              have hcz71_1 : wc.cell? ⟨gb248, 1, none⟩ = some (.int .i64 a0_1) := (blk_cell BK248.out 1).trans rfl
              have hcz71_2 : wc.cell? ⟨gb248, 2, none⟩ = some (.int .i64 a0_2) := (blk_cell BK248.out 2).trans rfl
              have hcz71_3 : wc.cell? ⟨gb248, 3, none⟩ = some (.int .i64 a0_3) := (blk_cell BK248.out 3).trans rfl
              have hcz71_4 : wc.cell? ⟨gb248, 4, none⟩ = some (.int .i64 a0_4) := (blk_cell BK248.out 4).trans rfl
              have hcz71_5 : wc.cell? ⟨gb248, 5, none⟩ = some (.int .i64 a0_5) := (blk_cell BK248.out 5).trans rfl
              have hcz71_6 : wc.cell? ⟨gb248, 6, none⟩ = some (.int .i64 a0_6) := (blk_cell BK248.out 6).trans rfl
              have hcz71_7 : wc.cell? ⟨gb248, 7, none⟩ = some (.int .i64 a0_7) := (blk_cell BK248.out 7).trans rfl
              have hfz71_0 := blk_frozen BK248.out 0
              have hfz71_1 := blk_frozen BK248.out 1
              have hfz71_2 := blk_frozen BK248.out 2
              have hfz71_3 := blk_frozen BK248.out 3
              have hfz71_4 := blk_frozen BK248.out 4
              have hfz71_5 := blk_frozen BK248.out 5
              have hfz71_6 := blk_frozen BK248.out 6
              have hfz71_7 := blk_frozen BK248.out 7
              go_wp2_with (first | ((with_reducible refine gate_callee (f := 25) rfl ?_); refine goesL_ (some 77) rfl rfl Try.func25 (by kernel_rfl) rfl #[.agg #[.int .i64 a0_0, .int .i64 a0_1, .int .i64 a0_2, .int .i64 a0_3, .int .i64 a0_4, .int .i64 a0_5, .int .i64 a0_6, .int .i64 a0_7], .int .i64 a1, .int .i64 a3] rfl (by (try simp only [List.map_toArray, List.map_cons, List.map_nil]); first | done | rfl | (simp only [List.length_drop, List.length_take]; rfl)) ?_; (with_reducible refine (detmap_Which.calls kj6 a0_0 a0_1 a0_2 a0_3 a0_4 a0_5 a0_6 a0_7 a1 a3 t257 _ A44.out).mono ?_); rintro e w72 ⟨rfl, hb⟩; refine ⟨_, rfl, ?_⟩; have n0_ := Aside0.mk (blk_below (g := gb248) (o := .cells #[.int .i64 a0_0, .int .i64 a0_1, .int .i64 a0_2, .int .i64 a0_3, .int .i64 a0_4, .int .i64 a0_5, .int .i64 a0_6, .int .i64 a0_7] 25 (0, 0)) (by (with_reducible repeat (first | refine blk_drewN ?_ _ | refine blk_drew ?_ | refine blk_alloc ?_ _)); exact BK248.out) hb); have n1_ := Aside0.mk (blk_below (g := gb254) (o := .cells #[.int .i64 t250, .int .i64 t251, .int .i64 t252] 28 (0, 0)) (by (with_reducible repeat (first | refine blk_drewN ?_ _ | refine blk_drew ?_ | refine blk_alloc ?_ _)); exact BK254.out) hb); have n2_ := Aside0.mk (below_step (by repeat (first | (with_reducible first | exact HB.out | apply below_alloc | apply pw_below_drewN | apply below_drew1 | refine below_set ?_ GE248.out | refine below_set ?_ GE254.out) | exact HB.out)) hb); clear BK248; clear BK254; clear HB; have BK248 := n0_; have BK254 := n1_; have HB := n2_; clear n0_ n1_ n2_; (try clear hb); (try clear hb2); (try clear hk); (try clear hi); have hcz73_0 : w72.cell? ⟨gb248, 0, none⟩ = some (.int .i64 a0_0) := (blk_cell BK248.out 0).trans rfl; have hcz73_1 : w72.cell? ⟨gb248, 1, none⟩ = some (.int .i64 a0_1) := (blk_cell BK248.out 1).trans rfl; have hcz73_2 : w72.cell? ⟨gb248, 2, none⟩ = some (.int .i64 a0_2) := (blk_cell BK248.out 2).trans rfl; have hcz73_3 : w72.cell? ⟨gb248, 3, none⟩ = some (.int .i64 a0_3) := (blk_cell BK248.out 3).trans rfl; have hcz73_4 : w72.cell? ⟨gb248, 4, none⟩ = some (.int .i64 a0_4) := (blk_cell BK248.out 4).trans rfl; have hcz73_5 : w72.cell? ⟨gb248, 5, none⟩ = some (.int .i64 a0_5) := (blk_cell BK248.out 5).trans rfl; have hcz73_6 : w72.cell? ⟨gb248, 6, none⟩ = some (.int .i64 a0_6) := (blk_cell BK248.out 6).trans rfl; have hcz73_7 : w72.cell? ⟨gb248, 7, none⟩ = some (.int .i64 a0_7) := (blk_cell BK248.out 7).trans rfl; have hfz73_0 := blk_frozen BK248.out 0; have hfz73_1 := blk_frozen BK248.out 1; have hfz73_2 := blk_frozen BK248.out 2; have hfz73_3 := blk_frozen BK248.out 3; have hfz73_4 := blk_frozen BK248.out 4; have hfz73_5 := blk_frozen BK248.out 5; have hfz73_6 := blk_frozen BK248.out 6; have hfz73_7 := blk_frozen BK248.out 7) | ((with_reducible refine gate_callee (f := 13) rfl ?_); refine goesL_ (some 82) rfl rfl Try.func13 (by kernel_rfl) rfl #[.agg #[.int .i64 a0_0, .int .i64 a0_1, .int .i64 a0_2, .int .i64 a0_3, .int .i64 a0_4, .int .i64 a0_5, .int .i64 a0_6, .int .i64 a0_7], .int .i64 a1, .int .i64 t257] rfl (by (try simp only [List.map_toArray, List.map_cons, List.map_nil]); first | done | rfl | (simp only [List.length_drop, List.length_take]; rfl)) ?_; (with_reducible refine (detmap_Block.calls kj6 a0_0 a0_1 a0_2 a0_3 a0_4 a0_5 a0_6 a0_7 a1 t257 t258 t259 t260 t261 _ A45.out).mono ?_); rintro e w74 ⟨rfl, hb⟩; refine ⟨_, rfl, ?_⟩; have n0_ := Aside0.mk (blk_below (g := gb248) (o := .cells #[.int .i64 a0_0, .int .i64 a0_1, .int .i64 a0_2, .int .i64 a0_3, .int .i64 a0_4, .int .i64 a0_5, .int .i64 a0_6, .int .i64 a0_7] 25 (0, 0)) (by (with_reducible repeat (first | refine blk_drewN ?_ _ | refine blk_drew ?_ | refine blk_alloc ?_ _)); exact BK248.out) hb); have n1_ := Aside0.mk (blk_below (g := gb254) (o := .cells #[.int .i64 t250, .int .i64 t251, .int .i64 t252] 28 (0, 0)) (by (with_reducible repeat (first | refine blk_drewN ?_ _ | refine blk_drew ?_ | refine blk_alloc ?_ _)); exact BK254.out) hb); have n2_ := Aside0.mk (below_step (by repeat (first | (with_reducible first | exact HB.out | apply below_alloc | apply pw_below_drewN | apply below_drew1 | refine below_set ?_ GE248.out | refine below_set ?_ GE254.out) | exact HB.out)) hb); clear BK248; clear BK254; clear HB; have BK248 := n0_; have BK254 := n1_; have HB := n2_; clear n0_ n1_ n2_; (try clear hb); (try clear hb2); (try clear hk); (try clear hi)) | ((with_reducible refine gate_dst (N := 13) rfl ?_); refine box_event ?hg (N := 13) ?hd (cs := #[.int .i64 0, .int .i64 0, .int .i64 0]) (t := 28) ?hr ?_; (case hd => rfl); (case hg => rfl); (case hr => first | (go_simp; done) | (go_simp; rfl)); intro gb262 hg w75 hbox hb; have n0_ := Aside0.mk (blk_below (g := gb248) (o := .cells #[.int .i64 a0_0, .int .i64 a0_1, .int .i64 a0_2, .int .i64 a0_3, .int .i64 a0_4, .int .i64 a0_5, .int .i64 a0_6, .int .i64 a0_7] 25 (0, 0)) (by (with_reducible repeat (first | refine blk_drewN ?_ _ | refine blk_drew ?_ | refine blk_alloc ?_ _)); exact BK248.out) hb); have n1_ := Aside0.mk (blk_below (g := gb254) (o := .cells #[.int .i64 t250, .int .i64 t251, .int .i64 t252] 28 (0, 0)) (by (with_reducible repeat (first | refine blk_drewN ?_ _ | refine blk_drew ?_ | refine blk_alloc ?_ _)); exact BK254.out) hb); have n2_ := Aside0.mk (below_step (by repeat (first | (with_reducible first | exact HB.out | apply below_alloc | apply pw_below_drewN | apply below_drew1 | refine below_set ?_ GE248.out | refine below_set ?_ GE254.out) | exact HB.out)) hb); have n3_ := Aside0.mk (hbox); have n4_ := Aside0.mk ((by rw [hg]; exact (below_size (by repeat (first | (with_reducible first | exact HB.out | apply below_alloc | apply pw_below_drewN | apply below_drew1 | refine below_set ?_ GE248.out | refine below_set ?_ GE254.out) | exact HB.out))) : w.heap.size ≤ gb262)); have n5_ := Aside0.mk ((by rw [hg]; exact (below_size (by repeat (first | (with_reducible first | exact HB.out | apply below_alloc | apply pw_below_drewN | apply below_drew1 | refine below_set ?_ GE248.out | refine below_set ?_ GE254.out) | exact HB.out))) : w.heap.size ≤ gb262)); have n6_ := Aside0.mk ((by rw [hg]; exact Nat.ne_of_lt (blk_lt (g := gb248) (o := .cells #[.int .i64 a0_0, .int .i64 a0_1, .int .i64 a0_2, .int .i64 a0_3, .int .i64 a0_4, .int .i64 a0_5, .int .i64 a0_6, .int .i64 a0_7] 25 (0, 0)) (by (with_reducible repeat (first | refine blk_drewN ?_ _ | refine blk_drew ?_ | refine blk_alloc ?_ _)); exact BK248.out)) : gb248 ≠ gb262)); have n7_ := Aside0.mk ((by rw [hg]; exact Nat.ne_of_gt (blk_lt (g := gb248) (o := .cells #[.int .i64 a0_0, .int .i64 a0_1, .int .i64 a0_2, .int .i64 a0_3, .int .i64 a0_4, .int .i64 a0_5, .int .i64 a0_6, .int .i64 a0_7] 25 (0, 0)) (by (with_reducible repeat (first | refine blk_drewN ?_ _ | refine blk_drew ?_ | refine blk_alloc ?_ _)); exact BK248.out)) : gb262 ≠ gb248)); have n8_ := Aside0.mk ((by rw [hg]; exact Nat.ne_of_lt (blk_lt (g := gb254) (o := .cells #[.int .i64 t250, .int .i64 t251, .int .i64 t252] 28 (0, 0)) (by (with_reducible repeat (first | refine blk_drewN ?_ _ | refine blk_drew ?_ | refine blk_alloc ?_ _)); exact BK254.out)) : gb254 ≠ gb262)); have n9_ := Aside0.mk ((by rw [hg]; exact Nat.ne_of_gt (blk_lt (g := gb254) (o := .cells #[.int .i64 t250, .int .i64 t251, .int .i64 t252] 28 (0, 0)) (by (with_reducible repeat (first | refine blk_drewN ?_ _ | refine blk_drew ?_ | refine blk_alloc ?_ _)); exact BK254.out)) : gb262 ≠ gb254)); clear BK248; clear BK254; clear HB; have BK248 := n0_; have BK254 := n1_; have HB := n2_; have BK262 := n3_; have GW262 := n4_; have GE262 := n5_; have NB248_262 := n6_; have NB262_248 := n7_; have NB254_262 := n8_; have NB262_254 := n9_; clear n0_ n1_ n2_ n3_ n4_ n5_ n6_ n7_ n8_ n9_; clear hb hbox hg; have hnb76 := NB262_248.out; have hnc76 := NB248_262.out; have hnb77 := NB262_254.out; have hnc77 := NB254_262.out; have hcz78_0 : w75.cell? ⟨gb262, 0, none⟩ = some (.int .i64 0) := (blk_cell BK262.out 0).trans rfl; have hcz78_1 : w75.cell? ⟨gb262, 1, none⟩ = some (.int .i64 0) := (blk_cell BK262.out 1).trans rfl; have hcz78_2 : w75.cell? ⟨gb262, 2, none⟩ = some (.int .i64 0) := (blk_cell BK262.out 2).trans rfl; have hfz78_0 := blk_frozen BK262.out 0; have hfz78_1 := blk_frozen BK262.out 1; have hfz78_2 := blk_frozen BK262.out 2))
              go_ret
              exact ⟨by first | rfl | (simp [errW_none, errW_some] <;> rfl) | (simp [*, errW_none, errW_some] <;> rfl), by repeat (first | (with_reducible first | exact HB.out | apply below_alloc | apply pw_below_drewN | apply below_drew1 | refine below_set ?_ GE248.out | refine below_set ?_ GE254.out | refine below_set ?_ GE262.out) | exact HB.out)⟩
          · rw [if_neg c47] at H
            have c47b0 : (t257 == (-1)) = false := beq_eq_false_iff_ne.mpr c47
            have c47b1 : (t257 != (-1)) = true := bne_iff_ne.mpr c47
            obtain rfl := Option.some.inj H
            have hnb79 := NB248_254.out
            have hnc79 := NB254_248.out
            have hcz80_0 : wc.cell? ⟨gb248, 0, none⟩ = some (.int .i64 a0_0) := (blk_cell BK248.out 0).trans rfl
            have hcz80_1 : wc.cell? ⟨gb248, 1, none⟩ = some (.int .i64 a0_1) := (blk_cell BK248.out 1).trans rfl
            have hcz80_2 : wc.cell? ⟨gb248, 2, none⟩ = some (.int .i64 a0_2) := (blk_cell BK248.out 2).trans rfl
            have hcz80_3 : wc.cell? ⟨gb248, 3, none⟩ = some (.int .i64 a0_3) := (blk_cell BK248.out 3).trans rfl
            have hcz80_4 : wc.cell? ⟨gb248, 4, none⟩ = some (.int .i64 a0_4) := (blk_cell BK248.out 4).trans rfl
            have hcz80_5 : wc.cell? ⟨gb248, 5, none⟩ = some (.int .i64 a0_5) := (blk_cell BK248.out 5).trans rfl
            have hcz80_6 : wc.cell? ⟨gb248, 6, none⟩ = some (.int .i64 a0_6) := (blk_cell BK248.out 6).trans rfl
            have hcz80_7 : wc.cell? ⟨gb248, 7, none⟩ = some (.int .i64 a0_7) := (blk_cell BK248.out 7).trans rfl
            have hfz80_0 := blk_frozen BK248.out 0
            have hfz80_1 := blk_frozen BK248.out 1
            have hfz80_2 := blk_frozen BK248.out 2
            have hfz80_3 := blk_frozen BK248.out 3
            have hfz80_4 := blk_frozen BK248.out 4
            have hfz80_5 := blk_frozen BK248.out 5
            have hfz80_6 := blk_frozen BK248.out 6
            have hfz80_7 := blk_frozen BK248.out 7
            go_wp2_with (first | ((with_reducible refine gate_callee (f := 25) rfl ?_); refine goesL_ (some 77) rfl rfl Try.func25 (by kernel_rfl) rfl #[.agg #[.int .i64 a0_0, .int .i64 a0_1, .int .i64 a0_2, .int .i64 a0_3, .int .i64 a0_4, .int .i64 a0_5, .int .i64 a0_6, .int .i64 a0_7], .int .i64 a1, .int .i64 a3] rfl (by (try simp only [List.map_toArray, List.map_cons, List.map_nil]); first | done | rfl | (simp only [List.length_drop, List.length_take]; rfl)) ?_; (with_reducible refine (detmap_Which.calls kj6 a0_0 a0_1 a0_2 a0_3 a0_4 a0_5 a0_6 a0_7 a1 a3 t257 _ A44.out).mono ?_); rintro e w81 ⟨rfl, hb⟩; refine ⟨_, rfl, ?_⟩; have n0_ := Aside0.mk (blk_below (g := gb248) (o := .cells #[.int .i64 a0_0, .int .i64 a0_1, .int .i64 a0_2, .int .i64 a0_3, .int .i64 a0_4, .int .i64 a0_5, .int .i64 a0_6, .int .i64 a0_7] 25 (0, 0)) (by (with_reducible repeat (first | refine blk_drewN ?_ _ | refine blk_drew ?_ | refine blk_alloc ?_ _)); exact BK248.out) hb); have n1_ := Aside0.mk (blk_below (g := gb254) (o := .cells #[.int .i64 t250, .int .i64 t251, .int .i64 t252] 28 (0, 0)) (by (with_reducible repeat (first | refine blk_drewN ?_ _ | refine blk_drew ?_ | refine blk_alloc ?_ _)); exact BK254.out) hb); have n2_ := Aside0.mk (below_step (by repeat (first | (with_reducible first | exact HB.out | apply below_alloc | apply pw_below_drewN | apply below_drew1 | refine below_set ?_ GE248.out | refine below_set ?_ GE254.out) | exact HB.out)) hb); clear BK248; clear BK254; clear HB; have BK248 := n0_; have BK254 := n1_; have HB := n2_; clear n0_ n1_ n2_; (try clear hb); (try clear hb2); (try clear hk); (try clear hi); have hcz82_0 : w81.cell? ⟨gb248, 0, none⟩ = some (.int .i64 a0_0) := (blk_cell BK248.out 0).trans rfl; have hcz82_1 : w81.cell? ⟨gb248, 1, none⟩ = some (.int .i64 a0_1) := (blk_cell BK248.out 1).trans rfl; have hcz82_2 : w81.cell? ⟨gb248, 2, none⟩ = some (.int .i64 a0_2) := (blk_cell BK248.out 2).trans rfl; have hcz82_3 : w81.cell? ⟨gb248, 3, none⟩ = some (.int .i64 a0_3) := (blk_cell BK248.out 3).trans rfl; have hcz82_4 : w81.cell? ⟨gb248, 4, none⟩ = some (.int .i64 a0_4) := (blk_cell BK248.out 4).trans rfl; have hcz82_5 : w81.cell? ⟨gb248, 5, none⟩ = some (.int .i64 a0_5) := (blk_cell BK248.out 5).trans rfl; have hcz82_6 : w81.cell? ⟨gb248, 6, none⟩ = some (.int .i64 a0_6) := (blk_cell BK248.out 6).trans rfl; have hcz82_7 : w81.cell? ⟨gb248, 7, none⟩ = some (.int .i64 a0_7) := (blk_cell BK248.out 7).trans rfl; have hfz82_0 := blk_frozen BK248.out 0; have hfz82_1 := blk_frozen BK248.out 1; have hfz82_2 := blk_frozen BK248.out 2; have hfz82_3 := blk_frozen BK248.out 3; have hfz82_4 := blk_frozen BK248.out 4; have hfz82_5 := blk_frozen BK248.out 5; have hfz82_6 := blk_frozen BK248.out 6; have hfz82_7 := blk_frozen BK248.out 7) | ((with_reducible refine gate_callee (f := 13) rfl ?_); refine goesL_ (some 82) rfl rfl Try.func13 (by kernel_rfl) rfl #[.agg #[.int .i64 a0_0, .int .i64 a0_1, .int .i64 a0_2, .int .i64 a0_3, .int .i64 a0_4, .int .i64 a0_5, .int .i64 a0_6, .int .i64 a0_7], .int .i64 a1, .int .i64 t257] rfl (by (try simp only [List.map_toArray, List.map_cons, List.map_nil]); first | done | rfl | (simp only [List.length_drop, List.length_take]; rfl)) ?_; (with_reducible refine (detmap_Block.calls kj6 a0_0 a0_1 a0_2 a0_3 a0_4 a0_5 a0_6 a0_7 a1 t257 t258 t259 t260 t261 _ A45.out).mono ?_); rintro e w83 ⟨rfl, hb⟩; refine ⟨_, rfl, ?_⟩; have n0_ := Aside0.mk (blk_below (g := gb248) (o := .cells #[.int .i64 a0_0, .int .i64 a0_1, .int .i64 a0_2, .int .i64 a0_3, .int .i64 a0_4, .int .i64 a0_5, .int .i64 a0_6, .int .i64 a0_7] 25 (0, 0)) (by (with_reducible repeat (first | refine blk_drewN ?_ _ | refine blk_drew ?_ | refine blk_alloc ?_ _)); exact BK248.out) hb); have n1_ := Aside0.mk (blk_below (g := gb254) (o := .cells #[.int .i64 t250, .int .i64 t251, .int .i64 t252] 28 (0, 0)) (by (with_reducible repeat (first | refine blk_drewN ?_ _ | refine blk_drew ?_ | refine blk_alloc ?_ _)); exact BK254.out) hb); have n2_ := Aside0.mk (below_step (by repeat (first | (with_reducible first | exact HB.out | apply below_alloc | apply pw_below_drewN | apply below_drew1 | refine below_set ?_ GE248.out | refine below_set ?_ GE254.out) | exact HB.out)) hb); clear BK248; clear BK254; clear HB; have BK248 := n0_; have BK254 := n1_; have HB := n2_; clear n0_ n1_ n2_; (try clear hb); (try clear hb2); (try clear hk); (try clear hi)) | ((with_reducible refine gate_dst (N := 13) rfl ?_); refine box_event ?hg (N := 13) ?hd (cs := #[.int .i64 0, .int .i64 0, .int .i64 0]) (t := 28) ?hr ?_; (case hd => rfl); (case hg => rfl); (case hr => first | (go_simp; done) | (go_simp; rfl)); intro gb262 hg w84 hbox hb; have n0_ := Aside0.mk (blk_below (g := gb248) (o := .cells #[.int .i64 a0_0, .int .i64 a0_1, .int .i64 a0_2, .int .i64 a0_3, .int .i64 a0_4, .int .i64 a0_5, .int .i64 a0_6, .int .i64 a0_7] 25 (0, 0)) (by (with_reducible repeat (first | refine blk_drewN ?_ _ | refine blk_drew ?_ | refine blk_alloc ?_ _)); exact BK248.out) hb); have n1_ := Aside0.mk (blk_below (g := gb254) (o := .cells #[.int .i64 t250, .int .i64 t251, .int .i64 t252] 28 (0, 0)) (by (with_reducible repeat (first | refine blk_drewN ?_ _ | refine blk_drew ?_ | refine blk_alloc ?_ _)); exact BK254.out) hb); have n2_ := Aside0.mk (below_step (by repeat (first | (with_reducible first | exact HB.out | apply below_alloc | apply pw_below_drewN | apply below_drew1 | refine below_set ?_ GE248.out | refine below_set ?_ GE254.out) | exact HB.out)) hb); have n3_ := Aside0.mk (hbox); have n4_ := Aside0.mk ((by rw [hg]; exact (below_size (by repeat (first | (with_reducible first | exact HB.out | apply below_alloc | apply pw_below_drewN | apply below_drew1 | refine below_set ?_ GE248.out | refine below_set ?_ GE254.out) | exact HB.out))) : w.heap.size ≤ gb262)); have n5_ := Aside0.mk ((by rw [hg]; exact (below_size (by repeat (first | (with_reducible first | exact HB.out | apply below_alloc | apply pw_below_drewN | apply below_drew1 | refine below_set ?_ GE248.out | refine below_set ?_ GE254.out) | exact HB.out))) : w.heap.size ≤ gb262)); have n6_ := Aside0.mk ((by rw [hg]; exact Nat.ne_of_lt (blk_lt (g := gb248) (o := .cells #[.int .i64 a0_0, .int .i64 a0_1, .int .i64 a0_2, .int .i64 a0_3, .int .i64 a0_4, .int .i64 a0_5, .int .i64 a0_6, .int .i64 a0_7] 25 (0, 0)) (by (with_reducible repeat (first | refine blk_drewN ?_ _ | refine blk_drew ?_ | refine blk_alloc ?_ _)); exact BK248.out)) : gb248 ≠ gb262)); have n7_ := Aside0.mk ((by rw [hg]; exact Nat.ne_of_gt (blk_lt (g := gb248) (o := .cells #[.int .i64 a0_0, .int .i64 a0_1, .int .i64 a0_2, .int .i64 a0_3, .int .i64 a0_4, .int .i64 a0_5, .int .i64 a0_6, .int .i64 a0_7] 25 (0, 0)) (by (with_reducible repeat (first | refine blk_drewN ?_ _ | refine blk_drew ?_ | refine blk_alloc ?_ _)); exact BK248.out)) : gb262 ≠ gb248)); have n8_ := Aside0.mk ((by rw [hg]; exact Nat.ne_of_lt (blk_lt (g := gb254) (o := .cells #[.int .i64 t250, .int .i64 t251, .int .i64 t252] 28 (0, 0)) (by (with_reducible repeat (first | refine blk_drewN ?_ _ | refine blk_drew ?_ | refine blk_alloc ?_ _)); exact BK254.out)) : gb254 ≠ gb262)); have n9_ := Aside0.mk ((by rw [hg]; exact Nat.ne_of_gt (blk_lt (g := gb254) (o := .cells #[.int .i64 t250, .int .i64 t251, .int .i64 t252] 28 (0, 0)) (by (with_reducible repeat (first | refine blk_drewN ?_ _ | refine blk_drew ?_ | refine blk_alloc ?_ _)); exact BK254.out)) : gb262 ≠ gb254)); clear BK248; clear BK254; clear HB; have BK248 := n0_; have BK254 := n1_; have HB := n2_; have BK262 := n3_; have GW262 := n4_; have GE262 := n5_; have NB248_262 := n6_; have NB262_248 := n7_; have NB254_262 := n8_; have NB262_254 := n9_; clear n0_ n1_ n2_ n3_ n4_ n5_ n6_ n7_ n8_ n9_; clear hb hbox hg; have hnb85 := NB262_248.out; have hnc85 := NB248_262.out; have hnb86 := NB262_254.out; have hnc86 := NB254_262.out; have hcz87_0 : w84.cell? ⟨gb262, 0, none⟩ = some (.int .i64 0) := (blk_cell BK262.out 0).trans rfl; have hcz87_1 : w84.cell? ⟨gb262, 1, none⟩ = some (.int .i64 0) := (blk_cell BK262.out 1).trans rfl; have hcz87_2 : w84.cell? ⟨gb262, 2, none⟩ = some (.int .i64 0) := (blk_cell BK262.out 2).trans rfl; have hfz87_0 := blk_frozen BK262.out 0; have hfz87_1 := blk_frozen BK262.out 1; have hfz87_2 := blk_frozen BK262.out 2))
            go_ret
            exact ⟨by first | rfl | (simp [errW_none, errW_some] <;> rfl) | (simp [*, errW_none, errW_some] <;> rfl), by repeat (first | (with_reducible first | exact HB.out | apply below_alloc | apply pw_below_drewN | apply below_drew1 | refine below_set ?_ GE248.out | refine below_set ?_ GE254.out | refine below_set ?_ GE262.out) | exact HB.out)⟩
        · rw [if_neg c46] at H
          have c46b0 : decide (t257 < 0) = false := decide_eq_false c46
          clear c46
          by_cases c88 : t261 = true
          · subst c88
            have H1 : (if a3 ≥ t259 then (if a3 ≤ t260 then ((detmap_Blocks.f a0_0 a0_1 a0_2 a0_3 a0_4 a0_5 a0_6 a0_7).bind fun t263 => (some (decide (t257 < t263)))) else (some false)) else (some false)) = some r := by rw [if_pos rfl] at H; exact H
            clear H
            have H := H1
            clear H1
            by_cases c89 : a3 ≥ t259
            · rw [if_pos c89] at H
              have c89b0 : decide (t259 ≤ a3) = true := decide_eq_true c89
              clear c89
              by_cases c90 : a3 ≤ t260
              · rw [if_pos c90] at H
                have c90b0 : decide (a3 ≤ t260) = true := decide_eq_true c90
                clear c90
                replace H := Option.bind_eq_some_iff.mp H
                obtain ⟨t263, A910, H⟩ := H
                replace H : (some (decide (t257 < t263))) = some r := H
                have A91 := Aside0.mk A910
                clear A910
                obtain rfl := Option.some.inj H
                have hnb92 := NB248_254.out
                have hnc92 := NB254_248.out
                have hcz93_0 : wc.cell? ⟨gb248, 0, none⟩ = some (.int .i64 a0_0) := (blk_cell BK248.out 0).trans rfl
                have hcz93_1 : wc.cell? ⟨gb248, 1, none⟩ = some (.int .i64 a0_1) := (blk_cell BK248.out 1).trans rfl
                have hcz93_2 : wc.cell? ⟨gb248, 2, none⟩ = some (.int .i64 a0_2) := (blk_cell BK248.out 2).trans rfl
                have hcz93_3 : wc.cell? ⟨gb248, 3, none⟩ = some (.int .i64 a0_3) := (blk_cell BK248.out 3).trans rfl
                have hcz93_4 : wc.cell? ⟨gb248, 4, none⟩ = some (.int .i64 a0_4) := (blk_cell BK248.out 4).trans rfl
                have hcz93_5 : wc.cell? ⟨gb248, 5, none⟩ = some (.int .i64 a0_5) := (blk_cell BK248.out 5).trans rfl
                have hcz93_6 : wc.cell? ⟨gb248, 6, none⟩ = some (.int .i64 a0_6) := (blk_cell BK248.out 6).trans rfl
                have hcz93_7 : wc.cell? ⟨gb248, 7, none⟩ = some (.int .i64 a0_7) := (blk_cell BK248.out 7).trans rfl
                have hfz93_0 := blk_frozen BK248.out 0
                have hfz93_1 := blk_frozen BK248.out 1
                have hfz93_2 := blk_frozen BK248.out 2
                have hfz93_3 := blk_frozen BK248.out 3
                have hfz93_4 := blk_frozen BK248.out 4
                have hfz93_5 := blk_frozen BK248.out 5
                have hfz93_6 := blk_frozen BK248.out 6
                have hfz93_7 := blk_frozen BK248.out 7
                go_wp2_with (first | ((with_reducible refine gate_callee (f := 25) rfl ?_); refine goesL_ (some 77) rfl rfl Try.func25 (by kernel_rfl) rfl #[.agg #[.int .i64 a0_0, .int .i64 a0_1, .int .i64 a0_2, .int .i64 a0_3, .int .i64 a0_4, .int .i64 a0_5, .int .i64 a0_6, .int .i64 a0_7], .int .i64 a1, .int .i64 a3] rfl (by (try simp only [List.map_toArray, List.map_cons, List.map_nil]); first | done | rfl | (simp only [List.length_drop, List.length_take]; rfl)) ?_; (with_reducible refine (detmap_Which.calls kj6 a0_0 a0_1 a0_2 a0_3 a0_4 a0_5 a0_6 a0_7 a1 a3 t257 _ A44.out).mono ?_); rintro e w94 ⟨rfl, hb⟩; refine ⟨_, rfl, ?_⟩; have n0_ := Aside0.mk (blk_below (g := gb248) (o := .cells #[.int .i64 a0_0, .int .i64 a0_1, .int .i64 a0_2, .int .i64 a0_3, .int .i64 a0_4, .int .i64 a0_5, .int .i64 a0_6, .int .i64 a0_7] 25 (0, 0)) (by (with_reducible repeat (first | refine blk_drewN ?_ _ | refine blk_drew ?_ | refine blk_alloc ?_ _)); exact BK248.out) hb); have n1_ := Aside0.mk (blk_below (g := gb254) (o := .cells #[.int .i64 t250, .int .i64 t251, .int .i64 t252] 28 (0, 0)) (by (with_reducible repeat (first | refine blk_drewN ?_ _ | refine blk_drew ?_ | refine blk_alloc ?_ _)); exact BK254.out) hb); have n2_ := Aside0.mk (below_step (by repeat (first | (with_reducible first | exact HB.out | apply below_alloc | apply pw_below_drewN | apply below_drew1 | refine below_set ?_ GE248.out | refine below_set ?_ GE254.out) | exact HB.out)) hb); clear BK248; clear BK254; clear HB; have BK248 := n0_; have BK254 := n1_; have HB := n2_; clear n0_ n1_ n2_; (try clear hb); (try clear hb2); (try clear hk); (try clear hi); have hcz95_0 : w94.cell? ⟨gb248, 0, none⟩ = some (.int .i64 a0_0) := (blk_cell BK248.out 0).trans rfl; have hcz95_1 : w94.cell? ⟨gb248, 1, none⟩ = some (.int .i64 a0_1) := (blk_cell BK248.out 1).trans rfl; have hcz95_2 : w94.cell? ⟨gb248, 2, none⟩ = some (.int .i64 a0_2) := (blk_cell BK248.out 2).trans rfl; have hcz95_3 : w94.cell? ⟨gb248, 3, none⟩ = some (.int .i64 a0_3) := (blk_cell BK248.out 3).trans rfl; have hcz95_4 : w94.cell? ⟨gb248, 4, none⟩ = some (.int .i64 a0_4) := (blk_cell BK248.out 4).trans rfl; have hcz95_5 : w94.cell? ⟨gb248, 5, none⟩ = some (.int .i64 a0_5) := (blk_cell BK248.out 5).trans rfl; have hcz95_6 : w94.cell? ⟨gb248, 6, none⟩ = some (.int .i64 a0_6) := (blk_cell BK248.out 6).trans rfl; have hcz95_7 : w94.cell? ⟨gb248, 7, none⟩ = some (.int .i64 a0_7) := (blk_cell BK248.out 7).trans rfl; have hfz95_0 := blk_frozen BK248.out 0; have hfz95_1 := blk_frozen BK248.out 1; have hfz95_2 := blk_frozen BK248.out 2; have hfz95_3 := blk_frozen BK248.out 3; have hfz95_4 := blk_frozen BK248.out 4; have hfz95_5 := blk_frozen BK248.out 5; have hfz95_6 := blk_frozen BK248.out 6; have hfz95_7 := blk_frozen BK248.out 7) | ((with_reducible refine gate_callee (f := 13) rfl ?_); refine goesL_ (some 82) rfl rfl Try.func13 (by kernel_rfl) rfl #[.agg #[.int .i64 a0_0, .int .i64 a0_1, .int .i64 a0_2, .int .i64 a0_3, .int .i64 a0_4, .int .i64 a0_5, .int .i64 a0_6, .int .i64 a0_7], .int .i64 a1, .int .i64 t257] rfl (by (try simp only [List.map_toArray, List.map_cons, List.map_nil]); first | done | rfl | (simp only [List.length_drop, List.length_take]; rfl)) ?_; (with_reducible refine (detmap_Block.calls kj6 a0_0 a0_1 a0_2 a0_3 a0_4 a0_5 a0_6 a0_7 a1 t257 t258 t259 t260 true _ A45.out).mono ?_); rintro e w96 ⟨rfl, hb⟩; refine ⟨_, rfl, ?_⟩; have n0_ := Aside0.mk (blk_below (g := gb248) (o := .cells #[.int .i64 a0_0, .int .i64 a0_1, .int .i64 a0_2, .int .i64 a0_3, .int .i64 a0_4, .int .i64 a0_5, .int .i64 a0_6, .int .i64 a0_7] 25 (0, 0)) (by (with_reducible repeat (first | refine blk_drewN ?_ _ | refine blk_drew ?_ | refine blk_alloc ?_ _)); exact BK248.out) hb); have n1_ := Aside0.mk (blk_below (g := gb254) (o := .cells #[.int .i64 t250, .int .i64 t251, .int .i64 t252] 28 (0, 0)) (by (with_reducible repeat (first | refine blk_drewN ?_ _ | refine blk_drew ?_ | refine blk_alloc ?_ _)); exact BK254.out) hb); have n2_ := Aside0.mk (below_step (by repeat (first | (with_reducible first | exact HB.out | apply below_alloc | apply pw_below_drewN | apply below_drew1 | refine below_set ?_ GE248.out | refine below_set ?_ GE254.out) | exact HB.out)) hb); clear BK248; clear BK254; clear HB; have BK248 := n0_; have BK254 := n1_; have HB := n2_; clear n0_ n1_ n2_; (try clear hb); (try clear hb2); (try clear hk); (try clear hi)) | ((with_reducible refine gate_dst (N := 13) rfl ?_); refine box_event ?hg (N := 13) ?hd (cs := #[.int .i64 0, .int .i64 0, .int .i64 0]) (t := 28) ?hr ?_; (case hd => rfl); (case hg => rfl); (case hr => first | (go_simp; done) | (go_simp; rfl)); intro gb262 hg w97 hbox hb; have n0_ := Aside0.mk (blk_below (g := gb248) (o := .cells #[.int .i64 a0_0, .int .i64 a0_1, .int .i64 a0_2, .int .i64 a0_3, .int .i64 a0_4, .int .i64 a0_5, .int .i64 a0_6, .int .i64 a0_7] 25 (0, 0)) (by (with_reducible repeat (first | refine blk_drewN ?_ _ | refine blk_drew ?_ | refine blk_alloc ?_ _)); exact BK248.out) hb); have n1_ := Aside0.mk (blk_below (g := gb254) (o := .cells #[.int .i64 t250, .int .i64 t251, .int .i64 t252] 28 (0, 0)) (by (with_reducible repeat (first | refine blk_drewN ?_ _ | refine blk_drew ?_ | refine blk_alloc ?_ _)); exact BK254.out) hb); have n2_ := Aside0.mk (below_step (by repeat (first | (with_reducible first | exact HB.out | apply below_alloc | apply pw_below_drewN | apply below_drew1 | refine below_set ?_ GE248.out | refine below_set ?_ GE254.out) | exact HB.out)) hb); have n3_ := Aside0.mk (hbox); have n4_ := Aside0.mk ((by rw [hg]; exact (below_size (by repeat (first | (with_reducible first | exact HB.out | apply below_alloc | apply pw_below_drewN | apply below_drew1 | refine below_set ?_ GE248.out | refine below_set ?_ GE254.out) | exact HB.out))) : w.heap.size ≤ gb262)); have n5_ := Aside0.mk ((by rw [hg]; exact (below_size (by repeat (first | (with_reducible first | exact HB.out | apply below_alloc | apply pw_below_drewN | apply below_drew1 | refine below_set ?_ GE248.out | refine below_set ?_ GE254.out) | exact HB.out))) : w.heap.size ≤ gb262)); have n6_ := Aside0.mk ((by rw [hg]; exact Nat.ne_of_lt (blk_lt (g := gb248) (o := .cells #[.int .i64 a0_0, .int .i64 a0_1, .int .i64 a0_2, .int .i64 a0_3, .int .i64 a0_4, .int .i64 a0_5, .int .i64 a0_6, .int .i64 a0_7] 25 (0, 0)) (by (with_reducible repeat (first | refine blk_drewN ?_ _ | refine blk_drew ?_ | refine blk_alloc ?_ _)); exact BK248.out)) : gb248 ≠ gb262)); have n7_ := Aside0.mk ((by rw [hg]; exact Nat.ne_of_gt (blk_lt (g := gb248) (o := .cells #[.int .i64 a0_0, .int .i64 a0_1, .int .i64 a0_2, .int .i64 a0_3, .int .i64 a0_4, .int .i64 a0_5, .int .i64 a0_6, .int .i64 a0_7] 25 (0, 0)) (by (with_reducible repeat (first | refine blk_drewN ?_ _ | refine blk_drew ?_ | refine blk_alloc ?_ _)); exact BK248.out)) : gb262 ≠ gb248)); have n8_ := Aside0.mk ((by rw [hg]; exact Nat.ne_of_lt (blk_lt (g := gb254) (o := .cells #[.int .i64 t250, .int .i64 t251, .int .i64 t252] 28 (0, 0)) (by (with_reducible repeat (first | refine blk_drewN ?_ _ | refine blk_drew ?_ | refine blk_alloc ?_ _)); exact BK254.out)) : gb254 ≠ gb262)); have n9_ := Aside0.mk ((by rw [hg]; exact Nat.ne_of_gt (blk_lt (g := gb254) (o := .cells #[.int .i64 t250, .int .i64 t251, .int .i64 t252] 28 (0, 0)) (by (with_reducible repeat (first | refine blk_drewN ?_ _ | refine blk_drew ?_ | refine blk_alloc ?_ _)); exact BK254.out)) : gb262 ≠ gb254)); clear BK248; clear BK254; clear HB; have BK248 := n0_; have BK254 := n1_; have HB := n2_; have BK262 := n3_; have GW262 := n4_; have GE262 := n5_; have NB248_262 := n6_; have NB262_248 := n7_; have NB254_262 := n8_; have NB262_254 := n9_; clear n0_ n1_ n2_ n3_ n4_ n5_ n6_ n7_ n8_ n9_; clear hb hbox hg; have hnb98 := NB262_248.out; have hnc98 := NB248_262.out; have hnb99 := NB262_254.out; have hnc99 := NB254_262.out; have hcz100_0 : w97.cell? ⟨gb262, 0, none⟩ = some (.int .i64 0) := (blk_cell BK262.out 0).trans rfl; have hcz100_1 : w97.cell? ⟨gb262, 1, none⟩ = some (.int .i64 0) := (blk_cell BK262.out 1).trans rfl; have hcz100_2 : w97.cell? ⟨gb262, 2, none⟩ = some (.int .i64 0) := (blk_cell BK262.out 2).trans rfl; have hfz100_0 := blk_frozen BK262.out 0; have hfz100_1 := blk_frozen BK262.out 1; have hfz100_2 := blk_frozen BK262.out 2; have hcz101_0 : w97.cell? ⟨gb248, 0, none⟩ = some (.int .i64 a0_0) := (blk_cell BK248.out 0).trans rfl; have hcz101_1 : w97.cell? ⟨gb248, 1, none⟩ = some (.int .i64 a0_1) := (blk_cell BK248.out 1).trans rfl; have hcz101_2 : w97.cell? ⟨gb248, 2, none⟩ = some (.int .i64 a0_2) := (blk_cell BK248.out 2).trans rfl; have hcz101_3 : w97.cell? ⟨gb248, 3, none⟩ = some (.int .i64 a0_3) := (blk_cell BK248.out 3).trans rfl; have hcz101_4 : w97.cell? ⟨gb248, 4, none⟩ = some (.int .i64 a0_4) := (blk_cell BK248.out 4).trans rfl; have hcz101_5 : w97.cell? ⟨gb248, 5, none⟩ = some (.int .i64 a0_5) := (blk_cell BK248.out 5).trans rfl; have hcz101_6 : w97.cell? ⟨gb248, 6, none⟩ = some (.int .i64 a0_6) := (blk_cell BK248.out 6).trans rfl; have hcz101_7 : w97.cell? ⟨gb248, 7, none⟩ = some (.int .i64 a0_7) := (blk_cell BK248.out 7).trans rfl; have hfz101_0 := blk_frozen BK248.out 0; have hfz101_1 := blk_frozen BK248.out 1; have hfz101_2 := blk_frozen BK248.out 2; have hfz101_3 := blk_frozen BK248.out 3; have hfz101_4 := blk_frozen BK248.out 4; have hfz101_5 := blk_frozen BK248.out 5; have hfz101_6 := blk_frozen BK248.out 6; have hfz101_7 := blk_frozen BK248.out 7) | (go_at_call 23; (with_reducible refine (detmap_Blocks.calls a0_0 a0_1 a0_2 a0_3 a0_4 a0_5 a0_6 a0_7 t263 _ A91.out).mono ?_); rintro e w102 ⟨rfl, hb⟩; have n0_ := Aside0.mk (blk_below (g := gb248) (o := .cells #[.int .i64 a0_0, .int .i64 a0_1, .int .i64 a0_2, .int .i64 a0_3, .int .i64 a0_4, .int .i64 a0_5, .int .i64 a0_6, .int .i64 a0_7] 25 (0, 0)) (by (with_reducible repeat (first | refine blk_drewN ?_ _ | refine blk_drew ?_ | refine blk_alloc ?_ _)); refine blk_far ?_ NB248_262.out _; (with_reducible repeat (first | refine blk_drewN ?_ _ | refine blk_drew ?_ | refine blk_alloc ?_ _)); refine blk_far ?_ NB248_262.out _; (with_reducible repeat (first | refine blk_drewN ?_ _ | refine blk_drew ?_ | refine blk_alloc ?_ _)); refine blk_far ?_ NB248_262.out _; (with_reducible repeat (first | refine blk_drewN ?_ _ | refine blk_drew ?_ | refine blk_alloc ?_ _)); exact BK248.out) hb); have n1_ := Aside0.mk (blk_below (g := gb254) (o := .cells #[.int .i64 t250, .int .i64 t251, .int .i64 t252] 28 (0, 0)) (by (with_reducible repeat (first | refine blk_drewN ?_ _ | refine blk_drew ?_ | refine blk_alloc ?_ _)); refine blk_far ?_ NB254_262.out _; (with_reducible repeat (first | refine blk_drewN ?_ _ | refine blk_drew ?_ | refine blk_alloc ?_ _)); refine blk_far ?_ NB254_262.out _; (with_reducible repeat (first | refine blk_drewN ?_ _ | refine blk_drew ?_ | refine blk_alloc ?_ _)); refine blk_far ?_ NB254_262.out _; (with_reducible repeat (first | refine blk_drewN ?_ _ | refine blk_drew ?_ | refine blk_alloc ?_ _)); exact BK254.out) hb); have n2_ := Aside0.mk (blk_below (g := gb262) (o := .cells #[.int .i64 t258, .int .i64 t259, .int .i64 t260] 28 (0, 0)) (by (with_reducible repeat (first | refine blk_drewN ?_ _ | refine blk_drew ?_ | refine blk_alloc ?_ _)); refine blk_put (cs := #[.int .i64 t258, .int .i64 t259, .int .i64 0]) ?_ 2 _ rfl; (with_reducible repeat (first | refine blk_drewN ?_ _ | refine blk_drew ?_ | refine blk_alloc ?_ _)); refine blk_put (cs := #[.int .i64 t258, .int .i64 0, .int .i64 0]) ?_ 1 _ rfl; (with_reducible repeat (first | refine blk_drewN ?_ _ | refine blk_drew ?_ | refine blk_alloc ?_ _)); refine blk_put (cs := #[.int .i64 0, .int .i64 0, .int .i64 0]) ?_ 0 _ rfl; (with_reducible repeat (first | refine blk_drewN ?_ _ | refine blk_drew ?_ | refine blk_alloc ?_ _)); exact BK262.out) hb); have n3_ := Aside0.mk (below_step (by repeat (first | (with_reducible first | exact HB.out | apply below_alloc | apply pw_below_drewN | apply below_drew1 | refine below_set ?_ GE248.out | refine below_set ?_ GE254.out | refine below_set ?_ GE262.out) | exact HB.out)) hb); clear BK248; clear BK254; clear BK262; clear HB; have BK248 := n0_; have BK254 := n1_; have BK262 := n2_; have HB := n3_; clear n0_ n1_ n2_ n3_; (try clear hb); (try clear hb2); (try clear hk); (try clear hi)))
                go_ret
                exact ⟨by first | rfl | (simp [errW_none, errW_some] <;> rfl) | (simp [*, errW_none, errW_some] <;> rfl), by repeat (first | (with_reducible first | exact HB.out | apply below_alloc | apply pw_below_drewN | apply below_drew1 | refine below_set ?_ GE248.out | refine below_set ?_ GE254.out | refine below_set ?_ GE262.out) | exact HB.out)⟩
              · rw [if_neg c90] at H
                have c90b0 : decide (a3 ≤ t260) = false := decide_eq_false c90
                clear c90
                obtain rfl := Option.some.inj H
                have hnb103 := NB248_254.out
                have hnc103 := NB254_248.out
                have hcz104_0 : wc.cell? ⟨gb248, 0, none⟩ = some (.int .i64 a0_0) := (blk_cell BK248.out 0).trans rfl
                have hcz104_1 : wc.cell? ⟨gb248, 1, none⟩ = some (.int .i64 a0_1) := (blk_cell BK248.out 1).trans rfl
                have hcz104_2 : wc.cell? ⟨gb248, 2, none⟩ = some (.int .i64 a0_2) := (blk_cell BK248.out 2).trans rfl
                have hcz104_3 : wc.cell? ⟨gb248, 3, none⟩ = some (.int .i64 a0_3) := (blk_cell BK248.out 3).trans rfl
                have hcz104_4 : wc.cell? ⟨gb248, 4, none⟩ = some (.int .i64 a0_4) := (blk_cell BK248.out 4).trans rfl
                have hcz104_5 : wc.cell? ⟨gb248, 5, none⟩ = some (.int .i64 a0_5) := (blk_cell BK248.out 5).trans rfl
                have hcz104_6 : wc.cell? ⟨gb248, 6, none⟩ = some (.int .i64 a0_6) := (blk_cell BK248.out 6).trans rfl
                have hcz104_7 : wc.cell? ⟨gb248, 7, none⟩ = some (.int .i64 a0_7) := (blk_cell BK248.out 7).trans rfl
                have hfz104_0 := blk_frozen BK248.out 0
                have hfz104_1 := blk_frozen BK248.out 1
                have hfz104_2 := blk_frozen BK248.out 2
                have hfz104_3 := blk_frozen BK248.out 3
                have hfz104_4 := blk_frozen BK248.out 4
                have hfz104_5 := blk_frozen BK248.out 5
                have hfz104_6 := blk_frozen BK248.out 6
                have hfz104_7 := blk_frozen BK248.out 7
                go_wp2_with (first | ((with_reducible refine gate_callee (f := 25) rfl ?_); refine goesL_ (some 77) rfl rfl Try.func25 (by kernel_rfl) rfl #[.agg #[.int .i64 a0_0, .int .i64 a0_1, .int .i64 a0_2, .int .i64 a0_3, .int .i64 a0_4, .int .i64 a0_5, .int .i64 a0_6, .int .i64 a0_7], .int .i64 a1, .int .i64 a3] rfl (by (try simp only [List.map_toArray, List.map_cons, List.map_nil]); first | done | rfl | (simp only [List.length_drop, List.length_take]; rfl)) ?_; (with_reducible refine (detmap_Which.calls kj6 a0_0 a0_1 a0_2 a0_3 a0_4 a0_5 a0_6 a0_7 a1 a3 t257 _ A44.out).mono ?_); rintro e w105 ⟨rfl, hb⟩; refine ⟨_, rfl, ?_⟩; have n0_ := Aside0.mk (blk_below (g := gb248) (o := .cells #[.int .i64 a0_0, .int .i64 a0_1, .int .i64 a0_2, .int .i64 a0_3, .int .i64 a0_4, .int .i64 a0_5, .int .i64 a0_6, .int .i64 a0_7] 25 (0, 0)) (by (with_reducible repeat (first | refine blk_drewN ?_ _ | refine blk_drew ?_ | refine blk_alloc ?_ _)); exact BK248.out) hb); have n1_ := Aside0.mk (blk_below (g := gb254) (o := .cells #[.int .i64 t250, .int .i64 t251, .int .i64 t252] 28 (0, 0)) (by (with_reducible repeat (first | refine blk_drewN ?_ _ | refine blk_drew ?_ | refine blk_alloc ?_ _)); exact BK254.out) hb); have n2_ := Aside0.mk (below_step (by repeat (first | (with_reducible first | exact HB.out | apply below_alloc | apply pw_below_drewN | apply below_drew1 | refine below_set ?_ GE248.out | refine below_set ?_ GE254.out) | exact HB.out)) hb); clear BK248; clear BK254; clear HB; have BK248 := n0_; have BK254 := n1_; have HB := n2_; clear n0_ n1_ n2_; (try clear hb); (try clear hb2); (try clear hk); (try clear hi); have hcz106_0 : w105.cell? ⟨gb248, 0, none⟩ = some (.int .i64 a0_0) := (blk_cell BK248.out 0).trans rfl; have hcz106_1 : w105.cell? ⟨gb248, 1, none⟩ = some (.int .i64 a0_1) := (blk_cell BK248.out 1).trans rfl; have hcz106_2 : w105.cell? ⟨gb248, 2, none⟩ = some (.int .i64 a0_2) := (blk_cell BK248.out 2).trans rfl; have hcz106_3 : w105.cell? ⟨gb248, 3, none⟩ = some (.int .i64 a0_3) := (blk_cell BK248.out 3).trans rfl; have hcz106_4 : w105.cell? ⟨gb248, 4, none⟩ = some (.int .i64 a0_4) := (blk_cell BK248.out 4).trans rfl; have hcz106_5 : w105.cell? ⟨gb248, 5, none⟩ = some (.int .i64 a0_5) := (blk_cell BK248.out 5).trans rfl; have hcz106_6 : w105.cell? ⟨gb248, 6, none⟩ = some (.int .i64 a0_6) := (blk_cell BK248.out 6).trans rfl; have hcz106_7 : w105.cell? ⟨gb248, 7, none⟩ = some (.int .i64 a0_7) := (blk_cell BK248.out 7).trans rfl; have hfz106_0 := blk_frozen BK248.out 0; have hfz106_1 := blk_frozen BK248.out 1; have hfz106_2 := blk_frozen BK248.out 2; have hfz106_3 := blk_frozen BK248.out 3; have hfz106_4 := blk_frozen BK248.out 4; have hfz106_5 := blk_frozen BK248.out 5; have hfz106_6 := blk_frozen BK248.out 6; have hfz106_7 := blk_frozen BK248.out 7) | ((with_reducible refine gate_callee (f := 13) rfl ?_); refine goesL_ (some 82) rfl rfl Try.func13 (by kernel_rfl) rfl #[.agg #[.int .i64 a0_0, .int .i64 a0_1, .int .i64 a0_2, .int .i64 a0_3, .int .i64 a0_4, .int .i64 a0_5, .int .i64 a0_6, .int .i64 a0_7], .int .i64 a1, .int .i64 t257] rfl (by (try simp only [List.map_toArray, List.map_cons, List.map_nil]); first | done | rfl | (simp only [List.length_drop, List.length_take]; rfl)) ?_; (with_reducible refine (detmap_Block.calls kj6 a0_0 a0_1 a0_2 a0_3 a0_4 a0_5 a0_6 a0_7 a1 t257 t258 t259 t260 true _ A45.out).mono ?_); rintro e w107 ⟨rfl, hb⟩; refine ⟨_, rfl, ?_⟩; have n0_ := Aside0.mk (blk_below (g := gb248) (o := .cells #[.int .i64 a0_0, .int .i64 a0_1, .int .i64 a0_2, .int .i64 a0_3, .int .i64 a0_4, .int .i64 a0_5, .int .i64 a0_6, .int .i64 a0_7] 25 (0, 0)) (by (with_reducible repeat (first | refine blk_drewN ?_ _ | refine blk_drew ?_ | refine blk_alloc ?_ _)); exact BK248.out) hb); have n1_ := Aside0.mk (blk_below (g := gb254) (o := .cells #[.int .i64 t250, .int .i64 t251, .int .i64 t252] 28 (0, 0)) (by (with_reducible repeat (first | refine blk_drewN ?_ _ | refine blk_drew ?_ | refine blk_alloc ?_ _)); exact BK254.out) hb); have n2_ := Aside0.mk (below_step (by repeat (first | (with_reducible first | exact HB.out | apply below_alloc | apply pw_below_drewN | apply below_drew1 | refine below_set ?_ GE248.out | refine below_set ?_ GE254.out) | exact HB.out)) hb); clear BK248; clear BK254; clear HB; have BK248 := n0_; have BK254 := n1_; have HB := n2_; clear n0_ n1_ n2_; (try clear hb); (try clear hb2); (try clear hk); (try clear hi)) | ((with_reducible refine gate_dst (N := 13) rfl ?_); refine box_event ?hg (N := 13) ?hd (cs := #[.int .i64 0, .int .i64 0, .int .i64 0]) (t := 28) ?hr ?_; (case hd => rfl); (case hg => rfl); (case hr => first | (go_simp; done) | (go_simp; rfl)); intro gb262 hg w108 hbox hb; have n0_ := Aside0.mk (blk_below (g := gb248) (o := .cells #[.int .i64 a0_0, .int .i64 a0_1, .int .i64 a0_2, .int .i64 a0_3, .int .i64 a0_4, .int .i64 a0_5, .int .i64 a0_6, .int .i64 a0_7] 25 (0, 0)) (by (with_reducible repeat (first | refine blk_drewN ?_ _ | refine blk_drew ?_ | refine blk_alloc ?_ _)); exact BK248.out) hb); have n1_ := Aside0.mk (blk_below (g := gb254) (o := .cells #[.int .i64 t250, .int .i64 t251, .int .i64 t252] 28 (0, 0)) (by (with_reducible repeat (first | refine blk_drewN ?_ _ | refine blk_drew ?_ | refine blk_alloc ?_ _)); exact BK254.out) hb); have n2_ := Aside0.mk (below_step (by repeat (first | (with_reducible first | exact HB.out | apply below_alloc | apply pw_below_drewN | apply below_drew1 | refine below_set ?_ GE248.out | refine below_set ?_ GE254.out) | exact HB.out)) hb); have n3_ := Aside0.mk (hbox); have n4_ := Aside0.mk ((by rw [hg]; exact (below_size (by repeat (first | (with_reducible first | exact HB.out | apply below_alloc | apply pw_below_drewN | apply below_drew1 | refine below_set ?_ GE248.out | refine below_set ?_ GE254.out) | exact HB.out))) : w.heap.size ≤ gb262)); have n5_ := Aside0.mk ((by rw [hg]; exact (below_size (by repeat (first | (with_reducible first | exact HB.out | apply below_alloc | apply pw_below_drewN | apply below_drew1 | refine below_set ?_ GE248.out | refine below_set ?_ GE254.out) | exact HB.out))) : w.heap.size ≤ gb262)); have n6_ := Aside0.mk ((by rw [hg]; exact Nat.ne_of_lt (blk_lt (g := gb248) (o := .cells #[.int .i64 a0_0, .int .i64 a0_1, .int .i64 a0_2, .int .i64 a0_3, .int .i64 a0_4, .int .i64 a0_5, .int .i64 a0_6, .int .i64 a0_7] 25 (0, 0)) (by (with_reducible repeat (first | refine blk_drewN ?_ _ | refine blk_drew ?_ | refine blk_alloc ?_ _)); exact BK248.out)) : gb248 ≠ gb262)); have n7_ := Aside0.mk ((by rw [hg]; exact Nat.ne_of_gt (blk_lt (g := gb248) (o := .cells #[.int .i64 a0_0, .int .i64 a0_1, .int .i64 a0_2, .int .i64 a0_3, .int .i64 a0_4, .int .i64 a0_5, .int .i64 a0_6, .int .i64 a0_7] 25 (0, 0)) (by (with_reducible repeat (first | refine blk_drewN ?_ _ | refine blk_drew ?_ | refine blk_alloc ?_ _)); exact BK248.out)) : gb262 ≠ gb248)); have n8_ := Aside0.mk ((by rw [hg]; exact Nat.ne_of_lt (blk_lt (g := gb254) (o := .cells #[.int .i64 t250, .int .i64 t251, .int .i64 t252] 28 (0, 0)) (by (with_reducible repeat (first | refine blk_drewN ?_ _ | refine blk_drew ?_ | refine blk_alloc ?_ _)); exact BK254.out)) : gb254 ≠ gb262)); have n9_ := Aside0.mk ((by rw [hg]; exact Nat.ne_of_gt (blk_lt (g := gb254) (o := .cells #[.int .i64 t250, .int .i64 t251, .int .i64 t252] 28 (0, 0)) (by (with_reducible repeat (first | refine blk_drewN ?_ _ | refine blk_drew ?_ | refine blk_alloc ?_ _)); exact BK254.out)) : gb262 ≠ gb254)); clear BK248; clear BK254; clear HB; have BK248 := n0_; have BK254 := n1_; have HB := n2_; have BK262 := n3_; have GW262 := n4_; have GE262 := n5_; have NB248_262 := n6_; have NB262_248 := n7_; have NB254_262 := n8_; have NB262_254 := n9_; clear n0_ n1_ n2_ n3_ n4_ n5_ n6_ n7_ n8_ n9_; clear hb hbox hg; have hnb109 := NB262_248.out; have hnc109 := NB248_262.out; have hnb110 := NB262_254.out; have hnc110 := NB254_262.out; have hcz111_0 : w108.cell? ⟨gb262, 0, none⟩ = some (.int .i64 0) := (blk_cell BK262.out 0).trans rfl; have hcz111_1 : w108.cell? ⟨gb262, 1, none⟩ = some (.int .i64 0) := (blk_cell BK262.out 1).trans rfl; have hcz111_2 : w108.cell? ⟨gb262, 2, none⟩ = some (.int .i64 0) := (blk_cell BK262.out 2).trans rfl; have hfz111_0 := blk_frozen BK262.out 0; have hfz111_1 := blk_frozen BK262.out 1; have hfz111_2 := blk_frozen BK262.out 2))
                go_ret
                exact ⟨by first | rfl | (simp [errW_none, errW_some] <;> rfl) | (simp [*, errW_none, errW_some] <;> rfl), by repeat (first | (with_reducible first | exact HB.out | apply below_alloc | apply pw_below_drewN | apply below_drew1 | refine below_set ?_ GE248.out | refine below_set ?_ GE254.out | refine below_set ?_ GE262.out) | exact HB.out)⟩
            · rw [if_neg c89] at H
              have c89b0 : decide (t259 ≤ a3) = false := decide_eq_false c89
              clear c89
              obtain rfl := Option.some.inj H
              have hnb112 := NB248_254.out
              have hnc112 := NB254_248.out
              have hcz113_0 : wc.cell? ⟨gb248, 0, none⟩ = some (.int .i64 a0_0) := (blk_cell BK248.out 0).trans rfl
              have hcz113_1 : wc.cell? ⟨gb248, 1, none⟩ = some (.int .i64 a0_1) := (blk_cell BK248.out 1).trans rfl
              have hcz113_2 : wc.cell? ⟨gb248, 2, none⟩ = some (.int .i64 a0_2) := (blk_cell BK248.out 2).trans rfl
              have hcz113_3 : wc.cell? ⟨gb248, 3, none⟩ = some (.int .i64 a0_3) := (blk_cell BK248.out 3).trans rfl
              have hcz113_4 : wc.cell? ⟨gb248, 4, none⟩ = some (.int .i64 a0_4) := (blk_cell BK248.out 4).trans rfl
              have hcz113_5 : wc.cell? ⟨gb248, 5, none⟩ = some (.int .i64 a0_5) := (blk_cell BK248.out 5).trans rfl
              have hcz113_6 : wc.cell? ⟨gb248, 6, none⟩ = some (.int .i64 a0_6) := (blk_cell BK248.out 6).trans rfl
              have hcz113_7 : wc.cell? ⟨gb248, 7, none⟩ = some (.int .i64 a0_7) := (blk_cell BK248.out 7).trans rfl
              have hfz113_0 := blk_frozen BK248.out 0
              have hfz113_1 := blk_frozen BK248.out 1
              have hfz113_2 := blk_frozen BK248.out 2
              have hfz113_3 := blk_frozen BK248.out 3
              have hfz113_4 := blk_frozen BK248.out 4
              have hfz113_5 := blk_frozen BK248.out 5
              have hfz113_6 := blk_frozen BK248.out 6
              have hfz113_7 := blk_frozen BK248.out 7
              go_wp2_with (first | ((with_reducible refine gate_callee (f := 25) rfl ?_); refine goesL_ (some 77) rfl rfl Try.func25 (by kernel_rfl) rfl #[.agg #[.int .i64 a0_0, .int .i64 a0_1, .int .i64 a0_2, .int .i64 a0_3, .int .i64 a0_4, .int .i64 a0_5, .int .i64 a0_6, .int .i64 a0_7], .int .i64 a1, .int .i64 a3] rfl (by (try simp only [List.map_toArray, List.map_cons, List.map_nil]); first | done | rfl | (simp only [List.length_drop, List.length_take]; rfl)) ?_; (with_reducible refine (detmap_Which.calls kj6 a0_0 a0_1 a0_2 a0_3 a0_4 a0_5 a0_6 a0_7 a1 a3 t257 _ A44.out).mono ?_); rintro e w114 ⟨rfl, hb⟩; refine ⟨_, rfl, ?_⟩; have n0_ := Aside0.mk (blk_below (g := gb248) (o := .cells #[.int .i64 a0_0, .int .i64 a0_1, .int .i64 a0_2, .int .i64 a0_3, .int .i64 a0_4, .int .i64 a0_5, .int .i64 a0_6, .int .i64 a0_7] 25 (0, 0)) (by (with_reducible repeat (first | refine blk_drewN ?_ _ | refine blk_drew ?_ | refine blk_alloc ?_ _)); exact BK248.out) hb); have n1_ := Aside0.mk (blk_below (g := gb254) (o := .cells #[.int .i64 t250, .int .i64 t251, .int .i64 t252] 28 (0, 0)) (by (with_reducible repeat (first | refine blk_drewN ?_ _ | refine blk_drew ?_ | refine blk_alloc ?_ _)); exact BK254.out) hb); have n2_ := Aside0.mk (below_step (by repeat (first | (with_reducible first | exact HB.out | apply below_alloc | apply pw_below_drewN | apply below_drew1 | refine below_set ?_ GE248.out | refine below_set ?_ GE254.out) | exact HB.out)) hb); clear BK248; clear BK254; clear HB; have BK248 := n0_; have BK254 := n1_; have HB := n2_; clear n0_ n1_ n2_; (try clear hb); (try clear hb2); (try clear hk); (try clear hi); have hcz115_0 : w114.cell? ⟨gb248, 0, none⟩ = some (.int .i64 a0_0) := (blk_cell BK248.out 0).trans rfl; have hcz115_1 : w114.cell? ⟨gb248, 1, none⟩ = some (.int .i64 a0_1) := (blk_cell BK248.out 1).trans rfl; have hcz115_2 : w114.cell? ⟨gb248, 2, none⟩ = some (.int .i64 a0_2) := (blk_cell BK248.out 2).trans rfl; have hcz115_3 : w114.cell? ⟨gb248, 3, none⟩ = some (.int .i64 a0_3) := (blk_cell BK248.out 3).trans rfl; have hcz115_4 : w114.cell? ⟨gb248, 4, none⟩ = some (.int .i64 a0_4) := (blk_cell BK248.out 4).trans rfl; have hcz115_5 : w114.cell? ⟨gb248, 5, none⟩ = some (.int .i64 a0_5) := (blk_cell BK248.out 5).trans rfl; have hcz115_6 : w114.cell? ⟨gb248, 6, none⟩ = some (.int .i64 a0_6) := (blk_cell BK248.out 6).trans rfl; have hcz115_7 : w114.cell? ⟨gb248, 7, none⟩ = some (.int .i64 a0_7) := (blk_cell BK248.out 7).trans rfl; have hfz115_0 := blk_frozen BK248.out 0; have hfz115_1 := blk_frozen BK248.out 1; have hfz115_2 := blk_frozen BK248.out 2; have hfz115_3 := blk_frozen BK248.out 3; have hfz115_4 := blk_frozen BK248.out 4; have hfz115_5 := blk_frozen BK248.out 5; have hfz115_6 := blk_frozen BK248.out 6; have hfz115_7 := blk_frozen BK248.out 7) | ((with_reducible refine gate_callee (f := 13) rfl ?_); refine goesL_ (some 82) rfl rfl Try.func13 (by kernel_rfl) rfl #[.agg #[.int .i64 a0_0, .int .i64 a0_1, .int .i64 a0_2, .int .i64 a0_3, .int .i64 a0_4, .int .i64 a0_5, .int .i64 a0_6, .int .i64 a0_7], .int .i64 a1, .int .i64 t257] rfl (by (try simp only [List.map_toArray, List.map_cons, List.map_nil]); first | done | rfl | (simp only [List.length_drop, List.length_take]; rfl)) ?_; (with_reducible refine (detmap_Block.calls kj6 a0_0 a0_1 a0_2 a0_3 a0_4 a0_5 a0_6 a0_7 a1 t257 t258 t259 t260 true _ A45.out).mono ?_); rintro e w116 ⟨rfl, hb⟩; refine ⟨_, rfl, ?_⟩; have n0_ := Aside0.mk (blk_below (g := gb248) (o := .cells #[.int .i64 a0_0, .int .i64 a0_1, .int .i64 a0_2, .int .i64 a0_3, .int .i64 a0_4, .int .i64 a0_5, .int .i64 a0_6, .int .i64 a0_7] 25 (0, 0)) (by (with_reducible repeat (first | refine blk_drewN ?_ _ | refine blk_drew ?_ | refine blk_alloc ?_ _)); exact BK248.out) hb); have n1_ := Aside0.mk (blk_below (g := gb254) (o := .cells #[.int .i64 t250, .int .i64 t251, .int .i64 t252] 28 (0, 0)) (by (with_reducible repeat (first | refine blk_drewN ?_ _ | refine blk_drew ?_ | refine blk_alloc ?_ _)); exact BK254.out) hb); have n2_ := Aside0.mk (below_step (by repeat (first | (with_reducible first | exact HB.out | apply below_alloc | apply pw_below_drewN | apply below_drew1 | refine below_set ?_ GE248.out | refine below_set ?_ GE254.out) | exact HB.out)) hb); clear BK248; clear BK254; clear HB; have BK248 := n0_; have BK254 := n1_; have HB := n2_; clear n0_ n1_ n2_; (try clear hb); (try clear hb2); (try clear hk); (try clear hi)) | ((with_reducible refine gate_dst (N := 13) rfl ?_); refine box_event ?hg (N := 13) ?hd (cs := #[.int .i64 0, .int .i64 0, .int .i64 0]) (t := 28) ?hr ?_; (case hd => rfl); (case hg => rfl); (case hr => first | (go_simp; done) | (go_simp; rfl)); intro gb262 hg w117 hbox hb; have n0_ := Aside0.mk (blk_below (g := gb248) (o := .cells #[.int .i64 a0_0, .int .i64 a0_1, .int .i64 a0_2, .int .i64 a0_3, .int .i64 a0_4, .int .i64 a0_5, .int .i64 a0_6, .int .i64 a0_7] 25 (0, 0)) (by (with_reducible repeat (first | refine blk_drewN ?_ _ | refine blk_drew ?_ | refine blk_alloc ?_ _)); exact BK248.out) hb); have n1_ := Aside0.mk (blk_below (g := gb254) (o := .cells #[.int .i64 t250, .int .i64 t251, .int .i64 t252] 28 (0, 0)) (by (with_reducible repeat (first | refine blk_drewN ?_ _ | refine blk_drew ?_ | refine blk_alloc ?_ _)); exact BK254.out) hb); have n2_ := Aside0.mk (below_step (by repeat (first | (with_reducible first | exact HB.out | apply below_alloc | apply pw_below_drewN | apply below_drew1 | refine below_set ?_ GE248.out | refine below_set ?_ GE254.out) | exact HB.out)) hb); have n3_ := Aside0.mk (hbox); have n4_ := Aside0.mk ((by rw [hg]; exact (below_size (by repeat (first | (with_reducible first | exact HB.out | apply below_alloc | apply pw_below_drewN | apply below_drew1 | refine below_set ?_ GE248.out | refine below_set ?_ GE254.out) | exact HB.out))) : w.heap.size ≤ gb262)); have n5_ := Aside0.mk ((by rw [hg]; exact (below_size (by repeat (first | (with_reducible first | exact HB.out | apply below_alloc | apply pw_below_drewN | apply below_drew1 | refine below_set ?_ GE248.out | refine below_set ?_ GE254.out) | exact HB.out))) : w.heap.size ≤ gb262)); have n6_ := Aside0.mk ((by rw [hg]; exact Nat.ne_of_lt (blk_lt (g := gb248) (o := .cells #[.int .i64 a0_0, .int .i64 a0_1, .int .i64 a0_2, .int .i64 a0_3, .int .i64 a0_4, .int .i64 a0_5, .int .i64 a0_6, .int .i64 a0_7] 25 (0, 0)) (by (with_reducible repeat (first | refine blk_drewN ?_ _ | refine blk_drew ?_ | refine blk_alloc ?_ _)); exact BK248.out)) : gb248 ≠ gb262)); have n7_ := Aside0.mk ((by rw [hg]; exact Nat.ne_of_gt (blk_lt (g := gb248) (o := .cells #[.int .i64 a0_0, .int .i64 a0_1, .int .i64 a0_2, .int .i64 a0_3, .int .i64 a0_4, .int .i64 a0_5, .int .i64 a0_6, .int .i64 a0_7] 25 (0, 0)) (by (with_reducible repeat (first | refine blk_drewN ?_ _ | refine blk_drew ?_ | refine blk_alloc ?_ _)); exact BK248.out)) : gb262 ≠ gb248)); have n8_ := Aside0.mk ((by rw [hg]; exact Nat.ne_of_lt (blk_lt (g := gb254) (o := .cells #[.int .i64 t250, .int .i64 t251, .int .i64 t252] 28 (0, 0)) (by (with_reducible repeat (first | refine blk_drewN ?_ _ | refine blk_drew ?_ | refine blk_alloc ?_ _)); exact BK254.out)) : gb254 ≠ gb262)); have n9_ := Aside0.mk ((by rw [hg]; exact Nat.ne_of_gt (blk_lt (g := gb254) (o := .cells #[.int .i64 t250, .int .i64 t251, .int .i64 t252] 28 (0, 0)) (by (with_reducible repeat (first | refine blk_drewN ?_ _ | refine blk_drew ?_ | refine blk_alloc ?_ _)); exact BK254.out)) : gb262 ≠ gb254)); clear BK248; clear BK254; clear HB; have BK248 := n0_; have BK254 := n1_; have HB := n2_; have BK262 := n3_; have GW262 := n4_; have GE262 := n5_; have NB248_262 := n6_; have NB262_248 := n7_; have NB254_262 := n8_; have NB262_254 := n9_; clear n0_ n1_ n2_ n3_ n4_ n5_ n6_ n7_ n8_ n9_; clear hb hbox hg; have hnb118 := NB262_248.out; have hnc118 := NB248_262.out; have hnb119 := NB262_254.out; have hnc119 := NB254_262.out; have hcz120_0 : w117.cell? ⟨gb262, 0, none⟩ = some (.int .i64 0) := (blk_cell BK262.out 0).trans rfl; have hcz120_1 : w117.cell? ⟨gb262, 1, none⟩ = some (.int .i64 0) := (blk_cell BK262.out 1).trans rfl; have hcz120_2 : w117.cell? ⟨gb262, 2, none⟩ = some (.int .i64 0) := (blk_cell BK262.out 2).trans rfl; have hfz120_0 := blk_frozen BK262.out 0; have hfz120_1 := blk_frozen BK262.out 1; have hfz120_2 := blk_frozen BK262.out 2))
              go_ret
              exact ⟨by first | rfl | (simp [errW_none, errW_some] <;> rfl) | (simp [*, errW_none, errW_some] <;> rfl), by repeat (first | (with_reducible first | exact HB.out | apply below_alloc | apply pw_below_drewN | apply below_drew1 | refine below_set ?_ GE248.out | refine below_set ?_ GE254.out | refine below_set ?_ GE262.out) | exact HB.out)⟩
          · replace c88 := Bool.eq_false_iff.mpr c88
            subst c88
            have H1 : (some false) = some r := by rw [if_neg (show ¬ (false = true) by decide)] at H; exact H
            clear H
            have H := H1
            clear H1
            obtain rfl := Option.some.inj H
            have hnb121 := NB248_254.out
            have hnc121 := NB254_248.out
            have hcz122_0 : wc.cell? ⟨gb248, 0, none⟩ = some (.int .i64 a0_0) := (blk_cell BK248.out 0).trans rfl
            have hcz122_1 : wc.cell? ⟨gb248, 1, none⟩ = some (.int .i64 a0_1) := (blk_cell BK248.out 1).trans rfl
            have hcz122_2 : wc.cell? ⟨gb248, 2, none⟩ = some (.int .i64 a0_2) := (blk_cell BK248.out 2).trans rfl
            have hcz122_3 : wc.cell? ⟨gb248, 3, none⟩ = some (.int .i64 a0_3) := (blk_cell BK248.out 3).trans rfl
            have hcz122_4 : wc.cell? ⟨gb248, 4, none⟩ = some (.int .i64 a0_4) := (blk_cell BK248.out 4).trans rfl
            have hcz122_5 : wc.cell? ⟨gb248, 5, none⟩ = some (.int .i64 a0_5) := (blk_cell BK248.out 5).trans rfl
            have hcz122_6 : wc.cell? ⟨gb248, 6, none⟩ = some (.int .i64 a0_6) := (blk_cell BK248.out 6).trans rfl
            have hcz122_7 : wc.cell? ⟨gb248, 7, none⟩ = some (.int .i64 a0_7) := (blk_cell BK248.out 7).trans rfl
            have hfz122_0 := blk_frozen BK248.out 0
            have hfz122_1 := blk_frozen BK248.out 1
            have hfz122_2 := blk_frozen BK248.out 2
            have hfz122_3 := blk_frozen BK248.out 3
            have hfz122_4 := blk_frozen BK248.out 4
            have hfz122_5 := blk_frozen BK248.out 5
            have hfz122_6 := blk_frozen BK248.out 6
            have hfz122_7 := blk_frozen BK248.out 7
            go_wp2_with (first | ((with_reducible refine gate_callee (f := 25) rfl ?_); refine goesL_ (some 77) rfl rfl Try.func25 (by kernel_rfl) rfl #[.agg #[.int .i64 a0_0, .int .i64 a0_1, .int .i64 a0_2, .int .i64 a0_3, .int .i64 a0_4, .int .i64 a0_5, .int .i64 a0_6, .int .i64 a0_7], .int .i64 a1, .int .i64 a3] rfl (by (try simp only [List.map_toArray, List.map_cons, List.map_nil]); first | done | rfl | (simp only [List.length_drop, List.length_take]; rfl)) ?_; (with_reducible refine (detmap_Which.calls kj6 a0_0 a0_1 a0_2 a0_3 a0_4 a0_5 a0_6 a0_7 a1 a3 t257 _ A44.out).mono ?_); rintro e w123 ⟨rfl, hb⟩; refine ⟨_, rfl, ?_⟩; have n0_ := Aside0.mk (blk_below (g := gb248) (o := .cells #[.int .i64 a0_0, .int .i64 a0_1, .int .i64 a0_2, .int .i64 a0_3, .int .i64 a0_4, .int .i64 a0_5, .int .i64 a0_6, .int .i64 a0_7] 25 (0, 0)) (by (with_reducible repeat (first | refine blk_drewN ?_ _ | refine blk_drew ?_ | refine blk_alloc ?_ _)); exact BK248.out) hb); have n1_ := Aside0.mk (blk_below (g := gb254) (o := .cells #[.int .i64 t250, .int .i64 t251, .int .i64 t252] 28 (0, 0)) (by (with_reducible repeat (first | refine blk_drewN ?_ _ | refine blk_drew ?_ | refine blk_alloc ?_ _)); exact BK254.out) hb); have n2_ := Aside0.mk (below_step (by repeat (first | (with_reducible first | exact HB.out | apply below_alloc | apply pw_below_drewN | apply below_drew1 | refine below_set ?_ GE248.out | refine below_set ?_ GE254.out) | exact HB.out)) hb); clear BK248; clear BK254; clear HB; have BK248 := n0_; have BK254 := n1_; have HB := n2_; clear n0_ n1_ n2_; (try clear hb); (try clear hb2); (try clear hk); (try clear hi); have hcz124_0 : w123.cell? ⟨gb248, 0, none⟩ = some (.int .i64 a0_0) := (blk_cell BK248.out 0).trans rfl; have hcz124_1 : w123.cell? ⟨gb248, 1, none⟩ = some (.int .i64 a0_1) := (blk_cell BK248.out 1).trans rfl; have hcz124_2 : w123.cell? ⟨gb248, 2, none⟩ = some (.int .i64 a0_2) := (blk_cell BK248.out 2).trans rfl; have hcz124_3 : w123.cell? ⟨gb248, 3, none⟩ = some (.int .i64 a0_3) := (blk_cell BK248.out 3).trans rfl; have hcz124_4 : w123.cell? ⟨gb248, 4, none⟩ = some (.int .i64 a0_4) := (blk_cell BK248.out 4).trans rfl; have hcz124_5 : w123.cell? ⟨gb248, 5, none⟩ = some (.int .i64 a0_5) := (blk_cell BK248.out 5).trans rfl; have hcz124_6 : w123.cell? ⟨gb248, 6, none⟩ = some (.int .i64 a0_6) := (blk_cell BK248.out 6).trans rfl; have hcz124_7 : w123.cell? ⟨gb248, 7, none⟩ = some (.int .i64 a0_7) := (blk_cell BK248.out 7).trans rfl; have hfz124_0 := blk_frozen BK248.out 0; have hfz124_1 := blk_frozen BK248.out 1; have hfz124_2 := blk_frozen BK248.out 2; have hfz124_3 := blk_frozen BK248.out 3; have hfz124_4 := blk_frozen BK248.out 4; have hfz124_5 := blk_frozen BK248.out 5; have hfz124_6 := blk_frozen BK248.out 6; have hfz124_7 := blk_frozen BK248.out 7) | ((with_reducible refine gate_callee (f := 13) rfl ?_); refine goesL_ (some 82) rfl rfl Try.func13 (by kernel_rfl) rfl #[.agg #[.int .i64 a0_0, .int .i64 a0_1, .int .i64 a0_2, .int .i64 a0_3, .int .i64 a0_4, .int .i64 a0_5, .int .i64 a0_6, .int .i64 a0_7], .int .i64 a1, .int .i64 t257] rfl (by (try simp only [List.map_toArray, List.map_cons, List.map_nil]); first | done | rfl | (simp only [List.length_drop, List.length_take]; rfl)) ?_; (with_reducible refine (detmap_Block.calls kj6 a0_0 a0_1 a0_2 a0_3 a0_4 a0_5 a0_6 a0_7 a1 t257 t258 t259 t260 false _ A45.out).mono ?_); rintro e w125 ⟨rfl, hb⟩; refine ⟨_, rfl, ?_⟩; have n0_ := Aside0.mk (blk_below (g := gb248) (o := .cells #[.int .i64 a0_0, .int .i64 a0_1, .int .i64 a0_2, .int .i64 a0_3, .int .i64 a0_4, .int .i64 a0_5, .int .i64 a0_6, .int .i64 a0_7] 25 (0, 0)) (by (with_reducible repeat (first | refine blk_drewN ?_ _ | refine blk_drew ?_ | refine blk_alloc ?_ _)); exact BK248.out) hb); have n1_ := Aside0.mk (blk_below (g := gb254) (o := .cells #[.int .i64 t250, .int .i64 t251, .int .i64 t252] 28 (0, 0)) (by (with_reducible repeat (first | refine blk_drewN ?_ _ | refine blk_drew ?_ | refine blk_alloc ?_ _)); exact BK254.out) hb); have n2_ := Aside0.mk (below_step (by repeat (first | (with_reducible first | exact HB.out | apply below_alloc | apply pw_below_drewN | apply below_drew1 | refine below_set ?_ GE248.out | refine below_set ?_ GE254.out) | exact HB.out)) hb); clear BK248; clear BK254; clear HB; have BK248 := n0_; have BK254 := n1_; have HB := n2_; clear n0_ n1_ n2_; (try clear hb); (try clear hb2); (try clear hk); (try clear hi)) | ((with_reducible refine gate_dst (N := 13) rfl ?_); refine box_event ?hg (N := 13) ?hd (cs := #[.int .i64 0, .int .i64 0, .int .i64 0]) (t := 28) ?hr ?_; (case hd => rfl); (case hg => rfl); (case hr => first | (go_simp; done) | (go_simp; rfl)); intro gb262 hg w126 hbox hb; have n0_ := Aside0.mk (blk_below (g := gb248) (o := .cells #[.int .i64 a0_0, .int .i64 a0_1, .int .i64 a0_2, .int .i64 a0_3, .int .i64 a0_4, .int .i64 a0_5, .int .i64 a0_6, .int .i64 a0_7] 25 (0, 0)) (by (with_reducible repeat (first | refine blk_drewN ?_ _ | refine blk_drew ?_ | refine blk_alloc ?_ _)); exact BK248.out) hb); have n1_ := Aside0.mk (blk_below (g := gb254) (o := .cells #[.int .i64 t250, .int .i64 t251, .int .i64 t252] 28 (0, 0)) (by (with_reducible repeat (first | refine blk_drewN ?_ _ | refine blk_drew ?_ | refine blk_alloc ?_ _)); exact BK254.out) hb); have n2_ := Aside0.mk (below_step (by repeat (first | (with_reducible first | exact HB.out | apply below_alloc | apply pw_below_drewN | apply below_drew1 | refine below_set ?_ GE248.out | refine below_set ?_ GE254.out) | exact HB.out)) hb); have n3_ := Aside0.mk (hbox); have n4_ := Aside0.mk ((by rw [hg]; exact (below_size (by repeat (first | (with_reducible first | exact HB.out | apply below_alloc | apply pw_below_drewN | apply below_drew1 | refine below_set ?_ GE248.out | refine below_set ?_ GE254.out) | exact HB.out))) : w.heap.size ≤ gb262)); have n5_ := Aside0.mk ((by rw [hg]; exact (below_size (by repeat (first | (with_reducible first | exact HB.out | apply below_alloc | apply pw_below_drewN | apply below_drew1 | refine below_set ?_ GE248.out | refine below_set ?_ GE254.out) | exact HB.out))) : w.heap.size ≤ gb262)); have n6_ := Aside0.mk ((by rw [hg]; exact Nat.ne_of_lt (blk_lt (g := gb248) (o := .cells #[.int .i64 a0_0, .int .i64 a0_1, .int .i64 a0_2, .int .i64 a0_3, .int .i64 a0_4, .int .i64 a0_5, .int .i64 a0_6, .int .i64 a0_7] 25 (0, 0)) (by (with_reducible repeat (first | refine blk_drewN ?_ _ | refine blk_drew ?_ | refine blk_alloc ?_ _)); exact BK248.out)) : gb248 ≠ gb262)); have n7_ := Aside0.mk ((by rw [hg]; exact Nat.ne_of_gt (blk_lt (g := gb248) (o := .cells #[.int .i64 a0_0, .int .i64 a0_1, .int .i64 a0_2, .int .i64 a0_3, .int .i64 a0_4, .int .i64 a0_5, .int .i64 a0_6, .int .i64 a0_7] 25 (0, 0)) (by (with_reducible repeat (first | refine blk_drewN ?_ _ | refine blk_drew ?_ | refine blk_alloc ?_ _)); exact BK248.out)) : gb262 ≠ gb248)); have n8_ := Aside0.mk ((by rw [hg]; exact Nat.ne_of_lt (blk_lt (g := gb254) (o := .cells #[.int .i64 t250, .int .i64 t251, .int .i64 t252] 28 (0, 0)) (by (with_reducible repeat (first | refine blk_drewN ?_ _ | refine blk_drew ?_ | refine blk_alloc ?_ _)); exact BK254.out)) : gb254 ≠ gb262)); have n9_ := Aside0.mk ((by rw [hg]; exact Nat.ne_of_gt (blk_lt (g := gb254) (o := .cells #[.int .i64 t250, .int .i64 t251, .int .i64 t252] 28 (0, 0)) (by (with_reducible repeat (first | refine blk_drewN ?_ _ | refine blk_drew ?_ | refine blk_alloc ?_ _)); exact BK254.out)) : gb262 ≠ gb254)); clear BK248; clear BK254; clear HB; have BK248 := n0_; have BK254 := n1_; have HB := n2_; have BK262 := n3_; have GW262 := n4_; have GE262 := n5_; have NB248_262 := n6_; have NB262_248 := n7_; have NB254_262 := n8_; have NB262_254 := n9_; clear n0_ n1_ n2_ n3_ n4_ n5_ n6_ n7_ n8_ n9_; clear hb hbox hg; have hnb127 := NB262_248.out; have hnc127 := NB248_262.out; have hnb128 := NB262_254.out; have hnc128 := NB254_262.out; have hcz129_0 : w126.cell? ⟨gb262, 0, none⟩ = some (.int .i64 0) := (blk_cell BK262.out 0).trans rfl; have hcz129_1 : w126.cell? ⟨gb262, 1, none⟩ = some (.int .i64 0) := (blk_cell BK262.out 1).trans rfl; have hcz129_2 : w126.cell? ⟨gb262, 2, none⟩ = some (.int .i64 0) := (blk_cell BK262.out 2).trans rfl; have hfz129_0 := blk_frozen BK262.out 0; have hfz129_1 := blk_frozen BK262.out 1; have hfz129_2 := blk_frozen BK262.out 2))
            go_ret
            exact ⟨by first | rfl | (simp [errW_none, errW_some] <;> rfl) | (simp [*, errW_none, errW_some] <;> rfl), by repeat (first | (with_reducible first | exact HB.out | apply below_alloc | apply pw_below_drewN | apply below_drew1 | refine below_set ?_ GE248.out | refine below_set ?_ GE254.out | refine below_set ?_ GE262.out) | exact HB.out)⟩

end Go.Proofs.Ytfkdflhijfkjoaa.P
