-- Laid by this session's own program (wip/myprint.py): Lean functions for the Go functions that a law reaches, and their contracts. Not trusted: Lean checks it.
import Derived.Test.YtfkdflhijfkjoaaP0
import Derived.Test.YtfkdflhijfkjoaaP2
import Derived.Test.YtfkdflhijfkjoaaP4
import Derived.Test.YtfkdflhijfkjoaaP5
import Derived.Test.YtfkdflhijfkjoaaP7
import Derived.Test.YtfkdflhijfkjoaaP9
namespace Go.Proofs.Ytfkdflhijfkjoaa.P
open Go.RowKit Go.Proofs.YtfkdflhijfkjoaaW.PrintWords Go.Proofs.YtfkdflhijfkjoaaW.PrintLast Go.Proofs.YtfkdflhijfkjoaaW.PrintMore
attribute [local go_sem] max2_int min2_int max_two min_two max_three min_three max_four min_four   -- for this text's walks alone
set_option linter.unusedVariables false
set_option linter.unusedSimpArgs false

/-! ### mooringslaw08_DetBack: function 4 -/
mutual
def mooringslaw08_DetBack.j0 : Nat → Int → Int → Int → Bool → Bool → Int → Int → Int → Int → Int → Int → Int → Int → Int → Int → Int → Option (Bool)
  | 0, _, _, _, _, _, _, _, _, _, _, _, _, _, _, _, _ => none
  | k + 1, x1, x2, x3, x11, x40, x232000, x232001, x232002, x232003, x232004, x232005, x232006, x232007, x238000, x238001, x238002 => if x40 = true then (some false) else (if x11 = true then (if x238001 < x232004 then (mooringslaw08_DetBack.j1 k x2 x3 x11 true x232000 x232001 x232002 x232003 x232004 x232005 x232006 x232007 x238000 x238001 x238002) else (if x238002 > (wrap64 (x232005 - x232006)) then (mooringslaw08_DetBack.j1 k x2 x3 x11 true x232000 x232001 x232002 x232003 x232004 x232005 x232006 x232007 x238000 x238001 x238002) else (if x238002 < x238001 then (mooringslaw08_DetBack.j1 k x2 x3 x11 true x232000 x232001 x232002 x232003 x232004 x232005 x232006 x232007 x238000 x238001 x238002) else ((detmap_Who.f k x232000 x232001 x232002 x232003 x232004 x232005 x232006 x232007 x238000 x238001).bind fun t240 => (if t240 = x1 then ((detmap_Who.f k x232000 x232001 x232002 x232003 x232004 x232005 x232006 x232007 x238000 x238002).bind fun t241 => (mooringslaw08_DetBack.j1 k x2 x3 x11 (t241 != x1) x232000 x232001 x232002 x232003 x232004 x232005 x232006 x232007 x238000 x238001 x238002)) else (mooringslaw08_DetBack.j1 k x2 x3 x11 true x232000 x232001 x232002 x232003 x232004 x232005 x232006 x232007 x238000 x238001 x238002)))))) else (mooringslaw08_DetBack.j1 k x2 x3 x11 false x232000 x232001 x232002 x232003 x232004 x232005 x232006 x232007 x238000 x238001 x238002))
def mooringslaw08_DetBack.j1 : Nat → Int → Int → Bool → Bool → Int → Int → Int → Int → Int → Int → Int → Int → Int → Int → Int → Option (Bool)
  | 0, _, _, _, _, _, _, _, _, _, _, _, _, _, _, _ => none
  | k + 1, x2, x3, x11, x85, x232000, x232001, x232002, x232003, x232004, x232005, x232006, x232007, x238000, x238001, x238002 => if x85 = true then (some false) else ((detmap_Who.f k x232000 x232001 x232002 x232003 x232004 x232005 x232006 x232007 x2 x3).bind fun t242 => ((detmap_Base.f k x232000 x232001 x232002 x232003 x232004 x232005 x232006 x232007 t242).bind fun bt243 => (if t242 < 0 then (if t242 = (-1) then (if x11 = true then (if x238000 = x2 then (if x3 ≥ x238001 then (some (!(decide (x3 ≤ x238002)))) else (some (!false))) else (some (!false))) else (some (!false))) else (some false)) else (if bt243.2.2.2 = true then (if bt243.1 = x2 then (if x3 ≥ bt243.2.1 then (some (decide (x3 ≤ bt243.2.2.1))) else (some false)) else (some false)) else (some false)))))
end
def mooringslaw08_DetBack.f (k : Nat) (a0_0 : Int) (a0_1 : Int) (a0_2 : Int) (a0_3 : Int) (a0_4 : Int) (a0_5 : Int) (a0_6 : Int) (a0_7 : Int) (a1 : Int) (a2 : Int) (a3 : Int) : Option (Bool) := (mooringslaw08_awake.f).bind fun t232 => ((detmap_Base.f k a0_0 a0_1 a0_2 a0_3 a0_4 a0_5 a0_6 a0_7 a1).bind fun bt233 => (if t232 = true then ((detmap_Fit.f a0_0 a0_1 a0_2 a0_3 a0_4 a0_5 a0_6 a0_7).bind fun t238 => (if t238 = true then (if a1 ≥ 0 then ((addr_Size.f a0_0 a0_1).bind fun t239 => (mooringslaw08_DetBack.j0 k a1 a2 a3 bt233.2.2.2 (bt233.2.2.2 != (decide (a1 < t239))) a0_0 a0_1 a0_2 a0_3 a0_4 a0_5 a0_6 a0_7 bt233.1 bt233.2.1 bt233.2.2.1)) else (mooringslaw08_DetBack.j0 k a1 a2 a3 bt233.2.2.2 (bt233.2.2.2 != false) a0_0 a0_1 a0_2 a0_3 a0_4 a0_5 a0_6 a0_7 bt233.1 bt233.2.1 bt233.2.2.1)) else (mooringslaw08_DetBack.j0 k a1 a2 a3 bt233.2.2.2 (bt233.2.2.2 != false) a0_0 a0_1 a0_2 a0_3 a0_4 a0_5 a0_6 a0_7 bt233.1 bt233.2.1 bt233.2.2.1))) else (mooringslaw08_DetBack.j0 k a1 a2 a3 bt233.2.2.2 true a0_0 a0_1 a0_2 a0_3 a0_4 a0_5 a0_6 a0_7 bt233.1 bt233.2.1 bt233.2.2.1)))
theorem mooringslaw08_DetBack.mono_l : ∀ k, (∀ y0 y1 y2 y3 y4 y5 y6 y7 y8 y9 y10 y11 y12 y13 y14 y15, LeO (mooringslaw08_DetBack.j0 k y0 y1 y2 y3 y4 y5 y6 y7 y8 y9 y10 y11 y12 y13 y14 y15) (mooringslaw08_DetBack.j0 (k + 1) y0 y1 y2 y3 y4 y5 y6 y7 y8 y9 y10 y11 y12 y13 y14 y15)) ∧ (∀ y0 y1 y2 y3 y4 y5 y6 y7 y8 y9 y10 y11 y12 y13 y14, LeO (mooringslaw08_DetBack.j1 k y0 y1 y2 y3 y4 y5 y6 y7 y8 y9 y10 y11 y12 y13 y14) (mooringslaw08_DetBack.j1 (k + 1) y0 y1 y2 y3 y4 y5 y6 y7 y8 y9 y10 y11 y12 y13 y14))
  | 0 => ⟨fun _ _ _ _ _ _ _ _ _ _ _ _ _ _ _ _ r h => by simp [mooringslaw08_DetBack.j0] at h, fun _ _ _ _ _ _ _ _ _ _ _ _ _ _ _ r h => by simp [mooringslaw08_DetBack.j1] at h⟩
  | k + 1 => by
    obtain ⟨ih0, ih1⟩ := mooringslaw08_DetBack.mono_l k
    refine ⟨?_, ?_⟩
    · intro y0 y1 y2 y3 y4 y5 y6 y7 y8 y9 y10 y11 y12 y13 y14 y15
      unfold mooringslaw08_DetBack.j0
      repeat' first
      | (with_reducible exact ih0 _ _ _ _ _ _ _ _ _ _ _ _ _ _ _ _)
      | (with_reducible exact ih1 _ _ _ _ _ _ _ _ _ _ _ _ _ _ _)
      | (with_reducible exact detmap_Base.mono _ _ _ _ _ _ _ _ _ _)
      | (with_reducible exact detmap_Who.mono _ _ _ _ _ _ _ _ _ _ _)
      | (with_reducible exact LeO.refl _)
      | (with_reducible exact LeO.none _)
      | (with_reducible refine LeO.ite ?_ ?_)
      | (with_reducible refine LeO.bind ?_ (fun _ => ?_))
      | exact ih0 _ _ _ _ _ _ _ _ _ _ _ _ _ _ _ _
      | exact ih1 _ _ _ _ _ _ _ _ _ _ _ _ _ _ _
      | exact detmap_Base.mono _ _ _ _ _ _ _ _ _ _
      | exact detmap_Who.mono _ _ _ _ _ _ _ _ _ _ _
      | exact LeO.none _
      | refine LeO.ite ?_ ?_
      | refine LeO.bind ?_ (fun _ => ?_)
    · intro y0 y1 y2 y3 y4 y5 y6 y7 y8 y9 y10 y11 y12 y13 y14
      unfold mooringslaw08_DetBack.j1
      repeat' first
      | (with_reducible exact ih0 _ _ _ _ _ _ _ _ _ _ _ _ _ _ _ _)
      | (with_reducible exact ih1 _ _ _ _ _ _ _ _ _ _ _ _ _ _ _)
      | (with_reducible exact detmap_Base.mono _ _ _ _ _ _ _ _ _ _)
      | (with_reducible exact detmap_Who.mono _ _ _ _ _ _ _ _ _ _ _)
      | (with_reducible exact LeO.refl _)
      | (with_reducible exact LeO.none _)
      | (with_reducible refine LeO.ite ?_ ?_)
      | (with_reducible refine LeO.bind ?_ (fun _ => ?_))
      | exact ih0 _ _ _ _ _ _ _ _ _ _ _ _ _ _ _ _
      | exact ih1 _ _ _ _ _ _ _ _ _ _ _ _ _ _ _
      | exact detmap_Base.mono _ _ _ _ _ _ _ _ _ _
      | exact detmap_Who.mono _ _ _ _ _ _ _ _ _ _ _
      | exact LeO.none _
      | refine LeO.ite ?_ ?_
      | refine LeO.bind ?_ (fun _ => ?_)
theorem mooringslaw08_DetBack.mono : ∀ a0 a1 a2 a3 a4 a5 a6 a7 a8 a9 a10 k, LeO (mooringslaw08_DetBack.f k a0 a1 a2 a3 a4 a5 a6 a7 a8 a9 a10) (mooringslaw08_DetBack.f (k + 1) a0 a1 a2 a3 a4 a5 a6 a7 a8 a9 a10) := by
  intro a0 a1 a2 a3 a4 a5 a6 a7 a8 a9 a10 k
  obtain ⟨ih0, ih1⟩ := mooringslaw08_DetBack.mono_l k
  unfold mooringslaw08_DetBack.f
  repeat' first
      | (with_reducible exact ih0 _ _ _ _ _ _ _ _ _ _ _ _ _ _ _ _)
      | (with_reducible exact ih1 _ _ _ _ _ _ _ _ _ _ _ _ _ _ _)
      | (with_reducible exact detmap_Base.mono _ _ _ _ _ _ _ _ _ _)
      | (with_reducible exact detmap_Who.mono _ _ _ _ _ _ _ _ _ _ _)
      | (with_reducible exact LeO.refl _)
      | (with_reducible exact LeO.none _)
      | (with_reducible refine LeO.ite ?_ ?_)
      | (with_reducible refine LeO.bind ?_ (fun _ => ?_))
      | exact ih0 _ _ _ _ _ _ _ _ _ _ _ _ _ _ _ _
      | exact ih1 _ _ _ _ _ _ _ _ _ _ _ _ _ _ _
      | exact detmap_Base.mono _ _ _ _ _ _ _ _ _ _
      | exact detmap_Who.mono _ _ _ _ _ _ _ _ _ _ _
      | exact LeO.none _
      | refine LeO.ite ?_ ?_
      | refine LeO.bind ?_ (fun _ => ?_)
set_option maxHeartbeats 8000000 in
set_option maxRecDepth 100000 in
theorem mooringslaw08_DetBack.calls (k : Nat) (a0_0 : Int) (a0_1 : Int) (a0_2 : Int) (a0_3 : Int) (a0_4 : Int) (a0_5 : Int) (a0_6 : Int) (a0_7 : Int) (a1 : Int) (a2 : Int) (a3 : Int) (r : Bool) (w : World) (h : mooringslaw08_DetBack.f k a0_0 a0_1 a0_2 a0_3 a0_4 a0_5 a0_6 a0_7 a1 a2 a3 = some r) :
    Calls Try.prog 4 #[.agg #[.int .i64 a0_0, .int .i64 a0_1, .int .i64 a0_2, .int .i64 a0_3, .int .i64 a0_4, .int .i64 a0_5, .int .i64 a0_6, .int .i64 a0_7], .int .i64 a1, .int .i64 a2, .int .i64 a3] w fun e w' => e = .returned (.bool r) ∧ Below w.heap.size w w' := by
  have hu25 := Try.underlying25
  have hu28 := Try.underlying28
  have hu23 := Try.underlying23
  have HB := Aside0.mk (Below.refl w.heap.size w)
  have H : ((mooringslaw08_awake.f).bind fun t232 => ((detmap_Base.f k a0_0 a0_1 a0_2 a0_3 a0_4 a0_5 a0_6 a0_7 a1).bind fun bt233 => (if t232 = true then ((detmap_Fit.f a0_0 a0_1 a0_2 a0_3 a0_4 a0_5 a0_6 a0_7).bind fun t238 => (if t238 = true then (if a1 ≥ 0 then ((addr_Size.f a0_0 a0_1).bind fun t239 => (mooringslaw08_DetBack.j0 k a1 a2 a3 bt233.2.2.2 (bt233.2.2.2 != (decide (a1 < t239))) a0_0 a0_1 a0_2 a0_3 a0_4 a0_5 a0_6 a0_7 bt233.1 bt233.2.1 bt233.2.2.1)) else (mooringslaw08_DetBack.j0 k a1 a2 a3 bt233.2.2.2 (bt233.2.2.2 != false) a0_0 a0_1 a0_2 a0_3 a0_4 a0_5 a0_6 a0_7 bt233.1 bt233.2.1 bt233.2.2.1)) else (mooringslaw08_DetBack.j0 k a1 a2 a3 bt233.2.2.2 (bt233.2.2.2 != false) a0_0 a0_1 a0_2 a0_3 a0_4 a0_5 a0_6 a0_7 bt233.1 bt233.2.1 bt233.2.2.1))) else (mooringslaw08_DetBack.j0 k a1 a2 a3 bt233.2.2.2 true a0_0 a0_1 a0_2 a0_3 a0_4 a0_5 a0_6 a0_7 bt233.1 bt233.2.1 bt233.2.2.1)))) = some r := h
  clear h
  replace H := Option.bind_eq_some_iff.mp H
  obtain ⟨t232, A50, H⟩ := H
  replace H : ((detmap_Base.f k a0_0 a0_1 a0_2 a0_3 a0_4 a0_5 a0_6 a0_7 a1).bind fun bt233 => (if t232 = true then ((detmap_Fit.f a0_0 a0_1 a0_2 a0_3 a0_4 a0_5 a0_6 a0_7).bind fun t238 => (if t238 = true then (if a1 ≥ 0 then ((addr_Size.f a0_0 a0_1).bind fun t239 => (mooringslaw08_DetBack.j0 k a1 a2 a3 bt233.2.2.2 (bt233.2.2.2 != (decide (a1 < t239))) a0_0 a0_1 a0_2 a0_3 a0_4 a0_5 a0_6 a0_7 bt233.1 bt233.2.1 bt233.2.2.1)) else (mooringslaw08_DetBack.j0 k a1 a2 a3 bt233.2.2.2 (bt233.2.2.2 != false) a0_0 a0_1 a0_2 a0_3 a0_4 a0_5 a0_6 a0_7 bt233.1 bt233.2.1 bt233.2.2.1)) else (mooringslaw08_DetBack.j0 k a1 a2 a3 bt233.2.2.2 (bt233.2.2.2 != false) a0_0 a0_1 a0_2 a0_3 a0_4 a0_5 a0_6 a0_7 bt233.1 bt233.2.1 bt233.2.2.1))) else (mooringslaw08_DetBack.j0 k a1 a2 a3 bt233.2.2.2 true a0_0 a0_1 a0_2 a0_3 a0_4 a0_5 a0_6 a0_7 bt233.1 bt233.2.1 bt233.2.2.1))) = some r := H
  have A5 := Aside0.mk A50
  clear A50
  replace H := Option.bind_eq_some_iff.mp H
  obtain ⟨⟨t233, t234, t235, t236⟩, A60, H⟩ := H
  replace H : (if t232 = true then ((detmap_Fit.f a0_0 a0_1 a0_2 a0_3 a0_4 a0_5 a0_6 a0_7).bind fun t238 => (if t238 = true then (if a1 ≥ 0 then ((addr_Size.f a0_0 a0_1).bind fun t239 => (mooringslaw08_DetBack.j0 k a1 a2 a3 t236 (t236 != (decide (a1 < t239))) a0_0 a0_1 a0_2 a0_3 a0_4 a0_5 a0_6 a0_7 t233 t234 t235)) else (mooringslaw08_DetBack.j0 k a1 a2 a3 t236 (t236 != false) a0_0 a0_1 a0_2 a0_3 a0_4 a0_5 a0_6 a0_7 t233 t234 t235)) else (mooringslaw08_DetBack.j0 k a1 a2 a3 t236 (t236 != false) a0_0 a0_1 a0_2 a0_3 a0_4 a0_5 a0_6 a0_7 t233 t234 t235))) else (mooringslaw08_DetBack.j0 k a1 a2 a3 t236 true a0_0 a0_1 a0_2 a0_3 a0_4 a0_5 a0_6 a0_7 t233 t234 t235)) = some r := H
  have A6 := Aside0.mk A60
  clear A60
  have HC7 := Aside0.mk H
  clear H
  go_enter Try.func4, Try.ntmps4
  go_upto_region 3 with (first | ((with_reducible refine gate_dst (N := 4) rfl ?_); refine box_event ?hg (N := 4) ?hd (cs := #[.int .i64 a0_0, .int .i64 a0_1, .int .i64 a0_2, .int .i64 a0_3, .int .i64 a0_4, .int .i64 a0_5, .int .i64 a0_6, .int .i64 a0_7]) (t := 25) ?hr ?_; (case hd => rfl); (case hg => rfl); (case hr => first | (go_simp; done) | (go_simp; rfl)); intro gb231 hg w8 hbox hb; have n0_ := Aside0.mk (below_step (by repeat (first | (with_reducible first | exact HB.out | apply below_alloc | apply pw_below_drewN | apply below_drew1) | exact HB.out)) hb); have n1_ := Aside0.mk (hbox); have n2_ := Aside0.mk ((by rw [hg]; exact (below_size (by repeat (first | (with_reducible first | exact HB.out | apply below_alloc | apply pw_below_drewN | apply below_drew1) | exact HB.out))) : w.heap.size ≤ gb231)); have n3_ := Aside0.mk ((by rw [hg]; exact (below_size (by repeat (first | (with_reducible first | exact HB.out | apply below_alloc | apply pw_below_drewN | apply below_drew1) | exact HB.out))) : w.heap.size ≤ gb231)); clear HB; have HB := n0_; have BK231 := n1_; have GW231 := n2_; have GE231 := n3_; clear n0_ n1_ n2_ n3_; clear hb hbox hg) | ((with_reducible refine gate_callee (f := 10) rfl ?_); refine goesL_ (some 15) rfl rfl Try.func10 (by kernel_rfl) rfl #[] rfl (by (try simp only [List.map_toArray, List.map_cons, List.map_nil]); first | done | rfl | (simp only [List.length_drop, List.length_take]; rfl)) ?_; (with_reducible refine (mooringslaw08_awake.calls  t232 _ A5.out).mono ?_); rintro e w9 ⟨rfl, hb⟩; refine ⟨_, rfl, ?_⟩; have n0_ := Aside0.mk (blk_below (g := gb231) (o := .cells #[.int .i64 a0_0, .int .i64 a0_1, .int .i64 a0_2, .int .i64 a0_3, .int .i64 a0_4, .int .i64 a0_5, .int .i64 a0_6, .int .i64 a0_7] 25 (0, 0)) (by (with_reducible repeat (first | refine blk_drewN ?_ _ | refine blk_drew ?_ | refine blk_alloc ?_ _)); exact BK231.out) hb); have n1_ := Aside0.mk (below_step (by repeat (first | (with_reducible first | exact HB.out | apply below_alloc | apply pw_below_drewN | apply below_drew1 | refine below_set ?_ GE231.out) | exact HB.out)) hb); clear BK231; clear HB; have BK231 := n0_; have HB := n1_; clear n0_ n1_; (try clear hb); (try clear hb2); (try clear hk); (try clear hi); have hcz10_0 : w9.cell? ⟨gb231, 0, none⟩ = some (.int .i64 a0_0) := (blk_cell BK231.out 0).trans rfl; have hcz10_1 : w9.cell? ⟨gb231, 1, none⟩ = some (.int .i64 a0_1) := (blk_cell BK231.out 1).trans rfl; have hcz10_2 : w9.cell? ⟨gb231, 2, none⟩ = some (.int .i64 a0_2) := (blk_cell BK231.out 2).trans rfl; have hcz10_3 : w9.cell? ⟨gb231, 3, none⟩ = some (.int .i64 a0_3) := (blk_cell BK231.out 3).trans rfl; have hcz10_4 : w9.cell? ⟨gb231, 4, none⟩ = some (.int .i64 a0_4) := (blk_cell BK231.out 4).trans rfl; have hcz10_5 : w9.cell? ⟨gb231, 5, none⟩ = some (.int .i64 a0_5) := (blk_cell BK231.out 5).trans rfl; have hcz10_6 : w9.cell? ⟨gb231, 6, none⟩ = some (.int .i64 a0_6) := (blk_cell BK231.out 6).trans rfl; have hcz10_7 : w9.cell? ⟨gb231, 7, none⟩ = some (.int .i64 a0_7) := (blk_cell BK231.out 7).trans rfl; have hfz10_0 := blk_frozen BK231.out 0; have hfz10_1 := blk_frozen BK231.out 1; have hfz10_2 := blk_frozen BK231.out 2; have hfz10_3 := blk_frozen BK231.out 3; have hfz10_4 := blk_frozen BK231.out 4; have hfz10_5 := blk_frozen BK231.out 5; have hfz10_6 := blk_frozen BK231.out 6; have hfz10_7 := blk_frozen BK231.out 7) | ((with_reducible refine gate_callee (f := 11) rfl ?_); refine goesL_ (some 19) rfl rfl Try.func11 (by kernel_rfl) rfl #[.agg #[.int .i64 a0_0, .int .i64 a0_1, .int .i64 a0_2, .int .i64 a0_3, .int .i64 a0_4, .int .i64 a0_5, .int .i64 a0_6, .int .i64 a0_7], .int .i64 a1] rfl (by (try simp only [List.map_toArray, List.map_cons, List.map_nil]); first | done | rfl | (simp only [List.length_drop, List.length_take]; rfl)) ?_; (with_reducible refine (detmap_Base.calls k a0_0 a0_1 a0_2 a0_3 a0_4 a0_5 a0_6 a0_7 a1 t233 t234 t235 t236 _ A6.out).mono ?_); rintro e w11 ⟨rfl, hb⟩; refine ⟨_, rfl, ?_⟩; have n0_ := Aside0.mk (blk_below (g := gb231) (o := .cells #[.int .i64 a0_0, .int .i64 a0_1, .int .i64 a0_2, .int .i64 a0_3, .int .i64 a0_4, .int .i64 a0_5, .int .i64 a0_6, .int .i64 a0_7] 25 (0, 0)) (by (with_reducible repeat (first | refine blk_drewN ?_ _ | refine blk_drew ?_ | refine blk_alloc ?_ _)); exact BK231.out) hb); have n1_ := Aside0.mk (below_step (by repeat (first | (with_reducible first | exact HB.out | apply below_alloc | apply pw_below_drewN | apply below_drew1 | refine below_set ?_ GE231.out) | exact HB.out)) hb); clear BK231; clear HB; have BK231 := n0_; have HB := n1_; clear n0_ n1_; (try clear hb); (try clear hb2); (try clear hk); (try clear hi)) | ((with_reducible refine gate_dst (N := 10) rfl ?_); refine box_event ?hg (N := 10) ?hd (cs := #[.int .i64 0, .int .i64 0, .int .i64 0]) (t := 28) ?hr ?_; (case hd => rfl); (case hg => rfl); (case hr => first | (go_simp; done) | (go_simp; rfl)); intro gb237 hg w12 hbox hb; have n0_ := Aside0.mk (blk_below (g := gb231) (o := .cells #[.int .i64 a0_0, .int .i64 a0_1, .int .i64 a0_2, .int .i64 a0_3, .int .i64 a0_4, .int .i64 a0_5, .int .i64 a0_6, .int .i64 a0_7] 25 (0, 0)) (by (with_reducible repeat (first | refine blk_drewN ?_ _ | refine blk_drew ?_ | refine blk_alloc ?_ _)); exact BK231.out) hb); have n1_ := Aside0.mk (below_step (by repeat (first | (with_reducible first | exact HB.out | apply below_alloc | apply pw_below_drewN | apply below_drew1 | refine below_set ?_ GE231.out) | exact HB.out)) hb); have n2_ := Aside0.mk (hbox); have n3_ := Aside0.mk ((by rw [hg]; exact (below_size (by repeat (first | (with_reducible first | exact HB.out | apply below_alloc | apply pw_below_drewN | apply below_drew1 | refine below_set ?_ GE231.out) | exact HB.out))) : w.heap.size ≤ gb237)); have n4_ := Aside0.mk ((by rw [hg]; exact (below_size (by repeat (first | (with_reducible first | exact HB.out | apply below_alloc | apply pw_below_drewN | apply below_drew1 | refine below_set ?_ GE231.out) | exact HB.out))) : w.heap.size ≤ gb237)); have n5_ := Aside0.mk ((by rw [hg]; exact Nat.ne_of_lt (blk_lt (g := gb231) (o := .cells #[.int .i64 a0_0, .int .i64 a0_1, .int .i64 a0_2, .int .i64 a0_3, .int .i64 a0_4, .int .i64 a0_5, .int .i64 a0_6, .int .i64 a0_7] 25 (0, 0)) (by (with_reducible repeat (first | refine blk_drewN ?_ _ | refine blk_drew ?_ | refine blk_alloc ?_ _)); exact BK231.out)) : gb231 ≠ gb237)); have n6_ := Aside0.mk ((by rw [hg]; exact Nat.ne_of_gt (blk_lt (g := gb231) (o := .cells #[.int .i64 a0_0, .int .i64 a0_1, .int .i64 a0_2, .int .i64 a0_3, .int .i64 a0_4, .int .i64 a0_5, .int .i64 a0_6, .int .i64 a0_7] 25 (0, 0)) (by (with_reducible repeat (first | refine blk_drewN ?_ _ | refine blk_drew ?_ | refine blk_alloc ?_ _)); exact BK231.out)) : gb237 ≠ gb231)); clear BK231; clear HB; have BK231 := n0_; have HB := n1_; have BK237 := n2_; have GW237 := n3_; have GE237 := n4_; have NB231_237 := n5_; have NB237_231 := n6_; clear n0_ n1_ n2_ n3_ n4_ n5_ n6_; clear hb hbox hg; have hnb13 := NB237_231.out; have hnc13 := NB231_237.out; have hcz14_0 : w12.cell? ⟨gb237, 0, none⟩ = some (.int .i64 0) := (blk_cell BK237.out 0).trans rfl; have hcz14_1 : w12.cell? ⟨gb237, 1, none⟩ = some (.int .i64 0) := (blk_cell BK237.out 1).trans rfl; have hcz14_2 : w12.cell? ⟨gb237, 2, none⟩ = some (.int .i64 0) := (blk_cell BK237.out 2).trans rfl; have hfz14_0 := blk_frozen BK237.out 0; have hfz14_1 := blk_frozen BK237.out 1; have hfz14_2 := blk_frozen BK237.out 2))
  (try simp only [Act.put, List.setIfInBounds_toArray, List.set_cons_zero, List.set_cons_succ])
  go_cut [40] (fun v40 wc => ∃ (kq : Nat) (x40_6 : Bool), v40 = .bool x40_6 ∧ Aside0 (mooringslaw08_DetBack.j0 kq a1 a2 a3 t236 x40_6 a0_0 a0_1 a0_2 a0_3 a0_4 a0_5 a0_6 a0_7 t233 t234 t235 = some r) ∧ Aside0 (kq ≤ k) ∧ Aside0 (wc.heap[gb231]? = some (.cells #[.int .i64 a0_0, .int .i64 a0_1, .int .i64 a0_2, .int .i64 a0_3, .int .i64 a0_4, .int .i64 a0_5, .int .i64 a0_6, .int .i64 a0_7] 25 (0, 0))) ∧ Aside0 (wc.heap[gb237]? = some (.cells #[.int .i64 t233, .int .i64 t234, .int .i64 t235] 28 (0, 0))) ∧ Aside0 (Below w.heap.size w wc))
  case first =>
    have H := HC7.out
    clear HC7
    by_cases c15 : t232 = true
    · subst c15
      have H1 : ((detmap_Fit.f a0_0 a0_1 a0_2 a0_3 a0_4 a0_5 a0_6 a0_7).bind fun t238 => (if t238 = true then (if a1 ≥ 0 then ((addr_Size.f a0_0 a0_1).bind fun t239 => (mooringslaw08_DetBack.j0 k a1 a2 a3 t236 (t236 != (decide (a1 < t239))) a0_0 a0_1 a0_2 a0_3 a0_4 a0_5 a0_6 a0_7 t233 t234 t235)) else (mooringslaw08_DetBack.j0 k a1 a2 a3 t236 (t236 != false) a0_0 a0_1 a0_2 a0_3 a0_4 a0_5 a0_6 a0_7 t233 t234 t235)) else (mooringslaw08_DetBack.j0 k a1 a2 a3 t236 (t236 != false) a0_0 a0_1 a0_2 a0_3 a0_4 a0_5 a0_6 a0_7 t233 t234 t235))) = some r := by rw [if_pos rfl] at H; exact H
      clear H
      have H := H1
      clear H1
      replace H := Option.bind_eq_some_iff.mp H
      obtain ⟨t238, A160, H⟩ := H
      replace H : (if t238 = true then (if a1 ≥ 0 then ((addr_Size.f a0_0 a0_1).bind fun t239 => (mooringslaw08_DetBack.j0 k a1 a2 a3 t236 (t236 != (decide (a1 < t239))) a0_0 a0_1 a0_2 a0_3 a0_4 a0_5 a0_6 a0_7 t233 t234 t235)) else (mooringslaw08_DetBack.j0 k a1 a2 a3 t236 (t236 != false) a0_0 a0_1 a0_2 a0_3 a0_4 a0_5 a0_6 a0_7 t233 t234 t235)) else (mooringslaw08_DetBack.j0 k a1 a2 a3 t236 (t236 != false) a0_0 a0_1 a0_2 a0_3 a0_4 a0_5 a0_6 a0_7 t233 t234 t235)) = some r := H
      have A16 := Aside0.mk A160
      clear A160
      by_cases c17 : t238 = true
      · subst c17
        have H1 : (if a1 ≥ 0 then ((addr_Size.f a0_0 a0_1).bind fun t239 => (mooringslaw08_DetBack.j0 k a1 a2 a3 t236 (t236 != (decide (a1 < t239))) a0_0 a0_1 a0_2 a0_3 a0_4 a0_5 a0_6 a0_7 t233 t234 t235)) else (mooringslaw08_DetBack.j0 k a1 a2 a3 t236 (t236 != false) a0_0 a0_1 a0_2 a0_3 a0_4 a0_5 a0_6 a0_7 t233 t234 t235)) = some r := by rw [if_pos rfl] at H; exact H
        clear H
        have H := H1
        clear H1
        by_cases c18 : a1 ≥ 0
        · rw [if_pos c18] at H
          have c18b0 : decide (0 ≤ a1) = true := decide_eq_true c18
          clear c18
          (first | rw [c18b0] | (simp only [i64_w, i32_w]; rw [c18b0]) | skip)
          replace H := Option.bind_eq_some_iff.mp H
          obtain ⟨t239, A190, H⟩ := H
          replace H : (mooringslaw08_DetBack.j0 k a1 a2 a3 t236 (t236 != (decide (a1 < t239))) a0_0 a0_1 a0_2 a0_3 a0_4 a0_5 a0_6 a0_7 t233 t234 t235) = some r := H
          have A19 := Aside0.mk A190
          clear A190
          have H' := Aside0.mk H
          clear H
          have hnb20 := NB231_237.out
          have hnc20 := NB237_231.out
          have hcz21_0 : w12.cell? ⟨gb231, 0, none⟩ = some (.int .i64 a0_0) := (blk_cell BK231.out 0).trans rfl
          have hcz21_1 : w12.cell? ⟨gb231, 1, none⟩ = some (.int .i64 a0_1) := (blk_cell BK231.out 1).trans rfl
          have hcz21_2 : w12.cell? ⟨gb231, 2, none⟩ = some (.int .i64 a0_2) := (blk_cell BK231.out 2).trans rfl
          have hcz21_3 : w12.cell? ⟨gb231, 3, none⟩ = some (.int .i64 a0_3) := (blk_cell BK231.out 3).trans rfl
          have hcz21_4 : w12.cell? ⟨gb231, 4, none⟩ = some (.int .i64 a0_4) := (blk_cell BK231.out 4).trans rfl
          have hcz21_5 : w12.cell? ⟨gb231, 5, none⟩ = some (.int .i64 a0_5) := (blk_cell BK231.out 5).trans rfl
          have hcz21_6 : w12.cell? ⟨gb231, 6, none⟩ = some (.int .i64 a0_6) := (blk_cell BK231.out 6).trans rfl
          have hcz21_7 : w12.cell? ⟨gb231, 7, none⟩ = some (.int .i64 a0_7) := (blk_cell BK231.out 7).trans rfl
          have hfz21_0 := blk_frozen BK231.out 0
          have hfz21_1 := blk_frozen BK231.out 1
          have hfz21_2 := blk_frozen BK231.out 2
          have hfz21_3 := blk_frozen BK231.out 3
          have hfz21_4 := blk_frozen BK231.out 4
          have hfz21_5 := blk_frozen BK231.out 5
          have hfz21_6 := blk_frozen BK231.out 6
          have hfz21_7 := blk_frozen BK231.out 7
          go_wp2_with (first | (go_at_call 16; (with_reducible refine (detmap_Fit.calls a0_0 a0_1 a0_2 a0_3 a0_4 a0_5 a0_6 a0_7 true _ A16.out).mono ?_); rintro e w22 ⟨rfl, hb⟩; have n0_ := Aside0.mk (blk_below (g := gb231) (o := .cells #[.int .i64 a0_0, .int .i64 a0_1, .int .i64 a0_2, .int .i64 a0_3, .int .i64 a0_4, .int .i64 a0_5, .int .i64 a0_6, .int .i64 a0_7] 25 (0, 0)) (by (with_reducible repeat (first | refine blk_drewN ?_ _ | refine blk_drew ?_ | refine blk_alloc ?_ _)); refine blk_far ?_ NB231_237.out _; (with_reducible repeat (first | refine blk_drewN ?_ _ | refine blk_drew ?_ | refine blk_alloc ?_ _)); refine blk_far ?_ NB231_237.out _; (with_reducible repeat (first | refine blk_drewN ?_ _ | refine blk_drew ?_ | refine blk_alloc ?_ _)); refine blk_far ?_ NB231_237.out _; (with_reducible repeat (first | refine blk_drewN ?_ _ | refine blk_drew ?_ | refine blk_alloc ?_ _)); exact BK231.out) hb); have n1_ := Aside0.mk (blk_below (g := gb237) (o := .cells #[.int .i64 t233, .int .i64 t234, .int .i64 t235] 28 (0, 0)) (by (with_reducible repeat (first | refine blk_drewN ?_ _ | refine blk_drew ?_ | refine blk_alloc ?_ _)); refine blk_put (cs := #[.int .i64 t233, .int .i64 t234, .int .i64 0]) ?_ 2 _ rfl; (with_reducible repeat (first | refine blk_drewN ?_ _ | refine blk_drew ?_ | refine blk_alloc ?_ _)); refine blk_put (cs := #[.int .i64 t233, .int .i64 0, .int .i64 0]) ?_ 1 _ rfl; (with_reducible repeat (first | refine blk_drewN ?_ _ | refine blk_drew ?_ | refine blk_alloc ?_ _)); refine blk_put (cs := #[.int .i64 0, .int .i64 0, .int .i64 0]) ?_ 0 _ rfl; (with_reducible repeat (first | refine blk_drewN ?_ _ | refine blk_drew ?_ | refine blk_alloc ?_ _)); exact BK237.out) hb); have n2_ := Aside0.mk (below_step (by repeat (first | (with_reducible first | exact HB.out | apply below_alloc | apply pw_below_drewN | apply below_drew1 | refine below_set ?_ GE231.out | refine below_set ?_ GE237.out) | exact HB.out)) hb); clear BK231; clear BK237; clear HB; have BK231 := n0_; have BK237 := n1_; have HB := n2_; clear n0_ n1_ n2_; (try clear hb); (try clear hb2); (try clear hk); (try clear hi); have hcz23_0 : w22.cell? ⟨gb231, 0, none⟩ = some (.int .i64 a0_0) := (blk_cell BK231.out 0).trans rfl; have hcz23_1 : w22.cell? ⟨gb231, 1, none⟩ = some (.int .i64 a0_1) := (blk_cell BK231.out 1).trans rfl; have hcz23_2 : w22.cell? ⟨gb231, 2, none⟩ = some (.int .i64 a0_2) := (blk_cell BK231.out 2).trans rfl; have hcz23_3 : w22.cell? ⟨gb231, 3, none⟩ = some (.int .i64 a0_3) := (blk_cell BK231.out 3).trans rfl; have hcz23_4 : w22.cell? ⟨gb231, 4, none⟩ = some (.int .i64 a0_4) := (blk_cell BK231.out 4).trans rfl; have hcz23_5 : w22.cell? ⟨gb231, 5, none⟩ = some (.int .i64 a0_5) := (blk_cell BK231.out 5).trans rfl; have hcz23_6 : w22.cell? ⟨gb231, 6, none⟩ = some (.int .i64 a0_6) := (blk_cell BK231.out 6).trans rfl; have hcz23_7 : w22.cell? ⟨gb231, 7, none⟩ = some (.int .i64 a0_7) := (blk_cell BK231.out 7).trans rfl; have hfz23_0 := blk_frozen BK231.out 0; have hfz23_1 := blk_frozen BK231.out 1; have hfz23_2 := blk_frozen BK231.out 2; have hfz23_3 := blk_frozen BK231.out 3; have hfz23_4 := blk_frozen BK231.out 4; have hfz23_5 := blk_frozen BK231.out 5; have hfz23_6 := blk_frozen BK231.out 6; have hfz23_7 := blk_frozen BK231.out 7) | (go_at_call 27; (with_reducible refine (addr_Size.calls a0_0 a0_1 t239 _ A19.out).mono ?_); rintro e w24 ⟨rfl, hb⟩; have n0_ := Aside0.mk (blk_below (g := gb231) (o := .cells #[.int .i64 a0_0, .int .i64 a0_1, .int .i64 a0_2, .int .i64 a0_3, .int .i64 a0_4, .int .i64 a0_5, .int .i64 a0_6, .int .i64 a0_7] 25 (0, 0)) (by (with_reducible repeat (first | refine blk_drewN ?_ _ | refine blk_drew ?_ | refine blk_alloc ?_ _)); exact BK231.out) hb); have n1_ := Aside0.mk (blk_below (g := gb237) (o := .cells #[.int .i64 t233, .int .i64 t234, .int .i64 t235] 28 (0, 0)) (by (with_reducible repeat (first | refine blk_drewN ?_ _ | refine blk_drew ?_ | refine blk_alloc ?_ _)); exact BK237.out) hb); have n2_ := Aside0.mk (below_step (by repeat (first | (with_reducible first | exact HB.out | apply below_alloc | apply pw_below_drewN | apply below_drew1 | refine below_set ?_ GE231.out | refine below_set ?_ GE237.out) | exact HB.out)) hb); clear BK231; clear BK237; clear HB; have BK231 := n0_; have BK237 := n1_; have HB := n2_; clear n0_ n1_ n2_; (try clear hb); (try clear hb2); (try clear hk); (try clear hi)))
          go_meet
          case rel => exact ⟨_, ((t236 != (decide (a1 < t239)))), (by first | rfl | (simp; done) | (simp [*]; done)), H', ⟨by first | omega | exact Nat.le_refl _⟩, ⟨by (with_reducible repeat (first | refine blk_drewN ?_ _ | refine blk_drew ?_ | refine blk_alloc ?_ _)); exact BK231.out⟩, ⟨by (with_reducible repeat (first | refine blk_drewN ?_ _ | refine blk_drew ?_ | refine blk_alloc ?_ _)); exact BK237.out⟩, ⟨by repeat (first | (with_reducible first | exact HB.out | apply below_alloc | apply pw_below_drewN | apply below_drew1 | refine below_set ?_ GE231.out | refine below_set ?_ GE237.out) | exact HB.out)⟩⟩
        · rw [if_neg c18] at H
          have c18b0 : decide (0 ≤ a1) = false := decide_eq_false c18
          clear c18
          (first | rw [c18b0] | (simp only [i64_w, i32_w]; rw [c18b0]) | skip)
          have H' := Aside0.mk H
          clear H
          have hnb25 := NB231_237.out
          have hnc25 := NB237_231.out
          have hcz26_0 : w12.cell? ⟨gb231, 0, none⟩ = some (.int .i64 a0_0) := (blk_cell BK231.out 0).trans rfl
          have hcz26_1 : w12.cell? ⟨gb231, 1, none⟩ = some (.int .i64 a0_1) := (blk_cell BK231.out 1).trans rfl
          have hcz26_2 : w12.cell? ⟨gb231, 2, none⟩ = some (.int .i64 a0_2) := (blk_cell BK231.out 2).trans rfl
          have hcz26_3 : w12.cell? ⟨gb231, 3, none⟩ = some (.int .i64 a0_3) := (blk_cell BK231.out 3).trans rfl
          have hcz26_4 : w12.cell? ⟨gb231, 4, none⟩ = some (.int .i64 a0_4) := (blk_cell BK231.out 4).trans rfl
          have hcz26_5 : w12.cell? ⟨gb231, 5, none⟩ = some (.int .i64 a0_5) := (blk_cell BK231.out 5).trans rfl
          have hcz26_6 : w12.cell? ⟨gb231, 6, none⟩ = some (.int .i64 a0_6) := (blk_cell BK231.out 6).trans rfl
          have hcz26_7 : w12.cell? ⟨gb231, 7, none⟩ = some (.int .i64 a0_7) := (blk_cell BK231.out 7).trans rfl
          have hfz26_0 := blk_frozen BK231.out 0
          have hfz26_1 := blk_frozen BK231.out 1
          have hfz26_2 := blk_frozen BK231.out 2
          have hfz26_3 := blk_frozen BK231.out 3
          have hfz26_4 := blk_frozen BK231.out 4
          have hfz26_5 := blk_frozen BK231.out 5
          have hfz26_6 := blk_frozen BK231.out 6
          have hfz26_7 := blk_frozen BK231.out 7
          go_wp2_with (first | (go_at_call 16; (with_reducible refine (detmap_Fit.calls a0_0 a0_1 a0_2 a0_3 a0_4 a0_5 a0_6 a0_7 true _ A16.out).mono ?_); rintro e w27 ⟨rfl, hb⟩; have n0_ := Aside0.mk (blk_below (g := gb231) (o := .cells #[.int .i64 a0_0, .int .i64 a0_1, .int .i64 a0_2, .int .i64 a0_3, .int .i64 a0_4, .int .i64 a0_5, .int .i64 a0_6, .int .i64 a0_7] 25 (0, 0)) (by (with_reducible repeat (first | refine blk_drewN ?_ _ | refine blk_drew ?_ | refine blk_alloc ?_ _)); refine blk_far ?_ NB231_237.out _; (with_reducible repeat (first | refine blk_drewN ?_ _ | refine blk_drew ?_ | refine blk_alloc ?_ _)); refine blk_far ?_ NB231_237.out _; (with_reducible repeat (first | refine blk_drewN ?_ _ | refine blk_drew ?_ | refine blk_alloc ?_ _)); refine blk_far ?_ NB231_237.out _; (with_reducible repeat (first | refine blk_drewN ?_ _ | refine blk_drew ?_ | refine blk_alloc ?_ _)); exact BK231.out) hb); have n1_ := Aside0.mk (blk_below (g := gb237) (o := .cells #[.int .i64 t233, .int .i64 t234, .int .i64 t235] 28 (0, 0)) (by (with_reducible repeat (first | refine blk_drewN ?_ _ | refine blk_drew ?_ | refine blk_alloc ?_ _)); refine blk_put (cs := #[.int .i64 t233, .int .i64 t234, .int .i64 0]) ?_ 2 _ rfl; (with_reducible repeat (first | refine blk_drewN ?_ _ | refine blk_drew ?_ | refine blk_alloc ?_ _)); refine blk_put (cs := #[.int .i64 t233, .int .i64 0, .int .i64 0]) ?_ 1 _ rfl; (with_reducible repeat (first | refine blk_drewN ?_ _ | refine blk_drew ?_ | refine blk_alloc ?_ _)); refine blk_put (cs := #[.int .i64 0, .int .i64 0, .int .i64 0]) ?_ 0 _ rfl; (with_reducible repeat (first | refine blk_drewN ?_ _ | refine blk_drew ?_ | refine blk_alloc ?_ _)); exact BK237.out) hb); have n2_ := Aside0.mk (below_step (by repeat (first | (with_reducible first | exact HB.out | apply below_alloc | apply pw_below_drewN | apply below_drew1 | refine below_set ?_ GE231.out | refine below_set ?_ GE237.out) | exact HB.out)) hb); clear BK231; clear BK237; clear HB; have BK231 := n0_; have BK237 := n1_; have HB := n2_; clear n0_ n1_ n2_; (try clear hb); (try clear hb2); (try clear hk); (try clear hi)))
          go_meet
          case rel => exact ⟨_, ((t236 != false)), (by first | rfl | (simp; done) | (simp [*]; done)), H', ⟨by first | omega | exact Nat.le_refl _⟩, ⟨by (with_reducible repeat (first | refine blk_drewN ?_ _ | refine blk_drew ?_ | refine blk_alloc ?_ _)); exact BK231.out⟩, ⟨by (with_reducible repeat (first | refine blk_drewN ?_ _ | refine blk_drew ?_ | refine blk_alloc ?_ _)); exact BK237.out⟩, ⟨by repeat (first | (with_reducible first | exact HB.out | apply below_alloc | apply pw_below_drewN | apply below_drew1 | refine below_set ?_ GE231.out | refine below_set ?_ GE237.out) | exact HB.out)⟩⟩
      · replace c17 := Bool.eq_false_iff.mpr c17
        subst c17
        have H1 : (mooringslaw08_DetBack.j0 k a1 a2 a3 t236 (t236 != false) a0_0 a0_1 a0_2 a0_3 a0_4 a0_5 a0_6 a0_7 t233 t234 t235) = some r := by rw [if_neg (show ¬ (false = true) by decide)] at H; exact H
        clear H
        have H := H1
        clear H1
        have H' := Aside0.mk H
        clear H
        have hnb28 := NB231_237.out
        have hnc28 := NB237_231.out
        have hcz29_0 : w12.cell? ⟨gb231, 0, none⟩ = some (.int .i64 a0_0) := (blk_cell BK231.out 0).trans rfl
        have hcz29_1 : w12.cell? ⟨gb231, 1, none⟩ = some (.int .i64 a0_1) := (blk_cell BK231.out 1).trans rfl
        have hcz29_2 : w12.cell? ⟨gb231, 2, none⟩ = some (.int .i64 a0_2) := (blk_cell BK231.out 2).trans rfl
        have hcz29_3 : w12.cell? ⟨gb231, 3, none⟩ = some (.int .i64 a0_3) := (blk_cell BK231.out 3).trans rfl
        have hcz29_4 : w12.cell? ⟨gb231, 4, none⟩ = some (.int .i64 a0_4) := (blk_cell BK231.out 4).trans rfl
        have hcz29_5 : w12.cell? ⟨gb231, 5, none⟩ = some (.int .i64 a0_5) := (blk_cell BK231.out 5).trans rfl
        have hcz29_6 : w12.cell? ⟨gb231, 6, none⟩ = some (.int .i64 a0_6) := (blk_cell BK231.out 6).trans rfl
        have hcz29_7 : w12.cell? ⟨gb231, 7, none⟩ = some (.int .i64 a0_7) := (blk_cell BK231.out 7).trans rfl
        have hfz29_0 := blk_frozen BK231.out 0
        have hfz29_1 := blk_frozen BK231.out 1
        have hfz29_2 := blk_frozen BK231.out 2
        have hfz29_3 := blk_frozen BK231.out 3
        have hfz29_4 := blk_frozen BK231.out 4
        have hfz29_5 := blk_frozen BK231.out 5
        have hfz29_6 := blk_frozen BK231.out 6
        have hfz29_7 := blk_frozen BK231.out 7
        go_wp2_with (first | (go_at_call 16; (with_reducible refine (detmap_Fit.calls a0_0 a0_1 a0_2 a0_3 a0_4 a0_5 a0_6 a0_7 false _ A16.out).mono ?_); rintro e w30 ⟨rfl, hb⟩; have n0_ := Aside0.mk (blk_below (g := gb231) (o := .cells #[.int .i64 a0_0, .int .i64 a0_1, .int .i64 a0_2, .int .i64 a0_3, .int .i64 a0_4, .int .i64 a0_5, .int .i64 a0_6, .int .i64 a0_7] 25 (0, 0)) (by (with_reducible repeat (first | refine blk_drewN ?_ _ | refine blk_drew ?_ | refine blk_alloc ?_ _)); refine blk_far ?_ NB231_237.out _; (with_reducible repeat (first | refine blk_drewN ?_ _ | refine blk_drew ?_ | refine blk_alloc ?_ _)); refine blk_far ?_ NB231_237.out _; (with_reducible repeat (first | refine blk_drewN ?_ _ | refine blk_drew ?_ | refine blk_alloc ?_ _)); refine blk_far ?_ NB231_237.out _; (with_reducible repeat (first | refine blk_drewN ?_ _ | refine blk_drew ?_ | refine blk_alloc ?_ _)); exact BK231.out) hb); have n1_ := Aside0.mk (blk_below (g := gb237) (o := .cells #[.int .i64 t233, .int .i64 t234, .int .i64 t235] 28 (0, 0)) (by (with_reducible repeat (first | refine blk_drewN ?_ _ | refine blk_drew ?_ | refine blk_alloc ?_ _)); refine blk_put (cs := #[.int .i64 t233, .int .i64 t234, .int .i64 0]) ?_ 2 _ rfl; (with_reducible repeat (first | refine blk_drewN ?_ _ | refine blk_drew ?_ | refine blk_alloc ?_ _)); refine blk_put (cs := #[.int .i64 t233, .int .i64 0, .int .i64 0]) ?_ 1 _ rfl; (with_reducible repeat (first | refine blk_drewN ?_ _ | refine blk_drew ?_ | refine blk_alloc ?_ _)); refine blk_put (cs := #[.int .i64 0, .int .i64 0, .int .i64 0]) ?_ 0 _ rfl; (with_reducible repeat (first | refine blk_drewN ?_ _ | refine blk_drew ?_ | refine blk_alloc ?_ _)); exact BK237.out) hb); have n2_ := Aside0.mk (below_step (by repeat (first | (with_reducible first | exact HB.out | apply below_alloc | apply pw_below_drewN | apply below_drew1 | refine below_set ?_ GE231.out | refine below_set ?_ GE237.out) | exact HB.out)) hb); clear BK231; clear BK237; clear HB; have BK231 := n0_; have BK237 := n1_; have HB := n2_; clear n0_ n1_ n2_; (try clear hb); (try clear hb2); (try clear hk); (try clear hi)))
        go_meet
        case rel => exact ⟨_, ((t236 != false)), (by first | rfl | (simp; done) | (simp [*]; done)), H', ⟨by first | omega | exact Nat.le_refl _⟩, ⟨by (with_reducible repeat (first | refine blk_drewN ?_ _ | refine blk_drew ?_ | refine blk_alloc ?_ _)); exact BK231.out⟩, ⟨by (with_reducible repeat (first | refine blk_drewN ?_ _ | refine blk_drew ?_ | refine blk_alloc ?_ _)); exact BK237.out⟩, ⟨by repeat (first | (with_reducible first | exact HB.out | apply below_alloc | apply pw_below_drewN | apply below_drew1 | refine below_set ?_ GE231.out | refine below_set ?_ GE237.out) | exact HB.out)⟩⟩
    · replace c15 := Bool.eq_false_iff.mpr c15
      subst c15
      have H1 : (mooringslaw08_DetBack.j0 k a1 a2 a3 t236 true a0_0 a0_1 a0_2 a0_3 a0_4 a0_5 a0_6 a0_7 t233 t234 t235) = some r := by rw [if_neg (show ¬ (false = true) by decide)] at H; exact H
      clear H
      have H := H1
      clear H1
      have H' := Aside0.mk H
      clear H
      go_wp2
      go_meet
      case rel => exact ⟨_, (true), (by first | rfl | (simp; done) | (simp [*]; done)), H', ⟨by first | omega | exact Nat.le_refl _⟩, ⟨by (with_reducible repeat (first | refine blk_drewN ?_ _ | refine blk_drew ?_ | refine blk_alloc ?_ _)); refine blk_far ?_ NB231_237.out _; (with_reducible repeat (first | refine blk_drewN ?_ _ | refine blk_drew ?_ | refine blk_alloc ?_ _)); refine blk_far ?_ NB231_237.out _; (with_reducible repeat (first | refine blk_drewN ?_ _ | refine blk_drew ?_ | refine blk_alloc ?_ _)); refine blk_far ?_ NB231_237.out _; (with_reducible repeat (first | refine blk_drewN ?_ _ | refine blk_drew ?_ | refine blk_alloc ?_ _)); exact BK231.out⟩, ⟨by (with_reducible repeat (first | refine blk_drewN ?_ _ | refine blk_drew ?_ | refine blk_alloc ?_ _)); refine blk_put (cs := #[.int .i64 t233, .int .i64 t234, .int .i64 0]) ?_ 2 _ rfl; (with_reducible repeat (first | refine blk_drewN ?_ _ | refine blk_drew ?_ | refine blk_alloc ?_ _)); refine blk_put (cs := #[.int .i64 t233, .int .i64 0, .int .i64 0]) ?_ 1 _ rfl; (with_reducible repeat (first | refine blk_drewN ?_ _ | refine blk_drew ?_ | refine blk_alloc ?_ _)); refine blk_put (cs := #[.int .i64 0, .int .i64 0, .int .i64 0]) ?_ 0 _ rfl; (with_reducible repeat (first | refine blk_drewN ?_ _ | refine blk_drew ?_ | refine blk_alloc ?_ _)); exact BK237.out⟩, ⟨by repeat (first | (with_reducible first | exact HB.out | apply below_alloc | apply pw_below_drewN | apply below_drew1 | refine below_set ?_ GE231.out | refine below_set ?_ GE237.out) | exact HB.out)⟩⟩
  case rest =>
    clear HC7
    try clear c1
    try clear c2
    try clear p2
    try clear c4
    try clear c10
    try clear c11
    try clear c13
    try clear c15
    try clear c17
    try clear c18
    try clear c18b0
    try clear c20
    try clear c25
    try clear c28
    try clear hcz10_0
    try clear hcz10_1
    try clear hcz10_2
    try clear hcz10_3
    try clear hcz10_4
    try clear hcz10_5
    try clear hcz10_6
    try clear hcz10_7
    try clear hcz14_0
    try clear hcz14_1
    try clear hcz14_2
    try clear hcz21_0
    try clear hcz21_1
    try clear hcz21_2
    try clear hcz21_3
    try clear hcz21_4
    try clear hcz21_5
    try clear hcz21_6
    try clear hcz21_7
    try clear hcz23_0
    try clear hcz23_1
    try clear hcz23_2
    try clear hcz23_3
    try clear hcz23_4
    try clear hcz23_5
    try clear hcz23_6
    try clear hcz23_7
    try clear hcz26_0
    try clear hcz26_1
    try clear hcz26_2
    try clear hcz26_3
    try clear hcz26_4
    try clear hcz26_5
    try clear hcz26_6
    try clear hcz26_7
    try clear hcz29_0
    try clear hcz29_1
    try clear hcz29_2
    try clear hcz29_3
    try clear hcz29_4
    try clear hcz29_5
    try clear hcz29_6
    try clear hcz29_7
    try clear hfz10_0
    try clear hfz10_1
    try clear hfz10_2
    try clear hfz10_3
    try clear hfz10_4
    try clear hfz10_5
    try clear hfz10_6
    try clear hfz10_7
    try clear hfz14_0
    try clear hfz14_1
    try clear hfz14_2
    try clear hfz21_0
    try clear hfz21_1
    try clear hfz21_2
    try clear hfz21_3
    try clear hfz21_4
    try clear hfz21_5
    try clear hfz21_6
    try clear hfz21_7
    try clear hfz23_0
    try clear hfz23_1
    try clear hfz23_2
    try clear hfz23_3
    try clear hfz23_4
    try clear hfz23_5
    try clear hfz23_6
    try clear hfz23_7
    try clear hfz26_0
    try clear hfz26_1
    try clear hfz26_2
    try clear hfz26_3
    try clear hfz26_4
    try clear hfz26_5
    try clear hfz26_6
    try clear hfz26_7
    try clear hfz29_0
    try clear hfz29_1
    try clear hfz29_2
    try clear hfz29_3
    try clear hfz29_4
    try clear hfz29_5
    try clear hfz29_6
    try clear hfz29_7
    obtain ⟨kq, x40_6, rfl, HA, HJ6, BK231, BK237, HB⟩ := hcut
    cases kq with
    | zero => exact absurd HA.out (by simp [mooringslaw08_DetBack.j0])
    | succ kj6 =>
      have H := HA.out
      clear HA
      simp only [mooringslaw08_DetBack.j0] at H
      by_cases c31 : x40_6 = true
      · subst c31
        have H1 : (some false) = some r := by rw [if_pos rfl] at H; exact H
        clear H
        have H := H1
        clear H1
        obtain rfl := Option.some.inj H
        go_wp2
        go_ret
        exact ⟨by first | rfl | (simp [errW_none, errW_some] <;> rfl) | (simp [*, errW_none, errW_some] <;> rfl), by repeat (first | (with_reducible first | exact HB.out | apply below_alloc | apply pw_below_drewN | apply below_drew1 | refine below_set ?_ GE231.out | refine below_set ?_ GE237.out) | exact HB.out)⟩
      · replace c31 := Bool.eq_false_iff.mpr c31
        subst c31
        have H1 : (if t236 = true then (if t234 < a0_4 then (mooringslaw08_DetBack.j1 kj6 a2 a3 t236 true a0_0 a0_1 a0_2 a0_3 a0_4 a0_5 a0_6 a0_7 t233 t234 t235) else (if t235 > (wrap64 (a0_5 - a0_6)) then (mooringslaw08_DetBack.j1 kj6 a2 a3 t236 true a0_0 a0_1 a0_2 a0_3 a0_4 a0_5 a0_6 a0_7 t233 t234 t235) else (if t235 < t234 then (mooringslaw08_DetBack.j1 kj6 a2 a3 t236 true a0_0 a0_1 a0_2 a0_3 a0_4 a0_5 a0_6 a0_7 t233 t234 t235) else ((detmap_Who.f kj6 a0_0 a0_1 a0_2 a0_3 a0_4 a0_5 a0_6 a0_7 t233 t234).bind fun t240 => (if t240 = a1 then ((detmap_Who.f kj6 a0_0 a0_1 a0_2 a0_3 a0_4 a0_5 a0_6 a0_7 t233 t235).bind fun t241 => (mooringslaw08_DetBack.j1 kj6 a2 a3 t236 (t241 != a1) a0_0 a0_1 a0_2 a0_3 a0_4 a0_5 a0_6 a0_7 t233 t234 t235)) else (mooringslaw08_DetBack.j1 kj6 a2 a3 t236 true a0_0 a0_1 a0_2 a0_3 a0_4 a0_5 a0_6 a0_7 t233 t234 t235)))))) else (mooringslaw08_DetBack.j1 kj6 a2 a3 t236 false a0_0 a0_1 a0_2 a0_3 a0_4 a0_5 a0_6 a0_7 t233 t234 t235)) = some r := by rw [if_neg (show ¬ (false = true) by decide)] at H; exact H
        clear H
        have H := H1
        clear H1
        have HC32 := Aside0.mk H
        clear H
        go_upto_region 5 with (fail)
        go_cut [85] (fun v85 wc => ∃ (kq : Nat) (x85_31 : Bool), v85 = .bool x85_31 ∧ Aside0 (mooringslaw08_DetBack.j1 kq a2 a3 t236 x85_31 a0_0 a0_1 a0_2 a0_3 a0_4 a0_5 a0_6 a0_7 t233 t234 t235 = some r) ∧ Aside0 (kq ≤ kj6) ∧ Aside0 (wc.heap[gb231]? = some (.cells #[.int .i64 a0_0, .int .i64 a0_1, .int .i64 a0_2, .int .i64 a0_3, .int .i64 a0_4, .int .i64 a0_5, .int .i64 a0_6, .int .i64 a0_7] 25 (0, 0))) ∧ Aside0 (wc.heap[gb237]? = some (.cells #[.int .i64 t233, .int .i64 t234, .int .i64 t235] 28 (0, 0))) ∧ Aside0 (Below w.heap.size w wc))
        case first =>
          have H := HC32.out
          clear HC32
          by_cases c33 : t236 = true
          · subst c33
            have H1 : (if t234 < a0_4 then (mooringslaw08_DetBack.j1 kj6 a2 a3 true true a0_0 a0_1 a0_2 a0_3 a0_4 a0_5 a0_6 a0_7 t233 t234 t235) else (if t235 > (wrap64 (a0_5 - a0_6)) then (mooringslaw08_DetBack.j1 kj6 a2 a3 true true a0_0 a0_1 a0_2 a0_3 a0_4 a0_5 a0_6 a0_7 t233 t234 t235) else (if t235 < t234 then (mooringslaw08_DetBack.j1 kj6 a2 a3 true true a0_0 a0_1 a0_2 a0_3 a0_4 a0_5 a0_6 a0_7 t233 t234 t235) else ((detmap_Who.f kj6 a0_0 a0_1 a0_2 a0_3 a0_4 a0_5 a0_6 a0_7 t233 t234).bind fun t240 => (if t240 = a1 then ((detmap_Who.f kj6 a0_0 a0_1 a0_2 a0_3 a0_4 a0_5 a0_6 a0_7 t233 t235).bind fun t241 => (mooringslaw08_DetBack.j1 kj6 a2 a3 true (t241 != a1) a0_0 a0_1 a0_2 a0_3 a0_4 a0_5 a0_6 a0_7 t233 t234 t235)) else (mooringslaw08_DetBack.j1 kj6 a2 a3 true true a0_0 a0_1 a0_2 a0_3 a0_4 a0_5 a0_6 a0_7 t233 t234 t235)))))) = some r := by rw [if_pos rfl] at H; exact H
            clear H
            have H := H1
            clear H1
            by_cases c34 : t234 < a0_4
            · rw [if_pos c34] at H
              have c34b0 : decide (t234 < a0_4) = true := decide_eq_true c34
              clear c34
              (first | rw [c34b0] | (simp only [i64_w, i32_w]; rw [c34b0]) | skip)
              have H' := Aside0.mk H
              clear H
              have hnb35 := NB237_231.out
              have hnc35 := NB231_237.out
              have hcz36_0 : wc.cell? ⟨gb237, 0, none⟩ = some (.int .i64 t233) := (blk_cell BK237.out 0).trans rfl
              have hcz36_1 : wc.cell? ⟨gb237, 1, none⟩ = some (.int .i64 t234) := (blk_cell BK237.out 1).trans rfl
              have hcz36_2 : wc.cell? ⟨gb237, 2, none⟩ = some (.int .i64 t235) := (blk_cell BK237.out 2).trans rfl
              have hfz36_0 := blk_frozen BK237.out 0
              have hfz36_1 := blk_frozen BK237.out 1
              have hfz36_2 := blk_frozen BK237.out 2
              have hcz37_0 : wc.cell? ⟨gb231, 0, none⟩ = some (.int .i64 a0_0) := (blk_cell BK231.out 0).trans rfl
              have hcz37_1 : wc.cell? ⟨gb231, 1, none⟩ = some (.int .i64 a0_1) := (blk_cell BK231.out 1).trans rfl
              have hcz37_2 : wc.cell? ⟨gb231, 2, none⟩ = some (.int .i64 a0_2) := (blk_cell BK231.out 2).trans rfl
              have hcz37_3 : wc.cell? ⟨gb231, 3, none⟩ = some (.int .i64 a0_3) := (blk_cell BK231.out 3).trans rfl
              have hcz37_4 : wc.cell? ⟨gb231, 4, none⟩ = some (.int .i64 a0_4) := (blk_cell BK231.out 4).trans rfl
              have hcz37_5 : wc.cell? ⟨gb231, 5, none⟩ = some (.int .i64 a0_5) := (blk_cell BK231.out 5).trans rfl
              have hcz37_6 : wc.cell? ⟨gb231, 6, none⟩ = some (.int .i64 a0_6) := (blk_cell BK231.out 6).trans rfl
              have hcz37_7 : wc.cell? ⟨gb231, 7, none⟩ = some (.int .i64 a0_7) := (blk_cell BK231.out 7).trans rfl
              have hfz37_0 := blk_frozen BK231.out 0
              have hfz37_1 := blk_frozen BK231.out 1
              have hfz37_2 := blk_frozen BK231.out 2
              have hfz37_3 := blk_frozen BK231.out 3
              have hfz37_4 := blk_frozen BK231.out 4
              have hfz37_5 := blk_frozen BK231.out 5
              have hfz37_6 := blk_frozen BK231.out 6
              have hfz37_7 := blk_frozen BK231.out 7
              go_wp2
              go_meet
              case rel => exact ⟨_, (true), (by first | rfl | (simp; done) | (simp [*]; done)), H', ⟨by have := HJ6.out; first | omega | exact Nat.le_refl _⟩, ⟨by (with_reducible repeat (first | refine blk_drewN ?_ _ | refine blk_drew ?_ | refine blk_alloc ?_ _)); exact BK231.out⟩, ⟨by (with_reducible repeat (first | refine blk_drewN ?_ _ | refine blk_drew ?_ | refine blk_alloc ?_ _)); exact BK237.out⟩, ⟨by repeat (first | (with_reducible first | exact HB.out | apply below_alloc | apply pw_below_drewN | apply below_drew1 | refine below_set ?_ GE231.out | refine below_set ?_ GE237.out) | exact HB.out)⟩⟩
            · rw [if_neg c34] at H
              have c34b0 : decide (t234 < a0_4) = false := decide_eq_false c34
              clear c34
              (first | rw [c34b0] | (simp only [i64_w, i32_w]; rw [c34b0]) | skip)
              by_cases c38 : t235 > (wrap64 (a0_5 - a0_6))
              · rw [if_pos c38] at H
                have c38b0 : decide ((wrap64 (a0_5 - a0_6)) < t235) = true := decide_eq_true c38
                clear c38
                have H' := Aside0.mk H
                clear H
                have hnb39 := NB237_231.out
                have hnc39 := NB231_237.out
                have hcz40_0 : wc.cell? ⟨gb237, 0, none⟩ = some (.int .i64 t233) := (blk_cell BK237.out 0).trans rfl
                have hcz40_1 : wc.cell? ⟨gb237, 1, none⟩ = some (.int .i64 t234) := (blk_cell BK237.out 1).trans rfl
                have hcz40_2 : wc.cell? ⟨gb237, 2, none⟩ = some (.int .i64 t235) := (blk_cell BK237.out 2).trans rfl
                have hfz40_0 := blk_frozen BK237.out 0
                have hfz40_1 := blk_frozen BK237.out 1
                have hfz40_2 := blk_frozen BK237.out 2
                have hcz41_0 : wc.cell? ⟨gb231, 0, none⟩ = some (.int .i64 a0_0) := (blk_cell BK231.out 0).trans rfl
                have hcz41_1 : wc.cell? ⟨gb231, 1, none⟩ = some (.int .i64 a0_1) := (blk_cell BK231.out 1).trans rfl
                have hcz41_2 : wc.cell? ⟨gb231, 2, none⟩ = some (.int .i64 a0_2) := (blk_cell BK231.out 2).trans rfl
                have hcz41_3 : wc.cell? ⟨gb231, 3, none⟩ = some (.int .i64 a0_3) := (blk_cell BK231.out 3).trans rfl
                have hcz41_4 : wc.cell? ⟨gb231, 4, none⟩ = some (.int .i64 a0_4) := (blk_cell BK231.out 4).trans rfl
                have hcz41_5 : wc.cell? ⟨gb231, 5, none⟩ = some (.int .i64 a0_5) := (blk_cell BK231.out 5).trans rfl
                have hcz41_6 : wc.cell? ⟨gb231, 6, none⟩ = some (.int .i64 a0_6) := (blk_cell BK231.out 6).trans rfl
                have hcz41_7 : wc.cell? ⟨gb231, 7, none⟩ = some (.int .i64 a0_7) := (blk_cell BK231.out 7).trans rfl
                have hfz41_0 := blk_frozen BK231.out 0
                have hfz41_1 := blk_frozen BK231.out 1
                have hfz41_2 := blk_frozen BK231.out 2
                have hfz41_3 := blk_frozen BK231.out 3
                have hfz41_4 := blk_frozen BK231.out 4
                have hfz41_5 := blk_frozen BK231.out 5
                have hfz41_6 := blk_frozen BK231.out 6
                have hfz41_7 := blk_frozen BK231.out 7
                go_wp2
                go_meet
                case rel => exact ⟨_, (true), (by first | rfl | (simp; done) | (simp [*]; done)), H', ⟨by have := HJ6.out; first | omega | exact Nat.le_refl _⟩, ⟨by (with_reducible repeat (first | refine blk_drewN ?_ _ | refine blk_drew ?_ | refine blk_alloc ?_ _)); exact BK231.out⟩, ⟨by (with_reducible repeat (first | refine blk_drewN ?_ _ | refine blk_drew ?_ | refine blk_alloc ?_ _)); exact BK237.out⟩, ⟨by repeat (first | (with_reducible first | exact HB.out | apply below_alloc | apply pw_below_drewN | apply below_drew1 | refine below_set ?_ GE231.out | refine below_set ?_ GE237.out) | exact HB.out)⟩⟩
              · rw [if_neg c38] at H
                have c38b0 : decide ((wrap64 (a0_5 - a0_6)) < t235) = false := decide_eq_false c38
                clear c38
                by_cases c42 : t235 < t234
                · rw [if_pos c42] at H
                  have c42b0 : decide (t235 < t234) = true := decide_eq_true c42
                  clear c42
                  have H' := Aside0.mk H
                  clear H
                  have hnb43 := NB237_231.out
                  have hnc43 := NB231_237.out
                  have hcz44_0 : wc.cell? ⟨gb237, 0, none⟩ = some (.int .i64 t233) := (blk_cell BK237.out 0).trans rfl
                  have hcz44_1 : wc.cell? ⟨gb237, 1, none⟩ = some (.int .i64 t234) := (blk_cell BK237.out 1).trans rfl
                  have hcz44_2 : wc.cell? ⟨gb237, 2, none⟩ = some (.int .i64 t235) := (blk_cell BK237.out 2).trans rfl
                  have hfz44_0 := blk_frozen BK237.out 0
                  have hfz44_1 := blk_frozen BK237.out 1
                  have hfz44_2 := blk_frozen BK237.out 2
                  have hcz45_0 : wc.cell? ⟨gb231, 0, none⟩ = some (.int .i64 a0_0) := (blk_cell BK231.out 0).trans rfl
                  have hcz45_1 : wc.cell? ⟨gb231, 1, none⟩ = some (.int .i64 a0_1) := (blk_cell BK231.out 1).trans rfl
                  have hcz45_2 : wc.cell? ⟨gb231, 2, none⟩ = some (.int .i64 a0_2) := (blk_cell BK231.out 2).trans rfl
                  have hcz45_3 : wc.cell? ⟨gb231, 3, none⟩ = some (.int .i64 a0_3) := (blk_cell BK231.out 3).trans rfl
                  have hcz45_4 : wc.cell? ⟨gb231, 4, none⟩ = some (.int .i64 a0_4) := (blk_cell BK231.out 4).trans rfl
                  have hcz45_5 : wc.cell? ⟨gb231, 5, none⟩ = some (.int .i64 a0_5) := (blk_cell BK231.out 5).trans rfl
                  have hcz45_6 : wc.cell? ⟨gb231, 6, none⟩ = some (.int .i64 a0_6) := (blk_cell BK231.out 6).trans rfl
                  have hcz45_7 : wc.cell? ⟨gb231, 7, none⟩ = some (.int .i64 a0_7) := (blk_cell BK231.out 7).trans rfl
                  have hfz45_0 := blk_frozen BK231.out 0
                  have hfz45_1 := blk_frozen BK231.out 1
                  have hfz45_2 := blk_frozen BK231.out 2
                  have hfz45_3 := blk_frozen BK231.out 3
                  have hfz45_4 := blk_frozen BK231.out 4
                  have hfz45_5 := blk_frozen BK231.out 5
                  have hfz45_6 := blk_frozen BK231.out 6
                  have hfz45_7 := blk_frozen BK231.out 7
                  go_wp2
                  go_meet
                  case rel => exact ⟨_, (true), (by first | rfl | (simp; done) | (simp [*]; done)), H', ⟨by have := HJ6.out; first | omega | exact Nat.le_refl _⟩, ⟨by (with_reducible repeat (first | refine blk_drewN ?_ _ | refine blk_drew ?_ | refine blk_alloc ?_ _)); exact BK231.out⟩, ⟨by (with_reducible repeat (first | refine blk_drewN ?_ _ | refine blk_drew ?_ | refine blk_alloc ?_ _)); exact BK237.out⟩, ⟨by repeat (first | (with_reducible first | exact HB.out | apply below_alloc | apply pw_below_drewN | apply below_drew1 | refine below_set ?_ GE231.out | refine below_set ?_ GE237.out) | exact HB.out)⟩⟩
                · rw [if_neg c42] at H
                  have c42b0 : decide (t235 < t234) = false := decide_eq_false c42
                  clear c42
                  replace H := Option.bind_eq_some_iff.mp H
                  obtain ⟨t240, A460, H⟩ := H
                  replace H : (if t240 = a1 then ((detmap_Who.f kj6 a0_0 a0_1 a0_2 a0_3 a0_4 a0_5 a0_6 a0_7 t233 t235).bind fun t241 => (mooringslaw08_DetBack.j1 kj6 a2 a3 true (t241 != a1) a0_0 a0_1 a0_2 a0_3 a0_4 a0_5 a0_6 a0_7 t233 t234 t235)) else (mooringslaw08_DetBack.j1 kj6 a2 a3 true true a0_0 a0_1 a0_2 a0_3 a0_4 a0_5 a0_6 a0_7 t233 t234 t235)) = some r := H
                  have A46 := Aside0.mk A460
                  clear A460
                  by_cases c47 : t240 = a1
                  · rw [if_pos c47] at H
                    have c47b0 : (t240 == a1) = true := beq_iff_eq.mpr c47
                    have c47b1 : (t240 != a1) = false := bne_eq_false_iff_eq.mpr c47
                    clear c47
                    replace H := Option.bind_eq_some_iff.mp H
                    obtain ⟨t241, A480, H⟩ := H
                    replace H : (mooringslaw08_DetBack.j1 kj6 a2 a3 true (t241 != a1) a0_0 a0_1 a0_2 a0_3 a0_4 a0_5 a0_6 a0_7 t233 t234 t235) = some r := H
                    have A48 := Aside0.mk A480
                    clear A480
                    have H' := Aside0.mk H
                    clear H
                    have hnb49 := NB237_231.out
                    have hnc49 := NB231_237.out
                    have hcz50_0 : wc.cell? ⟨gb237, 0, none⟩ = some (.int .i64 t233) := (blk_cell BK237.out 0).trans rfl
                    have hcz50_1 : wc.cell? ⟨gb237, 1, none⟩ = some (.int .i64 t234) := (blk_cell BK237.out 1).trans rfl
                    have hcz50_2 : wc.cell? ⟨gb237, 2, none⟩ = some (.int .i64 t235) := (blk_cell BK237.out 2).trans rfl
                    have hfz50_0 := blk_frozen BK237.out 0
                    have hfz50_1 := blk_frozen BK237.out 1
                    have hfz50_2 := blk_frozen BK237.out 2
                    have hcz51_0 : wc.cell? ⟨gb231, 0, none⟩ = some (.int .i64 a0_0) := (blk_cell BK231.out 0).trans rfl
                    have hcz51_1 : wc.cell? ⟨gb231, 1, none⟩ = some (.int .i64 a0_1) := (blk_cell BK231.out 1).trans rfl
                    have hcz51_2 : wc.cell? ⟨gb231, 2, none⟩ = some (.int .i64 a0_2) := (blk_cell BK231.out 2).trans rfl
                    have hcz51_3 : wc.cell? ⟨gb231, 3, none⟩ = some (.int .i64 a0_3) := (blk_cell BK231.out 3).trans rfl
                    have hcz51_4 : wc.cell? ⟨gb231, 4, none⟩ = some (.int .i64 a0_4) := (blk_cell BK231.out 4).trans rfl
                    have hcz51_5 : wc.cell? ⟨gb231, 5, none⟩ = some (.int .i64 a0_5) := (blk_cell BK231.out 5).trans rfl
                    have hcz51_6 : wc.cell? ⟨gb231, 6, none⟩ = some (.int .i64 a0_6) := (blk_cell BK231.out 6).trans rfl
                    have hcz51_7 : wc.cell? ⟨gb231, 7, none⟩ = some (.int .i64 a0_7) := (blk_cell BK231.out 7).trans rfl
                    have hfz51_0 := blk_frozen BK231.out 0
                    have hfz51_1 := blk_frozen BK231.out 1
                    have hfz51_2 := blk_frozen BK231.out 2
                    have hfz51_3 := blk_frozen BK231.out 3
                    have hfz51_4 := blk_frozen BK231.out 4
                    have hfz51_5 := blk_frozen BK231.out 5
                    have hfz51_6 := blk_frozen BK231.out 6
                    have hfz51_7 := blk_frozen BK231.out 7
                    go_wp2_with (first | (go_at_call 17; (with_reducible refine (detmap_Who.calls kj6 a0_0 a0_1 a0_2 a0_3 a0_4 a0_5 a0_6 a0_7 t233 t234 t240 _ A46.out).mono ?_); rintro e w52 ⟨rfl, hb⟩; have n0_ := Aside0.mk (blk_below (g := gb231) (o := .cells #[.int .i64 a0_0, .int .i64 a0_1, .int .i64 a0_2, .int .i64 a0_3, .int .i64 a0_4, .int .i64 a0_5, .int .i64 a0_6, .int .i64 a0_7] 25 (0, 0)) (by (with_reducible repeat (first | refine blk_drewN ?_ _ | refine blk_drew ?_ | refine blk_alloc ?_ _)); exact BK231.out) hb); have n1_ := Aside0.mk (blk_below (g := gb237) (o := .cells #[.int .i64 t233, .int .i64 t234, .int .i64 t235] 28 (0, 0)) (by (with_reducible repeat (first | refine blk_drewN ?_ _ | refine blk_drew ?_ | refine blk_alloc ?_ _)); exact BK237.out) hb); have n2_ := Aside0.mk (below_step (by repeat (first | (with_reducible first | exact HB.out | apply below_alloc | apply pw_below_drewN | apply below_drew1 | refine below_set ?_ GE231.out | refine below_set ?_ GE237.out) | exact HB.out)) hb); clear BK231; clear BK237; clear HB; have BK231 := n0_; have BK237 := n1_; have HB := n2_; clear n0_ n1_ n2_; (try clear hb); (try clear hb2); (try clear hk); (try clear hi); have hcz53_0 : w52.cell? ⟨gb231, 0, none⟩ = some (.int .i64 a0_0) := (blk_cell BK231.out 0).trans rfl; have hcz53_1 : w52.cell? ⟨gb231, 1, none⟩ = some (.int .i64 a0_1) := (blk_cell BK231.out 1).trans rfl; have hcz53_2 : w52.cell? ⟨gb231, 2, none⟩ = some (.int .i64 a0_2) := (blk_cell BK231.out 2).trans rfl; have hcz53_3 : w52.cell? ⟨gb231, 3, none⟩ = some (.int .i64 a0_3) := (blk_cell BK231.out 3).trans rfl; have hcz53_4 : w52.cell? ⟨gb231, 4, none⟩ = some (.int .i64 a0_4) := (blk_cell BK231.out 4).trans rfl; have hcz53_5 : w52.cell? ⟨gb231, 5, none⟩ = some (.int .i64 a0_5) := (blk_cell BK231.out 5).trans rfl; have hcz53_6 : w52.cell? ⟨gb231, 6, none⟩ = some (.int .i64 a0_6) := (blk_cell BK231.out 6).trans rfl; have hcz53_7 : w52.cell? ⟨gb231, 7, none⟩ = some (.int .i64 a0_7) := (blk_cell BK231.out 7).trans rfl; have hfz53_0 := blk_frozen BK231.out 0; have hfz53_1 := blk_frozen BK231.out 1; have hfz53_2 := blk_frozen BK231.out 2; have hfz53_3 := blk_frozen BK231.out 3; have hfz53_4 := blk_frozen BK231.out 4; have hfz53_5 := blk_frozen BK231.out 5; have hfz53_6 := blk_frozen BK231.out 6; have hfz53_7 := blk_frozen BK231.out 7; have hcz54_0 : w52.cell? ⟨gb237, 0, none⟩ = some (.int .i64 t233) := (blk_cell BK237.out 0).trans rfl; have hcz54_1 : w52.cell? ⟨gb237, 1, none⟩ = some (.int .i64 t234) := (blk_cell BK237.out 1).trans rfl; have hcz54_2 : w52.cell? ⟨gb237, 2, none⟩ = some (.int .i64 t235) := (blk_cell BK237.out 2).trans rfl; have hfz54_0 := blk_frozen BK237.out 0; have hfz54_1 := blk_frozen BK237.out 1; have hfz54_2 := blk_frozen BK237.out 2) | (go_at_call 17; (with_reducible refine (detmap_Who.calls kj6 a0_0 a0_1 a0_2 a0_3 a0_4 a0_5 a0_6 a0_7 t233 t235 t241 _ A48.out).mono ?_); rintro e w55 ⟨rfl, hb⟩; have n0_ := Aside0.mk (blk_below (g := gb231) (o := .cells #[.int .i64 a0_0, .int .i64 a0_1, .int .i64 a0_2, .int .i64 a0_3, .int .i64 a0_4, .int .i64 a0_5, .int .i64 a0_6, .int .i64 a0_7] 25 (0, 0)) (by (with_reducible repeat (first | refine blk_drewN ?_ _ | refine blk_drew ?_ | refine blk_alloc ?_ _)); exact BK231.out) hb); have n1_ := Aside0.mk (blk_below (g := gb237) (o := .cells #[.int .i64 t233, .int .i64 t234, .int .i64 t235] 28 (0, 0)) (by (with_reducible repeat (first | refine blk_drewN ?_ _ | refine blk_drew ?_ | refine blk_alloc ?_ _)); exact BK237.out) hb); have n2_ := Aside0.mk (below_step (by repeat (first | (with_reducible first | exact HB.out | apply below_alloc | apply pw_below_drewN | apply below_drew1 | refine below_set ?_ GE231.out | refine below_set ?_ GE237.out) | exact HB.out)) hb); clear BK231; clear BK237; clear HB; have BK231 := n0_; have BK237 := n1_; have HB := n2_; clear n0_ n1_ n2_; (try clear hb); (try clear hb2); (try clear hk); (try clear hi)))
                    go_meet
                    case rel => exact ⟨_, ((t241 != a1)), (by first | rfl | (simp; done) | (simp [*]; done)), H', ⟨by have := HJ6.out; first | omega | exact Nat.le_refl _⟩, ⟨by (with_reducible repeat (first | refine blk_drewN ?_ _ | refine blk_drew ?_ | refine blk_alloc ?_ _)); exact BK231.out⟩, ⟨by (with_reducible repeat (first | refine blk_drewN ?_ _ | refine blk_drew ?_ | refine blk_alloc ?_ _)); exact BK237.out⟩, ⟨by repeat (first | (with_reducible first | exact HB.out | apply below_alloc | apply pw_below_drewN | apply below_drew1 | refine below_set ?_ GE231.out | refine below_set ?_ GE237.out) | exact HB.out)⟩⟩
                  · rw [if_neg c47] at H
                    have c47b0 : (t240 == a1) = false := beq_eq_false_iff_ne.mpr c47
                    have c47b1 : (t240 != a1) = true := bne_iff_ne.mpr c47
                    have H' := Aside0.mk H
                    clear H
                    have hnb56 := NB237_231.out
                    have hnc56 := NB231_237.out
                    have hcz57_0 : wc.cell? ⟨gb237, 0, none⟩ = some (.int .i64 t233) := (blk_cell BK237.out 0).trans rfl
                    have hcz57_1 : wc.cell? ⟨gb237, 1, none⟩ = some (.int .i64 t234) := (blk_cell BK237.out 1).trans rfl
                    have hcz57_2 : wc.cell? ⟨gb237, 2, none⟩ = some (.int .i64 t235) := (blk_cell BK237.out 2).trans rfl
                    have hfz57_0 := blk_frozen BK237.out 0
                    have hfz57_1 := blk_frozen BK237.out 1
                    have hfz57_2 := blk_frozen BK237.out 2
                    have hcz58_0 : wc.cell? ⟨gb231, 0, none⟩ = some (.int .i64 a0_0) := (blk_cell BK231.out 0).trans rfl
                    have hcz58_1 : wc.cell? ⟨gb231, 1, none⟩ = some (.int .i64 a0_1) := (blk_cell BK231.out 1).trans rfl
                    have hcz58_2 : wc.cell? ⟨gb231, 2, none⟩ = some (.int .i64 a0_2) := (blk_cell BK231.out 2).trans rfl
                    have hcz58_3 : wc.cell? ⟨gb231, 3, none⟩ = some (.int .i64 a0_3) := (blk_cell BK231.out 3).trans rfl
                    have hcz58_4 : wc.cell? ⟨gb231, 4, none⟩ = some (.int .i64 a0_4) := (blk_cell BK231.out 4).trans rfl
                    have hcz58_5 : wc.cell? ⟨gb231, 5, none⟩ = some (.int .i64 a0_5) := (blk_cell BK231.out 5).trans rfl
                    have hcz58_6 : wc.cell? ⟨gb231, 6, none⟩ = some (.int .i64 a0_6) := (blk_cell BK231.out 6).trans rfl
                    have hcz58_7 : wc.cell? ⟨gb231, 7, none⟩ = some (.int .i64 a0_7) := (blk_cell BK231.out 7).trans rfl
                    have hfz58_0 := blk_frozen BK231.out 0
                    have hfz58_1 := blk_frozen BK231.out 1
                    have hfz58_2 := blk_frozen BK231.out 2
                    have hfz58_3 := blk_frozen BK231.out 3
                    have hfz58_4 := blk_frozen BK231.out 4
                    have hfz58_5 := blk_frozen BK231.out 5
                    have hfz58_6 := blk_frozen BK231.out 6
                    have hfz58_7 := blk_frozen BK231.out 7
                    go_wp2_with (first | (go_at_call 17; (with_reducible refine (detmap_Who.calls kj6 a0_0 a0_1 a0_2 a0_3 a0_4 a0_5 a0_6 a0_7 t233 t234 t240 _ A46.out).mono ?_); rintro e w59 ⟨rfl, hb⟩; have n0_ := Aside0.mk (blk_below (g := gb231) (o := .cells #[.int .i64 a0_0, .int .i64 a0_1, .int .i64 a0_2, .int .i64 a0_3, .int .i64 a0_4, .int .i64 a0_5, .int .i64 a0_6, .int .i64 a0_7] 25 (0, 0)) (by (with_reducible repeat (first | refine blk_drewN ?_ _ | refine blk_drew ?_ | refine blk_alloc ?_ _)); exact BK231.out) hb); have n1_ := Aside0.mk (blk_below (g := gb237) (o := .cells #[.int .i64 t233, .int .i64 t234, .int .i64 t235] 28 (0, 0)) (by (with_reducible repeat (first | refine blk_drewN ?_ _ | refine blk_drew ?_ | refine blk_alloc ?_ _)); exact BK237.out) hb); have n2_ := Aside0.mk (below_step (by repeat (first | (with_reducible first | exact HB.out | apply below_alloc | apply pw_below_drewN | apply below_drew1 | refine below_set ?_ GE231.out | refine below_set ?_ GE237.out) | exact HB.out)) hb); clear BK231; clear BK237; clear HB; have BK231 := n0_; have BK237 := n1_; have HB := n2_; clear n0_ n1_ n2_; (try clear hb); (try clear hb2); (try clear hk); (try clear hi)))
                    go_meet
                    case rel => exact ⟨_, (true), (by first | rfl | (simp; done) | (simp [*]; done)), H', ⟨by have := HJ6.out; first | omega | exact Nat.le_refl _⟩, ⟨by (with_reducible repeat (first | refine blk_drewN ?_ _ | refine blk_drew ?_ | refine blk_alloc ?_ _)); exact BK231.out⟩, ⟨by (with_reducible repeat (first | refine blk_drewN ?_ _ | refine blk_drew ?_ | refine blk_alloc ?_ _)); exact BK237.out⟩, ⟨by repeat (first | (with_reducible first | exact HB.out | apply below_alloc | apply pw_below_drewN | apply below_drew1 | refine below_set ?_ GE231.out | refine below_set ?_ GE237.out) | exact HB.out)⟩⟩
          · replace c33 := Bool.eq_false_iff.mpr c33
            subst c33
            have H1 : (mooringslaw08_DetBack.j1 kj6 a2 a3 false false a0_0 a0_1 a0_2 a0_3 a0_4 a0_5 a0_6 a0_7 t233 t234 t235) = some r := by rw [if_neg (show ¬ (false = true) by decide)] at H; exact H
            clear H
            have H := H1
            clear H1
            have H' := Aside0.mk H
            clear H
            go_wp2
            go_meet
            case rel => exact ⟨_, (false), (by first | rfl | (simp; done) | (simp [*]; done)), H', ⟨by have := HJ6.out; first | omega | exact Nat.le_refl _⟩, ⟨by (with_reducible repeat (first | refine blk_drewN ?_ _ | refine blk_drew ?_ | refine blk_alloc ?_ _)); exact BK231.out⟩, ⟨by (with_reducible repeat (first | refine blk_drewN ?_ _ | refine blk_drew ?_ | refine blk_alloc ?_ _)); exact BK237.out⟩, ⟨by repeat (first | (with_reducible first | exact HB.out | apply below_alloc | apply pw_below_drewN | apply below_drew1 | refine below_set ?_ GE231.out | refine below_set ?_ GE237.out) | exact HB.out)⟩⟩
        case rest =>
          clear HC32
          try clear c1
          try clear c2
          try clear p2
          try clear c3
          try clear c4
          try clear c5
          try clear p6
          try clear c10
          try clear c11
          try clear c13
          try clear c15
          try clear c17
          try clear c18
          try clear c18b0
          try clear c20
          try clear c25
          try clear c28
          try clear c31
          try clear c33
          try clear c34
          try clear c34b0
          try clear c35
          try clear c38
          try clear c38b0
          try clear c39
          try clear c42
          try clear c42b0
          try clear c43
          try clear c47
          try clear c47b0
          try clear c47b1
          try clear c49
          try clear c56
          try clear hcz10_0
          try clear hcz10_1
          try clear hcz10_2
          try clear hcz10_3
          try clear hcz10_4
          try clear hcz10_5
          try clear hcz10_6
          try clear hcz10_7
          try clear hcz14_0
          try clear hcz14_1
          try clear hcz14_2
          try clear hcz21_0
          try clear hcz21_1
          try clear hcz21_2
          try clear hcz21_3
          try clear hcz21_4
          try clear hcz21_5
          try clear hcz21_6
          try clear hcz21_7
          try clear hcz23_0
          try clear hcz23_1
          try clear hcz23_2
          try clear hcz23_3
          try clear hcz23_4
          try clear hcz23_5
          try clear hcz23_6
          try clear hcz23_7
          try clear hcz26_0
          try clear hcz26_1
          try clear hcz26_2
          try clear hcz26_3
          try clear hcz26_4
          try clear hcz26_5
          try clear hcz26_6
          try clear hcz26_7
          try clear hcz29_0
          try clear hcz29_1
          try clear hcz29_2
          try clear hcz29_3
          try clear hcz29_4
          try clear hcz29_5
          try clear hcz29_6
          try clear hcz29_7
          try clear hcz36_0
          try clear hcz36_1
          try clear hcz36_2
          try clear hcz37_0
          try clear hcz37_1
          try clear hcz37_2
          try clear hcz37_3
          try clear hcz37_4
          try clear hcz37_5
          try clear hcz37_6
          try clear hcz37_7
          try clear hcz40_0
          try clear hcz40_1
          try clear hcz40_2
          try clear hcz41_0
          try clear hcz41_1
          try clear hcz41_2
          try clear hcz41_3
          try clear hcz41_4
          try clear hcz41_5
          try clear hcz41_6
          try clear hcz41_7
          try clear hcz44_0
          try clear hcz44_1
          try clear hcz44_2
          try clear hcz45_0
          try clear hcz45_1
          try clear hcz45_2
          try clear hcz45_3
          try clear hcz45_4
          try clear hcz45_5
          try clear hcz45_6
          try clear hcz45_7
          try clear hcz50_0
          try clear hcz50_1
          try clear hcz50_2
          try clear hcz51_0
          try clear hcz51_1
          try clear hcz51_2
          try clear hcz51_3
          try clear hcz51_4
          try clear hcz51_5
          try clear hcz51_6
          try clear hcz51_7
          try clear hcz53_0
          try clear hcz53_1
          try clear hcz53_2
          try clear hcz53_3
          try clear hcz53_4
          try clear hcz53_5
          try clear hcz53_6
          try clear hcz53_7
          try clear hcz54_0
          try clear hcz54_1
          try clear hcz54_2
          try clear hcz57_0
          try clear hcz57_1
          try clear hcz57_2
          try clear hcz58_0
          try clear hcz58_1
          try clear hcz58_2
          try clear hcz58_3
          try clear hcz58_4
          try clear hcz58_5
          try clear hcz58_6
          try clear hcz58_7
          try clear hfz10_0
          try clear hfz10_1
          try clear hfz10_2
          try clear hfz10_3
          try clear hfz10_4
          try clear hfz10_5
          try clear hfz10_6
          try clear hfz10_7
          try clear hfz14_0
          try clear hfz14_1
          try clear hfz14_2
          try clear hfz21_0
          try clear hfz21_1
          try clear hfz21_2
          try clear hfz21_3
          try clear hfz21_4
          try clear hfz21_5
          try clear hfz21_6
          try clear hfz21_7
          try clear hfz23_0
          try clear hfz23_1
          try clear hfz23_2
          try clear hfz23_3
          try clear hfz23_4
          try clear hfz23_5
          try clear hfz23_6
          try clear hfz23_7
          try clear hfz26_0
          try clear hfz26_1
          try clear hfz26_2
          try clear hfz26_3
          try clear hfz26_4
          try clear hfz26_5
          try clear hfz26_6
          try clear hfz26_7
          try clear hfz29_0
          try clear hfz29_1
          try clear hfz29_2
          try clear hfz29_3
          try clear hfz29_4
          try clear hfz29_5
          try clear hfz29_6
          try clear hfz29_7
          try clear hfz36_0
          try clear hfz36_1
          try clear hfz36_2
          try clear hfz37_0
          try clear hfz37_1
          try clear hfz37_2
          try clear hfz37_3
          try clear hfz37_4
          try clear hfz37_5
          try clear hfz37_6
          try clear hfz37_7
          try clear hfz40_0
          try clear hfz40_1
          try clear hfz40_2
          try clear hfz41_0
          try clear hfz41_1
          try clear hfz41_2
          try clear hfz41_3
          try clear hfz41_4
          try clear hfz41_5
          try clear hfz41_6
          try clear hfz41_7
          try clear hfz44_0
          try clear hfz44_1
          try clear hfz44_2
          try clear hfz45_0
          try clear hfz45_1
          try clear hfz45_2
          try clear hfz45_3
          try clear hfz45_4
          try clear hfz45_5
          try clear hfz45_6
          try clear hfz45_7
          try clear hfz50_0
          try clear hfz50_1
          try clear hfz50_2
          try clear hfz51_0
          try clear hfz51_1
          try clear hfz51_2
          try clear hfz51_3
          try clear hfz51_4
          try clear hfz51_5
          try clear hfz51_6
          try clear hfz51_7
          try clear hfz53_0
          try clear hfz53_1
          try clear hfz53_2
          try clear hfz53_3
          try clear hfz53_4
          try clear hfz53_5
          try clear hfz53_6
          try clear hfz53_7
          try clear hfz54_0
          try clear hfz54_1
          try clear hfz54_2
          try clear hfz57_0
          try clear hfz57_1
          try clear hfz57_2
          try clear hfz58_0
          try clear hfz58_1
          try clear hfz58_2
          try clear hfz58_3
          try clear hfz58_4
          try clear hfz58_5
          try clear hfz58_6
          try clear hfz58_7
          try clear p2
          obtain ⟨kq, x85_31, rfl, HA, HJ31, BK231, BK237, HB⟩ := hcut
          cases kq with
          | zero => exact absurd HA.out (by simp [mooringslaw08_DetBack.j1])
          | succ kj31 =>
            have H := HA.out
            clear HA
            simp only [mooringslaw08_DetBack.j1] at H
            by_cases c60 : x85_31 = true
            · subst c60
              have H1 : (some false) = some r := by rw [if_pos rfl] at H; exact H
              clear H
              have H := H1
              clear H1
              obtain rfl := Option.some.inj H
              go_wp2
              go_ret
              exact ⟨by first | rfl | (simp [errW_none, errW_some] <;> rfl) | (simp [*, errW_none, errW_some] <;> rfl), by repeat (first | (with_reducible first | exact HB.out | apply below_alloc | apply pw_below_drewN | apply below_drew1 | refine below_set ?_ GE231.out | refine below_set ?_ GE237.out) | exact HB.out)⟩
            · replace c60 := Bool.eq_false_iff.mpr c60
              subst c60
              have H1 : ((detmap_Who.f kj31 a0_0 a0_1 a0_2 a0_3 a0_4 a0_5 a0_6 a0_7 a2 a3).bind fun t242 => ((detmap_Base.f kj31 a0_0 a0_1 a0_2 a0_3 a0_4 a0_5 a0_6 a0_7 t242).bind fun bt243 => (if t242 < 0 then (if t242 = (-1) then (if t236 = true then (if t233 = a2 then (if a3 ≥ t234 then (some (!(decide (a3 ≤ t235)))) else (some (!false))) else (some (!false))) else (some (!false))) else (some false)) else (if bt243.2.2.2 = true then (if bt243.1 = a2 then (if a3 ≥ bt243.2.1 then (some (decide (a3 ≤ bt243.2.2.1))) else (some false)) else (some false)) else (some false))))) = some r := by rw [if_neg (show ¬ (false = true) by decide)] at H; exact H
              clear H
              have H := H1
              clear H1
              replace H := Option.bind_eq_some_iff.mp H
              obtain ⟨t242, A610, H⟩ := H
              replace H : ((detmap_Base.f kj31 a0_0 a0_1 a0_2 a0_3 a0_4 a0_5 a0_6 a0_7 t242).bind fun bt243 => (if t242 < 0 then (if t242 = (-1) then (if t236 = true then (if t233 = a2 then (if a3 ≥ t234 then (some (!(decide (a3 ≤ t235)))) else (some (!false))) else (some (!false))) else (some (!false))) else (some false)) else (if bt243.2.2.2 = true then (if bt243.1 = a2 then (if a3 ≥ bt243.2.1 then (some (decide (a3 ≤ bt243.2.2.1))) else (some false)) else (some false)) else (some false)))) = some r := H
              have A61 := Aside0.mk A610
              clear A610
              replace H := Option.bind_eq_some_iff.mp H
              obtain ⟨⟨t243, t244, t245, t246⟩, A620, H⟩ := H
              replace H : (if t242 < 0 then (if t242 = (-1) then (if t236 = true then (if t233 = a2 then (if a3 ≥ t234 then (some (!(decide (a3 ≤ t235)))) else (some (!false))) else (some (!false))) else (some (!false))) else (some false)) else (if t246 = true then (if t243 = a2 then (if a3 ≥ t244 then (some (decide (a3 ≤ t245))) else (some false)) else (some false)) else (some false))) = some r := H
              have A62 := Aside0.mk A620
              clear A620
              by_cases c63 : t242 < 0
              · rw [if_pos c63] at H
                have c63b0 : decide (t242 < 0) = true := decide_eq_true c63
                clear c63
                by_cases c64 : t242 = (-1)
                · rw [if_pos c64] at H
                  have c64b0 : (t242 == (-1)) = true := beq_iff_eq.mpr c64
                  have c64b1 : (t242 != (-1)) = false := bne_eq_false_iff_eq.mpr c64
                  clear c64
                  by_cases c65 : t236 = true
                  · subst c65
                    have H1 : (if t233 = a2 then (if a3 ≥ t234 then (some (!(decide (a3 ≤ t235)))) else (some (!false))) else (some (!false))) = some r := by rw [if_pos rfl] at H; exact H
                    clear H
                    have H := H1
                    clear H1
                    by_cases c66 : t233 = a2
                    · rw [if_pos c66] at H
                      have c66b0 : (t233 == a2) = true := beq_iff_eq.mpr c66
                      have c66b1 : (t233 != a2) = false := bne_eq_false_iff_eq.mpr c66
                      clear c66
                      by_cases c67 : a3 ≥ t234
                      · rw [if_pos c67] at H
                        have c67b0 : decide (t234 ≤ a3) = true := decide_eq_true c67
                        clear c67
                        obtain rfl := Option.some.inj H
                        have hnb68 := NB231_237.out
                        have hnc68 := NB237_231.out
                        have hcz69_0 : wc.cell? ⟨gb231, 0, none⟩ = some (.int .i64 a0_0) := (blk_cell BK231.out 0).trans rfl
                        have hcz69_1 : wc.cell? ⟨gb231, 1, none⟩ = some (.int .i64 a0_1) := (blk_cell BK231.out 1).trans rfl
                        have hcz69_2 : wc.cell? ⟨gb231, 2, none⟩ = some (.int .i64 a0_2) := (blk_cell BK231.out 2).trans rfl
                        have hcz69_3 : wc.cell? ⟨gb231, 3, none⟩ = some (.int .i64 a0_3) := (blk_cell BK231.out 3).trans rfl
                        have hcz69_4 : wc.cell? ⟨gb231, 4, none⟩ = some (.int .i64 a0_4) := (blk_cell BK231.out 4).trans rfl
                        have hcz69_5 : wc.cell? ⟨gb231, 5, none⟩ = some (.int .i64 a0_5) := (blk_cell BK231.out 5).trans rfl
                        have hcz69_6 : wc.cell? ⟨gb231, 6, none⟩ = some (.int .i64 a0_6) := (blk_cell BK231.out 6).trans rfl
                        have hcz69_7 : wc.cell? ⟨gb231, 7, none⟩ = some (.int .i64 a0_7) := (blk_cell BK231.out 7).trans rfl
                        have hfz69_0 := blk_frozen BK231.out 0
                        have hfz69_1 := blk_frozen BK231.out 1
                        have hfz69_2 := blk_frozen BK231.out 2
                        have hfz69_3 := blk_frozen BK231.out 3
                        have hfz69_4 := blk_frozen BK231.out 4
                        have hfz69_5 := blk_frozen BK231.out 5
                        have hfz69_6 := blk_frozen BK231.out 6
                        have hfz69_7 := blk_frozen BK231.out 7
                        go_wp2_with (first | ((with_reducible refine gate_callee (f := 17) rfl ?_); refine goesL_ (some 89) rfl rfl Try.func17 (by kernel_rfl) rfl #[.agg #[.int .i64 a0_0, .int .i64 a0_1, .int .i64 a0_2, .int .i64 a0_3, .int .i64 a0_4, .int .i64 a0_5, .int .i64 a0_6, .int .i64 a0_7], .int .i64 a2, .int .i64 a3] rfl (by (try simp only [List.map_toArray, List.map_cons, List.map_nil]); first | done | rfl | (simp only [List.length_drop, List.length_take]; rfl)) ?_; (with_reducible refine (detmap_Who.calls kj31 a0_0 a0_1 a0_2 a0_3 a0_4 a0_5 a0_6 a0_7 a2 a3 t242 _ A61.out).mono ?_); rintro e w70 ⟨rfl, hb⟩; refine ⟨_, rfl, ?_⟩; have n0_ := Aside0.mk (blk_below (g := gb231) (o := .cells #[.int .i64 a0_0, .int .i64 a0_1, .int .i64 a0_2, .int .i64 a0_3, .int .i64 a0_4, .int .i64 a0_5, .int .i64 a0_6, .int .i64 a0_7] 25 (0, 0)) (by (with_reducible repeat (first | refine blk_drewN ?_ _ | refine blk_drew ?_ | refine blk_alloc ?_ _)); exact BK231.out) hb); have n1_ := Aside0.mk (blk_below (g := gb237) (o := .cells #[.int .i64 t233, .int .i64 t234, .int .i64 t235] 28 (0, 0)) (by (with_reducible repeat (first | refine blk_drewN ?_ _ | refine blk_drew ?_ | refine blk_alloc ?_ _)); exact BK237.out) hb); have n2_ := Aside0.mk (below_step (by repeat (first | (with_reducible first | exact HB.out | apply below_alloc | apply pw_below_drewN | apply below_drew1 | refine below_set ?_ GE231.out | refine below_set ?_ GE237.out) | exact HB.out)) hb); clear BK231; clear BK237; clear HB; have BK231 := n0_; have BK237 := n1_; have HB := n2_; clear n0_ n1_ n2_; (try clear hb); (try clear hb2); (try clear hk); (try clear hi); have hcz71_0 : w70.cell? ⟨gb231, 0, none⟩ = some (.int .i64 a0_0) := (blk_cell BK231.out 0).trans rfl; have hcz71_1 : w70.cell? ⟨gb231, 1, none⟩ = some (.int .i64 a0_1) := (blk_cell BK231.out 1).trans rfl; have hcz71_2 : w70.cell? ⟨gb231, 2, none⟩ = some (.int .i64 a0_2) := (blk_cell BK231.out 2).trans rfl; have hcz71_3 : w70.cell? ⟨gb231, 3, none⟩ = some (.int .i64 a0_3) := (blk_cell BK231.out 3).trans rfl; have hcz71_4 : w70.cell? ⟨gb231, 4, none⟩ = some (.int .i64 a0_4) := (blk_cell BK231.out 4).trans rfl; have hcz71_5 : w70.cell? ⟨gb231, 5, none⟩ = some (.int .i64 a0_5) := (blk_cell BK231.out 5).trans rfl; have hcz71_6 : w70.cell? ⟨gb231, 6, none⟩ = some (.int .i64 a0_6) := (blk_cell BK231.out 6).trans rfl; have hcz71_7 : w70.cell? ⟨gb231, 7, none⟩ = some (.int .i64 a0_7) := (blk_cell BK231.out 7).trans rfl; have hfz71_0 := blk_frozen BK231.out 0; have hfz71_1 := blk_frozen BK231.out 1; have hfz71_2 := blk_frozen BK231.out 2; have hfz71_3 := blk_frozen BK231.out 3; have hfz71_4 := blk_frozen BK231.out 4; have hfz71_5 := blk_frozen BK231.out 5; have hfz71_6 := blk_frozen BK231.out 6; have hfz71_7 := blk_frozen BK231.out 7) | ((with_reducible refine gate_callee (f := 11) rfl ?_); refine goesL_ (some 93) rfl rfl Try.func11 (by kernel_rfl) rfl #[.agg #[.int .i64 a0_0, .int .i64 a0_1, .int .i64 a0_2, .int .i64 a0_3, .int .i64 a0_4, .int .i64 a0_5, .int .i64 a0_6, .int .i64 a0_7], .int .i64 t242] rfl (by (try simp only [List.map_toArray, List.map_cons, List.map_nil]); first | done | rfl | (simp only [List.length_drop, List.length_take]; rfl)) ?_; (with_reducible refine (detmap_Base.calls kj31 a0_0 a0_1 a0_2 a0_3 a0_4 a0_5 a0_6 a0_7 t242 t243 t244 t245 t246 _ A62.out).mono ?_); rintro e w72 ⟨rfl, hb⟩; refine ⟨_, rfl, ?_⟩; have n0_ := Aside0.mk (blk_below (g := gb231) (o := .cells #[.int .i64 a0_0, .int .i64 a0_1, .int .i64 a0_2, .int .i64 a0_3, .int .i64 a0_4, .int .i64 a0_5, .int .i64 a0_6, .int .i64 a0_7] 25 (0, 0)) (by (with_reducible repeat (first | refine blk_drewN ?_ _ | refine blk_drew ?_ | refine blk_alloc ?_ _)); exact BK231.out) hb); have n1_ := Aside0.mk (blk_below (g := gb237) (o := .cells #[.int .i64 t233, .int .i64 t234, .int .i64 t235] 28 (0, 0)) (by (with_reducible repeat (first | refine blk_drewN ?_ _ | refine blk_drew ?_ | refine blk_alloc ?_ _)); exact BK237.out) hb); have n2_ := Aside0.mk (below_step (by repeat (first | (with_reducible first | exact HB.out | apply below_alloc | apply pw_below_drewN | apply below_drew1 | refine below_set ?_ GE231.out | refine below_set ?_ GE237.out) | exact HB.out)) hb); clear BK231; clear BK237; clear HB; have BK231 := n0_; have BK237 := n1_; have HB := n2_; clear n0_ n1_ n2_; (try clear hb); (try clear hb2); (try clear hk); (try clear hi)) | ((with_reducible refine gate_dst (N := 13) rfl ?_); refine box_event ?hg (N := 13) ?hd (cs := #[.int .i64 0, .int .i64 0, .int .i64 0]) (t := 28) ?hr ?_; (case hd => rfl); (case hg => rfl); (case hr => first | (go_simp; done) | (go_simp; rfl)); intro gb247 hg w73 hbox hb; have n0_ := Aside0.mk (blk_below (g := gb231) (o := .cells #[.int .i64 a0_0, .int .i64 a0_1, .int .i64 a0_2, .int .i64 a0_3, .int .i64 a0_4, .int .i64 a0_5, .int .i64 a0_6, .int .i64 a0_7] 25 (0, 0)) (by (with_reducible repeat (first | refine blk_drewN ?_ _ | refine blk_drew ?_ | refine blk_alloc ?_ _)); exact BK231.out) hb); have n1_ := Aside0.mk (blk_below (g := gb237) (o := .cells #[.int .i64 t233, .int .i64 t234, .int .i64 t235] 28 (0, 0)) (by (with_reducible repeat (first | refine blk_drewN ?_ _ | refine blk_drew ?_ | refine blk_alloc ?_ _)); exact BK237.out) hb); have n2_ := Aside0.mk (below_step (by repeat (first | (with_reducible first | exact HB.out | apply below_alloc | apply pw_below_drewN | apply below_drew1 | refine below_set ?_ GE231.out | refine below_set ?_ GE237.out) | exact HB.out)) hb); have n3_ := Aside0.mk (hbox); have n4_ := Aside0.mk ((by rw [hg]; exact (below_size (by repeat (first | (with_reducible first | exact HB.out | apply below_alloc | apply pw_below_drewN | apply below_drew1 | refine below_set ?_ GE231.out | refine below_set ?_ GE237.out) | exact HB.out))) : w.heap.size ≤ gb247)); have n5_ := Aside0.mk ((by rw [hg]; exact (below_size (by repeat (first | (with_reducible first | exact HB.out | apply below_alloc | apply pw_below_drewN | apply below_drew1 | refine below_set ?_ GE231.out | refine below_set ?_ GE237.out) | exact HB.out))) : w.heap.size ≤ gb247)); have n6_ := Aside0.mk ((by rw [hg]; exact Nat.ne_of_lt (blk_lt (g := gb231) (o := .cells #[.int .i64 a0_0, .int .i64 a0_1, .int .i64 a0_2, .int .i64 a0_3, .int .i64 a0_4, .int .i64 a0_5, .int .i64 a0_6, .int .i64 a0_7] 25 (0, 0)) (by (with_reducible repeat (first | refine blk_drewN ?_ _ | refine blk_drew ?_ | refine blk_alloc ?_ _)); exact BK231.out)) : gb231 ≠ gb247)); have n7_ := Aside0.mk ((by rw [hg]; exact Nat.ne_of_gt (blk_lt (g := gb231) (o := .cells #[.int .i64 a0_0, .int .i64 a0_1, .int .i64 a0_2, .int .i64 a0_3, .int .i64 a0_4, .int .i64 a0_5, .int .i64 a0_6, .int .i64 a0_7] 25 (0, 0)) (by (with_reducible repeat (first | refine blk_drewN ?_ _ | refine blk_drew ?_ | refine blk_alloc ?_ _)); exact BK231.out)) : gb247 ≠ gb231)); have n8_ := Aside0.mk ((by rw [hg]; exact Nat.ne_of_lt (blk_lt (g := gb237) (o := .cells #[.int .i64 t233, .int .i64 t234, .int .i64 t235] 28 (0, 0)) (by (with_reducible repeat (first | refine blk_drewN ?_ _ | refine blk_drew ?_ | refine blk_alloc ?_ _)); exact BK237.out)) : gb237 ≠ gb247)); have n9_ := Aside0.mk ((by rw [hg]; exact Nat.ne_of_gt (blk_lt (g := gb237) (o := .cells #[.int .i64 t233, .int .i64 t234, .int .i64 t235] 28 (0, 0)) (by (with_reducible repeat (first | refine blk_drewN ?_ _ | refine blk_drew ?_ | refine blk_alloc ?_ _)); exact BK237.out)) : gb247 ≠ gb237)); clear BK231; clear BK237; clear HB; have BK231 := n0_; have BK237 := n1_; have HB := n2_; have BK247 := n3_; have GW247 := n4_; have GE247 := n5_; have NB231_247 := n6_; have NB247_231 := n7_; have NB237_247 := n8_; have NB247_237 := n9_; clear n0_ n1_ n2_ n3_ n4_ n5_ n6_ n7_ n8_ n9_; clear hb hbox hg; have hnb74 := NB247_231.out; have hnc74 := NB231_247.out; have hnb75 := NB247_237.out; have hnc75 := NB237_247.out; have hcz76_0 : w73.cell? ⟨gb247, 0, none⟩ = some (.int .i64 0) := (blk_cell BK247.out 0).trans rfl; have hcz76_1 : w73.cell? ⟨gb247, 1, none⟩ = some (.int .i64 0) := (blk_cell BK247.out 1).trans rfl; have hcz76_2 : w73.cell? ⟨gb247, 2, none⟩ = some (.int .i64 0) := (blk_cell BK247.out 2).trans rfl; have hfz76_0 := blk_frozen BK247.out 0; have hfz76_1 := blk_frozen BK247.out 1; have hfz76_2 := blk_frozen BK247.out 2; have hcz77_0 : w73.cell? ⟨gb237, 0, none⟩ = some (.int .i64 t233) := (blk_cell BK237.out 0).trans rfl; have hcz77_1 : w73.cell? ⟨gb237, 1, none⟩ = some (.int .i64 t234) := (blk_cell BK237.out 1).trans rfl; have hcz77_2 : w73.cell? ⟨gb237, 2, none⟩ = some (.int .i64 t235) := (blk_cell BK237.out 2).trans rfl; have hfz77_0 := blk_frozen BK237.out 0; have hfz77_1 := blk_frozen BK237.out 1; have hfz77_2 := blk_frozen BK237.out 2))
                        go_ret
                        exact ⟨by first | rfl | (simp [errW_none, errW_some] <;> rfl) | (simp [*, errW_none, errW_some] <;> rfl), by repeat (first | (with_reducible first | exact HB.out | apply below_alloc | apply pw_below_drewN | apply below_drew1 | refine below_set ?_ GE231.out | refine below_set ?_ GE237.out | refine below_set ?_ GE247.out) | exact HB.out)⟩
                      · rw [if_neg c67] at H
                        have c67b0 : decide (t234 ≤ a3) = false := decide_eq_false c67
                        clear c67
                        obtain rfl := Option.some.inj H
                        have hnb78 := NB231_237.out
                        have hnc78 := NB237_231.out
                        have hcz79_0 : wc.cell? ⟨gb231, 0, none⟩ = some (.int .i64 a0_0) := (blk_cell BK231.out 0).trans rfl
                        have hcz79_1 : wc.cell? ⟨gb231, 1, none⟩ = some (.int .i64 a0_1) := (blk_cell BK231.out 1).trans rfl
                        have hcz79_2 : wc.cell? ⟨gb231, 2, none⟩ = some (.int .i64 a0_2) := (blk_cell BK231.out 2).trans rfl
                        have hcz79_3 : wc.cell? ⟨gb231, 3, none⟩ = some (.int .i64 a0_3) := (blk_cell BK231.out 3).trans rfl
                        have hcz79_4 : wc.cell? ⟨gb231, 4, none⟩ = some (.int .i64 a0_4) := (blk_cell BK231.out 4).trans rfl
                        have hcz79_5 : wc.cell? ⟨gb231, 5, none⟩ = some (.int .i64 a0_5) := (blk_cell BK231.out 5).trans rfl
                        have hcz79_6 : wc.cell? ⟨gb231, 6, none⟩ = some (.int .i64 a0_6) := (blk_cell BK231.out 6).trans rfl
                        have hcz79_7 : wc.cell? ⟨gb231, 7, none⟩ = some (.int .i64 a0_7) := (blk_cell BK231.out 7).trans rfl
                        have hfz79_0 := blk_frozen BK231.out 0
                        have hfz79_1 := blk_frozen BK231.out 1
                        have hfz79_2 := blk_frozen BK231.out 2
                        have hfz79_3 := blk_frozen BK231.out 3
                        have hfz79_4 := blk_frozen BK231.out 4
                        have hfz79_5 := blk_frozen BK231.out 5
                        have hfz79_6 := blk_frozen BK231.out 6
                        have hfz79_7 := blk_frozen BK231.out 7
                        go_wp2_with (first | ((with_reducible refine gate_callee (f := 17) rfl ?_); refine goesL_ (some 89) rfl rfl Try.func17 (by kernel_rfl) rfl #[.agg #[.int .i64 a0_0, .int .i64 a0_1, .int .i64 a0_2, .int .i64 a0_3, .int .i64 a0_4, .int .i64 a0_5, .int .i64 a0_6, .int .i64 a0_7], .int .i64 a2, .int .i64 a3] rfl (by (try simp only [List.map_toArray, List.map_cons, List.map_nil]); first | done | rfl | (simp only [List.length_drop, List.length_take]; rfl)) ?_; (with_reducible refine (detmap_Who.calls kj31 a0_0 a0_1 a0_2 a0_3 a0_4 a0_5 a0_6 a0_7 a2 a3 t242 _ A61.out).mono ?_); rintro e w80 ⟨rfl, hb⟩; refine ⟨_, rfl, ?_⟩; have n0_ := Aside0.mk (blk_below (g := gb231) (o := .cells #[.int .i64 a0_0, .int .i64 a0_1, .int .i64 a0_2, .int .i64 a0_3, .int .i64 a0_4, .int .i64 a0_5, .int .i64 a0_6, .int .i64 a0_7] 25 (0, 0)) (by (with_reducible repeat (first | refine blk_drewN ?_ _ | refine blk_drew ?_ | refine blk_alloc ?_ _)); exact BK231.out) hb); have n1_ := Aside0.mk (blk_below (g := gb237) (o := .cells #[.int .i64 t233, .int .i64 t234, .int .i64 t235] 28 (0, 0)) (by (with_reducible repeat (first | refine blk_drewN ?_ _ | refine blk_drew ?_ | refine blk_alloc ?_ _)); exact BK237.out) hb); have n2_ := Aside0.mk (below_step (by repeat (first | (with_reducible first | exact HB.out | apply below_alloc | apply pw_below_drewN | apply below_drew1 | refine below_set ?_ GE231.out | refine below_set ?_ GE237.out) | exact HB.out)) hb); clear BK231; clear BK237; clear HB; have BK231 := n0_; have BK237 := n1_; have HB := n2_; clear n0_ n1_ n2_; (try clear hb); (try clear hb2); (try clear hk); (try clear hi); have hcz81_0 : w80.cell? ⟨gb231, 0, none⟩ = some (.int .i64 a0_0) := (blk_cell BK231.out 0).trans rfl; have hcz81_1 : w80.cell? ⟨gb231, 1, none⟩ = some (.int .i64 a0_1) := (blk_cell BK231.out 1).trans rfl; have hcz81_2 : w80.cell? ⟨gb231, 2, none⟩ = some (.int .i64 a0_2) := (blk_cell BK231.out 2).trans rfl; have hcz81_3 : w80.cell? ⟨gb231, 3, none⟩ = some (.int .i64 a0_3) := (blk_cell BK231.out 3).trans rfl; have hcz81_4 : w80.cell? ⟨gb231, 4, none⟩ = some (.int .i64 a0_4) := (blk_cell BK231.out 4).trans rfl; have hcz81_5 : w80.cell? ⟨gb231, 5, none⟩ = some (.int .i64 a0_5) := (blk_cell BK231.out 5).trans rfl; have hcz81_6 : w80.cell? ⟨gb231, 6, none⟩ = some (.int .i64 a0_6) := (blk_cell BK231.out 6).trans rfl; have hcz81_7 : w80.cell? ⟨gb231, 7, none⟩ = some (.int .i64 a0_7) := (blk_cell BK231.out 7).trans rfl; have hfz81_0 := blk_frozen BK231.out 0; have hfz81_1 := blk_frozen BK231.out 1; have hfz81_2 := blk_frozen BK231.out 2; have hfz81_3 := blk_frozen BK231.out 3; have hfz81_4 := blk_frozen BK231.out 4; have hfz81_5 := blk_frozen BK231.out 5; have hfz81_6 := blk_frozen BK231.out 6; have hfz81_7 := blk_frozen BK231.out 7) | ((with_reducible refine gate_callee (f := 11) rfl ?_); refine goesL_ (some 93) rfl rfl Try.func11 (by kernel_rfl) rfl #[.agg #[.int .i64 a0_0, .int .i64 a0_1, .int .i64 a0_2, .int .i64 a0_3, .int .i64 a0_4, .int .i64 a0_5, .int .i64 a0_6, .int .i64 a0_7], .int .i64 t242] rfl (by (try simp only [List.map_toArray, List.map_cons, List.map_nil]); first | done | rfl | (simp only [List.length_drop, List.length_take]; rfl)) ?_; (with_reducible refine (detmap_Base.calls kj31 a0_0 a0_1 a0_2 a0_3 a0_4 a0_5 a0_6 a0_7 t242 t243 t244 t245 t246 _ A62.out).mono ?_); rintro e w82 ⟨rfl, hb⟩; refine ⟨_, rfl, ?_⟩; have n0_ := Aside0.mk (blk_below (g := gb231) (o := .cells #[.int .i64 a0_0, .int .i64 a0_1, .int .i64 a0_2, .int .i64 a0_3, .int .i64 a0_4, .int .i64 a0_5, .int .i64 a0_6, .int .i64 a0_7] 25 (0, 0)) (by (with_reducible repeat (first | refine blk_drewN ?_ _ | refine blk_drew ?_ | refine blk_alloc ?_ _)); exact BK231.out) hb); have n1_ := Aside0.mk (blk_below (g := gb237) (o := .cells #[.int .i64 t233, .int .i64 t234, .int .i64 t235] 28 (0, 0)) (by (with_reducible repeat (first | refine blk_drewN ?_ _ | refine blk_drew ?_ | refine blk_alloc ?_ _)); exact BK237.out) hb); have n2_ := Aside0.mk (below_step (by repeat (first | (with_reducible first | exact HB.out | apply below_alloc | apply pw_below_drewN | apply below_drew1 | refine below_set ?_ GE231.out | refine below_set ?_ GE237.out) | exact HB.out)) hb); clear BK231; clear BK237; clear HB; have BK231 := n0_; have BK237 := n1_; have HB := n2_; clear n0_ n1_ n2_; (try clear hb); (try clear hb2); (try clear hk); (try clear hi)) | ((with_reducible refine gate_dst (N := 13) rfl ?_); refine box_event ?hg (N := 13) ?hd (cs := #[.int .i64 0, .int .i64 0, .int .i64 0]) (t := 28) ?hr ?_; (case hd => rfl); (case hg => rfl); (case hr => first | (go_simp; done) | (go_simp; rfl)); intro gb247 hg w83 hbox hb; have n0_ := Aside0.mk (blk_below (g := gb231) (o := .cells #[.int .i64 a0_0, .int .i64 a0_1, .int .i64 a0_2, .int .i64 a0_3, .int .i64 a0_4, .int .i64 a0_5, .int .i64 a0_6, .int .i64 a0_7] 25 (0, 0)) (by (with_reducible repeat (first | refine blk_drewN ?_ _ | refine blk_drew ?_ | refine blk_alloc ?_ _)); exact BK231.out) hb); have n1_ := Aside0.mk (blk_below (g := gb237) (o := .cells #[.int .i64 t233, .int .i64 t234, .int .i64 t235] 28 (0, 0)) (by (with_reducible repeat (first | refine blk_drewN ?_ _ | refine blk_drew ?_ | refine blk_alloc ?_ _)); exact BK237.out) hb); have n2_ := Aside0.mk (below_step (by repeat (first | (with_reducible first | exact HB.out | apply below_alloc | apply pw_below_drewN | apply below_drew1 | refine below_set ?_ GE231.out | refine below_set ?_ GE237.out) | exact HB.out)) hb); have n3_ := Aside0.mk (hbox); have n4_ := Aside0.mk ((by rw [hg]; exact (below_size (by repeat (first | (with_reducible first | exact HB.out | apply below_alloc | apply pw_below_drewN | apply below_drew1 | refine below_set ?_ GE231.out | refine below_set ?_ GE237.out) | exact HB.out))) : w.heap.size ≤ gb247)); have n5_ := Aside0.mk ((by rw [hg]; exact (below_size (by repeat (first | (with_reducible first | exact HB.out | apply below_alloc | apply pw_below_drewN | apply below_drew1 | refine below_set ?_ GE231.out | refine below_set ?_ GE237.out) | exact HB.out))) : w.heap.size ≤ gb247)); have n6_ := Aside0.mk ((by rw [hg]; exact Nat.ne_of_lt (blk_lt (g := gb231) (o := .cells #[.int .i64 a0_0, .int .i64 a0_1, .int .i64 a0_2, .int .i64 a0_3, .int .i64 a0_4, .int .i64 a0_5, .int .i64 a0_6, .int .i64 a0_7] 25 (0, 0)) (by (with_reducible repeat (first | refine blk_drewN ?_ _ | refine blk_drew ?_ | refine blk_alloc ?_ _)); exact BK231.out)) : gb231 ≠ gb247)); have n7_ := Aside0.mk ((by rw [hg]; exact Nat.ne_of_gt (blk_lt (g := gb231) (o := .cells #[.int .i64 a0_0, .int .i64 a0_1, .int .i64 a0_2, .int .i64 a0_3, .int .i64 a0_4, .int .i64 a0_5, .int .i64 a0_6, .int .i64 a0_7] 25 (0, 0)) (by (with_reducible repeat (first | refine blk_drewN ?_ _ | refine blk_drew ?_ | refine blk_alloc ?_ _)); exact BK231.out)) : gb247 ≠ gb231)); have n8_ := Aside0.mk ((by rw [hg]; exact Nat.ne_of_lt (blk_lt (g := gb237) (o := .cells #[.int .i64 t233, .int .i64 t234, .int .i64 t235] 28 (0, 0)) (by (with_reducible repeat (first | refine blk_drewN ?_ _ | refine blk_drew ?_ | refine blk_alloc ?_ _)); exact BK237.out)) : gb237 ≠ gb247)); have n9_ := Aside0.mk ((by rw [hg]; exact Nat.ne_of_gt (blk_lt (g := gb237) (o := .cells #[.int .i64 t233, .int .i64 t234, .int .i64 t235] 28 (0, 0)) (by (with_reducible repeat (first | refine blk_drewN ?_ _ | refine blk_drew ?_ | refine blk_alloc ?_ _)); exact BK237.out)) : gb247 ≠ gb237)); clear BK231; clear BK237; clear HB; have BK231 := n0_; have BK237 := n1_; have HB := n2_; have BK247 := n3_; have GW247 := n4_; have GE247 := n5_; have NB231_247 := n6_; have NB247_231 := n7_; have NB237_247 := n8_; have NB247_237 := n9_; clear n0_ n1_ n2_ n3_ n4_ n5_ n6_ n7_ n8_ n9_; clear hb hbox hg; have hnb84 := NB247_231.out; have hnc84 := NB231_247.out; have hnb85 := NB247_237.out; have hnc85 := NB237_247.out; have hcz86_0 : w83.cell? ⟨gb247, 0, none⟩ = some (.int .i64 0) := (blk_cell BK247.out 0).trans rfl; have hcz86_1 : w83.cell? ⟨gb247, 1, none⟩ = some (.int .i64 0) := (blk_cell BK247.out 1).trans rfl; have hcz86_2 : w83.cell? ⟨gb247, 2, none⟩ = some (.int .i64 0) := (blk_cell BK247.out 2).trans rfl; have hfz86_0 := blk_frozen BK247.out 0; have hfz86_1 := blk_frozen BK247.out 1; have hfz86_2 := blk_frozen BK247.out 2; have hcz87_0 : w83.cell? ⟨gb237, 0, none⟩ = some (.int .i64 t233) := (blk_cell BK237.out 0).trans rfl; have hcz87_1 : w83.cell? ⟨gb237, 1, none⟩ = some (.int .i64 t234) := (blk_cell BK237.out 1).trans rfl; have hcz87_2 : w83.cell? ⟨gb237, 2, none⟩ = some (.int .i64 t235) := (blk_cell BK237.out 2).trans rfl; have hfz87_0 := blk_frozen BK237.out 0; have hfz87_1 := blk_frozen BK237.out 1; have hfz87_2 := blk_frozen BK237.out 2))
                        go_ret
                        exact ⟨by first | rfl | (simp [errW_none, errW_some] <;> rfl) | (simp [*, errW_none, errW_some] <;> rfl), by repeat (first | (with_reducible first | exact HB.out | apply below_alloc | apply pw_below_drewN | apply below_drew1 | refine below_set ?_ GE231.out | refine below_set ?_ GE237.out | refine below_set ?_ GE247.out) | exact HB.out)⟩
                    · rw [if_neg c66] at H
                      have c66b0 : (t233 == a2) = false := beq_eq_false_iff_ne.mpr c66
                      have c66b1 : (t233 != a2) = true := bne_iff_ne.mpr c66
                      obtain rfl := Option.some.inj H
                      have hnb88 := NB231_237.out
                      have hnc88 := NB237_231.out
                      have hcz89_0 : wc.cell? ⟨gb231, 0, none⟩ = some (.int .i64 a0_0) := (blk_cell BK231.out 0).trans rfl
                      have hcz89_1 : wc.cell? ⟨gb231, 1, none⟩ = some (.int .i64 a0_1) := (blk_cell BK231.out 1).trans rfl
                      have hcz89_2 : wc.cell? ⟨gb231, 2, none⟩ = some (.int .i64 a0_2) := (blk_cell BK231.out 2).trans rfl
                      have hcz89_3 : wc.cell? ⟨gb231, 3, none⟩ = some (.int .i64 a0_3) := (blk_cell BK231.out 3).trans rfl
                      have hcz89_4 : wc.cell? ⟨gb231, 4, none⟩ = some (.int .i64 a0_4) := (blk_cell BK231.out 4).trans rfl
                      have hcz89_5 : wc.cell? ⟨gb231, 5, none⟩ = some (.int .i64 a0_5) := (blk_cell BK231.out 5).trans rfl
                      have hcz89_6 : wc.cell? ⟨gb231, 6, none⟩ = some (.int .i64 a0_6) := (blk_cell BK231.out 6).trans rfl
                      have hcz89_7 : wc.cell? ⟨gb231, 7, none⟩ = some (.int .i64 a0_7) := (blk_cell BK231.out 7).trans rfl
                      have hfz89_0 := blk_frozen BK231.out 0
                      have hfz89_1 := blk_frozen BK231.out 1
                      have hfz89_2 := blk_frozen BK231.out 2
                      have hfz89_3 := blk_frozen BK231.out 3
                      have hfz89_4 := blk_frozen BK231.out 4
                      have hfz89_5 := blk_frozen BK231.out 5
                      have hfz89_6 := blk_frozen BK231.out 6
                      have hfz89_7 := blk_frozen BK231.out 7
                      go_wp2_with (first | ((with_reducible refine gate_callee (f := 17) rfl ?_); refine goesL_ (some 89) rfl rfl Try.func17 (by kernel_rfl) rfl #[.agg #[.int .i64 a0_0, .int .i64 a0_1, .int .i64 a0_2, .int .i64 a0_3, .int .i64 a0_4, .int .i64 a0_5, .int .i64 a0_6, .int .i64 a0_7], .int .i64 a2, .int .i64 a3] rfl (by (try simp only [List.map_toArray, List.map_cons, List.map_nil]); first | done | rfl | (simp only [List.length_drop, List.length_take]; rfl)) ?_; (with_reducible refine (detmap_Who.calls kj31 a0_0 a0_1 a0_2 a0_3 a0_4 a0_5 a0_6 a0_7 a2 a3 t242 _ A61.out).mono ?_); rintro e w90 ⟨rfl, hb⟩; refine ⟨_, rfl, ?_⟩; have n0_ := Aside0.mk (blk_below (g := gb231) (o := .cells #[.int .i64 a0_0, .int .i64 a0_1, .int .i64 a0_2, .int .i64 a0_3, .int .i64 a0_4, .int .i64 a0_5, .int .i64 a0_6, .int .i64 a0_7] 25 (0, 0)) (by (with_reducible repeat (first | refine blk_drewN ?_ _ | refine blk_drew ?_ | refine blk_alloc ?_ _)); exact BK231.out) hb); have n1_ := Aside0.mk (blk_below (g := gb237) (o := .cells #[.int .i64 t233, .int .i64 t234, .int .i64 t235] 28 (0, 0)) (by (with_reducible repeat (first | refine blk_drewN ?_ _ | refine blk_drew ?_ | refine blk_alloc ?_ _)); exact BK237.out) hb); have n2_ := Aside0.mk (below_step (by repeat (first | (with_reducible first | exact HB.out | apply below_alloc | apply pw_below_drewN | apply below_drew1 | refine below_set ?_ GE231.out | refine below_set ?_ GE237.out) | exact HB.out)) hb); clear BK231; clear BK237; clear HB; have BK231 := n0_; have BK237 := n1_; have HB := n2_; clear n0_ n1_ n2_; (try clear hb); (try clear hb2); (try clear hk); (try clear hi); have hcz91_0 : w90.cell? ⟨gb231, 0, none⟩ = some (.int .i64 a0_0) := (blk_cell BK231.out 0).trans rfl; have hcz91_1 : w90.cell? ⟨gb231, 1, none⟩ = some (.int .i64 a0_1) := (blk_cell BK231.out 1).trans rfl; have hcz91_2 : w90.cell? ⟨gb231, 2, none⟩ = some (.int .i64 a0_2) := (blk_cell BK231.out 2).trans rfl; have hcz91_3 : w90.cell? ⟨gb231, 3, none⟩ = some (.int .i64 a0_3) := (blk_cell BK231.out 3).trans rfl; have hcz91_4 : w90.cell? ⟨gb231, 4, none⟩ = some (.int .i64 a0_4) := (blk_cell BK231.out 4).trans rfl; have hcz91_5 : w90.cell? ⟨gb231, 5, none⟩ = some (.int .i64 a0_5) := (blk_cell BK231.out 5).trans rfl; have hcz91_6 : w90.cell? ⟨gb231, 6, none⟩ = some (.int .i64 a0_6) := (blk_cell BK231.out 6).trans rfl; have hcz91_7 : w90.cell? ⟨gb231, 7, none⟩ = some (.int .i64 a0_7) := (blk_cell BK231.out 7).trans rfl; have hfz91_0 := blk_frozen BK231.out 0; have hfz91_1 := blk_frozen BK231.out 1; have hfz91_2 := blk_frozen BK231.out 2; have hfz91_3 := blk_frozen BK231.out 3; have hfz91_4 := blk_frozen BK231.out 4; have hfz91_5 := blk_frozen BK231.out 5; have hfz91_6 := blk_frozen BK231.out 6; have hfz91_7 := blk_frozen BK231.out 7) | ((with_reducible refine gate_callee (f := 11) rfl ?_); refine goesL_ (some 93) rfl rfl Try.func11 (by kernel_rfl) rfl #[.agg #[.int .i64 a0_0, .int .i64 a0_1, .int .i64 a0_2, .int .i64 a0_3, .int .i64 a0_4, .int .i64 a0_5, .int .i64 a0_6, .int .i64 a0_7], .int .i64 t242] rfl (by (try simp only [List.map_toArray, List.map_cons, List.map_nil]); first | done | rfl | (simp only [List.length_drop, List.length_take]; rfl)) ?_; (with_reducible refine (detmap_Base.calls kj31 a0_0 a0_1 a0_2 a0_3 a0_4 a0_5 a0_6 a0_7 t242 t243 t244 t245 t246 _ A62.out).mono ?_); rintro e w92 ⟨rfl, hb⟩; refine ⟨_, rfl, ?_⟩; have n0_ := Aside0.mk (blk_below (g := gb231) (o := .cells #[.int .i64 a0_0, .int .i64 a0_1, .int .i64 a0_2, .int .i64 a0_3, .int .i64 a0_4, .int .i64 a0_5, .int .i64 a0_6, .int .i64 a0_7] 25 (0, 0)) (by (with_reducible repeat (first | refine blk_drewN ?_ _ | refine blk_drew ?_ | refine blk_alloc ?_ _)); exact BK231.out) hb); have n1_ := Aside0.mk (blk_below (g := gb237) (o := .cells #[.int .i64 t233, .int .i64 t234, .int .i64 t235] 28 (0, 0)) (by (with_reducible repeat (first | refine blk_drewN ?_ _ | refine blk_drew ?_ | refine blk_alloc ?_ _)); exact BK237.out) hb); have n2_ := Aside0.mk (below_step (by repeat (first | (with_reducible first | exact HB.out | apply below_alloc | apply pw_below_drewN | apply below_drew1 | refine below_set ?_ GE231.out | refine below_set ?_ GE237.out) | exact HB.out)) hb); clear BK231; clear BK237; clear HB; have BK231 := n0_; have BK237 := n1_; have HB := n2_; clear n0_ n1_ n2_; (try clear hb); (try clear hb2); (try clear hk); (try clear hi)) | ((with_reducible refine gate_dst (N := 13) rfl ?_); refine box_event ?hg (N := 13) ?hd (cs := #[.int .i64 0, .int .i64 0, .int .i64 0]) (t := 28) ?hr ?_; (case hd => rfl); (case hg => rfl); (case hr => first | (go_simp; done) | (go_simp; rfl)); intro gb247 hg w93 hbox hb; have n0_ := Aside0.mk (blk_below (g := gb231) (o := .cells #[.int .i64 a0_0, .int .i64 a0_1, .int .i64 a0_2, .int .i64 a0_3, .int .i64 a0_4, .int .i64 a0_5, .int .i64 a0_6, .int .i64 a0_7] 25 (0, 0)) (by (with_reducible repeat (first | refine blk_drewN ?_ _ | refine blk_drew ?_ | refine blk_alloc ?_ _)); exact BK231.out) hb); have n1_ := Aside0.mk (blk_below (g := gb237) (o := .cells #[.int .i64 t233, .int .i64 t234, .int .i64 t235] 28 (0, 0)) (by (with_reducible repeat (first | refine blk_drewN ?_ _ | refine blk_drew ?_ | refine blk_alloc ?_ _)); exact BK237.out) hb); have n2_ := Aside0.mk (below_step (by repeat (first | (with_reducible first | exact HB.out | apply below_alloc | apply pw_below_drewN | apply below_drew1 | refine below_set ?_ GE231.out | refine below_set ?_ GE237.out) | exact HB.out)) hb); have n3_ := Aside0.mk (hbox); have n4_ := Aside0.mk ((by rw [hg]; exact (below_size (by repeat (first | (with_reducible first | exact HB.out | apply below_alloc | apply pw_below_drewN | apply below_drew1 | refine below_set ?_ GE231.out | refine below_set ?_ GE237.out) | exact HB.out))) : w.heap.size ≤ gb247)); have n5_ := Aside0.mk ((by rw [hg]; exact (below_size (by repeat (first | (with_reducible first | exact HB.out | apply below_alloc | apply pw_below_drewN | apply below_drew1 | refine below_set ?_ GE231.out | refine below_set ?_ GE237.out) | exact HB.out))) : w.heap.size ≤ gb247)); have n6_ := Aside0.mk ((by rw [hg]; exact Nat.ne_of_lt (blk_lt (g := gb231) (o := .cells #[.int .i64 a0_0, .int .i64 a0_1, .int .i64 a0_2, .int .i64 a0_3, .int .i64 a0_4, .int .i64 a0_5, .int .i64 a0_6, .int .i64 a0_7] 25 (0, 0)) (by (with_reducible repeat (first | refine blk_drewN ?_ _ | refine blk_drew ?_ | refine blk_alloc ?_ _)); exact BK231.out)) : gb231 ≠ gb247)); have n7_ := Aside0.mk ((by rw [hg]; exact Nat.ne_of_gt (blk_lt (g := gb231) (o := .cells #[.int .i64 a0_0, .int .i64 a0_1, .int .i64 a0_2, .int .i64 a0_3, .int .i64 a0_4, .int .i64 a0_5, .int .i64 a0_6, .int .i64 a0_7] 25 (0, 0)) (by (with_reducible repeat (first | refine blk_drewN ?_ _ | refine blk_drew ?_ | refine blk_alloc ?_ _)); exact BK231.out)) : gb247 ≠ gb231)); have n8_ := Aside0.mk ((by rw [hg]; exact Nat.ne_of_lt (blk_lt (g := gb237) (o := .cells #[.int .i64 t233, .int .i64 t234, .int .i64 t235] 28 (0, 0)) (by (with_reducible repeat (first | refine blk_drewN ?_ _ | refine blk_drew ?_ | refine blk_alloc ?_ _)); exact BK237.out)) : gb237 ≠ gb247)); have n9_ := Aside0.mk ((by rw [hg]; exact Nat.ne_of_gt (blk_lt (g := gb237) (o := .cells #[.int .i64 t233, .int .i64 t234, .int .i64 t235] 28 (0, 0)) (by (with_reducible repeat (first | refine blk_drewN ?_ _ | refine blk_drew ?_ | refine blk_alloc ?_ _)); exact BK237.out)) : gb247 ≠ gb237)); clear BK231; clear BK237; clear HB; have BK231 := n0_; have BK237 := n1_; have HB := n2_; have BK247 := n3_; have GW247 := n4_; have GE247 := n5_; have NB231_247 := n6_; have NB247_231 := n7_; have NB237_247 := n8_; have NB247_237 := n9_; clear n0_ n1_ n2_ n3_ n4_ n5_ n6_ n7_ n8_ n9_; clear hb hbox hg; have hnb94 := NB247_231.out; have hnc94 := NB231_247.out; have hnb95 := NB247_237.out; have hnc95 := NB237_247.out; have hcz96_0 : w93.cell? ⟨gb247, 0, none⟩ = some (.int .i64 0) := (blk_cell BK247.out 0).trans rfl; have hcz96_1 : w93.cell? ⟨gb247, 1, none⟩ = some (.int .i64 0) := (blk_cell BK247.out 1).trans rfl; have hcz96_2 : w93.cell? ⟨gb247, 2, none⟩ = some (.int .i64 0) := (blk_cell BK247.out 2).trans rfl; have hfz96_0 := blk_frozen BK247.out 0; have hfz96_1 := blk_frozen BK247.out 1; have hfz96_2 := blk_frozen BK247.out 2; have hcz97_0 : w93.cell? ⟨gb237, 0, none⟩ = some (.int .i64 t233) := (blk_cell BK237.out 0).trans rfl; have hcz97_1 : w93.cell? ⟨gb237, 1, none⟩ = some (.int .i64 t234) := (blk_cell BK237.out 1).trans rfl; have hcz97_2 : w93.cell? ⟨gb237, 2, none⟩ = some (.int .i64 t235) := (blk_cell BK237.out 2).trans rfl; have hfz97_0 := blk_frozen BK237.out 0; have hfz97_1 := blk_frozen BK237.out 1; have hfz97_2 := blk_frozen BK237.out 2))
                      go_ret
                      exact ⟨by first | rfl | (simp [errW_none, errW_some] <;> rfl) | (simp [*, errW_none, errW_some] <;> rfl), by repeat (first | (with_reducible first | exact HB.out | apply below_alloc | apply pw_below_drewN | apply below_drew1 | refine below_set ?_ GE231.out | refine below_set ?_ GE237.out | refine below_set ?_ GE247.out) | exact HB.out)⟩
                  · replace c65 := Bool.eq_false_iff.mpr c65
                    subst c65
                    have H1 : (some (!false)) = some r := by rw [if_neg (show ¬ (false = true) by decide)] at H; exact H
                    clear H
                    have H := H1
                    clear H1
                    obtain rfl := Option.some.inj H
                    have hnb98 := NB231_237.out
                    have hnc98 := NB237_231.out
                    have hcz99_0 : wc.cell? ⟨gb231, 0, none⟩ = some (.int .i64 a0_0) := (blk_cell BK231.out 0).trans rfl
                    have hcz99_1 : wc.cell? ⟨gb231, 1, none⟩ = some (.int .i64 a0_1) := (blk_cell BK231.out 1).trans rfl
                    have hcz99_2 : wc.cell? ⟨gb231, 2, none⟩ = some (.int .i64 a0_2) := (blk_cell BK231.out 2).trans rfl
                    have hcz99_3 : wc.cell? ⟨gb231, 3, none⟩ = some (.int .i64 a0_3) := (blk_cell BK231.out 3).trans rfl
                    have hcz99_4 : wc.cell? ⟨gb231, 4, none⟩ = some (.int .i64 a0_4) := (blk_cell BK231.out 4).trans rfl
                    have hcz99_5 : wc.cell? ⟨gb231, 5, none⟩ = some (.int .i64 a0_5) := (blk_cell BK231.out 5).trans rfl
                    have hcz99_6 : wc.cell? ⟨gb231, 6, none⟩ = some (.int .i64 a0_6) := (blk_cell BK231.out 6).trans rfl
                    have hcz99_7 : wc.cell? ⟨gb231, 7, none⟩ = some (.int .i64 a0_7) := (blk_cell BK231.out 7).trans rfl
                    have hfz99_0 := blk_frozen BK231.out 0
                    have hfz99_1 := blk_frozen BK231.out 1
                    have hfz99_2 := blk_frozen BK231.out 2
                    have hfz99_3 := blk_frozen BK231.out 3
                    have hfz99_4 := blk_frozen BK231.out 4
                    have hfz99_5 := blk_frozen BK231.out 5
                    have hfz99_6 := blk_frozen BK231.out 6
                    have hfz99_7 := blk_frozen BK231.out 7
                    go_wp2_with (first | ((with_reducible refine gate_callee (f := 17) rfl ?_); refine goesL_ (some 89) rfl rfl Try.func17 (by kernel_rfl) rfl #[.agg #[.int .i64 a0_0, .int .i64 a0_1, .int .i64 a0_2, .int .i64 a0_3, .int .i64 a0_4, .int .i64 a0_5, .int .i64 a0_6, .int .i64 a0_7], .int .i64 a2, .int .i64 a3] rfl (by (try simp only [List.map_toArray, List.map_cons, List.map_nil]); first | done | rfl | (simp only [List.length_drop, List.length_take]; rfl)) ?_; (with_reducible refine (detmap_Who.calls kj31 a0_0 a0_1 a0_2 a0_3 a0_4 a0_5 a0_6 a0_7 a2 a3 t242 _ A61.out).mono ?_); rintro e w100 ⟨rfl, hb⟩; refine ⟨_, rfl, ?_⟩; have n0_ := Aside0.mk (blk_below (g := gb231) (o := .cells #[.int .i64 a0_0, .int .i64 a0_1, .int .i64 a0_2, .int .i64 a0_3, .int .i64 a0_4, .int .i64 a0_5, .int .i64 a0_6, .int .i64 a0_7] 25 (0, 0)) (by (with_reducible repeat (first | refine blk_drewN ?_ _ | refine blk_drew ?_ | refine blk_alloc ?_ _)); exact BK231.out) hb); have n1_ := Aside0.mk (blk_below (g := gb237) (o := .cells #[.int .i64 t233, .int .i64 t234, .int .i64 t235] 28 (0, 0)) (by (with_reducible repeat (first | refine blk_drewN ?_ _ | refine blk_drew ?_ | refine blk_alloc ?_ _)); exact BK237.out) hb); have n2_ := Aside0.mk (below_step (by repeat (first | (with_reducible first | exact HB.out | apply below_alloc | apply pw_below_drewN | apply below_drew1 | refine below_set ?_ GE231.out | refine below_set ?_ GE237.out) | exact HB.out)) hb); clear BK231; clear BK237; clear HB; have BK231 := n0_; have BK237 := n1_; have HB := n2_; clear n0_ n1_ n2_; (try clear hb); (try clear hb2); (try clear hk); (try clear hi); have hcz101_0 : w100.cell? ⟨gb231, 0, none⟩ = some (.int .i64 a0_0) := (blk_cell BK231.out 0).trans rfl; have hcz101_1 : w100.cell? ⟨gb231, 1, none⟩ = some (.int .i64 a0_1) := (blk_cell BK231.out 1).trans rfl; have hcz101_2 : w100.cell? ⟨gb231, 2, none⟩ = some (.int .i64 a0_2) := (blk_cell BK231.out 2).trans rfl; have hcz101_3 : w100.cell? ⟨gb231, 3, none⟩ = some (.int .i64 a0_3) := (blk_cell BK231.out 3).trans rfl; have hcz101_4 : w100.cell? ⟨gb231, 4, none⟩ = some (.int .i64 a0_4) := (blk_cell BK231.out 4).trans rfl; have hcz101_5 : w100.cell? ⟨gb231, 5, none⟩ = some (.int .i64 a0_5) := (blk_cell BK231.out 5).trans rfl; have hcz101_6 : w100.cell? ⟨gb231, 6, none⟩ = some (.int .i64 a0_6) := (blk_cell BK231.out 6).trans rfl; have hcz101_7 : w100.cell? ⟨gb231, 7, none⟩ = some (.int .i64 a0_7) := (blk_cell BK231.out 7).trans rfl; have hfz101_0 := blk_frozen BK231.out 0; have hfz101_1 := blk_frozen BK231.out 1; have hfz101_2 := blk_frozen BK231.out 2; have hfz101_3 := blk_frozen BK231.out 3; have hfz101_4 := blk_frozen BK231.out 4; have hfz101_5 := blk_frozen BK231.out 5; have hfz101_6 := blk_frozen BK231.out 6; have hfz101_7 := blk_frozen BK231.out 7) | ((with_reducible refine gate_callee (f := 11) rfl ?_); refine goesL_ (some 93) rfl rfl Try.func11 (by kernel_rfl) rfl #[.agg #[.int .i64 a0_0, .int .i64 a0_1, .int .i64 a0_2, .int .i64 a0_3, .int .i64 a0_4, .int .i64 a0_5, .int .i64 a0_6, .int .i64 a0_7], .int .i64 t242] rfl (by (try simp only [List.map_toArray, List.map_cons, List.map_nil]); first | done | rfl | (simp only [List.length_drop, List.length_take]; rfl)) ?_; (with_reducible refine (detmap_Base.calls kj31 a0_0 a0_1 a0_2 a0_3 a0_4 a0_5 a0_6 a0_7 t242 t243 t244 t245 t246 _ A62.out).mono ?_); rintro e w102 ⟨rfl, hb⟩; refine ⟨_, rfl, ?_⟩; have n0_ := Aside0.mk (blk_below (g := gb231) (o := .cells #[.int .i64 a0_0, .int .i64 a0_1, .int .i64 a0_2, .int .i64 a0_3, .int .i64 a0_4, .int .i64 a0_5, .int .i64 a0_6, .int .i64 a0_7] 25 (0, 0)) (by (with_reducible repeat (first | refine blk_drewN ?_ _ | refine blk_drew ?_ | refine blk_alloc ?_ _)); exact BK231.out) hb); have n1_ := Aside0.mk (blk_below (g := gb237) (o := .cells #[.int .i64 t233, .int .i64 t234, .int .i64 t235] 28 (0, 0)) (by (with_reducible repeat (first | refine blk_drewN ?_ _ | refine blk_drew ?_ | refine blk_alloc ?_ _)); exact BK237.out) hb); have n2_ := Aside0.mk (below_step (by repeat (first | (with_reducible first | exact HB.out | apply below_alloc | apply pw_below_drewN | apply below_drew1 | refine below_set ?_ GE231.out | refine below_set ?_ GE237.out) | exact HB.out)) hb); clear BK231; clear BK237; clear HB; have BK231 := n0_; have BK237 := n1_; have HB := n2_; clear n0_ n1_ n2_; (try clear hb); (try clear hb2); (try clear hk); (try clear hi)) | ((with_reducible refine gate_dst (N := 13) rfl ?_); refine box_event ?hg (N := 13) ?hd (cs := #[.int .i64 0, .int .i64 0, .int .i64 0]) (t := 28) ?hr ?_; (case hd => rfl); (case hg => rfl); (case hr => first | (go_simp; done) | (go_simp; rfl)); intro gb247 hg w103 hbox hb; have n0_ := Aside0.mk (blk_below (g := gb231) (o := .cells #[.int .i64 a0_0, .int .i64 a0_1, .int .i64 a0_2, .int .i64 a0_3, .int .i64 a0_4, .int .i64 a0_5, .int .i64 a0_6, .int .i64 a0_7] 25 (0, 0)) (by (with_reducible repeat (first | refine blk_drewN ?_ _ | refine blk_drew ?_ | refine blk_alloc ?_ _)); exact BK231.out) hb); have n1_ := Aside0.mk (blk_below (g := gb237) (o := .cells #[.int .i64 t233, .int .i64 t234, .int .i64 t235] 28 (0, 0)) (by (with_reducible repeat (first | refine blk_drewN ?_ _ | refine blk_drew ?_ | refine blk_alloc ?_ _)); exact BK237.out) hb); have n2_ := Aside0.mk (below_step (by repeat (first | (with_reducible first | exact HB.out | apply below_alloc | apply pw_below_drewN | apply below_drew1 | refine below_set ?_ GE231.out | refine below_set ?_ GE237.out) | exact HB.out)) hb); have n3_ := Aside0.mk (hbox); have n4_ := Aside0.mk ((by rw [hg]; exact (below_size (by repeat (first | (with_reducible first | exact HB.out | apply below_alloc | apply pw_below_drewN | apply below_drew1 | refine below_set ?_ GE231.out | refine below_set ?_ GE237.out) | exact HB.out))) : w.heap.size ≤ gb247)); have n5_ := Aside0.mk ((by rw [hg]; exact (below_size (by repeat (first | (with_reducible first | exact HB.out | apply below_alloc | apply pw_below_drewN | apply below_drew1 | refine below_set ?_ GE231.out | refine below_set ?_ GE237.out) | exact HB.out))) : w.heap.size ≤ gb247)); have n6_ := Aside0.mk ((by rw [hg]; exact Nat.ne_of_lt (blk_lt (g := gb231) (o := .cells #[.int .i64 a0_0, .int .i64 a0_1, .int .i64 a0_2, .int .i64 a0_3, .int .i64 a0_4, .int .i64 a0_5, .int .i64 a0_6, .int .i64 a0_7] 25 (0, 0)) (by (with_reducible repeat (first | refine blk_drewN ?_ _ | refine blk_drew ?_ | refine blk_alloc ?_ _)); exact BK231.out)) : gb231 ≠ gb247)); have n7_ := Aside0.mk ((by rw [hg]; exact Nat.ne_of_gt (blk_lt (g := gb231) (o := .cells #[.int .i64 a0_0, .int .i64 a0_1, .int .i64 a0_2, .int .i64 a0_3, .int .i64 a0_4, .int .i64 a0_5, .int .i64 a0_6, .int .i64 a0_7] 25 (0, 0)) (by (with_reducible repeat (first | refine blk_drewN ?_ _ | refine blk_drew ?_ | refine blk_alloc ?_ _)); exact BK231.out)) : gb247 ≠ gb231)); have n8_ := Aside0.mk ((by rw [hg]; exact Nat.ne_of_lt (blk_lt (g := gb237) (o := .cells #[.int .i64 t233, .int .i64 t234, .int .i64 t235] 28 (0, 0)) (by (with_reducible repeat (first | refine blk_drewN ?_ _ | refine blk_drew ?_ | refine blk_alloc ?_ _)); exact BK237.out)) : gb237 ≠ gb247)); have n9_ := Aside0.mk ((by rw [hg]; exact Nat.ne_of_gt (blk_lt (g := gb237) (o := .cells #[.int .i64 t233, .int .i64 t234, .int .i64 t235] 28 (0, 0)) (by (with_reducible repeat (first | refine blk_drewN ?_ _ | refine blk_drew ?_ | refine blk_alloc ?_ _)); exact BK237.out)) : gb247 ≠ gb237)); clear BK231; clear BK237; clear HB; have BK231 := n0_; have BK237 := n1_; have HB := n2_; have BK247 := n3_; have GW247 := n4_; have GE247 := n5_; have NB231_247 := n6_; have NB247_231 := n7_; have NB237_247 := n8_; have NB247_237 := n9_; clear n0_ n1_ n2_ n3_ n4_ n5_ n6_ n7_ n8_ n9_; clear hb hbox hg; have hnb104 := NB247_231.out; have hnc104 := NB231_247.out; have hnb105 := NB247_237.out; have hnc105 := NB237_247.out; have hcz106_0 : w103.cell? ⟨gb247, 0, none⟩ = some (.int .i64 0) := (blk_cell BK247.out 0).trans rfl; have hcz106_1 : w103.cell? ⟨gb247, 1, none⟩ = some (.int .i64 0) := (blk_cell BK247.out 1).trans rfl; have hcz106_2 : w103.cell? ⟨gb247, 2, none⟩ = some (.int .i64 0) := (blk_cell BK247.out 2).trans rfl; have hfz106_0 := blk_frozen BK247.out 0; have hfz106_1 := blk_frozen BK247.out 1; have hfz106_2 := blk_frozen BK247.out 2))
                    go_ret
                    exact ⟨by first | rfl | (simp [errW_none, errW_some] <;> rfl) | (simp [*, errW_none, errW_some] <;> rfl), by repeat (first | (with_reducible first | exact HB.out | apply below_alloc | apply pw_below_drewN | apply below_drew1 | refine below_set ?_ GE231.out | refine below_set ?_ GE237.out | refine below_set ?_ GE247.out) | exact HB.out)⟩
                · rw [if_neg c64] at H
                  have c64b0 : (t242 == (-1)) = false := beq_eq_false_iff_ne.mpr c64
                  have c64b1 : (t242 != (-1)) = true := bne_iff_ne.mpr c64
                  obtain rfl := Option.some.inj H
                  have hnb107 := NB231_237.out
                  have hnc107 := NB237_231.out
                  have hcz108_0 : wc.cell? ⟨gb231, 0, none⟩ = some (.int .i64 a0_0) := (blk_cell BK231.out 0).trans rfl
                  have hcz108_1 : wc.cell? ⟨gb231, 1, none⟩ = some (.int .i64 a0_1) := (blk_cell BK231.out 1).trans rfl
                  have hcz108_2 : wc.cell? ⟨gb231, 2, none⟩ = some (.int .i64 a0_2) := (blk_cell BK231.out 2).trans rfl
                  have hcz108_3 : wc.cell? ⟨gb231, 3, none⟩ = some (.int .i64 a0_3) := (blk_cell BK231.out 3).trans rfl
                  have hcz108_4 : wc.cell? ⟨gb231, 4, none⟩ = some (.int .i64 a0_4) := (blk_cell BK231.out 4).trans rfl
                  have hcz108_5 : wc.cell? ⟨gb231, 5, none⟩ = some (.int .i64 a0_5) := (blk_cell BK231.out 5).trans rfl
                  have hcz108_6 : wc.cell? ⟨gb231, 6, none⟩ = some (.int .i64 a0_6) := (blk_cell BK231.out 6).trans rfl
                  have hcz108_7 : wc.cell? ⟨gb231, 7, none⟩ = some (.int .i64 a0_7) := (blk_cell BK231.out 7).trans rfl
                  have hfz108_0 := blk_frozen BK231.out 0
                  have hfz108_1 := blk_frozen BK231.out 1
                  have hfz108_2 := blk_frozen BK231.out 2
                  have hfz108_3 := blk_frozen BK231.out 3
                  have hfz108_4 := blk_frozen BK231.out 4
                  have hfz108_5 := blk_frozen BK231.out 5
                  have hfz108_6 := blk_frozen BK231.out 6
                  have hfz108_7 := blk_frozen BK231.out 7
                  go_wp2_with (first | ((with_reducible refine gate_callee (f := 17) rfl ?_); refine goesL_ (some 89) rfl rfl Try.func17 (by kernel_rfl) rfl #[.agg #[.int .i64 a0_0, .int .i64 a0_1, .int .i64 a0_2, .int .i64 a0_3, .int .i64 a0_4, .int .i64 a0_5, .int .i64 a0_6, .int .i64 a0_7], .int .i64 a2, .int .i64 a3] rfl (by (try simp only [List.map_toArray, List.map_cons, List.map_nil]); first | done | rfl | (simp only [List.length_drop, List.length_take]; rfl)) ?_; (with_reducible refine (detmap_Who.calls kj31 a0_0 a0_1 a0_2 a0_3 a0_4 a0_5 a0_6 a0_7 a2 a3 t242 _ A61.out).mono ?_); rintro e w109 ⟨rfl, hb⟩; refine ⟨_, rfl, ?_⟩; have n0_ := Aside0.mk (blk_below (g := gb231) (o := .cells #[.int .i64 a0_0, .int .i64 a0_1, .int .i64 a0_2, .int .i64 a0_3, .int .i64 a0_4, .int .i64 a0_5, .int .i64 a0_6, .int .i64 a0_7] 25 (0, 0)) (by (with_reducible repeat (first | refine blk_drewN ?_ _ | refine blk_drew ?_ | refine blk_alloc ?_ _)); exact BK231.out) hb); have n1_ := Aside0.mk (blk_below (g := gb237) (o := .cells #[.int .i64 t233, .int .i64 t234, .int .i64 t235] 28 (0, 0)) (by (with_reducible repeat (first | refine blk_drewN ?_ _ | refine blk_drew ?_ | refine blk_alloc ?_ _)); exact BK237.out) hb); have n2_ := Aside0.mk (below_step (by repeat (first | (with_reducible first | exact HB.out | apply below_alloc | apply pw_below_drewN | apply below_drew1 | refine below_set ?_ GE231.out | refine below_set ?_ GE237.out) | exact HB.out)) hb); clear BK231; clear BK237; clear HB; have BK231 := n0_; have BK237 := n1_; have HB := n2_; clear n0_ n1_ n2_; (try clear hb); (try clear hb2); (try clear hk); (try clear hi); have hcz110_0 : w109.cell? ⟨gb231, 0, none⟩ = some (.int .i64 a0_0) := (blk_cell BK231.out 0).trans rfl; have hcz110_1 : w109.cell? ⟨gb231, 1, none⟩ = some (.int .i64 a0_1) := (blk_cell BK231.out 1).trans rfl; have hcz110_2 : w109.cell? ⟨gb231, 2, none⟩ = some (.int .i64 a0_2) := (blk_cell BK231.out 2).trans rfl; have hcz110_3 : w109.cell? ⟨gb231, 3, none⟩ = some (.int .i64 a0_3) := (blk_cell BK231.out 3).trans rfl; have hcz110_4 : w109.cell? ⟨gb231, 4, none⟩ = some (.int .i64 a0_4) := (blk_cell BK231.out 4).trans rfl; have hcz110_5 : w109.cell? ⟨gb231, 5, none⟩ = some (.int .i64 a0_5) := (blk_cell BK231.out 5).trans rfl; have hcz110_6 : w109.cell? ⟨gb231, 6, none⟩ = some (.int .i64 a0_6) := (blk_cell BK231.out 6).trans rfl; have hcz110_7 : w109.cell? ⟨gb231, 7, none⟩ = some (.int .i64 a0_7) := (blk_cell BK231.out 7).trans rfl; have hfz110_0 := blk_frozen BK231.out 0; have hfz110_1 := blk_frozen BK231.out 1; have hfz110_2 := blk_frozen BK231.out 2; have hfz110_3 := blk_frozen BK231.out 3; have hfz110_4 := blk_frozen BK231.out 4; have hfz110_5 := blk_frozen BK231.out 5; have hfz110_6 := blk_frozen BK231.out 6; have hfz110_7 := blk_frozen BK231.out 7) | ((with_reducible refine gate_callee (f := 11) rfl ?_); refine goesL_ (some 93) rfl rfl Try.func11 (by kernel_rfl) rfl #[.agg #[.int .i64 a0_0, .int .i64 a0_1, .int .i64 a0_2, .int .i64 a0_3, .int .i64 a0_4, .int .i64 a0_5, .int .i64 a0_6, .int .i64 a0_7], .int .i64 t242] rfl (by (try simp only [List.map_toArray, List.map_cons, List.map_nil]); first | done | rfl | (simp only [List.length_drop, List.length_take]; rfl)) ?_; (with_reducible refine (detmap_Base.calls kj31 a0_0 a0_1 a0_2 a0_3 a0_4 a0_5 a0_6 a0_7 t242 t243 t244 t245 t246 _ A62.out).mono ?_); rintro e w111 ⟨rfl, hb⟩; refine ⟨_, rfl, ?_⟩; have n0_ := Aside0.mk (blk_below (g := gb231) (o := .cells #[.int .i64 a0_0, .int .i64 a0_1, .int .i64 a0_2, .int .i64 a0_3, .int .i64 a0_4, .int .i64 a0_5, .int .i64 a0_6, .int .i64 a0_7] 25 (0, 0)) (by (with_reducible repeat (first | refine blk_drewN ?_ _ | refine blk_drew ?_ | refine blk_alloc ?_ _)); exact BK231.out) hb); have n1_ := Aside0.mk (blk_below (g := gb237) (o := .cells #[.int .i64 t233, .int .i64 t234, .int .i64 t235] 28 (0, 0)) (by (with_reducible repeat (first | refine blk_drewN ?_ _ | refine blk_drew ?_ | refine blk_alloc ?_ _)); exact BK237.out) hb); have n2_ := Aside0.mk (below_step (by repeat (first | (with_reducible first | exact HB.out | apply below_alloc | apply pw_below_drewN | apply below_drew1 | refine below_set ?_ GE231.out | refine below_set ?_ GE237.out) | exact HB.out)) hb); clear BK231; clear BK237; clear HB; have BK231 := n0_; have BK237 := n1_; have HB := n2_; clear n0_ n1_ n2_; (try clear hb); (try clear hb2); (try clear hk); (try clear hi)) | ((with_reducible refine gate_dst (N := 13) rfl ?_); refine box_event ?hg (N := 13) ?hd (cs := #[.int .i64 0, .int .i64 0, .int .i64 0]) (t := 28) ?hr ?_; (case hd => rfl); (case hg => rfl); (case hr => first | (go_simp; done) | (go_simp; rfl)); intro gb247 hg w112 hbox hb; have n0_ := Aside0.mk (blk_below (g := gb231) (o := .cells #[.int .i64 a0_0, .int .i64 a0_1, .int .i64 a0_2, .int .i64 a0_3, .int .i64 a0_4, .int .i64 a0_5, .int .i64 a0_6, .int .i64 a0_7] 25 (0, 0)) (by (with_reducible repeat (first | refine blk_drewN ?_ _ | refine blk_drew ?_ | refine blk_alloc ?_ _)); exact BK231.out) hb); have n1_ := Aside0.mk (blk_below (g := gb237) (o := .cells #[.int .i64 t233, .int .i64 t234, .int .i64 t235] 28 (0, 0)) (by (with_reducible repeat (first | refine blk_drewN ?_ _ | refine blk_drew ?_ | refine blk_alloc ?_ _)); exact BK237.out) hb); have n2_ := Aside0.mk (below_step (by repeat (first | (with_reducible first | exact HB.out | apply below_alloc | apply pw_below_drewN | apply below_drew1 | refine below_set ?_ GE231.out | refine below_set ?_ GE237.out) | exact HB.out)) hb); have n3_ := Aside0.mk (hbox); have n4_ := Aside0.mk ((by rw [hg]; exact (below_size (by repeat (first | (with_reducible first | exact HB.out | apply below_alloc | apply pw_below_drewN | apply below_drew1 | refine below_set ?_ GE231.out | refine below_set ?_ GE237.out) | exact HB.out))) : w.heap.size ≤ gb247)); have n5_ := Aside0.mk ((by rw [hg]; exact (below_size (by repeat (first | (with_reducible first | exact HB.out | apply below_alloc | apply pw_below_drewN | apply below_drew1 | refine below_set ?_ GE231.out | refine below_set ?_ GE237.out) | exact HB.out))) : w.heap.size ≤ gb247)); have n6_ := Aside0.mk ((by rw [hg]; exact Nat.ne_of_lt (blk_lt (g := gb231) (o := .cells #[.int .i64 a0_0, .int .i64 a0_1, .int .i64 a0_2, .int .i64 a0_3, .int .i64 a0_4, .int .i64 a0_5, .int .i64 a0_6, .int .i64 a0_7] 25 (0, 0)) (by (with_reducible repeat (first | refine blk_drewN ?_ _ | refine blk_drew ?_ | refine blk_alloc ?_ _)); exact BK231.out)) : gb231 ≠ gb247)); have n7_ := Aside0.mk ((by rw [hg]; exact Nat.ne_of_gt (blk_lt (g := gb231) (o := .cells #[.int .i64 a0_0, .int .i64 a0_1, .int .i64 a0_2, .int .i64 a0_3, .int .i64 a0_4, .int .i64 a0_5, .int .i64 a0_6, .int .i64 a0_7] 25 (0, 0)) (by (with_reducible repeat (first | refine blk_drewN ?_ _ | refine blk_drew ?_ | refine blk_alloc ?_ _)); exact BK231.out)) : gb247 ≠ gb231)); have n8_ := Aside0.mk ((by rw [hg]; exact Nat.ne_of_lt (blk_lt (g := gb237) (o := .cells #[.int .i64 t233, .int .i64 t234, .int .i64 t235] 28 (0, 0)) (by (with_reducible repeat (first | refine blk_drewN ?_ _ | refine blk_drew ?_ | refine blk_alloc ?_ _)); exact BK237.out)) : gb237 ≠ gb247)); have n9_ := Aside0.mk ((by rw [hg]; exact Nat.ne_of_gt (blk_lt (g := gb237) (o := .cells #[.int .i64 t233, .int .i64 t234, .int .i64 t235] 28 (0, 0)) (by (with_reducible repeat (first | refine blk_drewN ?_ _ | refine blk_drew ?_ | refine blk_alloc ?_ _)); exact BK237.out)) : gb247 ≠ gb237)); clear BK231; clear BK237; clear HB; have BK231 := n0_; have BK237 := n1_; have HB := n2_; have BK247 := n3_; have GW247 := n4_; have GE247 := n5_; have NB231_247 := n6_; have NB247_231 := n7_; have NB237_247 := n8_; have NB247_237 := n9_; clear n0_ n1_ n2_ n3_ n4_ n5_ n6_ n7_ n8_ n9_; clear hb hbox hg; have hnb113 := NB247_231.out; have hnc113 := NB231_247.out; have hnb114 := NB247_237.out; have hnc114 := NB237_247.out; have hcz115_0 : w112.cell? ⟨gb247, 0, none⟩ = some (.int .i64 0) := (blk_cell BK247.out 0).trans rfl; have hcz115_1 : w112.cell? ⟨gb247, 1, none⟩ = some (.int .i64 0) := (blk_cell BK247.out 1).trans rfl; have hcz115_2 : w112.cell? ⟨gb247, 2, none⟩ = some (.int .i64 0) := (blk_cell BK247.out 2).trans rfl; have hfz115_0 := blk_frozen BK247.out 0; have hfz115_1 := blk_frozen BK247.out 1; have hfz115_2 := blk_frozen BK247.out 2))
                  go_ret
                  exact ⟨by first | rfl | (simp [errW_none, errW_some] <;> rfl) | (simp [*, errW_none, errW_some] <;> rfl), by repeat (first | (with_reducible first | exact HB.out | apply below_alloc | apply pw_below_drewN | apply below_drew1 | refine below_set ?_ GE231.out | refine below_set ?_ GE237.out | refine below_set ?_ GE247.out) | exact HB.out)⟩
              · rw [if_neg c63] at H
                have c63b0 : decide (t242 < 0) = false := decide_eq_false c63
                clear c63
                by_cases c116 : t246 = true
                · subst c116
                  have H1 : (if t243 = a2 then (if a3 ≥ t244 then (some (decide (a3 ≤ t245))) else (some false)) else (some false)) = some r := by rw [if_pos rfl] at H; exact H
                  clear H
                  have H := H1
                  clear H1
                  by_cases c117 : t243 = a2
                  · rw [if_pos c117] at H
                    have c117b0 : (t243 == a2) = true := beq_iff_eq.mpr c117
                    have c117b1 : (t243 != a2) = false := bne_eq_false_iff_eq.mpr c117
                    clear c117
                    by_cases c118 : a3 ≥ t244
                    · rw [if_pos c118] at H
                      have c118b0 : decide (t244 ≤ a3) = true := decide_eq_true c118
                      clear c118
                      obtain rfl := Option.some.inj H
                      have hnb119 := NB231_237.out
                      have hnc119 := NB237_231.out
                      have hcz120_0 : wc.cell? ⟨gb231, 0, none⟩ = some (.int .i64 a0_0) := (blk_cell BK231.out 0).trans rfl
                      have hcz120_1 : wc.cell? ⟨gb231, 1, none⟩ = some (.int .i64 a0_1) := (blk_cell BK231.out 1).trans rfl
                      have hcz120_2 : wc.cell? ⟨gb231, 2, none⟩ = some (.int .i64 a0_2) := (blk_cell BK231.out 2).trans rfl
                      have hcz120_3 : wc.cell? ⟨gb231, 3, none⟩ = some (.int .i64 a0_3) := (blk_cell BK231.out 3).trans rfl
                      have hcz120_4 : wc.cell? ⟨gb231, 4, none⟩ = some (.int .i64 a0_4) := (blk_cell BK231.out 4).trans rfl
                      have hcz120_5 : wc.cell? ⟨gb231, 5, none⟩ = some (.int .i64 a0_5) := (blk_cell BK231.out 5).trans rfl
                      have hcz120_6 : wc.cell? ⟨gb231, 6, none⟩ = some (.int .i64 a0_6) := (blk_cell BK231.out 6).trans rfl
                      have hcz120_7 : wc.cell? ⟨gb231, 7, none⟩ = some (.int .i64 a0_7) := (blk_cell BK231.out 7).trans rfl
                      have hfz120_0 := blk_frozen BK231.out 0
                      have hfz120_1 := blk_frozen BK231.out 1
                      have hfz120_2 := blk_frozen BK231.out 2
                      have hfz120_3 := blk_frozen BK231.out 3
                      have hfz120_4 := blk_frozen BK231.out 4
                      have hfz120_5 := blk_frozen BK231.out 5
                      have hfz120_6 := blk_frozen BK231.out 6
                      have hfz120_7 := blk_frozen BK231.out 7
                      go_wp2_with (first | ((with_reducible refine gate_callee (f := 17) rfl ?_); refine goesL_ (some 89) rfl rfl Try.func17 (by kernel_rfl) rfl #[.agg #[.int .i64 a0_0, .int .i64 a0_1, .int .i64 a0_2, .int .i64 a0_3, .int .i64 a0_4, .int .i64 a0_5, .int .i64 a0_6, .int .i64 a0_7], .int .i64 a2, .int .i64 a3] rfl (by (try simp only [List.map_toArray, List.map_cons, List.map_nil]); first | done | rfl | (simp only [List.length_drop, List.length_take]; rfl)) ?_; (with_reducible refine (detmap_Who.calls kj31 a0_0 a0_1 a0_2 a0_3 a0_4 a0_5 a0_6 a0_7 a2 a3 t242 _ A61.out).mono ?_); rintro e w121 ⟨rfl, hb⟩; refine ⟨_, rfl, ?_⟩; have n0_ := Aside0.mk (blk_below (g := gb231) (o := .cells #[.int .i64 a0_0, .int .i64 a0_1, .int .i64 a0_2, .int .i64 a0_3, .int .i64 a0_4, .int .i64 a0_5, .int .i64 a0_6, .int .i64 a0_7] 25 (0, 0)) (by (with_reducible repeat (first | refine blk_drewN ?_ _ | refine blk_drew ?_ | refine blk_alloc ?_ _)); exact BK231.out) hb); have n1_ := Aside0.mk (blk_below (g := gb237) (o := .cells #[.int .i64 t233, .int .i64 t234, .int .i64 t235] 28 (0, 0)) (by (with_reducible repeat (first | refine blk_drewN ?_ _ | refine blk_drew ?_ | refine blk_alloc ?_ _)); exact BK237.out) hb); have n2_ := Aside0.mk (below_step (by repeat (first | (with_reducible first | exact HB.out | apply below_alloc | apply pw_below_drewN | apply below_drew1 | refine below_set ?_ GE231.out | refine below_set ?_ GE237.out) | exact HB.out)) hb); clear BK231; clear BK237; clear HB; have BK231 := n0_; have BK237 := n1_; have HB := n2_; clear n0_ n1_ n2_; (try clear hb); (try clear hb2); (try clear hk); (try clear hi); have hcz122_0 : w121.cell? ⟨gb231, 0, none⟩ = some (.int .i64 a0_0) := (blk_cell BK231.out 0).trans rfl; have hcz122_1 : w121.cell? ⟨gb231, 1, none⟩ = some (.int .i64 a0_1) := (blk_cell BK231.out 1).trans rfl; have hcz122_2 : w121.cell? ⟨gb231, 2, none⟩ = some (.int .i64 a0_2) := (blk_cell BK231.out 2).trans rfl; have hcz122_3 : w121.cell? ⟨gb231, 3, none⟩ = some (.int .i64 a0_3) := (blk_cell BK231.out 3).trans rfl; have hcz122_4 : w121.cell? ⟨gb231, 4, none⟩ = some (.int .i64 a0_4) := (blk_cell BK231.out 4).trans rfl; have hcz122_5 : w121.cell? ⟨gb231, 5, none⟩ = some (.int .i64 a0_5) := (blk_cell BK231.out 5).trans rfl; have hcz122_6 : w121.cell? ⟨gb231, 6, none⟩ = some (.int .i64 a0_6) := (blk_cell BK231.out 6).trans rfl; have hcz122_7 : w121.cell? ⟨gb231, 7, none⟩ = some (.int .i64 a0_7) := (blk_cell BK231.out 7).trans rfl; have hfz122_0 := blk_frozen BK231.out 0; have hfz122_1 := blk_frozen BK231.out 1; have hfz122_2 := blk_frozen BK231.out 2; have hfz122_3 := blk_frozen BK231.out 3; have hfz122_4 := blk_frozen BK231.out 4; have hfz122_5 := blk_frozen BK231.out 5; have hfz122_6 := blk_frozen BK231.out 6; have hfz122_7 := blk_frozen BK231.out 7) | ((with_reducible refine gate_callee (f := 11) rfl ?_); refine goesL_ (some 93) rfl rfl Try.func11 (by kernel_rfl) rfl #[.agg #[.int .i64 a0_0, .int .i64 a0_1, .int .i64 a0_2, .int .i64 a0_3, .int .i64 a0_4, .int .i64 a0_5, .int .i64 a0_6, .int .i64 a0_7], .int .i64 t242] rfl (by (try simp only [List.map_toArray, List.map_cons, List.map_nil]); first | done | rfl | (simp only [List.length_drop, List.length_take]; rfl)) ?_; (with_reducible refine (detmap_Base.calls kj31 a0_0 a0_1 a0_2 a0_3 a0_4 a0_5 a0_6 a0_7 t242 t243 t244 t245 true _ A62.out).mono ?_); rintro e w123 ⟨rfl, hb⟩; refine ⟨_, rfl, ?_⟩; have n0_ := Aside0.mk (blk_below (g := gb231) (o := .cells #[.int .i64 a0_0, .int .i64 a0_1, .int .i64 a0_2, .int .i64 a0_3, .int .i64 a0_4, .int .i64 a0_5, .int .i64 a0_6, .int .i64 a0_7] 25 (0, 0)) (by (with_reducible repeat (first | refine blk_drewN ?_ _ | refine blk_drew ?_ | refine blk_alloc ?_ _)); exact BK231.out) hb); have n1_ := Aside0.mk (blk_below (g := gb237) (o := .cells #[.int .i64 t233, .int .i64 t234, .int .i64 t235] 28 (0, 0)) (by (with_reducible repeat (first | refine blk_drewN ?_ _ | refine blk_drew ?_ | refine blk_alloc ?_ _)); exact BK237.out) hb); have n2_ := Aside0.mk (below_step (by repeat (first | (with_reducible first | exact HB.out | apply below_alloc | apply pw_below_drewN | apply below_drew1 | refine below_set ?_ GE231.out | refine below_set ?_ GE237.out) | exact HB.out)) hb); clear BK231; clear BK237; clear HB; have BK231 := n0_; have BK237 := n1_; have HB := n2_; clear n0_ n1_ n2_; (try clear hb); (try clear hb2); (try clear hk); (try clear hi)) | ((with_reducible refine gate_dst (N := 13) rfl ?_); refine box_event ?hg (N := 13) ?hd (cs := #[.int .i64 0, .int .i64 0, .int .i64 0]) (t := 28) ?hr ?_; (case hd => rfl); (case hg => rfl); (case hr => first | (go_simp; done) | (go_simp; rfl)); intro gb247 hg w124 hbox hb; have n0_ := Aside0.mk (blk_below (g := gb231) (o := .cells #[.int .i64 a0_0, .int .i64 a0_1, .int .i64 a0_2, .int .i64 a0_3, .int .i64 a0_4, .int .i64 a0_5, .int .i64 a0_6, .int .i64 a0_7] 25 (0, 0)) (by (with_reducible repeat (first | refine blk_drewN ?_ _ | refine blk_drew ?_ | refine blk_alloc ?_ _)); exact BK231.out) hb); have n1_ := Aside0.mk (blk_below (g := gb237) (o := .cells #[.int .i64 t233, .int .i64 t234, .int .i64 t235] 28 (0, 0)) (by (with_reducible repeat (first | refine blk_drewN ?_ _ | refine blk_drew ?_ | refine blk_alloc ?_ _)); exact BK237.out) hb); have n2_ := Aside0.mk (below_step (by repeat (first | (with_reducible first | exact HB.out | apply below_alloc | apply pw_below_drewN | apply below_drew1 | refine below_set ?_ GE231.out | refine below_set ?_ GE237.out) | exact HB.out)) hb); have n3_ := Aside0.mk (hbox); have n4_ := Aside0.mk ((by rw [hg]; exact (below_size (by repeat (first | (with_reducible first | exact HB.out | apply below_alloc | apply pw_below_drewN | apply below_drew1 | refine below_set ?_ GE231.out | refine below_set ?_ GE237.out) | exact HB.out))) : w.heap.size ≤ gb247)); have n5_ := Aside0.mk ((by rw [hg]; exact (below_size (by repeat (first | (with_reducible first | exact HB.out | apply below_alloc | apply pw_below_drewN | apply below_drew1 | refine below_set ?_ GE231.out | refine below_set ?_ GE237.out) | exact HB.out))) : w.heap.size ≤ gb247)); have n6_ := Aside0.mk ((by rw [hg]; exact Nat.ne_of_lt (blk_lt (g := gb231) (o := .cells #[.int .i64 a0_0, .int .i64 a0_1, .int .i64 a0_2, .int .i64 a0_3, .int .i64 a0_4, .int .i64 a0_5, .int .i64 a0_6, .int .i64 a0_7] 25 (0, 0)) (by (with_reducible repeat (first | refine blk_drewN ?_ _ | refine blk_drew ?_ | refine blk_alloc ?_ _)); exact BK231.out)) : gb231 ≠ gb247)); have n7_ := Aside0.mk ((by rw [hg]; exact Nat.ne_of_gt (blk_lt (g := gb231) (o := .cells #[.int .i64 a0_0, .int .i64 a0_1, .int .i64 a0_2, .int .i64 a0_3, .int .i64 a0_4, .int .i64 a0_5, .int .i64 a0_6, .int .i64 a0_7] 25 (0, 0)) (by (with_reducible repeat (first | refine blk_drewN ?_ _ | refine blk_drew ?_ | refine blk_alloc ?_ _)); exact BK231.out)) : gb247 ≠ gb231)); have n8_ := Aside0.mk ((by rw [hg]; exact Nat.ne_of_lt (blk_lt (g := gb237) (o := .cells #[.int .i64 t233, .int .i64 t234, .int .i64 t235] 28 (0, 0)) (by (with_reducible repeat (first | refine blk_drewN ?_ _ | refine blk_drew ?_ | refine blk_alloc ?_ _)); exact BK237.out)) : gb237 ≠ gb247)); have n9_ := Aside0.mk ((by rw [hg]; exact Nat.ne_of_gt (blk_lt (g := gb237) (o := .cells #[.int .i64 t233, .int .i64 t234, .int .i64 t235] 28 (0, 0)) (by (with_reducible repeat (first | refine blk_drewN ?_ _ | refine blk_drew ?_ | refine blk_alloc ?_ _)); exact BK237.out)) : gb247 ≠ gb237)); clear BK231; clear BK237; clear HB; have BK231 := n0_; have BK237 := n1_; have HB := n2_; have BK247 := n3_; have GW247 := n4_; have GE247 := n5_; have NB231_247 := n6_; have NB247_231 := n7_; have NB237_247 := n8_; have NB247_237 := n9_; clear n0_ n1_ n2_ n3_ n4_ n5_ n6_ n7_ n8_ n9_; clear hb hbox hg; have hnb125 := NB247_231.out; have hnc125 := NB231_247.out; have hnb126 := NB247_237.out; have hnc126 := NB237_247.out; have hcz127_0 : w124.cell? ⟨gb247, 0, none⟩ = some (.int .i64 0) := (blk_cell BK247.out 0).trans rfl; have hcz127_1 : w124.cell? ⟨gb247, 1, none⟩ = some (.int .i64 0) := (blk_cell BK247.out 1).trans rfl; have hcz127_2 : w124.cell? ⟨gb247, 2, none⟩ = some (.int .i64 0) := (blk_cell BK247.out 2).trans rfl; have hfz127_0 := blk_frozen BK247.out 0; have hfz127_1 := blk_frozen BK247.out 1; have hfz127_2 := blk_frozen BK247.out 2))
                      go_ret
                      exact ⟨by first | rfl | (simp [errW_none, errW_some] <;> rfl) | (simp [*, errW_none, errW_some] <;> rfl), by repeat (first | (with_reducible first | exact HB.out | apply below_alloc | apply pw_below_drewN | apply below_drew1 | refine below_set ?_ GE231.out | refine below_set ?_ GE237.out | refine below_set ?_ GE247.out) | exact HB.out)⟩
                    · rw [if_neg c118] at H
                      have c118b0 : decide (t244 ≤ a3) = false := decide_eq_false c118
                      clear c118
                      obtain rfl := Option.some.inj H
                      have hnb128 := NB231_237.out
                      have hnc128 := NB237_231.out
                      have hcz129_0 : wc.cell? ⟨gb231, 0, none⟩ = some (.int .i64 a0_0) := (blk_cell BK231.out 0).trans rfl
                      have hcz129_1 : wc.cell? ⟨gb231, 1, none⟩ = some (.int .i64 a0_1) := (blk_cell BK231.out 1).trans rfl
                      have hcz129_2 : wc.cell? ⟨gb231, 2, none⟩ = some (.int .i64 a0_2) := (blk_cell BK231.out 2).trans rfl
                      have hcz129_3 : wc.cell? ⟨gb231, 3, none⟩ = some (.int .i64 a0_3) := (blk_cell BK231.out 3).trans rfl
                      have hcz129_4 : wc.cell? ⟨gb231, 4, none⟩ = some (.int .i64 a0_4) := (blk_cell BK231.out 4).trans rfl
                      have hcz129_5 : wc.cell? ⟨gb231, 5, none⟩ = some (.int .i64 a0_5) := (blk_cell BK231.out 5).trans rfl
                      have hcz129_6 : wc.cell? ⟨gb231, 6, none⟩ = some (.int .i64 a0_6) := (blk_cell BK231.out 6).trans rfl
                      have hcz129_7 : wc.cell? ⟨gb231, 7, none⟩ = some (.int .i64 a0_7) := (blk_cell BK231.out 7).trans rfl
                      have hfz129_0 := blk_frozen BK231.out 0
                      have hfz129_1 := blk_frozen BK231.out 1
                      have hfz129_2 := blk_frozen BK231.out 2
                      have hfz129_3 := blk_frozen BK231.out 3
                      have hfz129_4 := blk_frozen BK231.out 4
                      have hfz129_5 := blk_frozen BK231.out 5
                      have hfz129_6 := blk_frozen BK231.out 6
                      have hfz129_7 := blk_frozen BK231.out 7
                      go_wp2_with (first | ((with_reducible refine gate_callee (f := 17) rfl ?_); refine goesL_ (some 89) rfl rfl Try.func17 (by kernel_rfl) rfl #[.agg #[.int .i64 a0_0, .int .i64 a0_1, .int .i64 a0_2, .int .i64 a0_3, .int .i64 a0_4, .int .i64 a0_5, .int .i64 a0_6, .int .i64 a0_7], .int .i64 a2, .int .i64 a3] rfl (by (try simp only [List.map_toArray, List.map_cons, List.map_nil]); first | done | rfl | (simp only [List.length_drop, List.length_take]; rfl)) ?_; (with_reducible refine (detmap_Who.calls kj31 a0_0 a0_1 a0_2 a0_3 a0_4 a0_5 a0_6 a0_7 a2 a3 t242 _ A61.out).mono ?_); rintro e w130 ⟨rfl, hb⟩; refine ⟨_, rfl, ?_⟩; have n0_ := Aside0.mk (blk_below (g := gb231) (o := .cells #[.int .i64 a0_0, .int .i64 a0_1, .int .i64 a0_2, .int .i64 a0_3, .int .i64 a0_4, .int .i64 a0_5, .int .i64 a0_6, .int .i64 a0_7] 25 (0, 0)) (by (with_reducible repeat (first | refine blk_drewN ?_ _ | refine blk_drew ?_ | refine blk_alloc ?_ _)); exact BK231.out) hb); have n1_ := Aside0.mk (blk_below (g := gb237) (o := .cells #[.int .i64 t233, .int .i64 t234, .int .i64 t235] 28 (0, 0)) (by (with_reducible repeat (first | refine blk_drewN ?_ _ | refine blk_drew ?_ | refine blk_alloc ?_ _)); exact BK237.out) hb); have n2_ := Aside0.mk (below_step (by repeat (first | (with_reducible first | exact HB.out | apply below_alloc | apply pw_below_drewN | apply below_drew1 | refine below_set ?_ GE231.out | refine below_set ?_ GE237.out) | exact HB.out)) hb); clear BK231; clear BK237; clear HB; have BK231 := n0_; have BK237 := n1_; have HB := n2_; clear n0_ n1_ n2_; (try clear hb); (try clear hb2); (try clear hk); (try clear hi); have hcz131_0 : w130.cell? ⟨gb231, 0, none⟩ = some (.int .i64 a0_0) := (blk_cell BK231.out 0).trans rfl; have hcz131_1 : w130.cell? ⟨gb231, 1, none⟩ = some (.int .i64 a0_1) := (blk_cell BK231.out 1).trans rfl; have hcz131_2 : w130.cell? ⟨gb231, 2, none⟩ = some (.int .i64 a0_2) := (blk_cell BK231.out 2).trans rfl; have hcz131_3 : w130.cell? ⟨gb231, 3, none⟩ = some (.int .i64 a0_3) := (blk_cell BK231.out 3).trans rfl; have hcz131_4 : w130.cell? ⟨gb231, 4, none⟩ = some (.int .i64 a0_4) := (blk_cell BK231.out 4).trans rfl; have hcz131_5 : w130.cell? ⟨gb231, 5, none⟩ = some (.int .i64 a0_5) := (blk_cell BK231.out 5).trans rfl; have hcz131_6 : w130.cell? ⟨gb231, 6, none⟩ = some (.int .i64 a0_6) := (blk_cell BK231.out 6).trans rfl; have hcz131_7 : w130.cell? ⟨gb231, 7, none⟩ = some (.int .i64 a0_7) := (blk_cell BK231.out 7).trans rfl; have hfz131_0 := blk_frozen BK231.out 0; have hfz131_1 := blk_frozen BK231.out 1; have hfz131_2 := blk_frozen BK231.out 2; have hfz131_3 := blk_frozen BK231.out 3; have hfz131_4 := blk_frozen BK231.out 4; have hfz131_5 := blk_frozen BK231.out 5; have hfz131_6 := blk_frozen BK231.out 6; have hfz131_7 := blk_frozen BK231.out 7) | ((with_reducible refine gate_callee (f := 11) rfl ?_); refine goesL_ (some 93) rfl rfl Try.func11 (by kernel_rfl) rfl #[.agg #[.int .i64 a0_0, .int .i64 a0_1, .int .i64 a0_2, .int .i64 a0_3, .int .i64 a0_4, .int .i64 a0_5, .int .i64 a0_6, .int .i64 a0_7], .int .i64 t242] rfl (by (try simp only [List.map_toArray, List.map_cons, List.map_nil]); first | done | rfl | (simp only [List.length_drop, List.length_take]; rfl)) ?_; (with_reducible refine (detmap_Base.calls kj31 a0_0 a0_1 a0_2 a0_3 a0_4 a0_5 a0_6 a0_7 t242 t243 t244 t245 true _ A62.out).mono ?_); rintro e w132 ⟨rfl, hb⟩; refine ⟨_, rfl, ?_⟩; have n0_ := Aside0.mk (blk_below (g := gb231) (o := .cells #[.int .i64 a0_0, .int .i64 a0_1, .int .i64 a0_2, .int .i64 a0_3, .int .i64 a0_4, .int .i64 a0_5, .int .i64 a0_6, .int .i64 a0_7] 25 (0, 0)) (by (with_reducible repeat (first | refine blk_drewN ?_ _ | refine blk_drew ?_ | refine blk_alloc ?_ _)); exact BK231.out) hb); have n1_ := Aside0.mk (blk_below (g := gb237) (o := .cells #[.int .i64 t233, .int .i64 t234, .int .i64 t235] 28 (0, 0)) (by (with_reducible repeat (first | refine blk_drewN ?_ _ | refine blk_drew ?_ | refine blk_alloc ?_ _)); exact BK237.out) hb); have n2_ := Aside0.mk (below_step (by repeat (first | (with_reducible first | exact HB.out | apply below_alloc | apply pw_below_drewN | apply below_drew1 | refine below_set ?_ GE231.out | refine below_set ?_ GE237.out) | exact HB.out)) hb); clear BK231; clear BK237; clear HB; have BK231 := n0_; have BK237 := n1_; have HB := n2_; clear n0_ n1_ n2_; (try clear hb); (try clear hb2); (try clear hk); (try clear hi)) | ((with_reducible refine gate_dst (N := 13) rfl ?_); refine box_event ?hg (N := 13) ?hd (cs := #[.int .i64 0, .int .i64 0, .int .i64 0]) (t := 28) ?hr ?_; (case hd => rfl); (case hg => rfl); (case hr => first | (go_simp; done) | (go_simp; rfl)); intro gb247 hg w133 hbox hb; have n0_ := Aside0.mk (blk_below (g := gb231) (o := .cells #[.int .i64 a0_0, .int .i64 a0_1, .int .i64 a0_2, .int .i64 a0_3, .int .i64 a0_4, .int .i64 a0_5, .int .i64 a0_6, .int .i64 a0_7] 25 (0, 0)) (by (with_reducible repeat (first | refine blk_drewN ?_ _ | refine blk_drew ?_ | refine blk_alloc ?_ _)); exact BK231.out) hb); have n1_ := Aside0.mk (blk_below (g := gb237) (o := .cells #[.int .i64 t233, .int .i64 t234, .int .i64 t235] 28 (0, 0)) (by (with_reducible repeat (first | refine blk_drewN ?_ _ | refine blk_drew ?_ | refine blk_alloc ?_ _)); exact BK237.out) hb); have n2_ := Aside0.mk (below_step (by repeat (first | (with_reducible first | exact HB.out | apply below_alloc | apply pw_below_drewN | apply below_drew1 | refine below_set ?_ GE231.out | refine below_set ?_ GE237.out) | exact HB.out)) hb); have n3_ := Aside0.mk (hbox); have n4_ := Aside0.mk ((by rw [hg]; exact (below_size (by repeat (first | (with_reducible first | exact HB.out | apply below_alloc | apply pw_below_drewN | apply below_drew1 | refine below_set ?_ GE231.out | refine below_set ?_ GE237.out) | exact HB.out))) : w.heap.size ≤ gb247)); have n5_ := Aside0.mk ((by rw [hg]; exact (below_size (by repeat (first | (with_reducible first | exact HB.out | apply below_alloc | apply pw_below_drewN | apply below_drew1 | refine below_set ?_ GE231.out | refine below_set ?_ GE237.out) | exact HB.out))) : w.heap.size ≤ gb247)); have n6_ := Aside0.mk ((by rw [hg]; exact Nat.ne_of_lt (blk_lt (g := gb231) (o := .cells #[.int .i64 a0_0, .int .i64 a0_1, .int .i64 a0_2, .int .i64 a0_3, .int .i64 a0_4, .int .i64 a0_5, .int .i64 a0_6, .int .i64 a0_7] 25 (0, 0)) (by (with_reducible repeat (first | refine blk_drewN ?_ _ | refine blk_drew ?_ | refine blk_alloc ?_ _)); exact BK231.out)) : gb231 ≠ gb247)); have n7_ := Aside0.mk ((by rw [hg]; exact Nat.ne_of_gt (blk_lt (g := gb231) (o := .cells #[.int .i64 a0_0, .int .i64 a0_1, .int .i64 a0_2, .int .i64 a0_3, .int .i64 a0_4, .int .i64 a0_5, .int .i64 a0_6, .int .i64 a0_7] 25 (0, 0)) (by (with_reducible repeat (first | refine blk_drewN ?_ _ | refine blk_drew ?_ | refine blk_alloc ?_ _)); exact BK231.out)) : gb247 ≠ gb231)); have n8_ := Aside0.mk ((by rw [hg]; exact Nat.ne_of_lt (blk_lt (g := gb237) (o := .cells #[.int .i64 t233, .int .i64 t234, .int .i64 t235] 28 (0, 0)) (by (with_reducible repeat (first | refine blk_drewN ?_ _ | refine blk_drew ?_ | refine blk_alloc ?_ _)); exact BK237.out)) : gb237 ≠ gb247)); have n9_ := Aside0.mk ((by rw [hg]; exact Nat.ne_of_gt (blk_lt (g := gb237) (o := .cells #[.int .i64 t233, .int .i64 t234, .int .i64 t235] 28 (0, 0)) (by (with_reducible repeat (first | refine blk_drewN ?_ _ | refine blk_drew ?_ | refine blk_alloc ?_ _)); exact BK237.out)) : gb247 ≠ gb237)); clear BK231; clear BK237; clear HB; have BK231 := n0_; have BK237 := n1_; have HB := n2_; have BK247 := n3_; have GW247 := n4_; have GE247 := n5_; have NB231_247 := n6_; have NB247_231 := n7_; have NB237_247 := n8_; have NB247_237 := n9_; clear n0_ n1_ n2_ n3_ n4_ n5_ n6_ n7_ n8_ n9_; clear hb hbox hg; have hnb134 := NB247_231.out; have hnc134 := NB231_247.out; have hnb135 := NB247_237.out; have hnc135 := NB237_247.out; have hcz136_0 : w133.cell? ⟨gb247, 0, none⟩ = some (.int .i64 0) := (blk_cell BK247.out 0).trans rfl; have hcz136_1 : w133.cell? ⟨gb247, 1, none⟩ = some (.int .i64 0) := (blk_cell BK247.out 1).trans rfl; have hcz136_2 : w133.cell? ⟨gb247, 2, none⟩ = some (.int .i64 0) := (blk_cell BK247.out 2).trans rfl; have hfz136_0 := blk_frozen BK247.out 0; have hfz136_1 := blk_frozen BK247.out 1; have hfz136_2 := blk_frozen BK247.out 2))
                      go_ret
                      exact ⟨by first | rfl | (simp [errW_none, errW_some] <;> rfl) | (simp [*, errW_none, errW_some] <;> rfl), by repeat (first | (with_reducible first | exact HB.out | apply below_alloc | apply pw_below_drewN | apply below_drew1 | refine below_set ?_ GE231.out | refine below_set ?_ GE237.out | refine below_set ?_ GE247.out) | exact HB.out)⟩
                  · rw [if_neg c117] at H
                    have c117b0 : (t243 == a2) = false := beq_eq_false_iff_ne.mpr c117
                    have c117b1 : (t243 != a2) = true := bne_iff_ne.mpr c117
                    obtain rfl := Option.some.inj H
                    have hnb137 := NB231_237.out
                    have hnc137 := NB237_231.out
                    have hcz138_0 : wc.cell? ⟨gb231, 0, none⟩ = some (.int .i64 a0_0) := (blk_cell BK231.out 0).trans rfl
                    have hcz138_1 : wc.cell? ⟨gb231, 1, none⟩ = some (.int .i64 a0_1) := (blk_cell BK231.out 1).trans rfl
                    have hcz138_2 : wc.cell? ⟨gb231, 2, none⟩ = some (.int .i64 a0_2) := (blk_cell BK231.out 2).trans rfl
                    have hcz138_3 : wc.cell? ⟨gb231, 3, none⟩ = some (.int .i64 a0_3) := (blk_cell BK231.out 3).trans rfl
                    have hcz138_4 : wc.cell? ⟨gb231, 4, none⟩ = some (.int .i64 a0_4) := (blk_cell BK231.out 4).trans rfl
                    have hcz138_5 : wc.cell? ⟨gb231, 5, none⟩ = some (.int .i64 a0_5) := (blk_cell BK231.out 5).trans rfl
                    have hcz138_6 : wc.cell? ⟨gb231, 6, none⟩ = some (.int .i64 a0_6) := (blk_cell BK231.out 6).trans rfl
                    have hcz138_7 : wc.cell? ⟨gb231, 7, none⟩ = some (.int .i64 a0_7) := (blk_cell BK231.out 7).trans rfl
                    have hfz138_0 := blk_frozen BK231.out 0
                    have hfz138_1 := blk_frozen BK231.out 1
                    have hfz138_2 := blk_frozen BK231.out 2
                    have hfz138_3 := blk_frozen BK231.out 3
                    have hfz138_4 := blk_frozen BK231.out 4
                    have hfz138_5 := blk_frozen BK231.out 5
                    have hfz138_6 := blk_frozen BK231.out 6
                    have hfz138_7 := blk_frozen BK231.out 7
                    go_wp2_with (first | ((with_reducible refine gate_callee (f := 17) rfl ?_); refine goesL_ (some 89) rfl rfl Try.func17 (by kernel_rfl) rfl #[.agg #[.int .i64 a0_0, .int .i64 a0_1, .int .i64 a0_2, .int .i64 a0_3, .int .i64 a0_4, .int .i64 a0_5, .int .i64 a0_6, .int .i64 a0_7], .int .i64 a2, .int .i64 a3] rfl (by (try simp only [List.map_toArray, List.map_cons, List.map_nil]); first | done | rfl | (simp only [List.length_drop, List.length_take]; rfl)) ?_; (with_reducible refine (detmap_Who.calls kj31 a0_0 a0_1 a0_2 a0_3 a0_4 a0_5 a0_6 a0_7 a2 a3 t242 _ A61.out).mono ?_); rintro e w139 ⟨rfl, hb⟩; refine ⟨_, rfl, ?_⟩; have n0_ := Aside0.mk (blk_below (g := gb231) (o := .cells #[.int .i64 a0_0, .int .i64 a0_1, .int .i64 a0_2, .int .i64 a0_3, .int .i64 a0_4, .int .i64 a0_5, .int .i64 a0_6, .int .i64 a0_7] 25 (0, 0)) (by (with_reducible repeat (first | refine blk_drewN ?_ _ | refine blk_drew ?_ | refine blk_alloc ?_ _)); exact BK231.out) hb); have n1_ := Aside0.mk (blk_below (g := gb237) (o := .cells #[.int .i64 t233, .int .i64 t234, .int .i64 t235] 28 (0, 0)) (by (with_reducible repeat (first | refine blk_drewN ?_ _ | refine blk_drew ?_ | refine blk_alloc ?_ _)); exact BK237.out) hb); have n2_ := Aside0.mk (below_step (by repeat (first | (with_reducible first | exact HB.out | apply below_alloc | apply pw_below_drewN | apply below_drew1 | refine below_set ?_ GE231.out | refine below_set ?_ GE237.out) | exact HB.out)) hb); clear BK231; clear BK237; clear HB; have BK231 := n0_; have BK237 := n1_; have HB := n2_; clear n0_ n1_ n2_; (try clear hb); (try clear hb2); (try clear hk); (try clear hi); have hcz140_0 : w139.cell? ⟨gb231, 0, none⟩ = some (.int .i64 a0_0) := (blk_cell BK231.out 0).trans rfl; have hcz140_1 : w139.cell? ⟨gb231, 1, none⟩ = some (.int .i64 a0_1) := (blk_cell BK231.out 1).trans rfl; have hcz140_2 : w139.cell? ⟨gb231, 2, none⟩ = some (.int .i64 a0_2) := (blk_cell BK231.out 2).trans rfl; have hcz140_3 : w139.cell? ⟨gb231, 3, none⟩ = some (.int .i64 a0_3) := (blk_cell BK231.out 3).trans rfl; have hcz140_4 : w139.cell? ⟨gb231, 4, none⟩ = some (.int .i64 a0_4) := (blk_cell BK231.out 4).trans rfl; have hcz140_5 : w139.cell? ⟨gb231, 5, none⟩ = some (.int .i64 a0_5) := (blk_cell BK231.out 5).trans rfl; have hcz140_6 : w139.cell? ⟨gb231, 6, none⟩ = some (.int .i64 a0_6) := (blk_cell BK231.out 6).trans rfl; have hcz140_7 : w139.cell? ⟨gb231, 7, none⟩ = some (.int .i64 a0_7) := (blk_cell BK231.out 7).trans rfl; have hfz140_0 := blk_frozen BK231.out 0; have hfz140_1 := blk_frozen BK231.out 1; have hfz140_2 := blk_frozen BK231.out 2; have hfz140_3 := blk_frozen BK231.out 3; have hfz140_4 := blk_frozen BK231.out 4; have hfz140_5 := blk_frozen BK231.out 5; have hfz140_6 := blk_frozen BK231.out 6; have hfz140_7 := blk_frozen BK231.out 7) | ((with_reducible refine gate_callee (f := 11) rfl ?_); refine goesL_ (some 93) rfl rfl Try.func11 (by kernel_rfl) rfl #[.agg #[.int .i64 a0_0, .int .i64 a0_1, .int .i64 a0_2, .int .i64 a0_3, .int .i64 a0_4, .int .i64 a0_5, .int .i64 a0_6, .int .i64 a0_7], .int .i64 t242] rfl (by (try simp only [List.map_toArray, List.map_cons, List.map_nil]); first | done | rfl | (simp only [List.length_drop, List.length_take]; rfl)) ?_; (with_reducible refine (detmap_Base.calls kj31 a0_0 a0_1 a0_2 a0_3 a0_4 a0_5 a0_6 a0_7 t242 t243 t244 t245 true _ A62.out).mono ?_); rintro e w141 ⟨rfl, hb⟩; refine ⟨_, rfl, ?_⟩; have n0_ := Aside0.mk (blk_below (g := gb231) (o := .cells #[.int .i64 a0_0, .int .i64 a0_1, .int .i64 a0_2, .int .i64 a0_3, .int .i64 a0_4, .int .i64 a0_5, .int .i64 a0_6, .int .i64 a0_7] 25 (0, 0)) (by (with_reducible repeat (first | refine blk_drewN ?_ _ | refine blk_drew ?_ | refine blk_alloc ?_ _)); exact BK231.out) hb); have n1_ := Aside0.mk (blk_below (g := gb237) (o := .cells #[.int .i64 t233, .int .i64 t234, .int .i64 t235] 28 (0, 0)) (by (with_reducible repeat (first | refine blk_drewN ?_ _ | refine blk_drew ?_ | refine blk_alloc ?_ _)); exact BK237.out) hb); have n2_ := Aside0.mk (below_step (by repeat (first | (with_reducible first | exact HB.out | apply below_alloc | apply pw_below_drewN | apply below_drew1 | refine below_set ?_ GE231.out | refine below_set ?_ GE237.out) | exact HB.out)) hb); clear BK231; clear BK237; clear HB; have BK231 := n0_; have BK237 := n1_; have HB := n2_; clear n0_ n1_ n2_; (try clear hb); (try clear hb2); (try clear hk); (try clear hi)) | ((with_reducible refine gate_dst (N := 13) rfl ?_); refine box_event ?hg (N := 13) ?hd (cs := #[.int .i64 0, .int .i64 0, .int .i64 0]) (t := 28) ?hr ?_; (case hd => rfl); (case hg => rfl); (case hr => first | (go_simp; done) | (go_simp; rfl)); intro gb247 hg w142 hbox hb; have n0_ := Aside0.mk (blk_below (g := gb231) (o := .cells #[.int .i64 a0_0, .int .i64 a0_1, .int .i64 a0_2, .int .i64 a0_3, .int .i64 a0_4, .int .i64 a0_5, .int .i64 a0_6, .int .i64 a0_7] 25 (0, 0)) (by (with_reducible repeat (first | refine blk_drewN ?_ _ | refine blk_drew ?_ | refine blk_alloc ?_ _)); exact BK231.out) hb); have n1_ := Aside0.mk (blk_below (g := gb237) (o := .cells #[.int .i64 t233, .int .i64 t234, .int .i64 t235] 28 (0, 0)) (by (with_reducible repeat (first | refine blk_drewN ?_ _ | refine blk_drew ?_ | refine blk_alloc ?_ _)); exact BK237.out) hb); have n2_ := Aside0.mk (below_step (by repeat (first | (with_reducible first | exact HB.out | apply below_alloc | apply pw_below_drewN | apply below_drew1 | refine below_set ?_ GE231.out | refine below_set ?_ GE237.out) | exact HB.out)) hb); have n3_ := Aside0.mk (hbox); have n4_ := Aside0.mk ((by rw [hg]; exact (below_size (by repeat (first | (with_reducible first | exact HB.out | apply below_alloc | apply pw_below_drewN | apply below_drew1 | refine below_set ?_ GE231.out | refine below_set ?_ GE237.out) | exact HB.out))) : w.heap.size ≤ gb247)); have n5_ := Aside0.mk ((by rw [hg]; exact (below_size (by repeat (first | (with_reducible first | exact HB.out | apply below_alloc | apply pw_below_drewN | apply below_drew1 | refine below_set ?_ GE231.out | refine below_set ?_ GE237.out) | exact HB.out))) : w.heap.size ≤ gb247)); have n6_ := Aside0.mk ((by rw [hg]; exact Nat.ne_of_lt (blk_lt (g := gb231) (o := .cells #[.int .i64 a0_0, .int .i64 a0_1, .int .i64 a0_2, .int .i64 a0_3, .int .i64 a0_4, .int .i64 a0_5, .int .i64 a0_6, .int .i64 a0_7] 25 (0, 0)) (by (with_reducible repeat (first | refine blk_drewN ?_ _ | refine blk_drew ?_ | refine blk_alloc ?_ _)); exact BK231.out)) : gb231 ≠ gb247)); have n7_ := Aside0.mk ((by rw [hg]; exact Nat.ne_of_gt (blk_lt (g := gb231) (o := .cells #[.int .i64 a0_0, .int .i64 a0_1, .int .i64 a0_2, .int .i64 a0_3, .int .i64 a0_4, .int .i64 a0_5, .int .i64 a0_6, .int .i64 a0_7] 25 (0, 0)) (by (with_reducible repeat (first | refine blk_drewN ?_ _ | refine blk_drew ?_ | refine blk_alloc ?_ _)); exact BK231.out)) : gb247 ≠ gb231)); have n8_ := Aside0.mk ((by rw [hg]; exact Nat.ne_of_lt (blk_lt (g := gb237) (o := .cells #[.int .i64 t233, .int .i64 t234, .int .i64 t235] 28 (0, 0)) (by (with_reducible repeat (first | refine blk_drewN ?_ _ | refine blk_drew ?_ | refine blk_alloc ?_ _)); exact BK237.out)) : gb237 ≠ gb247)); have n9_ := Aside0.mk ((by rw [hg]; exact Nat.ne_of_gt (blk_lt (g := gb237) (o := .cells #[.int .i64 t233, .int .i64 t234, .int .i64 t235] 28 (0, 0)) (by (with_reducible repeat (first | refine blk_drewN ?_ _ | refine blk_drew ?_ | refine blk_alloc ?_ _)); exact BK237.out)) : gb247 ≠ gb237)); clear BK231; clear BK237; clear HB; have BK231 := n0_; have BK237 := n1_; have HB := n2_; have BK247 := n3_; have GW247 := n4_; have GE247 := n5_; have NB231_247 := n6_; have NB247_231 := n7_; have NB237_247 := n8_; have NB247_237 := n9_; clear n0_ n1_ n2_ n3_ n4_ n5_ n6_ n7_ n8_ n9_; clear hb hbox hg; have hnb143 := NB247_231.out; have hnc143 := NB231_247.out; have hnb144 := NB247_237.out; have hnc144 := NB237_247.out; have hcz145_0 : w142.cell? ⟨gb247, 0, none⟩ = some (.int .i64 0) := (blk_cell BK247.out 0).trans rfl; have hcz145_1 : w142.cell? ⟨gb247, 1, none⟩ = some (.int .i64 0) := (blk_cell BK247.out 1).trans rfl; have hcz145_2 : w142.cell? ⟨gb247, 2, none⟩ = some (.int .i64 0) := (blk_cell BK247.out 2).trans rfl; have hfz145_0 := blk_frozen BK247.out 0; have hfz145_1 := blk_frozen BK247.out 1; have hfz145_2 := blk_frozen BK247.out 2))
                    go_ret
                    exact ⟨by first | rfl | (simp [errW_none, errW_some] <;> rfl) | (simp [*, errW_none, errW_some] <;> rfl), by repeat (first | (with_reducible first | exact HB.out | apply below_alloc | apply pw_below_drewN | apply below_drew1 | refine below_set ?_ GE231.out | refine below_set ?_ GE237.out | refine below_set ?_ GE247.out) | exact HB.out)⟩
                · replace c116 := Bool.eq_false_iff.mpr c116
                  subst c116
                  have H1 : (some false) = some r := by rw [if_neg (show ¬ (false = true) by decide)] at H; exact H
                  clear H
                  have H := H1
                  clear H1
                  obtain rfl := Option.some.inj H
                  have hnb146 := NB231_237.out
                  have hnc146 := NB237_231.out
                  have hcz147_0 : wc.cell? ⟨gb231, 0, none⟩ = some (.int .i64 a0_0) := (blk_cell BK231.out 0).trans rfl
                  have hcz147_1 : wc.cell? ⟨gb231, 1, none⟩ = some (.int .i64 a0_1) := (blk_cell BK231.out 1).trans rfl
                  have hcz147_2 : wc.cell? ⟨gb231, 2, none⟩ = some (.int .i64 a0_2) := (blk_cell BK231.out 2).trans rfl
                  have hcz147_3 : wc.cell? ⟨gb231, 3, none⟩ = some (.int .i64 a0_3) := (blk_cell BK231.out 3).trans rfl
                  have hcz147_4 : wc.cell? ⟨gb231, 4, none⟩ = some (.int .i64 a0_4) := (blk_cell BK231.out 4).trans rfl
                  have hcz147_5 : wc.cell? ⟨gb231, 5, none⟩ = some (.int .i64 a0_5) := (blk_cell BK231.out 5).trans rfl
                  have hcz147_6 : wc.cell? ⟨gb231, 6, none⟩ = some (.int .i64 a0_6) := (blk_cell BK231.out 6).trans rfl
                  have hcz147_7 : wc.cell? ⟨gb231, 7, none⟩ = some (.int .i64 a0_7) := (blk_cell BK231.out 7).trans rfl
                  have hfz147_0 := blk_frozen BK231.out 0
                  have hfz147_1 := blk_frozen BK231.out 1
                  have hfz147_2 := blk_frozen BK231.out 2
                  have hfz147_3 := blk_frozen BK231.out 3
                  have hfz147_4 := blk_frozen BK231.out 4
                  have hfz147_5 := blk_frozen BK231.out 5
                  have hfz147_6 := blk_frozen BK231.out 6
                  have hfz147_7 := blk_frozen BK231.out 7
                  go_wp2_with (first | ((with_reducible refine gate_callee (f := 17) rfl ?_); refine goesL_ (some 89) rfl rfl Try.func17 (by kernel_rfl) rfl #[.agg #[.int .i64 a0_0, .int .i64 a0_1, .int .i64 a0_2, .int .i64 a0_3, .int .i64 a0_4, .int .i64 a0_5, .int .i64 a0_6, .int .i64 a0_7], .int .i64 a2, .int .i64 a3] rfl (by (try simp only [List.map_toArray, List.map_cons, List.map_nil]); first | done | rfl | (simp only [List.length_drop, List.length_take]; rfl)) ?_; (with_reducible refine (detmap_Who.calls kj31 a0_0 a0_1 a0_2 a0_3 a0_4 a0_5 a0_6 a0_7 a2 a3 t242 _ A61.out).mono ?_); rintro e w148 ⟨rfl, hb⟩; refine ⟨_, rfl, ?_⟩; have n0_ := Aside0.mk (blk_below (g := gb231) (o := .cells #[.int .i64 a0_0, .int .i64 a0_1, .int .i64 a0_2, .int .i64 a0_3, .int .i64 a0_4, .int .i64 a0_5, .int .i64 a0_6, .int .i64 a0_7] 25 (0, 0)) (by (with_reducible repeat (first | refine blk_drewN ?_ _ | refine blk_drew ?_ | refine blk_alloc ?_ _)); exact BK231.out) hb); have n1_ := Aside0.mk (blk_below (g := gb237) (o := .cells #[.int .i64 t233, .int .i64 t234, .int .i64 t235] 28 (0, 0)) (by (with_reducible repeat (first | refine blk_drewN ?_ _ | refine blk_drew ?_ | refine blk_alloc ?_ _)); exact BK237.out) hb); have n2_ := Aside0.mk (below_step (by repeat (first | (with_reducible first | exact HB.out | apply below_alloc | apply pw_below_drewN | apply below_drew1 | refine below_set ?_ GE231.out | refine below_set ?_ GE237.out) | exact HB.out)) hb); clear BK231; clear BK237; clear HB; have BK231 := n0_; have BK237 := n1_; have HB := n2_; clear n0_ n1_ n2_; (try clear hb); (try clear hb2); (try clear hk); (try clear hi); have hcz149_0 : w148.cell? ⟨gb231, 0, none⟩ = some (.int .i64 a0_0) := (blk_cell BK231.out 0).trans rfl; have hcz149_1 : w148.cell? ⟨gb231, 1, none⟩ = some (.int .i64 a0_1) := (blk_cell BK231.out 1).trans rfl; have hcz149_2 : w148.cell? ⟨gb231, 2, none⟩ = some (.int .i64 a0_2) := (blk_cell BK231.out 2).trans rfl; have hcz149_3 : w148.cell? ⟨gb231, 3, none⟩ = some (.int .i64 a0_3) := (blk_cell BK231.out 3).trans rfl; have hcz149_4 : w148.cell? ⟨gb231, 4, none⟩ = some (.int .i64 a0_4) := (blk_cell BK231.out 4).trans rfl; have hcz149_5 : w148.cell? ⟨gb231, 5, none⟩ = some (.int .i64 a0_5) := (blk_cell BK231.out 5).trans rfl; have hcz149_6 : w148.cell? ⟨gb231, 6, none⟩ = some (.int .i64 a0_6) := (blk_cell BK231.out 6).trans rfl; have hcz149_7 : w148.cell? ⟨gb231, 7, none⟩ = some (.int .i64 a0_7) := (blk_cell BK231.out 7).trans rfl; have hfz149_0 := blk_frozen BK231.out 0; have hfz149_1 := blk_frozen BK231.out 1; have hfz149_2 := blk_frozen BK231.out 2; have hfz149_3 := blk_frozen BK231.out 3; have hfz149_4 := blk_frozen BK231.out 4; have hfz149_5 := blk_frozen BK231.out 5; have hfz149_6 := blk_frozen BK231.out 6; have hfz149_7 := blk_frozen BK231.out 7) | ((with_reducible refine gate_callee (f := 11) rfl ?_); refine goesL_ (some 93) rfl rfl Try.func11 (by kernel_rfl) rfl #[.agg #[.int .i64 a0_0, .int .i64 a0_1, .int .i64 a0_2, .int .i64 a0_3, .int .i64 a0_4, .int .i64 a0_5, .int .i64 a0_6, .int .i64 a0_7], .int .i64 t242] rfl (by (try simp only [List.map_toArray, List.map_cons, List.map_nil]); first | done | rfl | (simp only [List.length_drop, List.length_take]; rfl)) ?_; (with_reducible refine (detmap_Base.calls kj31 a0_0 a0_1 a0_2 a0_3 a0_4 a0_5 a0_6 a0_7 t242 t243 t244 t245 false _ A62.out).mono ?_); rintro e w150 ⟨rfl, hb⟩; refine ⟨_, rfl, ?_⟩; have n0_ := Aside0.mk (blk_below (g := gb231) (o := .cells #[.int .i64 a0_0, .int .i64 a0_1, .int .i64 a0_2, .int .i64 a0_3, .int .i64 a0_4, .int .i64 a0_5, .int .i64 a0_6, .int .i64 a0_7] 25 (0, 0)) (by (with_reducible repeat (first | refine blk_drewN ?_ _ | refine blk_drew ?_ | refine blk_alloc ?_ _)); exact BK231.out) hb); have n1_ := Aside0.mk (blk_below (g := gb237) (o := .cells #[.int .i64 t233, .int .i64 t234, .int .i64 t235] 28 (0, 0)) (by (with_reducible repeat (first | refine blk_drewN ?_ _ | refine blk_drew ?_ | refine blk_alloc ?_ _)); exact BK237.out) hb); have n2_ := Aside0.mk (below_step (by repeat (first | (with_reducible first | exact HB.out | apply below_alloc | apply pw_below_drewN | apply below_drew1 | refine below_set ?_ GE231.out | refine below_set ?_ GE237.out) | exact HB.out)) hb); clear BK231; clear BK237; clear HB; have BK231 := n0_; have BK237 := n1_; have HB := n2_; clear n0_ n1_ n2_; (try clear hb); (try clear hb2); (try clear hk); (try clear hi)) | ((with_reducible refine gate_dst (N := 13) rfl ?_); refine box_event ?hg (N := 13) ?hd (cs := #[.int .i64 0, .int .i64 0, .int .i64 0]) (t := 28) ?hr ?_; (case hd => rfl); (case hg => rfl); (case hr => first | (go_simp; done) | (go_simp; rfl)); intro gb247 hg w151 hbox hb; have n0_ := Aside0.mk (blk_below (g := gb231) (o := .cells #[.int .i64 a0_0, .int .i64 a0_1, .int .i64 a0_2, .int .i64 a0_3, .int .i64 a0_4, .int .i64 a0_5, .int .i64 a0_6, .int .i64 a0_7] 25 (0, 0)) (by (with_reducible repeat (first | refine blk_drewN ?_ _ | refine blk_drew ?_ | refine blk_alloc ?_ _)); exact BK231.out) hb); have n1_ := Aside0.mk (blk_below (g := gb237) (o := .cells #[.int .i64 t233, .int .i64 t234, .int .i64 t235] 28 (0, 0)) (by (with_reducible repeat (first | refine blk_drewN ?_ _ | refine blk_drew ?_ | refine blk_alloc ?_ _)); exact BK237.out) hb); have n2_ := Aside0.mk (below_step (by repeat (first | (with_reducible first | exact HB.out | apply below_alloc | apply pw_below_drewN | apply below_drew1 | refine below_set ?_ GE231.out | refine below_set ?_ GE237.out) | exact HB.out)) hb); have n3_ := Aside0.mk (hbox); have n4_ := Aside0.mk ((by rw [hg]; exact (below_size (by repeat (first | (with_reducible first | exact HB.out | apply below_alloc | apply pw_below_drewN | apply below_drew1 | refine below_set ?_ GE231.out | refine below_set ?_ GE237.out) | exact HB.out))) : w.heap.size ≤ gb247)); have n5_ := Aside0.mk ((by rw [hg]; exact (below_size (by repeat (first | (with_reducible first | exact HB.out | apply below_alloc | apply pw_below_drewN | apply below_drew1 | refine below_set ?_ GE231.out | refine below_set ?_ GE237.out) | exact HB.out))) : w.heap.size ≤ gb247)); have n6_ := Aside0.mk ((by rw [hg]; exact Nat.ne_of_lt (blk_lt (g := gb231) (o := .cells #[.int .i64 a0_0, .int .i64 a0_1, .int .i64 a0_2, .int .i64 a0_3, .int .i64 a0_4, .int .i64 a0_5, .int .i64 a0_6, .int .i64 a0_7] 25 (0, 0)) (by (with_reducible repeat (first | refine blk_drewN ?_ _ | refine blk_drew ?_ | refine blk_alloc ?_ _)); exact BK231.out)) : gb231 ≠ gb247)); have n7_ := Aside0.mk ((by rw [hg]; exact Nat.ne_of_gt (blk_lt (g := gb231) (o := .cells #[.int .i64 a0_0, .int .i64 a0_1, .int .i64 a0_2, .int .i64 a0_3, .int .i64 a0_4, .int .i64 a0_5, .int .i64 a0_6, .int .i64 a0_7] 25 (0, 0)) (by (with_reducible repeat (first | refine blk_drewN ?_ _ | refine blk_drew ?_ | refine blk_alloc ?_ _)); exact BK231.out)) : gb247 ≠ gb231)); have n8_ := Aside0.mk ((by rw [hg]; exact Nat.ne_of_lt (blk_lt (g := gb237) (o := .cells #[.int .i64 t233, .int .i64 t234, .int .i64 t235] 28 (0, 0)) (by (with_reducible repeat (first | refine blk_drewN ?_ _ | refine blk_drew ?_ | refine blk_alloc ?_ _)); exact BK237.out)) : gb237 ≠ gb247)); have n9_ := Aside0.mk ((by rw [hg]; exact Nat.ne_of_gt (blk_lt (g := gb237) (o := .cells #[.int .i64 t233, .int .i64 t234, .int .i64 t235] 28 (0, 0)) (by (with_reducible repeat (first | refine blk_drewN ?_ _ | refine blk_drew ?_ | refine blk_alloc ?_ _)); exact BK237.out)) : gb247 ≠ gb237)); clear BK231; clear BK237; clear HB; have BK231 := n0_; have BK237 := n1_; have HB := n2_; have BK247 := n3_; have GW247 := n4_; have GE247 := n5_; have NB231_247 := n6_; have NB247_231 := n7_; have NB237_247 := n8_; have NB247_237 := n9_; clear n0_ n1_ n2_ n3_ n4_ n5_ n6_ n7_ n8_ n9_; clear hb hbox hg; have hnb152 := NB247_231.out; have hnc152 := NB231_247.out; have hnb153 := NB247_237.out; have hnc153 := NB237_247.out; have hcz154_0 : w151.cell? ⟨gb247, 0, none⟩ = some (.int .i64 0) := (blk_cell BK247.out 0).trans rfl; have hcz154_1 : w151.cell? ⟨gb247, 1, none⟩ = some (.int .i64 0) := (blk_cell BK247.out 1).trans rfl; have hcz154_2 : w151.cell? ⟨gb247, 2, none⟩ = some (.int .i64 0) := (blk_cell BK247.out 2).trans rfl; have hfz154_0 := blk_frozen BK247.out 0; have hfz154_1 := blk_frozen BK247.out 1; have hfz154_2 := blk_frozen BK247.out 2))
                  go_ret
                  exact ⟨by first | rfl | (simp [errW_none, errW_some] <;> rfl) | (simp [*, errW_none, errW_some] <;> rfl), by repeat (first | (with_reducible first | exact HB.out | apply below_alloc | apply pw_below_drewN | apply below_drew1 | refine below_set ?_ GE231.out | refine below_set ?_ GE237.out | refine below_set ?_ GE247.out) | exact HB.out)⟩

end Go.Proofs.Ytfkdflhijfkjoaa.P
