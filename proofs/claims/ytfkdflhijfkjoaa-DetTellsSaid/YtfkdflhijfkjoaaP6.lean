-- Laid by this session's own program (wip/myprint.py): Lean functions for the Go functions that a law reaches, and their contracts. Not trusted: Lean checks it. (slimmed by wip/slim08.py)
import Derived.Test.YtfkdflhijfkjoaaP0
import Derived.Test.YtfkdflhijfkjoaaP2
import Derived.Test.YtfkdflhijfkjoaaP4
namespace Go.Proofs.Ytfkdflhijfkjoaa.P
open Go.RowKit Go.Proofs.YtfkdflhijfkjoaaW.PrintWords Go.Proofs.YtfkdflhijfkjoaaW.PrintLast Go.Proofs.YtfkdflhijfkjoaaW.PrintMore
attribute [local go_sem] max2_int min2_int max_two min_two max_three min_three max_four min_four   -- for this text's walks alone
set_option linter.unusedVariables false
set_option linter.unusedSimpArgs false

/-! ### detmap_Blocks: function 23 -/
def detmap_Blocks.f (q0 : Int) (q1 : Int) (q2 : Int) (q3 : Int) (q4 : Int) (q5 : Int) (q6 : Int) (q7 : Int) : Option (Int) := (detmap_Fit.f q0 q1 q2 q3 q4 q5 q6 q7).bind fun t127 => (if t127 = true then (if q7 = 0 then (none) else (some (wrap64 (Int.tdiv q6 q7)))) else (some 0))
set_option maxHeartbeats 8000000 in
set_option maxRecDepth 100000 in
theorem detmap_Blocks.calls (q0 : Int) (q1 : Int) (q2 : Int) (q3 : Int) (q4 : Int) (q5 : Int) (q6 : Int) (q7 : Int) (r : Int) (w : World) (h : detmap_Blocks.f q0 q1 q2 q3 q4 q5 q6 q7 = some r) :
  Calls Try.prog 23 #[.agg #[.int .i64 q0, .int .i64 q1, .int .i64 q2, .int .i64 q3, .int .i64 q4, .int .i64 q5, .int .i64 q6, .int .i64 q7]] w fun e w' => e = .returned (.int .i64 r) ∧ Below w.heap.size w w' := by
 have hu25 := Try.underlying25
 have HB := Ym (Below.refl w.heap.size w)
 have H : ((detmap_Fit.f q0 q1 q2 q3 q4 q5 q6 q7).bind fun t127 => (if t127 = true then (if q7 = 0 then (none) else (some (wrap64 (Int.tdiv q6 q7)))) else (some 0))) = some r := h
 clear h
 replace H := Option.bind_eq_some_iff.mp H
 obtain ⟨t127, A20, H⟩ := H
 replace H : (if t127 = true then (if q7 = 0 then (none) else (some (wrap64 (Int.tdiv q6 q7)))) else (some 0)) = some r := H
 have A2 := Ym A20
 clear A20
 by_cases c3 : t127 = true
 ·subst c3
  have H1 : (if q7 = 0 then (none) else (some (wrap64 (Int.tdiv q6 q7)))) = some r := by rw [if_pos rfl] at H; exact H
  clear H
  have H := H1
  clear H1
  by_cases c4 : q7 = 0
  ·rw [if_pos c4] at H
   exact absurd H (by simp)
  ·rw [if_neg c4] at H
   have c4b0 : (q7 == 0) = false := beq_eq_false_iff_ne.mpr c4
   have c4b1 : (q7 != 0) = true := bne_iff_ne.mpr c4
   obtain rfl := Option.some.inj H
   go_enter Try.func23, Try.ntmps23
   go_wp2_with (first | ((with_reducible refine gate_dst (N := 1) rfl ?_); refine box_event ?hg (N := 1) ?hd (cs := #[.int .i64 q0, .int .i64 q1, .int .i64 q2, .int .i64 q3, .int .i64 q4, .int .i64 q5, .int .i64 q6, .int .i64 q7]) (t := 25) ?hr ?_; (case hd => rfl); (case hg => rfl); (case hr => first | (go_simp; done) | (go_simp; rfl)); intro gb126 hg w5 hbox hb; have n0_ := Ym (Yj (by repeat (first | (with_reducible first | exact HB.out | apply Yc | apply Ya | apply Yb) | exact HB.out)) hb); have n1_ := Ym (hbox); have n2_ := Ym ((by rw [hg]; exact (Yk (by repeat (first | (with_reducible first | exact HB.out | apply Yc | apply Ya | apply Yb) | exact HB.out))) : w.heap.size ≤ gb126)); have n3_ := Ym ((by rw [hg]; exact (Yk (by repeat (first | (with_reducible first | exact HB.out | apply Yc | apply Ya | apply Yb) | exact HB.out))) : w.heap.size ≤ gb126)); clear HB; have HB := n0_; have BK126 := n1_; have GW126 := n2_; have GE126 := n3_; clear n0_ n1_ n2_ n3_; clear hb hbox hg; have hcz6_0 : w5.cell? ⟨gb126, 0, none⟩ = some (.int .i64 q0) := (Yh BK126.out 0).trans rfl; have hcz6_1 : w5.cell? ⟨gb126, 1, none⟩ = some (.int .i64 q1) := (Yh BK126.out 1).trans rfl; have hcz6_2 : w5.cell? ⟨gb126, 2, none⟩ = some (.int .i64 q2) := (Yh BK126.out 2).trans rfl; have hcz6_3 : w5.cell? ⟨gb126, 3, none⟩ = some (.int .i64 q3) := (Yh BK126.out 3).trans rfl; have hcz6_4 : w5.cell? ⟨gb126, 4, none⟩ = some (.int .i64 q4) := (Yh BK126.out 4).trans rfl; have hcz6_5 : w5.cell? ⟨gb126, 5, none⟩ = some (.int .i64 q5) := (Yh BK126.out 5).trans rfl; have hcz6_6 : w5.cell? ⟨gb126, 6, none⟩ = some (.int .i64 q6) := (Yh BK126.out 6).trans rfl; have hcz6_7 : w5.cell? ⟨gb126, 7, none⟩ = some (.int .i64 q7) := (Yh BK126.out 7).trans rfl; have hfz6_0 := Yi BK126.out 0; have hfz6_1 := Yi BK126.out 1; have hfz6_2 := Yi BK126.out 2; have hfz6_3 := Yi BK126.out 3; have hfz6_4 := Yi BK126.out 4; have hfz6_5 := Yi BK126.out 5; have hfz6_6 := Yi BK126.out 6; have hfz6_7 := Yi BK126.out 7) | ((with_reducible refine gate_callee (f := 16) rfl ?_); refine goesL_ (some 4) rfl rfl Try.func16 (by kernel_rfl) rfl #[.agg #[.int .i64 q0, .int .i64 q1, .int .i64 q2, .int .i64 q3, .int .i64 q4, .int .i64 q5, .int .i64 q6, .int .i64 q7]] rfl (by (try simp only [List.map_toArray, List.map_cons, List.map_nil]); first | done | rfl | (simp only [List.length_drop, List.length_take]; rfl)) ?_; (with_reducible refine (detmap_Fit.calls q0 q1 q2 q3 q4 q5 q6 q7 true _ A2.out).mono ?_); rintro e w7 ⟨rfl, hb⟩; refine ⟨_, rfl, ?_⟩; have n0_ := Ym (Yl (g := gb126) (o := .cells #[.int .i64 q0, .int .i64 q1, .int .i64 q2, .int .i64 q3, .int .i64 q4, .int .i64 q5, .int .i64 q6, .int .i64 q7] 25 (0, 0)) (by (with_reducible repeat (first | refine Yd ?_ _ | refine Yf ?_ | refine Ye ?_ _)); exact BK126.out) hb); have n1_ := Ym (Yj (by repeat (first | (with_reducible first | exact HB.out | apply Yc | apply Ya | apply Yb | refine Yg ?_ GE126.out) | exact HB.out)) hb); clear BK126; clear HB; have BK126 := n0_; have HB := n1_; clear n0_ n1_; (try clear hb); (try clear hb2); (try clear hk); (try clear hi); have hcz8_0 : w7.cell? ⟨gb126, 0, none⟩ = some (.int .i64 q0) := (Yh BK126.out 0).trans rfl; have hcz8_1 : w7.cell? ⟨gb126, 1, none⟩ = some (.int .i64 q1) := (Yh BK126.out 1).trans rfl; have hcz8_2 : w7.cell? ⟨gb126, 2, none⟩ = some (.int .i64 q2) := (Yh BK126.out 2).trans rfl; have hcz8_3 : w7.cell? ⟨gb126, 3, none⟩ = some (.int .i64 q3) := (Yh BK126.out 3).trans rfl; have hcz8_4 : w7.cell? ⟨gb126, 4, none⟩ = some (.int .i64 q4) := (Yh BK126.out 4).trans rfl; have hcz8_5 : w7.cell? ⟨gb126, 5, none⟩ = some (.int .i64 q5) := (Yh BK126.out 5).trans rfl; have hcz8_6 : w7.cell? ⟨gb126, 6, none⟩ = some (.int .i64 q6) := (Yh BK126.out 6).trans rfl; have hcz8_7 : w7.cell? ⟨gb126, 7, none⟩ = some (.int .i64 q7) := (Yh BK126.out 7).trans rfl; have hfz8_0 := Yi BK126.out 0; have hfz8_1 := Yi BK126.out 1; have hfz8_2 := Yi BK126.out 2; have hfz8_3 := Yi BK126.out 3; have hfz8_4 := Yi BK126.out 4; have hfz8_5 := Yi BK126.out 5; have hfz8_6 := Yi BK126.out 6; have hfz8_7 := Yi BK126.out 7))
   go_ret
   exact ⟨by first | rfl | (simp [errW_none, errW_some] <;> rfl) | (simp [*, errW_none, errW_some] <;> rfl), by repeat (first | (with_reducible first | exact HB.out | apply Yc | apply Ya | apply Yb | refine Yg ?_ GE126.out) | exact HB.out)⟩
 ·replace c3 := Bool.eq_false_iff.mpr c3
  subst c3
  have H1 : (some 0) = some r := by rw [if_neg (show ¬ (false = true) by decide)] at H; exact H
  clear H
  have H := H1
  clear H1
  obtain rfl := Option.some.inj H
  go_enter Try.func23, Try.ntmps23
  go_wp2_with (first | ((with_reducible refine gate_dst (N := 1) rfl ?_); refine box_event ?hg (N := 1) ?hd (cs := #[.int .i64 q0, .int .i64 q1, .int .i64 q2, .int .i64 q3, .int .i64 q4, .int .i64 q5, .int .i64 q6, .int .i64 q7]) (t := 25) ?hr ?_; (case hd => rfl); (case hg => rfl); (case hr => first | (go_simp; done) | (go_simp; rfl)); intro gb126 hg w9 hbox hb; have n0_ := Ym (Yj (by repeat (first | (with_reducible first | exact HB.out | apply Yc | apply Ya | apply Yb) | exact HB.out)) hb); have n1_ := Ym (hbox); have n2_ := Ym ((by rw [hg]; exact (Yk (by repeat (first | (with_reducible first | exact HB.out | apply Yc | apply Ya | apply Yb) | exact HB.out))) : w.heap.size ≤ gb126)); have n3_ := Ym ((by rw [hg]; exact (Yk (by repeat (first | (with_reducible first | exact HB.out | apply Yc | apply Ya | apply Yb) | exact HB.out))) : w.heap.size ≤ gb126)); clear HB; have HB := n0_; have BK126 := n1_; have GW126 := n2_; have GE126 := n3_; clear n0_ n1_ n2_ n3_; clear hb hbox hg; have hcz10_0 : w9.cell? ⟨gb126, 0, none⟩ = some (.int .i64 q0) := (Yh BK126.out 0).trans rfl; have hcz10_1 : w9.cell? ⟨gb126, 1, none⟩ = some (.int .i64 q1) := (Yh BK126.out 1).trans rfl; have hcz10_2 : w9.cell? ⟨gb126, 2, none⟩ = some (.int .i64 q2) := (Yh BK126.out 2).trans rfl; have hcz10_3 : w9.cell? ⟨gb126, 3, none⟩ = some (.int .i64 q3) := (Yh BK126.out 3).trans rfl; have hcz10_4 : w9.cell? ⟨gb126, 4, none⟩ = some (.int .i64 q4) := (Yh BK126.out 4).trans rfl; have hcz10_5 : w9.cell? ⟨gb126, 5, none⟩ = some (.int .i64 q5) := (Yh BK126.out 5).trans rfl; have hcz10_6 : w9.cell? ⟨gb126, 6, none⟩ = some (.int .i64 q6) := (Yh BK126.out 6).trans rfl; have hcz10_7 : w9.cell? ⟨gb126, 7, none⟩ = some (.int .i64 q7) := (Yh BK126.out 7).trans rfl; have hfz10_0 := Yi BK126.out 0; have hfz10_1 := Yi BK126.out 1; have hfz10_2 := Yi BK126.out 2; have hfz10_3 := Yi BK126.out 3; have hfz10_4 := Yi BK126.out 4; have hfz10_5 := Yi BK126.out 5; have hfz10_6 := Yi BK126.out 6; have hfz10_7 := Yi BK126.out 7) | ((with_reducible refine gate_callee (f := 16) rfl ?_); refine goesL_ (some 4) rfl rfl Try.func16 (by kernel_rfl) rfl #[.agg #[.int .i64 q0, .int .i64 q1, .int .i64 q2, .int .i64 q3, .int .i64 q4, .int .i64 q5, .int .i64 q6, .int .i64 q7]] rfl (by (try simp only [List.map_toArray, List.map_cons, List.map_nil]); first | done | rfl | (simp only [List.length_drop, List.length_take]; rfl)) ?_; (with_reducible refine (detmap_Fit.calls q0 q1 q2 q3 q4 q5 q6 q7 false _ A2.out).mono ?_); rintro e w11 ⟨rfl, hb⟩; refine ⟨_, rfl, ?_⟩; have n0_ := Ym (Yl (g := gb126) (o := .cells #[.int .i64 q0, .int .i64 q1, .int .i64 q2, .int .i64 q3, .int .i64 q4, .int .i64 q5, .int .i64 q6, .int .i64 q7] 25 (0, 0)) (by (with_reducible repeat (first | refine Yd ?_ _ | refine Yf ?_ | refine Ye ?_ _)); exact BK126.out) hb); have n1_ := Ym (Yj (by repeat (first | (with_reducible first | exact HB.out | apply Yc | apply Ya | apply Yb | refine Yg ?_ GE126.out) | exact HB.out)) hb); clear BK126; clear HB; have BK126 := n0_; have HB := n1_; clear n0_ n1_; (try clear hb); (try clear hb2); (try clear hk); (try clear hi)))
  go_ret
  exact ⟨by first | rfl | (simp [errW_none, errW_some] <;> rfl) | (simp [*, errW_none, errW_some] <;> rfl), by repeat (first | (with_reducible first | exact HB.out | apply Yc | apply Ya | apply Yb | refine Yg ?_ GE126.out) | exact HB.out)⟩

/-! ### detmap_Block: function 13 -/
def detmap_Block.j0 : Nat → Int → Int → Bool → Int → Int → Int → Int → Int → Int → Int → Int → Option (Int × Int × Int × Bool)
 | 0, _, _, _, _, _, _, _, _, _, _, _ => none
 | k + 1, x1, x2, x27, x129000, x129001, x129002, x129003, x129004, x129005, x129006, x129007 => if x27 = true then (some (0, 0, 0, false)) else (some (x1, wrap64 ((wrap64 ((wrap64 (x129005 - x129006)) + 1)) + (wrap64 (x2 * x129007))), wrap64 ((wrap64 ((wrap64 ((wrap64 ((wrap64 (x129005 - x129006)) + 1)) + (wrap64 (x2 * x129007)))) + x129007)) - 1), true))
def detmap_Block.f (k : Nat) (q0 : Int) (q1 : Int) (q2 : Int) (q3 : Int) (q4 : Int) (q5 : Int) (q6 : Int) (q7 : Int) (a1 : Int) (a2 : Int) : Option (Int × Int × Int × Bool) := if a1 < 0 then (detmap_Block.j0 k a1 a2 true q0 q1 q2 q3 q4 q5 q6 q7) else ((addr_Size.f q2 q3).bind fun t130 => (if a1 ≥ t130 then (detmap_Block.j0 k a1 a2 true q0 q1 q2 q3 q4 q5 q6 q7) else (if a2 < 0 then (detmap_Block.j0 k a1 a2 true q0 q1 q2 q3 q4 q5 q6 q7) else ((detmap_Blocks.f q0 q1 q2 q3 q4 q5 q6 q7).bind fun t131 => (detmap_Block.j0 k a1 a2 (decide (a2 ≥ t131)) q0 q1 q2 q3 q4 q5 q6 q7)))))
theorem detmap_Block.mono_l : ∀ k, (∀ y0 y1 y2 y3 y4 y5 y6 y7 y8 y9 y10, LeO (detmap_Block.j0 k y0 y1 y2 y3 y4 y5 y6 y7 y8 y9 y10) (detmap_Block.j0 (k + 1) y0 y1 y2 y3 y4 y5 y6 y7 y8 y9 y10))
 | 0 => fun _ _ _ _ _ _ _ _ _ _ _ r h => by simp [detmap_Block.j0] at h
 | k + 1 => by
  have ih0 := detmap_Block.mono_l k
  ·intro y0 y1 y2 y3 y4 y5 y6 y7 y8 y9 y10
   unfold detmap_Block.j0
   repeat' first
   | (with_reducible exact ih0 _ _ _ _ _ _ _ _ _ _ _)
   | (with_reducible exact LeO.refl _)
   | (with_reducible exact LeO.none _)
   | (with_reducible refine LeO.ite ?_ ?_)
   | (with_reducible refine LeO.bind ?_ (fun _ => ?_))
   | exact ih0 _ _ _ _ _ _ _ _ _ _ _
   | exact LeO.none _
   | refine LeO.ite ?_ ?_
   | refine LeO.bind ?_ (fun _ => ?_)
theorem detmap_Block.mono : ∀ a0 a1 a2 a3 a4 a5 a6 a7 a8 a9 k, LeO (detmap_Block.f k a0 a1 a2 a3 a4 a5 a6 a7 a8 a9) (detmap_Block.f (k + 1) a0 a1 a2 a3 a4 a5 a6 a7 a8 a9) := by
 intro a0 a1 a2 a3 a4 a5 a6 a7 a8 a9 k
 have ih0 := detmap_Block.mono_l k
 unfold detmap_Block.f
 repeat' first
   | (with_reducible exact ih0 _ _ _ _ _ _ _ _ _ _ _)
   | (with_reducible exact LeO.refl _)
   | (with_reducible exact LeO.none _)
   | (with_reducible refine LeO.ite ?_ ?_)
   | (with_reducible refine LeO.bind ?_ (fun _ => ?_))
   | exact ih0 _ _ _ _ _ _ _ _ _ _ _
   | exact LeO.none _
   | refine LeO.ite ?_ ?_
   | refine LeO.bind ?_ (fun _ => ?_)
set_option maxHeartbeats 8000000 in
set_option maxRecDepth 100000 in
theorem detmap_Block.calls (k : Nat) (q0 : Int) (q1 : Int) (q2 : Int) (q3 : Int) (q4 : Int) (q5 : Int) (q6 : Int) (q7 : Int) (a1 : Int) (a2 : Int) (r1 : Int) (r2 : Int) (r3 : Int) (r4 : Bool) (w : World) (h : detmap_Block.f k q0 q1 q2 q3 q4 q5 q6 q7 a1 a2 = some (r1, r2, r3, r4)) :
  Calls Try.prog 13 #[.agg #[.int .i64 q0, .int .i64 q1, .int .i64 q2, .int .i64 q3, .int .i64 q4, .int .i64 q5, .int .i64 q6, .int .i64 q7], .int .i64 a1, .int .i64 a2] w fun e w' => e = .returned (.tuple #[.agg #[.int .i64 r1, .int .i64 r2, .int .i64 r3], .bool r4]) ∧ Below w.heap.size w w' := by
 have hu25 := Try.underlying25
 have hu28 := Try.underlying28
 have hu23 := Try.underlying23
 have HB := Ym (Below.refl w.heap.size w)
 have H : (if a1 < 0 then (detmap_Block.j0 k a1 a2 true q0 q1 q2 q3 q4 q5 q6 q7) else ((addr_Size.f q2 q3).bind fun t130 => (if a1 ≥ t130 then (detmap_Block.j0 k a1 a2 true q0 q1 q2 q3 q4 q5 q6 q7) else (if a2 < 0 then (detmap_Block.j0 k a1 a2 true q0 q1 q2 q3 q4 q5 q6 q7) else ((detmap_Blocks.f q0 q1 q2 q3 q4 q5 q6 q7).bind fun t131 => (detmap_Block.j0 k a1 a2 (decide (a2 ≥ t131)) q0 q1 q2 q3 q4 q5 q6 q7)))))) = some (r1, r2, r3, r4) := h
 clear h
 have HC4 := Ym H
 clear H
 go_enter Try.func13, Try.ntmps13
 go_upto_region 1 with (first | ((with_reducible refine gate_dst (N := 3) rfl ?_); refine box_event ?hg (N := 3) ?hd (cs := #[.int .i64 q0, .int .i64 q1, .int .i64 q2, .int .i64 q3, .int .i64 q4, .int .i64 q5, .int .i64 q6, .int .i64 q7]) (t := 25) ?hr ?_; (case hd => rfl); (case hg => rfl); (case hr => first | (go_simp; done) | (go_simp; rfl)); intro gb128 hg w5 hbox hb; have n0_ := Ym (Yj (by repeat (first | (with_reducible first | exact HB.out | apply Yc | apply Ya | apply Yb) | exact HB.out)) hb); have n1_ := Ym (hbox); have n2_ := Ym ((by rw [hg]; exact (Yk (by repeat (first | (with_reducible first | exact HB.out | apply Yc | apply Ya | apply Yb) | exact HB.out))) : w.heap.size ≤ gb128)); have n3_ := Ym ((by rw [hg]; exact (Yk (by repeat (first | (with_reducible first | exact HB.out | apply Yc | apply Ya | apply Yb) | exact HB.out))) : w.heap.size ≤ gb128)); clear HB; have HB := n0_; have BK128 := n1_; have GW128 := n2_; have GE128 := n3_; clear n0_ n1_ n2_ n3_; clear hb hbox hg) | ((with_reducible refine gate_dst (N := 6) rfl ?_); refine box_event ?hg (N := 6) ?hd (cs := #[.int .i64 0, .int .i64 0, .int .i64 0]) (t := 28) ?hr ?_; (case hd => rfl); (case hg => rfl); (case hr => first | (go_simp; done) | (go_simp; rfl)); intro gb129 hg w6 hbox hb; have n0_ := Ym (Yl (g := gb128) (o := .cells #[.int .i64 q0, .int .i64 q1, .int .i64 q2, .int .i64 q3, .int .i64 q4, .int .i64 q5, .int .i64 q6, .int .i64 q7] 25 (0, 0)) (by (with_reducible repeat (first | refine Yd ?_ _ | refine Yf ?_ | refine Ye ?_ _)); exact BK128.out) hb); have n1_ := Ym (Yj (by repeat (first | (with_reducible first | exact HB.out | apply Yc | apply Ya | apply Yb | refine Yg ?_ GE128.out) | exact HB.out)) hb); have n2_ := Ym (hbox); have n3_ := Ym ((by rw [hg]; exact (Yk (by repeat (first | (with_reducible first | exact HB.out | apply Yc | apply Ya | apply Yb | refine Yg ?_ GE128.out) | exact HB.out))) : w.heap.size ≤ gb129)); have n4_ := Ym ((by rw [hg]; exact (Yk (by repeat (first | (with_reducible first | exact HB.out | apply Yc | apply Ya | apply Yb | refine Yg ?_ GE128.out) | exact HB.out))) : w.heap.size ≤ gb129)); have n5_ := Ym ((by rw [hg]; exact Nat.ne_of_lt (blk_lt (g := gb128) (o := .cells #[.int .i64 q0, .int .i64 q1, .int .i64 q2, .int .i64 q3, .int .i64 q4, .int .i64 q5, .int .i64 q6, .int .i64 q7] 25 (0, 0)) (by (with_reducible repeat (first | refine Yd ?_ _ | refine Yf ?_ | refine Ye ?_ _)); exact BK128.out)) : gb128 ≠ gb129)); have n6_ := Ym ((by rw [hg]; exact Nat.ne_of_gt (blk_lt (g := gb128) (o := .cells #[.int .i64 q0, .int .i64 q1, .int .i64 q2, .int .i64 q3, .int .i64 q4, .int .i64 q5, .int .i64 q6, .int .i64 q7] 25 (0, 0)) (by (with_reducible repeat (first | refine Yd ?_ _ | refine Yf ?_ | refine Ye ?_ _)); exact BK128.out)) : gb129 ≠ gb128)); clear BK128; clear HB; have BK128 := n0_; have HB := n1_; have BK129 := n2_; have GW129 := n3_; have GE129 := n4_; have NB128_129 := n5_; have NB129_128 := n6_; clear n0_ n1_ n2_ n3_ n4_ n5_ n6_; clear hb hbox hg))
 (try simp only [Act.put, Yo, Yp, Yq])
 go_cut [27] (fun v27 wc => ∃ (kq : Nat) (x27_3 : Bool), v27 = .bool x27_3 ∧ Aside0 (detmap_Block.j0 kq a1 a2 x27_3 q0 q1 q2 q3 q4 q5 q6 q7 = some (r1, r2, r3, r4)) ∧ Aside0 (kq ≤ k) ∧ Aside0 (wc.heap[gb128]? = some (.cells #[.int .i64 q0, .int .i64 q1, .int .i64 q2, .int .i64 q3, .int .i64 q4, .int .i64 q5, .int .i64 q6, .int .i64 q7] 25 (0, 0))) ∧ Aside0 (wc.heap[gb129]? = some (.cells #[.int .i64 0, .int .i64 0, .int .i64 0] 28 (0, 0))) ∧ Aside0 (Below w.heap.size w wc))
 case first =>
  have H := HC4.out
  clear HC4
  by_cases c7 : a1 < 0
  ·rw [if_pos c7] at H
   have c7b0 : decide (a1 < 0) = true := decide_eq_true c7
   clear c7
   (first | rw [c7b0] | (simp only [i64_w, i32_w]; rw [c7b0]) | skip)
   have H' := Ym H
   clear H
   go_wp2
   go_meet
   case rel => exact ⟨_, (true), (by first | rfl | (simp; done) | (simp [*]; done)), H', ⟨by first | omega | exact Nat.le_refl _⟩, ⟨by (with_reducible repeat (first | refine Yd ?_ _ | refine Yf ?_ | refine Ye ?_ _)); exact BK128.out⟩, ⟨by (with_reducible repeat (first | refine Yd ?_ _ | refine Yf ?_ | refine Ye ?_ _)); exact BK129.out⟩, ⟨by repeat (first | (with_reducible first | exact HB.out | apply Yc | apply Ya | apply Yb | refine Yg ?_ GE128.out | refine Yg ?_ GE129.out) | exact HB.out)⟩⟩
  ·rw [if_neg c7] at H
   have c7b0 : decide (a1 < 0) = false := decide_eq_false c7
   clear c7
   (first | rw [c7b0] | (simp only [i64_w, i32_w]; rw [c7b0]) | skip)
   replace H := Option.bind_eq_some_iff.mp H
   obtain ⟨t130, A80, H⟩ := H
   replace H : (if a1 ≥ t130 then (detmap_Block.j0 k a1 a2 true q0 q1 q2 q3 q4 q5 q6 q7) else (if a2 < 0 then (detmap_Block.j0 k a1 a2 true q0 q1 q2 q3 q4 q5 q6 q7) else ((detmap_Blocks.f q0 q1 q2 q3 q4 q5 q6 q7).bind fun t131 => (detmap_Block.j0 k a1 a2 (decide (a2 ≥ t131)) q0 q1 q2 q3 q4 q5 q6 q7)))) = some (r1, r2, r3, r4) := H
   have A8 := Ym A80
   clear A80
   by_cases c9 : a1 ≥ t130
   ·rw [if_pos c9] at H
    have c9b0 : decide (t130 ≤ a1) = true := decide_eq_true c9
    clear c9
    have H' := Ym H
    clear H
    have hnb10 := NB128_129.out
    have hnc10 := NB129_128.out
    have hcz11_0 : w6.cell? ⟨gb128, 0, none⟩ = some (.int .i64 q0) := (Yh BK128.out 0).trans rfl
    have hcz11_1 : w6.cell? ⟨gb128, 1, none⟩ = some (.int .i64 q1) := (Yh BK128.out 1).trans rfl
    have hcz11_2 : w6.cell? ⟨gb128, 2, none⟩ = some (.int .i64 q2) := (Yh BK128.out 2).trans rfl
    have hcz11_3 : w6.cell? ⟨gb128, 3, none⟩ = some (.int .i64 q3) := (Yh BK128.out 3).trans rfl
    have hcz11_4 : w6.cell? ⟨gb128, 4, none⟩ = some (.int .i64 q4) := (Yh BK128.out 4).trans rfl
    have hcz11_5 : w6.cell? ⟨gb128, 5, none⟩ = some (.int .i64 q5) := (Yh BK128.out 5).trans rfl
    have hcz11_6 : w6.cell? ⟨gb128, 6, none⟩ = some (.int .i64 q6) := (Yh BK128.out 6).trans rfl
    have hcz11_7 : w6.cell? ⟨gb128, 7, none⟩ = some (.int .i64 q7) := (Yh BK128.out 7).trans rfl
    have hfz11_0 := Yi BK128.out 0
    have hfz11_1 := Yi BK128.out 1
    have hfz11_2 := Yi BK128.out 2
    have hfz11_3 := Yi BK128.out 3
    have hfz11_4 := Yi BK128.out 4
    have hfz11_5 := Yi BK128.out 5
    have hfz11_6 := Yi BK128.out 6
    have hfz11_7 := Yi BK128.out 7
    go_wp2_with (first | (go_at_call 27; (with_reducible refine (addr_Size.calls q2 q3 t130 _ A8.out).mono ?_); rintro e w12 ⟨rfl, hb⟩; have n0_ := Ym (Yl (g := gb128) (o := .cells #[.int .i64 q0, .int .i64 q1, .int .i64 q2, .int .i64 q3, .int .i64 q4, .int .i64 q5, .int .i64 q6, .int .i64 q7] 25 (0, 0)) (by (with_reducible repeat (first | refine Yd ?_ _ | refine Yf ?_ | refine Ye ?_ _)); exact BK128.out) hb); have n1_ := Ym (Yl (g := gb129) (o := .cells #[.int .i64 0, .int .i64 0, .int .i64 0] 28 (0, 0)) (by (with_reducible repeat (first | refine Yd ?_ _ | refine Yf ?_ | refine Ye ?_ _)); exact BK129.out) hb); have n2_ := Ym (Yj (by repeat (first | (with_reducible first | exact HB.out | apply Yc | apply Ya | apply Yb | refine Yg ?_ GE128.out | refine Yg ?_ GE129.out) | exact HB.out)) hb); clear BK128; clear BK129; clear HB; have BK128 := n0_; have BK129 := n1_; have HB := n2_; clear n0_ n1_ n2_; (try clear hb); (try clear hb2); (try clear hk); (try clear hi)))
    go_meet
    case rel => exact ⟨_, (true), (by first | rfl | (simp; done) | (simp [*]; done)), H', ⟨by first | omega | exact Nat.le_refl _⟩, ⟨by (with_reducible repeat (first | refine Yd ?_ _ | refine Yf ?_ | refine Ye ?_ _)); exact BK128.out⟩, ⟨by (with_reducible repeat (first | refine Yd ?_ _ | refine Yf ?_ | refine Ye ?_ _)); exact BK129.out⟩, ⟨by repeat (first | (with_reducible first | exact HB.out | apply Yc | apply Ya | apply Yb | refine Yg ?_ GE128.out | refine Yg ?_ GE129.out) | exact HB.out)⟩⟩
   ·rw [if_neg c9] at H
    have c9b0 : decide (t130 ≤ a1) = false := decide_eq_false c9
    clear c9
    by_cases c13 : a2 < 0
    ·rw [if_pos c13] at H
     have c13b0 : decide (a2 < 0) = true := decide_eq_true c13
     clear c13
     have H' := Ym H
     clear H
     have hnb14 := NB128_129.out
     have hnc14 := NB129_128.out
     have hcz15_0 : w6.cell? ⟨gb128, 0, none⟩ = some (.int .i64 q0) := (Yh BK128.out 0).trans rfl
     have hcz15_1 : w6.cell? ⟨gb128, 1, none⟩ = some (.int .i64 q1) := (Yh BK128.out 1).trans rfl
     have hcz15_2 : w6.cell? ⟨gb128, 2, none⟩ = some (.int .i64 q2) := (Yh BK128.out 2).trans rfl
     have hcz15_3 : w6.cell? ⟨gb128, 3, none⟩ = some (.int .i64 q3) := (Yh BK128.out 3).trans rfl
     have hcz15_4 : w6.cell? ⟨gb128, 4, none⟩ = some (.int .i64 q4) := (Yh BK128.out 4).trans rfl
     have hcz15_5 : w6.cell? ⟨gb128, 5, none⟩ = some (.int .i64 q5) := (Yh BK128.out 5).trans rfl
     have hcz15_6 : w6.cell? ⟨gb128, 6, none⟩ = some (.int .i64 q6) := (Yh BK128.out 6).trans rfl
     have hcz15_7 : w6.cell? ⟨gb128, 7, none⟩ = some (.int .i64 q7) := (Yh BK128.out 7).trans rfl
     have hfz15_0 := Yi BK128.out 0
     have hfz15_1 := Yi BK128.out 1
     have hfz15_2 := Yi BK128.out 2
     have hfz15_3 := Yi BK128.out 3
     have hfz15_4 := Yi BK128.out 4
     have hfz15_5 := Yi BK128.out 5
     have hfz15_6 := Yi BK128.out 6
     have hfz15_7 := Yi BK128.out 7
     go_wp2_with (first | (go_at_call 27; (with_reducible refine (addr_Size.calls q2 q3 t130 _ A8.out).mono ?_); rintro e w16 ⟨rfl, hb⟩; have n0_ := Ym (Yl (g := gb128) (o := .cells #[.int .i64 q0, .int .i64 q1, .int .i64 q2, .int .i64 q3, .int .i64 q4, .int .i64 q5, .int .i64 q6, .int .i64 q7] 25 (0, 0)) (by (with_reducible repeat (first | refine Yd ?_ _ | refine Yf ?_ | refine Ye ?_ _)); exact BK128.out) hb); have n1_ := Ym (Yl (g := gb129) (o := .cells #[.int .i64 0, .int .i64 0, .int .i64 0] 28 (0, 0)) (by (with_reducible repeat (first | refine Yd ?_ _ | refine Yf ?_ | refine Ye ?_ _)); exact BK129.out) hb); have n2_ := Ym (Yj (by repeat (first | (with_reducible first | exact HB.out | apply Yc | apply Ya | apply Yb | refine Yg ?_ GE128.out | refine Yg ?_ GE129.out) | exact HB.out)) hb); clear BK128; clear BK129; clear HB; have BK128 := n0_; have BK129 := n1_; have HB := n2_; clear n0_ n1_ n2_; (try clear hb); (try clear hb2); (try clear hk); (try clear hi)))
     go_meet
     case rel => exact ⟨_, (true), (by first | rfl | (simp; done) | (simp [*]; done)), H', ⟨by first | omega | exact Nat.le_refl _⟩, ⟨by (with_reducible repeat (first | refine Yd ?_ _ | refine Yf ?_ | refine Ye ?_ _)); exact BK128.out⟩, ⟨by (with_reducible repeat (first | refine Yd ?_ _ | refine Yf ?_ | refine Ye ?_ _)); exact BK129.out⟩, ⟨by repeat (first | (with_reducible first | exact HB.out | apply Yc | apply Ya | apply Yb | refine Yg ?_ GE128.out | refine Yg ?_ GE129.out) | exact HB.out)⟩⟩
    ·rw [if_neg c13] at H
     have c13b0 : decide (a2 < 0) = false := decide_eq_false c13
     clear c13
     replace H := Option.bind_eq_some_iff.mp H
     obtain ⟨t131, A170, H⟩ := H
     replace H : (detmap_Block.j0 k a1 a2 (decide (a2 ≥ t131)) q0 q1 q2 q3 q4 q5 q6 q7) = some (r1, r2, r3, r4) := H
     have A17 := Ym A170
     clear A170
     have H' := Ym H
     clear H
     have hnb18 := NB128_129.out
     have hnc18 := NB129_128.out
     have hcz19_0 : w6.cell? ⟨gb128, 0, none⟩ = some (.int .i64 q0) := (Yh BK128.out 0).trans rfl
     have hcz19_1 : w6.cell? ⟨gb128, 1, none⟩ = some (.int .i64 q1) := (Yh BK128.out 1).trans rfl
     have hcz19_2 : w6.cell? ⟨gb128, 2, none⟩ = some (.int .i64 q2) := (Yh BK128.out 2).trans rfl
     have hcz19_3 : w6.cell? ⟨gb128, 3, none⟩ = some (.int .i64 q3) := (Yh BK128.out 3).trans rfl
     have hcz19_4 : w6.cell? ⟨gb128, 4, none⟩ = some (.int .i64 q4) := (Yh BK128.out 4).trans rfl
     have hcz19_5 : w6.cell? ⟨gb128, 5, none⟩ = some (.int .i64 q5) := (Yh BK128.out 5).trans rfl
     have hcz19_6 : w6.cell? ⟨gb128, 6, none⟩ = some (.int .i64 q6) := (Yh BK128.out 6).trans rfl
     have hcz19_7 : w6.cell? ⟨gb128, 7, none⟩ = some (.int .i64 q7) := (Yh BK128.out 7).trans rfl
     have hfz19_0 := Yi BK128.out 0
     have hfz19_1 := Yi BK128.out 1
     have hfz19_2 := Yi BK128.out 2
     have hfz19_3 := Yi BK128.out 3
     have hfz19_4 := Yi BK128.out 4
     have hfz19_5 := Yi BK128.out 5
     have hfz19_6 := Yi BK128.out 6
     have hfz19_7 := Yi BK128.out 7
     go_wp2_with (first | (go_at_call 27; (with_reducible refine (addr_Size.calls q2 q3 t130 _ A8.out).mono ?_); rintro e w20 ⟨rfl, hb⟩; have n0_ := Ym (Yl (g := gb128) (o := .cells #[.int .i64 q0, .int .i64 q1, .int .i64 q2, .int .i64 q3, .int .i64 q4, .int .i64 q5, .int .i64 q6, .int .i64 q7] 25 (0, 0)) (by (with_reducible repeat (first | refine Yd ?_ _ | refine Yf ?_ | refine Ye ?_ _)); exact BK128.out) hb); have n1_ := Ym (Yl (g := gb129) (o := .cells #[.int .i64 0, .int .i64 0, .int .i64 0] 28 (0, 0)) (by (with_reducible repeat (first | refine Yd ?_ _ | refine Yf ?_ | refine Ye ?_ _)); exact BK129.out) hb); have n2_ := Ym (Yj (by repeat (first | (with_reducible first | exact HB.out | apply Yc | apply Ya | apply Yb | refine Yg ?_ GE128.out | refine Yg ?_ GE129.out) | exact HB.out)) hb); clear BK128; clear BK129; clear HB; have BK128 := n0_; have BK129 := n1_; have HB := n2_; clear n0_ n1_ n2_; (try clear hb); (try clear hb2); (try clear hk); (try clear hi); have hcz21_0 : w20.cell? ⟨gb128, 0, none⟩ = some (.int .i64 q0) := (Yh BK128.out 0).trans rfl; have hcz21_1 : w20.cell? ⟨gb128, 1, none⟩ = some (.int .i64 q1) := (Yh BK128.out 1).trans rfl; have hcz21_2 : w20.cell? ⟨gb128, 2, none⟩ = some (.int .i64 q2) := (Yh BK128.out 2).trans rfl; have hcz21_3 : w20.cell? ⟨gb128, 3, none⟩ = some (.int .i64 q3) := (Yh BK128.out 3).trans rfl; have hcz21_4 : w20.cell? ⟨gb128, 4, none⟩ = some (.int .i64 q4) := (Yh BK128.out 4).trans rfl; have hcz21_5 : w20.cell? ⟨gb128, 5, none⟩ = some (.int .i64 q5) := (Yh BK128.out 5).trans rfl; have hcz21_6 : w20.cell? ⟨gb128, 6, none⟩ = some (.int .i64 q6) := (Yh BK128.out 6).trans rfl; have hcz21_7 : w20.cell? ⟨gb128, 7, none⟩ = some (.int .i64 q7) := (Yh BK128.out 7).trans rfl; have hfz21_0 := Yi BK128.out 0; have hfz21_1 := Yi BK128.out 1; have hfz21_2 := Yi BK128.out 2; have hfz21_3 := Yi BK128.out 3; have hfz21_4 := Yi BK128.out 4; have hfz21_5 := Yi BK128.out 5; have hfz21_6 := Yi BK128.out 6; have hfz21_7 := Yi BK128.out 7) | (go_at_call 23; (with_reducible refine (detmap_Blocks.calls q0 q1 q2 q3 q4 q5 q6 q7 t131 _ A17.out).mono ?_); rintro e w22 ⟨rfl, hb⟩; have n0_ := Ym (Yl (g := gb128) (o := .cells #[.int .i64 q0, .int .i64 q1, .int .i64 q2, .int .i64 q3, .int .i64 q4, .int .i64 q5, .int .i64 q6, .int .i64 q7] 25 (0, 0)) (by (with_reducible repeat (first | refine Yd ?_ _ | refine Yf ?_ | refine Ye ?_ _)); exact BK128.out) hb); have n1_ := Ym (Yl (g := gb129) (o := .cells #[.int .i64 0, .int .i64 0, .int .i64 0] 28 (0, 0)) (by (with_reducible repeat (first | refine Yd ?_ _ | refine Yf ?_ | refine Ye ?_ _)); exact BK129.out) hb); have n2_ := Ym (Yj (by repeat (first | (with_reducible first | exact HB.out | apply Yc | apply Ya | apply Yb | refine Yg ?_ GE128.out | refine Yg ?_ GE129.out) | exact HB.out)) hb); clear BK128; clear BK129; clear HB; have BK128 := n0_; have BK129 := n1_; have HB := n2_; clear n0_ n1_ n2_; (try clear hb); (try clear hb2); (try clear hk); (try clear hi)))
     go_meet
     case rel => exact ⟨_, (decide (a2 ≥ t131)), (by first | rfl | (simp; done) | (simp [*]; done)), H', ⟨by first | omega | exact Nat.le_refl _⟩, ⟨by (with_reducible repeat (first | refine Yd ?_ _ | refine Yf ?_ | refine Ye ?_ _)); exact BK128.out⟩, ⟨by (with_reducible repeat (first | refine Yd ?_ _ | refine Yf ?_ | refine Ye ?_ _)); exact BK129.out⟩, ⟨by repeat (first | (with_reducible first | exact HB.out | apply Yc | apply Ya | apply Yb | refine Yg ?_ GE128.out | refine Yg ?_ GE129.out) | exact HB.out)⟩⟩
 case rest =>
  clear HC4
  try clear c1
  try clear p2
  try clear c7
  try clear c7b0
  try clear c9
  try clear c9b0
  try clear c10
  try clear c13
  try clear c13b0
  try clear c14
  try clear c18
  try clear hcz11_0
  try clear hcz11_1
  try clear hcz11_2
  try clear hcz11_3
  try clear hcz11_4
  try clear hcz11_5
  try clear hcz11_6
  try clear hcz11_7
  try clear hcz15_0
  try clear hcz15_1
  try clear hcz15_2
  try clear hcz15_3
  try clear hcz15_4
  try clear hcz15_5
  try clear hcz15_6
  try clear hcz15_7
  try clear hcz19_0
  try clear hcz19_1
  try clear hcz19_2
  try clear hcz19_3
  try clear hcz19_4
  try clear hcz19_5
  try clear hcz19_6
  try clear hcz19_7
  try clear hcz21_0
  try clear hcz21_1
  try clear hcz21_2
  try clear hcz21_3
  try clear hcz21_4
  try clear hcz21_5
  try clear hcz21_6
  try clear hcz21_7
  try clear hfz11_0
  try clear hfz11_1
  try clear hfz11_2
  try clear hfz11_3
  try clear hfz11_4
  try clear hfz11_5
  try clear hfz11_6
  try clear hfz11_7
  try clear hfz15_0
  try clear hfz15_1
  try clear hfz15_2
  try clear hfz15_3
  try clear hfz15_4
  try clear hfz15_5
  try clear hfz15_6
  try clear hfz15_7
  try clear hfz19_0
  try clear hfz19_1
  try clear hfz19_2
  try clear hfz19_3
  try clear hfz19_4
  try clear hfz19_5
  try clear hfz19_6
  try clear hfz19_7
  try clear hfz21_0
  try clear hfz21_1
  try clear hfz21_2
  try clear hfz21_3
  try clear hfz21_4
  try clear hfz21_5
  try clear hfz21_6
  try clear hfz21_7
  obtain ⟨kq, x27_3, rfl, HA, HJ3, BK128, BK129, HB⟩ := hcut
  cases kq with
  | zero => exact absurd HA.out (by simp [detmap_Block.j0])
  | succ kj3 =>
   have H := HA.out
   clear HA
   simp only [detmap_Block.j0] at H
   by_cases c23 : x27_3 = true
   ·subst c23
    have H1 : (some (0, 0, 0, false)) = some (r1, r2, r3, r4) := by rw [if_pos rfl] at H; exact H
    clear H
    have H := H1
    clear H1
    simp only [Option.some.injEq, Prod.mk.injEq] at H
    obtain ⟨rfl, rfl, rfl, rfl⟩ := H
    have hnb24 := NB129_128.out
    have hnc24 := NB128_129.out
    have hcz25_0 : wc.cell? ⟨gb129, 0, none⟩ = some (.int .i64 0) := (Yh BK129.out 0).trans rfl
    have hcz25_1 : wc.cell? ⟨gb129, 1, none⟩ = some (.int .i64 0) := (Yh BK129.out 1).trans rfl
    have hcz25_2 : wc.cell? ⟨gb129, 2, none⟩ = some (.int .i64 0) := (Yh BK129.out 2).trans rfl
    have hfz25_0 := Yi BK129.out 0
    have hfz25_1 := Yi BK129.out 1
    have hfz25_2 := Yi BK129.out 2
    go_wp2
    refine bodyPost_ret (results_ct rfl _ _ gb129 28 #[.int .i64 0, .int .i64 0, .int .i64 0] (0, 0) _ rfl (by (with_reducible repeat (first | refine Yd ?_ _ | refine Yf ?_ | refine Ye ?_ _)); refine blk_put (cs := #[.int .i64 0, .int .i64 0, .int .i64 0]) ?_ 2 _ rfl; (with_reducible repeat (first | refine Yd ?_ _ | refine Yf ?_ | refine Ye ?_ _)); refine blk_put (cs := #[.int .i64 0, .int .i64 0, .int .i64 0]) ?_ 1 _ rfl; (with_reducible repeat (first | refine Yd ?_ _ | refine Yf ?_ | refine Ye ?_ _)); refine blk_put (cs := #[.int .i64 0, .int .i64 0, .int .i64 0]) ?_ 0 _ rfl; (with_reducible repeat (first | refine Yd ?_ _ | refine Yf ?_ | refine Ye ?_ _)); exact BK129.out) Try.underlying28 rfl (by kernel_rfl)) rfl ?_
    exact ⟨by first | rfl | (simp [errW_none, errW_some] <;> rfl) | (simp [*, errW_none, errW_some] <;> rfl), by repeat (first | (with_reducible first | exact HB.out | apply Yc | apply Ya | apply Yb | refine Yg ?_ GE128.out | refine Yg ?_ GE129.out) | exact HB.out)⟩
   ·replace c23 := Bool.eq_false_iff.mpr c23
    subst c23
    have H1 : (some (a1, wrap64 ((wrap64 ((wrap64 (q5 - q6)) + 1)) + (wrap64 (a2 * q7))), wrap64 ((wrap64 ((wrap64 ((wrap64 ((wrap64 (q5 - q6)) + 1)) + (wrap64 (a2 * q7)))) + q7)) - 1), true)) = some (r1, r2, r3, r4) := by rw [if_neg (show ¬ (false = true) by decide)] at H; exact H
    clear H
    have H := H1
    clear H1
    simp only [Option.some.injEq, Prod.mk.injEq] at H
    obtain ⟨rfl, rfl, rfl, rfl⟩ := H
    have hnb26 := NB128_129.out
    have hnc26 := NB129_128.out
    have hcz27_0 : wc.cell? ⟨gb128, 0, none⟩ = some (.int .i64 q0) := (Yh BK128.out 0).trans rfl
    have hcz27_1 : wc.cell? ⟨gb128, 1, none⟩ = some (.int .i64 q1) := (Yh BK128.out 1).trans rfl
    have hcz27_2 : wc.cell? ⟨gb128, 2, none⟩ = some (.int .i64 q2) := (Yh BK128.out 2).trans rfl
    have hcz27_3 : wc.cell? ⟨gb128, 3, none⟩ = some (.int .i64 q3) := (Yh BK128.out 3).trans rfl
    have hcz27_4 : wc.cell? ⟨gb128, 4, none⟩ = some (.int .i64 q4) := (Yh BK128.out 4).trans rfl
    have hcz27_5 : wc.cell? ⟨gb128, 5, none⟩ = some (.int .i64 q5) := (Yh BK128.out 5).trans rfl
    have hcz27_6 : wc.cell? ⟨gb128, 6, none⟩ = some (.int .i64 q6) := (Yh BK128.out 6).trans rfl
    have hcz27_7 : wc.cell? ⟨gb128, 7, none⟩ = some (.int .i64 q7) := (Yh BK128.out 7).trans rfl
    have hfz27_0 := Yi BK128.out 0
    have hfz27_1 := Yi BK128.out 1
    have hfz27_2 := Yi BK128.out 2
    have hfz27_3 := Yi BK128.out 3
    have hfz27_4 := Yi BK128.out 4
    have hfz27_5 := Yi BK128.out 5
    have hfz27_6 := Yi BK128.out 6
    have hfz27_7 := Yi BK128.out 7
    have hcz28_0 : wc.cell? ⟨gb129, 0, none⟩ = some (.int .i64 0) := (Yh BK129.out 0).trans rfl
    have hcz28_1 : wc.cell? ⟨gb129, 1, none⟩ = some (.int .i64 0) := (Yh BK129.out 1).trans rfl
    have hcz28_2 : wc.cell? ⟨gb129, 2, none⟩ = some (.int .i64 0) := (Yh BK129.out 2).trans rfl
    have hfz28_0 := Yi BK129.out 0
    have hfz28_1 := Yi BK129.out 1
    have hfz28_2 := Yi BK129.out 2
    go_wp2
    refine bodyPost_ret (results_ct rfl _ _ gb129 28 #[.int .i64 a1, .int .i64 (wrap64 ((wrap64 ((wrap64 (q5 - q6)) + 1)) + (wrap64 (a2 * q7)))), .int .i64 (wrap64 ((wrap64 ((wrap64 ((wrap64 ((wrap64 (q5 - q6)) + 1)) + (wrap64 (a2 * q7)))) + q7)) - 1))] (0, 0) _ rfl (by (with_reducible repeat (first | refine Yd ?_ _ | refine Yf ?_ | refine Ye ?_ _)); refine blk_put (cs := #[.int .i64 a1, .int .i64 (wrap64 ((wrap64 ((wrap64 (q5 - q6)) + 1)) + (wrap64 (a2 * q7)))), .int .i64 0]) ?_ 2 _ rfl; (with_reducible repeat (first | refine Yd ?_ _ | refine Yf ?_ | refine Ye ?_ _)); refine blk_put (cs := #[.int .i64 a1, .int .i64 0, .int .i64 0]) ?_ 1 _ rfl; (with_reducible repeat (first | refine Yd ?_ _ | refine Yf ?_ | refine Ye ?_ _)); refine blk_put (cs := #[.int .i64 0, .int .i64 0, .int .i64 0]) ?_ 0 _ rfl; (with_reducible repeat (first | refine Yd ?_ _ | refine Yf ?_ | refine Ye ?_ _)); exact BK129.out) Try.underlying28 rfl (by kernel_rfl)) rfl ?_
    exact ⟨by first | rfl | (simp [errW_none, errW_some] <;> rfl) | (simp [*, errW_none, errW_some] <;> rfl), by repeat (first | (with_reducible first | exact HB.out | apply Yc | apply Ya | apply Yb | refine Yg ?_ GE128.out | refine Yg ?_ GE129.out) | exact HB.out)⟩

end Go.Proofs.Ytfkdflhijfkjoaa.P
