-- Laid by this session's own program (wip/myprint.py): Lean functions for the Go functions that a law reaches, and their contracts. Not trusted: Lean checks it. (slimmed by wip/slim08.py)
import Derived.Test.YtfkdflhijfkjoaaP0
import Derived.Test.YtfkdflhijfkjoaaP9
import Derived.Test.YtfkdflhijfkjoaaP12
import Derived.Test.YtfkdflhijfkjoaaP13
namespace Go.Proofs.Ytfkdflhijfkjoaa.P
open Go.RowKit Go.Proofs.YtfkdflhijfkjoaaW.PrintWords Go.Proofs.YtfkdflhijfkjoaaW.PrintLast Go.Proofs.YtfkdflhijfkjoaaW.PrintMore
attribute [local go_sem] max2_int min2_int max_two min_two max_three min_three max_four min_four   -- for this text's walks alone
set_option linter.unusedVariables false
set_option linter.unusedSimpArgs false

/-! ### mooringsref08_Base: function 12 -/
def mooringsref08_Base.j0 : Nat → Int → Bool → Int → Int → Int → Int → Int → Int → Int → Int → Option (Int × Int × Int × Bool)
 | 0, _, _, _, _, _, _, _, _, _, _ => none
 | k + 1, x1, x22, x172000, x172001, x172002, x172003, x172004, x172005, x172006, x172007 => if x22 = true then (some (0, 0, 0, false)) else ((mooringsref08_Ratio.f k x172000 x172001 x172002 x172003 x172004 x172005 x172006 x172007).bind fun t175 => (if t175 = 0 then (none) else ((mooringsref08_Each.f k x172000 x172001 x172002 x172003 x172004 x172005 x172006 x172007).bind fun t176 => ((mooringsref08_Ratio.f k x172000 x172001 x172002 x172003 x172004 x172005 x172006 x172007).bind fun t177 => (if t177 = 0 then (none) else ((mooringsref08_Each.f k x172000 x172001 x172002 x172003 x172004 x172005 x172006 x172007).bind fun t178 => (some (wrap64 (Int.tdiv x1 t177), wrap64 (x172004 + (wrap64 ((Int.tmod x1 t175) * t176))), wrap64 ((wrap64 ((wrap64 (x172004 + (wrap64 ((Int.tmod x1 t175) * t176)))) + t178)) - 1), true))))))))
def mooringsref08_Base.f (k : Nat) (q0 : Int) (q1 : Int) (q2 : Int) (q3 : Int) (q4 : Int) (q5 : Int) (q6 : Int) (q7 : Int) (a1 : Int) : Option (Int × Int × Int × Bool) := (mooringsref08_Fit.f k q0 q1 q2 q3 q4 q5 q6 q7).bind fun t173 => (if t173 = true then (if a1 < 0 then (mooringsref08_Base.j0 k a1 true q0 q1 q2 q3 q4 q5 q6 q7) else ((mooringsref07_Size.f k q0 q1).bind fun t174 => (mooringsref08_Base.j0 k a1 (decide (a1 ≥ t174)) q0 q1 q2 q3 q4 q5 q6 q7))) else (mooringsref08_Base.j0 k a1 true q0 q1 q2 q3 q4 q5 q6 q7))
theorem mooringsref08_Base.mono_l : ∀ k, (∀ y0 y1 y2 y3 y4 y5 y6 y7 y8 y9, LeO (mooringsref08_Base.j0 k y0 y1 y2 y3 y4 y5 y6 y7 y8 y9) (mooringsref08_Base.j0 (k + 1) y0 y1 y2 y3 y4 y5 y6 y7 y8 y9))
 | 0 => fun _ _ _ _ _ _ _ _ _ _ r h => by simp [mooringsref08_Base.j0] at h
 | k + 1 => by
  have ih0 := mooringsref08_Base.mono_l k
  ·intro y0 y1 y2 y3 y4 y5 y6 y7 y8 y9
   unfold mooringsref08_Base.j0
   repeat' first
   | (with_reducible exact ih0 _ _ _ _ _ _ _ _ _ _)
   | (with_reducible exact mooringsref07_Size.mono _ _ _)
   | (with_reducible exact mooringsref08_Each.mono _ _ _ _ _ _ _ _ _)
   | (with_reducible exact mooringsref08_Fit.mono _ _ _ _ _ _ _ _ _)
   | (with_reducible exact mooringsref08_Ratio.mono _ _ _ _ _ _ _ _ _)
   | (with_reducible exact LeO.refl _)
   | (with_reducible exact LeO.none _)
   | (with_reducible refine LeO.ite ?_ ?_)
   | (with_reducible refine LeO.bind ?_ (fun _ => ?_))
   | exact ih0 _ _ _ _ _ _ _ _ _ _
   | exact mooringsref07_Size.mono _ _ _
   | exact mooringsref08_Each.mono _ _ _ _ _ _ _ _ _
   | exact mooringsref08_Fit.mono _ _ _ _ _ _ _ _ _
   | exact mooringsref08_Ratio.mono _ _ _ _ _ _ _ _ _
   | exact LeO.none _
   | refine LeO.ite ?_ ?_
   | refine LeO.bind ?_ (fun _ => ?_)
theorem mooringsref08_Base.mono : ∀ a0 a1 a2 a3 a4 a5 a6 a7 a8 k, LeO (mooringsref08_Base.f k a0 a1 a2 a3 a4 a5 a6 a7 a8) (mooringsref08_Base.f (k + 1) a0 a1 a2 a3 a4 a5 a6 a7 a8) := by
 intro a0 a1 a2 a3 a4 a5 a6 a7 a8 k
 have ih0 := mooringsref08_Base.mono_l k
 unfold mooringsref08_Base.f
 repeat' first
   | (with_reducible exact ih0 _ _ _ _ _ _ _ _ _ _)
   | (with_reducible exact mooringsref07_Size.mono _ _ _)
   | (with_reducible exact mooringsref08_Each.mono _ _ _ _ _ _ _ _ _)
   | (with_reducible exact mooringsref08_Fit.mono _ _ _ _ _ _ _ _ _)
   | (with_reducible exact mooringsref08_Ratio.mono _ _ _ _ _ _ _ _ _)
   | (with_reducible exact LeO.refl _)
   | (with_reducible exact LeO.none _)
   | (with_reducible refine LeO.ite ?_ ?_)
   | (with_reducible refine LeO.bind ?_ (fun _ => ?_))
   | exact ih0 _ _ _ _ _ _ _ _ _ _
   | exact mooringsref07_Size.mono _ _ _
   | exact mooringsref08_Each.mono _ _ _ _ _ _ _ _ _
   | exact mooringsref08_Fit.mono _ _ _ _ _ _ _ _ _
   | exact mooringsref08_Ratio.mono _ _ _ _ _ _ _ _ _
   | exact LeO.none _
   | refine LeO.ite ?_ ?_
   | refine LeO.bind ?_ (fun _ => ?_)
def mooringsref08_Base.T4 : Bool × List (List Nat × List Nat) := (true, [([], []), ([0], [0]), ([], []), ([], []), ([3], [3]), ([2, 4], [2, 4]), ([], []), ([6, 4], [6]), ([5, 7], [5, 7]), ([1, 8], [1, 8]), ([9, 7, 0, 1, 2, 3, 4, 5, 6, 7, 8, 9], [9])])
def mooringsref08_Base.B4 : List Nat := [0, 1, 0, 0, 8, 28, 0, 88, 252, 511, 1023]
theorem mooringsref08_Base.tab4 : rtab .any (opsOf Try.f12 4) = mooringsref08_Base.T4 := by kernel_rfl
theorem mooringsref08_Base.bits4 : waitsOk mooringsref08_Base.T4.2 mooringsref08_Base.B4 = true := by kernel_rfl
def mooringsref08_Base.T5 : Bool × List (List Nat × List Nat) := (true, [([], []), ([], []), ([1], [1]), ([0, 2], [0, 2]), ([], []), ([], []), ([], []), ([6, 2], [6]), ([5, 7], [5, 7]), ([8], [8]), ([3, 4, 9], [3, 4, 9]), ([10, 7, 0, 1, 2, 3, 4, 5, 6, 7, 8, 9, 10], [10]), ([11, 0, 1, 2, 3, 4, 5, 6, 7, 8, 9, 10, 11], [])])
def mooringsref08_Base.B5 : List Nat := [0, 0, 2, 7, 0, 0, 0, 70, 230, 486, 1023, 2047, 4095]
theorem mooringsref08_Base.tab5 : rtab .any (opsOf Try.f12 5) = mooringsref08_Base.T5 := by kernel_rfl
theorem mooringsref08_Base.bits5 : waitsOk mooringsref08_Base.T5.2 mooringsref08_Base.B5 = true := by kernel_rfl
set_option maxHeartbeats 8000000 in
set_option maxRecDepth 100000 in
theorem mooringsref08_Base.calls (k : Nat) (q0 : Int) (q1 : Int) (q2 : Int) (q3 : Int) (q4 : Int) (q5 : Int) (q6 : Int) (q7 : Int) (a1 : Int) (r1 : Int) (r2 : Int) (r3 : Int) (r4 : Bool) (w : World) (h : mooringsref08_Base.f k q0 q1 q2 q3 q4 q5 q6 q7 a1 = some (r1, r2, r3, r4)) :
  Calls Try.prog 12 #[.agg #[.int .i64 q0, .int .i64 q1, .int .i64 q2, .int .i64 q3, .int .i64 q4, .int .i64 q5, .int .i64 q6, .int .i64 q7], .int .i64 a1] w fun e w' => e = .returned (.tuple #[.agg #[.int .i64 r1, .int .i64 r2, .int .i64 r3], .bool r4]) ∧ Below w.heap.size w w' := by
 have hu25 := Try.underlying25
 have hu28 := Try.underlying28
 have hu23 := Try.underlying23
 have HB := Ym (Below.refl w.heap.size w)
 have H : ((mooringsref08_Fit.f k q0 q1 q2 q3 q4 q5 q6 q7).bind fun t173 => (if t173 = true then (if a1 < 0 then (mooringsref08_Base.j0 k a1 true q0 q1 q2 q3 q4 q5 q6 q7) else ((mooringsref07_Size.f k q0 q1).bind fun t174 => (mooringsref08_Base.j0 k a1 (decide (a1 ≥ t174)) q0 q1 q2 q3 q4 q5 q6 q7))) else (mooringsref08_Base.j0 k a1 true q0 q1 q2 q3 q4 q5 q6 q7))) = some (r1, r2, r3, r4) := h
 clear h
 replace H := Option.bind_eq_some_iff.mp H
 obtain ⟨t173, A30, H⟩ := H
 replace H : (if t173 = true then (if a1 < 0 then (mooringsref08_Base.j0 k a1 true q0 q1 q2 q3 q4 q5 q6 q7) else ((mooringsref07_Size.f k q0 q1).bind fun t174 => (mooringsref08_Base.j0 k a1 (decide (a1 ≥ t174)) q0 q1 q2 q3 q4 q5 q6 q7))) else (mooringsref08_Base.j0 k a1 true q0 q1 q2 q3 q4 q5 q6 q7)) = some (r1, r2, r3, r4) := H
 have A3 := Ym A30
 clear A30
 have HC4 := Ym H
 clear H
 go_enter Try.func12, Try.ntmps12
 go_upto_region 2 with (first | ((with_reducible refine gate_dst (N := 2) rfl ?_); refine box_event ?hg (N := 2) ?hd (cs := #[.int .i64 q0, .int .i64 q1, .int .i64 q2, .int .i64 q3, .int .i64 q4, .int .i64 q5, .int .i64 q6, .int .i64 q7]) (t := 25) ?hr ?_; (case hd => rfl); (case hg => rfl); (case hr => first | (go_simp; done) | (go_simp; rfl)); intro gb171 hg w5 hbox hb; have n0_ := Ym (Yj (by repeat (first | (with_reducible first | exact HB.out | apply Yc | apply Ya | apply Yb) | exact HB.out)) hb); have n1_ := Ym (hbox); have n2_ := Ym ((by rw [hg]; exact (Yk (by repeat (first | (with_reducible first | exact HB.out | apply Yc | apply Ya | apply Yb) | exact HB.out))) : w.heap.size ≤ gb171)); have n3_ := Ym ((by rw [hg]; exact (Yk (by repeat (first | (with_reducible first | exact HB.out | apply Yc | apply Ya | apply Yb) | exact HB.out))) : w.heap.size ≤ gb171)); clear HB; have HB := n0_; have BK171 := n1_; have GW171 := n2_; have GE171 := n3_; clear n0_ n1_ n2_ n3_; clear hb hbox hg) | ((with_reducible refine gate_dst (N := 4) rfl ?_); refine box_event ?hg (N := 4) ?hd (cs := #[.int .i64 0, .int .i64 0, .int .i64 0]) (t := 28) ?hr ?_; (case hd => rfl); (case hg => rfl); (case hr => first | (go_simp; done) | (go_simp; rfl)); intro gb172 hg w6 hbox hb; have n0_ := Ym (Yl (g := gb171) (o := .cells #[.int .i64 q0, .int .i64 q1, .int .i64 q2, .int .i64 q3, .int .i64 q4, .int .i64 q5, .int .i64 q6, .int .i64 q7] 25 (0, 0)) (by (with_reducible repeat (first | refine Yd ?_ _ | refine Yf ?_ | refine Ye ?_ _)); exact BK171.out) hb); have n1_ := Ym (Yj (by repeat (first | (with_reducible first | exact HB.out | apply Yc | apply Ya | apply Yb | refine Yg ?_ GE171.out) | exact HB.out)) hb); have n2_ := Ym (hbox); have n3_ := Ym ((by rw [hg]; exact (Yk (by repeat (first | (with_reducible first | exact HB.out | apply Yc | apply Ya | apply Yb | refine Yg ?_ GE171.out) | exact HB.out))) : w.heap.size ≤ gb172)); have n4_ := Ym ((by rw [hg]; exact (Yk (by repeat (first | (with_reducible first | exact HB.out | apply Yc | apply Ya | apply Yb | refine Yg ?_ GE171.out) | exact HB.out))) : w.heap.size ≤ gb172)); have n5_ := Ym ((by rw [hg]; exact Nat.ne_of_lt (blk_lt (g := gb171) (o := .cells #[.int .i64 q0, .int .i64 q1, .int .i64 q2, .int .i64 q3, .int .i64 q4, .int .i64 q5, .int .i64 q6, .int .i64 q7] 25 (0, 0)) (by (with_reducible repeat (first | refine Yd ?_ _ | refine Yf ?_ | refine Ye ?_ _)); exact BK171.out)) : gb171 ≠ gb172)); have n6_ := Ym ((by rw [hg]; exact Nat.ne_of_gt (blk_lt (g := gb171) (o := .cells #[.int .i64 q0, .int .i64 q1, .int .i64 q2, .int .i64 q3, .int .i64 q4, .int .i64 q5, .int .i64 q6, .int .i64 q7] 25 (0, 0)) (by (with_reducible repeat (first | refine Yd ?_ _ | refine Yf ?_ | refine Ye ?_ _)); exact BK171.out)) : gb172 ≠ gb171)); clear BK171; clear HB; have BK171 := n0_; have HB := n1_; have BK172 := n2_; have GW172 := n3_; have GE172 := n4_; have NB171_172 := n5_; have NB172_171 := n6_; clear n0_ n1_ n2_ n3_ n4_ n5_ n6_; clear hb hbox hg; have hnb7 := NB171_172.out; have hnc7 := NB172_171.out; have hcz8_0 : w6.cell? ⟨gb171, 0, none⟩ = some (.int .i64 q0) := (Yh BK171.out 0).trans rfl; have hcz8_1 : w6.cell? ⟨gb171, 1, none⟩ = some (.int .i64 q1) := (Yh BK171.out 1).trans rfl; have hcz8_2 : w6.cell? ⟨gb171, 2, none⟩ = some (.int .i64 q2) := (Yh BK171.out 2).trans rfl; have hcz8_3 : w6.cell? ⟨gb171, 3, none⟩ = some (.int .i64 q3) := (Yh BK171.out 3).trans rfl; have hcz8_4 : w6.cell? ⟨gb171, 4, none⟩ = some (.int .i64 q4) := (Yh BK171.out 4).trans rfl; have hcz8_5 : w6.cell? ⟨gb171, 5, none⟩ = some (.int .i64 q5) := (Yh BK171.out 5).trans rfl; have hcz8_6 : w6.cell? ⟨gb171, 6, none⟩ = some (.int .i64 q6) := (Yh BK171.out 6).trans rfl; have hcz8_7 : w6.cell? ⟨gb171, 7, none⟩ = some (.int .i64 q7) := (Yh BK171.out 7).trans rfl; have hfz8_0 := Yi BK171.out 0; have hfz8_1 := Yi BK171.out 1; have hfz8_2 := Yi BK171.out 2; have hfz8_3 := Yi BK171.out 3; have hfz8_4 := Yi BK171.out 4; have hfz8_5 := Yi BK171.out 5; have hfz8_6 := Yi BK171.out 6; have hfz8_7 := Yi BK171.out 7) | ((with_reducible refine gate_callee (f := 15) rfl ?_); refine goesL_ (some 9) rfl rfl Try.func15 (by kernel_rfl) rfl #[.agg #[.int .i64 q0, .int .i64 q1, .int .i64 q2, .int .i64 q3, .int .i64 q4, .int .i64 q5, .int .i64 q6, .int .i64 q7]] rfl (by (try simp only [List.map_toArray, List.map_cons, List.map_nil]); first | done | rfl | (simp only [List.length_drop, List.length_take]; rfl)) ?_; (with_reducible refine (mooringsref08_Fit.calls k q0 q1 q2 q3 q4 q5 q6 q7 t173 _ A3.out).mono ?_); rintro e w9 ⟨rfl, hb⟩; refine ⟨_, rfl, ?_⟩; have n0_ := Ym (Yl (g := gb171) (o := .cells #[.int .i64 q0, .int .i64 q1, .int .i64 q2, .int .i64 q3, .int .i64 q4, .int .i64 q5, .int .i64 q6, .int .i64 q7] 25 (0, 0)) (by (with_reducible repeat (first | refine Yd ?_ _ | refine Yf ?_ | refine Ye ?_ _)); exact BK171.out) hb); have n1_ := Ym (Yl (g := gb172) (o := .cells #[.int .i64 0, .int .i64 0, .int .i64 0] 28 (0, 0)) (by (with_reducible repeat (first | refine Yd ?_ _ | refine Yf ?_ | refine Ye ?_ _)); exact BK172.out) hb); have n2_ := Ym (Yj (by repeat (first | (with_reducible first | exact HB.out | apply Yc | apply Ya | apply Yb | refine Yg ?_ GE171.out | refine Yg ?_ GE172.out) | exact HB.out)) hb); clear BK171; clear BK172; clear HB; have BK171 := n0_; have BK172 := n1_; have HB := n2_; clear n0_ n1_ n2_; (try clear hb); (try clear hb2); (try clear hk); (try clear hi)))
 (try simp only [Act.put, Yo, Yp, Yq])
 go_cut [22] (fun v22 wc => ∃ (kq : Nat) (x22_3 : Bool), v22 = .bool x22_3 ∧ Aside0 (mooringsref08_Base.j0 kq a1 x22_3 q0 q1 q2 q3 q4 q5 q6 q7 = some (r1, r2, r3, r4)) ∧ Aside0 (kq ≤ k) ∧ Aside0 (wc.heap[gb171]? = some (.cells #[.int .i64 q0, .int .i64 q1, .int .i64 q2, .int .i64 q3, .int .i64 q4, .int .i64 q5, .int .i64 q6, .int .i64 q7] 25 (0, 0))) ∧ Aside0 (wc.heap[gb172]? = some (.cells #[.int .i64 0, .int .i64 0, .int .i64 0] 28 (0, 0))) ∧ Aside0 (Below w.heap.size w wc))
 case first =>
  have H := HC4.out
  clear HC4
  by_cases c10 : t173 = true
  ·subst c10
   have H1 : (if a1 < 0 then (mooringsref08_Base.j0 k a1 true q0 q1 q2 q3 q4 q5 q6 q7) else ((mooringsref07_Size.f k q0 q1).bind fun t174 => (mooringsref08_Base.j0 k a1 (decide (a1 ≥ t174)) q0 q1 q2 q3 q4 q5 q6 q7))) = some (r1, r2, r3, r4) := by rw [if_pos rfl] at H; exact H
   clear H
   have H := H1
   clear H1
   by_cases c11 : a1 < 0
   ·rw [if_pos c11] at H
    have c11b0 : decide (a1 < 0) = true := decide_eq_true c11
    clear c11
    (first | rw [c11b0] | (simp only [i64_w, i32_w]; rw [c11b0]) | skip)
    have H' := Ym H
    clear H
    go_wp2
    go_meet
    case rel => exact ⟨_, (true), (by first | rfl | (simp; done) | (simp [*]; done)), H', ⟨by first | omega | exact Nat.le_refl _⟩, ⟨by (with_reducible repeat (first | refine Yd ?_ _ | refine Yf ?_ | refine Ye ?_ _)); exact BK171.out⟩, ⟨by (with_reducible repeat (first | refine Yd ?_ _ | refine Yf ?_ | refine Ye ?_ _)); exact BK172.out⟩, ⟨by repeat (first | (with_reducible first | exact HB.out | apply Yc | apply Ya | apply Yb | refine Yg ?_ GE171.out | refine Yg ?_ GE172.out) | exact HB.out)⟩⟩
   ·rw [if_neg c11] at H
    have c11b0 : decide (a1 < 0) = false := decide_eq_false c11
    clear c11
    (first | rw [c11b0] | (simp only [i64_w, i32_w]; rw [c11b0]) | skip)
    replace H := Option.bind_eq_some_iff.mp H
    obtain ⟨t174, A120, H⟩ := H
    replace H : (mooringsref08_Base.j0 k a1 (decide (a1 ≥ t174)) q0 q1 q2 q3 q4 q5 q6 q7) = some (r1, r2, r3, r4) := H
    have A12 := Ym A120
    clear A120
    have H' := Ym H
    clear H
    have hnb13 := NB171_172.out
    have hnc13 := NB172_171.out
    have hcz14_0 : w9.cell? ⟨gb171, 0, none⟩ = some (.int .i64 q0) := (Yh BK171.out 0).trans rfl
    have hcz14_1 : w9.cell? ⟨gb171, 1, none⟩ = some (.int .i64 q1) := (Yh BK171.out 1).trans rfl
    have hcz14_2 : w9.cell? ⟨gb171, 2, none⟩ = some (.int .i64 q2) := (Yh BK171.out 2).trans rfl
    have hcz14_3 : w9.cell? ⟨gb171, 3, none⟩ = some (.int .i64 q3) := (Yh BK171.out 3).trans rfl
    have hcz14_4 : w9.cell? ⟨gb171, 4, none⟩ = some (.int .i64 q4) := (Yh BK171.out 4).trans rfl
    have hcz14_5 : w9.cell? ⟨gb171, 5, none⟩ = some (.int .i64 q5) := (Yh BK171.out 5).trans rfl
    have hcz14_6 : w9.cell? ⟨gb171, 6, none⟩ = some (.int .i64 q6) := (Yh BK171.out 6).trans rfl
    have hcz14_7 : w9.cell? ⟨gb171, 7, none⟩ = some (.int .i64 q7) := (Yh BK171.out 7).trans rfl
    have hfz14_0 := Yi BK171.out 0
    have hfz14_1 := Yi BK171.out 1
    have hfz14_2 := Yi BK171.out 2
    have hfz14_3 := Yi BK171.out 3
    have hfz14_4 := Yi BK171.out 4
    have hfz14_5 := Yi BK171.out 5
    have hfz14_6 := Yi BK171.out 6
    have hfz14_7 := Yi BK171.out 7
    go_wp2_with (first | (go_at_call 28; (with_reducible refine (mooringsref07_Size.calls k q0 q1 t174 _ A12.out).mono ?_); rintro e w15 ⟨rfl, hb⟩; have n0_ := Ym (Yl (g := gb171) (o := .cells #[.int .i64 q0, .int .i64 q1, .int .i64 q2, .int .i64 q3, .int .i64 q4, .int .i64 q5, .int .i64 q6, .int .i64 q7] 25 (0, 0)) (by (with_reducible repeat (first | refine Yd ?_ _ | refine Yf ?_ | refine Ye ?_ _)); exact BK171.out) hb); have n1_ := Ym (Yl (g := gb172) (o := .cells #[.int .i64 0, .int .i64 0, .int .i64 0] 28 (0, 0)) (by (with_reducible repeat (first | refine Yd ?_ _ | refine Yf ?_ | refine Ye ?_ _)); exact BK172.out) hb); have n2_ := Ym (Yj (by repeat (first | (with_reducible first | exact HB.out | apply Yc | apply Ya | apply Yb | refine Yg ?_ GE171.out | refine Yg ?_ GE172.out) | exact HB.out)) hb); clear BK171; clear BK172; clear HB; have BK171 := n0_; have BK172 := n1_; have HB := n2_; clear n0_ n1_ n2_; (try clear hb); (try clear hb2); (try clear hk); (try clear hi)))
    go_meet
    case rel => exact ⟨_, (decide (a1 ≥ t174)), (by first | rfl | (simp; done) | (simp [*]; done)), H', ⟨by first | omega | exact Nat.le_refl _⟩, ⟨by (with_reducible repeat (first | refine Yd ?_ _ | refine Yf ?_ | refine Ye ?_ _)); exact BK171.out⟩, ⟨by (with_reducible repeat (first | refine Yd ?_ _ | refine Yf ?_ | refine Ye ?_ _)); exact BK172.out⟩, ⟨by repeat (first | (with_reducible first | exact HB.out | apply Yc | apply Ya | apply Yb | refine Yg ?_ GE171.out | refine Yg ?_ GE172.out) | exact HB.out)⟩⟩
  ·replace c10 := Bool.eq_false_iff.mpr c10
   subst c10
   have H1 : (mooringsref08_Base.j0 k a1 true q0 q1 q2 q3 q4 q5 q6 q7) = some (r1, r2, r3, r4) := by rw [if_neg (show ¬ (false = true) by decide)] at H; exact H
   clear H
   have H := H1
   clear H1
   have H' := Ym H
   clear H
   go_wp2
   go_meet
   case rel => exact ⟨_, (true), (by first | rfl | (simp; done) | (simp [*]; done)), H', ⟨by first | omega | exact Nat.le_refl _⟩, ⟨by (with_reducible repeat (first | refine Yd ?_ _ | refine Yf ?_ | refine Ye ?_ _)); exact BK171.out⟩, ⟨by (with_reducible repeat (first | refine Yd ?_ _ | refine Yf ?_ | refine Ye ?_ _)); exact BK172.out⟩, ⟨by repeat (first | (with_reducible first | exact HB.out | apply Yc | apply Ya | apply Yb | refine Yg ?_ GE171.out | refine Yg ?_ GE172.out) | exact HB.out)⟩⟩
 case rest =>
  clear HC4
  try clear c1
  try clear p2
  try clear c7
  try clear c10
  try clear c11
  try clear c11b0
  try clear c12
  try clear c13
  try clear c15
  try clear hcz14_0
  try clear hcz14_1
  try clear hcz14_2
  try clear hcz14_3
  try clear hcz14_4
  try clear hcz14_5
  try clear hcz14_6
  try clear hcz14_7
  try clear hcz8_0
  try clear hcz8_1
  try clear hcz8_2
  try clear hcz8_3
  try clear hcz8_4
  try clear hcz8_5
  try clear hcz8_6
  try clear hcz8_7
  try clear hfz14_0
  try clear hfz14_1
  try clear hfz14_2
  try clear hfz14_3
  try clear hfz14_4
  try clear hfz14_5
  try clear hfz14_6
  try clear hfz14_7
  try clear hfz8_0
  try clear hfz8_1
  try clear hfz8_2
  try clear hfz8_3
  try clear hfz8_4
  try clear hfz8_5
  try clear hfz8_6
  try clear hfz8_7
  obtain ⟨kq, x22_3, rfl, HA, HJ3, BK171, BK172, HB⟩ := hcut
  cases kq with
  | zero => exact absurd HA.out (by simp [mooringsref08_Base.j0])
  | succ kj3 =>
   have H := HA.out
   clear HA
   simp only [mooringsref08_Base.j0] at H
   by_cases c16 : x22_3 = true
   ·subst c16
    have H1 : (some (0, 0, 0, false)) = some (r1, r2, r3, r4) := by rw [if_pos rfl] at H; exact H
    clear H
    have H := H1
    clear H1
    simp only [Option.some.injEq, Prod.mk.injEq] at H
    obtain ⟨rfl, rfl, rfl, rfl⟩ := H
    have hnb17 := NB172_171.out
    have hnc17 := NB171_172.out
    have hcz18_0 : wc.cell? ⟨gb172, 0, none⟩ = some (.int .i64 0) := (Yh BK172.out 0).trans rfl
    have hcz18_1 : wc.cell? ⟨gb172, 1, none⟩ = some (.int .i64 0) := (Yh BK172.out 1).trans rfl
    have hcz18_2 : wc.cell? ⟨gb172, 2, none⟩ = some (.int .i64 0) := (Yh BK172.out 2).trans rfl
    have hfz18_0 := Yi BK172.out 0
    have hfz18_1 := Yi BK172.out 1
    have hfz18_2 := Yi BK172.out 2
    go_wp2
    refine bodyPost_ret (results_ct rfl _ _ gb172 28 #[.int .i64 0, .int .i64 0, .int .i64 0] (0, 0) _ rfl (by (with_reducible repeat (first | refine Yd ?_ _ | refine Yf ?_ | refine Ye ?_ _)); refine blk_put (cs := #[.int .i64 0, .int .i64 0, .int .i64 0]) ?_ 2 _ rfl; (with_reducible repeat (first | refine Yd ?_ _ | refine Yf ?_ | refine Ye ?_ _)); refine blk_put (cs := #[.int .i64 0, .int .i64 0, .int .i64 0]) ?_ 1 _ rfl; (with_reducible repeat (first | refine Yd ?_ _ | refine Yf ?_ | refine Ye ?_ _)); refine blk_put (cs := #[.int .i64 0, .int .i64 0, .int .i64 0]) ?_ 0 _ rfl; (with_reducible repeat (first | refine Yd ?_ _ | refine Yf ?_ | refine Ye ?_ _)); exact BK172.out) Try.underlying28 rfl (by kernel_rfl)) rfl ?_
    exact ⟨by first | rfl | (simp [errW_none, errW_some] <;> rfl) | (simp [*, errW_none, errW_some] <;> rfl), by repeat (first | (with_reducible first | exact HB.out | apply Yc | apply Ya | apply Yb | refine Yg ?_ GE171.out | refine Yg ?_ GE172.out) | exact HB.out)⟩
   ·replace c16 := Bool.eq_false_iff.mpr c16
    subst c16
    have H1 : ((mooringsref08_Ratio.f kj3 q0 q1 q2 q3 q4 q5 q6 q7).bind fun t175 => (if t175 = 0 then (none) else ((mooringsref08_Each.f kj3 q0 q1 q2 q3 q4 q5 q6 q7).bind fun t176 => ((mooringsref08_Ratio.f kj3 q0 q1 q2 q3 q4 q5 q6 q7).bind fun t177 => (if t177 = 0 then (none) else ((mooringsref08_Each.f kj3 q0 q1 q2 q3 q4 q5 q6 q7).bind fun t178 => (some (wrap64 (Int.tdiv a1 t177), wrap64 (q4 + (wrap64 ((Int.tmod a1 t175) * t176))), wrap64 ((wrap64 ((wrap64 (q4 + (wrap64 ((Int.tmod a1 t175) * t176)))) + t178)) - 1), true)))))))) = some (r1, r2, r3, r4) := by rw [if_neg (show ¬ (false = true) by decide)] at H; exact H
    clear H
    have H := H1
    clear H1
    replace H := Option.bind_eq_some_iff.mp H
    obtain ⟨t175, A190, H⟩ := H
    replace H : (if t175 = 0 then (none) else ((mooringsref08_Each.f kj3 q0 q1 q2 q3 q4 q5 q6 q7).bind fun t176 => ((mooringsref08_Ratio.f kj3 q0 q1 q2 q3 q4 q5 q6 q7).bind fun t177 => (if t177 = 0 then (none) else ((mooringsref08_Each.f kj3 q0 q1 q2 q3 q4 q5 q6 q7).bind fun t178 => (some (wrap64 (Int.tdiv a1 t177), wrap64 (q4 + (wrap64 ((Int.tmod a1 t175) * t176))), wrap64 ((wrap64 ((wrap64 (q4 + (wrap64 ((Int.tmod a1 t175) * t176)))) + t178)) - 1), true))))))) = some (r1, r2, r3, r4) := H
    have A19 := Ym A190
    clear A190
    by_cases c20 : t175 = 0
    ·rw [if_pos c20] at H
     exact absurd H (by simp)
    ·rw [if_neg c20] at H
     have c20b0 : (t175 == 0) = false := beq_eq_false_iff_ne.mpr c20
     have c20b1 : (t175 != 0) = true := bne_iff_ne.mpr c20
     replace H := Option.bind_eq_some_iff.mp H
     obtain ⟨t176, A210, H⟩ := H
     replace H : ((mooringsref08_Ratio.f kj3 q0 q1 q2 q3 q4 q5 q6 q7).bind fun t177 => (if t177 = 0 then (none) else ((mooringsref08_Each.f kj3 q0 q1 q2 q3 q4 q5 q6 q7).bind fun t178 => (some (wrap64 (Int.tdiv a1 t177), wrap64 (q4 + (wrap64 ((Int.tmod a1 t175) * t176))), wrap64 ((wrap64 ((wrap64 (q4 + (wrap64 ((Int.tmod a1 t175) * t176)))) + t178)) - 1), true))))) = some (r1, r2, r3, r4) := H
     have A21 := Ym A210
     clear A210
     replace H := Option.bind_eq_some_iff.mp H
     obtain ⟨t177, A220, H⟩ := H
     replace H : (if t177 = 0 then (none) else ((mooringsref08_Each.f kj3 q0 q1 q2 q3 q4 q5 q6 q7).bind fun t178 => (some (wrap64 (Int.tdiv a1 t177), wrap64 (q4 + (wrap64 ((Int.tmod a1 t175) * t176))), wrap64 ((wrap64 ((wrap64 (q4 + (wrap64 ((Int.tmod a1 t175) * t176)))) + t178)) - 1), true)))) = some (r1, r2, r3, r4) := H
     have A22 := Ym A220
     clear A220
     by_cases c23 : t177 = 0
     ·rw [if_pos c23] at H
      exact absurd H (by simp)
     ·rw [if_neg c23] at H
      have c23b0 : (t177 == 0) = false := beq_eq_false_iff_ne.mpr c23
      have c23b1 : (t177 != 0) = true := bne_iff_ne.mpr c23
      replace H := Option.bind_eq_some_iff.mp H
      obtain ⟨t178, A240, H⟩ := H
      replace H : (some (wrap64 (Int.tdiv a1 t177), wrap64 (q4 + (wrap64 ((Int.tmod a1 t175) * t176))), wrap64 ((wrap64 ((wrap64 (q4 + (wrap64 ((Int.tmod a1 t175) * t176)))) + t178)) - 1), true)) = some (r1, r2, r3, r4) := H
      have A24 := Ym A240
      clear A240
      simp only [Option.some.injEq, Prod.mk.injEq] at H
      obtain ⟨rfl, rfl, rfl, rfl⟩ := H
      try go_wp2
      have n0_ := Ym (Yf BK171.out)
      have n1_ := Ym (Yf BK172.out)
      have n2_ := Ym (Yb HB.out)
      clear BK171
      clear BK172
      clear HB
      have BK171 := n0_
      have BK172 := n1_
      have HB := n2_
      clear n0_ n1_ n2_
      refine start_ (n := 11) (S := fun w' => w'.cell? ⟨gb171, 0, none⟩ = some (.int .i64 q0) ∧ w'.cell? ⟨gb171, 1, none⟩ = some (.int .i64 q1) ∧ w'.cell? ⟨gb171, 2, none⟩ = some (.int .i64 q2) ∧ w'.cell? ⟨gb171, 3, none⟩ = some (.int .i64 q3) ∧ w'.cell? ⟨gb171, 4, none⟩ = some (.int .i64 q4) ∧ w'.cell? ⟨gb171, 5, none⟩ = some (.int .i64 q5) ∧ w'.cell? ⟨gb171, 6, none⟩ = some (.int .i64 q6) ∧ w'.cell? ⟨gb171, 7, none⟩ = some (.int .i64 q7)) (ds := []) #[false, false, false, false, false, false, false, false, false, false, false] (by kernel_rfl) rfl rfl ⟨(Yh BK171.out 0).trans rfl, (Yh BK171.out 1).trans rfl, (Yh BK171.out 2).trans rfl, (Yh BK171.out 3).trans rfl, (Yh BK171.out 4).trans rfl, (Yh BK171.out 5).trans rfl, (Yh BK171.out 6).trans rfl, (Yh BK171.out 7).trans rfl⟩ (fun hHeld => ?_); refine with_tabW mooringsref08_Base.tab4 mooringsref08_Base.bits4 (fun HT_ HW_ => ?_)
      generalize wc.drew = w25 at BK171 BK172 HB hHeld ⊢
      refine pure_ (i := 0) (N := some 24) (v := ?_) (a' := ?_) #[true, false, false, false, false, false, false, false, false, false, false] rfl rfl (any_of HT_.out (by kernel_rfl)) (fun _ _ _ h => h) (Or.inl ⟨by rfl, ?_⟩) ?_ ?_
      rotate_left
      ·intro w'
       go_simp
       with_reducible rfl
      rotate_left
      ·simp only [Act.put, Yo, Yp, Yq, i64_w, i32_w]
       rfl
      refine pure_ (i := 2) (N := some 26) (v := ?_) (a' := ?_) #[true, false, true, false, false, false, false, false, false, false, false] rfl rfl (any_of HT_.out (by kernel_rfl)) (fun _ _ _ h => h) (Or.inl ⟨by rfl, ?_⟩) ?_ ?_
      rotate_left
      ·intro w'
       go_simp
       with_reducible rfl
      rotate_left
      ·simp only [Act.put, Yo, Yp, Yq, i64_w, i32_w]
       rfl
      refine take_ (i := 1) (N := some 25) (v := ?_) (a' := ?_) #[true, true, true, false, false, false, false, false, false, false, false] rfl rfl (take_ofW HT_.out HW_.out (by kernel_rfl)) (fun _ _ _ h => h) (Or.inl ⟨by rfl, ?_⟩) hHeld ?_ ?_
      rotate_left
      ·rintro w' ⟨s0, s1, s2, s3, s4, s5, s6, s7⟩
       go_simp
       with_reducible rfl
      rotate_left
      ·simp only [Act.put, Yo, Yp, Yq, i64_w, i32_w]
       rfl
      refine take_ (i := 3) (N := some 27) (v := ?_) (a' := ?_) #[true, true, true, true, false, false, false, false, false, false, false] rfl rfl (take_ofW HT_.out HW_.out (by kernel_rfl)) (fun _ _ _ h => h) (Or.inl ⟨by rfl, ?_⟩) hHeld ?_ ?_
      rotate_left
      ·rintro w' ⟨s0, s1, s2, s3, s4, s5, s6, s7⟩
       go_simp
       with_reducible rfl
      rotate_left
      ·simp only [Act.put, Yo, Yp, Yq, i64_w, i32_w]
       rfl
      refine take_ (i := 6) (N := some 30) (v := ?_) (a' := ?_) #[true, true, true, true, false, false, true, false, false, false, false] rfl rfl (take_ofW HT_.out HW_.out (by kernel_rfl)) (fun _ _ _ h => h) (Or.inl ⟨by rfl, ?_⟩) hHeld ?_ ?_
      rotate_left
      ·rintro w' ⟨s0, s1, s2, s3, s4, s5, s6, s7⟩
       go_simp
       with_reducible rfl
      rotate_left
      ·simp only [Act.put, Yo, Yp, Yq, i64_w, i32_w]
       rfl
      refine one_ (i := 4) (N := some 28) #[true, true, true, true, true, false, true, false, false, false, false] rfl rfl (one_of HT_.out (by kernel_rfl)) (by decide) (fun K hK => ?_)
      refine goes_ Try.func20 (by kernel_rfl) rfl #[.agg #[.int .i64 q0, .int .i64 q1, .int .i64 q2, .int .i64 q3, .int .i64 q4, .int .i64 q5, .int .i64 q6, .int .i64 q7]] (by rfl) rfl rfl (by (try simp only [List.map_toArray, List.map_cons, List.map_nil]); first | done | rfl | (simp only [List.length_drop, List.length_take]; rfl)) ?_
      with_reducible refine (mooringsref08_Ratio.calls kj3 q0 q1 q2 q3 q4 q5 q6 q7 t175 _ A19.out).mono ?_
      rintro e w26 ⟨rfl, hb⟩
      refine ⟨_, rfl, ?_⟩
      have n0_ := Ym (Yl (g := gb171) (o := .cells #[.int .i64 q0, .int .i64 q1, .int .i64 q2, .int .i64 q3, .int .i64 q4, .int .i64 q5, .int .i64 q6, .int .i64 q7] 25 (0, 0)) (by (with_reducible repeat (first | refine Yd ?_ _ | refine Yf ?_ | refine Ye ?_ _)); exact BK171.out) hb)
      have n1_ := Ym (Yl (g := gb172) (o := .cells #[.int .i64 0, .int .i64 0, .int .i64 0] 28 (0, 0)) (by (with_reducible repeat (first | refine Yd ?_ _ | refine Yf ?_ | refine Ye ?_ _)); exact BK172.out) hb)
      have n2_ := Ym (Yj (by repeat (first | (with_reducible first | exact HB.out | apply Yc | apply Ya | apply Yb | refine Yg ?_ GE171.out | refine Yg ?_ GE172.out) | exact HB.out)) hb)
      clear BK171
      clear BK172
      clear HB
      have BK171 := n0_
      have BK172 := n1_
      have HB := n2_
      clear n0_ n1_ n2_
      (try clear hb)
      (try clear hb2)
      (try clear hk)
      (try clear hi)
      refine hK.out _ _ ⟨(Yh BK171.out 0).trans rfl, (Yh BK171.out 1).trans rfl, (Yh BK171.out 2).trans rfl, (Yh BK171.out 3).trans rfl, (Yh BK171.out 4).trans rfl, (Yh BK171.out 5).trans rfl, (Yh BK171.out 6).trans rfl, (Yh BK171.out 7).trans rfl⟩ (fun hHeld => ?_)
      clear hK K
      refine norm_ (a' := ?_) ?_ ?_
      rotate_left
      ·show Act.put _ (some 28) _ = _
       simp only [Act.put, Yo, Yp, Yq, i64_w, i32_w]
       rfl
      refine pure_ (i := 5) (N := some 29) (v := ?_) (a' := ?_) #[true, true, true, true, true, true, true, false, false, false, false] rfl rfl (any_of HT_.out (by kernel_rfl)) (fun _ _ _ h => h) (Or.inl ⟨by rfl, ?_⟩) ?_ ?_
      rotate_left
      ·intro w'
       go_simp
       with_reducible rfl
      rotate_left
      ·simp only [Act.put, Yo, Yp, Yq, i64_w, i32_w]
       rfl
      refine one_ (i := 7) (N := some 31) #[true, true, true, true, true, true, true, true, false, false, false] rfl rfl (one_of HT_.out (by kernel_rfl)) (by decide) (fun K hK => ?_)
      refine goes_ Try.func22 (by kernel_rfl) rfl #[.agg #[.int .i64 q0, .int .i64 q1, .int .i64 q2, .int .i64 q3, .int .i64 q4, .int .i64 q5, .int .i64 q6, .int .i64 q7]] (by rfl) rfl rfl (by (try simp only [List.map_toArray, List.map_cons, List.map_nil]); first | done | rfl | (simp only [List.length_drop, List.length_take]; rfl)) ?_
      with_reducible refine (mooringsref08_Each.calls kj3 q0 q1 q2 q3 q4 q5 q6 q7 t176 _ A21.out).mono ?_
      rintro e w27 ⟨rfl, hb⟩
      refine ⟨_, rfl, ?_⟩
      have n0_ := Ym (Yl (g := gb171) (o := .cells #[.int .i64 q0, .int .i64 q1, .int .i64 q2, .int .i64 q3, .int .i64 q4, .int .i64 q5, .int .i64 q6, .int .i64 q7] 25 (0, 0)) (by (with_reducible repeat (first | refine Yd ?_ _ | refine Yf ?_ | refine Ye ?_ _)); exact BK171.out) hb)
      have n1_ := Ym (Yl (g := gb172) (o := .cells #[.int .i64 0, .int .i64 0, .int .i64 0] 28 (0, 0)) (by (with_reducible repeat (first | refine Yd ?_ _ | refine Yf ?_ | refine Ye ?_ _)); exact BK172.out) hb)
      have n2_ := Ym (Yj (by repeat (first | (with_reducible first | exact HB.out | apply Yc | apply Ya | apply Yb | refine Yg ?_ GE171.out | refine Yg ?_ GE172.out) | exact HB.out)) hb)
      clear BK171
      clear BK172
      clear HB
      have BK171 := n0_
      have BK172 := n1_
      have HB := n2_
      clear n0_ n1_ n2_
      (try clear hb)
      (try clear hb2)
      (try clear hk)
      (try clear hi)
      refine hK.out _ _ ⟨(Yh BK171.out 0).trans rfl, (Yh BK171.out 1).trans rfl, (Yh BK171.out 2).trans rfl, (Yh BK171.out 3).trans rfl, (Yh BK171.out 4).trans rfl, (Yh BK171.out 5).trans rfl, (Yh BK171.out 6).trans rfl, (Yh BK171.out 7).trans rfl⟩ (fun hHeld => ?_)
      clear hK K
      refine norm_ (a' := ?_) ?_ ?_
      rotate_left
      ·show Act.put _ (some 31) _ = _
       simp only [Act.put, Yo, Yp, Yq, i64_w, i32_w]
       rfl
      refine pure_ (i := 8) (N := some 32) (v := ?_) (a' := ?_) #[true, true, true, true, true, true, true, true, true, false, false] rfl rfl (any_of HT_.out (by kernel_rfl)) (fun _ _ _ h => h) (Or.inl ⟨by rfl, ?_⟩) ?_ ?_
      rotate_left
      ·intro w'
       go_simp
       with_reducible rfl
      rotate_left
      ·simp only [Act.put, Yo, Yp, Yq, i64_w, i32_w]
       rfl
      refine pure_ (i := 9) (N := some 33) (v := ?_) (a' := ?_) #[true, true, true, true, true, true, true, true, true, true, false] rfl rfl (any_of HT_.out (by kernel_rfl)) (fun _ _ _ h => h) (Or.inl ⟨by rfl, ?_⟩) ?_ ?_
      rotate_left
      ·intro w'
       go_simp
       with_reducible rfl
      rotate_left
      ·simp only [Act.put, Yo, Yp, Yq, i64_w, i32_w]
       rfl
      refine pure_ (i := 10) (N := some 7) (v := ?_) (a' := ?_) #[true, true, true, true, true, true, true, true, true, true, true] rfl rfl (any_of HT_.out (by kernel_rfl)) (fun _ _ _ h => h) (Or.inl ⟨by rfl, ?_⟩) ?_ ?_
      rotate_left
      ·intro w'
       go_simp
       with_reducible rfl
      rotate_left
      ·simp only [Act.put, Yo, Yp, Yq, i64_w, i32_w]
       rfl
      refine done_ (done_of HT_.out (by kernel_rfl)) ?_
      try go_wp2
      have n0_ := Ym (Yf BK171.out)
      have n1_ := Ym (Yf BK172.out)
      have n2_ := Ym (Yb HB.out)
      clear BK171
      clear BK172
      clear HB
      have BK171 := n0_
      have BK172 := n1_
      have HB := n2_
      clear n0_ n1_ n2_
      refine start_ (n := 13) (S := fun w' => w'.cell? ⟨gb171, 0, none⟩ = some (.int .i64 q0) ∧ w'.cell? ⟨gb171, 1, none⟩ = some (.int .i64 q1) ∧ w'.cell? ⟨gb171, 2, none⟩ = some (.int .i64 q2) ∧ w'.cell? ⟨gb171, 3, none⟩ = some (.int .i64 q3) ∧ w'.cell? ⟨gb171, 4, none⟩ = some (.int .i64 q4) ∧ w'.cell? ⟨gb171, 5, none⟩ = some (.int .i64 q5) ∧ w'.cell? ⟨gb171, 6, none⟩ = some (.int .i64 q6) ∧ w'.cell? ⟨gb171, 7, none⟩ = some (.int .i64 q7)) (ds := []) #[false, false, false, false, false, false, false, false, false, false, false, false, false] (by kernel_rfl) rfl rfl ⟨(Yh BK171.out 0).trans rfl, (Yh BK171.out 1).trans rfl, (Yh BK171.out 2).trans rfl, (Yh BK171.out 3).trans rfl, (Yh BK171.out 4).trans rfl, (Yh BK171.out 5).trans rfl, (Yh BK171.out 6).trans rfl, (Yh BK171.out 7).trans rfl⟩ (fun hHeld => ?_); refine with_tabW mooringsref08_Base.tab5 mooringsref08_Base.bits5 (fun HT_ HW_ => ?_)
      generalize w27.drew = w28 at BK171 BK172 HB hHeld ⊢
      refine pure_ (i := 0) (N := some 34) (v := ?_) (a' := ?_) #[true, false, false, false, false, false, false, false, false, false, false, false, false] rfl rfl (any_of HT_.out (by kernel_rfl)) (fun _ _ _ h => h) (Or.inl ⟨by rfl, ?_⟩) ?_ ?_
      rotate_left
      ·intro w'
       go_simp
       with_reducible rfl
      rotate_left
      ·simp only [Act.put, Yo, Yp, Yq, i64_w, i32_w]
       rfl
      refine pure_ (i := 4) (N := some 38) (v := ?_) (a' := ?_) #[true, false, false, false, true, false, false, false, false, false, false, false, false] rfl rfl (any_of HT_.out (by kernel_rfl)) (fun _ _ _ h => h) (Or.inl ⟨by rfl, ?_⟩) ?_ ?_
      rotate_left
      ·intro w'
       go_simp
       with_reducible rfl
      rotate_left
      ·simp only [Act.put, Yo, Yp, Yq, i64_w, i32_w]
       rfl
      refine pure_ (i := 5) (N := some 39) (v := ?_) (a' := ?_) #[true, false, false, false, true, true, false, false, false, false, false, false, false] rfl rfl (any_of HT_.out (by kernel_rfl)) (fun _ _ _ h => h) (Or.inl ⟨by rfl, ?_⟩) ?_ ?_
      rotate_left
      ·intro w'
       go_simp
       with_reducible rfl
      rotate_left
      ·simp only [Act.put, Yo, Yp, Yq, i64_w, i32_w]
       rfl
      refine take_ (i := 1) (N := some 35) (v := ?_) (a' := ?_) #[true, true, false, false, true, true, false, false, false, false, false, false, false] rfl rfl (take_ofW HT_.out HW_.out (by kernel_rfl)) (fun _ _ _ h => h) (Or.inl ⟨by rfl, ?_⟩) hHeld ?_ ?_
      rotate_left
      ·rintro w' ⟨s0, s1, s2, s3, s4, s5, s6, s7⟩
       go_simp
       with_reducible rfl
      rotate_left
      ·simp only [Act.put, Yo, Yp, Yq, i64_w, i32_w]
       rfl
      refine take_ (i := 6) (N := some 40) (v := ?_) (a' := ?_) #[true, true, false, false, true, true, true, false, false, false, false, false, false] rfl rfl (take_ofW HT_.out HW_.out (by kernel_rfl)) (fun _ _ _ h => h) (Or.inl ⟨by rfl, ?_⟩) hHeld ?_ ?_
      rotate_left
      ·rintro w' ⟨s0, s1, s2, s3, s4, s5, s6, s7⟩
       go_simp
       with_reducible rfl
      rotate_left
      ·simp only [Act.put, Yo, Yp, Yq, i64_w, i32_w]
       rfl
      refine one_ (i := 2) (N := some 36) #[true, true, true, false, true, true, true, false, false, false, false, false, false] rfl rfl (one_of HT_.out (by kernel_rfl)) (by decide) (fun K hK => ?_)
      refine goes_ Try.func20 (by kernel_rfl) rfl #[.agg #[.int .i64 q0, .int .i64 q1, .int .i64 q2, .int .i64 q3, .int .i64 q4, .int .i64 q5, .int .i64 q6, .int .i64 q7]] (by rfl) rfl rfl (by (try simp only [List.map_toArray, List.map_cons, List.map_nil]); first | done | rfl | (simp only [List.length_drop, List.length_take]; rfl)) ?_
      with_reducible refine (mooringsref08_Ratio.calls kj3 q0 q1 q2 q3 q4 q5 q6 q7 t177 _ A22.out).mono ?_
      rintro e w29 ⟨rfl, hb⟩
      refine ⟨_, rfl, ?_⟩
      have n0_ := Ym (Yl (g := gb171) (o := .cells #[.int .i64 q0, .int .i64 q1, .int .i64 q2, .int .i64 q3, .int .i64 q4, .int .i64 q5, .int .i64 q6, .int .i64 q7] 25 (0, 0)) (by (with_reducible repeat (first | refine Yd ?_ _ | refine Yf ?_ | refine Ye ?_ _)); exact BK171.out) hb)
      have n1_ := Ym (Yl (g := gb172) (o := .cells #[.int .i64 0, .int .i64 0, .int .i64 0] 28 (0, 0)) (by (with_reducible repeat (first | refine Yd ?_ _ | refine Yf ?_ | refine Ye ?_ _)); exact BK172.out) hb)
      have n2_ := Ym (Yj (by repeat (first | (with_reducible first | exact HB.out | apply Yc | apply Ya | apply Yb | refine Yg ?_ GE171.out | refine Yg ?_ GE172.out) | exact HB.out)) hb)
      clear BK171
      clear BK172
      clear HB
      have BK171 := n0_
      have BK172 := n1_
      have HB := n2_
      clear n0_ n1_ n2_
      (try clear hb)
      (try clear hb2)
      (try clear hk)
      (try clear hi)
      refine hK.out _ _ ⟨(Yh BK171.out 0).trans rfl, (Yh BK171.out 1).trans rfl, (Yh BK171.out 2).trans rfl, (Yh BK171.out 3).trans rfl, (Yh BK171.out 4).trans rfl, (Yh BK171.out 5).trans rfl, (Yh BK171.out 6).trans rfl, (Yh BK171.out 7).trans rfl⟩ (fun hHeld => ?_)
      clear hK K
      refine norm_ (a' := ?_) ?_ ?_
      rotate_left
      ·show Act.put _ (some 36) _ = _
       simp only [Act.put, Yo, Yp, Yq, i64_w, i32_w]
       rfl
      refine pure_ (i := 3) (N := some 37) (v := ?_) (a' := ?_) #[true, true, true, true, true, true, true, false, false, false, false, false, false] rfl rfl (any_of HT_.out (by kernel_rfl)) (fun _ _ _ h => h) (Or.inl ⟨by rfl, ?_⟩) ?_ ?_
      rotate_left
      ·intro w'
       go_simp
       with_reducible rfl
      rotate_left
      ·simp only [Act.put, Yo, Yp, Yq, i64_w, i32_w]
       rfl
      refine one_ (i := 7) (N := some 41) #[true, true, true, true, true, true, true, true, false, false, false, false, false] rfl rfl (one_of HT_.out (by kernel_rfl)) (by decide) (fun K hK => ?_)
      refine goes_ Try.func22 (by kernel_rfl) rfl #[.agg #[.int .i64 q0, .int .i64 q1, .int .i64 q2, .int .i64 q3, .int .i64 q4, .int .i64 q5, .int .i64 q6, .int .i64 q7]] (by rfl) rfl rfl (by (try simp only [List.map_toArray, List.map_cons, List.map_nil]); first | done | rfl | (simp only [List.length_drop, List.length_take]; rfl)) ?_
      with_reducible refine (mooringsref08_Each.calls kj3 q0 q1 q2 q3 q4 q5 q6 q7 t178 _ A24.out).mono ?_
      rintro e w30 ⟨rfl, hb⟩
      refine ⟨_, rfl, ?_⟩
      have n0_ := Ym (Yl (g := gb171) (o := .cells #[.int .i64 q0, .int .i64 q1, .int .i64 q2, .int .i64 q3, .int .i64 q4, .int .i64 q5, .int .i64 q6, .int .i64 q7] 25 (0, 0)) (by (with_reducible repeat (first | refine Yd ?_ _ | refine Yf ?_ | refine Ye ?_ _)); exact BK171.out) hb)
      have n1_ := Ym (Yl (g := gb172) (o := .cells #[.int .i64 0, .int .i64 0, .int .i64 0] 28 (0, 0)) (by (with_reducible repeat (first | refine Yd ?_ _ | refine Yf ?_ | refine Ye ?_ _)); exact BK172.out) hb)
      have n2_ := Ym (Yj (by repeat (first | (with_reducible first | exact HB.out | apply Yc | apply Ya | apply Yb | refine Yg ?_ GE171.out | refine Yg ?_ GE172.out) | exact HB.out)) hb)
      clear BK171
      clear BK172
      clear HB
      have BK171 := n0_
      have BK172 := n1_
      have HB := n2_
      clear n0_ n1_ n2_
      (try clear hb)
      (try clear hb2)
      (try clear hk)
      (try clear hi)
      refine hK.out _ _ ⟨(Yh BK171.out 0).trans rfl, (Yh BK171.out 1).trans rfl, (Yh BK171.out 2).trans rfl, (Yh BK171.out 3).trans rfl, (Yh BK171.out 4).trans rfl, (Yh BK171.out 5).trans rfl, (Yh BK171.out 6).trans rfl, (Yh BK171.out 7).trans rfl⟩ (fun hHeld => ?_)
      clear hK K
      refine norm_ (a' := ?_) ?_ ?_
      rotate_left
      ·show Act.put _ (some 41) _ = _
       simp only [Act.put, Yo, Yp, Yq, i64_w, i32_w]
       rfl
      refine pure_ (i := 8) (N := some 42) (v := ?_) (a' := ?_) #[true, true, true, true, true, true, true, true, true, false, false, false, false] rfl rfl (any_of HT_.out (by kernel_rfl)) (fun _ _ _ h => h) (Or.inl ⟨by rfl, ?_⟩) ?_ ?_
      rotate_left
      ·intro w'
       go_simp
       with_reducible rfl
      rotate_left
      ·simp only [Act.put, Yo, Yp, Yq, i64_w, i32_w]
       rfl
      refine pure_ (i := 9) (N := some 43) (v := ?_) (a' := ?_) #[true, true, true, true, true, true, true, true, true, true, false, false, false] rfl rfl (any_of HT_.out (by kernel_rfl)) (fun _ _ _ h => h) (Or.inl ⟨by rfl, ?_⟩) ?_ ?_
      rotate_left
      ·intro w'
       go_simp
       with_reducible rfl
      rotate_left
      ·simp only [Act.put, Yo, Yp, Yq, i64_w, i32_w]
       rfl
      refine pure_ (i := 10) (N := some 44) (v := ?_) (a' := ?_) #[true, true, true, true, true, true, true, true, true, true, true, false, false] rfl rfl (any_of HT_.out (by kernel_rfl)) (fun _ _ _ h => h) (Or.inl ⟨by rfl, ?_⟩) ?_ ?_
      rotate_left
      ·intro w'
       go_simp
       with_reducible rfl
      rotate_left
      ·simp only [Act.put, Yo, Yp, Yq, i64_w, i32_w]
       rfl
      refine one_ (i := 11) (N := none) #[true, true, true, true, true, true, true, true, true, true, true, true, false] rfl rfl (one_of HT_.out (by kernel_rfl)) (by decide) (fun K hK => ?_)
      have hs31 : w30.cell? ⟨gb172, 0, none⟩ = some (.int .i64 0) := (Yh BK172.out 0).trans rfl
      have hfs31 := Yi BK172.out 0
      have hns31_0 := NB171_172.out
      have hms31_0 := NB172_171.out
      have hs32 : w30.cell? ⟨gb172, 1, none⟩ = some (.int .i64 0) := (Yh BK172.out 1).trans rfl
      have hfs32 := Yi BK172.out 1
      have hns32_0 := NB171_172.out
      have hms32_0 := NB172_171.out
      have hs33 : w30.cell? ⟨gb172, 2, none⟩ = some (.int .i64 0) := (Yh BK172.out 2).trans rfl
      have hfs33 := Yi BK172.out 2
      have hns33_0 := NB171_172.out
      have hms33_0 := NB172_171.out
      refine skip_ (w1 := ?_) (by rfl) rfl ?_ ?_
      rotate_left
      ·go_simp
       rfl
      refine hK.out _ _ ⟨((cell_far (p := ⟨gb172, _, none⟩) NB171_172.out _).trans (((cell_far (p := ⟨gb172, _, none⟩) NB171_172.out _).trans (((cell_far (p := ⟨gb172, _, none⟩) NB171_172.out _).trans (hHeld.1)))))), ((cell_far (p := ⟨gb172, _, none⟩) NB171_172.out _).trans (((cell_far (p := ⟨gb172, _, none⟩) NB171_172.out _).trans (((cell_far (p := ⟨gb172, _, none⟩) NB171_172.out _).trans (hHeld.2.1)))))), ((cell_far (p := ⟨gb172, _, none⟩) NB171_172.out _).trans (((cell_far (p := ⟨gb172, _, none⟩) NB171_172.out _).trans (((cell_far (p := ⟨gb172, _, none⟩) NB171_172.out _).trans (hHeld.2.2.1)))))), ((cell_far (p := ⟨gb172, _, none⟩) NB171_172.out _).trans (((cell_far (p := ⟨gb172, _, none⟩) NB171_172.out _).trans (((cell_far (p := ⟨gb172, _, none⟩) NB171_172.out _).trans (hHeld.2.2.2.1)))))), ((cell_far (p := ⟨gb172, _, none⟩) NB171_172.out _).trans (((cell_far (p := ⟨gb172, _, none⟩) NB171_172.out _).trans (((cell_far (p := ⟨gb172, _, none⟩) NB171_172.out _).trans (hHeld.2.2.2.2.1)))))), ((cell_far (p := ⟨gb172, _, none⟩) NB171_172.out _).trans (((cell_far (p := ⟨gb172, _, none⟩) NB171_172.out _).trans (((cell_far (p := ⟨gb172, _, none⟩) NB171_172.out _).trans (hHeld.2.2.2.2.2.1)))))), ((cell_far (p := ⟨gb172, _, none⟩) NB171_172.out _).trans (((cell_far (p := ⟨gb172, _, none⟩) NB171_172.out _).trans (((cell_far (p := ⟨gb172, _, none⟩) NB171_172.out _).trans (hHeld.2.2.2.2.2.2.1)))))), ((cell_far (p := ⟨gb172, _, none⟩) NB171_172.out _).trans (((cell_far (p := ⟨gb172, _, none⟩) NB171_172.out _).trans (((cell_far (p := ⟨gb172, _, none⟩) NB171_172.out _).trans (hHeld.2.2.2.2.2.2.2))))))⟩ (fun hHeld => ?_)
      clear hK K
      refine pure_ (i := 12) (N := some 5) (v := ?_) (a' := ?_) #[true, true, true, true, true, true, true, true, true, true, true, true, true] rfl rfl (any_of HT_.out (by kernel_rfl)) (fun _ _ _ h => h) (Or.inl ⟨by rfl, ?_⟩) ?_ ?_
      rotate_left
      ·intro w'
       go_simp
       with_reducible rfl
      rotate_left
      ·simp only [Act.put, Yo, Yp, Yq, i64_w, i32_w]
       rfl
      refine done_ (done_of HT_.out (by kernel_rfl)) ?_
      try go_wp2
      refine bodyPost_ret (results_ct rfl _ _ gb172 28 #[.int .i64 (wrap64 (Int.tdiv a1 t177)), .int .i64 (wrap64 (q4 + (wrap64 ((Int.tmod a1 t175) * t176)))), .int .i64 (wrap64 ((wrap64 ((wrap64 (q4 + (wrap64 ((Int.tmod a1 t175) * t176)))) + t178)) - 1))] (0, 0) _ rfl (by (with_reducible repeat (first | refine Yd ?_ _ | refine Yf ?_ | refine Ye ?_ _)); refine blk_put (cs := #[.int .i64 (wrap64 (Int.tdiv a1 t177)), .int .i64 (wrap64 (q4 + (wrap64 ((Int.tmod a1 t175) * t176)))), .int .i64 0]) ?_ 2 _ rfl; (with_reducible repeat (first | refine Yd ?_ _ | refine Yf ?_ | refine Ye ?_ _)); refine blk_put (cs := #[.int .i64 (wrap64 (Int.tdiv a1 t177)), .int .i64 0, .int .i64 0]) ?_ 1 _ rfl; (with_reducible repeat (first | refine Yd ?_ _ | refine Yf ?_ | refine Ye ?_ _)); refine blk_put (cs := #[.int .i64 0, .int .i64 0, .int .i64 0]) ?_ 0 _ rfl; (with_reducible repeat (first | refine Yd ?_ _ | refine Yf ?_ | refine Ye ?_ _)); exact BK172.out) Try.underlying28 rfl (by kernel_rfl)) rfl ?_
      exact ⟨by first | rfl | (simp [errW_none, errW_some] <;> rfl) | (simp [*, errW_none, errW_some] <;> rfl), by repeat (first | (with_reducible first | exact HB.out | apply Yc | apply Ya | apply Yb | refine Yg ?_ GE171.out | refine Yg ?_ GE172.out) | exact HB.out)⟩

end Go.Proofs.Ytfkdflhijfkjoaa.P
