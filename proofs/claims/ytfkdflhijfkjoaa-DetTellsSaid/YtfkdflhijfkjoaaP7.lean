-- Laid by this session's own program (wip/myprint.py): Lean functions for the Go functions that a law reaches, and their contracts. Not trusted: Lean checks it. (slimmed by wip/slim08.py)
import Derived.Test.YtfkdflhijfkjoaaP0
import Derived.Test.YtfkdflhijfkjoaaP1
import Derived.Test.YtfkdflhijfkjoaaP2
import Derived.Test.YtfkdflhijfkjoaaP3
import Derived.Test.YtfkdflhijfkjoaaP4
import Derived.Test.YtfkdflhijfkjoaaP5
namespace Go.Proofs.Ytfkdflhijfkjoaa.P
open Go.RowKit Go.Proofs.YtfkdflhijfkjoaaW.PrintWords Go.Proofs.YtfkdflhijfkjoaaW.PrintLast Go.Proofs.YtfkdflhijfkjoaaW.PrintMore
attribute [local go_sem] max2_int min2_int max_two min_two max_three min_three max_four min_four   -- for this text's walks alone
set_option linter.unusedVariables false
set_option linter.unusedSimpArgs false

attribute [local go_sem high] eqA28
/-! ### detmap_Who: function 17 -/
mutual
def detmap_Who.j0 : Nat → Int → Int → Bool → Int → Int → Int → Int → Int → Int → Int → Int → Option (Int)
 | 0, _, _, _, _, _, _, _, _, _, _, _ => none
 | k + 1, x1, x2, x37, x133000, x133001, x133002, x133003, x133004, x133005, x133006, x133007 => if x37 = true then (some (-1)) else ((detmap_Ratio.f x133000 x133001 x133002 x133003 x133004 x133005 x133006 x133007).bind fun t135 => ((detmap_Each.f x133000 x133001 x133002 x133003 x133004 x133005 x133006 x133007).bind fun t136 => (if t136 = 0 then (none) else ((detmap_Base.f k x133000 x133001 x133002 x133003 x133004 x133005 x133006 x133007 (wrap64 ((wrap64 (x1 * t135)) + (wrap64 (Int.tdiv (wrap64 (x2 - x133004)) t136))))).bind fun bt137 => (if (wrap64 (Int.tdiv (wrap64 (x2 - x133004)) t136)) ≥ t135 then (detmap_Who.j1 k (wrap64 ((wrap64 (x1 * t135)) + (wrap64 (Int.tdiv (wrap64 (x2 - x133004)) t136)))) true) else (if bt137.2.2.2 = true then (detmap_Who.j1 k (wrap64 ((wrap64 (x1 * t135)) + (wrap64 (Int.tdiv (wrap64 (x2 - x133004)) t136)))) (bt137.1 == 0 && (bt137.2.1 == 0 && (bt137.2.2.1 == 0)))) else (detmap_Who.j1 k (wrap64 ((wrap64 (x1 * t135)) + (wrap64 (Int.tdiv (wrap64 (x2 - x133004)) t136)))) true)))))))
def detmap_Who.j1 : Nat → Int → Bool → Option (Int)
 | 0, _, _ => none
 | k + 1, x9, x69 => if x69 = true then (some (-1)) else (some x9)
end
def detmap_Who.f (k : Nat) (q0 : Int) (q1 : Int) (q2 : Int) (q3 : Int) (q4 : Int) (q5 : Int) (q6 : Int) (q7 : Int) (a1 : Int) (a2 : Int) : Option (Int) := (detmap_Fit.f q0 q1 q2 q3 q4 q5 q6 q7).bind fun t133 => (if t133 = true then (if a1 < 0 then (detmap_Who.j0 k a1 a2 true q0 q1 q2 q3 q4 q5 q6 q7) else ((addr_Size.f q2 q3).bind fun t134 => (if a1 ≥ t134 then (detmap_Who.j0 k a1 a2 true q0 q1 q2 q3 q4 q5 q6 q7) else (if a2 < q4 then (detmap_Who.j0 k a1 a2 true q0 q1 q2 q3 q4 q5 q6 q7) else (detmap_Who.j0 k a1 a2 (decide (a2 > q5)) q0 q1 q2 q3 q4 q5 q6 q7))))) else (detmap_Who.j0 k a1 a2 true q0 q1 q2 q3 q4 q5 q6 q7))
theorem detmap_Who.mono_l : ∀ k, (∀ y0 y1 y2 y3 y4 y5 y6 y7 y8 y9 y10, LeO (detmap_Who.j0 k y0 y1 y2 y3 y4 y5 y6 y7 y8 y9 y10) (detmap_Who.j0 (k + 1) y0 y1 y2 y3 y4 y5 y6 y7 y8 y9 y10)) ∧ (∀ y0 y1, LeO (detmap_Who.j1 k y0 y1) (detmap_Who.j1 (k + 1) y0 y1))
 | 0 => ⟨fun _ _ _ _ _ _ _ _ _ _ _ r h => by simp [detmap_Who.j0] at h, fun _ _ r h => by simp [detmap_Who.j1] at h⟩
 | k + 1 => by
  obtain ⟨ih0, ih1⟩ := detmap_Who.mono_l k
  refine ⟨?_, ?_⟩
  ·intro y0 y1 y2 y3 y4 y5 y6 y7 y8 y9 y10
   unfold detmap_Who.j0
   repeat' first
   | (with_reducible exact ih0 _ _ _ _ _ _ _ _ _ _ _)
   | (with_reducible exact ih1 _ _)
   | (with_reducible exact detmap_Base.mono _ _ _ _ _ _ _ _ _ _)
   | (with_reducible exact LeO.refl _)
   | (with_reducible exact LeO.none _)
   | (with_reducible refine LeO.ite ?_ ?_)
   | (with_reducible refine LeO.bind ?_ (fun _ => ?_))
   | exact ih0 _ _ _ _ _ _ _ _ _ _ _
   | exact ih1 _ _
   | exact detmap_Base.mono _ _ _ _ _ _ _ _ _ _
   | exact LeO.none _
   | refine LeO.ite ?_ ?_
   | refine LeO.bind ?_ (fun _ => ?_)
  ·intro y0 y1
   unfold detmap_Who.j1
   repeat' first
   | (with_reducible exact ih0 _ _ _ _ _ _ _ _ _ _ _)
   | (with_reducible exact ih1 _ _)
   | (with_reducible exact detmap_Base.mono _ _ _ _ _ _ _ _ _ _)
   | (with_reducible exact LeO.refl _)
   | (with_reducible exact LeO.none _)
   | (with_reducible refine LeO.ite ?_ ?_)
   | (with_reducible refine LeO.bind ?_ (fun _ => ?_))
   | exact ih0 _ _ _ _ _ _ _ _ _ _ _
   | exact ih1 _ _
   | exact detmap_Base.mono _ _ _ _ _ _ _ _ _ _
   | exact LeO.none _
   | refine LeO.ite ?_ ?_
   | refine LeO.bind ?_ (fun _ => ?_)
theorem detmap_Who.mono : ∀ a0 a1 a2 a3 a4 a5 a6 a7 a8 a9 k, LeO (detmap_Who.f k a0 a1 a2 a3 a4 a5 a6 a7 a8 a9) (detmap_Who.f (k + 1) a0 a1 a2 a3 a4 a5 a6 a7 a8 a9) := by
 intro a0 a1 a2 a3 a4 a5 a6 a7 a8 a9 k
 obtain ⟨ih0, ih1⟩ := detmap_Who.mono_l k
 unfold detmap_Who.f
 repeat' first
   | (with_reducible exact ih0 _ _ _ _ _ _ _ _ _ _ _)
   | (with_reducible exact ih1 _ _)
   | (with_reducible exact detmap_Base.mono _ _ _ _ _ _ _ _ _ _)
   | (with_reducible exact LeO.refl _)
   | (with_reducible exact LeO.none _)
   | (with_reducible refine LeO.ite ?_ ?_)
   | (with_reducible refine LeO.bind ?_ (fun _ => ?_))
   | exact ih0 _ _ _ _ _ _ _ _ _ _ _
   | exact ih1 _ _
   | exact detmap_Base.mono _ _ _ _ _ _ _ _ _ _
   | exact LeO.none _
   | refine LeO.ite ?_ ?_
   | refine LeO.bind ?_ (fun _ => ?_)
def detmap_Who.T4 : Bool × List (List Nat × List Nat) := (true, [([], []), ([], []), ([1], [1]), ([0, 2], [0, 2]), ([], []), ([4], [4]), ([3, 5], [3, 5]), ([6, 5, 0, 1, 2, 3, 4, 5, 6], [6])])
def detmap_Who.B4 : List Nat := [0, 0, 2, 7, 0, 16, 63, 127]
theorem detmap_Who.tab4 : rtab .any (opsOf Try.f17 4) = detmap_Who.T4 := by kernel_rfl
theorem detmap_Who.bits4 : waitsOk detmap_Who.T4.2 detmap_Who.B4 = true := by kernel_rfl
set_option maxHeartbeats 8000000 in
set_option maxRecDepth 100000 in
theorem detmap_Who.calls (k : Nat) (q0 : Int) (q1 : Int) (q2 : Int) (q3 : Int) (q4 : Int) (q5 : Int) (q6 : Int) (q7 : Int) (a1 : Int) (a2 : Int) (r : Int) (w : World) (h : detmap_Who.f k q0 q1 q2 q3 q4 q5 q6 q7 a1 a2 = some r) :
  Calls Try.prog 17 #[.agg #[.int .i64 q0, .int .i64 q1, .int .i64 q2, .int .i64 q3, .int .i64 q4, .int .i64 q5, .int .i64 q6, .int .i64 q7], .int .i64 a1, .int .i64 a2] w fun e w' => e = .returned (.int .i64 r) ∧ Below w.heap.size w w' := by
 have hu25 := Try.underlying25
 have hu23 := Try.underlying23
 have hu28 := Try.underlying28
 have HB := Ym (Below.refl w.heap.size w)
 have H : ((detmap_Fit.f q0 q1 q2 q3 q4 q5 q6 q7).bind fun t133 => (if t133 = true then (if a1 < 0 then (detmap_Who.j0 k a1 a2 true q0 q1 q2 q3 q4 q5 q6 q7) else ((addr_Size.f q2 q3).bind fun t134 => (if a1 ≥ t134 then (detmap_Who.j0 k a1 a2 true q0 q1 q2 q3 q4 q5 q6 q7) else (if a2 < q4 then (detmap_Who.j0 k a1 a2 true q0 q1 q2 q3 q4 q5 q6 q7) else (detmap_Who.j0 k a1 a2 (decide (a2 > q5)) q0 q1 q2 q3 q4 q5 q6 q7))))) else (detmap_Who.j0 k a1 a2 true q0 q1 q2 q3 q4 q5 q6 q7))) = some r := h
 clear h
 have HC4 := Ym H
 clear H
 go_enter Try.func17, Try.ntmps17
 go_upto_region 1 with (first | ((with_reducible refine gate_dst (N := 3) rfl ?_); refine box_event ?hg (N := 3) ?hd (cs := #[.int .i64 q0, .int .i64 q1, .int .i64 q2, .int .i64 q3, .int .i64 q4, .int .i64 q5, .int .i64 q6, .int .i64 q7]) (t := 25) ?hr ?_; (case hd => rfl); (case hg => rfl); (case hr => first | (go_simp; done) | (go_simp; rfl)); intro gb132 hg w5 hbox hb; have n0_ := Ym (Yj (by repeat (first | (with_reducible first | exact HB.out | apply Yc | apply Ya | apply Yb) | exact HB.out)) hb); have n1_ := Ym (hbox); have n2_ := Ym ((by rw [hg]; exact (Yk (by repeat (first | (with_reducible first | exact HB.out | apply Yc | apply Ya | apply Yb) | exact HB.out))) : w.heap.size ≤ gb132)); have n3_ := Ym ((by rw [hg]; exact (Yk (by repeat (first | (with_reducible first | exact HB.out | apply Yc | apply Ya | apply Yb) | exact HB.out))) : w.heap.size ≤ gb132)); clear HB; have HB := n0_; have BK132 := n1_; have GW132 := n2_; have GE132 := n3_; clear n0_ n1_ n2_ n3_; clear hb hbox hg))
 (try simp only [Act.put, Yo, Yp, Yq])
 go_cut [37] (fun v37 wc => ∃ (kq : Nat) (x37_3 : Bool), v37 = .bool x37_3 ∧ Aside0 (detmap_Who.j0 kq a1 a2 x37_3 q0 q1 q2 q3 q4 q5 q6 q7 = some r) ∧ Aside0 (kq ≤ k) ∧ Aside0 (wc.heap[gb132]? = some (.cells #[.int .i64 q0, .int .i64 q1, .int .i64 q2, .int .i64 q3, .int .i64 q4, .int .i64 q5, .int .i64 q6, .int .i64 q7] 25 (0, 0))) ∧ Aside0 (Below w.heap.size w wc))
 case first =>
  have H := HC4.out
  clear HC4
  replace H := Option.bind_eq_some_iff.mp H
  obtain ⟨t133, A60, H⟩ := H
  replace H : (if t133 = true then (if a1 < 0 then (detmap_Who.j0 k a1 a2 true q0 q1 q2 q3 q4 q5 q6 q7) else ((addr_Size.f q2 q3).bind fun t134 => (if a1 ≥ t134 then (detmap_Who.j0 k a1 a2 true q0 q1 q2 q3 q4 q5 q6 q7) else (if a2 < q4 then (detmap_Who.j0 k a1 a2 true q0 q1 q2 q3 q4 q5 q6 q7) else (detmap_Who.j0 k a1 a2 (decide (a2 > q5)) q0 q1 q2 q3 q4 q5 q6 q7))))) else (detmap_Who.j0 k a1 a2 true q0 q1 q2 q3 q4 q5 q6 q7)) = some r := H
  have A6 := Ym A60
  clear A60
  by_cases c7 : t133 = true
  ·subst c7
   have H1 : (if a1 < 0 then (detmap_Who.j0 k a1 a2 true q0 q1 q2 q3 q4 q5 q6 q7) else ((addr_Size.f q2 q3).bind fun t134 => (if a1 ≥ t134 then (detmap_Who.j0 k a1 a2 true q0 q1 q2 q3 q4 q5 q6 q7) else (if a2 < q4 then (detmap_Who.j0 k a1 a2 true q0 q1 q2 q3 q4 q5 q6 q7) else (detmap_Who.j0 k a1 a2 (decide (a2 > q5)) q0 q1 q2 q3 q4 q5 q6 q7))))) = some r := by rw [if_pos rfl] at H; exact H
   clear H
   have H := H1
   clear H1
   by_cases c8 : a1 < 0
   ·rw [if_pos c8] at H
    have c8b0 : decide (a1 < 0) = true := decide_eq_true c8
    clear c8
    (first | rw [c8b0] | (simp only [i64_w, i32_w]; rw [c8b0]) | skip)
    have H' := Ym H
    clear H
    have hcz9_0 : w5.cell? ⟨gb132, 0, none⟩ = some (.int .i64 q0) := (Yh BK132.out 0).trans rfl
    have hcz9_1 : w5.cell? ⟨gb132, 1, none⟩ = some (.int .i64 q1) := (Yh BK132.out 1).trans rfl
    have hcz9_2 : w5.cell? ⟨gb132, 2, none⟩ = some (.int .i64 q2) := (Yh BK132.out 2).trans rfl
    have hcz9_3 : w5.cell? ⟨gb132, 3, none⟩ = some (.int .i64 q3) := (Yh BK132.out 3).trans rfl
    have hcz9_4 : w5.cell? ⟨gb132, 4, none⟩ = some (.int .i64 q4) := (Yh BK132.out 4).trans rfl
    have hcz9_5 : w5.cell? ⟨gb132, 5, none⟩ = some (.int .i64 q5) := (Yh BK132.out 5).trans rfl
    have hcz9_6 : w5.cell? ⟨gb132, 6, none⟩ = some (.int .i64 q6) := (Yh BK132.out 6).trans rfl
    have hcz9_7 : w5.cell? ⟨gb132, 7, none⟩ = some (.int .i64 q7) := (Yh BK132.out 7).trans rfl
    have hfz9_0 := Yi BK132.out 0
    have hfz9_1 := Yi BK132.out 1
    have hfz9_2 := Yi BK132.out 2
    have hfz9_3 := Yi BK132.out 3
    have hfz9_4 := Yi BK132.out 4
    have hfz9_5 := Yi BK132.out 5
    have hfz9_6 := Yi BK132.out 6
    have hfz9_7 := Yi BK132.out 7
    go_wp2_with (first | ((with_reducible refine gate_callee (f := 16) rfl ?_); refine goesL_ (some 13) rfl rfl Try.func16 (by kernel_rfl) rfl #[.agg #[.int .i64 q0, .int .i64 q1, .int .i64 q2, .int .i64 q3, .int .i64 q4, .int .i64 q5, .int .i64 q6, .int .i64 q7]] rfl (by (try simp only [List.map_toArray, List.map_cons, List.map_nil]); first | done | rfl | (simp only [List.length_drop, List.length_take]; rfl)) ?_; (with_reducible refine (detmap_Fit.calls q0 q1 q2 q3 q4 q5 q6 q7 true _ A6.out).mono ?_); rintro e w10 ⟨rfl, hb⟩; refine ⟨_, rfl, ?_⟩; have n0_ := Ym (Yl (g := gb132) (o := .cells #[.int .i64 q0, .int .i64 q1, .int .i64 q2, .int .i64 q3, .int .i64 q4, .int .i64 q5, .int .i64 q6, .int .i64 q7] 25 (0, 0)) (by (with_reducible repeat (first | refine Yd ?_ _ | refine Yf ?_ | refine Ye ?_ _)); exact BK132.out) hb); have n1_ := Ym (Yj (by repeat (first | (with_reducible first | exact HB.out | apply Yc | apply Ya | apply Yb | refine Yg ?_ GE132.out) | exact HB.out)) hb); clear BK132; clear HB; have BK132 := n0_; have HB := n1_; clear n0_ n1_; (try clear hb); (try clear hb2); (try clear hk); (try clear hi)))
    go_meet
    case rel => exact ⟨_, (true), (by first | rfl | (simp; done) | (simp [*]; done)), H', ⟨by first | omega | exact Nat.le_refl _⟩, ⟨by (with_reducible repeat (first | refine Yd ?_ _ | refine Yf ?_ | refine Ye ?_ _)); exact BK132.out⟩, ⟨by repeat (first | (with_reducible first | exact HB.out | apply Yc | apply Ya | apply Yb | refine Yg ?_ GE132.out) | exact HB.out)⟩⟩
   ·rw [if_neg c8] at H
    have c8b0 : decide (a1 < 0) = false := decide_eq_false c8
    clear c8
    (first | rw [c8b0] | (simp only [i64_w, i32_w]; rw [c8b0]) | skip)
    replace H := Option.bind_eq_some_iff.mp H
    obtain ⟨t134, A110, H⟩ := H
    replace H : (if a1 ≥ t134 then (detmap_Who.j0 k a1 a2 true q0 q1 q2 q3 q4 q5 q6 q7) else (if a2 < q4 then (detmap_Who.j0 k a1 a2 true q0 q1 q2 q3 q4 q5 q6 q7) else (detmap_Who.j0 k a1 a2 (decide (a2 > q5)) q0 q1 q2 q3 q4 q5 q6 q7))) = some r := H
    have A11 := Ym A110
    clear A110
    by_cases c12 : a1 ≥ t134
    ·rw [if_pos c12] at H
     have c12b0 : decide (t134 ≤ a1) = true := decide_eq_true c12
     clear c12
     have H' := Ym H
     clear H
     have hcz13_0 : w5.cell? ⟨gb132, 0, none⟩ = some (.int .i64 q0) := (Yh BK132.out 0).trans rfl
     have hcz13_1 : w5.cell? ⟨gb132, 1, none⟩ = some (.int .i64 q1) := (Yh BK132.out 1).trans rfl
     have hcz13_2 : w5.cell? ⟨gb132, 2, none⟩ = some (.int .i64 q2) := (Yh BK132.out 2).trans rfl
     have hcz13_3 : w5.cell? ⟨gb132, 3, none⟩ = some (.int .i64 q3) := (Yh BK132.out 3).trans rfl
     have hcz13_4 : w5.cell? ⟨gb132, 4, none⟩ = some (.int .i64 q4) := (Yh BK132.out 4).trans rfl
     have hcz13_5 : w5.cell? ⟨gb132, 5, none⟩ = some (.int .i64 q5) := (Yh BK132.out 5).trans rfl
     have hcz13_6 : w5.cell? ⟨gb132, 6, none⟩ = some (.int .i64 q6) := (Yh BK132.out 6).trans rfl
     have hcz13_7 : w5.cell? ⟨gb132, 7, none⟩ = some (.int .i64 q7) := (Yh BK132.out 7).trans rfl
     have hfz13_0 := Yi BK132.out 0
     have hfz13_1 := Yi BK132.out 1
     have hfz13_2 := Yi BK132.out 2
     have hfz13_3 := Yi BK132.out 3
     have hfz13_4 := Yi BK132.out 4
     have hfz13_5 := Yi BK132.out 5
     have hfz13_6 := Yi BK132.out 6
     have hfz13_7 := Yi BK132.out 7
     go_wp2_with (first | ((with_reducible refine gate_callee (f := 16) rfl ?_); refine goesL_ (some 13) rfl rfl Try.func16 (by kernel_rfl) rfl #[.agg #[.int .i64 q0, .int .i64 q1, .int .i64 q2, .int .i64 q3, .int .i64 q4, .int .i64 q5, .int .i64 q6, .int .i64 q7]] rfl (by (try simp only [List.map_toArray, List.map_cons, List.map_nil]); first | done | rfl | (simp only [List.length_drop, List.length_take]; rfl)) ?_; (with_reducible refine (detmap_Fit.calls q0 q1 q2 q3 q4 q5 q6 q7 true _ A6.out).mono ?_); rintro e w14 ⟨rfl, hb⟩; refine ⟨_, rfl, ?_⟩; have n0_ := Ym (Yl (g := gb132) (o := .cells #[.int .i64 q0, .int .i64 q1, .int .i64 q2, .int .i64 q3, .int .i64 q4, .int .i64 q5, .int .i64 q6, .int .i64 q7] 25 (0, 0)) (by (with_reducible repeat (first | refine Yd ?_ _ | refine Yf ?_ | refine Ye ?_ _)); exact BK132.out) hb); have n1_ := Ym (Yj (by repeat (first | (with_reducible first | exact HB.out | apply Yc | apply Ya | apply Yb | refine Yg ?_ GE132.out) | exact HB.out)) hb); clear BK132; clear HB; have BK132 := n0_; have HB := n1_; clear n0_ n1_; (try clear hb); (try clear hb2); (try clear hk); (try clear hi); have hcz15_0 : w14.cell? ⟨gb132, 0, none⟩ = some (.int .i64 q0) := (Yh BK132.out 0).trans rfl; have hcz15_1 : w14.cell? ⟨gb132, 1, none⟩ = some (.int .i64 q1) := (Yh BK132.out 1).trans rfl; have hcz15_2 : w14.cell? ⟨gb132, 2, none⟩ = some (.int .i64 q2) := (Yh BK132.out 2).trans rfl; have hcz15_3 : w14.cell? ⟨gb132, 3, none⟩ = some (.int .i64 q3) := (Yh BK132.out 3).trans rfl; have hcz15_4 : w14.cell? ⟨gb132, 4, none⟩ = some (.int .i64 q4) := (Yh BK132.out 4).trans rfl; have hcz15_5 : w14.cell? ⟨gb132, 5, none⟩ = some (.int .i64 q5) := (Yh BK132.out 5).trans rfl; have hcz15_6 : w14.cell? ⟨gb132, 6, none⟩ = some (.int .i64 q6) := (Yh BK132.out 6).trans rfl; have hcz15_7 : w14.cell? ⟨gb132, 7, none⟩ = some (.int .i64 q7) := (Yh BK132.out 7).trans rfl; have hfz15_0 := Yi BK132.out 0; have hfz15_1 := Yi BK132.out 1; have hfz15_2 := Yi BK132.out 2; have hfz15_3 := Yi BK132.out 3; have hfz15_4 := Yi BK132.out 4; have hfz15_5 := Yi BK132.out 5; have hfz15_6 := Yi BK132.out 6; have hfz15_7 := Yi BK132.out 7) | (go_at_call 27; (with_reducible refine (addr_Size.calls q2 q3 t134 _ A11.out).mono ?_); rintro e w16 ⟨rfl, hb⟩; have n0_ := Ym (Yl (g := gb132) (o := .cells #[.int .i64 q0, .int .i64 q1, .int .i64 q2, .int .i64 q3, .int .i64 q4, .int .i64 q5, .int .i64 q6, .int .i64 q7] 25 (0, 0)) (by (with_reducible repeat (first | refine Yd ?_ _ | refine Yf ?_ | refine Ye ?_ _)); exact BK132.out) hb); have n1_ := Ym (Yj (by repeat (first | (with_reducible first | exact HB.out | apply Yc | apply Ya | apply Yb | refine Yg ?_ GE132.out) | exact HB.out)) hb); clear BK132; clear HB; have BK132 := n0_; have HB := n1_; clear n0_ n1_; (try clear hb); (try clear hb2); (try clear hk); (try clear hi)))
     go_meet
     case rel => exact ⟨_, (true), (by first | rfl | (simp; done) | (simp [*]; done)), H', ⟨by first | omega | exact Nat.le_refl _⟩, ⟨by (with_reducible repeat (first | refine Yd ?_ _ | refine Yf ?_ | refine Ye ?_ _)); exact BK132.out⟩, ⟨by repeat (first | (with_reducible first | exact HB.out | apply Yc | apply Ya | apply Yb | refine Yg ?_ GE132.out) | exact HB.out)⟩⟩
    ·rw [if_neg c12] at H
     have c12b0 : decide (t134 ≤ a1) = false := decide_eq_false c12
     clear c12
     by_cases c17 : a2 < q4
     ·rw [if_pos c17] at H
      have c17b0 : decide (a2 < q4) = true := decide_eq_true c17
      clear c17
      have H' := Ym H
      clear H
      have hcz18_0 : w5.cell? ⟨gb132, 0, none⟩ = some (.int .i64 q0) := (Yh BK132.out 0).trans rfl
      have hcz18_1 : w5.cell? ⟨gb132, 1, none⟩ = some (.int .i64 q1) := (Yh BK132.out 1).trans rfl
      have hcz18_2 : w5.cell? ⟨gb132, 2, none⟩ = some (.int .i64 q2) := (Yh BK132.out 2).trans rfl
      have hcz18_3 : w5.cell? ⟨gb132, 3, none⟩ = some (.int .i64 q3) := (Yh BK132.out 3).trans rfl
      have hcz18_4 : w5.cell? ⟨gb132, 4, none⟩ = some (.int .i64 q4) := (Yh BK132.out 4).trans rfl
      have hcz18_5 : w5.cell? ⟨gb132, 5, none⟩ = some (.int .i64 q5) := (Yh BK132.out 5).trans rfl
      have hcz18_6 : w5.cell? ⟨gb132, 6, none⟩ = some (.int .i64 q6) := (Yh BK132.out 6).trans rfl
      have hcz18_7 : w5.cell? ⟨gb132, 7, none⟩ = some (.int .i64 q7) := (Yh BK132.out 7).trans rfl
      have hfz18_0 := Yi BK132.out 0
      have hfz18_1 := Yi BK132.out 1
      have hfz18_2 := Yi BK132.out 2
      have hfz18_3 := Yi BK132.out 3
      have hfz18_4 := Yi BK132.out 4
      have hfz18_5 := Yi BK132.out 5
      have hfz18_6 := Yi BK132.out 6
      have hfz18_7 := Yi BK132.out 7
      go_wp2_with (first | ((with_reducible refine gate_callee (f := 16) rfl ?_); refine goesL_ (some 13) rfl rfl Try.func16 (by kernel_rfl) rfl #[.agg #[.int .i64 q0, .int .i64 q1, .int .i64 q2, .int .i64 q3, .int .i64 q4, .int .i64 q5, .int .i64 q6, .int .i64 q7]] rfl (by (try simp only [List.map_toArray, List.map_cons, List.map_nil]); first | done | rfl | (simp only [List.length_drop, List.length_take]; rfl)) ?_; (with_reducible refine (detmap_Fit.calls q0 q1 q2 q3 q4 q5 q6 q7 true _ A6.out).mono ?_); rintro e w19 ⟨rfl, hb⟩; refine ⟨_, rfl, ?_⟩; have n0_ := Ym (Yl (g := gb132) (o := .cells #[.int .i64 q0, .int .i64 q1, .int .i64 q2, .int .i64 q3, .int .i64 q4, .int .i64 q5, .int .i64 q6, .int .i64 q7] 25 (0, 0)) (by (with_reducible repeat (first | refine Yd ?_ _ | refine Yf ?_ | refine Ye ?_ _)); exact BK132.out) hb); have n1_ := Ym (Yj (by repeat (first | (with_reducible first | exact HB.out | apply Yc | apply Ya | apply Yb | refine Yg ?_ GE132.out) | exact HB.out)) hb); clear BK132; clear HB; have BK132 := n0_; have HB := n1_; clear n0_ n1_; (try clear hb); (try clear hb2); (try clear hk); (try clear hi); have hcz20_0 : w19.cell? ⟨gb132, 0, none⟩ = some (.int .i64 q0) := (Yh BK132.out 0).trans rfl; have hcz20_1 : w19.cell? ⟨gb132, 1, none⟩ = some (.int .i64 q1) := (Yh BK132.out 1).trans rfl; have hcz20_2 : w19.cell? ⟨gb132, 2, none⟩ = some (.int .i64 q2) := (Yh BK132.out 2).trans rfl; have hcz20_3 : w19.cell? ⟨gb132, 3, none⟩ = some (.int .i64 q3) := (Yh BK132.out 3).trans rfl; have hcz20_4 : w19.cell? ⟨gb132, 4, none⟩ = some (.int .i64 q4) := (Yh BK132.out 4).trans rfl; have hcz20_5 : w19.cell? ⟨gb132, 5, none⟩ = some (.int .i64 q5) := (Yh BK132.out 5).trans rfl; have hcz20_6 : w19.cell? ⟨gb132, 6, none⟩ = some (.int .i64 q6) := (Yh BK132.out 6).trans rfl; have hcz20_7 : w19.cell? ⟨gb132, 7, none⟩ = some (.int .i64 q7) := (Yh BK132.out 7).trans rfl; have hfz20_0 := Yi BK132.out 0; have hfz20_1 := Yi BK132.out 1; have hfz20_2 := Yi BK132.out 2; have hfz20_3 := Yi BK132.out 3; have hfz20_4 := Yi BK132.out 4; have hfz20_5 := Yi BK132.out 5; have hfz20_6 := Yi BK132.out 6; have hfz20_7 := Yi BK132.out 7) | (go_at_call 27; (with_reducible refine (addr_Size.calls q2 q3 t134 _ A11.out).mono ?_); rintro e w21 ⟨rfl, hb⟩; have n0_ := Ym (Yl (g := gb132) (o := .cells #[.int .i64 q0, .int .i64 q1, .int .i64 q2, .int .i64 q3, .int .i64 q4, .int .i64 q5, .int .i64 q6, .int .i64 q7] 25 (0, 0)) (by (with_reducible repeat (first | refine Yd ?_ _ | refine Yf ?_ | refine Ye ?_ _)); exact BK132.out) hb); have n1_ := Ym (Yj (by repeat (first | (with_reducible first | exact HB.out | apply Yc | apply Ya | apply Yb | refine Yg ?_ GE132.out) | exact HB.out)) hb); clear BK132; clear HB; have BK132 := n0_; have HB := n1_; clear n0_ n1_; (try clear hb); (try clear hb2); (try clear hk); (try clear hi); have hcz22_0 : w21.cell? ⟨gb132, 0, none⟩ = some (.int .i64 q0) := (Yh BK132.out 0).trans rfl; have hcz22_1 : w21.cell? ⟨gb132, 1, none⟩ = some (.int .i64 q1) := (Yh BK132.out 1).trans rfl; have hcz22_2 : w21.cell? ⟨gb132, 2, none⟩ = some (.int .i64 q2) := (Yh BK132.out 2).trans rfl; have hcz22_3 : w21.cell? ⟨gb132, 3, none⟩ = some (.int .i64 q3) := (Yh BK132.out 3).trans rfl; have hcz22_4 : w21.cell? ⟨gb132, 4, none⟩ = some (.int .i64 q4) := (Yh BK132.out 4).trans rfl; have hcz22_5 : w21.cell? ⟨gb132, 5, none⟩ = some (.int .i64 q5) := (Yh BK132.out 5).trans rfl; have hcz22_6 : w21.cell? ⟨gb132, 6, none⟩ = some (.int .i64 q6) := (Yh BK132.out 6).trans rfl; have hcz22_7 : w21.cell? ⟨gb132, 7, none⟩ = some (.int .i64 q7) := (Yh BK132.out 7).trans rfl; have hfz22_0 := Yi BK132.out 0; have hfz22_1 := Yi BK132.out 1; have hfz22_2 := Yi BK132.out 2; have hfz22_3 := Yi BK132.out 3; have hfz22_4 := Yi BK132.out 4; have hfz22_5 := Yi BK132.out 5; have hfz22_6 := Yi BK132.out 6; have hfz22_7 := Yi BK132.out 7))
      go_meet
      case rel => exact ⟨_, (true), (by first | rfl | (simp; done) | (simp [*]; done)), H', ⟨by first | omega | exact Nat.le_refl _⟩, ⟨by (with_reducible repeat (first | refine Yd ?_ _ | refine Yf ?_ | refine Ye ?_ _)); exact BK132.out⟩, ⟨by repeat (first | (with_reducible first | exact HB.out | apply Yc | apply Ya | apply Yb | refine Yg ?_ GE132.out) | exact HB.out)⟩⟩
     ·rw [if_neg c17] at H
      have c17b0 : decide (a2 < q4) = false := decide_eq_false c17
      clear c17
      have H' := Ym H
      clear H
      have hcz23_0 : w5.cell? ⟨gb132, 0, none⟩ = some (.int .i64 q0) := (Yh BK132.out 0).trans rfl
      have hcz23_1 : w5.cell? ⟨gb132, 1, none⟩ = some (.int .i64 q1) := (Yh BK132.out 1).trans rfl
      have hcz23_2 : w5.cell? ⟨gb132, 2, none⟩ = some (.int .i64 q2) := (Yh BK132.out 2).trans rfl
      have hcz23_3 : w5.cell? ⟨gb132, 3, none⟩ = some (.int .i64 q3) := (Yh BK132.out 3).trans rfl
      have hcz23_4 : w5.cell? ⟨gb132, 4, none⟩ = some (.int .i64 q4) := (Yh BK132.out 4).trans rfl
      have hcz23_5 : w5.cell? ⟨gb132, 5, none⟩ = some (.int .i64 q5) := (Yh BK132.out 5).trans rfl
      have hcz23_6 : w5.cell? ⟨gb132, 6, none⟩ = some (.int .i64 q6) := (Yh BK132.out 6).trans rfl
      have hcz23_7 : w5.cell? ⟨gb132, 7, none⟩ = some (.int .i64 q7) := (Yh BK132.out 7).trans rfl
      have hfz23_0 := Yi BK132.out 0
      have hfz23_1 := Yi BK132.out 1
      have hfz23_2 := Yi BK132.out 2
      have hfz23_3 := Yi BK132.out 3
      have hfz23_4 := Yi BK132.out 4
      have hfz23_5 := Yi BK132.out 5
      have hfz23_6 := Yi BK132.out 6
      have hfz23_7 := Yi BK132.out 7
      go_wp2_with (first | ((with_reducible refine gate_callee (f := 16) rfl ?_); refine goesL_ (some 13) rfl rfl Try.func16 (by kernel_rfl) rfl #[.agg #[.int .i64 q0, .int .i64 q1, .int .i64 q2, .int .i64 q3, .int .i64 q4, .int .i64 q5, .int .i64 q6, .int .i64 q7]] rfl (by (try simp only [List.map_toArray, List.map_cons, List.map_nil]); first | done | rfl | (simp only [List.length_drop, List.length_take]; rfl)) ?_; (with_reducible refine (detmap_Fit.calls q0 q1 q2 q3 q4 q5 q6 q7 true _ A6.out).mono ?_); rintro e w24 ⟨rfl, hb⟩; refine ⟨_, rfl, ?_⟩; have n0_ := Ym (Yl (g := gb132) (o := .cells #[.int .i64 q0, .int .i64 q1, .int .i64 q2, .int .i64 q3, .int .i64 q4, .int .i64 q5, .int .i64 q6, .int .i64 q7] 25 (0, 0)) (by (with_reducible repeat (first | refine Yd ?_ _ | refine Yf ?_ | refine Ye ?_ _)); exact BK132.out) hb); have n1_ := Ym (Yj (by repeat (first | (with_reducible first | exact HB.out | apply Yc | apply Ya | apply Yb | refine Yg ?_ GE132.out) | exact HB.out)) hb); clear BK132; clear HB; have BK132 := n0_; have HB := n1_; clear n0_ n1_; (try clear hb); (try clear hb2); (try clear hk); (try clear hi); have hcz25_0 : w24.cell? ⟨gb132, 0, none⟩ = some (.int .i64 q0) := (Yh BK132.out 0).trans rfl; have hcz25_1 : w24.cell? ⟨gb132, 1, none⟩ = some (.int .i64 q1) := (Yh BK132.out 1).trans rfl; have hcz25_2 : w24.cell? ⟨gb132, 2, none⟩ = some (.int .i64 q2) := (Yh BK132.out 2).trans rfl; have hcz25_3 : w24.cell? ⟨gb132, 3, none⟩ = some (.int .i64 q3) := (Yh BK132.out 3).trans rfl; have hcz25_4 : w24.cell? ⟨gb132, 4, none⟩ = some (.int .i64 q4) := (Yh BK132.out 4).trans rfl; have hcz25_5 : w24.cell? ⟨gb132, 5, none⟩ = some (.int .i64 q5) := (Yh BK132.out 5).trans rfl; have hcz25_6 : w24.cell? ⟨gb132, 6, none⟩ = some (.int .i64 q6) := (Yh BK132.out 6).trans rfl; have hcz25_7 : w24.cell? ⟨gb132, 7, none⟩ = some (.int .i64 q7) := (Yh BK132.out 7).trans rfl; have hfz25_0 := Yi BK132.out 0; have hfz25_1 := Yi BK132.out 1; have hfz25_2 := Yi BK132.out 2; have hfz25_3 := Yi BK132.out 3; have hfz25_4 := Yi BK132.out 4; have hfz25_5 := Yi BK132.out 5; have hfz25_6 := Yi BK132.out 6; have hfz25_7 := Yi BK132.out 7) | (go_at_call 27; (with_reducible refine (addr_Size.calls q2 q3 t134 _ A11.out).mono ?_); rintro e w26 ⟨rfl, hb⟩; have n0_ := Ym (Yl (g := gb132) (o := .cells #[.int .i64 q0, .int .i64 q1, .int .i64 q2, .int .i64 q3, .int .i64 q4, .int .i64 q5, .int .i64 q6, .int .i64 q7] 25 (0, 0)) (by (with_reducible repeat (first | refine Yd ?_ _ | refine Yf ?_ | refine Ye ?_ _)); exact BK132.out) hb); have n1_ := Ym (Yj (by repeat (first | (with_reducible first | exact HB.out | apply Yc | apply Ya | apply Yb | refine Yg ?_ GE132.out) | exact HB.out)) hb); clear BK132; clear HB; have BK132 := n0_; have HB := n1_; clear n0_ n1_; (try clear hb); (try clear hb2); (try clear hk); (try clear hi); have hcz27_0 : w26.cell? ⟨gb132, 0, none⟩ = some (.int .i64 q0) := (Yh BK132.out 0).trans rfl; have hcz27_1 : w26.cell? ⟨gb132, 1, none⟩ = some (.int .i64 q1) := (Yh BK132.out 1).trans rfl; have hcz27_2 : w26.cell? ⟨gb132, 2, none⟩ = some (.int .i64 q2) := (Yh BK132.out 2).trans rfl; have hcz27_3 : w26.cell? ⟨gb132, 3, none⟩ = some (.int .i64 q3) := (Yh BK132.out 3).trans rfl; have hcz27_4 : w26.cell? ⟨gb132, 4, none⟩ = some (.int .i64 q4) := (Yh BK132.out 4).trans rfl; have hcz27_5 : w26.cell? ⟨gb132, 5, none⟩ = some (.int .i64 q5) := (Yh BK132.out 5).trans rfl; have hcz27_6 : w26.cell? ⟨gb132, 6, none⟩ = some (.int .i64 q6) := (Yh BK132.out 6).trans rfl; have hcz27_7 : w26.cell? ⟨gb132, 7, none⟩ = some (.int .i64 q7) := (Yh BK132.out 7).trans rfl; have hfz27_0 := Yi BK132.out 0; have hfz27_1 := Yi BK132.out 1; have hfz27_2 := Yi BK132.out 2; have hfz27_3 := Yi BK132.out 3; have hfz27_4 := Yi BK132.out 4; have hfz27_5 := Yi BK132.out 5; have hfz27_6 := Yi BK132.out 6; have hfz27_7 := Yi BK132.out 7))
      go_meet
      case rel => exact ⟨_, (decide (a2 > q5)), (by first | rfl | (simp; done) | (simp [*]; done)), H', ⟨by first | omega | exact Nat.le_refl _⟩, ⟨by (with_reducible repeat (first | refine Yd ?_ _ | refine Yf ?_ | refine Ye ?_ _)); exact BK132.out⟩, ⟨by repeat (first | (with_reducible first | exact HB.out | apply Yc | apply Ya | apply Yb | refine Yg ?_ GE132.out) | exact HB.out)⟩⟩
  ·replace c7 := Bool.eq_false_iff.mpr c7
   subst c7
   have H1 : (detmap_Who.j0 k a1 a2 true q0 q1 q2 q3 q4 q5 q6 q7) = some r := by rw [if_neg (show ¬ (false = true) by decide)] at H; exact H
   clear H
   have H := H1
   clear H1
   have H' := Ym H
   clear H
   have hcz28_0 : w5.cell? ⟨gb132, 0, none⟩ = some (.int .i64 q0) := (Yh BK132.out 0).trans rfl
   have hcz28_1 : w5.cell? ⟨gb132, 1, none⟩ = some (.int .i64 q1) := (Yh BK132.out 1).trans rfl
   have hcz28_2 : w5.cell? ⟨gb132, 2, none⟩ = some (.int .i64 q2) := (Yh BK132.out 2).trans rfl
   have hcz28_3 : w5.cell? ⟨gb132, 3, none⟩ = some (.int .i64 q3) := (Yh BK132.out 3).trans rfl
   have hcz28_4 : w5.cell? ⟨gb132, 4, none⟩ = some (.int .i64 q4) := (Yh BK132.out 4).trans rfl
   have hcz28_5 : w5.cell? ⟨gb132, 5, none⟩ = some (.int .i64 q5) := (Yh BK132.out 5).trans rfl
   have hcz28_6 : w5.cell? ⟨gb132, 6, none⟩ = some (.int .i64 q6) := (Yh BK132.out 6).trans rfl
   have hcz28_7 : w5.cell? ⟨gb132, 7, none⟩ = some (.int .i64 q7) := (Yh BK132.out 7).trans rfl
   have hfz28_0 := Yi BK132.out 0
   have hfz28_1 := Yi BK132.out 1
   have hfz28_2 := Yi BK132.out 2
   have hfz28_3 := Yi BK132.out 3
   have hfz28_4 := Yi BK132.out 4
   have hfz28_5 := Yi BK132.out 5
   have hfz28_6 := Yi BK132.out 6
   have hfz28_7 := Yi BK132.out 7
   go_wp2_with (first | ((with_reducible refine gate_callee (f := 16) rfl ?_); refine goesL_ (some 13) rfl rfl Try.func16 (by kernel_rfl) rfl #[.agg #[.int .i64 q0, .int .i64 q1, .int .i64 q2, .int .i64 q3, .int .i64 q4, .int .i64 q5, .int .i64 q6, .int .i64 q7]] rfl (by (try simp only [List.map_toArray, List.map_cons, List.map_nil]); first | done | rfl | (simp only [List.length_drop, List.length_take]; rfl)) ?_; (with_reducible refine (detmap_Fit.calls q0 q1 q2 q3 q4 q5 q6 q7 false _ A6.out).mono ?_); rintro e w29 ⟨rfl, hb⟩; refine ⟨_, rfl, ?_⟩; have n0_ := Ym (Yl (g := gb132) (o := .cells #[.int .i64 q0, .int .i64 q1, .int .i64 q2, .int .i64 q3, .int .i64 q4, .int .i64 q5, .int .i64 q6, .int .i64 q7] 25 (0, 0)) (by (with_reducible repeat (first | refine Yd ?_ _ | refine Yf ?_ | refine Ye ?_ _)); exact BK132.out) hb); have n1_ := Ym (Yj (by repeat (first | (with_reducible first | exact HB.out | apply Yc | apply Ya | apply Yb | refine Yg ?_ GE132.out) | exact HB.out)) hb); clear BK132; clear HB; have BK132 := n0_; have HB := n1_; clear n0_ n1_; (try clear hb); (try clear hb2); (try clear hk); (try clear hi)))
   go_meet
   case rel => exact ⟨_, (true), (by first | rfl | (simp; done) | (simp [*]; done)), H', ⟨by first | omega | exact Nat.le_refl _⟩, ⟨by (with_reducible repeat (first | refine Yd ?_ _ | refine Yf ?_ | refine Ye ?_ _)); exact BK132.out⟩, ⟨by repeat (first | (with_reducible first | exact HB.out | apply Yc | apply Ya | apply Yb | refine Yg ?_ GE132.out) | exact HB.out)⟩⟩
 case rest =>
  clear HC4
  try clear c1
  try clear p2
  try clear c7
  try clear c8
  try clear c8b0
  try clear c12
  try clear c12b0
  try clear c16
  try clear c17
  try clear c17b0
  try clear hcz13_0
  try clear hcz13_1
  try clear hcz13_2
  try clear hcz13_3
  try clear hcz13_4
  try clear hcz13_5
  try clear hcz13_6
  try clear hcz13_7
  try clear hcz15_0
  try clear hcz15_1
  try clear hcz15_2
  try clear hcz15_3
  try clear hcz15_4
  try clear hcz15_5
  try clear hcz15_6
  try clear hcz15_7
  try clear hcz18_0
  try clear hcz18_1
  try clear hcz18_2
  try clear hcz18_3
  try clear hcz18_4
  try clear hcz18_5
  try clear hcz18_6
  try clear hcz18_7
  try clear hcz20_0
  try clear hcz20_1
  try clear hcz20_2
  try clear hcz20_3
  try clear hcz20_4
  try clear hcz20_5
  try clear hcz20_6
  try clear hcz20_7
  try clear hcz22_0
  try clear hcz22_1
  try clear hcz22_2
  try clear hcz22_3
  try clear hcz22_4
  try clear hcz22_5
  try clear hcz22_6
  try clear hcz22_7
  try clear hcz23_0
  try clear hcz23_1
  try clear hcz23_2
  try clear hcz23_3
  try clear hcz23_4
  try clear hcz23_5
  try clear hcz23_6
  try clear hcz23_7
  try clear hcz25_0
  try clear hcz25_1
  try clear hcz25_2
  try clear hcz25_3
  try clear hcz25_4
  try clear hcz25_5
  try clear hcz25_6
  try clear hcz25_7
  try clear hcz27_0
  try clear hcz27_1
  try clear hcz27_2
  try clear hcz27_3
  try clear hcz27_4
  try clear hcz27_5
  try clear hcz27_6
  try clear hcz27_7
  try clear hcz28_0
  try clear hcz28_1
  try clear hcz28_2
  try clear hcz28_3
  try clear hcz28_4
  try clear hcz28_5
  try clear hcz28_6
  try clear hcz28_7
  try clear hcz9_0
  try clear hcz9_1
  try clear hcz9_2
  try clear hcz9_3
  try clear hcz9_4
  try clear hcz9_5
  try clear hcz9_6
  try clear hcz9_7
  try clear hfz13_0
  try clear hfz13_1
  try clear hfz13_2
  try clear hfz13_3
  try clear hfz13_4
  try clear hfz13_5
  try clear hfz13_6
  try clear hfz13_7
  try clear hfz15_0
  try clear hfz15_1
  try clear hfz15_2
  try clear hfz15_3
  try clear hfz15_4
  try clear hfz15_5
  try clear hfz15_6
  try clear hfz15_7
  try clear hfz18_0
  try clear hfz18_1
  try clear hfz18_2
  try clear hfz18_3
  try clear hfz18_4
  try clear hfz18_5
  try clear hfz18_6
  try clear hfz18_7
  try clear hfz20_0
  try clear hfz20_1
  try clear hfz20_2
  try clear hfz20_3
  try clear hfz20_4
  try clear hfz20_5
  try clear hfz20_6
  try clear hfz20_7
  try clear hfz22_0
  try clear hfz22_1
  try clear hfz22_2
  try clear hfz22_3
  try clear hfz22_4
  try clear hfz22_5
  try clear hfz22_6
  try clear hfz22_7
  try clear hfz23_0
  try clear hfz23_1
  try clear hfz23_2
  try clear hfz23_3
  try clear hfz23_4
  try clear hfz23_5
  try clear hfz23_6
  try clear hfz23_7
  try clear hfz25_0
  try clear hfz25_1
  try clear hfz25_2
  try clear hfz25_3
  try clear hfz25_4
  try clear hfz25_5
  try clear hfz25_6
  try clear hfz25_7
  try clear hfz27_0
  try clear hfz27_1
  try clear hfz27_2
  try clear hfz27_3
  try clear hfz27_4
  try clear hfz27_5
  try clear hfz27_6
  try clear hfz27_7
  try clear hfz28_0
  try clear hfz28_1
  try clear hfz28_2
  try clear hfz28_3
  try clear hfz28_4
  try clear hfz28_5
  try clear hfz28_6
  try clear hfz28_7
  try clear hfz9_0
  try clear hfz9_1
  try clear hfz9_2
  try clear hfz9_3
  try clear hfz9_4
  try clear hfz9_5
  try clear hfz9_6
  try clear hfz9_7
  obtain ⟨kq, x37_3, rfl, HA, HJ3, BK132, HB⟩ := hcut
  cases kq with
  | zero => exact absurd HA.out (by simp [detmap_Who.j0])
  | succ kj3 =>
   have H := HA.out
   clear HA
   simp only [detmap_Who.j0] at H
   by_cases c30 : x37_3 = true
   ·subst c30
    have H1 : (some (-1)) = some r := by rw [if_pos rfl] at H; exact H
    clear H
    have H := H1
    clear H1
    obtain rfl := Option.some.inj H
    go_wp2
    go_ret
    exact ⟨by first | rfl | (simp [errW_none, errW_some] <;> rfl) | (simp [*, errW_none, errW_some] <;> rfl), by repeat (first | (with_reducible first | exact HB.out | apply Yc | apply Ya | apply Yb | refine Yg ?_ GE132.out) | exact HB.out)⟩
   ·replace c30 := Bool.eq_false_iff.mpr c30
    subst c30
    have H1 : ((detmap_Ratio.f q0 q1 q2 q3 q4 q5 q6 q7).bind fun t135 => ((detmap_Each.f q0 q1 q2 q3 q4 q5 q6 q7).bind fun t136 => (if t136 = 0 then (none) else ((detmap_Base.f kj3 q0 q1 q2 q3 q4 q5 q6 q7 (wrap64 ((wrap64 (a1 * t135)) + (wrap64 (Int.tdiv (wrap64 (a2 - q4)) t136))))).bind fun bt137 => (if (wrap64 (Int.tdiv (wrap64 (a2 - q4)) t136)) ≥ t135 then (detmap_Who.j1 kj3 (wrap64 ((wrap64 (a1 * t135)) + (wrap64 (Int.tdiv (wrap64 (a2 - q4)) t136)))) true) else (if bt137.2.2.2 = true then (detmap_Who.j1 kj3 (wrap64 ((wrap64 (a1 * t135)) + (wrap64 (Int.tdiv (wrap64 (a2 - q4)) t136)))) (bt137.1 == 0 && (bt137.2.1 == 0 && (bt137.2.2.1 == 0)))) else (detmap_Who.j1 kj3 (wrap64 ((wrap64 (a1 * t135)) + (wrap64 (Int.tdiv (wrap64 (a2 - q4)) t136)))) true))))))) = some r := by rw [if_neg (show ¬ (false = true) by decide)] at H; exact H
    clear H
    have H := H1
    clear H1
    replace H := Option.bind_eq_some_iff.mp H
    obtain ⟨t135, A310, H⟩ := H
    replace H : ((detmap_Each.f q0 q1 q2 q3 q4 q5 q6 q7).bind fun t136 => (if t136 = 0 then (none) else ((detmap_Base.f kj3 q0 q1 q2 q3 q4 q5 q6 q7 (wrap64 ((wrap64 (a1 * t135)) + (wrap64 (Int.tdiv (wrap64 (a2 - q4)) t136))))).bind fun bt137 => (if (wrap64 (Int.tdiv (wrap64 (a2 - q4)) t136)) ≥ t135 then (detmap_Who.j1 kj3 (wrap64 ((wrap64 (a1 * t135)) + (wrap64 (Int.tdiv (wrap64 (a2 - q4)) t136)))) true) else (if bt137.2.2.2 = true then (detmap_Who.j1 kj3 (wrap64 ((wrap64 (a1 * t135)) + (wrap64 (Int.tdiv (wrap64 (a2 - q4)) t136)))) (bt137.1 == 0 && (bt137.2.1 == 0 && (bt137.2.2.1 == 0)))) else (detmap_Who.j1 kj3 (wrap64 ((wrap64 (a1 * t135)) + (wrap64 (Int.tdiv (wrap64 (a2 - q4)) t136)))) true)))))) = some r := H
    have A31 := Ym A310
    clear A310
    replace H := Option.bind_eq_some_iff.mp H
    obtain ⟨t136, A320, H⟩ := H
    replace H : (if t136 = 0 then (none) else ((detmap_Base.f kj3 q0 q1 q2 q3 q4 q5 q6 q7 (wrap64 ((wrap64 (a1 * t135)) + (wrap64 (Int.tdiv (wrap64 (a2 - q4)) t136))))).bind fun bt137 => (if (wrap64 (Int.tdiv (wrap64 (a2 - q4)) t136)) ≥ t135 then (detmap_Who.j1 kj3 (wrap64 ((wrap64 (a1 * t135)) + (wrap64 (Int.tdiv (wrap64 (a2 - q4)) t136)))) true) else (if bt137.2.2.2 = true then (detmap_Who.j1 kj3 (wrap64 ((wrap64 (a1 * t135)) + (wrap64 (Int.tdiv (wrap64 (a2 - q4)) t136)))) (bt137.1 == 0 && (bt137.2.1 == 0 && (bt137.2.2.1 == 0)))) else (detmap_Who.j1 kj3 (wrap64 ((wrap64 (a1 * t135)) + (wrap64 (Int.tdiv (wrap64 (a2 - q4)) t136)))) true))))) = some r := H
    have A32 := Ym A320
    clear A320
    by_cases c33 : t136 = 0
    ·rw [if_pos c33] at H
     exact absurd H (by simp)
    ·rw [if_neg c33] at H
     have c33b0 : (t136 == 0) = false := beq_eq_false_iff_ne.mpr c33
     have c33b1 : (t136 != 0) = true := bne_iff_ne.mpr c33
     replace H := Option.bind_eq_some_iff.mp H
     obtain ⟨⟨t137, t138, t139, t140⟩, A340, H⟩ := H
     replace H : (if (wrap64 (Int.tdiv (wrap64 (a2 - q4)) t136)) ≥ t135 then (detmap_Who.j1 kj3 (wrap64 ((wrap64 (a1 * t135)) + (wrap64 (Int.tdiv (wrap64 (a2 - q4)) t136)))) true) else (if t140 = true then (detmap_Who.j1 kj3 (wrap64 ((wrap64 (a1 * t135)) + (wrap64 (Int.tdiv (wrap64 (a2 - q4)) t136)))) (t137 == 0 && (t138 == 0 && (t139 == 0)))) else (detmap_Who.j1 kj3 (wrap64 ((wrap64 (a1 * t135)) + (wrap64 (Int.tdiv (wrap64 (a2 - q4)) t136)))) true))) = some r := H
     have A34 := Ym A340
     clear A340
     have HC35 := Ym H
     clear H
     have hcz36_0 : wc.cell? ⟨gb132, 0, none⟩ = some (.int .i64 q0) := (Yh BK132.out 0).trans rfl
     have hcz36_1 : wc.cell? ⟨gb132, 1, none⟩ = some (.int .i64 q1) := (Yh BK132.out 1).trans rfl
     have hcz36_2 : wc.cell? ⟨gb132, 2, none⟩ = some (.int .i64 q2) := (Yh BK132.out 2).trans rfl
     have hcz36_3 : wc.cell? ⟨gb132, 3, none⟩ = some (.int .i64 q3) := (Yh BK132.out 3).trans rfl
     have hcz36_4 : wc.cell? ⟨gb132, 4, none⟩ = some (.int .i64 q4) := (Yh BK132.out 4).trans rfl
     have hcz36_5 : wc.cell? ⟨gb132, 5, none⟩ = some (.int .i64 q5) := (Yh BK132.out 5).trans rfl
     have hcz36_6 : wc.cell? ⟨gb132, 6, none⟩ = some (.int .i64 q6) := (Yh BK132.out 6).trans rfl
     have hcz36_7 : wc.cell? ⟨gb132, 7, none⟩ = some (.int .i64 q7) := (Yh BK132.out 7).trans rfl
     have hfz36_0 := Yi BK132.out 0
     have hfz36_1 := Yi BK132.out 1
     have hfz36_2 := Yi BK132.out 2
     have hfz36_3 := Yi BK132.out 3
     have hfz36_4 := Yi BK132.out 4
     have hfz36_5 := Yi BK132.out 5
     have hfz36_6 := Yi BK132.out 6
     have hfz36_7 := Yi BK132.out 7
     try go_wp2_with (first | ((with_reducible refine gate_callee (f := 19) rfl ?_); refine goesL_ (some 39) rfl rfl Try.func19 (by kernel_rfl) rfl #[.agg #[.int .i64 q0, .int .i64 q1, .int .i64 q2, .int .i64 q3, .int .i64 q4, .int .i64 q5, .int .i64 q6, .int .i64 q7]] rfl (by (try simp only [List.map_toArray, List.map_cons, List.map_nil]); first | done | rfl | (simp only [List.length_drop, List.length_take]; rfl)) ?_; (with_reducible refine (detmap_Ratio.calls q0 q1 q2 q3 q4 q5 q6 q7 t135 _ A31.out).mono ?_); rintro e w37 ⟨rfl, hb⟩; refine ⟨_, rfl, ?_⟩; have n0_ := Ym (Yl (g := gb132) (o := .cells #[.int .i64 q0, .int .i64 q1, .int .i64 q2, .int .i64 q3, .int .i64 q4, .int .i64 q5, .int .i64 q6, .int .i64 q7] 25 (0, 0)) (by (with_reducible repeat (first | refine Yd ?_ _ | refine Yf ?_ | refine Ye ?_ _)); exact BK132.out) hb); have n1_ := Ym (Yj (by repeat (first | (with_reducible first | exact HB.out | apply Yc | apply Ya | apply Yb | refine Yg ?_ GE132.out) | exact HB.out)) hb); clear BK132; clear HB; have BK132 := n0_; have HB := n1_; clear n0_ n1_; (try clear hb); (try clear hb2); (try clear hk); (try clear hi)))
     have n0_ := Ym (Yf BK132.out)
     have n1_ := Ym (Yb HB.out)
     clear BK132
     clear HB
     have BK132 := n0_
     have HB := n1_
     clear n0_ n1_
     refine start_ (n := 8) (S := fun w' => w'.cell? ⟨gb132, 0, none⟩ = some (.int .i64 q0) ∧ w'.cell? ⟨gb132, 1, none⟩ = some (.int .i64 q1) ∧ w'.cell? ⟨gb132, 2, none⟩ = some (.int .i64 q2) ∧ w'.cell? ⟨gb132, 3, none⟩ = some (.int .i64 q3) ∧ w'.cell? ⟨gb132, 4, none⟩ = some (.int .i64 q4) ∧ w'.cell? ⟨gb132, 5, none⟩ = some (.int .i64 q5) ∧ w'.cell? ⟨gb132, 6, none⟩ = some (.int .i64 q6) ∧ w'.cell? ⟨gb132, 7, none⟩ = some (.int .i64 q7)) (ds := []) #[false, false, false, false, false, false, false, false] (by kernel_rfl) rfl rfl ⟨(Yh BK132.out 0).trans rfl, (Yh BK132.out 1).trans rfl, (Yh BK132.out 2).trans rfl, (Yh BK132.out 3).trans rfl, (Yh BK132.out 4).trans rfl, (Yh BK132.out 5).trans rfl, (Yh BK132.out 6).trans rfl, (Yh BK132.out 7).trans rfl⟩ (fun hHeld => ?_); refine with_tabW detmap_Who.tab4 detmap_Who.bits4 (fun HT_ HW_ => ?_)
     generalize w37.drew = w38 at BK132 HB hHeld ⊢
     refine pure_ (i := 0) (N := some 40) (v := ?_) (a' := ?_) #[true, false, false, false, false, false, false, false] rfl rfl (any_of HT_.out (by kernel_rfl)) (fun _ _ _ h => h) (Or.inl ⟨by rfl, ?_⟩) ?_ ?_
     rotate_left
     ·intro w'
      go_simp
      with_reducible rfl
     rotate_left
     ·simp only [Act.put, Yo, Yp, Yq, i64_w, i32_w]
      rfl
     refine pure_ (i := 1) (N := some 41) (v := ?_) (a' := ?_) #[true, true, false, false, false, false, false, false] rfl rfl (any_of HT_.out (by kernel_rfl)) (fun _ _ _ h => h) (Or.inl ⟨by rfl, ?_⟩) ?_ ?_
     rotate_left
     ·intro w'
      go_simp
      with_reducible rfl
     rotate_left
     ·simp only [Act.put, Yo, Yp, Yq, i64_w, i32_w]
      rfl
     refine take_ (i := 2) (N := some 42) (v := ?_) (a' := ?_) #[true, true, true, false, false, false, false, false] rfl rfl (take_ofW HT_.out HW_.out (by kernel_rfl)) (fun _ _ _ h => h) (Or.inl ⟨by rfl, ?_⟩) hHeld ?_ ?_
     rotate_left
     ·rintro w' ⟨s0, s1, s2, s3, s4, s5, s6, s7⟩
      go_simp
      with_reducible rfl
     rotate_left
     ·simp only [Act.put, Yo, Yp, Yq, i64_w, i32_w]
      rfl
     refine pure_ (i := 3) (N := some 43) (v := ?_) (a' := ?_) #[true, true, true, true, false, false, false, false] rfl rfl (any_of HT_.out (by kernel_rfl)) (fun _ _ _ h => h) (Or.inl ⟨by rfl, ?_⟩) ?_ ?_
     rotate_left
     ·intro w'
      go_simp
      with_reducible rfl
     rotate_left
     ·simp only [Act.put, Yo, Yp, Yq, i64_w, i32_w]
      rfl
     refine take_ (i := 4) (N := some 44) (v := ?_) (a' := ?_) #[true, true, true, true, true, false, false, false] rfl rfl (take_ofW HT_.out HW_.out (by kernel_rfl)) (fun _ _ _ h => h) (Or.inl ⟨by rfl, ?_⟩) hHeld ?_ ?_
     rotate_left
     ·rintro w' ⟨s0, s1, s2, s3, s4, s5, s6, s7⟩
      go_simp
      with_reducible rfl
     rotate_left
     ·simp only [Act.put, Yo, Yp, Yq, i64_w, i32_w]
      rfl
     refine one_ (i := 5) (N := some 45) #[true, true, true, true, true, true, false, false] rfl rfl (one_of HT_.out (by kernel_rfl)) (by decide) (fun K hK => ?_)
     refine goes_ Try.func21 (by kernel_rfl) rfl #[.agg #[.int .i64 q0, .int .i64 q1, .int .i64 q2, .int .i64 q3, .int .i64 q4, .int .i64 q5, .int .i64 q6, .int .i64 q7]] (by rfl) rfl rfl (by (try simp only [List.map_toArray, List.map_cons, List.map_nil]); first | done | rfl | (simp only [List.length_drop, List.length_take]; rfl)) ?_
     with_reducible refine (detmap_Each.calls q0 q1 q2 q3 q4 q5 q6 q7 t136 _ A32.out).mono ?_
     rintro e w39 ⟨rfl, hb⟩
     refine ⟨_, rfl, ?_⟩
     have n0_ := Ym (Yl (g := gb132) (o := .cells #[.int .i64 q0, .int .i64 q1, .int .i64 q2, .int .i64 q3, .int .i64 q4, .int .i64 q5, .int .i64 q6, .int .i64 q7] 25 (0, 0)) (by (with_reducible repeat (first | refine Yd ?_ _ | refine Yf ?_ | refine Ye ?_ _)); exact BK132.out) hb)
     have n1_ := Ym (Yj (by repeat (first | (with_reducible first | exact HB.out | apply Yc | apply Ya | apply Yb | refine Yg ?_ GE132.out) | exact HB.out)) hb)
     clear BK132
     clear HB
     have BK132 := n0_
     have HB := n1_
     clear n0_ n1_
     (try clear hb)
     (try clear hb2)
     (try clear hk)
     (try clear hi)
     refine hK.out _ _ ⟨(Yh BK132.out 0).trans rfl, (Yh BK132.out 1).trans rfl, (Yh BK132.out 2).trans rfl, (Yh BK132.out 3).trans rfl, (Yh BK132.out 4).trans rfl, (Yh BK132.out 5).trans rfl, (Yh BK132.out 6).trans rfl, (Yh BK132.out 7).trans rfl⟩ (fun hHeld => ?_)
     clear hK K
     refine norm_ (a' := ?_) ?_ ?_
     rotate_left
     ·show Act.put _ (some 45) _ = _
      simp only [Act.put, Yo, Yp, Yq, i64_w, i32_w]
      rfl
     refine pure_ (i := 6) (N := some 46) (v := ?_) (a' := ?_) #[true, true, true, true, true, true, true, false] rfl rfl (any_of HT_.out (by kernel_rfl)) (fun _ _ _ h => h) (Or.inl ⟨by rfl, ?_⟩) ?_ ?_
     rotate_left
     ·intro w'
      go_simp
      with_reducible rfl
     rotate_left
     ·simp only [Act.put, Yo, Yp, Yq, i64_w, i32_w]
      rfl
     refine pure_ (i := 7) (N := some 8) (v := ?_) (a' := ?_) #[true, true, true, true, true, true, true, true] rfl rfl (any_of HT_.out (by kernel_rfl)) (fun _ _ _ h => h) (Or.inl ⟨by rfl, ?_⟩) ?_ ?_
     rotate_left
     ·intro w'
      go_simp
      with_reducible rfl
     rotate_left
     ·simp only [Act.put, Yo, Yp, Yq, i64_w, i32_w]
      rfl
     refine done_ (done_of HT_.out (by kernel_rfl)) ?_
     have hcz40_0 : w39.cell? ⟨gb132, 0, none⟩ = some (.int .i64 q0) := (Yh BK132.out 0).trans rfl
     have hcz40_1 : w39.cell? ⟨gb132, 1, none⟩ = some (.int .i64 q1) := (Yh BK132.out 1).trans rfl
     have hcz40_2 : w39.cell? ⟨gb132, 2, none⟩ = some (.int .i64 q2) := (Yh BK132.out 2).trans rfl
     have hcz40_3 : w39.cell? ⟨gb132, 3, none⟩ = some (.int .i64 q3) := (Yh BK132.out 3).trans rfl
     have hcz40_4 : w39.cell? ⟨gb132, 4, none⟩ = some (.int .i64 q4) := (Yh BK132.out 4).trans rfl
     have hcz40_5 : w39.cell? ⟨gb132, 5, none⟩ = some (.int .i64 q5) := (Yh BK132.out 5).trans rfl
     have hcz40_6 : w39.cell? ⟨gb132, 6, none⟩ = some (.int .i64 q6) := (Yh BK132.out 6).trans rfl
     have hcz40_7 : w39.cell? ⟨gb132, 7, none⟩ = some (.int .i64 q7) := (Yh BK132.out 7).trans rfl
     have hfz40_0 := Yi BK132.out 0
     have hfz40_1 := Yi BK132.out 1
     have hfz40_2 := Yi BK132.out 2
     have hfz40_3 := Yi BK132.out 3
     have hfz40_4 := Yi BK132.out 4
     have hfz40_5 := Yi BK132.out 5
     have hfz40_6 := Yi BK132.out 6
     have hfz40_7 := Yi BK132.out 7
     go_upto_region 7 with (first | ((with_reducible refine gate_callee (f := 11) rfl ?_); refine goesL_ (some 55) rfl rfl Try.func11 (by kernel_rfl) rfl #[.agg #[.int .i64 q0, .int .i64 q1, .int .i64 q2, .int .i64 q3, .int .i64 q4, .int .i64 q5, .int .i64 q6, .int .i64 q7], .int .i64 (wrap64 ((wrap64 (a1 * t135)) + (wrap64 (Int.tdiv (wrap64 (a2 - q4)) t136))))] rfl (by (try simp only [List.map_toArray, List.map_cons, List.map_nil]); first | done | rfl | (simp only [List.length_drop, List.length_take]; rfl)) ?_; (with_reducible refine (detmap_Base.calls kj3 q0 q1 q2 q3 q4 q5 q6 q7 (wrap64 ((wrap64 (a1 * t135)) + (wrap64 (Int.tdiv (wrap64 (a2 - q4)) t136)))) t137 t138 t139 t140 _ A34.out).mono ?_); rintro e w41 ⟨rfl, hb⟩; refine ⟨_, rfl, ?_⟩; have n0_ := Ym (Yl (g := gb132) (o := .cells #[.int .i64 q0, .int .i64 q1, .int .i64 q2, .int .i64 q3, .int .i64 q4, .int .i64 q5, .int .i64 q6, .int .i64 q7] 25 (0, 0)) (by (with_reducible repeat (first | refine Yd ?_ _ | refine Yf ?_ | refine Ye ?_ _)); exact BK132.out) hb); have n1_ := Ym (Yj (by repeat (first | (with_reducible first | exact HB.out | apply Yc | apply Ya | apply Yb | refine Yg ?_ GE132.out) | exact HB.out)) hb); clear BK132; clear HB; have BK132 := n0_; have HB := n1_; clear n0_ n1_; (try clear hb); (try clear hb2); (try clear hk); (try clear hi)) | ((with_reducible refine gate_dst (N := 10) rfl ?_); refine box_event ?hg (N := 10) ?hd (cs := #[.int .i64 0, .int .i64 0, .int .i64 0]) (t := 28) ?hr ?_; (case hd => rfl); (case hg => rfl); (case hr => first | (go_simp; done) | (go_simp; rfl)); intro gb141 hg w42 hbox hb; have n0_ := Ym (Yl (g := gb132) (o := .cells #[.int .i64 q0, .int .i64 q1, .int .i64 q2, .int .i64 q3, .int .i64 q4, .int .i64 q5, .int .i64 q6, .int .i64 q7] 25 (0, 0)) (by (with_reducible repeat (first | refine Yd ?_ _ | refine Yf ?_ | refine Ye ?_ _)); exact BK132.out) hb); have n1_ := Ym (Yj (by repeat (first | (with_reducible first | exact HB.out | apply Yc | apply Ya | apply Yb | refine Yg ?_ GE132.out) | exact HB.out)) hb); have n2_ := Ym (hbox); have n3_ := Ym ((by rw [hg]; exact (Yk (by repeat (first | (with_reducible first | exact HB.out | apply Yc | apply Ya | apply Yb | refine Yg ?_ GE132.out) | exact HB.out))) : w.heap.size ≤ gb141)); have n4_ := Ym ((by rw [hg]; exact (Yk (by repeat (first | (with_reducible first | exact HB.out | apply Yc | apply Ya | apply Yb | refine Yg ?_ GE132.out) | exact HB.out))) : w.heap.size ≤ gb141)); have n5_ := Ym ((by rw [hg]; exact Nat.ne_of_lt (blk_lt (g := gb132) (o := .cells #[.int .i64 q0, .int .i64 q1, .int .i64 q2, .int .i64 q3, .int .i64 q4, .int .i64 q5, .int .i64 q6, .int .i64 q7] 25 (0, 0)) (by (with_reducible repeat (first | refine Yd ?_ _ | refine Yf ?_ | refine Ye ?_ _)); exact BK132.out)) : gb132 ≠ gb141)); have n6_ := Ym ((by rw [hg]; exact Nat.ne_of_gt (blk_lt (g := gb132) (o := .cells #[.int .i64 q0, .int .i64 q1, .int .i64 q2, .int .i64 q3, .int .i64 q4, .int .i64 q5, .int .i64 q6, .int .i64 q7] 25 (0, 0)) (by (with_reducible repeat (first | refine Yd ?_ _ | refine Yf ?_ | refine Ye ?_ _)); exact BK132.out)) : gb141 ≠ gb132)); clear BK132; clear HB; have BK132 := n0_; have HB := n1_; have BK141 := n2_; have GW141 := n3_; have GE141 := n4_; have NB132_141 := n5_; have NB141_132 := n6_; clear n0_ n1_ n2_ n3_ n4_ n5_ n6_; clear hb hbox hg; have hnb43 := NB141_132.out; have hnc43 := NB132_141.out; have hcz44_0 : w42.cell? ⟨gb141, 0, none⟩ = some (.int .i64 0) := (Yh BK141.out 0).trans rfl; have hcz44_1 : w42.cell? ⟨gb141, 1, none⟩ = some (.int .i64 0) := (Yh BK141.out 1).trans rfl; have hcz44_2 : w42.cell? ⟨gb141, 2, none⟩ = some (.int .i64 0) := (Yh BK141.out 2).trans rfl; have hfz44_0 := Yi BK141.out 0; have hfz44_1 := Yi BK141.out 1; have hfz44_2 := Yi BK141.out 2))
     (try simp only [Act.put, Yo, Yp, Yq])
     go_cut [69] (fun v69 wc => ∃ (kq : Nat) (x69_34 : Bool), v69 = .bool x69_34 ∧ Aside0 (detmap_Who.j1 kq (wrap64 ((wrap64 (a1 * t135)) + (wrap64 (Int.tdiv (wrap64 (a2 - q4)) t136)))) x69_34 = some r) ∧ Aside0 (kq ≤ kj3) ∧ Aside0 (wc.heap[gb132]? = some (.cells #[.int .i64 q0, .int .i64 q1, .int .i64 q2, .int .i64 q3, .int .i64 q4, .int .i64 q5, .int .i64 q6, .int .i64 q7] 25 (0, 0))) ∧ Aside0 (wc.heap[gb141]? = some (.cells #[.int .i64 t137, .int .i64 t138, .int .i64 t139] 28 (0, 0))) ∧ Aside0 (Below w.heap.size w wc))
     case first =>
      have H := HC35.out
      clear HC35
      by_cases c45 : (wrap64 (Int.tdiv (wrap64 (a2 - q4)) t136)) ≥ t135
      ·rw [if_pos c45] at H
       have c45b0 : decide (t135 ≤ (wrap64 (Int.tdiv (wrap64 (a2 - q4)) t136))) = true := decide_eq_true c45
       clear c45
       (first | rw [c45b0] | (simp only [i64_w, i32_w]; rw [c45b0]) | skip)
       have H' := Ym H
       clear H
       go_wp2
       go_meet
       case rel => exact ⟨_, (true), (by first | rfl | (simp; done) | (simp [*]; done)), H', ⟨by have := HJ3.out; first | omega | exact Nat.le_refl _⟩, ⟨by (with_reducible repeat (first | refine Yd ?_ _ | refine Yf ?_ | refine Ye ?_ _)); refine blk_far ?_ NB132_141.out _; (with_reducible repeat (first | refine Yd ?_ _ | refine Yf ?_ | refine Ye ?_ _)); refine blk_far ?_ NB132_141.out _; (with_reducible repeat (first | refine Yd ?_ _ | refine Yf ?_ | refine Ye ?_ _)); refine blk_far ?_ NB132_141.out _; (with_reducible repeat (first | refine Yd ?_ _ | refine Yf ?_ | refine Ye ?_ _)); exact BK132.out⟩, ⟨by (with_reducible repeat (first | refine Yd ?_ _ | refine Yf ?_ | refine Ye ?_ _)); refine blk_put (cs := #[.int .i64 t137, .int .i64 t138, .int .i64 0]) ?_ 2 _ rfl; (with_reducible repeat (first | refine Yd ?_ _ | refine Yf ?_ | refine Ye ?_ _)); refine blk_put (cs := #[.int .i64 t137, .int .i64 0, .int .i64 0]) ?_ 1 _ rfl; (with_reducible repeat (first | refine Yd ?_ _ | refine Yf ?_ | refine Ye ?_ _)); refine blk_put (cs := #[.int .i64 0, .int .i64 0, .int .i64 0]) ?_ 0 _ rfl; (with_reducible repeat (first | refine Yd ?_ _ | refine Yf ?_ | refine Ye ?_ _)); exact BK141.out⟩, ⟨by repeat (first | (with_reducible first | exact HB.out | apply Yc | apply Ya | apply Yb | refine Yg ?_ GE132.out | refine Yg ?_ GE141.out) | exact HB.out)⟩⟩
      ·rw [if_neg c45] at H
       have c45b0 : decide (t135 ≤ (wrap64 (Int.tdiv (wrap64 (a2 - q4)) t136))) = false := decide_eq_false c45
       clear c45
       (first | rw [c45b0] | (simp only [i64_w, i32_w]; rw [c45b0]) | skip)
       by_cases c46 : t140 = true
       ·subst c46
        have H1 : (detmap_Who.j1 kj3 (wrap64 ((wrap64 (a1 * t135)) + (wrap64 (Int.tdiv (wrap64 (a2 - q4)) t136)))) (t137 == 0 && (t138 == 0 && (t139 == 0)))) = some r := by rw [if_pos rfl] at H; exact H
        clear H
        have H := H1
        clear H1
        have H' := Ym H
        clear H
        have hnb47 := NB141_132.out
        have hnc47 := NB132_141.out
        have hcz48_0 : w42.cell? ⟨gb141, 0, none⟩ = some (.int .i64 0) := (Yh BK141.out 0).trans rfl
        have hcz48_1 : w42.cell? ⟨gb141, 1, none⟩ = some (.int .i64 0) := (Yh BK141.out 1).trans rfl
        have hcz48_2 : w42.cell? ⟨gb141, 2, none⟩ = some (.int .i64 0) := (Yh BK141.out 2).trans rfl
        have hfz48_0 := Yi BK141.out 0
        have hfz48_1 := Yi BK141.out 1
        have hfz48_2 := Yi BK141.out 2
        go_wp2
        go_meet
        case rel => exact ⟨_, ((t137 == 0 && (t138 == 0 && (t139 == 0)))), (by first | rfl | (simp; done) | (simp [*]; done)), H', ⟨by have := HJ3.out; first | omega | exact Nat.le_refl _⟩, ⟨by (with_reducible repeat (first | refine Yd ?_ _ | refine Yf ?_ | refine Ye ?_ _)); refine blk_far ?_ NB132_141.out _; (with_reducible repeat (first | refine Yd ?_ _ | refine Yf ?_ | refine Ye ?_ _)); refine blk_far ?_ NB132_141.out _; (with_reducible repeat (first | refine Yd ?_ _ | refine Yf ?_ | refine Ye ?_ _)); refine blk_far ?_ NB132_141.out _; (with_reducible repeat (first | refine Yd ?_ _ | refine Yf ?_ | refine Ye ?_ _)); exact BK132.out⟩, ⟨by (with_reducible repeat (first | refine Yd ?_ _ | refine Yf ?_ | refine Ye ?_ _)); refine blk_put (cs := #[.int .i64 t137, .int .i64 t138, .int .i64 0]) ?_ 2 _ rfl; (with_reducible repeat (first | refine Yd ?_ _ | refine Yf ?_ | refine Ye ?_ _)); refine blk_put (cs := #[.int .i64 t137, .int .i64 0, .int .i64 0]) ?_ 1 _ rfl; (with_reducible repeat (first | refine Yd ?_ _ | refine Yf ?_ | refine Ye ?_ _)); refine blk_put (cs := #[.int .i64 0, .int .i64 0, .int .i64 0]) ?_ 0 _ rfl; (with_reducible repeat (first | refine Yd ?_ _ | refine Yf ?_ | refine Ye ?_ _)); exact BK141.out⟩, ⟨by repeat (first | (with_reducible first | exact HB.out | apply Yc | apply Ya | apply Yb | refine Yg ?_ GE132.out | refine Yg ?_ GE141.out) | exact HB.out)⟩⟩
       ·replace c46 := Bool.eq_false_iff.mpr c46
        subst c46
        have H1 : (detmap_Who.j1 kj3 (wrap64 ((wrap64 (a1 * t135)) + (wrap64 (Int.tdiv (wrap64 (a2 - q4)) t136)))) true) = some r := by rw [if_neg (show ¬ (false = true) by decide)] at H; exact H
        clear H
        have H := H1
        clear H1
        have H' := Ym H
        clear H
        go_wp2
        go_meet
        case rel => exact ⟨_, (true), (by first | rfl | (simp; done) | (simp [*]; done)), H', ⟨by have := HJ3.out; first | omega | exact Nat.le_refl _⟩, ⟨by (with_reducible repeat (first | refine Yd ?_ _ | refine Yf ?_ | refine Ye ?_ _)); refine blk_far ?_ NB132_141.out _; (with_reducible repeat (first | refine Yd ?_ _ | refine Yf ?_ | refine Ye ?_ _)); refine blk_far ?_ NB132_141.out _; (with_reducible repeat (first | refine Yd ?_ _ | refine Yf ?_ | refine Ye ?_ _)); refine blk_far ?_ NB132_141.out _; (with_reducible repeat (first | refine Yd ?_ _ | refine Yf ?_ | refine Ye ?_ _)); exact BK132.out⟩, ⟨by (with_reducible repeat (first | refine Yd ?_ _ | refine Yf ?_ | refine Ye ?_ _)); refine blk_put (cs := #[.int .i64 t137, .int .i64 t138, .int .i64 0]) ?_ 2 _ rfl; (with_reducible repeat (first | refine Yd ?_ _ | refine Yf ?_ | refine Ye ?_ _)); refine blk_put (cs := #[.int .i64 t137, .int .i64 0, .int .i64 0]) ?_ 1 _ rfl; (with_reducible repeat (first | refine Yd ?_ _ | refine Yf ?_ | refine Ye ?_ _)); refine blk_put (cs := #[.int .i64 0, .int .i64 0, .int .i64 0]) ?_ 0 _ rfl; (with_reducible repeat (first | refine Yd ?_ _ | refine Yf ?_ | refine Ye ?_ _)); exact BK141.out⟩, ⟨by repeat (first | (with_reducible first | exact HB.out | apply Yc | apply Ya | apply Yb | refine Yg ?_ GE132.out | refine Yg ?_ GE141.out) | exact HB.out)⟩⟩
     case rest =>
      clear HC35
      try clear c1
      try clear c2
      try clear p2
      try clear c3
      try clear c4
      try clear p6
      try clear c7
      try clear c8
      try clear c8b0
      try clear c11
      try clear c12
      try clear c12b0
      try clear c16
      try clear c17
      try clear c17b0
      try clear c19
      try clear c21
      try clear c30
      try clear c33
      try clear c33b0
      try clear c33b1
      try clear c43
      try clear c45
      try clear c45b0
      try clear c46
      try clear c47
      try clear hcz13_0
      try clear hcz13_1
      try clear hcz13_2
      try clear hcz13_3
      try clear hcz13_4
      try clear hcz13_5
      try clear hcz13_6
      try clear hcz13_7
      try clear hcz15_0
      try clear hcz15_1
      try clear hcz15_2
      try clear hcz15_3
      try clear hcz15_4
      try clear hcz15_5
      try clear hcz15_6
      try clear hcz15_7
      try clear hcz18_0
      try clear hcz18_1
      try clear hcz18_2
      try clear hcz18_3
      try clear hcz18_4
      try clear hcz18_5
      try clear hcz18_6
      try clear hcz18_7
      try clear hcz20_0
      try clear hcz20_1
      try clear hcz20_2
      try clear hcz20_3
      try clear hcz20_4
      try clear hcz20_5
      try clear hcz20_6
      try clear hcz20_7
      try clear hcz22_0
      try clear hcz22_1
      try clear hcz22_2
      try clear hcz22_3
      try clear hcz22_4
      try clear hcz22_5
      try clear hcz22_6
      try clear hcz22_7
      try clear hcz23_0
      try clear hcz23_1
      try clear hcz23_2
      try clear hcz23_3
      try clear hcz23_4
      try clear hcz23_5
      try clear hcz23_6
      try clear hcz23_7
      try clear hcz25_0
      try clear hcz25_1
      try clear hcz25_2
      try clear hcz25_3
      try clear hcz25_4
      try clear hcz25_5
      try clear hcz25_6
      try clear hcz25_7
      try clear hcz27_0
      try clear hcz27_1
      try clear hcz27_2
      try clear hcz27_3
      try clear hcz27_4
      try clear hcz27_5
      try clear hcz27_6
      try clear hcz27_7
      try clear hcz28_0
      try clear hcz28_1
      try clear hcz28_2
      try clear hcz28_3
      try clear hcz28_4
      try clear hcz28_5
      try clear hcz28_6
      try clear hcz28_7
      try clear hcz36_0
      try clear hcz36_1
      try clear hcz36_2
      try clear hcz36_3
      try clear hcz36_4
      try clear hcz36_5
      try clear hcz36_6
      try clear hcz36_7
      try clear hcz40_0
      try clear hcz40_1
      try clear hcz40_2
      try clear hcz40_3
      try clear hcz40_4
      try clear hcz40_5
      try clear hcz40_6
      try clear hcz40_7
      try clear hcz44_0
      try clear hcz44_1
      try clear hcz44_2
      try clear hcz48_0
      try clear hcz48_1
      try clear hcz48_2
      try clear hcz9_0
      try clear hcz9_1
      try clear hcz9_2
      try clear hcz9_3
      try clear hcz9_4
      try clear hcz9_5
      try clear hcz9_6
      try clear hcz9_7
      try clear hfz13_0
      try clear hfz13_1
      try clear hfz13_2
      try clear hfz13_3
      try clear hfz13_4
      try clear hfz13_5
      try clear hfz13_6
      try clear hfz13_7
      try clear hfz15_0
      try clear hfz15_1
      try clear hfz15_2
      try clear hfz15_3
      try clear hfz15_4
      try clear hfz15_5
      try clear hfz15_6
      try clear hfz15_7
      try clear hfz18_0
      try clear hfz18_1
      try clear hfz18_2
      try clear hfz18_3
      try clear hfz18_4
      try clear hfz18_5
      try clear hfz18_6
      try clear hfz18_7
      try clear hfz20_0
      try clear hfz20_1
      try clear hfz20_2
      try clear hfz20_3
      try clear hfz20_4
      try clear hfz20_5
      try clear hfz20_6
      try clear hfz20_7
      try clear hfz22_0
      try clear hfz22_1
      try clear hfz22_2
      try clear hfz22_3
      try clear hfz22_4
      try clear hfz22_5
      try clear hfz22_6
      try clear hfz22_7
      try clear hfz23_0
      try clear hfz23_1
      try clear hfz23_2
      try clear hfz23_3
      try clear hfz23_4
      try clear hfz23_5
      try clear hfz23_6
      try clear hfz23_7
      try clear hfz25_0
      try clear hfz25_1
      try clear hfz25_2
      try clear hfz25_3
      try clear hfz25_4
      try clear hfz25_5
      try clear hfz25_6
      try clear hfz25_7
      try clear hfz27_0
      try clear hfz27_1
      try clear hfz27_2
      try clear hfz27_3
      try clear hfz27_4
      try clear hfz27_5
      try clear hfz27_6
      try clear hfz27_7
      try clear hfz28_0
      try clear hfz28_1
      try clear hfz28_2
      try clear hfz28_3
      try clear hfz28_4
      try clear hfz28_5
      try clear hfz28_6
      try clear hfz28_7
      try clear hfz36_0
      try clear hfz36_1
      try clear hfz36_2
      try clear hfz36_3
      try clear hfz36_4
      try clear hfz36_5
      try clear hfz36_6
      try clear hfz36_7
      try clear hfz40_0
      try clear hfz40_1
      try clear hfz40_2
      try clear hfz40_3
      try clear hfz40_4
      try clear hfz40_5
      try clear hfz40_6
      try clear hfz40_7
      try clear hfz44_0
      try clear hfz44_1
      try clear hfz44_2
      try clear hfz48_0
      try clear hfz48_1
      try clear hfz48_2
      try clear hfz9_0
      try clear hfz9_1
      try clear hfz9_2
      try clear hfz9_3
      try clear hfz9_4
      try clear hfz9_5
      try clear hfz9_6
      try clear hfz9_7
      try clear p2
      obtain ⟨kq, x69_34, rfl, HA, HJ34, BK132, BK141, HB⟩ := hcut
      cases kq with
      | zero => exact absurd HA.out (by simp [detmap_Who.j1])
      | succ kj34 =>
       have H := HA.out
       clear HA
       simp only [detmap_Who.j1] at H
       by_cases c49 : x69_34 = true
       ·subst c49
        have H1 : (some (-1)) = some r := by rw [if_pos rfl] at H; exact H
        clear H
        have H := H1
        clear H1
        obtain rfl := Option.some.inj H
        go_wp2
        go_ret
        exact ⟨by first | rfl | (simp [errW_none, errW_some] <;> rfl) | (simp [*, errW_none, errW_some] <;> rfl), by repeat (first | (with_reducible first | exact HB.out | apply Yc | apply Ya | apply Yb | refine Yg ?_ GE132.out | refine Yg ?_ GE141.out) | exact HB.out)⟩
       ·replace c49 := Bool.eq_false_iff.mpr c49
        subst c49
        have H1 : (some (wrap64 ((wrap64 (a1 * t135)) + (wrap64 (Int.tdiv (wrap64 (a2 - q4)) t136))))) = some r := by rw [if_neg (show ¬ (false = true) by decide)] at H; exact H
        clear H
        have H := H1
        clear H1
        obtain rfl := Option.some.inj H
        go_wp2
        go_ret
        exact ⟨by first | rfl | (simp [errW_none, errW_some] <;> rfl) | (simp [*, errW_none, errW_some] <;> rfl), by repeat (first | (with_reducible first | exact HB.out | apply Yc | apply Ya | apply Yb | refine Yg ?_ GE132.out | refine Yg ?_ GE141.out) | exact HB.out)⟩

end Go.Proofs.Ytfkdflhijfkjoaa.P
