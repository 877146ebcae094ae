-- Laid by this session's own program (wip/myprint.py): Lean functions for the Go functions that a law reaches, and their contracts. Not trusted: Lean checks it. (slimmed by wip/slim08.py)
import Derived.Test.YtfkdflhijfkjoaaP0
import Derived.Test.YtfkdflhijfkjoaaP2
import Derived.Test.YtfkdflhijfkjoaaP3
import Derived.Test.YtfkdflhijfkjoaaP4
namespace Go.Proofs.Ytfkdflhijfkjoaa.P
open Go.RowKit Go.Proofs.YtfkdflhijfkjoaaW.PrintWords Go.Proofs.YtfkdflhijfkjoaaW.PrintLast Go.Proofs.YtfkdflhijfkjoaaW.PrintMore
attribute [local go_sem] max2_int min2_int max_two min_two max_three min_three max_four min_four   -- for this text's walks alone
set_option linter.unusedVariables false
set_option linter.unusedSimpArgs false

/-! ### detmap_Base: function 11 -/
def detmap_Base.j0 : Nat → Int → Bool → Int → Int → Int → Int → Int → Int → Int → Int → Option (Int × Int × Int × Bool)
 | 0, _, _, _, _, _, _, _, _, _, _ => none
 | k + 1, x1, x22, x121000, x121001, x121002, x121003, x121004, x121005, x121006, x121007 => if x22 = true then (some (0, 0, 0, false)) else ((detmap_Ratio.f x121000 x121001 x121002 x121003 x121004 x121005 x121006 x121007).bind fun t124 => ((detmap_Each.f x121000 x121001 x121002 x121003 x121004 x121005 x121006 x121007).bind fun t125 => (if t124 = 0 then (none) else (some (wrap64 (Int.tdiv x1 t124), wrap64 (x121004 + (wrap64 ((Int.tmod x1 t124) * t125))), wrap64 ((wrap64 ((wrap64 (x121004 + (wrap64 ((Int.tmod x1 t124) * t125)))) + t125)) - 1), true)))))
def detmap_Base.f (k : Nat) (q0 : Int) (q1 : Int) (q2 : Int) (q3 : Int) (q4 : Int) (q5 : Int) (q6 : Int) (q7 : Int) (a1 : Int) : Option (Int × Int × Int × Bool) := (detmap_Fit.f q0 q1 q2 q3 q4 q5 q6 q7).bind fun t122 => (if t122 = true then (if a1 < 0 then (detmap_Base.j0 k a1 true q0 q1 q2 q3 q4 q5 q6 q7) else ((addr_Size.f q0 q1).bind fun t123 => (detmap_Base.j0 k a1 (decide (a1 ≥ t123)) q0 q1 q2 q3 q4 q5 q6 q7))) else (detmap_Base.j0 k a1 true q0 q1 q2 q3 q4 q5 q6 q7))
theorem detmap_Base.mono_l : ∀ k, (∀ y0 y1 y2 y3 y4 y5 y6 y7 y8 y9, LeO (detmap_Base.j0 k y0 y1 y2 y3 y4 y5 y6 y7 y8 y9) (detmap_Base.j0 (k + 1) y0 y1 y2 y3 y4 y5 y6 y7 y8 y9))
 | 0 => fun _ _ _ _ _ _ _ _ _ _ r h => by simp [detmap_Base.j0] at h
 | k + 1 => by
  have ih0 := detmap_Base.mono_l k
  ·intro y0 y1 y2 y3 y4 y5 y6 y7 y8 y9
   unfold detmap_Base.j0
   repeat' first
   | (with_reducible exact ih0 _ _ _ _ _ _ _ _ _ _)
   | (with_reducible exact LeO.refl _)
   | (with_reducible exact LeO.none _)
   | (with_reducible refine LeO.ite ?_ ?_)
   | (with_reducible refine LeO.bind ?_ (fun _ => ?_))
   | exact ih0 _ _ _ _ _ _ _ _ _ _
   | exact LeO.none _
   | refine LeO.ite ?_ ?_
   | refine LeO.bind ?_ (fun _ => ?_)
theorem detmap_Base.mono : ∀ a0 a1 a2 a3 a4 a5 a6 a7 a8 k, LeO (detmap_Base.f k a0 a1 a2 a3 a4 a5 a6 a7 a8) (detmap_Base.f (k + 1) a0 a1 a2 a3 a4 a5 a6 a7 a8) := by
 intro a0 a1 a2 a3 a4 a5 a6 a7 a8 k
 have ih0 := detmap_Base.mono_l k
 unfold detmap_Base.f
 repeat' first
   | (with_reducible exact ih0 _ _ _ _ _ _ _ _ _ _)
   | (with_reducible exact LeO.refl _)
   | (with_reducible exact LeO.none _)
   | (with_reducible refine LeO.ite ?_ ?_)
   | (with_reducible refine LeO.bind ?_ (fun _ => ?_))
   | exact ih0 _ _ _ _ _ _ _ _ _ _
   | exact LeO.none _
   | refine LeO.ite ?_ ?_
   | refine LeO.bind ?_ (fun _ => ?_)
def detmap_Base.T4 : Bool × List (List Nat × List Nat) := (true, [([], []), ([0], [0]), ([], []), ([], []), ([2, 3], [2, 3]), ([], []), ([4, 5], [4, 5]), ([1, 6], [1, 6]), ([7, 0, 1, 2, 3, 4, 5, 6, 7], [7])])
def detmap_Base.B4 : List Nat := [0, 1, 0, 0, 12, 0, 60, 127, 255]
theorem detmap_Base.tab4 : rtab .any (opsOf Try.f11 4) = detmap_Base.T4 := by kernel_rfl
theorem detmap_Base.bits4 : waitsOk detmap_Base.T4.2 detmap_Base.B4 = true := by kernel_rfl
set_option maxHeartbeats 8000000 in
set_option maxRecDepth 100000 in
theorem detmap_Base.calls (k : Nat) (q0 : Int) (q1 : Int) (q2 : Int) (q3 : Int) (q4 : Int) (q5 : Int) (q6 : Int) (q7 : Int) (a1 : Int) (r1 : Int) (r2 : Int) (r3 : Int) (r4 : Bool) (w : World) (h : detmap_Base.f k q0 q1 q2 q3 q4 q5 q6 q7 a1 = some (r1, r2, r3, r4)) :
  Calls Try.prog 11 #[.agg #[.int .i64 q0, .int .i64 q1, .int .i64 q2, .int .i64 q3, .int .i64 q4, .int .i64 q5, .int .i64 q6, .int .i64 q7], .int .i64 a1] w fun e w' => e = .returned (.tuple #[.agg #[.int .i64 r1, .int .i64 r2, .int .i64 r3], .bool r4]) ∧ Below w.heap.size w w' := by
 have hu25 := Try.underlying25
 have hu28 := Try.underlying28
 have hu23 := Try.underlying23
 have HB := Ym (Below.refl w.heap.size w)
 have H : ((detmap_Fit.f q0 q1 q2 q3 q4 q5 q6 q7).bind fun t122 => (if t122 = true then (if a1 < 0 then (detmap_Base.j0 k a1 true q0 q1 q2 q3 q4 q5 q6 q7) else ((addr_Size.f q0 q1).bind fun t123 => (detmap_Base.j0 k a1 (decide (a1 ≥ t123)) q0 q1 q2 q3 q4 q5 q6 q7))) else (detmap_Base.j0 k a1 true q0 q1 q2 q3 q4 q5 q6 q7))) = some (r1, r2, r3, r4) := h
 clear h
 have HC3 := Ym H
 clear H
 go_enter Try.func11, Try.ntmps11
 go_upto_region 1 with (first | ((with_reducible refine gate_dst (N := 2) rfl ?_); refine box_event ?hg (N := 2) ?hd (cs := #[.int .i64 q0, .int .i64 q1, .int .i64 q2, .int .i64 q3, .int .i64 q4, .int .i64 q5, .int .i64 q6, .int .i64 q7]) (t := 25) ?hr ?_; (case hd => rfl); (case hg => rfl); (case hr => first | (go_simp; done) | (go_simp; rfl)); intro gb120 hg w4 hbox hb; have n0_ := Ym (Yj (by repeat (first | (with_reducible first | exact HB.out | apply Yc | apply Ya | apply Yb) | exact HB.out)) hb); have n1_ := Ym (hbox); have n2_ := Ym ((by rw [hg]; exact (Yk (by repeat (first | (with_reducible first | exact HB.out | apply Yc | apply Ya | apply Yb) | exact HB.out))) : w.heap.size ≤ gb120)); have n3_ := Ym ((by rw [hg]; exact (Yk (by repeat (first | (with_reducible first | exact HB.out | apply Yc | apply Ya | apply Yb) | exact HB.out))) : w.heap.size ≤ gb120)); clear HB; have HB := n0_; have BK120 := n1_; have GW120 := n2_; have GE120 := n3_; clear n0_ n1_ n2_ n3_; clear hb hbox hg) | ((with_reducible refine gate_dst (N := 4) rfl ?_); refine box_event ?hg (N := 4) ?hd (cs := #[.int .i64 0, .int .i64 0, .int .i64 0]) (t := 28) ?hr ?_; (case hd => rfl); (case hg => rfl); (case hr => first | (go_simp; done) | (go_simp; rfl)); intro gb121 hg w5 hbox hb; have n0_ := Ym (Yl (g := gb120) (o := .cells #[.int .i64 q0, .int .i64 q1, .int .i64 q2, .int .i64 q3, .int .i64 q4, .int .i64 q5, .int .i64 q6, .int .i64 q7] 25 (0, 0)) (by (with_reducible repeat (first | refine Yd ?_ _ | refine Yf ?_ | refine Ye ?_ _)); exact BK120.out) hb); have n1_ := Ym (Yj (by repeat (first | (with_reducible first | exact HB.out | apply Yc | apply Ya | apply Yb | refine Yg ?_ GE120.out) | exact HB.out)) hb); have n2_ := Ym (hbox); have n3_ := Ym ((by rw [hg]; exact (Yk (by repeat (first | (with_reducible first | exact HB.out | apply Yc | apply Ya | apply Yb | refine Yg ?_ GE120.out) | exact HB.out))) : w.heap.size ≤ gb121)); have n4_ := Ym ((by rw [hg]; exact (Yk (by repeat (first | (with_reducible first | exact HB.out | apply Yc | apply Ya | apply Yb | refine Yg ?_ GE120.out) | exact HB.out))) : w.heap.size ≤ gb121)); have n5_ := Ym ((by rw [hg]; exact Nat.ne_of_lt (blk_lt (g := gb120) (o := .cells #[.int .i64 q0, .int .i64 q1, .int .i64 q2, .int .i64 q3, .int .i64 q4, .int .i64 q5, .int .i64 q6, .int .i64 q7] 25 (0, 0)) (by (with_reducible repeat (first | refine Yd ?_ _ | refine Yf ?_ | refine Ye ?_ _)); exact BK120.out)) : gb120 ≠ gb121)); have n6_ := Ym ((by rw [hg]; exact Nat.ne_of_gt (blk_lt (g := gb120) (o := .cells #[.int .i64 q0, .int .i64 q1, .int .i64 q2, .int .i64 q3, .int .i64 q4, .int .i64 q5, .int .i64 q6, .int .i64 q7] 25 (0, 0)) (by (with_reducible repeat (first | refine Yd ?_ _ | refine Yf ?_ | refine Ye ?_ _)); exact BK120.out)) : gb121 ≠ gb120)); clear BK120; clear HB; have BK120 := n0_; have HB := n1_; have BK121 := n2_; have GW121 := n3_; have GE121 := n4_; have NB120_121 := n5_; have NB121_120 := n6_; clear n0_ n1_ n2_ n3_ n4_ n5_ n6_; clear hb hbox hg))
 (try simp only [Act.put, Yo, Yp, Yq])
 go_cut [22] (fun v22 wc => ∃ (kq : Nat) (x22_2 : Bool), v22 = .bool x22_2 ∧ Aside0 (detmap_Base.j0 kq a1 x22_2 q0 q1 q2 q3 q4 q5 q6 q7 = some (r1, r2, r3, r4)) ∧ Aside0 (kq ≤ k) ∧ Aside0 (wc.heap[gb120]? = some (.cells #[.int .i64 q0, .int .i64 q1, .int .i64 q2, .int .i64 q3, .int .i64 q4, .int .i64 q5, .int .i64 q6, .int .i64 q7] 25 (0, 0))) ∧ Aside0 (wc.heap[gb121]? = some (.cells #[.int .i64 0, .int .i64 0, .int .i64 0] 28 (0, 0))) ∧ Aside0 (Below w.heap.size w wc))
 case first =>
  have H := HC3.out
  clear HC3
  replace H := Option.bind_eq_some_iff.mp H
  obtain ⟨t122, A60, H⟩ := H
  replace H : (if t122 = true then (if a1 < 0 then (detmap_Base.j0 k a1 true q0 q1 q2 q3 q4 q5 q6 q7) else ((addr_Size.f q0 q1).bind fun t123 => (detmap_Base.j0 k a1 (decide (a1 ≥ t123)) q0 q1 q2 q3 q4 q5 q6 q7))) else (detmap_Base.j0 k a1 true q0 q1 q2 q3 q4 q5 q6 q7)) = some (r1, r2, r3, r4) := H
  have A6 := Ym A60
  clear A60
  by_cases c7 : t122 = true
  ·subst c7
   have H1 : (if a1 < 0 then (detmap_Base.j0 k a1 true q0 q1 q2 q3 q4 q5 q6 q7) else ((addr_Size.f q0 q1).bind fun t123 => (detmap_Base.j0 k a1 (decide (a1 ≥ t123)) q0 q1 q2 q3 q4 q5 q6 q7))) = some (r1, r2, r3, r4) := by rw [if_pos rfl] at H; exact H
   clear H
   have H := H1
   clear H1
   by_cases c8 : a1 < 0
   ·rw [if_pos c8] at H
    have c8b0 : decide (a1 < 0) = true := decide_eq_true c8
    clear c8
    (first | rw [c8b0] | (simp only [i64_w, i32_w]; rw [c8b0]) | skip)
    have H' := Ym H
    clear H
    have hnb9 := NB120_121.out
    have hnc9 := NB121_120.out
    have hcz10_0 : w5.cell? ⟨gb120, 0, none⟩ = some (.int .i64 q0) := (Yh BK120.out 0).trans rfl
    have hcz10_1 : w5.cell? ⟨gb120, 1, none⟩ = some (.int .i64 q1) := (Yh BK120.out 1).trans rfl
    have hcz10_2 : w5.cell? ⟨gb120, 2, none⟩ = some (.int .i64 q2) := (Yh BK120.out 2).trans rfl
    have hcz10_3 : w5.cell? ⟨gb120, 3, none⟩ = some (.int .i64 q3) := (Yh BK120.out 3).trans rfl
    have hcz10_4 : w5.cell? ⟨gb120, 4, none⟩ = some (.int .i64 q4) := (Yh BK120.out 4).trans rfl
    have hcz10_5 : w5.cell? ⟨gb120, 5, none⟩ = some (.int .i64 q5) := (Yh BK120.out 5).trans rfl
    have hcz10_6 : w5.cell? ⟨gb120, 6, none⟩ = some (.int .i64 q6) := (Yh BK120.out 6).trans rfl
    have hcz10_7 : w5.cell? ⟨gb120, 7, none⟩ = some (.int .i64 q7) := (Yh BK120.out 7).trans rfl
    have hfz10_0 := Yi BK120.out 0
    have hfz10_1 := Yi BK120.out 1
    have hfz10_2 := Yi BK120.out 2
    have hfz10_3 := Yi BK120.out 3
    have hfz10_4 := Yi BK120.out 4
    have hfz10_5 := Yi BK120.out 5
    have hfz10_6 := Yi BK120.out 6
    have hfz10_7 := Yi BK120.out 7
    go_wp2_with (first | ((with_reducible refine gate_callee (f := 16) rfl ?_); refine goesL_ (some 10) rfl rfl Try.func16 (by kernel_rfl) rfl #[.agg #[.int .i64 q0, .int .i64 q1, .int .i64 q2, .int .i64 q3, .int .i64 q4, .int .i64 q5, .int .i64 q6, .int .i64 q7]] rfl (by (try simp only [List.map_toArray, List.map_cons, List.map_nil]); first | done | rfl | (simp only [List.length_drop, List.length_take]; rfl)) ?_; (with_reducible refine (detmap_Fit.calls q0 q1 q2 q3 q4 q5 q6 q7 true _ A6.out).mono ?_); rintro e w11 ⟨rfl, hb⟩; refine ⟨_, rfl, ?_⟩; have n0_ := Ym (Yl (g := gb120) (o := .cells #[.int .i64 q0, .int .i64 q1, .int .i64 q2, .int .i64 q3, .int .i64 q4, .int .i64 q5, .int .i64 q6, .int .i64 q7] 25 (0, 0)) (by (with_reducible repeat (first | refine Yd ?_ _ | refine Yf ?_ | refine Ye ?_ _)); exact BK120.out) hb); have n1_ := Ym (Yl (g := gb121) (o := .cells #[.int .i64 0, .int .i64 0, .int .i64 0] 28 (0, 0)) (by (with_reducible repeat (first | refine Yd ?_ _ | refine Yf ?_ | refine Ye ?_ _)); exact BK121.out) hb); have n2_ := Ym (Yj (by repeat (first | (with_reducible first | exact HB.out | apply Yc | apply Ya | apply Yb | refine Yg ?_ GE120.out | refine Yg ?_ GE121.out) | exact HB.out)) hb); clear BK120; clear BK121; clear HB; have BK120 := n0_; have BK121 := n1_; have HB := n2_; clear n0_ n1_ n2_; (try clear hb); (try clear hb2); (try clear hk); (try clear hi)))
    go_meet
    case rel => exact ⟨_, (true), (by first | rfl | (simp; done) | (simp [*]; done)), H', ⟨by first | omega | exact Nat.le_refl _⟩, ⟨by (with_reducible repeat (first | refine Yd ?_ _ | refine Yf ?_ | refine Ye ?_ _)); exact BK120.out⟩, ⟨by (with_reducible repeat (first | refine Yd ?_ _ | refine Yf ?_ | refine Ye ?_ _)); exact BK121.out⟩, ⟨by repeat (first | (with_reducible first | exact HB.out | apply Yc | apply Ya | apply Yb | refine Yg ?_ GE120.out | refine Yg ?_ GE121.out) | exact HB.out)⟩⟩
   ·rw [if_neg c8] at H
    have c8b0 : decide (a1 < 0) = false := decide_eq_false c8
    clear c8
    (first | rw [c8b0] | (simp only [i64_w, i32_w]; rw [c8b0]) | skip)
    replace H := Option.bind_eq_some_iff.mp H
    obtain ⟨t123, A120, H⟩ := H
    replace H : (detmap_Base.j0 k a1 (decide (a1 ≥ t123)) q0 q1 q2 q3 q4 q5 q6 q7) = some (r1, r2, r3, r4) := H
    have A12 := Ym A120
    clear A120
    have H' := Ym H
    clear H
    have hnb13 := NB120_121.out
    have hnc13 := NB121_120.out
    have hcz14_0 : w5.cell? ⟨gb120, 0, none⟩ = some (.int .i64 q0) := (Yh BK120.out 0).trans rfl
    have hcz14_1 : w5.cell? ⟨gb120, 1, none⟩ = some (.int .i64 q1) := (Yh BK120.out 1).trans rfl
    have hcz14_2 : w5.cell? ⟨gb120, 2, none⟩ = some (.int .i64 q2) := (Yh BK120.out 2).trans rfl
    have hcz14_3 : w5.cell? ⟨gb120, 3, none⟩ = some (.int .i64 q3) := (Yh BK120.out 3).trans rfl
    have hcz14_4 : w5.cell? ⟨gb120, 4, none⟩ = some (.int .i64 q4) := (Yh BK120.out 4).trans rfl
    have hcz14_5 : w5.cell? ⟨gb120, 5, none⟩ = some (.int .i64 q5) := (Yh BK120.out 5).trans rfl
    have hcz14_6 : w5.cell? ⟨gb120, 6, none⟩ = some (.int .i64 q6) := (Yh BK120.out 6).trans rfl
    have hcz14_7 : w5.cell? ⟨gb120, 7, none⟩ = some (.int .i64 q7) := (Yh BK120.out 7).trans rfl
    have hfz14_0 := Yi BK120.out 0
    have hfz14_1 := Yi BK120.out 1
    have hfz14_2 := Yi BK120.out 2
    have hfz14_3 := Yi BK120.out 3
    have hfz14_4 := Yi BK120.out 4
    have hfz14_5 := Yi BK120.out 5
    have hfz14_6 := Yi BK120.out 6
    have hfz14_7 := Yi BK120.out 7
    go_wp2_with (first | ((with_reducible refine gate_callee (f := 16) rfl ?_); refine goesL_ (some 10) rfl rfl Try.func16 (by kernel_rfl) rfl #[.agg #[.int .i64 q0, .int .i64 q1, .int .i64 q2, .int .i64 q3, .int .i64 q4, .int .i64 q5, .int .i64 q6, .int .i64 q7]] rfl (by (try simp only [List.map_toArray, List.map_cons, List.map_nil]); first | done | rfl | (simp only [List.length_drop, List.length_take]; rfl)) ?_; (with_reducible refine (detmap_Fit.calls q0 q1 q2 q3 q4 q5 q6 q7 true _ A6.out).mono ?_); rintro e w15 ⟨rfl, hb⟩; refine ⟨_, rfl, ?_⟩; have n0_ := Ym (Yl (g := gb120) (o := .cells #[.int .i64 q0, .int .i64 q1, .int .i64 q2, .int .i64 q3, .int .i64 q4, .int .i64 q5, .int .i64 q6, .int .i64 q7] 25 (0, 0)) (by (with_reducible repeat (first | refine Yd ?_ _ | refine Yf ?_ | refine Ye ?_ _)); exact BK120.out) hb); have n1_ := Ym (Yl (g := gb121) (o := .cells #[.int .i64 0, .int .i64 0, .int .i64 0] 28 (0, 0)) (by (with_reducible repeat (first | refine Yd ?_ _ | refine Yf ?_ | refine Ye ?_ _)); exact BK121.out) hb); have n2_ := Ym (Yj (by repeat (first | (with_reducible first | exact HB.out | apply Yc | apply Ya | apply Yb | refine Yg ?_ GE120.out | refine Yg ?_ GE121.out) | exact HB.out)) hb); clear BK120; clear BK121; clear HB; have BK120 := n0_; have BK121 := n1_; have HB := n2_; clear n0_ n1_ n2_; (try clear hb); (try clear hb2); (try clear hk); (try clear hi); have hcz16_0 : w15.cell? ⟨gb120, 0, none⟩ = some (.int .i64 q0) := (Yh BK120.out 0).trans rfl; have hcz16_1 : w15.cell? ⟨gb120, 1, none⟩ = some (.int .i64 q1) := (Yh BK120.out 1).trans rfl; have hcz16_2 : w15.cell? ⟨gb120, 2, none⟩ = some (.int .i64 q2) := (Yh BK120.out 2).trans rfl; have hcz16_3 : w15.cell? ⟨gb120, 3, none⟩ = some (.int .i64 q3) := (Yh BK120.out 3).trans rfl; have hcz16_4 : w15.cell? ⟨gb120, 4, none⟩ = some (.int .i64 q4) := (Yh BK120.out 4).trans rfl; have hcz16_5 : w15.cell? ⟨gb120, 5, none⟩ = some (.int .i64 q5) := (Yh BK120.out 5).trans rfl; have hcz16_6 : w15.cell? ⟨gb120, 6, none⟩ = some (.int .i64 q6) := (Yh BK120.out 6).trans rfl; have hcz16_7 : w15.cell? ⟨gb120, 7, none⟩ = some (.int .i64 q7) := (Yh BK120.out 7).trans rfl; have hfz16_0 := Yi BK120.out 0; have hfz16_1 := Yi BK120.out 1; have hfz16_2 := Yi BK120.out 2; have hfz16_3 := Yi BK120.out 3; have hfz16_4 := Yi BK120.out 4; have hfz16_5 := Yi BK120.out 5; have hfz16_6 := Yi BK120.out 6; have hfz16_7 := Yi BK120.out 7) | (go_at_call 27; (with_reducible refine (addr_Size.calls q0 q1 t123 _ A12.out).mono ?_); rintro e w17 ⟨rfl, hb⟩; have n0_ := Ym (Yl (g := gb120) (o := .cells #[.int .i64 q0, .int .i64 q1, .int .i64 q2, .int .i64 q3, .int .i64 q4, .int .i64 q5, .int .i64 q6, .int .i64 q7] 25 (0, 0)) (by (with_reducible repeat (first | refine Yd ?_ _ | refine Yf ?_ | refine Ye ?_ _)); exact BK120.out) hb); have n1_ := Ym (Yl (g := gb121) (o := .cells #[.int .i64 0, .int .i64 0, .int .i64 0] 28 (0, 0)) (by (with_reducible repeat (first | refine Yd ?_ _ | refine Yf ?_ | refine Ye ?_ _)); exact BK121.out) hb); have n2_ := Ym (Yj (by repeat (first | (with_reducible first | exact HB.out | apply Yc | apply Ya | apply Yb | refine Yg ?_ GE120.out | refine Yg ?_ GE121.out) | exact HB.out)) hb); clear BK120; clear BK121; clear HB; have BK120 := n0_; have BK121 := n1_; have HB := n2_; clear n0_ n1_ n2_; (try clear hb); (try clear hb2); (try clear hk); (try clear hi)))
    go_meet
    case rel => exact ⟨_, (decide (a1 ≥ t123)), (by first | rfl | (simp; done) | (simp [*]; done)), H', ⟨by first | omega | exact Nat.le_refl _⟩, ⟨by (with_reducible repeat (first | refine Yd ?_ _ | refine Yf ?_ | refine Ye ?_ _)); exact BK120.out⟩, ⟨by (with_reducible repeat (first | refine Yd ?_ _ | refine Yf ?_ | refine Ye ?_ _)); exact BK121.out⟩, ⟨by repeat (first | (with_reducible first | exact HB.out | apply Yc | apply Ya | apply Yb | refine Yg ?_ GE120.out | refine Yg ?_ GE121.out) | exact HB.out)⟩⟩
  ·replace c7 := Bool.eq_false_iff.mpr c7
   subst c7
   have H1 : (detmap_Base.j0 k a1 true q0 q1 q2 q3 q4 q5 q6 q7) = some (r1, r2, r3, r4) := by rw [if_neg (show ¬ (false = true) by decide)] at H; exact H
   clear H
   have H := H1
   clear H1
   have H' := Ym H
   clear H
   have hnb18 := NB120_121.out
   have hnc18 := NB121_120.out
   have hcz19_0 : w5.cell? ⟨gb120, 0, none⟩ = some (.int .i64 q0) := (Yh BK120.out 0).trans rfl
   have hcz19_1 : w5.cell? ⟨gb120, 1, none⟩ = some (.int .i64 q1) := (Yh BK120.out 1).trans rfl
   have hcz19_2 : w5.cell? ⟨gb120, 2, none⟩ = some (.int .i64 q2) := (Yh BK120.out 2).trans rfl
   have hcz19_3 : w5.cell? ⟨gb120, 3, none⟩ = some (.int .i64 q3) := (Yh BK120.out 3).trans rfl
   have hcz19_4 : w5.cell? ⟨gb120, 4, none⟩ = some (.int .i64 q4) := (Yh BK120.out 4).trans rfl
   have hcz19_5 : w5.cell? ⟨gb120, 5, none⟩ = some (.int .i64 q5) := (Yh BK120.out 5).trans rfl
   have hcz19_6 : w5.cell? ⟨gb120, 6, none⟩ = some (.int .i64 q6) := (Yh BK120.out 6).trans rfl
   have hcz19_7 : w5.cell? ⟨gb120, 7, none⟩ = some (.int .i64 q7) := (Yh BK120.out 7).trans rfl
   have hfz19_0 := Yi BK120.out 0
   have hfz19_1 := Yi BK120.out 1
   have hfz19_2 := Yi BK120.out 2
   have hfz19_3 := Yi BK120.out 3
   have hfz19_4 := Yi BK120.out 4
   have hfz19_5 := Yi BK120.out 5
   have hfz19_6 := Yi BK120.out 6
   have hfz19_7 := Yi BK120.out 7
   go_wp2_with (first | ((with_reducible refine gate_callee (f := 16) rfl ?_); refine goesL_ (some 10) rfl rfl Try.func16 (by kernel_rfl) rfl #[.agg #[.int .i64 q0, .int .i64 q1, .int .i64 q2, .int .i64 q3, .int .i64 q4, .int .i64 q5, .int .i64 q6, .int .i64 q7]] rfl (by (try simp only [List.map_toArray, List.map_cons, List.map_nil]); first | done | rfl | (simp only [List.length_drop, List.length_take]; rfl)) ?_; (with_reducible refine (detmap_Fit.calls q0 q1 q2 q3 q4 q5 q6 q7 false _ A6.out).mono ?_); rintro e w20 ⟨rfl, hb⟩; refine ⟨_, rfl, ?_⟩; have n0_ := Ym (Yl (g := gb120) (o := .cells #[.int .i64 q0, .int .i64 q1, .int .i64 q2, .int .i64 q3, .int .i64 q4, .int .i64 q5, .int .i64 q6, .int .i64 q7] 25 (0, 0)) (by (with_reducible repeat (first | refine Yd ?_ _ | refine Yf ?_ | refine Ye ?_ _)); exact BK120.out) hb); have n1_ := Ym (Yl (g := gb121) (o := .cells #[.int .i64 0, .int .i64 0, .int .i64 0] 28 (0, 0)) (by (with_reducible repeat (first | refine Yd ?_ _ | refine Yf ?_ | refine Ye ?_ _)); exact BK121.out) hb); have n2_ := Ym (Yj (by repeat (first | (with_reducible first | exact HB.out | apply Yc | apply Ya | apply Yb | refine Yg ?_ GE120.out | refine Yg ?_ GE121.out) | exact HB.out)) hb); clear BK120; clear BK121; clear HB; have BK120 := n0_; have BK121 := n1_; have HB := n2_; clear n0_ n1_ n2_; (try clear hb); (try clear hb2); (try clear hk); (try clear hi)))
   go_meet
   case rel => exact ⟨_, (true), (by first | rfl | (simp; done) | (simp [*]; done)), H', ⟨by first | omega | exact Nat.le_refl _⟩, ⟨by (with_reducible repeat (first | refine Yd ?_ _ | refine Yf ?_ | refine Ye ?_ _)); exact BK120.out⟩, ⟨by (with_reducible repeat (first | refine Yd ?_ _ | refine Yf ?_ | refine Ye ?_ _)); exact BK121.out⟩, ⟨by repeat (first | (with_reducible first | exact HB.out | apply Yc | apply Ya | apply Yb | refine Yg ?_ GE120.out | refine Yg ?_ GE121.out) | exact HB.out)⟩⟩
 case rest =>
  clear HC3
  try clear c1
  try clear p2
  try clear c7
  try clear c8
  try clear c8b0
  try clear c9
  try clear c11
  try clear c13
  try clear c16
  try clear c18
  try clear hcz10_0
  try clear hcz10_1
  try clear hcz10_2
  try clear hcz10_3
  try clear hcz10_4
  try clear hcz10_5
  try clear hcz10_6
  try clear hcz10_7
  try clear hcz14_0
  try clear hcz14_1
  try clear hcz14_2
  try clear hcz14_3
  try clear hcz14_4
  try clear hcz14_5
  try clear hcz14_6
  try clear hcz14_7
  try clear hcz16_0
  try clear hcz16_1
  try clear hcz16_2
  try clear hcz16_3
  try clear hcz16_4
  try clear hcz16_5
  try clear hcz16_6
  try clear hcz16_7
  try clear hcz19_0
  try clear hcz19_1
  try clear hcz19_2
  try clear hcz19_3
  try clear hcz19_4
  try clear hcz19_5
  try clear hcz19_6
  try clear hcz19_7
  try clear hfz10_0
  try clear hfz10_1
  try clear hfz10_2
  try clear hfz10_3
  try clear hfz10_4
  try clear hfz10_5
  try clear hfz10_6
  try clear hfz10_7
  try clear hfz14_0
  try clear hfz14_1
  try clear hfz14_2
  try clear hfz14_3
  try clear hfz14_4
  try clear hfz14_5
  try clear hfz14_6
  try clear hfz14_7
  try clear hfz16_0
  try clear hfz16_1
  try clear hfz16_2
  try clear hfz16_3
  try clear hfz16_4
  try clear hfz16_5
  try clear hfz16_6
  try clear hfz16_7
  try clear hfz19_0
  try clear hfz19_1
  try clear hfz19_2
  try clear hfz19_3
  try clear hfz19_4
  try clear hfz19_5
  try clear hfz19_6
  try clear hfz19_7
  obtain ⟨kq, x22_2, rfl, HA, HJ2, BK120, BK121, HB⟩ := hcut
  cases kq with
  | zero => exact absurd HA.out (by simp [detmap_Base.j0])
  | succ kj2 =>
   have H := HA.out
   clear HA
   simp only [detmap_Base.j0] at H
   by_cases c21 : x22_2 = true
   ·subst c21
    have H1 : (some (0, 0, 0, false)) = some (r1, r2, r3, r4) := by rw [if_pos rfl] at H; exact H
    clear H
    have H := H1
    clear H1
    simp only [Option.some.injEq, Prod.mk.injEq] at H
    obtain ⟨rfl, rfl, rfl, rfl⟩ := H
    have hnb22 := NB121_120.out
    have hnc22 := NB120_121.out
    have hcz23_0 : wc.cell? ⟨gb121, 0, none⟩ = some (.int .i64 0) := (Yh BK121.out 0).trans rfl
    have hcz23_1 : wc.cell? ⟨gb121, 1, none⟩ = some (.int .i64 0) := (Yh BK121.out 1).trans rfl
    have hcz23_2 : wc.cell? ⟨gb121, 2, none⟩ = some (.int .i64 0) := (Yh BK121.out 2).trans rfl
    have hfz23_0 := Yi BK121.out 0
    have hfz23_1 := Yi BK121.out 1
    have hfz23_2 := Yi BK121.out 2
    go_wp2
    refine bodyPost_ret (results_ct rfl _ _ gb121 28 #[.int .i64 0, .int .i64 0, .int .i64 0] (0, 0) _ rfl (by (with_reducible repeat (first | refine Yd ?_ _ | refine Yf ?_ | refine Ye ?_ _)); refine blk_put (cs := #[.int .i64 0, .int .i64 0, .int .i64 0]) ?_ 2 _ rfl; (with_reducible repeat (first | refine Yd ?_ _ | refine Yf ?_ | refine Ye ?_ _)); refine blk_put (cs := #[.int .i64 0, .int .i64 0, .int .i64 0]) ?_ 1 _ rfl; (with_reducible repeat (first | refine Yd ?_ _ | refine Yf ?_ | refine Ye ?_ _)); refine blk_put (cs := #[.int .i64 0, .int .i64 0, .int .i64 0]) ?_ 0 _ rfl; (with_reducible repeat (first | refine Yd ?_ _ | refine Yf ?_ | refine Ye ?_ _)); exact BK121.out) Try.underlying28 rfl (by kernel_rfl)) rfl ?_
    exact ⟨by first | rfl | (simp [errW_none, errW_some] <;> rfl) | (simp [*, errW_none, errW_some] <;> rfl), by repeat (first | (with_reducible first | exact HB.out | apply Yc | apply Ya | apply Yb | refine Yg ?_ GE120.out | refine Yg ?_ GE121.out) | exact HB.out)⟩
   ·replace c21 := Bool.eq_false_iff.mpr c21
    subst c21
    have H1 : ((detmap_Ratio.f q0 q1 q2 q3 q4 q5 q6 q7).bind fun t124 => ((detmap_Each.f q0 q1 q2 q3 q4 q5 q6 q7).bind fun t125 => (if t124 = 0 then (none) else (some (wrap64 (Int.tdiv a1 t124), wrap64 (q4 + (wrap64 ((Int.tmod a1 t124) * t125))), wrap64 ((wrap64 ((wrap64 (q4 + (wrap64 ((Int.tmod a1 t124) * t125)))) + t125)) - 1), true))))) = some (r1, r2, r3, r4) := by rw [if_neg (show ¬ (false = true) by decide)] at H; exact H
    clear H
    have H := H1
    clear H1
    replace H := Option.bind_eq_some_iff.mp H
    obtain ⟨t124, A240, H⟩ := H
    replace H : ((detmap_Each.f q0 q1 q2 q3 q4 q5 q6 q7).bind fun t125 => (if t124 = 0 then (none) else (some (wrap64 (Int.tdiv a1 t124), wrap64 (q4 + (wrap64 ((Int.tmod a1 t124) * t125))), wrap64 ((wrap64 ((wrap64 (q4 + (wrap64 ((Int.tmod a1 t124) * t125)))) + t125)) - 1), true)))) = some (r1, r2, r3, r4) := H
    have A24 := Ym A240
    clear A240
    replace H := Option.bind_eq_some_iff.mp H
    obtain ⟨t125, A250, H⟩ := H
    replace H : (if t124 = 0 then (none) else (some (wrap64 (Int.tdiv a1 t124), wrap64 (q4 + (wrap64 ((Int.tmod a1 t124) * t125))), wrap64 ((wrap64 ((wrap64 (q4 + (wrap64 ((Int.tmod a1 t124) * t125)))) + t125)) - 1), true))) = some (r1, r2, r3, r4) := H
    have A25 := Ym A250
    clear A250
    by_cases c26 : t124 = 0
    ·rw [if_pos c26] at H
     exact absurd H (by simp)
    ·rw [if_neg c26] at H
     have c26b0 : (t124 == 0) = false := beq_eq_false_iff_ne.mpr c26
     have c26b1 : (t124 != 0) = true := bne_iff_ne.mpr c26
     simp only [Option.some.injEq, Prod.mk.injEq] at H
     obtain ⟨rfl, rfl, rfl, rfl⟩ := H
     try go_wp2
     have n0_ := Ym (Yf BK120.out)
     have n1_ := Ym (Yf BK121.out)
     have n2_ := Ym (Yb HB.out)
     clear BK120
     clear BK121
     clear HB
     have BK120 := n0_
     have BK121 := n1_
     have HB := n2_
     clear n0_ n1_ n2_
     refine start_ (n := 6) (S := fun w' => w'.cell? ⟨gb120, 0, none⟩ = some (.int .i64 q0) ∧ w'.cell? ⟨gb120, 1, none⟩ = some (.int .i64 q1) ∧ w'.cell? ⟨gb120, 2, none⟩ = some (.int .i64 q2) ∧ w'.cell? ⟨gb120, 3, none⟩ = some (.int .i64 q3) ∧ w'.cell? ⟨gb120, 4, none⟩ = some (.int .i64 q4) ∧ w'.cell? ⟨gb120, 5, none⟩ = some (.int .i64 q5) ∧ w'.cell? ⟨gb120, 6, none⟩ = some (.int .i64 q6) ∧ w'.cell? ⟨gb120, 7, none⟩ = some (.int .i64 q7)) (ds := []) #[false, false, false, false, false, false] (by kernel_rfl) rfl rfl ⟨(Yh BK120.out 0).trans rfl, (Yh BK120.out 1).trans rfl, (Yh BK120.out 2).trans rfl, (Yh BK120.out 3).trans rfl, (Yh BK120.out 4).trans rfl, (Yh BK120.out 5).trans rfl, (Yh BK120.out 6).trans rfl, (Yh BK120.out 7).trans rfl⟩ (fun hHeld => ?_)
     generalize wc.drew = w27 at BK120 BK121 HB hHeld ⊢
     refine take_ (i := 0) (N := some 24) (v := ?_) (a' := ?_) #[true, false, false, false, false, false] rfl rfl (by kernel_rfl) (fun _ _ _ h => h) (Or.inl ⟨by rfl, ?_⟩) hHeld ?_ ?_
     rotate_left
     ·rintro w' ⟨s0, s1, s2, s3, s4, s5, s6, s7⟩
      go_simp
      with_reducible rfl
     rotate_left
     ·simp only [Act.put, Yo, Yp, Yq, i64_w, i32_w]
      rfl
     refine take_ (i := 2) (N := some 26) (v := ?_) (a' := ?_) #[true, false, true, false, false, false] rfl rfl (by kernel_rfl) (fun _ _ _ h => h) (Or.inl ⟨by rfl, ?_⟩) hHeld ?_ ?_
     rotate_left
     ·rintro w' ⟨s0, s1, s2, s3, s4, s5, s6, s7⟩
      go_simp
      with_reducible rfl
     rotate_left
     ·simp only [Act.put, Yo, Yp, Yq, i64_w, i32_w]
      rfl
     refine one_ (i := 1) (N := some 25) #[true, true, true, false, false, false] rfl rfl (by kernel_rfl) (by decide) (fun K hK => ?_)
     refine goes_ Try.func19 (by kernel_rfl) rfl #[.agg #[.int .i64 q0, .int .i64 q1, .int .i64 q2, .int .i64 q3, .int .i64 q4, .int .i64 q5, .int .i64 q6, .int .i64 q7]] (by rfl) rfl rfl (by (try simp only [List.map_toArray, List.map_cons, List.map_nil]); first | done | rfl | (simp only [List.length_drop, List.length_take]; rfl)) ?_
     with_reducible refine (detmap_Ratio.calls q0 q1 q2 q3 q4 q5 q6 q7 t124 _ A24.out).mono ?_
     rintro e w28 ⟨rfl, hb⟩
     refine ⟨_, rfl, ?_⟩
     have n0_ := Ym (Yl (g := gb120) (o := .cells #[.int .i64 q0, .int .i64 q1, .int .i64 q2, .int .i64 q3, .int .i64 q4, .int .i64 q5, .int .i64 q6, .int .i64 q7] 25 (0, 0)) (by (with_reducible repeat (first | refine Yd ?_ _ | refine Yf ?_ | refine Ye ?_ _)); exact BK120.out) hb)
     have n1_ := Ym (Yl (g := gb121) (o := .cells #[.int .i64 0, .int .i64 0, .int .i64 0] 28 (0, 0)) (by (with_reducible repeat (first | refine Yd ?_ _ | refine Yf ?_ | refine Ye ?_ _)); exact BK121.out) hb)
     have n2_ := Ym (Yj (by repeat (first | (with_reducible first | exact HB.out | apply Yc | apply Ya | apply Yb | refine Yg ?_ GE120.out | refine Yg ?_ GE121.out) | exact HB.out)) hb)
     clear BK120
     clear BK121
     clear HB
     have BK120 := n0_
     have BK121 := n1_
     have HB := n2_
     clear n0_ n1_ n2_
     (try clear hb)
     (try clear hb2)
     (try clear hk)
     (try clear hi)
     refine hK.out _ _ ⟨(Yh BK120.out 0).trans rfl, (Yh BK120.out 1).trans rfl, (Yh BK120.out 2).trans rfl, (Yh BK120.out 3).trans rfl, (Yh BK120.out 4).trans rfl, (Yh BK120.out 5).trans rfl, (Yh BK120.out 6).trans rfl, (Yh BK120.out 7).trans rfl⟩ (fun hHeld => ?_)
     clear hK K
     refine norm_ (a' := ?_) ?_ ?_
     rotate_left
     ·show Act.put _ (some 25) _ = _
      simp only [Act.put, Yo, Yp, Yq, i64_w, i32_w]
      rfl
     refine one_ (i := 3) (N := some 27) #[true, true, true, true, false, false] rfl rfl (by kernel_rfl) (by decide) (fun K hK => ?_)
     refine goes_ Try.func21 (by kernel_rfl) rfl #[.agg #[.int .i64 q0, .int .i64 q1, .int .i64 q2, .int .i64 q3, .int .i64 q4, .int .i64 q5, .int .i64 q6, .int .i64 q7]] (by rfl) rfl rfl (by (try simp only [List.map_toArray, List.map_cons, List.map_nil]); first | done | rfl | (simp only [List.length_drop, List.length_take]; rfl)) ?_
     with_reducible refine (detmap_Each.calls q0 q1 q2 q3 q4 q5 q6 q7 t125 _ A25.out).mono ?_
     rintro e w29 ⟨rfl, hb⟩
     refine ⟨_, rfl, ?_⟩
     have n0_ := Ym (Yl (g := gb120) (o := .cells #[.int .i64 q0, .int .i64 q1, .int .i64 q2, .int .i64 q3, .int .i64 q4, .int .i64 q5, .int .i64 q6, .int .i64 q7] 25 (0, 0)) (by (with_reducible repeat (first | refine Yd ?_ _ | refine Yf ?_ | refine Ye ?_ _)); exact BK120.out) hb)
     have n1_ := Ym (Yl (g := gb121) (o := .cells #[.int .i64 0, .int .i64 0, .int .i64 0] 28 (0, 0)) (by (with_reducible repeat (first | refine Yd ?_ _ | refine Yf ?_ | refine Ye ?_ _)); exact BK121.out) hb)
     have n2_ := Ym (Yj (by repeat (first | (with_reducible first | exact HB.out | apply Yc | apply Ya | apply Yb | refine Yg ?_ GE120.out | refine Yg ?_ GE121.out) | exact HB.out)) hb)
     clear BK120
     clear BK121
     clear HB
     have BK120 := n0_
     have BK121 := n1_
     have HB := n2_
     clear n0_ n1_ n2_
     (try clear hb)
     (try clear hb2)
     (try clear hk)
     (try clear hi)
     refine hK.out _ _ ⟨(Yh BK120.out 0).trans rfl, (Yh BK120.out 1).trans rfl, (Yh BK120.out 2).trans rfl, (Yh BK120.out 3).trans rfl, (Yh BK120.out 4).trans rfl, (Yh BK120.out 5).trans rfl, (Yh BK120.out 6).trans rfl, (Yh BK120.out 7).trans rfl⟩ (fun hHeld => ?_)
     clear hK K
     refine norm_ (a' := ?_) ?_ ?_
     rotate_left
     ·show Act.put _ (some 27) _ = _
      simp only [Act.put, Yo, Yp, Yq, i64_w, i32_w]
      rfl
     refine pure_ (i := 4) (N := some 6) (v := ?_) (a' := ?_) #[true, true, true, true, true, false] rfl rfl (by kernel_rfl) (fun _ _ _ h => h) (Or.inl ⟨by rfl, ?_⟩) ?_ ?_
     rotate_left
     ·intro w'
      go_simp
      with_reducible rfl
     rotate_left
     ·simp only [Act.put, Yo, Yp, Yq, i64_w, i32_w]
      rfl
     refine pure_ (i := 5) (N := some 7) (v := ?_) (a' := ?_) #[true, true, true, true, true, true] rfl rfl (by kernel_rfl) (fun _ _ _ h => h) (Or.inl ⟨by rfl, ?_⟩) ?_ ?_
     rotate_left
     ·intro w'
      go_simp
      with_reducible rfl
     rotate_left
     ·simp only [Act.put, Yo, Yp, Yq, i64_w, i32_w]
      rfl
     refine done_ (by kernel_rfl) ?_
     try go_wp2
     have n0_ := Ym (Yf BK120.out)
     have n1_ := Ym (Yf BK121.out)
     have n2_ := Ym (Yb HB.out)
     clear BK120
     clear BK121
     clear HB
     have BK120 := n0_
     have BK121 := n1_
     have HB := n2_
     clear n0_ n1_ n2_
     refine start_ (n := 9) (S := fun w' => w'.cell? ⟨gb120, 0, none⟩ = some (.int .i64 q0) ∧ w'.cell? ⟨gb120, 1, none⟩ = some (.int .i64 q1) ∧ w'.cell? ⟨gb120, 2, none⟩ = some (.int .i64 q2) ∧ w'.cell? ⟨gb120, 3, none⟩ = some (.int .i64 q3) ∧ w'.cell? ⟨gb120, 4, none⟩ = some (.int .i64 q4) ∧ w'.cell? ⟨gb120, 5, none⟩ = some (.int .i64 q5) ∧ w'.cell? ⟨gb120, 6, none⟩ = some (.int .i64 q6) ∧ w'.cell? ⟨gb120, 7, none⟩ = some (.int .i64 q7)) (ds := []) #[false, false, false, false, false, false, false, false, false] (by kernel_rfl) rfl rfl ⟨(Yh BK120.out 0).trans rfl, (Yh BK120.out 1).trans rfl, (Yh BK120.out 2).trans rfl, (Yh BK120.out 3).trans rfl, (Yh BK120.out 4).trans rfl, (Yh BK120.out 5).trans rfl, (Yh BK120.out 6).trans rfl, (Yh BK120.out 7).trans rfl⟩ (fun hHeld => ?_); refine with_tabW detmap_Base.tab4 detmap_Base.bits4 (fun HT_ HW_ => ?_)
     generalize w29.drew = w30 at BK120 BK121 HB hHeld ⊢
     refine pure_ (i := 0) (N := some 28) (v := ?_) (a' := ?_) #[true, false, false, false, false, false, false, false, false] rfl rfl (any_of HT_.out (by kernel_rfl)) (fun _ _ _ h => h) (Or.inl ⟨by rfl, ?_⟩) ?_ ?_
     rotate_left
     ·intro w'
      go_simp
      with_reducible rfl
     rotate_left
     ·simp only [Act.put, Yo, Yp, Yq, i64_w, i32_w]
      rfl
     refine pure_ (i := 2) (N := some 30) (v := ?_) (a' := ?_) #[true, false, true, false, false, false, false, false, false] rfl rfl (any_of HT_.out (by kernel_rfl)) (fun _ _ _ h => h) (Or.inl ⟨by rfl, ?_⟩) ?_ ?_
     rotate_left
     ·intro w'
      go_simp
      with_reducible rfl
     rotate_left
     ·simp only [Act.put, Yo, Yp, Yq, i64_w, i32_w]
      rfl
     refine pure_ (i := 3) (N := some 31) (v := ?_) (a' := ?_) #[true, false, true, true, false, false, false, false, false] rfl rfl (any_of HT_.out (by kernel_rfl)) (fun _ _ _ h => h) (Or.inl ⟨by rfl, ?_⟩) ?_ ?_
     rotate_left
     ·intro w'
      go_simp
      with_reducible rfl
     rotate_left
     ·simp only [Act.put, Yo, Yp, Yq, i64_w, i32_w]
      rfl
     refine pure_ (i := 4) (N := some 32) (v := ?_) (a' := ?_) #[true, false, true, true, true, false, false, false, false] rfl rfl (any_of HT_.out (by kernel_rfl)) (fun _ _ _ h => h) (Or.inl ⟨by rfl, ?_⟩) ?_ ?_
     rotate_left
     ·intro w'
      go_simp
      with_reducible rfl
     rotate_left
     ·simp only [Act.put, Yo, Yp, Yq, i64_w, i32_w]
      rfl
     refine pure_ (i := 5) (N := some 33) (v := ?_) (a' := ?_) #[true, false, true, true, true, true, false, false, false] rfl rfl (any_of HT_.out (by kernel_rfl)) (fun _ _ _ h => h) (Or.inl ⟨by rfl, ?_⟩) ?_ ?_
     rotate_left
     ·intro w'
      go_simp
      with_reducible rfl
     rotate_left
     ·simp only [Act.put, Yo, Yp, Yq, i64_w, i32_w]
      rfl
     refine pure_ (i := 6) (N := some 34) (v := ?_) (a' := ?_) #[true, false, true, true, true, true, true, false, false] rfl rfl (any_of HT_.out (by kernel_rfl)) (fun _ _ _ h => h) (Or.inl ⟨by rfl, ?_⟩) ?_ ?_
     rotate_left
     ·intro w'
      go_simp
      with_reducible rfl
     rotate_left
     ·simp only [Act.put, Yo, Yp, Yq, i64_w, i32_w]
      rfl
     refine take_ (i := 1) (N := some 29) (v := ?_) (a' := ?_) #[true, true, true, true, true, true, true, false, false] rfl rfl (take_ofW HT_.out HW_.out (by kernel_rfl)) (fun _ _ _ h => h) (Or.inl ⟨by rfl, ?_⟩) hHeld ?_ ?_
     rotate_left
     ·rintro w' ⟨s0, s1, s2, s3, s4, s5, s6, s7⟩
      go_simp
      with_reducible rfl
     rotate_left
     ·simp only [Act.put, Yo, Yp, Yq, i64_w, i32_w]
      rfl
     refine pure_ (i := 7) (N := some 35) (v := ?_) (a' := ?_) #[true, true, true, true, true, true, true, true, false] rfl rfl (any_of HT_.out (by kernel_rfl)) (fun _ _ _ h => h) (Or.inl ⟨by rfl, ?_⟩) ?_ ?_
     rotate_left
     ·intro w'
      go_simp
      with_reducible rfl
     rotate_left
     ·simp only [Act.put, Yo, Yp, Yq, i64_w, i32_w]
      rfl
     refine pure_ (i := 8) (N := some 8) (v := ?_) (a' := ?_) #[true, true, true, true, true, true, true, true, true] rfl rfl (any_of HT_.out (by kernel_rfl)) (fun _ _ _ h => h) (Or.inl ⟨by rfl, ?_⟩) ?_ ?_
     rotate_left
     ·intro w'
      go_simp
      with_reducible rfl
     rotate_left
     ·simp only [Act.put, Yo, Yp, Yq, i64_w, i32_w]
      rfl
     refine done_ (done_of HT_.out (by kernel_rfl)) ?_
     have hnb31 := NB121_120.out
     have hnc31 := NB120_121.out
     have hcz32_0 : w30.cell? ⟨gb121, 0, none⟩ = some (.int .i64 0) := (Yh BK121.out 0).trans rfl
     have hcz32_1 : w30.cell? ⟨gb121, 1, none⟩ = some (.int .i64 0) := (Yh BK121.out 1).trans rfl
     have hcz32_2 : w30.cell? ⟨gb121, 2, none⟩ = some (.int .i64 0) := (Yh BK121.out 2).trans rfl
     have hfz32_0 := Yi BK121.out 0
     have hfz32_1 := Yi BK121.out 1
     have hfz32_2 := Yi BK121.out 2
     try go_wp2
     refine bodyPost_ret (results_ct rfl _ _ gb121 28 #[.int .i64 (wrap64 (Int.tdiv a1 t124)), .int .i64 (wrap64 (q4 + (wrap64 ((Int.tmod a1 t124) * t125)))), .int .i64 (wrap64 ((wrap64 ((wrap64 (q4 + (wrap64 ((Int.tmod a1 t124) * t125)))) + t125)) - 1))] (0, 0) _ rfl (by (with_reducible repeat (first | refine Yd ?_ _ | refine Yf ?_ | refine Ye ?_ _)); refine blk_put (cs := #[.int .i64 (wrap64 (Int.tdiv a1 t124)), .int .i64 (wrap64 (q4 + (wrap64 ((Int.tmod a1 t124) * t125)))), .int .i64 0]) ?_ 2 _ rfl; (with_reducible repeat (first | refine Yd ?_ _ | refine Yf ?_ | refine Ye ?_ _)); refine blk_put (cs := #[.int .i64 (wrap64 (Int.tdiv a1 t124)), .int .i64 0, .int .i64 0]) ?_ 1 _ rfl; (with_reducible repeat (first | refine Yd ?_ _ | refine Yf ?_ | refine Ye ?_ _)); refine blk_put (cs := #[.int .i64 0, .int .i64 0, .int .i64 0]) ?_ 0 _ rfl; (with_reducible repeat (first | refine Yd ?_ _ | refine Yf ?_ | refine Ye ?_ _)); exact BK121.out) Try.underlying28 rfl (by kernel_rfl)) rfl ?_
     exact ⟨by first | rfl | (simp [errW_none, errW_some] <;> rfl) | (simp [*, errW_none, errW_some] <;> rfl), by repeat (first | (with_reducible first | exact HB.out | apply Yc | apply Ya | apply Yb | refine Yg ?_ GE120.out | refine Yg ?_ GE121.out) | exact HB.out)⟩

end Go.Proofs.Ytfkdflhijfkjoaa.P
