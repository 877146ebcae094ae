-- Laid by this session's own program (wip/myprint.py): Lean functions for the Go functions that a law reaches, and their contracts. Not trusted: Lean checks it. (slimmed by wip/slim08.py)
import Derived.Test.YtfkdflhijfkjoaaP0
import Derived.Test.YtfkdflhijfkjoaaP2
import Derived.Test.YtfkdflhijfkjoaaP4
import Derived.Test.YtfkdflhijfkjoaaP6
namespace Go.Proofs.Ytfkdflhijfkjoaa.P
open Go.RowKit Go.Proofs.YtfkdflhijfkjoaaW.PrintWords Go.Proofs.YtfkdflhijfkjoaaW.PrintLast Go.Proofs.YtfkdflhijfkjoaaW.PrintMore
attribute [local go_sem] max2_int min2_int max_two min_two max_three min_three max_four min_four   -- for this text's walks alone
set_option linter.unusedVariables false
set_option linter.unusedSimpArgs false

/-! ### detmap_Which: function 25 -/
mutual
def detmap_Which.j0 : Nat → Int → Bool → Int → Int → Int → Int → Int → Int → Int → Int → Option (Int)
 | 0, _, _, _, _, _, _, _, _, _, _ => none
 | k + 1, x2, x22, x143000, x143001, x143002, x143003, x143004, x143005, x143006, x143007 => if x22 = true then (some (-1)) else (if x2 < (wrap64 ((wrap64 (x143005 - x143006)) + 1)) then (detmap_Which.j1 k x2 (wrap64 ((wrap64 (x143005 - x143006)) + 1)) true x143000 x143001 x143002 x143003 x143004 x143005 x143006 x143007) else (detmap_Which.j1 k x2 (wrap64 ((wrap64 (x143005 - x143006)) + 1)) (decide (x2 > x143005)) x143000 x143001 x143002 x143003 x143004 x143005 x143006 x143007))
def detmap_Which.j1 : Nat → Int → Int → Bool → Int → Int → Int → Int → Int → Int → Int → Int → Option (Int)
 | 0, _, _, _, _, _, _, _, _, _, _, _ => none
 | k + 1, x2, x7, x37, x143000, x143001, x143002, x143003, x143004, x143005, x143006, x143007 => if x37 = true then (some (-1)) else (if x143007 = 0 then (none) else ((detmap_Blocks.f x143000 x143001 x143002 x143003 x143004 x143005 x143006 x143007).bind fun t145 => (if (wrap64 (Int.tdiv (wrap64 (x2 - x7)) x143007)) < t145 then (some (wrap64 (Int.tdiv (wrap64 (x2 - x7)) x143007))) else (some (-1)))))
end
def detmap_Which.f (k : Nat) (q0 : Int) (q1 : Int) (q2 : Int) (q3 : Int) (q4 : Int) (q5 : Int) (q6 : Int) (q7 : Int) (a1 : Int) (a2 : Int) : Option (Int) := (detmap_Fit.f q0 q1 q2 q3 q4 q5 q6 q7).bind fun t143 => (if t143 = true then (if a1 < 0 then (detmap_Which.j0 k a2 true q0 q1 q2 q3 q4 q5 q6 q7) else ((addr_Size.f q2 q3).bind fun t144 => (detmap_Which.j0 k a2 (decide (a1 ≥ t144)) q0 q1 q2 q3 q4 q5 q6 q7))) else (detmap_Which.j0 k a2 true q0 q1 q2 q3 q4 q5 q6 q7))
theorem detmap_Which.mono_l : ∀ k, (∀ y0 y1 y2 y3 y4 y5 y6 y7 y8 y9, LeO (detmap_Which.j0 k y0 y1 y2 y3 y4 y5 y6 y7 y8 y9) (detmap_Which.j0 (k + 1) y0 y1 y2 y3 y4 y5 y6 y7 y8 y9)) ∧ (∀ y0 y1 y2 y3 y4 y5 y6 y7 y8 y9 y10, LeO (detmap_Which.j1 k y0 y1 y2 y3 y4 y5 y6 y7 y8 y9 y10) (detmap_Which.j1 (k + 1) y0 y1 y2 y3 y4 y5 y6 y7 y8 y9 y10))
 | 0 => ⟨fun _ _ _ _ _ _ _ _ _ _ r h => by simp [detmap_Which.j0] at h, fun _ _ _ _ _ _ _ _ _ _ _ r h => by simp [detmap_Which.j1] at h⟩
 | k + 1 => by
  obtain ⟨ih0, ih1⟩ := detmap_Which.mono_l k
  refine ⟨?_, ?_⟩
  ·intro y0 y1 y2 y3 y4 y5 y6 y7 y8 y9
   unfold detmap_Which.j0
   repeat' first
   | (with_reducible exact ih0 _ _ _ _ _ _ _ _ _ _)
   | (with_reducible exact ih1 _ _ _ _ _ _ _ _ _ _ _)
   | (with_reducible exact LeO.refl _)
   | (with_reducible exact LeO.none _)
   | (with_reducible refine LeO.ite ?_ ?_)
   | (with_reducible refine LeO.bind ?_ (fun _ => ?_))
   | exact ih0 _ _ _ _ _ _ _ _ _ _
   | exact ih1 _ _ _ _ _ _ _ _ _ _ _
   | exact LeO.none _
   | refine LeO.ite ?_ ?_
   | refine LeO.bind ?_ (fun _ => ?_)
  ·intro y0 y1 y2 y3 y4 y5 y6 y7 y8 y9 y10
   unfold detmap_Which.j1
   repeat' first
   | (with_reducible exact ih0 _ _ _ _ _ _ _ _ _ _)
   | (with_reducible exact ih1 _ _ _ _ _ _ _ _ _ _ _)
   | (with_reducible exact LeO.refl _)
   | (with_reducible exact LeO.none _)
   | (with_reducible refine LeO.ite ?_ ?_)
   | (with_reducible refine LeO.bind ?_ (fun _ => ?_))
   | exact ih0 _ _ _ _ _ _ _ _ _ _
   | exact ih1 _ _ _ _ _ _ _ _ _ _ _
   | exact LeO.none _
   | refine LeO.ite ?_ ?_
   | refine LeO.bind ?_ (fun _ => ?_)
theorem detmap_Which.mono : ∀ a0 a1 a2 a3 a4 a5 a6 a7 a8 a9 k, LeO (detmap_Which.f k a0 a1 a2 a3 a4 a5 a6 a7 a8 a9) (detmap_Which.f (k + 1) a0 a1 a2 a3 a4 a5 a6 a7 a8 a9) := by
 intro a0 a1 a2 a3 a4 a5 a6 a7 a8 a9 k
 obtain ⟨ih0, ih1⟩ := detmap_Which.mono_l k
 unfold detmap_Which.f
 repeat' first
   | (with_reducible exact ih0 _ _ _ _ _ _ _ _ _ _)
   | (with_reducible exact ih1 _ _ _ _ _ _ _ _ _ _ _)
   | (with_reducible exact LeO.refl _)
   | (with_reducible exact LeO.none _)
   | (with_reducible refine LeO.ite ?_ ?_)
   | (with_reducible refine LeO.bind ?_ (fun _ => ?_))
   | exact ih0 _ _ _ _ _ _ _ _ _ _
   | exact ih1 _ _ _ _ _ _ _ _ _ _ _
   | exact LeO.none _
   | refine LeO.ite ?_ ?_
   | refine LeO.bind ?_ (fun _ => ?_)
set_option maxHeartbeats 8000000 in
set_option maxRecDepth 100000 in
theorem detmap_Which.calls (k : Nat) (q0 : Int) (q1 : Int) (q2 : Int) (q3 : Int) (q4 : Int) (q5 : Int) (q6 : Int) (q7 : Int) (a1 : Int) (a2 : Int) (r : Int) (w : World) (h : detmap_Which.f k q0 q1 q2 q3 q4 q5 q6 q7 a1 a2 = some r) :
  Calls Try.prog 25 #[.agg #[.int .i64 q0, .int .i64 q1, .int .i64 q2, .int .i64 q3, .int .i64 q4, .int .i64 q5, .int .i64 q6, .int .i64 q7], .int .i64 a1, .int .i64 a2] w fun e w' => e = .returned (.int .i64 r) ∧ Below w.heap.size w w' := by
 have hu25 := Try.underlying25
 have hu23 := Try.underlying23
 have HB := Ym (Below.refl w.heap.size w)
 have H : ((detmap_Fit.f q0 q1 q2 q3 q4 q5 q6 q7).bind fun t143 => (if t143 = true then (if a1 < 0 then (detmap_Which.j0 k a2 true q0 q1 q2 q3 q4 q5 q6 q7) else ((addr_Size.f q2 q3).bind fun t144 => (detmap_Which.j0 k a2 (decide (a1 ≥ t144)) q0 q1 q2 q3 q4 q5 q6 q7))) else (detmap_Which.j0 k a2 true q0 q1 q2 q3 q4 q5 q6 q7))) = some r := h
 clear h
 have HC4 := Ym H
 clear H
 go_enter Try.func25, Try.ntmps25
 go_upto_region 1 with (first | ((with_reducible refine gate_dst (N := 3) rfl ?_); refine box_event ?hg (N := 3) ?hd (cs := #[.int .i64 q0, .int .i64 q1, .int .i64 q2, .int .i64 q3, .int .i64 q4, .int .i64 q5, .int .i64 q6, .int .i64 q7]) (t := 25) ?hr ?_; (case hd => rfl); (case hg => rfl); (case hr => first | (go_simp; done) | (go_simp; rfl)); intro gb142 hg w5 hbox hb; have n0_ := Ym (Yj (by repeat (first | (with_reducible first | exact HB.out | apply Yc | apply Ya | apply Yb) | exact HB.out)) hb); have n1_ := Ym (hbox); have n2_ := Ym ((by rw [hg]; exact (Yk (by repeat (first | (with_reducible first | exact HB.out | apply Yc | apply Ya | apply Yb) | exact HB.out))) : w.heap.size ≤ gb142)); have n3_ := Ym ((by rw [hg]; exact (Yk (by repeat (first | (with_reducible first | exact HB.out | apply Yc | apply Ya | apply Yb) | exact HB.out))) : w.heap.size ≤ gb142)); clear HB; have HB := n0_; have BK142 := n1_; have GW142 := n2_; have GE142 := n3_; clear n0_ n1_ n2_ n3_; clear hb hbox hg))
 (try simp only [Act.put, Yo, Yp, Yq])
 go_cut [22] (fun v22 wc => ∃ (kq : Nat) (x22_3 : Bool), v22 = .bool x22_3 ∧ Aside0 (detmap_Which.j0 kq a2 x22_3 q0 q1 q2 q3 q4 q5 q6 q7 = some r) ∧ Aside0 (kq ≤ k) ∧ Aside0 (wc.heap[gb142]? = some (.cells #[.int .i64 q0, .int .i64 q1, .int .i64 q2, .int .i64 q3, .int .i64 q4, .int .i64 q5, .int .i64 q6, .int .i64 q7] 25 (0, 0))) ∧ Aside0 (Below w.heap.size w wc))
 case first =>
  have H := HC4.out
  clear HC4
  replace H := Option.bind_eq_some_iff.mp H
  obtain ⟨t143, A60, H⟩ := H
  replace H : (if t143 = true then (if a1 < 0 then (detmap_Which.j0 k a2 true q0 q1 q2 q3 q4 q5 q6 q7) else ((addr_Size.f q2 q3).bind fun t144 => (detmap_Which.j0 k a2 (decide (a1 ≥ t144)) q0 q1 q2 q3 q4 q5 q6 q7))) else (detmap_Which.j0 k a2 true q0 q1 q2 q3 q4 q5 q6 q7)) = some r := H
  have A6 := Ym A60
  clear A60
  by_cases c7 : t143 = true
  ·subst c7
   have H1 : (if a1 < 0 then (detmap_Which.j0 k a2 true q0 q1 q2 q3 q4 q5 q6 q7) else ((addr_Size.f q2 q3).bind fun t144 => (detmap_Which.j0 k a2 (decide (a1 ≥ t144)) q0 q1 q2 q3 q4 q5 q6 q7))) = some r := by rw [if_pos rfl] at H; exact H
   clear H
   have H := H1
   clear H1
   by_cases c8 : a1 < 0
   ·rw [if_pos c8] at H
    have c8b0 : decide (a1 < 0) = true := decide_eq_true c8
    clear c8
    (first | rw [c8b0] | (simp only [i64_w, i32_w]; rw [c8b0]) | skip)
    have H' := Ym H
    clear H
    have hcz9_0 : w5.cell? ⟨gb142, 0, none⟩ = some (.int .i64 q0) := (Yh BK142.out 0).trans rfl
    have hcz9_1 : w5.cell? ⟨gb142, 1, none⟩ = some (.int .i64 q1) := (Yh BK142.out 1).trans rfl
    have hcz9_2 : w5.cell? ⟨gb142, 2, none⟩ = some (.int .i64 q2) := (Yh BK142.out 2).trans rfl
    have hcz9_3 : w5.cell? ⟨gb142, 3, none⟩ = some (.int .i64 q3) := (Yh BK142.out 3).trans rfl
    have hcz9_4 : w5.cell? ⟨gb142, 4, none⟩ = some (.int .i64 q4) := (Yh BK142.out 4).trans rfl
    have hcz9_5 : w5.cell? ⟨gb142, 5, none⟩ = some (.int .i64 q5) := (Yh BK142.out 5).trans rfl
    have hcz9_6 : w5.cell? ⟨gb142, 6, none⟩ = some (.int .i64 q6) := (Yh BK142.out 6).trans rfl
    have hcz9_7 : w5.cell? ⟨gb142, 7, none⟩ = some (.int .i64 q7) := (Yh BK142.out 7).trans rfl
    have hfz9_0 := Yi BK142.out 0
    have hfz9_1 := Yi BK142.out 1
    have hfz9_2 := Yi BK142.out 2
    have hfz9_3 := Yi BK142.out 3
    have hfz9_4 := Yi BK142.out 4
    have hfz9_5 := Yi BK142.out 5
    have hfz9_6 := Yi BK142.out 6
    have hfz9_7 := Yi BK142.out 7
    go_wp2_with (first | ((with_reducible refine gate_callee (f := 16) rfl ?_); refine goesL_ (some 10) rfl rfl Try.func16 (by kernel_rfl) rfl #[.agg #[.int .i64 q0, .int .i64 q1, .int .i64 q2, .int .i64 q3, .int .i64 q4, .int .i64 q5, .int .i64 q6, .int .i64 q7]] rfl (by (try simp only [List.map_toArray, List.map_cons, List.map_nil]); first | done | rfl | (simp only [List.length_drop, List.length_take]; rfl)) ?_; (with_reducible refine (detmap_Fit.calls q0 q1 q2 q3 q4 q5 q6 q7 true _ A6.out).mono ?_); rintro e w10 ⟨rfl, hb⟩; refine ⟨_, rfl, ?_⟩; have n0_ := Ym (Yl (g := gb142) (o := .cells #[.int .i64 q0, .int .i64 q1, .int .i64 q2, .int .i64 q3, .int .i64 q4, .int .i64 q5, .int .i64 q6, .int .i64 q7] 25 (0, 0)) (by (with_reducible repeat (first | refine Yd ?_ _ | refine Yf ?_ | refine Ye ?_ _)); exact BK142.out) hb); have n1_ := Ym (Yj (by repeat (first | (with_reducible first | exact HB.out | apply Yc | apply Ya | apply Yb | refine Yg ?_ GE142.out) | exact HB.out)) hb); clear BK142; clear HB; have BK142 := n0_; have HB := n1_; clear n0_ n1_; (try clear hb); (try clear hb2); (try clear hk); (try clear hi)))
    go_meet
    case rel => exact ⟨_, (true), (by first | rfl | (simp; done) | (simp [*]; done)), H', ⟨by first | omega | exact Nat.le_refl _⟩, ⟨by (with_reducible repeat (first | refine Yd ?_ _ | refine Yf ?_ | refine Ye ?_ _)); exact BK142.out⟩, ⟨by repeat (first | (with_reducible first | exact HB.out | apply Yc | apply Ya | apply Yb | refine Yg ?_ GE142.out) | exact HB.out)⟩⟩
   ·rw [if_neg c8] at H
    have c8b0 : decide (a1 < 0) = false := decide_eq_false c8
    clear c8
    (first | rw [c8b0] | (simp only [i64_w, i32_w]; rw [c8b0]) | skip)
    replace H := Option.bind_eq_some_iff.mp H
    obtain ⟨t144, A110, H⟩ := H
    replace H : (detmap_Which.j0 k a2 (decide (a1 ≥ t144)) q0 q1 q2 q3 q4 q5 q6 q7) = some r := H
    have A11 := Ym A110
    clear A110
    have H' := Ym H
    clear H
    have hcz12_0 : w5.cell? ⟨gb142, 0, none⟩ = some (.int .i64 q0) := (Yh BK142.out 0).trans rfl
    have hcz12_1 : w5.cell? ⟨gb142, 1, none⟩ = some (.int .i64 q1) := (Yh BK142.out 1).trans rfl
    have hcz12_2 : w5.cell? ⟨gb142, 2, none⟩ = some (.int .i64 q2) := (Yh BK142.out 2).trans rfl
    have hcz12_3 : w5.cell? ⟨gb142, 3, none⟩ = some (.int .i64 q3) := (Yh BK142.out 3).trans rfl
    have hcz12_4 : w5.cell? ⟨gb142, 4, none⟩ = some (.int .i64 q4) := (Yh BK142.out 4).trans rfl
    have hcz12_5 : w5.cell? ⟨gb142, 5, none⟩ = some (.int .i64 q5) := (Yh BK142.out 5).trans rfl
    have hcz12_6 : w5.cell? ⟨gb142, 6, none⟩ = some (.int .i64 q6) := (Yh BK142.out 6).trans rfl
    have hcz12_7 : w5.cell? ⟨gb142, 7, none⟩ = some (.int .i64 q7) := (Yh BK142.out 7).trans rfl
    have hfz12_0 := Yi BK142.out 0
    have hfz12_1 := Yi BK142.out 1
    have hfz12_2 := Yi BK142.out 2
    have hfz12_3 := Yi BK142.out 3
    have hfz12_4 := Yi BK142.out 4
    have hfz12_5 := Yi BK142.out 5
    have hfz12_6 := Yi BK142.out 6
    have hfz12_7 := Yi BK142.out 7
    go_wp2_with (first | ((with_reducible refine gate_callee (f := 16) rfl ?_); refine goesL_ (some 10) rfl rfl Try.func16 (by kernel_rfl) rfl #[.agg #[.int .i64 q0, .int .i64 q1, .int .i64 q2, .int .i64 q3, .int .i64 q4, .int .i64 q5, .int .i64 q6, .int .i64 q7]] rfl (by (try simp only [List.map_toArray, List.map_cons, List.map_nil]); first | done | rfl | (simp only [List.length_drop, List.length_take]; rfl)) ?_; (with_reducible refine (detmap_Fit.calls q0 q1 q2 q3 q4 q5 q6 q7 true _ A6.out).mono ?_); rintro e w13 ⟨rfl, hb⟩; refine ⟨_, rfl, ?_⟩; have n0_ := Ym (Yl (g := gb142) (o := .cells #[.int .i64 q0, .int .i64 q1, .int .i64 q2, .int .i64 q3, .int .i64 q4, .int .i64 q5, .int .i64 q6, .int .i64 q7] 25 (0, 0)) (by (with_reducible repeat (first | refine Yd ?_ _ | refine Yf ?_ | refine Ye ?_ _)); exact BK142.out) hb); have n1_ := Ym (Yj (by repeat (first | (with_reducible first | exact HB.out | apply Yc | apply Ya | apply Yb | refine Yg ?_ GE142.out) | exact HB.out)) hb); clear BK142; clear HB; have BK142 := n0_; have HB := n1_; clear n0_ n1_; (try clear hb); (try clear hb2); (try clear hk); (try clear hi); have hcz14_0 : w13.cell? ⟨gb142, 0, none⟩ = some (.int .i64 q0) := (Yh BK142.out 0).trans rfl; have hcz14_1 : w13.cell? ⟨gb142, 1, none⟩ = some (.int .i64 q1) := (Yh BK142.out 1).trans rfl; have hcz14_2 : w13.cell? ⟨gb142, 2, none⟩ = some (.int .i64 q2) := (Yh BK142.out 2).trans rfl; have hcz14_3 : w13.cell? ⟨gb142, 3, none⟩ = some (.int .i64 q3) := (Yh BK142.out 3).trans rfl; have hcz14_4 : w13.cell? ⟨gb142, 4, none⟩ = some (.int .i64 q4) := (Yh BK142.out 4).trans rfl; have hcz14_5 : w13.cell? ⟨gb142, 5, none⟩ = some (.int .i64 q5) := (Yh BK142.out 5).trans rfl; have hcz14_6 : w13.cell? ⟨gb142, 6, none⟩ = some (.int .i64 q6) := (Yh BK142.out 6).trans rfl; have hcz14_7 : w13.cell? ⟨gb142, 7, none⟩ = some (.int .i64 q7) := (Yh BK142.out 7).trans rfl; have hfz14_0 := Yi BK142.out 0; have hfz14_1 := Yi BK142.out 1; have hfz14_2 := Yi BK142.out 2; have hfz14_3 := Yi BK142.out 3; have hfz14_4 := Yi BK142.out 4; have hfz14_5 := Yi BK142.out 5; have hfz14_6 := Yi BK142.out 6; have hfz14_7 := Yi BK142.out 7) | (go_at_call 27; (with_reducible refine (addr_Size.calls q2 q3 t144 _ A11.out).mono ?_); rintro e w15 ⟨rfl, hb⟩; have n0_ := Ym (Yl (g := gb142) (o := .cells #[.int .i64 q0, .int .i64 q1, .int .i64 q2, .int .i64 q3, .int .i64 q4, .int .i64 q5, .int .i64 q6, .int .i64 q7] 25 (0, 0)) (by (with_reducible repeat (first | refine Yd ?_ _ | refine Yf ?_ | refine Ye ?_ _)); exact BK142.out) hb); have n1_ := Ym (Yj (by repeat (first | (with_reducible first | exact HB.out | apply Yc | apply Ya | apply Yb | refine Yg ?_ GE142.out) | exact HB.out)) hb); clear BK142; clear HB; have BK142 := n0_; have HB := n1_; clear n0_ n1_; (try clear hb); (try clear hb2); (try clear hk); (try clear hi)))
    go_meet
    case rel => exact ⟨_, (decide (a1 ≥ t144)), (by first | rfl | (simp; done) | (simp [*]; done)), H', ⟨by first | omega | exact Nat.le_refl _⟩, ⟨by (with_reducible repeat (first | refine Yd ?_ _ | refine Yf ?_ | refine Ye ?_ _)); exact BK142.out⟩, ⟨by repeat (first | (with_reducible first | exact HB.out | apply Yc | apply Ya | apply Yb | refine Yg ?_ GE142.out) | exact HB.out)⟩⟩
  ·replace c7 := Bool.eq_false_iff.mpr c7
   subst c7
   have H1 : (detmap_Which.j0 k a2 true q0 q1 q2 q3 q4 q5 q6 q7) = some r := by rw [if_neg (show ¬ (false = true) by decide)] at H; exact H
   clear H
   have H := H1
   clear H1
   have H' := Ym H
   clear H
   have hcz16_0 : w5.cell? ⟨gb142, 0, none⟩ = some (.int .i64 q0) := (Yh BK142.out 0).trans rfl
   have hcz16_1 : w5.cell? ⟨gb142, 1, none⟩ = some (.int .i64 q1) := (Yh BK142.out 1).trans rfl
   have hcz16_2 : w5.cell? ⟨gb142, 2, none⟩ = some (.int .i64 q2) := (Yh BK142.out 2).trans rfl
   have hcz16_3 : w5.cell? ⟨gb142, 3, none⟩ = some (.int .i64 q3) := (Yh BK142.out 3).trans rfl
   have hcz16_4 : w5.cell? ⟨gb142, 4, none⟩ = some (.int .i64 q4) := (Yh BK142.out 4).trans rfl
   have hcz16_5 : w5.cell? ⟨gb142, 5, none⟩ = some (.int .i64 q5) := (Yh BK142.out 5).trans rfl
   have hcz16_6 : w5.cell? ⟨gb142, 6, none⟩ = some (.int .i64 q6) := (Yh BK142.out 6).trans rfl
   have hcz16_7 : w5.cell? ⟨gb142, 7, none⟩ = some (.int .i64 q7) := (Yh BK142.out 7).trans rfl
   have hfz16_0 := Yi BK142.out 0
   have hfz16_1 := Yi BK142.out 1
   have hfz16_2 := Yi BK142.out 2
   have hfz16_3 := Yi BK142.out 3
   have hfz16_4 := Yi BK142.out 4
   have hfz16_5 := Yi BK142.out 5
   have hfz16_6 := Yi BK142.out 6
   have hfz16_7 := Yi BK142.out 7
   go_wp2_with (first | ((with_reducible refine gate_callee (f := 16) rfl ?_); refine goesL_ (some 10) rfl rfl Try.func16 (by kernel_rfl) rfl #[.agg #[.int .i64 q0, .int .i64 q1, .int .i64 q2, .int .i64 q3, .int .i64 q4, .int .i64 q5, .int .i64 q6, .int .i64 q7]] rfl (by (try simp only [List.map_toArray, List.map_cons, List.map_nil]); first | done | rfl | (simp only [List.length_drop, List.length_take]; rfl)) ?_; (with_reducible refine (detmap_Fit.calls q0 q1 q2 q3 q4 q5 q6 q7 false _ A6.out).mono ?_); rintro e w17 ⟨rfl, hb⟩; refine ⟨_, rfl, ?_⟩; have n0_ := Ym (Yl (g := gb142) (o := .cells #[.int .i64 q0, .int .i64 q1, .int .i64 q2, .int .i64 q3, .int .i64 q4, .int .i64 q5, .int .i64 q6, .int .i64 q7] 25 (0, 0)) (by (with_reducible repeat (first | refine Yd ?_ _ | refine Yf ?_ | refine Ye ?_ _)); exact BK142.out) hb); have n1_ := Ym (Yj (by repeat (first | (with_reducible first | exact HB.out | apply Yc | apply Ya | apply Yb | refine Yg ?_ GE142.out) | exact HB.out)) hb); clear BK142; clear HB; have BK142 := n0_; have HB := n1_; clear n0_ n1_; (try clear hb); (try clear hb2); (try clear hk); (try clear hi)))
   go_meet
   case rel => exact ⟨_, (true), (by first | rfl | (simp; done) | (simp [*]; done)), H', ⟨by first | omega | exact Nat.le_refl _⟩, ⟨by (with_reducible repeat (first | refine Yd ?_ _ | refine Yf ?_ | refine Ye ?_ _)); exact BK142.out⟩, ⟨by repeat (first | (with_reducible first | exact HB.out | apply Yc | apply Ya | apply Yb | refine Yg ?_ GE142.out) | exact HB.out)⟩⟩
 case rest =>
  clear HC4
  try clear c1
  try clear c2
  try clear p2
  try clear c7
  try clear c8
  try clear c8b0
  try clear c16
  try clear hcz12_0
  try clear hcz12_1
  try clear hcz12_2
  try clear hcz12_3
  try clear hcz12_4
  try clear hcz12_5
  try clear hcz12_6
  try clear hcz12_7
  try clear hcz14_0
  try clear hcz14_1
  try clear hcz14_2
  try clear hcz14_3
  try clear hcz14_4
  try clear hcz14_5
  try clear hcz14_6
  try clear hcz14_7
  try clear hcz16_0
  try clear hcz16_1
  try clear hcz16_2
  try clear hcz16_3
  try clear hcz16_4
  try clear hcz16_5
  try clear hcz16_6
  try clear hcz16_7
  try clear hcz9_0
  try clear hcz9_1
  try clear hcz9_2
  try clear hcz9_3
  try clear hcz9_4
  try clear hcz9_5
  try clear hcz9_6
  try clear hcz9_7
  try clear hfz12_0
  try clear hfz12_1
  try clear hfz12_2
  try clear hfz12_3
  try clear hfz12_4
  try clear hfz12_5
  try clear hfz12_6
  try clear hfz12_7
  try clear hfz14_0
  try clear hfz14_1
  try clear hfz14_2
  try clear hfz14_3
  try clear hfz14_4
  try clear hfz14_5
  try clear hfz14_6
  try clear hfz14_7
  try clear hfz16_0
  try clear hfz16_1
  try clear hfz16_2
  try clear hfz16_3
  try clear hfz16_4
  try clear hfz16_5
  try clear hfz16_6
  try clear hfz16_7
  try clear hfz9_0
  try clear hfz9_1
  try clear hfz9_2
  try clear hfz9_3
  try clear hfz9_4
  try clear hfz9_5
  try clear hfz9_6
  try clear hfz9_7
  obtain ⟨kq, x22_3, rfl, HA, HJ3, BK142, HB⟩ := hcut
  cases kq with
  | zero => exact absurd HA.out (by simp [detmap_Which.j0])
  | succ kj3 =>
   have H := HA.out
   clear HA
   simp only [detmap_Which.j0] at H
   by_cases c18 : x22_3 = true
   ·subst c18
    have H1 : (some (-1)) = some r := by rw [if_pos rfl] at H; exact H
    clear H
    have H := H1
    clear H1
    obtain rfl := Option.some.inj H
    go_wp2
    go_ret
    exact ⟨by first | rfl | (simp [errW_none, errW_some] <;> rfl) | (simp [*, errW_none, errW_some] <;> rfl), by repeat (first | (with_reducible first | exact HB.out | apply Yc | apply Ya | apply Yb | refine Yg ?_ GE142.out) | exact HB.out)⟩
   ·replace c18 := Bool.eq_false_iff.mpr c18
    subst c18
    have H1 : (if a2 < (wrap64 ((wrap64 (q5 - q6)) + 1)) then (detmap_Which.j1 kj3 a2 (wrap64 ((wrap64 (q5 - q6)) + 1)) true q0 q1 q2 q3 q4 q5 q6 q7) else (detmap_Which.j1 kj3 a2 (wrap64 ((wrap64 (q5 - q6)) + 1)) (decide (a2 > q5)) q0 q1 q2 q3 q4 q5 q6 q7)) = some r := by rw [if_neg (show ¬ (false = true) by decide)] at H; exact H
    clear H
    have H := H1
    clear H1
    have HC19 := Ym H
    clear H
    have hcz20_0 : wc.cell? ⟨gb142, 0, none⟩ = some (.int .i64 q0) := (Yh BK142.out 0).trans rfl
    have hcz20_1 : wc.cell? ⟨gb142, 1, none⟩ = some (.int .i64 q1) := (Yh BK142.out 1).trans rfl
    have hcz20_2 : wc.cell? ⟨gb142, 2, none⟩ = some (.int .i64 q2) := (Yh BK142.out 2).trans rfl
    have hcz20_3 : wc.cell? ⟨gb142, 3, none⟩ = some (.int .i64 q3) := (Yh BK142.out 3).trans rfl
    have hcz20_4 : wc.cell? ⟨gb142, 4, none⟩ = some (.int .i64 q4) := (Yh BK142.out 4).trans rfl
    have hcz20_5 : wc.cell? ⟨gb142, 5, none⟩ = some (.int .i64 q5) := (Yh BK142.out 5).trans rfl
    have hcz20_6 : wc.cell? ⟨gb142, 6, none⟩ = some (.int .i64 q6) := (Yh BK142.out 6).trans rfl
    have hcz20_7 : wc.cell? ⟨gb142, 7, none⟩ = some (.int .i64 q7) := (Yh BK142.out 7).trans rfl
    have hfz20_0 := Yi BK142.out 0
    have hfz20_1 := Yi BK142.out 1
    have hfz20_2 := Yi BK142.out 2
    have hfz20_3 := Yi BK142.out 3
    have hfz20_4 := Yi BK142.out 4
    have hfz20_5 := Yi BK142.out 5
    have hfz20_6 := Yi BK142.out 6
    have hfz20_7 := Yi BK142.out 7
    go_upto_region 4 with (fail)
    go_cut [37] (fun v37 wc => ∃ (kq : Nat) (x37_18 : Bool), v37 = .bool x37_18 ∧ Aside0 (detmap_Which.j1 kq a2 (wrap64 ((wrap64 (q5 - q6)) + 1)) x37_18 q0 q1 q2 q3 q4 q5 q6 q7 = some r) ∧ Aside0 (kq ≤ kj3) ∧ Aside0 (wc.heap[gb142]? = some (.cells #[.int .i64 q0, .int .i64 q1, .int .i64 q2, .int .i64 q3, .int .i64 q4, .int .i64 q5, .int .i64 q6, .int .i64 q7] 25 (0, 0))) ∧ Aside0 (Below w.heap.size w wc))
    case first =>
     have H := HC19.out
     clear HC19
     by_cases c21 : a2 < (wrap64 ((wrap64 (q5 - q6)) + 1))
     ·rw [if_pos c21] at H
      have c21b0 : decide (a2 < (wrap64 ((wrap64 (q5 - q6)) + 1))) = true := decide_eq_true c21
      clear c21
      (first | rw [c21b0] | (simp only [i64_w, i32_w]; rw [c21b0]) | skip)
      have H' := Ym H
      clear H
      go_wp2
      go_meet
      case rel => exact ⟨_, (true), (by first | rfl | (simp; done) | (simp [*]; done)), H', ⟨by have := HJ3.out; first | omega | exact Nat.le_refl _⟩, ⟨by (with_reducible repeat (first | refine Yd ?_ _ | refine Yf ?_ | refine Ye ?_ _)); exact BK142.out⟩, ⟨by repeat (first | (with_reducible first | exact HB.out | apply Yc | apply Ya | apply Yb | refine Yg ?_ GE142.out) | exact HB.out)⟩⟩
     ·rw [if_neg c21] at H
      have c21b0 : decide (a2 < (wrap64 ((wrap64 (q5 - q6)) + 1))) = false := decide_eq_false c21
      clear c21
      (first | rw [c21b0] | (simp only [i64_w, i32_w]; rw [c21b0]) | skip)
      have H' := Ym H
      clear H
      have hcz22_0 : wc.cell? ⟨gb142, 0, none⟩ = some (.int .i64 q0) := (Yh BK142.out 0).trans rfl
      have hcz22_1 : wc.cell? ⟨gb142, 1, none⟩ = some (.int .i64 q1) := (Yh BK142.out 1).trans rfl
      have hcz22_2 : wc.cell? ⟨gb142, 2, none⟩ = some (.int .i64 q2) := (Yh BK142.out 2).trans rfl
      have hcz22_3 : wc.cell? ⟨gb142, 3, none⟩ = some (.int .i64 q3) := (Yh BK142.out 3).trans rfl
      have hcz22_4 : wc.cell? ⟨gb142, 4, none⟩ = some (.int .i64 q4) := (Yh BK142.out 4).trans rfl
      have hcz22_5 : wc.cell? ⟨gb142, 5, none⟩ = some (.int .i64 q5) := (Yh BK142.out 5).trans rfl
      have hcz22_6 : wc.cell? ⟨gb142, 6, none⟩ = some (.int .i64 q6) := (Yh BK142.out 6).trans rfl
      have hcz22_7 : wc.cell? ⟨gb142, 7, none⟩ = some (.int .i64 q7) := (Yh BK142.out 7).trans rfl
      have hfz22_0 := Yi BK142.out 0
      have hfz22_1 := Yi BK142.out 1
      have hfz22_2 := Yi BK142.out 2
      have hfz22_3 := Yi BK142.out 3
      have hfz22_4 := Yi BK142.out 4
      have hfz22_5 := Yi BK142.out 5
      have hfz22_6 := Yi BK142.out 6
      have hfz22_7 := Yi BK142.out 7
      go_wp2
      go_meet
      case rel => exact ⟨_, (decide (a2 > q5)), (by first | rfl | (simp; done) | (simp [*]; done)), H', ⟨by have := HJ3.out; first | omega | exact Nat.le_refl _⟩, ⟨by (with_reducible repeat (first | refine Yd ?_ _ | refine Yf ?_ | refine Ye ?_ _)); exact BK142.out⟩, ⟨by repeat (first | (with_reducible first | exact HB.out | apply Yc | apply Ya | apply Yb | refine Yg ?_ GE142.out) | exact HB.out)⟩⟩
    case rest =>
     clear HC19
     try clear c1
     try clear c2
     try clear p2
     try clear p6
     try clear c7
     try clear c8
     try clear c8b0
     try clear c16
     try clear c18
     try clear c21
     try clear c21b0
     try clear hcz12_0
     try clear hcz12_1
     try clear hcz12_2
     try clear hcz12_3
     try clear hcz12_4
     try clear hcz12_5
     try clear hcz12_6
     try clear hcz12_7
     try clear hcz14_0
     try clear hcz14_1
     try clear hcz14_2
     try clear hcz14_3
     try clear hcz14_4
     try clear hcz14_5
     try clear hcz14_6
     try clear hcz14_7
     try clear hcz16_0
     try clear hcz16_1
     try clear hcz16_2
     try clear hcz16_3
     try clear hcz16_4
     try clear hcz16_5
     try clear hcz16_6
     try clear hcz16_7
     try clear hcz20_0
     try clear hcz20_1
     try clear hcz20_2
     try clear hcz20_3
     try clear hcz20_4
     try clear hcz20_5
     try clear hcz20_6
     try clear hcz20_7
     try clear hcz22_0
     try clear hcz22_1
     try clear hcz22_2
     try clear hcz22_3
     try clear hcz22_4
     try clear hcz22_5
     try clear hcz22_6
     try clear hcz22_7
     try clear hcz9_0
     try clear hcz9_1
     try clear hcz9_2
     try clear hcz9_3
     try clear hcz9_4
     try clear hcz9_5
     try clear hcz9_6
     try clear hcz9_7
     try clear hfz12_0
     try clear hfz12_1
     try clear hfz12_2
     try clear hfz12_3
     try clear hfz12_4
     try clear hfz12_5
     try clear hfz12_6
     try clear hfz12_7
     try clear hfz14_0
     try clear hfz14_1
     try clear hfz14_2
     try clear hfz14_3
     try clear hfz14_4
     try clear hfz14_5
     try clear hfz14_6
     try clear hfz14_7
     try clear hfz16_0
     try clear hfz16_1
     try clear hfz16_2
     try clear hfz16_3
     try clear hfz16_4
     try clear hfz16_5
     try clear hfz16_6
     try clear hfz16_7
     try clear hfz20_0
     try clear hfz20_1
     try clear hfz20_2
     try clear hfz20_3
     try clear hfz20_4
     try clear hfz20_5
     try clear hfz20_6
     try clear hfz20_7
     try clear hfz22_0
     try clear hfz22_1
     try clear hfz22_2
     try clear hfz22_3
     try clear hfz22_4
     try clear hfz22_5
     try clear hfz22_6
     try clear hfz22_7
     try clear hfz9_0
     try clear hfz9_1
     try clear hfz9_2
     try clear hfz9_3
     try clear hfz9_4
     try clear hfz9_5
     try clear hfz9_6
     try clear hfz9_7
     try clear p2
     obtain ⟨kq, x37_18, rfl, HA, HJ18, BK142, HB⟩ := hcut
     cases kq with
     | zero => exact absurd HA.out (by simp [detmap_Which.j1])
     | succ kj18 =>
      have H := HA.out
      clear HA
      simp only [detmap_Which.j1] at H
      by_cases c23 : x37_18 = true
      ·subst c23
       have H1 : (some (-1)) = some r := by rw [if_pos rfl] at H; exact H
       clear H
       have H := H1
       clear H1
       obtain rfl := Option.some.inj H
       go_wp2
       go_ret
       exact ⟨by first | rfl | (simp [errW_none, errW_some] <;> rfl) | (simp [*, errW_none, errW_some] <;> rfl), by repeat (first | (with_reducible first | exact HB.out | apply Yc | apply Ya | apply Yb | refine Yg ?_ GE142.out) | exact HB.out)⟩
      ·replace c23 := Bool.eq_false_iff.mpr c23
       subst c23
       have H1 : (if q7 = 0 then (none) else ((detmap_Blocks.f q0 q1 q2 q3 q4 q5 q6 q7).bind fun t145 => (if (wrap64 (Int.tdiv (wrap64 (a2 - (wrap64 ((wrap64 (q5 - q6)) + 1)))) q7)) < t145 then (some (wrap64 (Int.tdiv (wrap64 (a2 - (wrap64 ((wrap64 (q5 - q6)) + 1)))) q7))) else (some (-1))))) = some r := by rw [if_neg (show ¬ (false = true) by decide)] at H; exact H
       clear H
       have H := H1
       clear H1
       by_cases c24 : q7 = 0
       ·rw [if_pos c24] at H
        exact absurd H (by simp)
       ·rw [if_neg c24] at H
        have c24b0 : (q7 == 0) = false := beq_eq_false_iff_ne.mpr c24
        have c24b1 : (q7 != 0) = true := bne_iff_ne.mpr c24
        replace H := Option.bind_eq_some_iff.mp H
        obtain ⟨t145, A250, H⟩ := H
        replace H : (if (wrap64 (Int.tdiv (wrap64 (a2 - (wrap64 ((wrap64 (q5 - q6)) + 1)))) q7)) < t145 then (some (wrap64 (Int.tdiv (wrap64 (a2 - (wrap64 ((wrap64 (q5 - q6)) + 1)))) q7))) else (some (-1))) = some r := H
        have A25 := Ym A250
        clear A250
        by_cases c26 : (wrap64 (Int.tdiv (wrap64 (a2 - (wrap64 ((wrap64 (q5 - q6)) + 1)))) q7)) < t145
        ·rw [if_pos c26] at H
         have c26b0 : decide ((wrap64 (Int.tdiv (wrap64 (a2 - (wrap64 ((wrap64 (q5 - q6)) + 1)))) q7)) < t145) = true := decide_eq_true c26
         clear c26
         obtain rfl := Option.some.inj H
         have hcz27_0 : wc.cell? ⟨gb142, 0, none⟩ = some (.int .i64 q0) := (Yh BK142.out 0).trans rfl
         have hcz27_1 : wc.cell? ⟨gb142, 1, none⟩ = some (.int .i64 q1) := (Yh BK142.out 1).trans rfl
         have hcz27_2 : wc.cell? ⟨gb142, 2, none⟩ = some (.int .i64 q2) := (Yh BK142.out 2).trans rfl
         have hcz27_3 : wc.cell? ⟨gb142, 3, none⟩ = some (.int .i64 q3) := (Yh BK142.out 3).trans rfl
         have hcz27_4 : wc.cell? ⟨gb142, 4, none⟩ = some (.int .i64 q4) := (Yh BK142.out 4).trans rfl
         have hcz27_5 : wc.cell? ⟨gb142, 5, none⟩ = some (.int .i64 q5) := (Yh BK142.out 5).trans rfl
         have hcz27_6 : wc.cell? ⟨gb142, 6, none⟩ = some (.int .i64 q6) := (Yh BK142.out 6).trans rfl
         have hcz27_7 : wc.cell? ⟨gb142, 7, none⟩ = some (.int .i64 q7) := (Yh BK142.out 7).trans rfl
         have hfz27_0 := Yi BK142.out 0
         have hfz27_1 := Yi BK142.out 1
         have hfz27_2 := Yi BK142.out 2
         have hfz27_3 := Yi BK142.out 3
         have hfz27_4 := Yi BK142.out 4
         have hfz27_5 := Yi BK142.out 5
         have hfz27_6 := Yi BK142.out 6
         have hfz27_7 := Yi BK142.out 7
         go_wp2_with (first | ((with_reducible refine gate_callee (f := 23) rfl ?_); refine goesL_ (some 46) rfl rfl Try.func23 (by kernel_rfl) rfl #[.agg #[.int .i64 q0, .int .i64 q1, .int .i64 q2, .int .i64 q3, .int .i64 q4, .int .i64 q5, .int .i64 q6, .int .i64 q7]] rfl (by (try simp only [List.map_toArray, List.map_cons, List.map_nil]); first | done | rfl | (simp only [List.length_drop, List.length_take]; rfl)) ?_; (with_reducible refine (detmap_Blocks.calls q0 q1 q2 q3 q4 q5 q6 q7 t145 _ A25.out).mono ?_); rintro e w28 ⟨rfl, hb⟩; refine ⟨_, rfl, ?_⟩; have n0_ := Ym (Yl (g := gb142) (o := .cells #[.int .i64 q0, .int .i64 q1, .int .i64 q2, .int .i64 q3, .int .i64 q4, .int .i64 q5, .int .i64 q6, .int .i64 q7] 25 (0, 0)) (by (with_reducible repeat (first | refine Yd ?_ _ | refine Yf ?_ | refine Ye ?_ _)); exact BK142.out) hb); have n1_ := Ym (Yj (by repeat (first | (with_reducible first | exact HB.out | apply Yc | apply Ya | apply Yb | refine Yg ?_ GE142.out) | exact HB.out)) hb); clear BK142; clear HB; have BK142 := n0_; have HB := n1_; clear n0_ n1_; (try clear hb); (try clear hb2); (try clear hk); (try clear hi)))
         go_ret
         exact ⟨by first | rfl | (simp [errW_none, errW_some] <;> rfl) | (simp [*, errW_none, errW_some] <;> rfl), by repeat (first | (with_reducible first | exact HB.out | apply Yc | apply Ya | apply Yb | refine Yg ?_ GE142.out) | exact HB.out)⟩
        ·rw [if_neg c26] at H
         have c26b0 : decide ((wrap64 (Int.tdiv (wrap64 (a2 - (wrap64 ((wrap64 (q5 - q6)) + 1)))) q7)) < t145) = false := decide_eq_false c26
         clear c26
         obtain rfl := Option.some.inj H
         have hcz29_0 : wc.cell? ⟨gb142, 0, none⟩ = some (.int .i64 q0) := (Yh BK142.out 0).trans rfl
         have hcz29_1 : wc.cell? ⟨gb142, 1, none⟩ = some (.int .i64 q1) := (Yh BK142.out 1).trans rfl
         have hcz29_2 : wc.cell? ⟨gb142, 2, none⟩ = some (.int .i64 q2) := (Yh BK142.out 2).trans rfl
         have hcz29_3 : wc.cell? ⟨gb142, 3, none⟩ = some (.int .i64 q3) := (Yh BK142.out 3).trans rfl
         have hcz29_4 : wc.cell? ⟨gb142, 4, none⟩ = some (.int .i64 q4) := (Yh BK142.out 4).trans rfl
         have hcz29_5 : wc.cell? ⟨gb142, 5, none⟩ = some (.int .i64 q5) := (Yh BK142.out 5).trans rfl
         have hcz29_6 : wc.cell? ⟨gb142, 6, none⟩ = some (.int .i64 q6) := (Yh BK142.out 6).trans rfl
         have hcz29_7 : wc.cell? ⟨gb142, 7, none⟩ = some (.int .i64 q7) := (Yh BK142.out 7).trans rfl
         have hfz29_0 := Yi BK142.out 0
         have hfz29_1 := Yi BK142.out 1
         have hfz29_2 := Yi BK142.out 2
         have hfz29_3 := Yi BK142.out 3
         have hfz29_4 := Yi BK142.out 4
         have hfz29_5 := Yi BK142.out 5
         have hfz29_6 := Yi BK142.out 6
         have hfz29_7 := Yi BK142.out 7
         go_wp2_with (first | ((with_reducible refine gate_callee (f := 23) rfl ?_); refine goesL_ (some 46) rfl rfl Try.func23 (by kernel_rfl) rfl #[.agg #[.int .i64 q0, .int .i64 q1, .int .i64 q2, .int .i64 q3, .int .i64 q4, .int .i64 q5, .int .i64 q6, .int .i64 q7]] rfl (by (try simp only [List.map_toArray, List.map_cons, List.map_nil]); first | done | rfl | (simp only [List.length_drop, List.length_take]; rfl)) ?_; (with_reducible refine (detmap_Blocks.calls q0 q1 q2 q3 q4 q5 q6 q7 t145 _ A25.out).mono ?_); rintro e w30 ⟨rfl, hb⟩; refine ⟨_, rfl, ?_⟩; have n0_ := Ym (Yl (g := gb142) (o := .cells #[.int .i64 q0, .int .i64 q1, .int .i64 q2, .int .i64 q3, .int .i64 q4, .int .i64 q5, .int .i64 q6, .int .i64 q7] 25 (0, 0)) (by (with_reducible repeat (first | refine Yd ?_ _ | refine Yf ?_ | refine Ye ?_ _)); exact BK142.out) hb); have n1_ := Ym (Yj (by repeat (first | (with_reducible first | exact HB.out | apply Yc | apply Ya | apply Yb | refine Yg ?_ GE142.out) | exact HB.out)) hb); clear BK142; clear HB; have BK142 := n0_; have HB := n1_; clear n0_ n1_; (try clear hb); (try clear hb2); (try clear hk); (try clear hi)))
         go_ret
         exact ⟨by first | rfl | (simp [errW_none, errW_some] <;> rfl) | (simp [*, errW_none, errW_some] <;> rfl), by repeat (first | (with_reducible first | exact HB.out | apply Yc | apply Ya | apply Yb | refine Yg ?_ GE142.out) | exact HB.out)⟩

end Go.Proofs.Ytfkdflhijfkjoaa.P
