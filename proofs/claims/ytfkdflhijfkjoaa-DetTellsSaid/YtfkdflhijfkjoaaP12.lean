-- Laid by this session's own program (wip/myprint.py): Lean functions for the Go functions that a law reaches, and their contracts. Not trusted: Lean checks it. (slimmed by wip/slim08.py)
import Derived.Test.YtfkdflhijfkjoaaP0
import Derived.Test.YtfkdflhijfkjoaaP4
import Derived.Test.YtfkdflhijfkjoaaP9
import Derived.Test.YtfkdflhijfkjoaaP11
namespace Go.Proofs.Ytfkdflhijfkjoaa.P
open Go.RowKit Go.Proofs.YtfkdflhijfkjoaaW.PrintWords Go.Proofs.YtfkdflhijfkjoaaW.PrintLast Go.Proofs.YtfkdflhijfkjoaaW.PrintMore
attribute [local go_sem] max2_int min2_int max_two min_two max_three min_three max_four min_four   -- for this text's walks alone
set_option linter.unusedVariables false
set_option linter.unusedSimpArgs false

/-! ### mooringsref08_Fit: function 15 -/
mutual
def mooringsref08_Fit.j0 : Nat → Bool → Int → Int → Int → Int → Int → Int → Int → Int → Option (Bool)
 | 0, _, _, _, _, _, _, _, _, _ => none
 | k + 1, x34, x164000, x164001, x164002, x164003, x164004, x164005, x164006, x164007 => if x34 = true then (some false) else (if x164004 < 1 then (mooringsref08_Fit.j1 k true x164000 x164001 x164002 x164003 x164004 x164005 x164006 x164007) else (if x164005 < x164004 then (mooringsref08_Fit.j1 k true x164000 x164001 x164002 x164003 x164004 x164005 x164006 x164007) else (mooringsref08_Fit.j1 k (decide (x164005 > 65535)) x164000 x164001 x164002 x164003 x164004 x164005 x164006 x164007)))
def mooringsref08_Fit.j1 : Nat → Bool → Int → Int → Int → Int → Int → Int → Int → Int → Option (Bool)
 | 0, _, _, _, _, _, _, _, _, _ => none
 | k + 1, x49, x164000, x164001, x164002, x164003, x164004, x164005, x164006, x164007 => if x49 = true then (some false) else (if x164006 < 0 then (mooringsref08_Fit.j2 k (wrap64 ((wrap64 (x164005 - x164004)) + 1)) true x164000 x164001 x164002 x164003 x164004 x164005 x164006 x164007) else (if x164006 ≥ (wrap64 ((wrap64 (x164005 - x164004)) + 1)) then (mooringsref08_Fit.j2 k (wrap64 ((wrap64 (x164005 - x164004)) + 1)) true x164000 x164001 x164002 x164003 x164004 x164005 x164006 x164007) else (if x164007 < 1 then (mooringsref08_Fit.j2 k (wrap64 ((wrap64 (x164005 - x164004)) + 1)) true x164000 x164001 x164002 x164003 x164004 x164005 x164006 x164007) else (if x164007 > 65535 then (mooringsref08_Fit.j2 k (wrap64 ((wrap64 (x164005 - x164004)) + 1)) true x164000 x164001 x164002 x164003 x164004 x164005 x164006 x164007) else (if x164007 = 0 then (none) else (mooringsref08_Fit.j2 k (wrap64 ((wrap64 (x164005 - x164004)) + 1)) (decide ((wrap64 (Int.tdiv x164006 x164007)) > 8)) x164000 x164001 x164002 x164003 x164004 x164005 x164006 x164007))))))
def mooringsref08_Fit.j2 : Nat → Int → Bool → Int → Int → Int → Int → Int → Int → Int → Int → Option (Bool)
 | 0, _, _, _, _, _, _, _, _, _, _ => none
 | k + 1, x6, x82, x164000, x164001, x164002, x164003, x164004, x164005, x164006, x164007 => if x82 = true then (some false) else ((mooringsref08_Ratio.f k x164000 x164001 x164002 x164003 x164004 x164005 x164006 x164007).bind fun t167 => (some (decide ((wrap64 (x6 - x164006)) ≥ t167))))
end
def mooringsref08_Fit.f (k : Nat) (q0 : Int) (q1 : Int) (q2 : Int) (q3 : Int) (q4 : Int) (q5 : Int) (q6 : Int) (q7 : Int) : Option (Bool) := (mooringsref07_Size.f k q0 q1).bind fun t164 => ((mooringsref07_Size.f k q2 q3).bind fun t165 => ((mooringsref07_Meet.f k q0 q1 q2 q3).bind fun t166 => (if t164 < 1 then (mooringsref08_Fit.j0 k true q0 q1 q2 q3 q4 q5 q6 q7) else (if t164 > 32 then (mooringsref08_Fit.j0 k true q0 q1 q2 q3 q4 q5 q6 q7) else (if t165 < 1 then (mooringsref08_Fit.j0 k true q0 q1 q2 q3 q4 q5 q6 q7) else (if t165 > 4 then (mooringsref08_Fit.j0 k true q0 q1 q2 q3 q4 q5 q6 q7) else (mooringsref08_Fit.j0 k t166 q0 q1 q2 q3 q4 q5 q6 q7)))))))
theorem mooringsref08_Fit.mono_l : ∀ k, (∀ y0 y1 y2 y3 y4 y5 y6 y7 y8, LeO (mooringsref08_Fit.j0 k y0 y1 y2 y3 y4 y5 y6 y7 y8) (mooringsref08_Fit.j0 (k + 1) y0 y1 y2 y3 y4 y5 y6 y7 y8)) ∧ (∀ y0 y1 y2 y3 y4 y5 y6 y7 y8, LeO (mooringsref08_Fit.j1 k y0 y1 y2 y3 y4 y5 y6 y7 y8) (mooringsref08_Fit.j1 (k + 1) y0 y1 y2 y3 y4 y5 y6 y7 y8)) ∧ (∀ y0 y1 y2 y3 y4 y5 y6 y7 y8 y9, LeO (mooringsref08_Fit.j2 k y0 y1 y2 y3 y4 y5 y6 y7 y8 y9) (mooringsref08_Fit.j2 (k + 1) y0 y1 y2 y3 y4 y5 y6 y7 y8 y9))
 | 0 => ⟨fun _ _ _ _ _ _ _ _ _ r h => by simp [mooringsref08_Fit.j0] at h, fun _ _ _ _ _ _ _ _ _ r h => by simp [mooringsref08_Fit.j1] at h, fun _ _ _ _ _ _ _ _ _ _ r h => by simp [mooringsref08_Fit.j2] at h⟩
 | k + 1 => by
  obtain ⟨ih0, ih1, ih2⟩ := mooringsref08_Fit.mono_l k
  refine ⟨?_, ?_, ?_⟩
  ·intro y0 y1 y2 y3 y4 y5 y6 y7 y8
   unfold mooringsref08_Fit.j0
   repeat' first
   | (with_reducible exact ih0 _ _ _ _ _ _ _ _ _)
   | (with_reducible exact ih1 _ _ _ _ _ _ _ _ _)
   | (with_reducible exact ih2 _ _ _ _ _ _ _ _ _ _)
   | (with_reducible exact mooringsref07_Meet.mono _ _ _ _ _)
   | (with_reducible exact mooringsref07_Size.mono _ _ _)
   | (with_reducible exact mooringsref08_Ratio.mono _ _ _ _ _ _ _ _ _)
   | (with_reducible exact LeO.refl _)
   | (with_reducible exact LeO.none _)
   | (with_reducible refine LeO.ite ?_ ?_)
   | (with_reducible refine LeO.bind ?_ (fun _ => ?_))
   | exact ih0 _ _ _ _ _ _ _ _ _
   | exact ih1 _ _ _ _ _ _ _ _ _
   | exact ih2 _ _ _ _ _ _ _ _ _ _
   | exact mooringsref07_Meet.mono _ _ _ _ _
   | exact mooringsref07_Size.mono _ _ _
   | exact mooringsref08_Ratio.mono _ _ _ _ _ _ _ _ _
   | exact LeO.none _
   | refine LeO.ite ?_ ?_
   | refine LeO.bind ?_ (fun _ => ?_)
  ·intro y0 y1 y2 y3 y4 y5 y6 y7 y8
   unfold mooringsref08_Fit.j1
   repeat' first
   | (with_reducible exact ih0 _ _ _ _ _ _ _ _ _)
   | (with_reducible exact ih1 _ _ _ _ _ _ _ _ _)
   | (with_reducible exact ih2 _ _ _ _ _ _ _ _ _ _)
   | (with_reducible exact mooringsref07_Meet.mono _ _ _ _ _)
   | (with_reducible exact mooringsref07_Size.mono _ _ _)
   | (with_reducible exact mooringsref08_Ratio.mono _ _ _ _ _ _ _ _ _)
   | (with_reducible exact LeO.refl _)
   | (with_reducible exact LeO.none _)
   | (with_reducible refine LeO.ite ?_ ?_)
   | (with_reducible refine LeO.bind ?_ (fun _ => ?_))
   | exact ih0 _ _ _ _ _ _ _ _ _
   | exact ih1 _ _ _ _ _ _ _ _ _
   | exact ih2 _ _ _ _ _ _ _ _ _ _
   | exact mooringsref07_Meet.mono _ _ _ _ _
   | exact mooringsref07_Size.mono _ _ _
   | exact mooringsref08_Ratio.mono _ _ _ _ _ _ _ _ _
   | exact LeO.none _
   | refine LeO.ite ?_ ?_
   | refine LeO.bind ?_ (fun _ => ?_)
  ·intro y0 y1 y2 y3 y4 y5 y6 y7 y8 y9
   unfold mooringsref08_Fit.j2
   repeat' first
   | (with_reducible exact ih0 _ _ _ _ _ _ _ _ _)
   | (with_reducible exact ih1 _ _ _ _ _ _ _ _ _)
   | (with_reducible exact ih2 _ _ _ _ _ _ _ _ _ _)
   | (with_reducible exact mooringsref07_Meet.mono _ _ _ _ _)
   | (with_reducible exact mooringsref07_Size.mono _ _ _)
   | (with_reducible exact mooringsref08_Ratio.mono _ _ _ _ _ _ _ _ _)
   | (with_reducible exact LeO.refl _)
   | (with_reducible exact LeO.none _)
   | (with_reducible refine LeO.ite ?_ ?_)
   | (with_reducible refine LeO.bind ?_ (fun _ => ?_))
   | exact ih0 _ _ _ _ _ _ _ _ _
   | exact ih1 _ _ _ _ _ _ _ _ _
   | exact ih2 _ _ _ _ _ _ _ _ _ _
   | exact mooringsref07_Meet.mono _ _ _ _ _
   | exact mooringsref07_Size.mono _ _ _
   | exact mooringsref08_Ratio.mono _ _ _ _ _ _ _ _ _
   | exact LeO.none _
   | refine LeO.ite ?_ ?_
   | refine LeO.bind ?_ (fun _ => ?_)
theorem mooringsref08_Fit.mono : ∀ a0 a1 a2 a3 a4 a5 a6 a7 k, LeO (mooringsref08_Fit.f k a0 a1 a2 a3 a4 a5 a6 a7) (mooringsref08_Fit.f (k + 1) a0 a1 a2 a3 a4 a5 a6 a7) := by
 intro a0 a1 a2 a3 a4 a5 a6 a7 k
 obtain ⟨ih0, ih1, ih2⟩ := mooringsref08_Fit.mono_l k
 unfold mooringsref08_Fit.f
 repeat' first
   | (with_reducible exact ih0 _ _ _ _ _ _ _ _ _)
   | (with_reducible exact ih1 _ _ _ _ _ _ _ _ _)
   | (with_reducible exact ih2 _ _ _ _ _ _ _ _ _ _)
   | (with_reducible exact mooringsref07_Meet.mono _ _ _ _ _)
   | (with_reducible exact mooringsref07_Size.mono _ _ _)
   | (with_reducible exact mooringsref08_Ratio.mono _ _ _ _ _ _ _ _ _)
   | (with_reducible exact LeO.refl _)
   | (with_reducible exact LeO.none _)
   | (with_reducible refine LeO.ite ?_ ?_)
   | (with_reducible refine LeO.bind ?_ (fun _ => ?_))
   | exact ih0 _ _ _ _ _ _ _ _ _
   | exact ih1 _ _ _ _ _ _ _ _ _
   | exact ih2 _ _ _ _ _ _ _ _ _ _
   | exact mooringsref07_Meet.mono _ _ _ _ _
   | exact mooringsref07_Size.mono _ _ _
   | exact mooringsref08_Ratio.mono _ _ _ _ _ _ _ _ _
   | exact LeO.none _
   | refine LeO.ite ?_ ?_
   | refine LeO.bind ?_ (fun _ => ?_)
def mooringsref08_Fit.T11 : Bool × List (List Nat × List Nat) := (true, [([], []), ([], []), ([1], [1]), ([0, 2], [0, 2]), ([], []), ([4], [4]), ([3, 5], [3, 5]), ([6, 5, 0, 1, 2, 3, 4, 5, 6], [6])])
def mooringsref08_Fit.B11 : List Nat := [0, 0, 2, 7, 0, 16, 63, 127]
theorem mooringsref08_Fit.tab11 : rtab .any (opsOf Try.f15 11) = mooringsref08_Fit.T11 := by kernel_rfl
theorem mooringsref08_Fit.bits11 : waitsOk mooringsref08_Fit.T11.2 mooringsref08_Fit.B11 = true := by kernel_rfl
set_option maxHeartbeats 8000000 in
set_option maxRecDepth 100000 in
theorem mooringsref08_Fit.calls (k : Nat) (q0 : Int) (q1 : Int) (q2 : Int) (q3 : Int) (q4 : Int) (q5 : Int) (q6 : Int) (q7 : Int) (r : Bool) (w : World) (h : mooringsref08_Fit.f k q0 q1 q2 q3 q4 q5 q6 q7 = some r) :
  Calls Try.prog 15 #[.agg #[.int .i64 q0, .int .i64 q1, .int .i64 q2, .int .i64 q3, .int .i64 q4, .int .i64 q5, .int .i64 q6, .int .i64 q7]] w fun e w' => e = .returned (.bool r) ∧ Below w.heap.size w w' := by
 have hu25 := Try.underlying25
 have hu23 := Try.underlying23
 have HB := Ym (Below.refl w.heap.size w)
 have H : ((mooringsref07_Size.f k q0 q1).bind fun t164 => ((mooringsref07_Size.f k q2 q3).bind fun t165 => ((mooringsref07_Meet.f k q0 q1 q2 q3).bind fun t166 => (if t164 < 1 then (mooringsref08_Fit.j0 k true q0 q1 q2 q3 q4 q5 q6 q7) else (if t164 > 32 then (mooringsref08_Fit.j0 k true q0 q1 q2 q3 q4 q5 q6 q7) else (if t165 < 1 then (mooringsref08_Fit.j0 k true q0 q1 q2 q3 q4 q5 q6 q7) else (if t165 > 4 then (mooringsref08_Fit.j0 k true q0 q1 q2 q3 q4 q5 q6 q7) else (mooringsref08_Fit.j0 k t166 q0 q1 q2 q3 q4 q5 q6 q7)))))))) = some r := h
 clear h
 replace H := Option.bind_eq_some_iff.mp H
 obtain ⟨t164, A20, H⟩ := H
 replace H : ((mooringsref07_Size.f k q2 q3).bind fun t165 => ((mooringsref07_Meet.f k q0 q1 q2 q3).bind fun t166 => (if t164 < 1 then (mooringsref08_Fit.j0 k true q0 q1 q2 q3 q4 q5 q6 q7) else (if t164 > 32 then (mooringsref08_Fit.j0 k true q0 q1 q2 q3 q4 q5 q6 q7) else (if t165 < 1 then (mooringsref08_Fit.j0 k true q0 q1 q2 q3 q4 q5 q6 q7) else (if t165 > 4 then (mooringsref08_Fit.j0 k true q0 q1 q2 q3 q4 q5 q6 q7) else (mooringsref08_Fit.j0 k t166 q0 q1 q2 q3 q4 q5 q6 q7))))))) = some r := H
 have A2 := Ym A20
 clear A20
 replace H := Option.bind_eq_some_iff.mp H
 obtain ⟨t165, A30, H⟩ := H
 replace H : ((mooringsref07_Meet.f k q0 q1 q2 q3).bind fun t166 => (if t164 < 1 then (mooringsref08_Fit.j0 k true q0 q1 q2 q3 q4 q5 q6 q7) else (if t164 > 32 then (mooringsref08_Fit.j0 k true q0 q1 q2 q3 q4 q5 q6 q7) else (if t165 < 1 then (mooringsref08_Fit.j0 k true q0 q1 q2 q3 q4 q5 q6 q7) else (if t165 > 4 then (mooringsref08_Fit.j0 k true q0 q1 q2 q3 q4 q5 q6 q7) else (mooringsref08_Fit.j0 k t166 q0 q1 q2 q3 q4 q5 q6 q7)))))) = some r := H
 have A3 := Ym A30
 clear A30
 replace H := Option.bind_eq_some_iff.mp H
 obtain ⟨t166, A40, H⟩ := H
 replace H : (if t164 < 1 then (mooringsref08_Fit.j0 k true q0 q1 q2 q3 q4 q5 q6 q7) else (if t164 > 32 then (mooringsref08_Fit.j0 k true q0 q1 q2 q3 q4 q5 q6 q7) else (if t165 < 1 then (mooringsref08_Fit.j0 k true q0 q1 q2 q3 q4 q5 q6 q7) else (if t165 > 4 then (mooringsref08_Fit.j0 k true q0 q1 q2 q3 q4 q5 q6 q7) else (mooringsref08_Fit.j0 k t166 q0 q1 q2 q3 q4 q5 q6 q7))))) = some r := H
 have A4 := Ym A40
 clear A40
 have HC5 := Ym H
 clear H
 go_enter Try.func15, Try.ntmps15
 go_upto_region 4 with (first | ((with_reducible refine gate_dst (N := 1) rfl ?_); refine box_event ?hg (N := 1) ?hd (cs := #[.int .i64 q0, .int .i64 q1, .int .i64 q2, .int .i64 q3, .int .i64 q4, .int .i64 q5, .int .i64 q6, .int .i64 q7]) (t := 25) ?hr ?_; (case hd => rfl); (case hg => rfl); (case hr => first | (go_simp; done) | (go_simp; rfl)); intro gb163 hg w6 hbox hb; have n0_ := Ym (Yj (by repeat (first | (with_reducible first | exact HB.out | apply Yc | apply Ya | apply Yb) | exact HB.out)) hb); have n1_ := Ym (hbox); have n2_ := Ym ((by rw [hg]; exact (Yk (by repeat (first | (with_reducible first | exact HB.out | apply Yc | apply Ya | apply Yb) | exact HB.out))) : w.heap.size ≤ gb163)); have n3_ := Ym ((by rw [hg]; exact (Yk (by repeat (first | (with_reducible first | exact HB.out | apply Yc | apply Ya | apply Yb) | exact HB.out))) : w.heap.size ≤ gb163)); clear HB; have HB := n0_; have BK163 := n1_; have GW163 := n2_; have GE163 := n3_; clear n0_ n1_ n2_ n3_; clear hb hbox hg; have hcz7_0 : w6.cell? ⟨gb163, 0, none⟩ = some (.int .i64 q0) := (Yh BK163.out 0).trans rfl; have hcz7_1 : w6.cell? ⟨gb163, 1, none⟩ = some (.int .i64 q1) := (Yh BK163.out 1).trans rfl; have hcz7_2 : w6.cell? ⟨gb163, 2, none⟩ = some (.int .i64 q2) := (Yh BK163.out 2).trans rfl; have hcz7_3 : w6.cell? ⟨gb163, 3, none⟩ = some (.int .i64 q3) := (Yh BK163.out 3).trans rfl; have hcz7_4 : w6.cell? ⟨gb163, 4, none⟩ = some (.int .i64 q4) := (Yh BK163.out 4).trans rfl; have hcz7_5 : w6.cell? ⟨gb163, 5, none⟩ = some (.int .i64 q5) := (Yh BK163.out 5).trans rfl; have hcz7_6 : w6.cell? ⟨gb163, 6, none⟩ = some (.int .i64 q6) := (Yh BK163.out 6).trans rfl; have hcz7_7 : w6.cell? ⟨gb163, 7, none⟩ = some (.int .i64 q7) := (Yh BK163.out 7).trans rfl; have hfz7_0 := Yi BK163.out 0; have hfz7_1 := Yi BK163.out 1; have hfz7_2 := Yi BK163.out 2; have hfz7_3 := Yi BK163.out 3; have hfz7_4 := Yi BK163.out 4; have hfz7_5 := Yi BK163.out 5; have hfz7_6 := Yi BK163.out 6; have hfz7_7 := Yi BK163.out 7) | ((with_reducible refine gate_callee (f := 28) rfl ?_); refine goesL_ (some 9) rfl rfl Try.func28 (by kernel_rfl) rfl #[.agg #[.int .i64 q0, .int .i64 q1]] rfl (by (try simp only [List.map_toArray, List.map_cons, List.map_nil]); first | done | rfl | (simp only [List.length_drop, List.length_take]; rfl)) ?_; (with_reducible refine (mooringsref07_Size.calls k q0 q1 t164 _ A2.out).mono ?_); rintro e w8 ⟨rfl, hb⟩; refine ⟨_, rfl, ?_⟩; have n0_ := Ym (Yl (g := gb163) (o := .cells #[.int .i64 q0, .int .i64 q1, .int .i64 q2, .int .i64 q3, .int .i64 q4, .int .i64 q5, .int .i64 q6, .int .i64 q7] 25 (0, 0)) (by (with_reducible repeat (first | refine Yd ?_ _ | refine Yf ?_ | refine Ye ?_ _)); exact BK163.out) hb); have n1_ := Ym (Yj (by repeat (first | (with_reducible first | exact HB.out | apply Yc | apply Ya | apply Yb | refine Yg ?_ GE163.out) | exact HB.out)) hb); clear BK163; clear HB; have BK163 := n0_; have HB := n1_; clear n0_ n1_; (try clear hb); (try clear hb2); (try clear hk); (try clear hi); have hcz9_0 : w8.cell? ⟨gb163, 0, none⟩ = some (.int .i64 q0) := (Yh BK163.out 0).trans rfl; have hcz9_1 : w8.cell? ⟨gb163, 1, none⟩ = some (.int .i64 q1) := (Yh BK163.out 1).trans rfl; have hcz9_2 : w8.cell? ⟨gb163, 2, none⟩ = some (.int .i64 q2) := (Yh BK163.out 2).trans rfl; have hcz9_3 : w8.cell? ⟨gb163, 3, none⟩ = some (.int .i64 q3) := (Yh BK163.out 3).trans rfl; have hcz9_4 : w8.cell? ⟨gb163, 4, none⟩ = some (.int .i64 q4) := (Yh BK163.out 4).trans rfl; have hcz9_5 : w8.cell? ⟨gb163, 5, none⟩ = some (.int .i64 q5) := (Yh BK163.out 5).trans rfl; have hcz9_6 : w8.cell? ⟨gb163, 6, none⟩ = some (.int .i64 q6) := (Yh BK163.out 6).trans rfl; have hcz9_7 : w8.cell? ⟨gb163, 7, none⟩ = some (.int .i64 q7) := (Yh BK163.out 7).trans rfl; have hfz9_0 := Yi BK163.out 0; have hfz9_1 := Yi BK163.out 1; have hfz9_2 := Yi BK163.out 2; have hfz9_3 := Yi BK163.out 3; have hfz9_4 := Yi BK163.out 4; have hfz9_5 := Yi BK163.out 5; have hfz9_6 := Yi BK163.out 6; have hfz9_7 := Yi BK163.out 7) | ((with_reducible refine gate_callee (f := 28) rfl ?_); refine goesL_ (some 12) rfl rfl Try.func28 (by kernel_rfl) rfl #[.agg #[.int .i64 q2, .int .i64 q3]] rfl (by (try simp only [List.map_toArray, List.map_cons, List.map_nil]); first | done | rfl | (simp only [List.length_drop, List.length_take]; rfl)) ?_; (with_reducible refine (mooringsref07_Size.calls k q2 q3 t165 _ A3.out).mono ?_); rintro e w10 ⟨rfl, hb⟩; refine ⟨_, rfl, ?_⟩; have n0_ := Ym (Yl (g := gb163) (o := .cells #[.int .i64 q0, .int .i64 q1, .int .i64 q2, .int .i64 q3, .int .i64 q4, .int .i64 q5, .int .i64 q6, .int .i64 q7] 25 (0, 0)) (by (with_reducible repeat (first | refine Yd ?_ _ | refine Yf ?_ | refine Ye ?_ _)); exact BK163.out) hb); have n1_ := Ym (Yj (by repeat (first | (with_reducible first | exact HB.out | apply Yc | apply Ya | apply Yb | refine Yg ?_ GE163.out) | exact HB.out)) hb); clear BK163; clear HB; have BK163 := n0_; have HB := n1_; clear n0_ n1_; (try clear hb); (try clear hb2); (try clear hk); (try clear hi); have hcz11_0 : w10.cell? ⟨gb163, 0, none⟩ = some (.int .i64 q0) := (Yh BK163.out 0).trans rfl; have hcz11_1 : w10.cell? ⟨gb163, 1, none⟩ = some (.int .i64 q1) := (Yh BK163.out 1).trans rfl; have hcz11_2 : w10.cell? ⟨gb163, 2, none⟩ = some (.int .i64 q2) := (Yh BK163.out 2).trans rfl; have hcz11_3 : w10.cell? ⟨gb163, 3, none⟩ = some (.int .i64 q3) := (Yh BK163.out 3).trans rfl; have hcz11_4 : w10.cell? ⟨gb163, 4, none⟩ = some (.int .i64 q4) := (Yh BK163.out 4).trans rfl; have hcz11_5 : w10.cell? ⟨gb163, 5, none⟩ = some (.int .i64 q5) := (Yh BK163.out 5).trans rfl; have hcz11_6 : w10.cell? ⟨gb163, 6, none⟩ = some (.int .i64 q6) := (Yh BK163.out 6).trans rfl; have hcz11_7 : w10.cell? ⟨gb163, 7, none⟩ = some (.int .i64 q7) := (Yh BK163.out 7).trans rfl; have hfz11_0 := Yi BK163.out 0; have hfz11_1 := Yi BK163.out 1; have hfz11_2 := Yi BK163.out 2; have hfz11_3 := Yi BK163.out 3; have hfz11_4 := Yi BK163.out 4; have hfz11_5 := Yi BK163.out 5; have hfz11_6 := Yi BK163.out 6; have hfz11_7 := Yi BK163.out 7) | ((with_reducible refine gate_callee (f := 29) rfl ?_); refine goesL_ (some 17) rfl rfl Try.func29 (by kernel_rfl) rfl #[.agg #[.int .i64 q0, .int .i64 q1], .agg #[.int .i64 q2, .int .i64 q3]] rfl (by (try simp only [List.map_toArray, List.map_cons, List.map_nil]); first | done | rfl | (simp only [List.length_drop, List.length_take]; rfl)) ?_; (with_reducible refine (mooringsref07_Meet.calls k q0 q1 q2 q3 t166 _ A4.out).mono ?_); rintro e w12 ⟨rfl, hb⟩; refine ⟨_, rfl, ?_⟩; have n0_ := Ym (Yl (g := gb163) (o := .cells #[.int .i64 q0, .int .i64 q1, .int .i64 q2, .int .i64 q3, .int .i64 q4, .int .i64 q5, .int .i64 q6, .int .i64 q7] 25 (0, 0)) (by (with_reducible repeat (first | refine Yd ?_ _ | refine Yf ?_ | refine Ye ?_ _)); exact BK163.out) hb); have n1_ := Ym (Yj (by repeat (first | (with_reducible first | exact HB.out | apply Yc | apply Ya | apply Yb | refine Yg ?_ GE163.out) | exact HB.out)) hb); clear BK163; clear HB; have BK163 := n0_; have HB := n1_; clear n0_ n1_; (try clear hb); (try clear hb2); (try clear hk); (try clear hi)))
 (try simp only [Act.put, Yo, Yp, Yq])
 go_cut [34] (fun v34 wc => ∃ (kq : Nat) (x34_4 : Bool), v34 = .bool x34_4 ∧ Aside0 (mooringsref08_Fit.j0 kq x34_4 q0 q1 q2 q3 q4 q5 q6 q7 = some r) ∧ Aside0 (kq ≤ k) ∧ Aside0 (wc.heap[gb163]? = some (.cells #[.int .i64 q0, .int .i64 q1, .int .i64 q2, .int .i64 q3, .int .i64 q4, .int .i64 q5, .int .i64 q6, .int .i64 q7] 25 (0, 0))) ∧ Aside0 (Below w.heap.size w wc))
 case first =>
  have H := HC5.out
  clear HC5
  by_cases c13 : t164 < 1
  ·rw [if_pos c13] at H
   have c13b0 : decide (t164 < 1) = true := decide_eq_true c13
   clear c13
   (first | rw [c13b0] | (simp only [i64_w, i32_w]; rw [c13b0]) | skip)
   have H' := Ym H
   clear H
   go_wp2
   go_meet
   case rel => exact ⟨_, (true), (by first | rfl | (simp; done) | (simp [*]; done)), H', ⟨by first | omega | exact Nat.le_refl _⟩, ⟨by (with_reducible repeat (first | refine Yd ?_ _ | refine Yf ?_ | refine Ye ?_ _)); exact BK163.out⟩, ⟨by repeat (first | (with_reducible first | exact HB.out | apply Yc | apply Ya | apply Yb | refine Yg ?_ GE163.out) | exact HB.out)⟩⟩
  ·rw [if_neg c13] at H
   have c13b0 : decide (t164 < 1) = false := decide_eq_false c13
   clear c13
   (first | rw [c13b0] | (simp only [i64_w, i32_w]; rw [c13b0]) | skip)
   by_cases c14 : t164 > 32
   ·rw [if_pos c14] at H
    have c14b0 : decide (32 < t164) = true := decide_eq_true c14
    clear c14
    have H' := Ym H
    clear H
    go_wp2
    go_meet
    case rel => exact ⟨_, (true), (by first | rfl | (simp; done) | (simp [*]; done)), H', ⟨by first | omega | exact Nat.le_refl _⟩, ⟨by (with_reducible repeat (first | refine Yd ?_ _ | refine Yf ?_ | refine Ye ?_ _)); exact BK163.out⟩, ⟨by repeat (first | (with_reducible first | exact HB.out | apply Yc | apply Ya | apply Yb | refine Yg ?_ GE163.out) | exact HB.out)⟩⟩
   ·rw [if_neg c14] at H
    have c14b0 : decide (32 < t164) = false := decide_eq_false c14
    clear c14
    by_cases c15 : t165 < 1
    ·rw [if_pos c15] at H
     have c15b0 : decide (t165 < 1) = true := decide_eq_true c15
     clear c15
     have H' := Ym H
     clear H
     go_wp2
     go_meet
     case rel => exact ⟨_, (true), (by first | rfl | (simp; done) | (simp [*]; done)), H', ⟨by first | omega | exact Nat.le_refl _⟩, ⟨by (with_reducible repeat (first | refine Yd ?_ _ | refine Yf ?_ | refine Ye ?_ _)); exact BK163.out⟩, ⟨by repeat (first | (with_reducible first | exact HB.out | apply Yc | apply Ya | apply Yb | refine Yg ?_ GE163.out) | exact HB.out)⟩⟩
    ·rw [if_neg c15] at H
     have c15b0 : decide (t165 < 1) = false := decide_eq_false c15
     clear c15
     by_cases c16 : t165 > 4
     ·rw [if_pos c16] at H
      have c16b0 : decide (4 < t165) = true := decide_eq_true c16
      clear c16
      have H' := Ym H
      clear H
      go_wp2
      go_meet
      case rel => exact ⟨_, (true), (by first | rfl | (simp; done) | (simp [*]; done)), H', ⟨by first | omega | exact Nat.le_refl _⟩, ⟨by (with_reducible repeat (first | refine Yd ?_ _ | refine Yf ?_ | refine Ye ?_ _)); exact BK163.out⟩, ⟨by repeat (first | (with_reducible first | exact HB.out | apply Yc | apply Ya | apply Yb | refine Yg ?_ GE163.out) | exact HB.out)⟩⟩
     ·rw [if_neg c16] at H
      have c16b0 : decide (4 < t165) = false := decide_eq_false c16
      clear c16
      have H' := Ym H
      clear H
      go_wp2
      go_meet
      case rel => exact ⟨_, (t166), (by first | rfl | (simp; done) | (simp [*]; done)), H', ⟨by first | omega | exact Nat.le_refl _⟩, ⟨by (with_reducible repeat (first | refine Yd ?_ _ | refine Yf ?_ | refine Ye ?_ _)); exact BK163.out⟩, ⟨by repeat (first | (with_reducible first | exact HB.out | apply Yc | apply Ya | apply Yb | refine Yg ?_ GE163.out) | exact HB.out)⟩⟩
 case rest =>
  clear HC5
  try clear c1
  try clear c2
  try clear p2
  try clear c13
  try clear c13b0
  try clear c14
  try clear c14b0
  try clear c15
  try clear c15b0
  try clear c16
  try clear c16b0
  try clear hcz11_0
  try clear hcz11_1
  try clear hcz11_2
  try clear hcz11_3
  try clear hcz11_4
  try clear hcz11_5
  try clear hcz11_6
  try clear hcz11_7
  try clear hcz7_0
  try clear hcz7_1
  try clear hcz7_2
  try clear hcz7_3
  try clear hcz7_4
  try clear hcz7_5
  try clear hcz7_6
  try clear hcz7_7
  try clear hcz9_0
  try clear hcz9_1
  try clear hcz9_2
  try clear hcz9_3
  try clear hcz9_4
  try clear hcz9_5
  try clear hcz9_6
  try clear hcz9_7
  try clear hfz11_0
  try clear hfz11_1
  try clear hfz11_2
  try clear hfz11_3
  try clear hfz11_4
  try clear hfz11_5
  try clear hfz11_6
  try clear hfz11_7
  try clear hfz7_0
  try clear hfz7_1
  try clear hfz7_2
  try clear hfz7_3
  try clear hfz7_4
  try clear hfz7_5
  try clear hfz7_6
  try clear hfz7_7
  try clear hfz9_0
  try clear hfz9_1
  try clear hfz9_2
  try clear hfz9_3
  try clear hfz9_4
  try clear hfz9_5
  try clear hfz9_6
  try clear hfz9_7
  obtain ⟨kq, x34_4, rfl, HA, HJ4, BK163, HB⟩ := hcut
  cases kq with
  | zero => exact absurd HA.out (by simp [mooringsref08_Fit.j0])
  | succ kj4 =>
   have H := HA.out
   clear HA
   simp only [mooringsref08_Fit.j0] at H
   by_cases c17 : x34_4 = true
   ·subst c17
    have H1 : (some false) = some r := by rw [if_pos rfl] at H; exact H
    clear H
    have H := H1
    clear H1
    obtain rfl := Option.some.inj H
    go_wp2
    go_ret
    exact ⟨by first | rfl | (simp [errW_none, errW_some] <;> rfl) | (simp [*, errW_none, errW_some] <;> rfl), by repeat (first | (with_reducible first | exact HB.out | apply Yc | apply Ya | apply Yb | refine Yg ?_ GE163.out) | exact HB.out)⟩
   ·replace c17 := Bool.eq_false_iff.mpr c17
    subst c17
    have H1 : (if q4 < 1 then (mooringsref08_Fit.j1 kj4 true q0 q1 q2 q3 q4 q5 q6 q7) else (if q5 < q4 then (mooringsref08_Fit.j1 kj4 true q0 q1 q2 q3 q4 q5 q6 q7) else (mooringsref08_Fit.j1 kj4 (decide (q5 > 65535)) q0 q1 q2 q3 q4 q5 q6 q7))) = some r := by rw [if_neg (show ¬ (false = true) by decide)] at H; exact H
    clear H
    have H := H1
    clear H1
    have HC18 := Ym H
    clear H
    go_upto_region 6 with (fail)
    go_cut [49] (fun v49 wc => ∃ (kq : Nat) (x49_17 : Bool), v49 = .bool x49_17 ∧ Aside0 (mooringsref08_Fit.j1 kq x49_17 q0 q1 q2 q3 q4 q5 q6 q7 = some r) ∧ Aside0 (kq ≤ kj4) ∧ Aside0 (wc.heap[gb163]? = some (.cells #[.int .i64 q0, .int .i64 q1, .int .i64 q2, .int .i64 q3, .int .i64 q4, .int .i64 q5, .int .i64 q6, .int .i64 q7] 25 (0, 0))) ∧ Aside0 (Below w.heap.size w wc))
    case first =>
     have H := HC18.out
     clear HC18
     by_cases c19 : q4 < 1
     ·rw [if_pos c19] at H
      have c19b0 : decide (q4 < 1) = true := decide_eq_true c19
      clear c19
      (first | rw [c19b0] | (simp only [i64_w, i32_w]; rw [c19b0]) | skip)
      have H' := Ym H
      clear H
      have hcz20_0 : wc.cell? ⟨gb163, 0, none⟩ = some (.int .i64 q0) := (Yh BK163.out 0).trans rfl
      have hcz20_1 : wc.cell? ⟨gb163, 1, none⟩ = some (.int .i64 q1) := (Yh BK163.out 1).trans rfl
      have hcz20_2 : wc.cell? ⟨gb163, 2, none⟩ = some (.int .i64 q2) := (Yh BK163.out 2).trans rfl
      have hcz20_3 : wc.cell? ⟨gb163, 3, none⟩ = some (.int .i64 q3) := (Yh BK163.out 3).trans rfl
      have hcz20_4 : wc.cell? ⟨gb163, 4, none⟩ = some (.int .i64 q4) := (Yh BK163.out 4).trans rfl
      have hcz20_5 : wc.cell? ⟨gb163, 5, none⟩ = some (.int .i64 q5) := (Yh BK163.out 5).trans rfl
      have hcz20_6 : wc.cell? ⟨gb163, 6, none⟩ = some (.int .i64 q6) := (Yh BK163.out 6).trans rfl
      have hcz20_7 : wc.cell? ⟨gb163, 7, none⟩ = some (.int .i64 q7) := (Yh BK163.out 7).trans rfl
      have hfz20_0 := Yi BK163.out 0
      have hfz20_1 := Yi BK163.out 1
      have hfz20_2 := Yi BK163.out 2
      have hfz20_3 := Yi BK163.out 3
      have hfz20_4 := Yi BK163.out 4
      have hfz20_5 := Yi BK163.out 5
      have hfz20_6 := Yi BK163.out 6
      have hfz20_7 := Yi BK163.out 7
      go_wp2
      go_meet
      case rel => exact ⟨_, (true), (by first | rfl | (simp; done) | (simp [*]; done)), H', ⟨by have := HJ4.out; first | omega | exact Nat.le_refl _⟩, ⟨by (with_reducible repeat (first | refine Yd ?_ _ | refine Yf ?_ | refine Ye ?_ _)); exact BK163.out⟩, ⟨by repeat (first | (with_reducible first | exact HB.out | apply Yc | apply Ya | apply Yb | refine Yg ?_ GE163.out) | exact HB.out)⟩⟩
     ·rw [if_neg c19] at H
      have c19b0 : decide (q4 < 1) = false := decide_eq_false c19
      clear c19
      (first | rw [c19b0] | (simp only [i64_w, i32_w]; rw [c19b0]) | skip)
      by_cases c21 : q5 < q4
      ·rw [if_pos c21] at H
       have c21b0 : decide (q5 < q4) = true := decide_eq_true c21
       clear c21
       have H' := Ym H
       clear H
       have hcz22_0 : wc.cell? ⟨gb163, 0, none⟩ = some (.int .i64 q0) := (Yh BK163.out 0).trans rfl
       have hcz22_1 : wc.cell? ⟨gb163, 1, none⟩ = some (.int .i64 q1) := (Yh BK163.out 1).trans rfl
       have hcz22_2 : wc.cell? ⟨gb163, 2, none⟩ = some (.int .i64 q2) := (Yh BK163.out 2).trans rfl
       have hcz22_3 : wc.cell? ⟨gb163, 3, none⟩ = some (.int .i64 q3) := (Yh BK163.out 3).trans rfl
       have hcz22_4 : wc.cell? ⟨gb163, 4, none⟩ = some (.int .i64 q4) := (Yh BK163.out 4).trans rfl
       have hcz22_5 : wc.cell? ⟨gb163, 5, none⟩ = some (.int .i64 q5) := (Yh BK163.out 5).trans rfl
       have hcz22_6 : wc.cell? ⟨gb163, 6, none⟩ = some (.int .i64 q6) := (Yh BK163.out 6).trans rfl
       have hcz22_7 : wc.cell? ⟨gb163, 7, none⟩ = some (.int .i64 q7) := (Yh BK163.out 7).trans rfl
       have hfz22_0 := Yi BK163.out 0
       have hfz22_1 := Yi BK163.out 1
       have hfz22_2 := Yi BK163.out 2
       have hfz22_3 := Yi BK163.out 3
       have hfz22_4 := Yi BK163.out 4
       have hfz22_5 := Yi BK163.out 5
       have hfz22_6 := Yi BK163.out 6
       have hfz22_7 := Yi BK163.out 7
       go_wp2
       go_meet
       case rel => exact ⟨_, (true), (by first | rfl | (simp; done) | (simp [*]; done)), H', ⟨by have := HJ4.out; first | omega | exact Nat.le_refl _⟩, ⟨by (with_reducible repeat (first | refine Yd ?_ _ | refine Yf ?_ | refine Ye ?_ _)); exact BK163.out⟩, ⟨by repeat (first | (with_reducible first | exact HB.out | apply Yc | apply Ya | apply Yb | refine Yg ?_ GE163.out) | exact HB.out)⟩⟩
      ·rw [if_neg c21] at H
       have c21b0 : decide (q5 < q4) = false := decide_eq_false c21
       clear c21
       have H' := Ym H
       clear H
       have hcz23_0 : wc.cell? ⟨gb163, 0, none⟩ = some (.int .i64 q0) := (Yh BK163.out 0).trans rfl
       have hcz23_1 : wc.cell? ⟨gb163, 1, none⟩ = some (.int .i64 q1) := (Yh BK163.out 1).trans rfl
       have hcz23_2 : wc.cell? ⟨gb163, 2, none⟩ = some (.int .i64 q2) := (Yh BK163.out 2).trans rfl
       have hcz23_3 : wc.cell? ⟨gb163, 3, none⟩ = some (.int .i64 q3) := (Yh BK163.out 3).trans rfl
       have hcz23_4 : wc.cell? ⟨gb163, 4, none⟩ = some (.int .i64 q4) := (Yh BK163.out 4).trans rfl
       have hcz23_5 : wc.cell? ⟨gb163, 5, none⟩ = some (.int .i64 q5) := (Yh BK163.out 5).trans rfl
       have hcz23_6 : wc.cell? ⟨gb163, 6, none⟩ = some (.int .i64 q6) := (Yh BK163.out 6).trans rfl
       have hcz23_7 : wc.cell? ⟨gb163, 7, none⟩ = some (.int .i64 q7) := (Yh BK163.out 7).trans rfl
       have hfz23_0 := Yi BK163.out 0
       have hfz23_1 := Yi BK163.out 1
       have hfz23_2 := Yi BK163.out 2
       have hfz23_3 := Yi BK163.out 3
       have hfz23_4 := Yi BK163.out 4
       have hfz23_5 := Yi BK163.out 5
       have hfz23_6 := Yi BK163.out 6
       have hfz23_7 := Yi BK163.out 7
       go_wp2
       go_meet
       case rel => exact ⟨_, (decide (q5 > 65535)), (by first | rfl | (simp; done) | (simp [*]; done)), H', ⟨by have := HJ4.out; first | omega | exact Nat.le_refl _⟩, ⟨by (with_reducible repeat (first | refine Yd ?_ _ | refine Yf ?_ | refine Ye ?_ _)); exact BK163.out⟩, ⟨by repeat (first | (with_reducible first | exact HB.out | apply Yc | apply Ya | apply Yb | refine Yg ?_ GE163.out) | exact HB.out)⟩⟩
    case rest =>
     clear HC18
     try clear c1
     try clear c2
     try clear p2
     try clear c13
     try clear c13b0
     try clear c14
     try clear c14b0
     try clear c15
     try clear c15b0
     try clear c16
     try clear c16b0
     try clear c17
     try clear c19
     try clear c19b0
     try clear c21
     try clear c21b0
     try clear hcz11_0
     try clear hcz11_1
     try clear hcz11_2
     try clear hcz11_3
     try clear hcz11_4
     try clear hcz11_5
     try clear hcz11_6
     try clear hcz11_7
     try clear hcz20_0
     try clear hcz20_1
     try clear hcz20_2
     try clear hcz20_3
     try clear hcz20_4
     try clear hcz20_5
     try clear hcz20_6
     try clear hcz20_7
     try clear hcz22_0
     try clear hcz22_1
     try clear hcz22_2
     try clear hcz22_3
     try clear hcz22_4
     try clear hcz22_5
     try clear hcz22_6
     try clear hcz22_7
     try clear hcz23_0
     try clear hcz23_1
     try clear hcz23_2
     try clear hcz23_3
     try clear hcz23_4
     try clear hcz23_5
     try clear hcz23_6
     try clear hcz23_7
     try clear hcz7_0
     try clear hcz7_1
     try clear hcz7_2
     try clear hcz7_3
     try clear hcz7_4
     try clear hcz7_5
     try clear hcz7_6
     try clear hcz7_7
     try clear hcz9_0
     try clear hcz9_1
     try clear hcz9_2
     try clear hcz9_3
     try clear hcz9_4
     try clear hcz9_5
     try clear hcz9_6
     try clear hcz9_7
     try clear hfz11_0
     try clear hfz11_1
     try clear hfz11_2
     try clear hfz11_3
     try clear hfz11_4
     try clear hfz11_5
     try clear hfz11_6
     try clear hfz11_7
     try clear hfz20_0
     try clear hfz20_1
     try clear hfz20_2
     try clear hfz20_3
     try clear hfz20_4
     try clear hfz20_5
     try clear hfz20_6
     try clear hfz20_7
     try clear hfz22_0
     try clear hfz22_1
     try clear hfz22_2
     try clear hfz22_3
     try clear hfz22_4
     try clear hfz22_5
     try clear hfz22_6
     try clear hfz22_7
     try clear hfz23_0
     try clear hfz23_1
     try clear hfz23_2
     try clear hfz23_3
     try clear hfz23_4
     try clear hfz23_5
     try clear hfz23_6
     try clear hfz23_7
     try clear hfz7_0
     try clear hfz7_1
     try clear hfz7_2
     try clear hfz7_3
     try clear hfz7_4
     try clear hfz7_5
     try clear hfz7_6
     try clear hfz7_7
     try clear hfz9_0
     try clear hfz9_1
     try clear hfz9_2
     try clear hfz9_3
     try clear hfz9_4
     try clear hfz9_5
     try clear hfz9_6
     try clear hfz9_7
     try clear p2
     obtain ⟨kq, x49_17, rfl, HA, HJ17, BK163, HB⟩ := hcut
     cases kq with
     | zero => exact absurd HA.out (by simp [mooringsref08_Fit.j1])
     | succ kj17 =>
      have H := HA.out
      clear HA
      simp only [mooringsref08_Fit.j1] at H
      by_cases c24 : x49_17 = true
      ·subst c24
       have H1 : (some false) = some r := by rw [if_pos rfl] at H; exact H
       clear H
       have H := H1
       clear H1
       obtain rfl := Option.some.inj H
       go_wp2
       go_ret
       exact ⟨by first | rfl | (simp [errW_none, errW_some] <;> rfl) | (simp [*, errW_none, errW_some] <;> rfl), by repeat (first | (with_reducible first | exact HB.out | apply Yc | apply Ya | apply Yb | refine Yg ?_ GE163.out) | exact HB.out)⟩
      ·replace c24 := Bool.eq_false_iff.mpr c24
       subst c24
       have H1 : (if q6 < 0 then (mooringsref08_Fit.j2 kj17 (wrap64 ((wrap64 (q5 - q4)) + 1)) true q0 q1 q2 q3 q4 q5 q6 q7) else (if q6 ≥ (wrap64 ((wrap64 (q5 - q4)) + 1)) then (mooringsref08_Fit.j2 kj17 (wrap64 ((wrap64 (q5 - q4)) + 1)) true q0 q1 q2 q3 q4 q5 q6 q7) else (if q7 < 1 then (mooringsref08_Fit.j2 kj17 (wrap64 ((wrap64 (q5 - q4)) + 1)) true q0 q1 q2 q3 q4 q5 q6 q7) else (if q7 > 65535 then (mooringsref08_Fit.j2 kj17 (wrap64 ((wrap64 (q5 - q4)) + 1)) true q0 q1 q2 q3 q4 q5 q6 q7) else (if q7 = 0 then (none) else (mooringsref08_Fit.j2 kj17 (wrap64 ((wrap64 (q5 - q4)) + 1)) (decide ((wrap64 (Int.tdiv q6 q7)) > 8)) q0 q1 q2 q3 q4 q5 q6 q7)))))) = some r := by rw [if_neg (show ¬ (false = true) by decide)] at H; exact H
       clear H
       have H := H1
       clear H1
       have HC25 := Ym H
       clear H
       have hcz26_0 : wc.cell? ⟨gb163, 0, none⟩ = some (.int .i64 q0) := (Yh BK163.out 0).trans rfl
       have hcz26_1 : wc.cell? ⟨gb163, 1, none⟩ = some (.int .i64 q1) := (Yh BK163.out 1).trans rfl
       have hcz26_2 : wc.cell? ⟨gb163, 2, none⟩ = some (.int .i64 q2) := (Yh BK163.out 2).trans rfl
       have hcz26_3 : wc.cell? ⟨gb163, 3, none⟩ = some (.int .i64 q3) := (Yh BK163.out 3).trans rfl
       have hcz26_4 : wc.cell? ⟨gb163, 4, none⟩ = some (.int .i64 q4) := (Yh BK163.out 4).trans rfl
       have hcz26_5 : wc.cell? ⟨gb163, 5, none⟩ = some (.int .i64 q5) := (Yh BK163.out 5).trans rfl
       have hcz26_6 : wc.cell? ⟨gb163, 6, none⟩ = some (.int .i64 q6) := (Yh BK163.out 6).trans rfl
       have hcz26_7 : wc.cell? ⟨gb163, 7, none⟩ = some (.int .i64 q7) := (Yh BK163.out 7).trans rfl
       have hfz26_0 := Yi BK163.out 0
       have hfz26_1 := Yi BK163.out 1
       have hfz26_2 := Yi BK163.out 2
       have hfz26_3 := Yi BK163.out 3
       have hfz26_4 := Yi BK163.out 4
       have hfz26_5 := Yi BK163.out 5
       have hfz26_6 := Yi BK163.out 6
       have hfz26_7 := Yi BK163.out 7
       go_upto_region 9 with (fail)
       go_cut [82] (fun v82 wc => ∃ (kq : Nat) (x82_24 : Bool), v82 = .bool x82_24 ∧ Aside0 (mooringsref08_Fit.j2 kq (wrap64 ((wrap64 (q5 - q4)) + 1)) x82_24 q0 q1 q2 q3 q4 q5 q6 q7 = some r) ∧ Aside0 (kq ≤ kj17) ∧ Aside0 (wc.heap[gb163]? = some (.cells #[.int .i64 q0, .int .i64 q1, .int .i64 q2, .int .i64 q3, .int .i64 q4, .int .i64 q5, .int .i64 q6, .int .i64 q7] 25 (0, 0))) ∧ Aside0 (Below w.heap.size w wc))
       case first =>
        have H := HC25.out
        clear HC25
        by_cases c27 : q6 < 0
        ·rw [if_pos c27] at H
         have c27b0 : decide (q6 < 0) = true := decide_eq_true c27
         clear c27
         (first | rw [c27b0] | (simp only [i64_w, i32_w]; rw [c27b0]) | skip)
         have H' := Ym H
         clear H
         have hcz28_0 : wc.cell? ⟨gb163, 0, none⟩ = some (.int .i64 q0) := (Yh BK163.out 0).trans rfl
         have hcz28_1 : wc.cell? ⟨gb163, 1, none⟩ = some (.int .i64 q1) := (Yh BK163.out 1).trans rfl
         have hcz28_2 : wc.cell? ⟨gb163, 2, none⟩ = some (.int .i64 q2) := (Yh BK163.out 2).trans rfl
         have hcz28_3 : wc.cell? ⟨gb163, 3, none⟩ = some (.int .i64 q3) := (Yh BK163.out 3).trans rfl
         have hcz28_4 : wc.cell? ⟨gb163, 4, none⟩ = some (.int .i64 q4) := (Yh BK163.out 4).trans rfl
         have hcz28_5 : wc.cell? ⟨gb163, 5, none⟩ = some (.int .i64 q5) := (Yh BK163.out 5).trans rfl
         have hcz28_6 : wc.cell? ⟨gb163, 6, none⟩ = some (.int .i64 q6) := (Yh BK163.out 6).trans rfl
         have hcz28_7 : wc.cell? ⟨gb163, 7, none⟩ = some (.int .i64 q7) := (Yh BK163.out 7).trans rfl
         have hfz28_0 := Yi BK163.out 0
         have hfz28_1 := Yi BK163.out 1
         have hfz28_2 := Yi BK163.out 2
         have hfz28_3 := Yi BK163.out 3
         have hfz28_4 := Yi BK163.out 4
         have hfz28_5 := Yi BK163.out 5
         have hfz28_6 := Yi BK163.out 6
         have hfz28_7 := Yi BK163.out 7
         go_wp2
         go_meet
         case rel => exact ⟨_, (true), (by first | rfl | (simp; done) | (simp [*]; done)), H', ⟨by have := HJ4.out; have := HJ17.out; first | omega | exact Nat.le_refl _⟩, ⟨by (with_reducible repeat (first | refine Yd ?_ _ | refine Yf ?_ | refine Ye ?_ _)); exact BK163.out⟩, ⟨by repeat (first | (with_reducible first | exact HB.out | apply Yc | apply Ya | apply Yb | refine Yg ?_ GE163.out) | exact HB.out)⟩⟩
        ·rw [if_neg c27] at H
         have c27b0 : decide (q6 < 0) = false := decide_eq_false c27
         clear c27
         (first | rw [c27b0] | (simp only [i64_w, i32_w]; rw [c27b0]) | skip)
         by_cases c29 : q6 ≥ (wrap64 ((wrap64 (q5 - q4)) + 1))
         ·rw [if_pos c29] at H
          have c29b0 : decide ((wrap64 ((wrap64 (q5 - q4)) + 1)) ≤ q6) = true := decide_eq_true c29
          clear c29
          have H' := Ym H
          clear H
          have hcz30_0 : wc.cell? ⟨gb163, 0, none⟩ = some (.int .i64 q0) := (Yh BK163.out 0).trans rfl
          have hcz30_1 : wc.cell? ⟨gb163, 1, none⟩ = some (.int .i64 q1) := (Yh BK163.out 1).trans rfl
          have hcz30_2 : wc.cell? ⟨gb163, 2, none⟩ = some (.int .i64 q2) := (Yh BK163.out 2).trans rfl
          have hcz30_3 : wc.cell? ⟨gb163, 3, none⟩ = some (.int .i64 q3) := (Yh BK163.out 3).trans rfl
          have hcz30_4 : wc.cell? ⟨gb163, 4, none⟩ = some (.int .i64 q4) := (Yh BK163.out 4).trans rfl
          have hcz30_5 : wc.cell? ⟨gb163, 5, none⟩ = some (.int .i64 q5) := (Yh BK163.out 5).trans rfl
          have hcz30_6 : wc.cell? ⟨gb163, 6, none⟩ = some (.int .i64 q6) := (Yh BK163.out 6).trans rfl
          have hcz30_7 : wc.cell? ⟨gb163, 7, none⟩ = some (.int .i64 q7) := (Yh BK163.out 7).trans rfl
          have hfz30_0 := Yi BK163.out 0
          have hfz30_1 := Yi BK163.out 1
          have hfz30_2 := Yi BK163.out 2
          have hfz30_3 := Yi BK163.out 3
          have hfz30_4 := Yi BK163.out 4
          have hfz30_5 := Yi BK163.out 5
          have hfz30_6 := Yi BK163.out 6
          have hfz30_7 := Yi BK163.out 7
          go_wp2
          go_meet
          case rel => exact ⟨_, (true), (by first | rfl | (simp; done) | (simp [*]; done)), H', ⟨by have := HJ4.out; have := HJ17.out; first | omega | exact Nat.le_refl _⟩, ⟨by (with_reducible repeat (first | refine Yd ?_ _ | refine Yf ?_ | refine Ye ?_ _)); exact BK163.out⟩, ⟨by repeat (first | (with_reducible first | exact HB.out | apply Yc | apply Ya | apply Yb | refine Yg ?_ GE163.out) | exact HB.out)⟩⟩
         ·rw [if_neg c29] at H
          have c29b0 : decide ((wrap64 ((wrap64 (q5 - q4)) + 1)) ≤ q6) = false := decide_eq_false c29
          clear c29
          by_cases c31 : q7 < 1
          ·rw [if_pos c31] at H
           have c31b0 : decide (q7 < 1) = true := decide_eq_true c31
           clear c31
           have H' := Ym H
           clear H
           have hcz32_0 : wc.cell? ⟨gb163, 0, none⟩ = some (.int .i64 q0) := (Yh BK163.out 0).trans rfl
           have hcz32_1 : wc.cell? ⟨gb163, 1, none⟩ = some (.int .i64 q1) := (Yh BK163.out 1).trans rfl
           have hcz32_2 : wc.cell? ⟨gb163, 2, none⟩ = some (.int .i64 q2) := (Yh BK163.out 2).trans rfl
           have hcz32_3 : wc.cell? ⟨gb163, 3, none⟩ = some (.int .i64 q3) := (Yh BK163.out 3).trans rfl
           have hcz32_4 : wc.cell? ⟨gb163, 4, none⟩ = some (.int .i64 q4) := (Yh BK163.out 4).trans rfl
           have hcz32_5 : wc.cell? ⟨gb163, 5, none⟩ = some (.int .i64 q5) := (Yh BK163.out 5).trans rfl
           have hcz32_6 : wc.cell? ⟨gb163, 6, none⟩ = some (.int .i64 q6) := (Yh BK163.out 6).trans rfl
           have hcz32_7 : wc.cell? ⟨gb163, 7, none⟩ = some (.int .i64 q7) := (Yh BK163.out 7).trans rfl
           have hfz32_0 := Yi BK163.out 0
           have hfz32_1 := Yi BK163.out 1
           have hfz32_2 := Yi BK163.out 2
           have hfz32_3 := Yi BK163.out 3
           have hfz32_4 := Yi BK163.out 4
           have hfz32_5 := Yi BK163.out 5
           have hfz32_6 := Yi BK163.out 6
           have hfz32_7 := Yi BK163.out 7
           go_wp2
           go_meet
           case rel => exact ⟨_, (true), (by first | rfl | (simp; done) | (simp [*]; done)), H', ⟨by have := HJ4.out; have := HJ17.out; first | omega | exact Nat.le_refl _⟩, ⟨by (with_reducible repeat (first | refine Yd ?_ _ | refine Yf ?_ | refine Ye ?_ _)); exact BK163.out⟩, ⟨by repeat (first | (with_reducible first | exact HB.out | apply Yc | apply Ya | apply Yb | refine Yg ?_ GE163.out) | exact HB.out)⟩⟩
          ·rw [if_neg c31] at H
           have c31b0 : decide (q7 < 1) = false := decide_eq_false c31
           clear c31
           by_cases c33 : q7 > 65535
           ·rw [if_pos c33] at H
            have c33b0 : decide (65535 < q7) = true := decide_eq_true c33
            clear c33
            have H' := Ym H
            clear H
            have hcz34_0 : wc.cell? ⟨gb163, 0, none⟩ = some (.int .i64 q0) := (Yh BK163.out 0).trans rfl
            have hcz34_1 : wc.cell? ⟨gb163, 1, none⟩ = some (.int .i64 q1) := (Yh BK163.out 1).trans rfl
            have hcz34_2 : wc.cell? ⟨gb163, 2, none⟩ = some (.int .i64 q2) := (Yh BK163.out 2).trans rfl
            have hcz34_3 : wc.cell? ⟨gb163, 3, none⟩ = some (.int .i64 q3) := (Yh BK163.out 3).trans rfl
            have hcz34_4 : wc.cell? ⟨gb163, 4, none⟩ = some (.int .i64 q4) := (Yh BK163.out 4).trans rfl
            have hcz34_5 : wc.cell? ⟨gb163, 5, none⟩ = some (.int .i64 q5) := (Yh BK163.out 5).trans rfl
            have hcz34_6 : wc.cell? ⟨gb163, 6, none⟩ = some (.int .i64 q6) := (Yh BK163.out 6).trans rfl
            have hcz34_7 : wc.cell? ⟨gb163, 7, none⟩ = some (.int .i64 q7) := (Yh BK163.out 7).trans rfl
            have hfz34_0 := Yi BK163.out 0
            have hfz34_1 := Yi BK163.out 1
            have hfz34_2 := Yi BK163.out 2
            have hfz34_3 := Yi BK163.out 3
            have hfz34_4 := Yi BK163.out 4
            have hfz34_5 := Yi BK163.out 5
            have hfz34_6 := Yi BK163.out 6
            have hfz34_7 := Yi BK163.out 7
            go_wp2
            go_meet
            case rel => exact ⟨_, (true), (by first | rfl | (simp; done) | (simp [*]; done)), H', ⟨by have := HJ4.out; have := HJ17.out; first | omega | exact Nat.le_refl _⟩, ⟨by (with_reducible repeat (first | refine Yd ?_ _ | refine Yf ?_ | refine Ye ?_ _)); exact BK163.out⟩, ⟨by repeat (first | (with_reducible first | exact HB.out | apply Yc | apply Ya | apply Yb | refine Yg ?_ GE163.out) | exact HB.out)⟩⟩
           ·rw [if_neg c33] at H
            have c33b0 : decide (65535 < q7) = false := decide_eq_false c33
            clear c33
            by_cases c35 : q7 = 0
            ·rw [if_pos c35] at H
             exact absurd H (by simp)
            ·rw [if_neg c35] at H
             have c35b0 : (q7 == 0) = false := beq_eq_false_iff_ne.mpr c35
             have c35b1 : (q7 != 0) = true := bne_iff_ne.mpr c35
             have H' := Ym H
             clear H
             have hcz36_0 : wc.cell? ⟨gb163, 0, none⟩ = some (.int .i64 q0) := (Yh BK163.out 0).trans rfl
             have hcz36_1 : wc.cell? ⟨gb163, 1, none⟩ = some (.int .i64 q1) := (Yh BK163.out 1).trans rfl
             have hcz36_2 : wc.cell? ⟨gb163, 2, none⟩ = some (.int .i64 q2) := (Yh BK163.out 2).trans rfl
             have hcz36_3 : wc.cell? ⟨gb163, 3, none⟩ = some (.int .i64 q3) := (Yh BK163.out 3).trans rfl
             have hcz36_4 : wc.cell? ⟨gb163, 4, none⟩ = some (.int .i64 q4) := (Yh BK163.out 4).trans rfl
             have hcz36_5 : wc.cell? ⟨gb163, 5, none⟩ = some (.int .i64 q5) := (Yh BK163.out 5).trans rfl
             have hcz36_6 : wc.cell? ⟨gb163, 6, none⟩ = some (.int .i64 q6) := (Yh BK163.out 6).trans rfl
             have hcz36_7 : wc.cell? ⟨gb163, 7, none⟩ = some (.int .i64 q7) := (Yh BK163.out 7).trans rfl
             have hfz36_0 := Yi BK163.out 0
             have hfz36_1 := Yi BK163.out 1
             have hfz36_2 := Yi BK163.out 2
             have hfz36_3 := Yi BK163.out 3
             have hfz36_4 := Yi BK163.out 4
             have hfz36_5 := Yi BK163.out 5
             have hfz36_6 := Yi BK163.out 6
             have hfz36_7 := Yi BK163.out 7
             go_wp2
             go_meet
             case rel => exact ⟨_, (decide ((wrap64 (Int.tdiv q6 q7)) > 8)), (by first | rfl | (simp; done) | (simp [*]; done)), H', ⟨by have := HJ4.out; have := HJ17.out; first | omega | exact Nat.le_refl _⟩, ⟨by (with_reducible repeat (first | refine Yd ?_ _ | refine Yf ?_ | refine Ye ?_ _)); exact BK163.out⟩, ⟨by repeat (first | (with_reducible first | exact HB.out | apply Yc | apply Ya | apply Yb | refine Yg ?_ GE163.out) | exact HB.out)⟩⟩
       case rest =>
        clear HC25
        try clear c1
        try clear c2
        try clear p2
        try clear c3
        try clear p6
        try clear c13
        try clear c13b0
        try clear c14
        try clear c14b0
        try clear c15
        try clear c15b0
        try clear c16
        try clear c16b0
        try clear c17
        try clear c19
        try clear c19b0
        try clear c21
        try clear c21b0
        try clear c24
        try clear c27
        try clear c27b0
        try clear c28
        try clear c29
        try clear c29b0
        try clear c31
        try clear c31b0
        try clear c33
        try clear c33b0
        try clear c35
        try clear c35b0
        try clear c35b1
        try clear hcz11_0
        try clear hcz11_1
        try clear hcz11_2
        try clear hcz11_3
        try clear hcz11_4
        try clear hcz11_5
        try clear hcz11_6
        try clear hcz11_7
        try clear hcz20_0
        try clear hcz20_1
        try clear hcz20_2
        try clear hcz20_3
        try clear hcz20_4
        try clear hcz20_5
        try clear hcz20_6
        try clear hcz20_7
        try clear hcz22_0
        try clear hcz22_1
        try clear hcz22_2
        try clear hcz22_3
        try clear hcz22_4
        try clear hcz22_5
        try clear hcz22_6
        try clear hcz22_7
        try clear hcz23_0
        try clear hcz23_1
        try clear hcz23_2
        try clear hcz23_3
        try clear hcz23_4
        try clear hcz23_5
        try clear hcz23_6
        try clear hcz23_7
        try clear hcz26_0
        try clear hcz26_1
        try clear hcz26_2
        try clear hcz26_3
        try clear hcz26_4
        try clear hcz26_5
        try clear hcz26_6
        try clear hcz26_7
        try clear hcz28_0
        try clear hcz28_1
        try clear hcz28_2
        try clear hcz28_3
        try clear hcz28_4
        try clear hcz28_5
        try clear hcz28_6
        try clear hcz28_7
        try clear hcz30_0
        try clear hcz30_1
        try clear hcz30_2
        try clear hcz30_3
        try clear hcz30_4
        try clear hcz30_5
        try clear hcz30_6
        try clear hcz30_7
        try clear hcz32_0
        try clear hcz32_1
        try clear hcz32_2
        try clear hcz32_3
        try clear hcz32_4
        try clear hcz32_5
        try clear hcz32_6
        try clear hcz32_7
        try clear hcz34_0
        try clear hcz34_1
        try clear hcz34_2
        try clear hcz34_3
        try clear hcz34_4
        try clear hcz34_5
        try clear hcz34_6
        try clear hcz34_7
        try clear hcz36_0
        try clear hcz36_1
        try clear hcz36_2
        try clear hcz36_3
        try clear hcz36_4
        try clear hcz36_5
        try clear hcz36_6
        try clear hcz36_7
        try clear hcz7_0
        try clear hcz7_1
        try clear hcz7_2
        try clear hcz7_3
        try clear hcz7_4
        try clear hcz7_5
        try clear hcz7_6
        try clear hcz7_7
        try clear hcz9_0
        try clear hcz9_1
        try clear hcz9_2
        try clear hcz9_3
        try clear hcz9_4
        try clear hcz9_5
        try clear hcz9_6
        try clear hcz9_7
        try clear hfz11_0
        try clear hfz11_1
        try clear hfz11_2
        try clear hfz11_3
        try clear hfz11_4
        try clear hfz11_5
        try clear hfz11_6
        try clear hfz11_7
        try clear hfz20_0
        try clear hfz20_1
        try clear hfz20_2
        try clear hfz20_3
        try clear hfz20_4
        try clear hfz20_5
        try clear hfz20_6
        try clear hfz20_7
        try clear hfz22_0
        try clear hfz22_1
        try clear hfz22_2
        try clear hfz22_3
        try clear hfz22_4
        try clear hfz22_5
        try clear hfz22_6
        try clear hfz22_7
        try clear hfz23_0
        try clear hfz23_1
        try clear hfz23_2
        try clear hfz23_3
        try clear hfz23_4
        try clear hfz23_5
        try clear hfz23_6
        try clear hfz23_7
        try clear hfz26_0
        try clear hfz26_1
        try clear hfz26_2
        try clear hfz26_3
        try clear hfz26_4
        try clear hfz26_5
        try clear hfz26_6
        try clear hfz26_7
        try clear hfz28_0
        try clear hfz28_1
        try clear hfz28_2
        try clear hfz28_3
        try clear hfz28_4
        try clear hfz28_5
        try clear hfz28_6
        try clear hfz28_7
        try clear hfz30_0
        try clear hfz30_1
        try clear hfz30_2
        try clear hfz30_3
        try clear hfz30_4
        try clear hfz30_5
        try clear hfz30_6
        try clear hfz30_7
        try clear hfz32_0
        try clear hfz32_1
        try clear hfz32_2
        try clear hfz32_3
        try clear hfz32_4
        try clear hfz32_5
        try clear hfz32_6
        try clear hfz32_7
        try clear hfz34_0
        try clear hfz34_1
        try clear hfz34_2
        try clear hfz34_3
        try clear hfz34_4
        try clear hfz34_5
        try clear hfz34_6
        try clear hfz34_7
        try clear hfz36_0
        try clear hfz36_1
        try clear hfz36_2
        try clear hfz36_3
        try clear hfz36_4
        try clear hfz36_5
        try clear hfz36_6
        try clear hfz36_7
        try clear hfz7_0
        try clear hfz7_1
        try clear hfz7_2
        try clear hfz7_3
        try clear hfz7_4
        try clear hfz7_5
        try clear hfz7_6
        try clear hfz7_7
        try clear hfz9_0
        try clear hfz9_1
        try clear hfz9_2
        try clear hfz9_3
        try clear hfz9_4
        try clear hfz9_5
        try clear hfz9_6
        try clear hfz9_7
        try clear p2
        obtain ⟨kq, x82_24, rfl, HA, HJ24, BK163, HB⟩ := hcut
        cases kq with
        | zero => exact absurd HA.out (by simp [mooringsref08_Fit.j2])
        | succ kj24 =>
         have H := HA.out
         clear HA
         simp only [mooringsref08_Fit.j2] at H
         by_cases c37 : x82_24 = true
         ·subst c37
          have H1 : (some false) = some r := by rw [if_pos rfl] at H; exact H
          clear H
          have H := H1
          clear H1
          obtain rfl := Option.some.inj H
          go_wp2
          go_ret
          exact ⟨by first | rfl | (simp [errW_none, errW_some] <;> rfl) | (simp [*, errW_none, errW_some] <;> rfl), by repeat (first | (with_reducible first | exact HB.out | apply Yc | apply Ya | apply Yb | refine Yg ?_ GE163.out) | exact HB.out)⟩
         ·replace c37 := Bool.eq_false_iff.mpr c37
          subst c37
          have H1 : ((mooringsref08_Ratio.f kj24 q0 q1 q2 q3 q4 q5 q6 q7).bind fun t167 => (some (decide ((wrap64 ((wrap64 ((wrap64 (q5 - q4)) + 1)) - q6)) ≥ t167)))) = some r := by rw [if_neg (show ¬ (false = true) by decide)] at H; exact H
          clear H
          have H := H1
          clear H1
          replace H := Option.bind_eq_some_iff.mp H
          obtain ⟨t167, A380, H⟩ := H
          replace H : (some (decide ((wrap64 ((wrap64 ((wrap64 (q5 - q4)) + 1)) - q6)) ≥ t167))) = some r := H
          have A38 := Ym A380
          clear A380
          obtain rfl := Option.some.inj H
          try go_wp2
          have n0_ := Ym (Yf BK163.out)
          have n1_ := Ym (Yb HB.out)
          clear BK163
          clear HB
          have BK163 := n0_
          have HB := n1_
          clear n0_ n1_
          refine start_ (n := 8) (S := fun w' => w'.cell? ⟨gb163, 0, none⟩ = some (.int .i64 q0) ∧ w'.cell? ⟨gb163, 1, none⟩ = some (.int .i64 q1) ∧ w'.cell? ⟨gb163, 2, none⟩ = some (.int .i64 q2) ∧ w'.cell? ⟨gb163, 3, none⟩ = some (.int .i64 q3) ∧ w'.cell? ⟨gb163, 4, none⟩ = some (.int .i64 q4) ∧ w'.cell? ⟨gb163, 5, none⟩ = some (.int .i64 q5) ∧ w'.cell? ⟨gb163, 6, none⟩ = some (.int .i64 q6) ∧ w'.cell? ⟨gb163, 7, none⟩ = some (.int .i64 q7)) (ds := []) #[false, false, false, false, false, false, false, false] (by kernel_rfl) rfl rfl ⟨(Yh BK163.out 0).trans rfl, (Yh BK163.out 1).trans rfl, (Yh BK163.out 2).trans rfl, (Yh BK163.out 3).trans rfl, (Yh BK163.out 4).trans rfl, (Yh BK163.out 5).trans rfl, (Yh BK163.out 6).trans rfl, (Yh BK163.out 7).trans rfl⟩ (fun hHeld => ?_); refine with_tabW mooringsref08_Fit.tab11 mooringsref08_Fit.bits11 (fun HT_ HW_ => ?_)
          generalize wc.drew = w39 at BK163 HB hHeld ⊢
          refine pure_ (i := 0) (N := some 83) (v := ?_) (a' := ?_) #[true, false, false, false, false, false, false, false] rfl rfl (any_of HT_.out (by kernel_rfl)) (fun _ _ _ h => h) (Or.inl ⟨by rfl, ?_⟩) ?_ ?_
          rotate_left
          ·intro w'
           go_simp
           with_reducible rfl
          rotate_left
          ·simp only [Act.put, Yo, Yp, Yq, i64_w, i32_w]
           rfl
          refine pure_ (i := 1) (N := some 84) (v := ?_) (a' := ?_) #[true, true, false, false, false, false, false, false] rfl rfl (any_of HT_.out (by kernel_rfl)) (fun _ _ _ h => h) (Or.inl ⟨by rfl, ?_⟩) ?_ ?_
          rotate_left
          ·intro w'
           go_simp
           with_reducible rfl
          rotate_left
          ·simp only [Act.put, Yo, Yp, Yq, i64_w, i32_w]
           rfl
          refine take_ (i := 2) (N := some 85) (v := ?_) (a' := ?_) #[true, true, true, false, false, false, false, false] rfl rfl (take_ofW HT_.out HW_.out (by kernel_rfl)) (fun _ _ _ h => h) (Or.inl ⟨by rfl, ?_⟩) hHeld ?_ ?_
          rotate_left
          ·rintro w' ⟨s0, s1, s2, s3, s4, s5, s6, s7⟩
           go_simp
           with_reducible rfl
          rotate_left
          ·simp only [Act.put, Yo, Yp, Yq, i64_w, i32_w]
           rfl
          refine pure_ (i := 3) (N := some 86) (v := ?_) (a' := ?_) #[true, true, true, true, false, false, false, false] rfl rfl (any_of HT_.out (by kernel_rfl)) (fun _ _ _ h => h) (Or.inl ⟨by rfl, ?_⟩) ?_ ?_
          rotate_left
          ·intro w'
           go_simp
           with_reducible rfl
          rotate_left
          ·simp only [Act.put, Yo, Yp, Yq, i64_w, i32_w]
           rfl
          refine take_ (i := 4) (N := some 87) (v := ?_) (a' := ?_) #[true, true, true, true, true, false, false, false] rfl rfl (take_ofW HT_.out HW_.out (by kernel_rfl)) (fun _ _ _ h => h) (Or.inl ⟨by rfl, ?_⟩) hHeld ?_ ?_
          rotate_left
          ·rintro w' ⟨s0, s1, s2, s3, s4, s5, s6, s7⟩
           go_simp
           with_reducible rfl
          rotate_left
          ·simp only [Act.put, Yo, Yp, Yq, i64_w, i32_w]
           rfl
          refine one_ (i := 5) (N := some 88) #[true, true, true, true, true, true, false, false] rfl rfl (one_of HT_.out (by kernel_rfl)) (by decide) (fun K hK => ?_)
          refine goes_ Try.func20 (by kernel_rfl) rfl #[.agg #[.int .i64 q0, .int .i64 q1, .int .i64 q2, .int .i64 q3, .int .i64 q4, .int .i64 q5, .int .i64 q6, .int .i64 q7]] (by rfl) rfl rfl (by (try simp only [List.map_toArray, List.map_cons, List.map_nil]); first | done | rfl | (simp only [List.length_drop, List.length_take]; rfl)) ?_
          with_reducible refine (mooringsref08_Ratio.calls kj24 q0 q1 q2 q3 q4 q5 q6 q7 t167 _ A38.out).mono ?_
          rintro e w40 ⟨rfl, hb⟩
          refine ⟨_, rfl, ?_⟩
          have n0_ := Ym (Yl (g := gb163) (o := .cells #[.int .i64 q0, .int .i64 q1, .int .i64 q2, .int .i64 q3, .int .i64 q4, .int .i64 q5, .int .i64 q6, .int .i64 q7] 25 (0, 0)) (by (with_reducible repeat (first | refine Yd ?_ _ | refine Yf ?_ | refine Ye ?_ _)); exact BK163.out) hb)
          have n1_ := Ym (Yj (by repeat (first | (with_reducible first | exact HB.out | apply Yc | apply Ya | apply Yb | refine Yg ?_ GE163.out) | exact HB.out)) hb)
          clear BK163
          clear HB
          have BK163 := n0_
          have HB := n1_
          clear n0_ n1_
          (try clear hb)
          (try clear hb2)
          (try clear hk)
          (try clear hi)
          refine hK.out _ _ ⟨(Yh BK163.out 0).trans rfl, (Yh BK163.out 1).trans rfl, (Yh BK163.out 2).trans rfl, (Yh BK163.out 3).trans rfl, (Yh BK163.out 4).trans rfl, (Yh BK163.out 5).trans rfl, (Yh BK163.out 6).trans rfl, (Yh BK163.out 7).trans rfl⟩ (fun hHeld => ?_)
          clear hK K
          refine norm_ (a' := ?_) ?_ ?_
          rotate_left
          ·show Act.put _ (some 88) _ = _
           simp only [Act.put, Yo, Yp, Yq, i64_w, i32_w]
           rfl
          refine pure_ (i := 6) (N := some 89) (v := ?_) (a' := ?_) #[true, true, true, true, true, true, true, false] rfl rfl (any_of HT_.out (by kernel_rfl)) (fun _ _ _ h => h) (Or.inl ⟨by rfl, ?_⟩) ?_ ?_
          rotate_left
          ·intro w'
           go_simp
           with_reducible rfl
          rotate_left
          ·simp only [Act.put, Yo, Yp, Yq, i64_w, i32_w]
           rfl
          refine pure_ (i := 7) (N := some 2) (v := ?_) (a' := ?_) #[true, true, true, true, true, true, true, true] rfl rfl (any_of HT_.out (by kernel_rfl)) (fun _ _ _ h => h) (Or.inl ⟨by rfl, ?_⟩) ?_ ?_
          rotate_left
          ·intro w'
           go_simp
           with_reducible rfl
          rotate_left
          ·simp only [Act.put, Yo, Yp, Yq, i64_w, i32_w]
           rfl
          refine done_ (done_of HT_.out (by kernel_rfl)) ?_
          try go_wp2
          go_ret
          exact ⟨by first | rfl | (simp [errW_none, errW_some] <;> rfl) | (simp [*, errW_none, errW_some] <;> rfl), by repeat (first | (with_reducible first | exact HB.out | apply Yc | apply Ya | apply Yb | refine Yg ?_ GE163.out) | exact HB.out)⟩

end Go.Proofs.Ytfkdflhijfkjoaa.P
