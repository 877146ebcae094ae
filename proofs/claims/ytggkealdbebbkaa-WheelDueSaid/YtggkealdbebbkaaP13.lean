-- Laid by this session's own program (wip/myprint.py): Lean functions for the Go functions that a law reaches, and their contracts. Not trusted: Lean checks it.
import Derived.Test.YtggkealdbebbkaaP0
import Derived.Test.YtggkealdbebbkaaP1
import Derived.Test.YtggkealdbebbkaaP3
import Derived.Test.YtggkealdbebbkaaP4
namespace Go.Proofs.Ytggkealdbebbkaa.P
noncomputable section
open Go.RowKit Go.Proofs.YtggkealdbebbkaaW.PrintWords Go.Proofs.YtggkealdbebbkaaW.PrintLast Go.Proofs.YtggkealdbebbkaaW.PrintMore
attribute [local go_sem] max2_int min2_int max_two min_two max_three min_three max_four min_four   -- for this text's walks alone
set_option linter.unusedVariables false
set_option linter.unusedSimpArgs false

attribute [local go_sem high] eqA33
/-! ### mooringslaw10_WheelDue: function 4 -/
mutual
def mooringslaw10_WheelDue.j0 : Nat → Int → Int → Bool → Bool → Int → List (S33) → Option (Bool)
  | 0, _, _, _, _, _, _ => none
  | k + 1, x1, x2, x7, x24, x301000, x301001 => if x24 = true then (some x7) else ((wheel_Step.f x301000 x301001 x1).bind fun bt302 => (if bt302.2.2.2 = 0 then (mooringslaw10_WheelDue.l0 k x1 x2 bt302.2.2.1 0 x301000 x301001 bt302.1 bt302.2.1) else (some ((bt302.2.2.1.length : Int) == 0))))
def mooringslaw10_WheelDue.l0 : Nat → Int → Int → List (S33) → Int → Int → List (S33) → Int → List (S33) → Option (Bool)
  | 0, _, _, _, _, _, _, _, _ => none
  | k + 1, x1, x2, x9, x11, x301000, x301001, x311000, x311001 => if x11 < (x9.length : Int) then (if 0 ≤ x11 then (if ((rd_T33 x9 x11).f1) > x1 then (mooringslaw10_WheelDue.j2 k x1 x2 x9 x11 true x301000 x301001 x311000 x311001) else (if x11 > 0 then (if 0 ≤ (wrap64 (x11 - 1)) then (if (wrap64 (x11 - 1)) < (x9.length : Int) then (if ((rd_T33 x9 x11).f1) < ((rd_T33 x9 (wrap64 (x11 - 1))).f1) then (mooringslaw10_WheelDue.j2 k x1 x2 x9 x11 true x301000 x301001 x311000 x311001) else (if ((rd_T33 x9 x11).f1) = ((rd_T33 x9 (wrap64 (x11 - 1))).f1) then (mooringslaw10_WheelDue.j2 k x1 x2 x9 x11 (decide (((rd_T33 x9 x11).f0) ≤ ((rd_T33 x9 (wrap64 (x11 - 1))).f0))) x301000 x301001 x311000 x311001) else (mooringslaw10_WheelDue.j2 k x1 x2 x9 x11 false x301000 x301001 x311000 x311001))) else (none)) else (none)) else (mooringslaw10_WheelDue.j2 k x1 x2 x9 x11 false x301000 x301001 x311000 x311001))) else (none)) else (mooringslaw10_WheelDue.l1 k x1 x2 x9 0 x301000 x301001 x311000 x311001)
def mooringslaw10_WheelDue.j2 : Nat → Int → Int → List (S33) → Int → Bool → Int → List (S33) → Int → List (S33) → Option (Bool)
  | 0, _, _, _, _, _, _, _, _, _ => none
  | k + 1, x1, x2, x9, x11, x96, x301000, x301001, x311000, x311001 => if x96 = true then (some false) else (mooringslaw10_WheelDue.l0 k x1 x2 x9 (wrap64 (x11 + 1)) x301000 x301001 x311000 x311001)
def mooringslaw10_WheelDue.l1 : Nat → Int → Int → List (S33) → Int → Int → List (S33) → Int → List (S33) → Option (Bool)
  | 0, _, _, _, _, _, _, _, _ => none
  | k + 1, x1, x2, x9, x12, x301000, x301001, x311000, x311001 => if x12 < (x311001.length : Int) then (if 0 ≤ x12 then (if ((rd_T33 x311001 x12).f1) ≤ x1 then (some false) else (mooringslaw10_WheelDue.l1 k x1 x2 x9 (wrap64 (x12 + 1)) x301000 x301001 x311000 x311001)) else (none)) else (if x311000 = x1 then (if (wrap64 ((x9.length : Int) + (x311001.length : Int))) = (x301001.length : Int) then (if x2 < 0 then (mooringslaw10_WheelDue.j4 k x1 x2 x9 true x301000 x301001 x311000 x311001) else (mooringslaw10_WheelDue.j4 k x1 x2 x9 (decide (x2 ≥ (x301001.length : Int))) x301000 x301001 x311000 x311001)) else (mooringslaw10_WheelDue.j4 k x1 x2 x9 true x301000 x301001 x311000 x311001)) else (mooringslaw10_WheelDue.j4 k x1 x2 x9 true x301000 x301001 x311000 x311001))
def mooringslaw10_WheelDue.j4 : Nat → Int → Int → List (S33) → Bool → Int → List (S33) → Int → List (S33) → Option (Bool)
  | 0, _, _, _, _, _, _, _, _ => none
  | k + 1, x1, x2, x9, x138, x301000, x301001, x311000, x311001 => if x138 = true then (if x311000 = x1 then (some ((wrap64 ((x9.length : Int) + (x311001.length : Int))) == (x301001.length : Int))) else (some false)) else (mooringslaw10_WheelDue.l2 k x2 x9 false 0 x301000 x301001 x311000 x311001)
def mooringslaw10_WheelDue.l2 : Nat → Int → List (S33) → Bool → Int → Int → List (S33) → Int → List (S33) → Option (Bool)
  | 0, _, _, _, _, _, _, _, _ => none
  | k + 1, x2, x9, x13, x14, x301000, x301001, x311000, x311001 => if x14 < (x9.length : Int) then (if x13 = true then (mooringslaw10_WheelDue.l2 k x2 x9 true (wrap64 (x14 + 1)) x301000 x301001 x311000 x311001) else (if 0 ≤ x14 then (if 0 ≤ x2 then (if x2 < (x301001.length : Int) then (mooringslaw10_WheelDue.l2 k x2 x9 (((rd_T33 x9 x14).f0) == ((rd_T33 x301001 x2).f0) && (((rd_T33 x9 x14).f1) == ((rd_T33 x301001 x2).f1))) (wrap64 (x14 + 1)) x301000 x301001 x311000 x311001) else (none)) else (none)) else (none))) else (mooringslaw10_WheelDue.l3 k x2 x13 0 x301000 x301001 x311000 x311001)
def mooringslaw10_WheelDue.l3 : Nat → Int → Bool → Int → Int → List (S33) → Int → List (S33) → Option (Bool)
  | 0, _, _, _, _, _, _, _ => none
  | k + 1, x2, x13, x15, x301000, x301001, x311000, x311001 => if x15 < (x311001.length : Int) then (if x13 = true then (mooringslaw10_WheelDue.l3 k x2 true (wrap64 (x15 + 1)) x301000 x301001 x311000 x311001) else (if 0 ≤ x15 then (if 0 ≤ x2 then (if x2 < (x301001.length : Int) then (mooringslaw10_WheelDue.l3 k x2 (((rd_T33 x311001 x15).f0) == ((rd_T33 x301001 x2).f0) && (((rd_T33 x311001 x15).f1) == ((rd_T33 x301001 x2).f1))) (wrap64 (x15 + 1)) x301000 x301001 x311000 x311001) else (none)) else (none)) else (none))) else (some x13)
end
def mooringslaw10_WheelDue.f (k : Nat) (a0_0 : Int) (l0_1 : List (S33)) (a1 : Int) (a2 : Int) : Option (Bool) := (mooringslaw10_awake.f k).bind fun t301 => (if t301 = true then (mooringslaw10_WheelDue.j0 k a1 a2 t301 (decide ((l0_1.length : Int) > 70)) a0_0 l0_1) else (mooringslaw10_WheelDue.j0 k a1 a2 t301 true a0_0 l0_1))
theorem mooringslaw10_WheelDue.mono_l : ∀ k, (∀ y0 y1 y2 y3 y4 y5, LeO (mooringslaw10_WheelDue.j0 k y0 y1 y2 y3 y4 y5) (mooringslaw10_WheelDue.j0 (k + 1) y0 y1 y2 y3 y4 y5)) ∧ (∀ y0 y1 y2 y3 y4 y5 y6 y7, LeO (mooringslaw10_WheelDue.l0 k y0 y1 y2 y3 y4 y5 y6 y7) (mooringslaw10_WheelDue.l0 (k + 1) y0 y1 y2 y3 y4 y5 y6 y7)) ∧ (∀ y0 y1 y2 y3 y4 y5 y6 y7 y8, LeO (mooringslaw10_WheelDue.j2 k y0 y1 y2 y3 y4 y5 y6 y7 y8) (mooringslaw10_WheelDue.j2 (k + 1) y0 y1 y2 y3 y4 y5 y6 y7 y8)) ∧ (∀ y0 y1 y2 y3 y4 y5 y6 y7, LeO (mooringslaw10_WheelDue.l1 k y0 y1 y2 y3 y4 y5 y6 y7) (mooringslaw10_WheelDue.l1 (k + 1) y0 y1 y2 y3 y4 y5 y6 y7)) ∧ (∀ y0 y1 y2 y3 y4 y5 y6 y7, LeO (mooringslaw10_WheelDue.j4 k y0 y1 y2 y3 y4 y5 y6 y7) (mooringslaw10_WheelDue.j4 (k + 1) y0 y1 y2 y3 y4 y5 y6 y7)) ∧ (∀ y0 y1 y2 y3 y4 y5 y6 y7, LeO (mooringslaw10_WheelDue.l2 k y0 y1 y2 y3 y4 y5 y6 y7) (mooringslaw10_WheelDue.l2 (k + 1) y0 y1 y2 y3 y4 y5 y6 y7)) ∧ (∀ y0 y1 y2 y3 y4 y5 y6, LeO (mooringslaw10_WheelDue.l3 k y0 y1 y2 y3 y4 y5 y6) (mooringslaw10_WheelDue.l3 (k + 1) y0 y1 y2 y3 y4 y5 y6))
  | 0 => ⟨fun _ _ _ _ _ _ r h => by simp [mooringslaw10_WheelDue.j0] at h, fun _ _ _ _ _ _ _ _ r h => by simp [mooringslaw10_WheelDue.l0] at h, fun _ _ _ _ _ _ _ _ _ r h => by simp [mooringslaw10_WheelDue.j2] at h, fun _ _ _ _ _ _ _ _ r h => by simp [mooringslaw10_WheelDue.l1] at h, fun _ _ _ _ _ _ _ _ r h => by simp [mooringslaw10_WheelDue.j4] at h, fun _ _ _ _ _ _ _ _ r h => by simp [mooringslaw10_WheelDue.l2] at h, fun _ _ _ _ _ _ _ r h => by simp [mooringslaw10_WheelDue.l3] at h⟩
  | k + 1 => by
    obtain ⟨ih0, ih1, ih2, ih3, ih4, ih5, ih6⟩ := mooringslaw10_WheelDue.mono_l k
    refine ⟨?_, ?_, ?_, ?_, ?_, ?_, ?_⟩
    · intro y0 y1 y2 y3 y4 y5
      unfold mooringslaw10_WheelDue.j0
      repeat' first
      | (with_reducible exact ih0 _ _ _ _ _ _)
      | (with_reducible exact ih1 _ _ _ _ _ _ _ _)
      | (with_reducible exact ih2 _ _ _ _ _ _ _ _ _)
      | (with_reducible exact ih3 _ _ _ _ _ _ _ _)
      | (with_reducible exact ih4 _ _ _ _ _ _ _ _)
      | (with_reducible exact ih5 _ _ _ _ _ _ _ _)
      | (with_reducible exact ih6 _ _ _ _ _ _ _)
      | (with_reducible exact mooringslaw10_awake.mono _)
      | (with_reducible exact LeO.refl _)
      | (with_reducible exact LeO.none _)
      | (with_reducible refine LeO.ite ?_ ?_)
      | (with_reducible refine LeO.bind ?_ (fun _ => ?_))
      | exact ih0 _ _ _ _ _ _
      | exact ih1 _ _ _ _ _ _ _ _
      | exact ih2 _ _ _ _ _ _ _ _ _
      | exact ih3 _ _ _ _ _ _ _ _
      | exact ih4 _ _ _ _ _ _ _ _
      | exact ih5 _ _ _ _ _ _ _ _
      | exact ih6 _ _ _ _ _ _ _
      | exact mooringslaw10_awake.mono _
      | exact LeO.none _
      | refine LeO.ite ?_ ?_
      | refine LeO.bind ?_ (fun _ => ?_)
    · intro y0 y1 y2 y3 y4 y5 y6 y7
      unfold mooringslaw10_WheelDue.l0
      repeat' first
      | (with_reducible exact ih0 _ _ _ _ _ _)
      | (with_reducible exact ih1 _ _ _ _ _ _ _ _)
      | (with_reducible exact ih2 _ _ _ _ _ _ _ _ _)
      | (with_reducible exact ih3 _ _ _ _ _ _ _ _)
      | (with_reducible exact ih4 _ _ _ _ _ _ _ _)
      | (with_reducible exact ih5 _ _ _ _ _ _ _ _)
      | (with_reducible exact ih6 _ _ _ _ _ _ _)
      | (with_reducible exact mooringslaw10_awake.mono _)
      | (with_reducible exact LeO.refl _)
      | (with_reducible exact LeO.none _)
      | (with_reducible refine LeO.ite ?_ ?_)
      | (with_reducible refine LeO.bind ?_ (fun _ => ?_))
      | exact ih0 _ _ _ _ _ _
      | exact ih1 _ _ _ _ _ _ _ _
      | exact ih2 _ _ _ _ _ _ _ _ _
      | exact ih3 _ _ _ _ _ _ _ _
      | exact ih4 _ _ _ _ _ _ _ _
      | exact ih5 _ _ _ _ _ _ _ _
      | exact ih6 _ _ _ _ _ _ _
      | exact mooringslaw10_awake.mono _
      | exact LeO.none _
      | refine LeO.ite ?_ ?_
      | refine LeO.bind ?_ (fun _ => ?_)
    · intro y0 y1 y2 y3 y4 y5 y6 y7 y8
      unfold mooringslaw10_WheelDue.j2
      repeat' first
      | (with_reducible exact ih0 _ _ _ _ _ _)
      | (with_reducible exact ih1 _ _ _ _ _ _ _ _)
      | (with_reducible exact ih2 _ _ _ _ _ _ _ _ _)
      | (with_reducible exact ih3 _ _ _ _ _ _ _ _)
      | (with_reducible exact ih4 _ _ _ _ _ _ _ _)
      | (with_reducible exact ih5 _ _ _ _ _ _ _ _)
      | (with_reducible exact ih6 _ _ _ _ _ _ _)
      | (with_reducible exact mooringslaw10_awake.mono _)
      | (with_reducible exact LeO.refl _)
      | (with_reducible exact LeO.none _)
      | (with_reducible refine LeO.ite ?_ ?_)
      | (with_reducible refine LeO.bind ?_ (fun _ => ?_))
      | exact ih0 _ _ _ _ _ _
      | exact ih1 _ _ _ _ _ _ _ _
      | exact ih2 _ _ _ _ _ _ _ _ _
      | exact ih3 _ _ _ _ _ _ _ _
      | exact ih4 _ _ _ _ _ _ _ _
      | exact ih5 _ _ _ _ _ _ _ _
      | exact ih6 _ _ _ _ _ _ _
      | exact mooringslaw10_awake.mono _
      | exact LeO.none _
      | refine LeO.ite ?_ ?_
      | refine LeO.bind ?_ (fun _ => ?_)
    · intro y0 y1 y2 y3 y4 y5 y6 y7
      unfold mooringslaw10_WheelDue.l1
      repeat' first
      | (with_reducible exact ih0 _ _ _ _ _ _)
      | (with_reducible exact ih1 _ _ _ _ _ _ _ _)
      | (with_reducible exact ih2 _ _ _ _ _ _ _ _ _)
      | (with_reducible exact ih3 _ _ _ _ _ _ _ _)
      | (with_reducible exact ih4 _ _ _ _ _ _ _ _)
      | (with_reducible exact ih5 _ _ _ _ _ _ _ _)
      | (with_reducible exact ih6 _ _ _ _ _ _ _)
      | (with_reducible exact mooringslaw10_awake.mono _)
      | (with_reducible exact LeO.refl _)
      | (with_reducible exact LeO.none _)
      | (with_reducible refine LeO.ite ?_ ?_)
      | (with_reducible refine LeO.bind ?_ (fun _ => ?_))
      | exact ih0 _ _ _ _ _ _
      | exact ih1 _ _ _ _ _ _ _ _
      | exact ih2 _ _ _ _ _ _ _ _ _
      | exact ih3 _ _ _ _ _ _ _ _
      | exact ih4 _ _ _ _ _ _ _ _
      | exact ih5 _ _ _ _ _ _ _ _
      | exact ih6 _ _ _ _ _ _ _
      | exact mooringslaw10_awake.mono _
      | exact LeO.none _
      | refine LeO.ite ?_ ?_
      | refine LeO.bind ?_ (fun _ => ?_)
    · intro y0 y1 y2 y3 y4 y5 y6 y7
      unfold mooringslaw10_WheelDue.j4
      repeat' first
      | (with_reducible exact ih0 _ _ _ _ _ _)
      | (with_reducible exact ih1 _ _ _ _ _ _ _ _)
      | (with_reducible exact ih2 _ _ _ _ _ _ _ _ _)
      | (with_reducible exact ih3 _ _ _ _ _ _ _ _)
      | (with_reducible exact ih4 _ _ _ _ _ _ _ _)
      | (with_reducible exact ih5 _ _ _ _ _ _ _ _)
      | (with_reducible exact ih6 _ _ _ _ _ _ _)
      | (with_reducible exact mooringslaw10_awake.mono _)
      | (with_reducible exact LeO.refl _)
      | (with_reducible exact LeO.none _)
      | (with_reducible refine LeO.ite ?_ ?_)
      | (with_reducible refine LeO.bind ?_ (fun _ => ?_))
      | exact ih0 _ _ _ _ _ _
      | exact ih1 _ _ _ _ _ _ _ _
      | exact ih2 _ _ _ _ _ _ _ _ _
      | exact ih3 _ _ _ _ _ _ _ _
      | exact ih4 _ _ _ _ _ _ _ _
      | exact ih5 _ _ _ _ _ _ _ _
      | exact ih6 _ _ _ _ _ _ _
      | exact mooringslaw10_awake.mono _
      | exact LeO.none _
      | refine LeO.ite ?_ ?_
      | refine LeO.bind ?_ (fun _ => ?_)
    · intro y0 y1 y2 y3 y4 y5 y6 y7
      unfold mooringslaw10_WheelDue.l2
      repeat' first
      | (with_reducible exact ih0 _ _ _ _ _ _)
      | (with_reducible exact ih1 _ _ _ _ _ _ _ _)
      | (with_reducible exact ih2 _ _ _ _ _ _ _ _ _)
      | (with_reducible exact ih3 _ _ _ _ _ _ _ _)
      | (with_reducible exact ih4 _ _ _ _ _ _ _ _)
      | (with_reducible exact ih5 _ _ _ _ _ _ _ _)
      | (with_reducible exact ih6 _ _ _ _ _ _ _)
      | (with_reducible exact mooringslaw10_awake.mono _)
      | (with_reducible exact LeO.refl _)
      | (with_reducible exact LeO.none _)
      | (with_reducible refine LeO.ite ?_ ?_)
      | (with_reducible refine LeO.bind ?_ (fun _ => ?_))
      | exact ih0 _ _ _ _ _ _
      | exact ih1 _ _ _ _ _ _ _ _
      | exact ih2 _ _ _ _ _ _ _ _ _
      | exact ih3 _ _ _ _ _ _ _ _
      | exact ih4 _ _ _ _ _ _ _ _
      | exact ih5 _ _ _ _ _ _ _ _
      | exact ih6 _ _ _ _ _ _ _
      | exact mooringslaw10_awake.mono _
      | exact LeO.none _
      | refine LeO.ite ?_ ?_
      | refine LeO.bind ?_ (fun _ => ?_)
    · intro y0 y1 y2 y3 y4 y5 y6
      unfold mooringslaw10_WheelDue.l3
      repeat' first
      | (with_reducible exact ih0 _ _ _ _ _ _)
      | (with_reducible exact ih1 _ _ _ _ _ _ _ _)
      | (with_reducible exact ih2 _ _ _ _ _ _ _ _ _)
      | (with_reducible exact ih3 _ _ _ _ _ _ _ _)
      | (with_reducible exact ih4 _ _ _ _ _ _ _ _)
      | (with_reducible exact ih5 _ _ _ _ _ _ _ _)
      | (with_reducible exact ih6 _ _ _ _ _ _ _)
      | (with_reducible exact mooringslaw10_awake.mono _)
      | (with_reducible exact LeO.refl _)
      | (with_reducible exact LeO.none _)
      | (with_reducible refine LeO.ite ?_ ?_)
      | (with_reducible refine LeO.bind ?_ (fun _ => ?_))
      | exact ih0 _ _ _ _ _ _
      | exact ih1 _ _ _ _ _ _ _ _
      | exact ih2 _ _ _ _ _ _ _ _ _
      | exact ih3 _ _ _ _ _ _ _ _
      | exact ih4 _ _ _ _ _ _ _ _
      | exact ih5 _ _ _ _ _ _ _ _
      | exact ih6 _ _ _ _ _ _ _
      | exact mooringslaw10_awake.mono _
      | exact LeO.none _
      | refine LeO.ite ?_ ?_
      | refine LeO.bind ?_ (fun _ => ?_)
theorem mooringslaw10_WheelDue.mono : ∀ a0 a1 a2 a3 k, LeO (mooringslaw10_WheelDue.f k a0 a1 a2 a3) (mooringslaw10_WheelDue.f (k + 1) a0 a1 a2 a3) := by
  intro a0 a1 a2 a3 k
  obtain ⟨ih0, ih1, ih2, ih3, ih4, ih5, ih6⟩ := mooringslaw10_WheelDue.mono_l k
  unfold mooringslaw10_WheelDue.f
  repeat' first
      | (with_reducible exact ih0 _ _ _ _ _ _)
      | (with_reducible exact ih1 _ _ _ _ _ _ _ _)
      | (with_reducible exact ih2 _ _ _ _ _ _ _ _ _)
      | (with_reducible exact ih3 _ _ _ _ _ _ _ _)
      | (with_reducible exact ih4 _ _ _ _ _ _ _ _)
      | (with_reducible exact ih5 _ _ _ _ _ _ _ _)
      | (with_reducible exact ih6 _ _ _ _ _ _ _)
      | (with_reducible exact mooringslaw10_awake.mono _)
      | (with_reducible exact LeO.refl _)
      | (with_reducible exact LeO.none _)
      | (with_reducible refine LeO.ite ?_ ?_)
      | (with_reducible refine LeO.bind ?_ (fun _ => ?_))
      | exact ih0 _ _ _ _ _ _
      | exact ih1 _ _ _ _ _ _ _ _
      | exact ih2 _ _ _ _ _ _ _ _ _
      | exact ih3 _ _ _ _ _ _ _ _
      | exact ih4 _ _ _ _ _ _ _ _
      | exact ih5 _ _ _ _ _ _ _ _
      | exact ih6 _ _ _ _ _ _ _
      | exact mooringslaw10_awake.mono _
      | exact LeO.none _
      | refine LeO.ite ?_ ?_
      | refine LeO.bind ?_ (fun _ => ?_)
set_option maxHeartbeats 8000000 in
set_option maxRecDepth 100000 in
theorem mooringslaw10_WheelDue.calls (k : Nat) (a0_0 : Int) (A0_1 : Option Addr) (c0_1 : Nat) (l0_1 : List (S33)) (a1 : Int) (a2 : Int) (r : Bool) (w : World) (hr0_1 : Kd.C k33 w A0_1 l0_1.length l0_1) (hc0_1 : l0_1.length ≤ c0_1) (h : mooringslaw10_WheelDue.f k a0_0 l0_1 a1 a2 = some r) :
    Calls Try.prog 4 #[.agg #[.int .i64 a0_0, .slice A0_1 l0_1.length c0_1], .int .i64 a1, .int .i64 a2] w fun e w' => e = .returned (.bool r) ∧ Below w.heap.size w w' := by
  have hu24 := Try.underlying24
  have hu33 := Try.underlying33
  have HR0_1 := Aside0.mk hr0_1
  have HC0_1 := Aside0.mk hc0_1
  clear hr0_1 hc0_1
  have HB := Aside0.mk (Below.refl w.heap.size w)
  have H : ((mooringslaw10_awake.f k).bind fun t301 => (if t301 = true then (mooringslaw10_WheelDue.j0 k a1 a2 t301 (decide ((l0_1.length : Int) > 70)) a0_0 l0_1) else (mooringslaw10_WheelDue.j0 k a1 a2 t301 true a0_0 l0_1))) = some r := h
  clear h
  replace H := Option.bind_eq_some_iff.mp H
  obtain ⟨t301, A40, H⟩ := H
  replace H : (if t301 = true then (mooringslaw10_WheelDue.j0 k a1 a2 t301 (decide ((l0_1.length : Int) > 70)) a0_0 l0_1) else (mooringslaw10_WheelDue.j0 k a1 a2 t301 true a0_0 l0_1)) = some r := H
  have A4 := Aside0.mk A40
  clear A40
  have HC5 := Aside0.mk H
  clear H
  go_enter Try.func4, Try.ntmps4
  go_upto_region 2 with (first | ((with_reducible refine gate_dst (N := 3) rfl ?_); (try (refine gate_guard (by rfl) ?_; dsimp only)); refine box_event ?hg (N := 3) ?hd (cs := #[.int .i64 a0_0, .slice A0_1 l0_1.length c0_1]) (t := 24) ?hr ?_; (case hd => rfl); (case hg => rfl); (case hr => first | (go_simp; done) | (go_simp; rfl)); intro gb300 hg w6 hbox hb; have n0_ := Aside0.mk (below_step (by repeat (first | (with_reducible first | exact HB.out | apply below_alloc | apply pw_below_drewN | apply below_drew1) | exact HB.out)) hb); have n1_ := Aside0.mk (hbox); have n2_ := Aside0.mk ((by rw [hg]; exact (below_size (by repeat (first | (with_reducible first | exact HB.out | apply below_alloc | apply pw_below_drewN | apply below_drew1) | exact HB.out))) : w.heap.size ≤ gb300)); have n3_ := Aside0.mk ((by rw [hg]; exact (below_size (by repeat (first | (with_reducible first | exact HB.out | apply below_alloc | apply pw_below_drewN | apply below_drew1) | exact HB.out))) : w.heap.size ≤ gb300)); clear HB; have HB := n0_; have BK300 := n1_; have GW300 := n2_; have GE300 := n3_; clear n0_ n1_ n2_ n3_; clear hb hbox hg) | (go_at_call 10; (with_reducible refine (mooringslaw10_awake.calls k  t301 _ A4.out).mono ?_); rintro e w7 ⟨rfl, hb⟩; have n0_ := Aside0.mk (blk_below (g := gb300) (o := .cells #[.int .i64 a0_0, .slice A0_1 l0_1.length c0_1] 24 (0, 0)) (by (with_reducible repeat (first | refine blk_drewN ?_ _ | refine blk_drew ?_ | refine blk_alloc ?_ _)); exact BK300.out) hb); have n1_ := Aside0.mk (below_step (by repeat (first | (with_reducible first | exact HB.out | apply below_alloc | apply pw_below_drewN | apply below_drew1 | refine below_set ?_ GE300.out) | exact HB.out)) hb); clear BK300; clear HB; have BK300 := n0_; have HB := n1_; clear n0_ n1_; (try clear hb); (try clear hb2); (try clear hk); (try clear hi)))
  repeat (go_quiet (first | ((with_reducible refine gate_dst (N := 3) rfl ?_); (try (refine gate_guard (by rfl) ?_; dsimp only)); refine box_event ?hg (N := 3) ?hd (cs := #[.int .i64 a0_0, .slice A0_1 l0_1.length c0_1]) (t := 24) ?hr ?_; (case hd => rfl); (case hg => rfl); (case hr => first | (go_simp; done) | (go_simp; rfl)); intro gb300 hg w6 hbox hb; have n0_ := Aside0.mk (below_step (by repeat (first | (with_reducible first | exact HB.out | apply below_alloc | apply pw_below_drewN | apply below_drew1) | exact HB.out)) hb); have n1_ := Aside0.mk (hbox); have n2_ := Aside0.mk ((by rw [hg]; exact (below_size (by repeat (first | (with_reducible first | exact HB.out | apply below_alloc | apply pw_below_drewN | apply below_drew1) | exact HB.out))) : w.heap.size ≤ gb300)); have n3_ := Aside0.mk ((by rw [hg]; exact (below_size (by repeat (first | (with_reducible first | exact HB.out | apply below_alloc | apply pw_below_drewN | apply below_drew1) | exact HB.out))) : w.heap.size ≤ gb300)); clear HB; have HB := n0_; have BK300 := n1_; have GW300 := n2_; have GE300 := n3_; clear n0_ n1_ n2_ n3_; clear hb hbox hg) | (go_at_call 10; (with_reducible refine (mooringslaw10_awake.calls k  t301 _ A4.out).mono ?_); rintro e w7 ⟨rfl, hb⟩; have n0_ := Aside0.mk (blk_below (g := gb300) (o := .cells #[.int .i64 a0_0, .slice A0_1 l0_1.length c0_1] 24 (0, 0)) (by (with_reducible repeat (first | refine blk_drewN ?_ _ | refine blk_drew ?_ | refine blk_alloc ?_ _)); exact BK300.out) hb); have n1_ := Aside0.mk (below_step (by repeat (first | (with_reducible first | exact HB.out | apply below_alloc | apply pw_below_drewN | apply below_drew1 | refine below_set ?_ GE300.out) | exact HB.out)) hb); clear BK300; clear HB; have BK300 := n0_; have HB := n1_; clear n0_ n1_; (try clear hb); (try clear hb2); (try clear hk); (try clear hi))); go_upto_region 2 with (first | ((with_reducible refine gate_dst (N := 3) rfl ?_); (try (refine gate_guard (by rfl) ?_; dsimp only)); refine box_event ?hg (N := 3) ?hd (cs := #[.int .i64 a0_0, .slice A0_1 l0_1.length c0_1]) (t := 24) ?hr ?_; (case hd => rfl); (case hg => rfl); (case hr => first | (go_simp; done) | (go_simp; rfl)); intro gb300 hg w6 hbox hb; have n0_ := Aside0.mk (below_step (by repeat (first | (with_reducible first | exact HB.out | apply below_alloc | apply pw_below_drewN | apply below_drew1) | exact HB.out)) hb); have n1_ := Aside0.mk (hbox); have n2_ := Aside0.mk ((by rw [hg]; exact (below_size (by repeat (first | (with_reducible first | exact HB.out | apply below_alloc | apply pw_below_drewN | apply below_drew1) | exact HB.out))) : w.heap.size ≤ gb300)); have n3_ := Aside0.mk ((by rw [hg]; exact (below_size (by repeat (first | (with_reducible first | exact HB.out | apply below_alloc | apply pw_below_drewN | apply below_drew1) | exact HB.out))) : w.heap.size ≤ gb300)); clear HB; have HB := n0_; have BK300 := n1_; have GW300 := n2_; have GE300 := n3_; clear n0_ n1_ n2_ n3_; clear hb hbox hg) | (go_at_call 10; (with_reducible refine (mooringslaw10_awake.calls k  t301 _ A4.out).mono ?_); rintro e w7 ⟨rfl, hb⟩; have n0_ := Aside0.mk (blk_below (g := gb300) (o := .cells #[.int .i64 a0_0, .slice A0_1 l0_1.length c0_1] 24 (0, 0)) (by (with_reducible repeat (first | refine blk_drewN ?_ _ | refine blk_drew ?_ | refine blk_alloc ?_ _)); exact BK300.out) hb); have n1_ := Aside0.mk (below_step (by repeat (first | (with_reducible first | exact HB.out | apply below_alloc | apply pw_below_drewN | apply below_drew1 | refine below_set ?_ GE300.out) | exact HB.out)) hb); clear BK300; clear HB; have BK300 := n0_; have HB := n1_; clear n0_ n1_; (try clear hb); (try clear hb2); (try clear hk); (try clear hi))))
  (try simp only [Act.put, List.setIfInBounds_toArray, List.set_cons_zero, List.set_cons_succ])
  go_cut [24] (fun v24 wc => ∃ (kq : Nat) (x24_4 : Bool), v24 = .bool x24_4 ∧ Aside0 (mooringslaw10_WheelDue.j0 kq a1 a2 t301 x24_4 a0_0 l0_1 = some r) ∧ Aside0 (kq ≤ k) ∧ Aside0 (wc.heap[gb300]? = some (.cells #[.int .i64 a0_0, (.slice A0_1 l0_1.length c0_1)] 24 (0, 0))) ∧ Aside0 (Below w.heap.size w wc))
  case first =>
    have H := HC5.out
    clear HC5
    by_cases c8 : t301 = true
    · subst c8
      have H1 : (mooringslaw10_WheelDue.j0 k a1 a2 true (decide ((l0_1.length : Int) > 70)) a0_0 l0_1) = some r := by rw [if_pos rfl] at H; exact H
      clear H
      have H := H1
      clear H1
      have H' := Aside0.mk H
      clear H
      have hcz9_0 : w7.cell? ⟨gb300, 0, none⟩ = some (.int .i64 a0_0) := (blk_cell BK300.out 0).trans rfl
      have hcz9_1 : w7.cell? ⟨gb300, 1, none⟩ = some (.slice A0_1 l0_1.length c0_1) := (blk_cell BK300.out 1).trans rfl
      have hfz9_0 := blk_frozen BK300.out 0
      have hfz9_1 := blk_frozen BK300.out 1
      go_wp2
      repeat (go_quiet (fail); try go_wp2)
      go_meet
      case rel => exact ⟨_, (decide ((l0_1.length : Int) > 70)), (by first | rfl | (simp; done) | (simp [*]; done)), H', ⟨by first | omega | exact Nat.le_refl _⟩, ⟨by (with_reducible repeat (first | refine blk_drewN ?_ _ | refine blk_drew ?_ | refine blk_alloc ?_ _)); exact BK300.out⟩, ⟨by repeat (first | (with_reducible first | exact HB.out | apply below_alloc | apply pw_below_drewN | apply below_drew1 | refine below_set ?_ GE300.out) | exact HB.out)⟩⟩
    · replace c8 := Bool.eq_false_iff.mpr c8
      subst c8
      have H1 : (mooringslaw10_WheelDue.j0 k a1 a2 false true a0_0 l0_1) = some r := by rw [if_neg (show ¬ (false = true) by decide)] at H; exact H
      clear H
      have H := H1
      clear H1
      have H' := Aside0.mk H
      clear H
      go_wp2
      repeat (go_quiet (fail); try go_wp2)
      go_meet
      case rel => exact ⟨_, (true), (by first | rfl | (simp; done) | (simp [*]; done)), H', ⟨by first | omega | exact Nat.le_refl _⟩, ⟨by (with_reducible repeat (first | refine blk_drewN ?_ _ | refine blk_drew ?_ | refine blk_alloc ?_ _)); exact BK300.out⟩, ⟨by repeat (first | (with_reducible first | exact HB.out | apply below_alloc | apply pw_below_drewN | apply below_drew1 | refine below_set ?_ GE300.out) | exact HB.out)⟩⟩
  case rest => as_aux_lemma =>
    clear HC5
    try clear p2
    try clear c4
    try clear c8
    try clear hcz9_0
    try clear hcz9_1
    try clear hfz9_0
    try clear hfz9_1
    obtain ⟨kq, x24_4, rfl, HA, HJ4, BK300, HB⟩ := hcut
    cases kq with
    | zero => exact absurd HA.out (by simp [mooringslaw10_WheelDue.j0])
    | succ kj4 =>
      have H := HA.out
      clear HA
      simp only [mooringslaw10_WheelDue.j0] at H
      by_cases c10 : x24_4 = true
      · subst c10
        have H1 : (some t301) = some r := by rw [if_pos rfl] at H; exact H
        clear H
        have H := H1
        clear H1
        obtain rfl := Option.some.inj H
        go_wp2
        repeat (go_quiet (fail); try go_wp2)
        go_ret
        exact ⟨by first | rfl | (simp [errW_none, errW_some] <;> rfl) | (simp [*, errW_none, errW_some] <;> rfl), by repeat (first | (with_reducible first | exact HB.out | apply below_alloc | apply pw_below_drewN | apply below_drew1 | refine below_set ?_ GE300.out) | exact HB.out)⟩
      · replace c10 := Bool.eq_false_iff.mpr c10
        subst c10
        have H1 : ((wheel_Step.f a0_0 l0_1 a1).bind fun bt302 => (if bt302.2.2.2 = 0 then (mooringslaw10_WheelDue.l0 kj4 a1 a2 bt302.2.2.1 0 a0_0 l0_1 bt302.1 bt302.2.1) else (some ((bt302.2.2.1.length : Int) == 0)))) = some r := by rw [if_neg (show ¬ (false = true) by decide)] at H; exact H
        clear H
        have H := H1
        clear H1
        replace H := Option.bind_eq_some_iff.mp H
        obtain ⟨⟨t302, t303, t306, t309⟩, A110, H⟩ := H
        replace H : (if t309 = 0 then (mooringslaw10_WheelDue.l0 kj4 a1 a2 t306 0 a0_0 l0_1 t302 t303) else (some ((t306.length : Int) == 0))) = some r := H
        have A11 := Aside0.mk A110
        clear A110
        by_cases c12 : t309 = 0
        · rw [if_pos c12] at H
          have c12b0 : (t309 == 0) = true := beq_iff_eq.mpr c12
          have c12b1 : (t309 != 0) = false := bne_eq_false_iff_eq.mpr c12
          clear c12
          have H' := Aside0.mk H
          clear H
          have hcz13_0 : wc.cell? ⟨gb300, 0, none⟩ = some (.int .i64 a0_0) := (blk_cell BK300.out 0).trans rfl
          have hcz13_1 : wc.cell? ⟨gb300, 1, none⟩ = some (.slice A0_1 l0_1.length c0_1) := (blk_cell BK300.out 1).trans rfl
          have hfz13_0 := blk_frozen BK300.out 0
          have hfz13_1 := blk_frozen BK300.out 1
          go_wp2_with (first | (go_at_call 11; (with_reducible refine (wheel_Step.calls a0_0 _ _ l0_1 a1 t302 t303 t306 t309 _ ?side1 ?side2 A11.out).mono ?_); (case side1 => repeat (first | exact (Kd.C_below HR0_1.out HB.out) | (with_reducible refine Kd.C_alloc ?_ _) | (with_reducible refine Kd.C_drewN ?_ _) | (with_reducible refine Kd.C_drew ?_))); (case side2 => exact HC0_1.out); rintro e w14 ⟨v304, v307, rfl, ho0, ho1, hb⟩; have n0_ := Aside0.mk (Kd.R_lower ho0 (below_size (by repeat (first | (with_reducible first | exact HB.out | apply below_alloc | apply pw_below_drewN | apply below_drew1 | refine below_set ?_ GE300.out) | exact HB.out)))); have n1_ := Aside0.mk (Kd.R_lower ho1 (below_size (by repeat (first | (with_reducible first | exact HB.out | apply below_alloc | apply pw_below_drewN | apply below_drew1 | refine below_set ?_ GE300.out) | exact HB.out)))); have n2_ := Aside0.mk (blk_below (g := gb300) (o := .cells #[.int .i64 a0_0, .slice A0_1 l0_1.length c0_1] 24 (0, 0)) (by (with_reducible repeat (first | refine blk_drewN ?_ _ | refine blk_drew ?_ | refine blk_alloc ?_ _)); exact BK300.out) hb); have n3_ := Aside0.mk (below_step (by repeat (first | (with_reducible first | exact HB.out | apply below_alloc | apply pw_below_drewN | apply below_drew1 | refine below_set ?_ GE300.out) | exact HB.out)) hb); clear BK300; clear HB; have HO305 := n0_; have HO308 := n1_; have BK300 := n2_; have HB := n3_; clear n0_ n1_ n2_ n3_; (try clear hb); (try clear hb2); (try clear hk); (try clear hi); (try clear ho0); (try clear ho1)) | ((with_reducible refine gate_dst (N := 8) rfl ?_); (try (refine gate_guard (by rfl) ?_; dsimp only)); refine box_event ?hg (N := 8) ?hd (cs := #[.int .i64 0, .slice none 0 0]) (t := 24) ?hr ?_; (case hd => rfl); (case hg => rfl); (case hr => first | (go_simp; done) | (go_simp; rfl)); intro gb310 hg w15 hbox hb; have n0_ := Aside0.mk (Kd.R_below (by (with_reducible repeat (first | apply Kd.R_alloc | apply Kd.R_drewN | apply Kd.R_drew)); exact HO305.out) hb); have n1_ := Aside0.mk (Kd.R_below (by (with_reducible repeat (first | apply Kd.R_alloc | apply Kd.R_drewN | apply Kd.R_drew)); exact HO308.out) hb); have n2_ := Aside0.mk (blk_below (g := gb300) (o := .cells #[.int .i64 a0_0, .slice A0_1 l0_1.length c0_1] 24 (0, 0)) (by (with_reducible repeat (first | refine blk_drewN ?_ _ | refine blk_drew ?_ | refine blk_alloc ?_ _)); exact BK300.out) hb); have n3_ := Aside0.mk (below_step (by repeat (first | (with_reducible first | exact HB.out | apply below_alloc | apply pw_below_drewN | apply below_drew1 | refine below_set ?_ GE300.out) | exact HB.out)) hb); have n4_ := Aside0.mk (hbox); have n5_ := Aside0.mk ((by rw [hg]; exact (below_size (by repeat (first | (with_reducible first | exact HB.out | apply below_alloc | apply pw_below_drewN | apply below_drew1 | refine below_set ?_ GE300.out) | exact HB.out))) : w.heap.size ≤ gb310)); have n6_ := Aside0.mk ((by rw [hg]; exact (below_size (by repeat (first | (with_reducible first | exact HB.out | apply below_alloc | apply pw_below_drewN | apply below_drew1 | refine below_set ?_ GE300.out) | exact HB.out))) : w.heap.size ≤ gb310)); have n7_ := Aside0.mk ((by rw [hg]; exact Nat.ne_of_lt (blk_lt (g := gb300) (o := .cells #[.int .i64 a0_0, .slice A0_1 l0_1.length c0_1] 24 (0, 0)) (by (with_reducible repeat (first | refine blk_drewN ?_ _ | refine blk_drew ?_ | refine blk_alloc ?_ _)); exact BK300.out)) : gb300 ≠ gb310)); have n8_ := Aside0.mk ((by rw [hg]; exact Nat.ne_of_gt (blk_lt (g := gb300) (o := .cells #[.int .i64 a0_0, .slice A0_1 l0_1.length c0_1] 24 (0, 0)) (by (with_reducible repeat (first | refine blk_drewN ?_ _ | refine blk_drew ?_ | refine blk_alloc ?_ _)); exact BK300.out)) : gb310 ≠ gb300)); clear HO305; clear HO308; clear BK300; clear HB; have HO305 := n0_; have HO308 := n1_; have BK300 := n2_; have HB := n3_; have BK310 := n4_; have GW310 := n5_; have GE310 := n6_; have NB300_310 := n7_; have NB310_300 := n8_; clear n0_ n1_ n2_ n3_ n4_ n5_ n6_ n7_ n8_; clear hb hbox hg; have hnb16 := NB310_300.out; have hnc16 := NB300_310.out; have hcz17_0 : w15.cell? ⟨gb310, 0, none⟩ = some (.int .i64 0) := (blk_cell BK310.out 0).trans rfl; have hcz17_1 : w15.cell? ⟨gb310, 1, none⟩ = some (.slice none 0 0) := (blk_cell BK310.out 1).trans rfl; have hfz17_0 := blk_frozen BK310.out 0; have hfz17_1 := blk_frozen BK310.out 1; obtain ⟨Ao18, co18, eo18⟩ := Kd.R_slice HO305.out; subst eo18))
          repeat (go_quiet (first | (go_at_call 11; (with_reducible refine (wheel_Step.calls a0_0 _ _ l0_1 a1 t302 t303 t306 t309 _ ?side1 ?side2 A11.out).mono ?_); (case side1 => repeat (first | exact (Kd.C_below HR0_1.out HB.out) | (with_reducible refine Kd.C_alloc ?_ _) | (with_reducible refine Kd.C_drewN ?_ _) | (with_reducible refine Kd.C_drew ?_))); (case side2 => exact HC0_1.out); rintro e w14 ⟨v304, v307, rfl, ho0, ho1, hb⟩; have n0_ := Aside0.mk (Kd.R_lower ho0 (below_size (by repeat (first | (with_reducible first | exact HB.out | apply below_alloc | apply pw_below_drewN | apply below_drew1 | refine below_set ?_ GE300.out) | exact HB.out)))); have n1_ := Aside0.mk (Kd.R_lower ho1 (below_size (by repeat (first | (with_reducible first | exact HB.out | apply below_alloc | apply pw_below_drewN | apply below_drew1 | refine below_set ?_ GE300.out) | exact HB.out)))); have n2_ := Aside0.mk (blk_below (g := gb300) (o := .cells #[.int .i64 a0_0, .slice A0_1 l0_1.length c0_1] 24 (0, 0)) (by (with_reducible repeat (first | refine blk_drewN ?_ _ | refine blk_drew ?_ | refine blk_alloc ?_ _)); exact BK300.out) hb); have n3_ := Aside0.mk (below_step (by repeat (first | (with_reducible first | exact HB.out | apply below_alloc | apply pw_below_drewN | apply below_drew1 | refine below_set ?_ GE300.out) | exact HB.out)) hb); clear BK300; clear HB; have HO305 := n0_; have HO308 := n1_; have BK300 := n2_; have HB := n3_; clear n0_ n1_ n2_ n3_; (try clear hb); (try clear hb2); (try clear hk); (try clear hi); (try clear ho0); (try clear ho1)) | ((with_reducible refine gate_dst (N := 8) rfl ?_); (try (refine gate_guard (by rfl) ?_; dsimp only)); refine box_event ?hg (N := 8) ?hd (cs := #[.int .i64 0, .slice none 0 0]) (t := 24) ?hr ?_; (case hd => rfl); (case hg => rfl); (case hr => first | (go_simp; done) | (go_simp; rfl)); intro gb310 hg w15 hbox hb; have n0_ := Aside0.mk (Kd.R_below (by (with_reducible repeat (first | apply Kd.R_alloc | apply Kd.R_drewN | apply Kd.R_drew)); exact HO305.out) hb); have n1_ := Aside0.mk (Kd.R_below (by (with_reducible repeat (first | apply Kd.R_alloc | apply Kd.R_drewN | apply Kd.R_drew)); exact HO308.out) hb); have n2_ := Aside0.mk (blk_below (g := gb300) (o := .cells #[.int .i64 a0_0, .slice A0_1 l0_1.length c0_1] 24 (0, 0)) (by (with_reducible repeat (first | refine blk_drewN ?_ _ | refine blk_drew ?_ | refine blk_alloc ?_ _)); exact BK300.out) hb); have n3_ := Aside0.mk (below_step (by repeat (first | (with_reducible first | exact HB.out | apply below_alloc | apply pw_below_drewN | apply below_drew1 | refine below_set ?_ GE300.out) | exact HB.out)) hb); have n4_ := Aside0.mk (hbox); have n5_ := Aside0.mk ((by rw [hg]; exact (below_size (by repeat (first | (with_reducible first | exact HB.out | apply below_alloc | apply pw_below_drewN | apply below_drew1 | refine below_set ?_ GE300.out) | exact HB.out))) : w.heap.size ≤ gb310)); have n6_ := Aside0.mk ((by rw [hg]; exact (below_size (by repeat (first | (with_reducible first | exact HB.out | apply below_alloc | apply pw_below_drewN | apply below_drew1 | refine below_set ?_ GE300.out) | exact HB.out))) : w.heap.size ≤ gb310)); have n7_ := Aside0.mk ((by rw [hg]; exact Nat.ne_of_lt (blk_lt (g := gb300) (o := .cells #[.int .i64 a0_0, .slice A0_1 l0_1.length c0_1] 24 (0, 0)) (by (with_reducible repeat (first | refine blk_drewN ?_ _ | refine blk_drew ?_ | refine blk_alloc ?_ _)); exact BK300.out)) : gb300 ≠ gb310)); have n8_ := Aside0.mk ((by rw [hg]; exact Nat.ne_of_gt (blk_lt (g := gb300) (o := .cells #[.int .i64 a0_0, .slice A0_1 l0_1.length c0_1] 24 (0, 0)) (by (with_reducible repeat (first | refine blk_drewN ?_ _ | refine blk_drew ?_ | refine blk_alloc ?_ _)); exact BK300.out)) : gb310 ≠ gb300)); clear HO305; clear HO308; clear BK300; clear HB; have HO305 := n0_; have HO308 := n1_; have BK300 := n2_; have HB := n3_; have BK310 := n4_; have GW310 := n5_; have GE310 := n6_; have NB300_310 := n7_; have NB310_300 := n8_; clear n0_ n1_ n2_ n3_ n4_ n5_ n6_ n7_ n8_; clear hb hbox hg; have hnb16 := NB310_300.out; have hnc16 := NB300_310.out; have hcz17_0 : w15.cell? ⟨gb310, 0, none⟩ = some (.int .i64 0) := (blk_cell BK310.out 0).trans rfl; have hcz17_1 : w15.cell? ⟨gb310, 1, none⟩ = some (.slice none 0 0) := (blk_cell BK310.out 1).trans rfl; have hfz17_0 := blk_frozen BK310.out 0; have hfz17_1 := blk_frozen BK310.out 1; obtain ⟨Ao18, co18, eo18⟩ := Kd.R_slice HO305.out; subst eo18)); try go_wp2_with (first | (go_at_call 11; (with_reducible refine (wheel_Step.calls a0_0 _ _ l0_1 a1 t302 t303 t306 t309 _ ?side1 ?side2 A11.out).mono ?_); (case side1 => repeat (first | exact (Kd.C_below HR0_1.out HB.out) | (with_reducible refine Kd.C_alloc ?_ _) | (with_reducible refine Kd.C_drewN ?_ _) | (with_reducible refine Kd.C_drew ?_))); (case side2 => exact HC0_1.out); rintro e w14 ⟨v304, v307, rfl, ho0, ho1, hb⟩; have n0_ := Aside0.mk (Kd.R_lower ho0 (below_size (by repeat (first | (with_reducible first | exact HB.out | apply below_alloc | apply pw_below_drewN | apply below_drew1 | refine below_set ?_ GE300.out) | exact HB.out)))); have n1_ := Aside0.mk (Kd.R_lower ho1 (below_size (by repeat (first | (with_reducible first | exact HB.out | apply below_alloc | apply pw_below_drewN | apply below_drew1 | refine below_set ?_ GE300.out) | exact HB.out)))); have n2_ := Aside0.mk (blk_below (g := gb300) (o := .cells #[.int .i64 a0_0, .slice A0_1 l0_1.length c0_1] 24 (0, 0)) (by (with_reducible repeat (first | refine blk_drewN ?_ _ | refine blk_drew ?_ | refine blk_alloc ?_ _)); exact BK300.out) hb); have n3_ := Aside0.mk (below_step (by repeat (first | (with_reducible first | exact HB.out | apply below_alloc | apply pw_below_drewN | apply below_drew1 | refine below_set ?_ GE300.out) | exact HB.out)) hb); clear BK300; clear HB; have HO305 := n0_; have HO308 := n1_; have BK300 := n2_; have HB := n3_; clear n0_ n1_ n2_ n3_; (try clear hb); (try clear hb2); (try clear hk); (try clear hi); (try clear ho0); (try clear ho1)) | ((with_reducible refine gate_dst (N := 8) rfl ?_); (try (refine gate_guard (by rfl) ?_; dsimp only)); refine box_event ?hg (N := 8) ?hd (cs := #[.int .i64 0, .slice none 0 0]) (t := 24) ?hr ?_; (case hd => rfl); (case hg => rfl); (case hr => first | (go_simp; done) | (go_simp; rfl)); intro gb310 hg w15 hbox hb; have n0_ := Aside0.mk (Kd.R_below (by (with_reducible repeat (first | apply Kd.R_alloc | apply Kd.R_drewN | apply Kd.R_drew)); exact HO305.out) hb); have n1_ := Aside0.mk (Kd.R_below (by (with_reducible repeat (first | apply Kd.R_alloc | apply Kd.R_drewN | apply Kd.R_drew)); exact HO308.out) hb); have n2_ := Aside0.mk (blk_below (g := gb300) (o := .cells #[.int .i64 a0_0, .slice A0_1 l0_1.length c0_1] 24 (0, 0)) (by (with_reducible repeat (first | refine blk_drewN ?_ _ | refine blk_drew ?_ | refine blk_alloc ?_ _)); exact BK300.out) hb); have n3_ := Aside0.mk (below_step (by repeat (first | (with_reducible first | exact HB.out | apply below_alloc | apply pw_below_drewN | apply below_drew1 | refine below_set ?_ GE300.out) | exact HB.out)) hb); have n4_ := Aside0.mk (hbox); have n5_ := Aside0.mk ((by rw [hg]; exact (below_size (by repeat (first | (with_reducible first | exact HB.out | apply below_alloc | apply pw_below_drewN | apply below_drew1 | refine below_set ?_ GE300.out) | exact HB.out))) : w.heap.size ≤ gb310)); have n6_ := Aside0.mk ((by rw [hg]; exact (below_size (by repeat (first | (with_reducible first | exact HB.out | apply below_alloc | apply pw_below_drewN | apply below_drew1 | refine below_set ?_ GE300.out) | exact HB.out))) : w.heap.size ≤ gb310)); have n7_ := Aside0.mk ((by rw [hg]; exact Nat.ne_of_lt (blk_lt (g := gb300) (o := .cells #[.int .i64 a0_0, .slice A0_1 l0_1.length c0_1] 24 (0, 0)) (by (with_reducible repeat (first | refine blk_drewN ?_ _ | refine blk_drew ?_ | refine blk_alloc ?_ _)); exact BK300.out)) : gb300 ≠ gb310)); have n8_ := Aside0.mk ((by rw [hg]; exact Nat.ne_of_gt (blk_lt (g := gb300) (o := .cells #[.int .i64 a0_0, .slice A0_1 l0_1.length c0_1] 24 (0, 0)) (by (with_reducible repeat (first | refine blk_drewN ?_ _ | refine blk_drew ?_ | refine blk_alloc ?_ _)); exact BK300.out)) : gb310 ≠ gb300)); clear HO305; clear HO308; clear BK300; clear HB; have HO305 := n0_; have HO308 := n1_; have BK300 := n2_; have HB := n3_; have BK310 := n4_; have GW310 := n5_; have GE310 := n6_; have NB300_310 := n7_; have NB310_300 := n8_; clear n0_ n1_ n2_ n3_ n4_ n5_ n6_ n7_ n8_; clear hb hbox hg; have hnb16 := NB310_300.out; have hnc16 := NB300_310.out; have hcz17_0 : w15.cell? ⟨gb310, 0, none⟩ = some (.int .i64 0) := (blk_cell BK310.out 0).trans rfl; have hcz17_1 : w15.cell? ⟨gb310, 1, none⟩ = some (.slice none 0 0) := (blk_cell BK310.out 1).trans rfl; have hfz17_0 := blk_frozen BK310.out 0; have hfz17_1 := blk_frozen BK310.out 1; obtain ⟨Ao18, co18, eo18⟩ := Kd.R_slice HO305.out; subst eo18)))
          go_loopg [11] kj4 (fun kq v11 w' => ∃ (x11_2 : Int), v11 = .int .i64 x11_2 ∧ Aside0 (mooringslaw10_WheelDue.l0 kq a1 a2 t306 x11_2 a0_0 l0_1 t302 t303 = some r) ∧ Aside0 (kq ≤ kj4) ∧ Aside0 (Kd.R k33 33 w' w.heap.size (fun k_ => some k_ ≠ ((.slice Ao18 t303.length co18) : Value).ownBlock) v307 t306) ∧ Aside0 (Kd.R k33 33 w' w.heap.size (fun k_ => some k_ ≠ (v307 : Value).ownBlock) (.slice Ao18 t303.length co18) t303) ∧ Aside0 (w'.heap[gb300]? = some (.cells #[.int .i64 a0_0, (.slice A0_1 l0_1.length c0_1)] 24 (0, 0))) ∧ Aside0 (w'.heap[gb310]? = some (.cells #[.int .i64 t302, (.slice Ao18 t303.length co18)] 24 (0, 0))) ∧ Aside0 (Below w.heap.size w w'))
          case atStart => exact ⟨(0), (by first | rfl | (simp; done) | (simp [*]; done)), H', ⟨Nat.le_refl _⟩, ⟨by (with_reducible repeat (first | apply Kd.R_alloc | apply Kd.R_drewN | apply Kd.R_drew)); exact Kd.R_mono (Kd.R_far (p := ⟨gb310, 1, none⟩) (Kd.R_far (p := ⟨gb310, 0, none⟩) (Kd.R_types HO308.out BK310.out (by decide)) (fun _ hk => hk.2) (.int .i64 t302)) (fun _ hk => hk.2) (.slice Ao18 t303.length co18)) (fun _ hk => hk.1)⟩, ⟨by (with_reducible repeat (first | apply Kd.R_alloc | apply Kd.R_drewN | apply Kd.R_drew)); exact Kd.R_mono (Kd.R_far (p := ⟨gb310, 1, none⟩) (Kd.R_far (p := ⟨gb310, 0, none⟩) (Kd.R_types HO305.out BK310.out (by decide)) (fun _ hk => hk.2) (.int .i64 t302)) (fun _ hk => hk.2) (.slice Ao18 t303.length co18)) (fun _ hk => hk.1)⟩, ⟨by (with_reducible repeat (first | refine blk_drewN ?_ _ | refine blk_drew ?_ | refine blk_alloc ?_ _)); refine blk_far ?_ NB300_310.out _; (with_reducible repeat (first | refine blk_drewN ?_ _ | refine blk_drew ?_ | refine blk_alloc ?_ _)); refine blk_far ?_ NB300_310.out _; (with_reducible repeat (first | refine blk_drewN ?_ _ | refine blk_drew ?_ | refine blk_alloc ?_ _)); exact BK300.out⟩, ⟨by (with_reducible repeat (first | refine blk_drewN ?_ _ | refine blk_drew ?_ | refine blk_alloc ?_ _)); refine blk_put (cs := #[.int .i64 t302, .slice none 0 0]) ?_ 1 _ rfl; (with_reducible repeat (first | refine blk_drewN ?_ _ | refine blk_drew ?_ | refine blk_alloc ?_ _)); refine blk_put (cs := #[.int .i64 0, .slice none 0 0]) ?_ 0 _ rfl; (with_reducible repeat (first | refine blk_drewN ?_ _ | refine blk_drew ?_ | refine blk_alloc ?_ _)); exact BK310.out⟩, ⟨by repeat (first | (with_reducible first | exact HB.out | apply below_alloc | apply pw_below_drewN | apply below_drew1 | refine below_set ?_ GE300.out | refine below_set ?_ GE310.out) | exact HB.out)⟩⟩
          case round => as_aux_lemma =>
            clear H'
            try clear c1
            try clear p2
            try clear c4
            try clear c8
            try clear c10
            try clear c12
            try clear c12b0
            try clear c12b1
            try clear c16
            try clear hcz13_0
            try clear hcz13_1
            try clear hcz17_0
            try clear hcz17_1
            try clear hcz9_0
            try clear hcz9_1
            try clear hfz13_0
            try clear hfz13_1
            try clear hfz17_0
            try clear hfz17_1
            try clear hfz9_0
            try clear hfz9_1
            try clear p2
            obtain ⟨x11_2, rfl, HA, HK2, HO_9, HO_311001, BK300, BK310, HB⟩ := hrel
            cases gk with
            | zero => exact absurd HA.out (by simp [mooringslaw10_WheelDue.l0])
            | succ k2 =>
              have H := HA.out
              clear HA
              simp only [mooringslaw10_WheelDue.l0] at H
              by_cases c19 : x11_2 < (t306.length : Int)
              · rw [if_pos c19] at H
                have c19b0 : decide (x11_2 < (t306.length : Int)) = true := decide_eq_true c19
                clear c19
                have HC20 := Aside0.mk H
                clear H
                obtain ⟨Ao21, co21, eo21⟩ := Kd.R_slice HO_9.out
                subst eo21
                go_upto_region 10 with (fail)
                repeat (go_quiet (fail); go_upto_region 10 with (fail))
                go_cut [96] (fun v96 wc => ∃ (kq : Nat) (x96_19 : Bool), v96 = .bool x96_19 ∧ Aside0 (mooringslaw10_WheelDue.j2 kq a1 a2 t306 x11_2 x96_19 a0_0 l0_1 t302 t303 = some r) ∧ Aside0 (kq ≤ k2) ∧ Aside0 (Kd.R k33 33 wc w.heap.size (fun k_ => some k_ ≠ ((.slice Ao18 t303.length co18) : Value).ownBlock) (.slice Ao21 t306.length co21) t306) ∧ Aside0 (Kd.R k33 33 wc w.heap.size (fun k_ => some k_ ≠ ((.slice Ao21 t306.length co21) : Value).ownBlock) (.slice Ao18 t303.length co18) t303) ∧ Aside0 (wc.heap[gb300]? = some (.cells #[.int .i64 a0_0, (.slice A0_1 l0_1.length c0_1)] 24 (0, 0))) ∧ Aside0 (wc.heap[gb310]? = some (.cells #[.int .i64 t302, (.slice Ao18 t303.length co18)] 24 (0, 0))) ∧ Aside0 (Below w.heap.size w wc))
                case first =>
                  have H := HC20.out
                  clear HC20
                  by_cases c22 : 0 ≤ x11_2
                  · rw [if_pos c22] at H
                    have c22b0 : decide (0 ≤ x11_2) = true := decide_eq_true c22
                    clear c22
                    (first | rw [c22b0] | (simp only [i64_w, i32_w]; rw [c22b0]) | skip)
                    by_cases c23 : ((rd_T33 t306 x11_2).f1) > a1
                    · rw [if_pos c23] at H
                      have c23b0 : decide (a1 < ((rd_T33 t306 x11_2).f1)) = true := decide_eq_true c23
                      clear c23
                      have H' := Aside0.mk H
                      clear H
                      have p311 : 0 ≤ (x11_2 : Int) := of_decide_eq_true (by first | (with_reducible assumption) | assumption)
                      have q311 : x11_2 < (t306.length : Int) := of_decide_eq_true (by first | (with_reducible assumption) | assumption)
                      obtain ⟨ad311, e311, hx311_0, hx311_1⟩ := at_T33 (Kd.R_reads' HO_9.out).2.2 x11_2 p311 q311
                      cases e311
                      replace p311 := eq_true p311
                      replace q311 := eq_true q311
                      go_wp2
                      repeat (go_quiet (fail); try go_wp2)
                      go_meet
                      case rel => exact ⟨_, (true), (by first | rfl | (simp; done) | (simp [*]; done)), H', ⟨by have := HJ4.out; have := HK2.out; first | omega | exact Nat.le_refl _⟩, ⟨by (with_reducible repeat (first | apply Kd.R_alloc | apply Kd.R_drewN | apply Kd.R_drew)); exact HO_9.out⟩, ⟨by (with_reducible repeat (first | apply Kd.R_alloc | apply Kd.R_drewN | apply Kd.R_drew)); exact HO_311001.out⟩, ⟨by (with_reducible repeat (first | refine blk_drewN ?_ _ | refine blk_drew ?_ | refine blk_alloc ?_ _)); exact BK300.out⟩, ⟨by (with_reducible repeat (first | refine blk_drewN ?_ _ | refine blk_drew ?_ | refine blk_alloc ?_ _)); exact BK310.out⟩, ⟨by repeat (first | (with_reducible first | exact HB.out | apply below_alloc | apply pw_below_drewN | apply below_drew1 | refine below_set ?_ GE300.out | refine below_set ?_ GE310.out) | exact HB.out)⟩⟩
                    · rw [if_neg c23] at H
                      have c23b0 : decide (a1 < ((rd_T33 t306 x11_2).f1)) = false := decide_eq_false c23
                      clear c23
                      by_cases c24 : x11_2 > 0
                      · rw [if_pos c24] at H
                        have c24b0 : decide (0 < x11_2) = true := decide_eq_true c24
                        clear c24
                        obtain ⟨ji25, hji25⟩ : ∃ j_ : Int, (wrap64 (x11_2 - 1)) = j_ := ⟨_, rfl⟩
                        replace H : (if 0 ≤ (ji25) then (if (ji25) < (t306.length : Int) then (if ((rd_T33 t306 x11_2).f1) < ((rd_T33 t306 (ji25)).f1) then (mooringslaw10_WheelDue.j2 k2 a1 a2 t306 x11_2 true a0_0 l0_1 t302 t303) else (if ((rd_T33 t306 x11_2).f1) = ((rd_T33 t306 (ji25)).f1) then (mooringslaw10_WheelDue.j2 k2 a1 a2 t306 x11_2 (decide (((rd_T33 t306 x11_2).f0) ≤ ((rd_T33 t306 (ji25)).f0))) a0_0 l0_1 t302 t303) else (mooringslaw10_WheelDue.j2 k2 a1 a2 t306 x11_2 false a0_0 l0_1 t302 t303))) else (none)) else (none)) = some r := by first | (rw [hji25] at H; exact H) | (simp only [hji25] at H ⊢; exact H)
                        have hji25w : (IntKind.i64.wrap (x11_2 - 1)) = ji25 := (i64_w _).trans hji25
                        by_cases c26 : 0 ≤ (ji25)
                        · rw [if_pos c26] at H
                          have c26b0 : decide (0 ≤ (ji25)) = true := decide_eq_true c26
                          clear c26
                          by_cases c27 : (ji25) < (t306.length : Int)
                          · rw [if_pos c27] at H
                            have c27b0 : decide ((ji25) < (t306.length : Int)) = true := decide_eq_true c27
                            clear c27
                            by_cases c28 : ((rd_T33 t306 x11_2).f1) < ((rd_T33 t306 (ji25)).f1)
                            · rw [if_pos c28] at H
                              have c28b0 : decide (((rd_T33 t306 x11_2).f1) < ((rd_T33 t306 (ji25)).f1)) = true := decide_eq_true c28
                              clear c28
                              have H' := Aside0.mk H
                              clear H
                              have p311 : 0 ≤ (x11_2 : Int) := of_decide_eq_true (by first | (with_reducible assumption) | assumption)
                              have q311 : x11_2 < (t306.length : Int) := of_decide_eq_true (by first | (with_reducible assumption) | assumption)
                              obtain ⟨ad311, e311, hx311_0, hx311_1⟩ := at_T33 (Kd.R_reads' HO_9.out).2.2 x11_2 p311 q311
                              cases e311
                              replace p311 := eq_true p311
                              replace q311 := eq_true q311
                              have p312 : 0 ≤ (x11_2 : Int) := of_decide_eq_true (by first | (with_reducible assumption) | assumption)
                              have q312 : x11_2 < (t306.length : Int) := of_decide_eq_true (by first | (with_reducible assumption) | assumption)
                              obtain ⟨ad312, e312, hx312_0, hx312_1⟩ := at_T33 (Kd.R_reads' HO_9.out).2.2 x11_2 p312 q312
                              obtain rfl : ad311 = ad312 := (by injection e312)
                              replace p312 := eq_true p312
                              replace q312 := eq_true q312
                              have p313 : 0 ≤ ((ji25) : Int) := of_decide_eq_true (by first | (with_reducible assumption) | assumption)
                              have q313 : (ji25) < (t306.length : Int) := of_decide_eq_true (by first | (with_reducible assumption) | assumption)
                              obtain ⟨ad313, e313, hx313_0, hx313_1⟩ := at_T33 (Kd.R_reads' HO_9.out).2.2 (ji25) p313 q313
                              obtain rfl : ad311 = ad313 := (by injection e313)
                              replace p313 := eq_true p313
                              replace q313 := eq_true q313
                              go_wp2
                              repeat (go_quiet (fail); try go_wp2)
                              go_meet
                              case rel => exact ⟨_, (true), (by first | rfl | (simp; done) | (simp [*]; done)), H', ⟨by have := HJ4.out; have := HK2.out; first | omega | exact Nat.le_refl _⟩, ⟨by (with_reducible repeat (first | apply Kd.R_alloc | apply Kd.R_drewN | apply Kd.R_drew)); exact HO_9.out⟩, ⟨by (with_reducible repeat (first | apply Kd.R_alloc | apply Kd.R_drewN | apply Kd.R_drew)); exact HO_311001.out⟩, ⟨by (with_reducible repeat (first | refine blk_drewN ?_ _ | refine blk_drew ?_ | refine blk_alloc ?_ _)); exact BK300.out⟩, ⟨by (with_reducible repeat (first | refine blk_drewN ?_ _ | refine blk_drew ?_ | refine blk_alloc ?_ _)); exact BK310.out⟩, ⟨by repeat (first | (with_reducible first | exact HB.out | apply below_alloc | apply pw_below_drewN | apply below_drew1 | refine below_set ?_ GE300.out | refine below_set ?_ GE310.out) | exact HB.out)⟩⟩
                            · rw [if_neg c28] at H
                              have c28b0 : decide (((rd_T33 t306 x11_2).f1) < ((rd_T33 t306 (ji25)).f1)) = false := decide_eq_false c28
                              clear c28
                              by_cases c29 : ((rd_T33 t306 x11_2).f1) = ((rd_T33 t306 (ji25)).f1)
                              · rw [if_pos c29] at H
                                have c29b0 : (((rd_T33 t306 x11_2).f1) == ((rd_T33 t306 (ji25)).f1)) = true := beq_iff_eq.mpr c29
                                have c29b1 : (((rd_T33 t306 x11_2).f1) != ((rd_T33 t306 (ji25)).f1)) = false := bne_eq_false_iff_eq.mpr c29
                                clear c29
                                have H' := Aside0.mk H
                                clear H
                                have p311 : 0 ≤ (x11_2 : Int) := of_decide_eq_true (by first | (with_reducible assumption) | assumption)
                                have q311 : x11_2 < (t306.length : Int) := of_decide_eq_true (by first | (with_reducible assumption) | assumption)
                                obtain ⟨ad311, e311, hx311_0, hx311_1⟩ := at_T33 (Kd.R_reads' HO_9.out).2.2 x11_2 p311 q311
                                cases e311
                                replace p311 := eq_true p311
                                replace q311 := eq_true q311
                                have p312 : 0 ≤ (x11_2 : Int) := of_decide_eq_true (by first | (with_reducible assumption) | assumption)
                                have q312 : x11_2 < (t306.length : Int) := of_decide_eq_true (by first | (with_reducible assumption) | assumption)
                                obtain ⟨ad312, e312, hx312_0, hx312_1⟩ := at_T33 (Kd.R_reads' HO_9.out).2.2 x11_2 p312 q312
                                obtain rfl : ad311 = ad312 := (by injection e312)
                                replace p312 := eq_true p312
                                replace q312 := eq_true q312
                                have p313 : 0 ≤ ((ji25) : Int) := of_decide_eq_true (by first | (with_reducible assumption) | assumption)
                                have q313 : (ji25) < (t306.length : Int) := of_decide_eq_true (by first | (with_reducible assumption) | assumption)
                                obtain ⟨ad313, e313, hx313_0, hx313_1⟩ := at_T33 (Kd.R_reads' HO_9.out).2.2 (ji25) p313 q313
                                obtain rfl : ad311 = ad313 := (by injection e313)
                                replace p313 := eq_true p313
                                replace q313 := eq_true q313
                                have p314 : 0 ≤ (x11_2 : Int) := of_decide_eq_true (by first | (with_reducible assumption) | assumption)
                                have q314 : x11_2 < (t306.length : Int) := of_decide_eq_true (by first | (with_reducible assumption) | assumption)
                                obtain ⟨ad314, e314, hx314_0, hx314_1⟩ := at_T33 (Kd.R_reads' HO_9.out).2.2 x11_2 p314 q314
                                obtain rfl : ad311 = ad314 := (by injection e314)
                                replace p314 := eq_true p314
                                replace q314 := eq_true q314
                                have p315 : 0 ≤ ((ji25) : Int) := of_decide_eq_true (by first | (with_reducible assumption) | assumption)
                                have q315 : (ji25) < (t306.length : Int) := of_decide_eq_true (by first | (with_reducible assumption) | assumption)
                                obtain ⟨ad315, e315, hx315_0, hx315_1⟩ := at_T33 (Kd.R_reads' HO_9.out).2.2 (ji25) p315 q315
                                obtain rfl : ad311 = ad315 := (by injection e315)
                                replace p315 := eq_true p315
                                replace q315 := eq_true q315
                                have p316 : 0 ≤ (x11_2 : Int) := of_decide_eq_true (by first | (with_reducible assumption) | assumption)
                                have q316 : x11_2 < (t306.length : Int) := of_decide_eq_true (by first | (with_reducible assumption) | assumption)
                                obtain ⟨ad316, e316, hx316_0, hx316_1⟩ := at_T33 (Kd.R_reads' HO_9.out).2.2 x11_2 p316 q316
                                obtain rfl : ad311 = ad316 := (by injection e316)
                                replace p316 := eq_true p316
                                replace q316 := eq_true q316
                                have p317 : 0 ≤ ((ji25) : Int) := of_decide_eq_true (by first | (with_reducible assumption) | assumption)
                                have q317 : (ji25) < (t306.length : Int) := of_decide_eq_true (by first | (with_reducible assumption) | assumption)
                                obtain ⟨ad317, e317, hx317_0, hx317_1⟩ := at_T33 (Kd.R_reads' HO_9.out).2.2 (ji25) p317 q317
                                obtain rfl : ad311 = ad317 := (by injection e317)
                                replace p317 := eq_true p317
                                replace q317 := eq_true q317
                                go_wp2
                                repeat (go_quiet (fail); try go_wp2)
                                go_meet
                                case rel => exact ⟨_, (decide (((rd_T33 t306 x11_2).f0) ≤ ((rd_T33 t306 (ji25)).f0))), (by first | rfl | (simp; done) | (simp only [← hji25] <;> (first | rfl | simp)) | (simp [*]; done)), H', ⟨by have := HJ4.out; have := HK2.out; first | omega | exact Nat.le_refl _⟩, ⟨by (with_reducible repeat (first | apply Kd.R_alloc | apply Kd.R_drewN | apply Kd.R_drew)); exact HO_9.out⟩, ⟨by (with_reducible repeat (first | apply Kd.R_alloc | apply Kd.R_drewN | apply Kd.R_drew)); exact HO_311001.out⟩, ⟨by (with_reducible repeat (first | refine blk_drewN ?_ _ | refine blk_drew ?_ | refine blk_alloc ?_ _)); exact BK300.out⟩, ⟨by (with_reducible repeat (first | refine blk_drewN ?_ _ | refine blk_drew ?_ | refine blk_alloc ?_ _)); exact BK310.out⟩, ⟨by repeat (first | (with_reducible first | exact HB.out | apply below_alloc | apply pw_below_drewN | apply below_drew1 | refine below_set ?_ GE300.out | refine below_set ?_ GE310.out) | exact HB.out)⟩⟩
                              · rw [if_neg c29] at H
                                have c29b0 : (((rd_T33 t306 x11_2).f1) == ((rd_T33 t306 (ji25)).f1)) = false := beq_eq_false_iff_ne.mpr c29
                                have c29b1 : (((rd_T33 t306 x11_2).f1) != ((rd_T33 t306 (ji25)).f1)) = true := bne_iff_ne.mpr c29
                                have H' := Aside0.mk H
                                clear H
                                have p311 : 0 ≤ (x11_2 : Int) := of_decide_eq_true (by first | (with_reducible assumption) | assumption)
                                have q311 : x11_2 < (t306.length : Int) := of_decide_eq_true (by first | (with_reducible assumption) | assumption)
                                obtain ⟨ad311, e311, hx311_0, hx311_1⟩ := at_T33 (Kd.R_reads' HO_9.out).2.2 x11_2 p311 q311
                                cases e311
                                replace p311 := eq_true p311
                                replace q311 := eq_true q311
                                have p312 : 0 ≤ (x11_2 : Int) := of_decide_eq_true (by first | (with_reducible assumption) | assumption)
                                have q312 : x11_2 < (t306.length : Int) := of_decide_eq_true (by first | (with_reducible assumption) | assumption)
                                obtain ⟨ad312, e312, hx312_0, hx312_1⟩ := at_T33 (Kd.R_reads' HO_9.out).2.2 x11_2 p312 q312
                                obtain rfl : ad311 = ad312 := (by injection e312)
                                replace p312 := eq_true p312
                                replace q312 := eq_true q312
                                have p313 : 0 ≤ ((ji25) : Int) := of_decide_eq_true (by first | (with_reducible assumption) | assumption)
                                have q313 : (ji25) < (t306.length : Int) := of_decide_eq_true (by first | (with_reducible assumption) | assumption)
                                obtain ⟨ad313, e313, hx313_0, hx313_1⟩ := at_T33 (Kd.R_reads' HO_9.out).2.2 (ji25) p313 q313
                                obtain rfl : ad311 = ad313 := (by injection e313)
                                replace p313 := eq_true p313
                                replace q313 := eq_true q313
                                have p314 : 0 ≤ (x11_2 : Int) := of_decide_eq_true (by first | (with_reducible assumption) | assumption)
                                have q314 : x11_2 < (t306.length : Int) := of_decide_eq_true (by first | (with_reducible assumption) | assumption)
                                obtain ⟨ad314, e314, hx314_0, hx314_1⟩ := at_T33 (Kd.R_reads' HO_9.out).2.2 x11_2 p314 q314
                                obtain rfl : ad311 = ad314 := (by injection e314)
                                replace p314 := eq_true p314
                                replace q314 := eq_true q314
                                have p315 : 0 ≤ ((ji25) : Int) := of_decide_eq_true (by first | (with_reducible assumption) | assumption)
                                have q315 : (ji25) < (t306.length : Int) := of_decide_eq_true (by first | (with_reducible assumption) | assumption)
                                obtain ⟨ad315, e315, hx315_0, hx315_1⟩ := at_T33 (Kd.R_reads' HO_9.out).2.2 (ji25) p315 q315
                                obtain rfl : ad311 = ad315 := (by injection e315)
                                replace p315 := eq_true p315
                                replace q315 := eq_true q315
                                go_wp2
                                repeat (go_quiet (fail); try go_wp2)
                                go_meet
                                case rel => exact ⟨_, (false), (by first | rfl | (simp; done) | (simp [*]; done)), H', ⟨by have := HJ4.out; have := HK2.out; first | omega | exact Nat.le_refl _⟩, ⟨by (with_reducible repeat (first | apply Kd.R_alloc | apply Kd.R_drewN | apply Kd.R_drew)); exact HO_9.out⟩, ⟨by (with_reducible repeat (first | apply Kd.R_alloc | apply Kd.R_drewN | apply Kd.R_drew)); exact HO_311001.out⟩, ⟨by (with_reducible repeat (first | refine blk_drewN ?_ _ | refine blk_drew ?_ | refine blk_alloc ?_ _)); exact BK300.out⟩, ⟨by (with_reducible repeat (first | refine blk_drewN ?_ _ | refine blk_drew ?_ | refine blk_alloc ?_ _)); exact BK310.out⟩, ⟨by repeat (first | (with_reducible first | exact HB.out | apply below_alloc | apply pw_below_drewN | apply below_drew1 | refine below_set ?_ GE300.out | refine below_set ?_ GE310.out) | exact HB.out)⟩⟩
                          · rw [if_neg c27] at H
                            exact absurd H (by simp)
                        · rw [if_neg c26] at H
                          exact absurd H (by simp)
                      · rw [if_neg c24] at H
                        have c24b0 : decide (0 < x11_2) = false := decide_eq_false c24
                        clear c24
                        have H' := Aside0.mk H
                        clear H
                        have p311 : 0 ≤ (x11_2 : Int) := of_decide_eq_true (by first | (with_reducible assumption) | assumption)
                        have q311 : x11_2 < (t306.length : Int) := of_decide_eq_true (by first | (with_reducible assumption) | assumption)
                        obtain ⟨ad311, e311, hx311_0, hx311_1⟩ := at_T33 (Kd.R_reads' HO_9.out).2.2 x11_2 p311 q311
                        cases e311
                        replace p311 := eq_true p311
                        replace q311 := eq_true q311
                        go_wp2
                        repeat (go_quiet (fail); try go_wp2)
                        go_meet
                        case rel => exact ⟨_, (false), (by first | rfl | (simp; done) | (simp [*]; done)), H', ⟨by have := HJ4.out; have := HK2.out; first | omega | exact Nat.le_refl _⟩, ⟨by (with_reducible repeat (first | apply Kd.R_alloc | apply Kd.R_drewN | apply Kd.R_drew)); exact HO_9.out⟩, ⟨by (with_reducible repeat (first | apply Kd.R_alloc | apply Kd.R_drewN | apply Kd.R_drew)); exact HO_311001.out⟩, ⟨by (with_reducible repeat (first | refine blk_drewN ?_ _ | refine blk_drew ?_ | refine blk_alloc ?_ _)); exact BK300.out⟩, ⟨by (with_reducible repeat (first | refine blk_drewN ?_ _ | refine blk_drew ?_ | refine blk_alloc ?_ _)); exact BK310.out⟩, ⟨by repeat (first | (with_reducible first | exact HB.out | apply below_alloc | apply pw_below_drewN | apply below_drew1 | refine below_set ?_ GE300.out | refine below_set ?_ GE310.out) | exact HB.out)⟩⟩
                  · rw [if_neg c22] at H
                    exact absurd H (by simp)
                case rest => as_aux_lemma =>
                  clear HC20
                  try clear c1
                  try clear c2
                  try clear p2
                  try clear p3
                  try clear q3
                  try clear hx3
                  try clear c4
                  try clear p6
                  try clear c8
                  try clear c10
                  try clear c12
                  try clear c12b0
                  try clear c12b1
                  try clear c16
                  try clear c19
                  try clear c19b0
                  try clear c22
                  try clear c22b0
                  try clear c23
                  try clear c23b0
                  try clear c24
                  try clear c24b0
                  try clear c26
                  try clear c26b0
                  try clear c27
                  try clear c27b0
                  try clear c28
                  try clear c28b0
                  try clear c29
                  try clear c29b0
                  try clear c29b1
                  try clear hcz13_0
                  try clear hcz13_1
                  try clear hcz17_0
                  try clear hcz17_1
                  try clear hcz9_0
                  try clear hcz9_1
                  try clear hfz13_0
                  try clear hfz13_1
                  try clear hfz17_0
                  try clear hfz17_1
                  try clear hfz9_0
                  try clear hfz9_1
                  try clear hx311_0
                  try clear hx311_1
                  try clear hx312_0
                  try clear hx312_1
                  try clear hx313_0
                  try clear hx313_1
                  try clear hx314_0
                  try clear hx314_1
                  try clear hx315_0
                  try clear hx315_1
                  try clear hx316_0
                  try clear hx316_1
                  try clear hx317_0
                  try clear hx317_1
                  try clear p2
                  try clear p311
                  try clear p312
                  try clear p313
                  try clear p314
                  try clear p315
                  try clear p316
                  try clear p317
                  try clear q311
                  try clear q312
                  try clear q313
                  try clear q314
                  try clear q315
                  try clear q316
                  try clear q317
                  obtain ⟨kq, x96_19, rfl, HA, HJ19, HO_9, HO_311001, BK300, BK310, HB⟩ := hcut
                  cases kq with
                  | zero => exact absurd HA.out (by simp [mooringslaw10_WheelDue.j2])
                  | succ kj19 =>
                    have H := HA.out
                    clear HA
                    simp only [mooringslaw10_WheelDue.j2] at H
                    by_cases c30 : x96_19 = true
                    · subst c30
                      have H1 : (some false) = some r := by rw [if_pos rfl] at H; exact H
                      clear H
                      have H := H1
                      clear H1
                      obtain rfl := Option.some.inj H
                      go_wp2
                      repeat (go_quiet (fail); try go_wp2)
                      go_ret
                      exact ⟨by first | rfl | (simp [errW_none, errW_some] <;> rfl) | (simp [*, errW_none, errW_some] <;> rfl), by repeat (first | (with_reducible first | exact HB.out | apply below_alloc | apply pw_below_drewN | apply below_drew1 | refine below_set ?_ GE300.out | refine below_set ?_ GE310.out) | exact HB.out)⟩
                    · replace c30 := Bool.eq_false_iff.mpr c30
                      subst c30
                      have H1 : (mooringslaw10_WheelDue.l0 kj19 a1 a2 t306 (wrap64 (x11_2 + 1)) a0_0 l0_1 t302 t303) = some r := by rw [if_neg (show ¬ (false = true) by decide)] at H; exact H
                      clear H
                      have H := H1
                      clear H1
                      have H' := Aside0.mk H
                      clear H
                      go_wp2
                      repeat (go_quiet (fail); try go_wp2)
                      go_roundg kj19
                      case measure => have := HJ4.out; have := HK2.out; have := HJ19.out; omega
                      case rel => exact ⟨(wrap64 (x11_2 + 1)), (by first | rfl | (simp; done) | (simp [*]; done)), H', ⟨by have := HJ4.out; have := HK2.out; have := HJ19.out; omega⟩, ⟨by (with_reducible repeat (first | apply Kd.R_alloc | apply Kd.R_drewN | apply Kd.R_drew)); exact HO_9.out⟩, ⟨by (with_reducible repeat (first | apply Kd.R_alloc | apply Kd.R_drewN | apply Kd.R_drew)); exact HO_311001.out⟩, ⟨by (with_reducible repeat (first | refine blk_drewN ?_ _ | refine blk_drew ?_ | refine blk_alloc ?_ _)); exact BK300.out⟩, ⟨by (with_reducible repeat (first | refine blk_drewN ?_ _ | refine blk_drew ?_ | refine blk_alloc ?_ _)); exact BK310.out⟩, ⟨by repeat (first | (with_reducible first | exact HB.out | apply below_alloc | apply pw_below_drewN | apply below_drew1 | refine below_set ?_ GE300.out | refine below_set ?_ GE310.out) | exact HB.out)⟩⟩
              · rw [if_neg c19] at H
                have c19b0 : decide (x11_2 < (t306.length : Int)) = false := decide_eq_false c19
                clear c19
                have H' := Aside0.mk H
                clear H
                obtain ⟨Ao31, co31, eo31⟩ := Kd.R_slice HO_9.out
                subst eo31
                go_wp2
                repeat (go_quiet (fail); try go_wp2)
                go_loopg [12] k2 (fun kq v12 w' => ∃ (x12_3 : Int), v12 = .int .i64 x12_3 ∧ Aside0 (mooringslaw10_WheelDue.l1 kq a1 a2 t306 x12_3 a0_0 l0_1 t302 t303 = some r) ∧ Aside0 (kq ≤ k2) ∧ Aside0 (Kd.R k33 33 w' w.heap.size (fun k_ => some k_ ≠ ((.slice Ao18 t303.length co18) : Value).ownBlock) (.slice Ao31 t306.length co31) t306) ∧ Aside0 (Kd.R k33 33 w' w.heap.size (fun k_ => some k_ ≠ ((.slice Ao31 t306.length co31) : Value).ownBlock) (.slice Ao18 t303.length co18) t303) ∧ Aside0 (w'.heap[gb300]? = some (.cells #[.int .i64 a0_0, (.slice A0_1 l0_1.length c0_1)] 24 (0, 0))) ∧ Aside0 (w'.heap[gb310]? = some (.cells #[.int .i64 t302, (.slice Ao18 t303.length co18)] 24 (0, 0))) ∧ Aside0 (Below w.heap.size w w'))
                case atStart => exact ⟨(0), (by first | rfl | (simp; done) | (simp [*]; done)), H', ⟨Nat.le_refl _⟩, ⟨by (with_reducible repeat (first | apply Kd.R_alloc | apply Kd.R_drewN | apply Kd.R_drew)); exact HO_9.out⟩, ⟨by (with_reducible repeat (first | apply Kd.R_alloc | apply Kd.R_drewN | apply Kd.R_drew)); exact HO_311001.out⟩, ⟨by (with_reducible repeat (first | refine blk_drewN ?_ _ | refine blk_drew ?_ | refine blk_alloc ?_ _)); exact BK300.out⟩, ⟨by (with_reducible repeat (first | refine blk_drewN ?_ _ | refine blk_drew ?_ | refine blk_alloc ?_ _)); exact BK310.out⟩, ⟨by repeat (first | (with_reducible first | exact HB.out | apply below_alloc | apply pw_below_drewN | apply below_drew1 | refine below_set ?_ GE300.out | refine below_set ?_ GE310.out) | exact HB.out)⟩⟩
                case round => as_aux_lemma =>
                  clear H'
                  try clear c1
                  try clear c2
                  try clear p2
                  try clear c3
                  try clear p3
                  try clear q3
                  try clear hx3
                  try clear c4
                  try clear p6
                  try clear c8
                  try clear c10
                  try clear c12
                  try clear c12b0
                  try clear c12b1
                  try clear c16
                  try clear c19
                  try clear c19b0
                  try clear c22
                  try clear c22b0
                  try clear c23
                  try clear c23b0
                  try clear c24
                  try clear c24b0
                  try clear c26
                  try clear c26b0
                  try clear c27
                  try clear c27b0
                  try clear c28
                  try clear c28b0
                  try clear c29
                  try clear c29b0
                  try clear c29b1
                  try clear c30
                  try clear p31
                  try clear q31
                  try clear hx31
                  try clear hcz13_0
                  try clear hcz13_1
                  try clear hcz17_0
                  try clear hcz17_1
                  try clear hcz9_0
                  try clear hcz9_1
                  try clear hfz13_0
                  try clear hfz13_1
                  try clear hfz17_0
                  try clear hfz17_1
                  try clear hfz9_0
                  try clear hfz9_1
                  try clear hx311_0
                  try clear hx311_1
                  try clear hx312_0
                  try clear hx312_1
                  try clear hx313_0
                  try clear hx313_1
                  try clear hx314_0
                  try clear hx314_1
                  try clear hx315_0
                  try clear hx315_1
                  try clear hx316_0
                  try clear hx316_1
                  try clear hx317_0
                  try clear hx317_1
                  try clear p2
                  try clear p3
                  try clear p311
                  try clear p312
                  try clear p313
                  try clear p314
                  try clear p315
                  try clear p316
                  try clear p317
                  try clear p6
                  try clear q3
                  try clear q311
                  try clear q312
                  try clear q313
                  try clear q314
                  try clear q315
                  try clear q316
                  try clear q317
                  obtain ⟨x12_3, rfl, HA, HK3, HO_9, HO_311001, BK300, BK310, HB⟩ := hrel
                  cases gk with
                  | zero => exact absurd HA.out (by simp [mooringslaw10_WheelDue.l1])
                  | succ k3 =>
                    have H := HA.out
                    clear HA
                    simp only [mooringslaw10_WheelDue.l1] at H
                    by_cases c32 : x12_3 < (t303.length : Int)
                    · rw [if_pos c32] at H
                      have c32b0 : decide (x12_3 < (t303.length : Int)) = true := decide_eq_true c32
                      clear c32
                      by_cases c33 : 0 ≤ x12_3
                      · rw [if_pos c33] at H
                        have c33b0 : decide (0 ≤ x12_3) = true := decide_eq_true c33
                        clear c33
                        by_cases c34 : ((rd_T33 t303 x12_3).f1) ≤ a1
                        · rw [if_pos c34] at H
                          have c34b0 : decide (((rd_T33 t303 x12_3).f1) ≤ a1) = true := decide_eq_true c34
                          clear c34
                          obtain rfl := Option.some.inj H
                          have hnb35 := NB310_300.out
                          have hnc35 := NB300_310.out
                          have hcz36_0 : wr.cell? ⟨gb310, 0, none⟩ = some (.int .i64 t302) := (blk_cell BK310.out 0).trans rfl
                          have hcz36_1 : wr.cell? ⟨gb310, 1, none⟩ = some (.slice Ao18 t303.length co18) := (blk_cell BK310.out 1).trans rfl
                          have hfz36_0 := blk_frozen BK310.out 0
                          have hfz36_1 := blk_frozen BK310.out 1
                          have p318 : 0 ≤ (x12_3 : Int) := of_decide_eq_true (by first | (with_reducible assumption) | assumption)
                          have q318 : x12_3 < (t303.length : Int) := of_decide_eq_true (by first | (with_reducible assumption) | assumption)
                          obtain ⟨ad318, e318, hx318_0, hx318_1⟩ := at_T33 (Kd.R_reads' HO_311001.out).2.2 x12_3 p318 q318
                          cases e318
                          replace p318 := eq_true p318
                          replace q318 := eq_true q318
                          go_wp2
                          repeat (go_quiet (fail); try go_wp2)
                          go_ret
                          exact ⟨by first | rfl | (simp [errW_none, errW_some] <;> rfl) | (simp [*, errW_none, errW_some] <;> rfl), by repeat (first | (with_reducible first | exact HB.out | apply below_alloc | apply pw_below_drewN | apply below_drew1 | refine below_set ?_ GE300.out | refine below_set ?_ GE310.out) | exact HB.out)⟩
                        · rw [if_neg c34] at H
                          have c34b0 : decide (((rd_T33 t303 x12_3).f1) ≤ a1) = false := decide_eq_false c34
                          clear c34
                          have H' := Aside0.mk H
                          clear H
                          have hnb37 := NB310_300.out
                          have hnc37 := NB300_310.out
                          have hcz38_0 : wr.cell? ⟨gb310, 0, none⟩ = some (.int .i64 t302) := (blk_cell BK310.out 0).trans rfl
                          have hcz38_1 : wr.cell? ⟨gb310, 1, none⟩ = some (.slice Ao18 t303.length co18) := (blk_cell BK310.out 1).trans rfl
                          have hfz38_0 := blk_frozen BK310.out 0
                          have hfz38_1 := blk_frozen BK310.out 1
                          have p318 : 0 ≤ (x12_3 : Int) := of_decide_eq_true (by first | (with_reducible assumption) | assumption)
                          have q318 : x12_3 < (t303.length : Int) := of_decide_eq_true (by first | (with_reducible assumption) | assumption)
                          obtain ⟨ad318, e318, hx318_0, hx318_1⟩ := at_T33 (Kd.R_reads' HO_311001.out).2.2 x12_3 p318 q318
                          cases e318
                          replace p318 := eq_true p318
                          replace q318 := eq_true q318
                          go_wp2
                          repeat (go_quiet (fail); try go_wp2)
                          go_roundg k3
                          case measure => have := HJ4.out; have := HK2.out; have := HK3.out; omega
                          case rel => exact ⟨(wrap64 (x12_3 + 1)), (by first | rfl | (simp; done) | (simp [*]; done)), H', ⟨by have := HJ4.out; have := HK2.out; have := HK3.out; omega⟩, ⟨by (with_reducible repeat (first | apply Kd.R_alloc | apply Kd.R_drewN | apply Kd.R_drew)); exact HO_9.out⟩, ⟨by (with_reducible repeat (first | apply Kd.R_alloc | apply Kd.R_drewN | apply Kd.R_drew)); exact HO_311001.out⟩, ⟨by (with_reducible repeat (first | refine blk_drewN ?_ _ | refine blk_drew ?_ | refine blk_alloc ?_ _)); exact BK300.out⟩, ⟨by (with_reducible repeat (first | refine blk_drewN ?_ _ | refine blk_drew ?_ | refine blk_alloc ?_ _)); exact BK310.out⟩, ⟨by repeat (first | (with_reducible first | exact HB.out | apply below_alloc | apply pw_below_drewN | apply below_drew1 | refine below_set ?_ GE300.out | refine below_set ?_ GE310.out) | exact HB.out)⟩⟩
                      · rw [if_neg c33] at H
                        exact absurd H (by simp)
                    · rw [if_neg c32] at H
                      have c32b0 : decide (x12_3 < (t303.length : Int)) = false := decide_eq_false c32
                      clear c32
                      have HC39 := Aside0.mk H
                      clear H
                      have hnb40 := NB310_300.out
                      have hnc40 := NB300_310.out
                      have hcz41_0 : wr.cell? ⟨gb310, 0, none⟩ = some (.int .i64 t302) := (blk_cell BK310.out 0).trans rfl
                      have hcz41_1 : wr.cell? ⟨gb310, 1, none⟩ = some (.slice Ao18 t303.length co18) := (blk_cell BK310.out 1).trans rfl
                      have hfz41_0 := blk_frozen BK310.out 0
                      have hfz41_1 := blk_frozen BK310.out 1
                      go_upto_region 17 with (fail)
                      repeat (go_quiet (fail); go_upto_region 17 with (fail))
                      go_cut [138] (fun v138 wc => ∃ (kq : Nat) (x138_38 : Bool), v138 = .bool x138_38 ∧ Aside0 (mooringslaw10_WheelDue.j4 kq a1 a2 t306 x138_38 a0_0 l0_1 t302 t303 = some r) ∧ Aside0 (kq ≤ k3) ∧ Aside0 (Kd.R k33 33 wc w.heap.size (fun k_ => some k_ ≠ ((.slice Ao18 t303.length co18) : Value).ownBlock) (.slice Ao31 t306.length co31) t306) ∧ Aside0 (Kd.R k33 33 wc w.heap.size (fun k_ => some k_ ≠ ((.slice Ao31 t306.length co31) : Value).ownBlock) (.slice Ao18 t303.length co18) t303) ∧ Aside0 (wc.heap[gb300]? = some (.cells #[.int .i64 a0_0, (.slice A0_1 l0_1.length c0_1)] 24 (0, 0))) ∧ Aside0 (wc.heap[gb310]? = some (.cells #[.int .i64 t302, (.slice Ao18 t303.length co18)] 24 (0, 0))) ∧ Aside0 (Below w.heap.size w wc))
                      case first =>
                        have H := HC39.out
                        clear HC39
                        by_cases c42 : t302 = a1
                        · rw [if_pos c42] at H
                          have c42b0 : (t302 == a1) = true := beq_iff_eq.mpr c42
                          have c42b1 : (t302 != a1) = false := bne_eq_false_iff_eq.mpr c42
                          clear c42
                          (first | rw [c42b0] | (simp only [i64_w, i32_w]; rw [c42b0]) | skip)
                          by_cases c43 : (wrap64 ((t306.length : Int) + (t303.length : Int))) = (l0_1.length : Int)
                          · rw [if_pos c43] at H
                            have c43b0 : ((wrap64 ((t306.length : Int) + (t303.length : Int))) == (l0_1.length : Int)) = true := beq_iff_eq.mpr c43
                            have c43b1 : ((wrap64 ((t306.length : Int) + (t303.length : Int))) != (l0_1.length : Int)) = false := bne_eq_false_iff_eq.mpr c43
                            clear c43
                            by_cases c44 : a2 < 0
                            · rw [if_pos c44] at H
                              have c44b0 : decide (a2 < 0) = true := decide_eq_true c44
                              clear c44
                              have H' := Aside0.mk H
                              clear H
                              have hnb45 := NB310_300.out
                              have hnc45 := NB300_310.out
                              have hcz46_0 : wr.cell? ⟨gb310, 0, none⟩ = some (.int .i64 t302) := (blk_cell BK310.out 0).trans rfl
                              have hcz46_1 : wr.cell? ⟨gb310, 1, none⟩ = some (.slice Ao18 t303.length co18) := (blk_cell BK310.out 1).trans rfl
                              have hfz46_0 := blk_frozen BK310.out 0
                              have hfz46_1 := blk_frozen BK310.out 1
                              have hcz47_0 : wr.cell? ⟨gb300, 0, none⟩ = some (.int .i64 a0_0) := (blk_cell BK300.out 0).trans rfl
                              have hcz47_1 : wr.cell? ⟨gb300, 1, none⟩ = some (.slice A0_1 l0_1.length c0_1) := (blk_cell BK300.out 1).trans rfl
                              have hfz47_0 := blk_frozen BK300.out 0
                              have hfz47_1 := blk_frozen BK300.out 1
                              go_wp2
                              repeat (go_quiet (fail); try go_wp2)
                              go_meet
                              case rel => exact ⟨_, (true), (by first | rfl | (simp; done) | (simp [*]; done)), H', ⟨by have := HJ4.out; have := HK2.out; have := HK3.out; first | omega | exact Nat.le_refl _⟩, ⟨by (with_reducible repeat (first | apply Kd.R_alloc | apply Kd.R_drewN | apply Kd.R_drew)); exact HO_9.out⟩, ⟨by (with_reducible repeat (first | apply Kd.R_alloc | apply Kd.R_drewN | apply Kd.R_drew)); exact HO_311001.out⟩, ⟨by (with_reducible repeat (first | refine blk_drewN ?_ _ | refine blk_drew ?_ | refine blk_alloc ?_ _)); exact BK300.out⟩, ⟨by (with_reducible repeat (first | refine blk_drewN ?_ _ | refine blk_drew ?_ | refine blk_alloc ?_ _)); exact BK310.out⟩, ⟨by repeat (first | (with_reducible first | exact HB.out | apply below_alloc | apply pw_below_drewN | apply below_drew1 | refine below_set ?_ GE300.out | refine below_set ?_ GE310.out) | exact HB.out)⟩⟩
                            · rw [if_neg c44] at H
                              have c44b0 : decide (a2 < 0) = false := decide_eq_false c44
                              clear c44
                              have H' := Aside0.mk H
                              clear H
                              have hnb48 := NB310_300.out
                              have hnc48 := NB300_310.out
                              have hcz49_0 : wr.cell? ⟨gb310, 0, none⟩ = some (.int .i64 t302) := (blk_cell BK310.out 0).trans rfl
                              have hcz49_1 : wr.cell? ⟨gb310, 1, none⟩ = some (.slice Ao18 t303.length co18) := (blk_cell BK310.out 1).trans rfl
                              have hfz49_0 := blk_frozen BK310.out 0
                              have hfz49_1 := blk_frozen BK310.out 1
                              have hcz50_0 : wr.cell? ⟨gb300, 0, none⟩ = some (.int .i64 a0_0) := (blk_cell BK300.out 0).trans rfl
                              have hcz50_1 : wr.cell? ⟨gb300, 1, none⟩ = some (.slice A0_1 l0_1.length c0_1) := (blk_cell BK300.out 1).trans rfl
                              have hfz50_0 := blk_frozen BK300.out 0
                              have hfz50_1 := blk_frozen BK300.out 1
                              go_wp2
                              repeat (go_quiet (fail); try go_wp2)
                              go_meet
                              case rel => exact ⟨_, (decide (a2 ≥ (l0_1.length : Int))), (by first | rfl | (simp; done) | (simp [*]; done)), H', ⟨by have := HJ4.out; have := HK2.out; have := HK3.out; first | omega | exact Nat.le_refl _⟩, ⟨by (with_reducible repeat (first | apply Kd.R_alloc | apply Kd.R_drewN | apply Kd.R_drew)); exact HO_9.out⟩, ⟨by (with_reducible repeat (first | apply Kd.R_alloc | apply Kd.R_drewN | apply Kd.R_drew)); exact HO_311001.out⟩, ⟨by (with_reducible repeat (first | refine blk_drewN ?_ _ | refine blk_drew ?_ | refine blk_alloc ?_ _)); exact BK300.out⟩, ⟨by (with_reducible repeat (first | refine blk_drewN ?_ _ | refine blk_drew ?_ | refine blk_alloc ?_ _)); exact BK310.out⟩, ⟨by repeat (first | (with_reducible first | exact HB.out | apply below_alloc | apply pw_below_drewN | apply below_drew1 | refine below_set ?_ GE300.out | refine below_set ?_ GE310.out) | exact HB.out)⟩⟩
                          · rw [if_neg c43] at H
                            have c43b0 : ((wrap64 ((t306.length : Int) + (t303.length : Int))) == (l0_1.length : Int)) = false := beq_eq_false_iff_ne.mpr c43
                            have c43b1 : ((wrap64 ((t306.length : Int) + (t303.length : Int))) != (l0_1.length : Int)) = true := bne_iff_ne.mpr c43
                            have H' := Aside0.mk H
                            clear H
                            have hnb51 := NB310_300.out
                            have hnc51 := NB300_310.out
                            have hcz52_0 : wr.cell? ⟨gb310, 0, none⟩ = some (.int .i64 t302) := (blk_cell BK310.out 0).trans rfl
                            have hcz52_1 : wr.cell? ⟨gb310, 1, none⟩ = some (.slice Ao18 t303.length co18) := (blk_cell BK310.out 1).trans rfl
                            have hfz52_0 := blk_frozen BK310.out 0
                            have hfz52_1 := blk_frozen BK310.out 1
                            have hcz53_0 : wr.cell? ⟨gb300, 0, none⟩ = some (.int .i64 a0_0) := (blk_cell BK300.out 0).trans rfl
                            have hcz53_1 : wr.cell? ⟨gb300, 1, none⟩ = some (.slice A0_1 l0_1.length c0_1) := (blk_cell BK300.out 1).trans rfl
                            have hfz53_0 := blk_frozen BK300.out 0
                            have hfz53_1 := blk_frozen BK300.out 1
                            go_wp2
                            repeat (go_quiet (fail); try go_wp2)
                            go_meet
                            case rel => exact ⟨_, (true), (by first | rfl | (simp; done) | (simp [*]; done)), H', ⟨by have := HJ4.out; have := HK2.out; have := HK3.out; first | omega | exact Nat.le_refl _⟩, ⟨by (with_reducible repeat (first | apply Kd.R_alloc | apply Kd.R_drewN | apply Kd.R_drew)); exact HO_9.out⟩, ⟨by (with_reducible repeat (first | apply Kd.R_alloc | apply Kd.R_drewN | apply Kd.R_drew)); exact HO_311001.out⟩, ⟨by (with_reducible repeat (first | refine blk_drewN ?_ _ | refine blk_drew ?_ | refine blk_alloc ?_ _)); exact BK300.out⟩, ⟨by (with_reducible repeat (first | refine blk_drewN ?_ _ | refine blk_drew ?_ | refine blk_alloc ?_ _)); exact BK310.out⟩, ⟨by repeat (first | (with_reducible first | exact HB.out | apply below_alloc | apply pw_below_drewN | apply below_drew1 | refine below_set ?_ GE300.out | refine below_set ?_ GE310.out) | exact HB.out)⟩⟩
                        · rw [if_neg c42] at H
                          have c42b0 : (t302 == a1) = false := beq_eq_false_iff_ne.mpr c42
                          have c42b1 : (t302 != a1) = true := bne_iff_ne.mpr c42
                          (first | rw [c42b0] | (simp only [i64_w, i32_w]; rw [c42b0]) | skip)
                          have H' := Aside0.mk H
                          clear H
                          have hnb54 := NB310_300.out
                          have hnc54 := NB300_310.out
                          have hcz55_0 : wr.cell? ⟨gb310, 0, none⟩ = some (.int .i64 t302) := (blk_cell BK310.out 0).trans rfl
                          have hcz55_1 : wr.cell? ⟨gb310, 1, none⟩ = some (.slice Ao18 t303.length co18) := (blk_cell BK310.out 1).trans rfl
                          have hfz55_0 := blk_frozen BK310.out 0
                          have hfz55_1 := blk_frozen BK310.out 1
                          go_wp2
                          repeat (go_quiet (fail); try go_wp2)
                          go_meet
                          case rel => exact ⟨_, (true), (by first | rfl | (simp; done) | (simp [*]; done)), H', ⟨by have := HJ4.out; have := HK2.out; have := HK3.out; first | omega | exact Nat.le_refl _⟩, ⟨by (with_reducible repeat (first | apply Kd.R_alloc | apply Kd.R_drewN | apply Kd.R_drew)); exact HO_9.out⟩, ⟨by (with_reducible repeat (first | apply Kd.R_alloc | apply Kd.R_drewN | apply Kd.R_drew)); exact HO_311001.out⟩, ⟨by (with_reducible repeat (first | refine blk_drewN ?_ _ | refine blk_drew ?_ | refine blk_alloc ?_ _)); exact BK300.out⟩, ⟨by (with_reducible repeat (first | refine blk_drewN ?_ _ | refine blk_drew ?_ | refine blk_alloc ?_ _)); exact BK310.out⟩, ⟨by repeat (first | (with_reducible first | exact HB.out | apply below_alloc | apply pw_below_drewN | apply below_drew1 | refine below_set ?_ GE300.out | refine below_set ?_ GE310.out) | exact HB.out)⟩⟩
                      case rest => as_aux_lemma =>
                        clear HC39
                        try clear c1
                        try clear c2
                        try clear p2
                        try clear c3
                        try clear p3
                        try clear q3
                        try clear hx3
                        try clear c4
                        try clear c5
                        try clear p6
                        try clear c8
                        try clear c10
                        try clear c12
                        try clear c12b0
                        try clear c12b1
                        try clear c16
                        try clear c19
                        try clear c19b0
                        try clear c22
                        try clear c22b0
                        try clear c23
                        try clear c23b0
                        try clear c24
                        try clear c24b0
                        try clear c26
                        try clear c26b0
                        try clear c27
                        try clear c27b0
                        try clear c28
                        try clear c28b0
                        try clear c29
                        try clear c29b0
                        try clear c29b1
                        try clear c30
                        try clear p31
                        try clear q31
                        try clear hx31
                        try clear c32
                        try clear c32b0
                        try clear c33
                        try clear c33b0
                        try clear c34
                        try clear c34b0
                        try clear c35
                        try clear c37
                        try clear c40
                        try clear c42
                        try clear c42b0
                        try clear c42b1
                        try clear c43
                        try clear c43b0
                        try clear c43b1
                        try clear c44
                        try clear c44b0
                        try clear c45
                        try clear c48
                        try clear c51
                        try clear c54
                        try clear hcz13_0
                        try clear hcz13_1
                        try clear hcz17_0
                        try clear hcz17_1
                        try clear hcz36_0
                        try clear hcz36_1
                        try clear hcz38_0
                        try clear hcz38_1
                        try clear hcz41_0
                        try clear hcz41_1
                        try clear hcz46_0
                        try clear hcz46_1
                        try clear hcz47_0
                        try clear hcz47_1
                        try clear hcz49_0
                        try clear hcz49_1
                        try clear hcz50_0
                        try clear hcz50_1
                        try clear hcz52_0
                        try clear hcz52_1
                        try clear hcz53_0
                        try clear hcz53_1
                        try clear hcz55_0
                        try clear hcz55_1
                        try clear hcz9_0
                        try clear hcz9_1
                        try clear hfz13_0
                        try clear hfz13_1
                        try clear hfz17_0
                        try clear hfz17_1
                        try clear hfz36_0
                        try clear hfz36_1
                        try clear hfz38_0
                        try clear hfz38_1
                        try clear hfz41_0
                        try clear hfz41_1
                        try clear hfz46_0
                        try clear hfz46_1
                        try clear hfz47_0
                        try clear hfz47_1
                        try clear hfz49_0
                        try clear hfz49_1
                        try clear hfz50_0
                        try clear hfz50_1
                        try clear hfz52_0
                        try clear hfz52_1
                        try clear hfz53_0
                        try clear hfz53_1
                        try clear hfz55_0
                        try clear hfz55_1
                        try clear hfz9_0
                        try clear hfz9_1
                        try clear hx311_0
                        try clear hx311_1
                        try clear hx312_0
                        try clear hx312_1
                        try clear hx313_0
                        try clear hx313_1
                        try clear hx314_0
                        try clear hx314_1
                        try clear hx315_0
                        try clear hx315_1
                        try clear hx316_0
                        try clear hx316_1
                        try clear hx317_0
                        try clear hx317_1
                        try clear hx318_0
                        try clear hx318_1
                        try clear p2
                        try clear p3
                        try clear p31
                        try clear p311
                        try clear p312
                        try clear p313
                        try clear p314
                        try clear p315
                        try clear p316
                        try clear p317
                        try clear p318
                        try clear p6
                        try clear q3
                        try clear q31
                        try clear q311
                        try clear q312
                        try clear q313
                        try clear q314
                        try clear q315
                        try clear q316
                        try clear q317
                        try clear q318
                        obtain ⟨kq, x138_38, rfl, HA, HJ38, HO_9, HO_311001, BK300, BK310, HB⟩ := hcut
                        cases kq with
                        | zero => exact absurd HA.out (by simp [mooringslaw10_WheelDue.j4])
                        | succ kj38 =>
                          have H := HA.out
                          clear HA
                          simp only [mooringslaw10_WheelDue.j4] at H
                          by_cases c56 : x138_38 = true
                          · subst c56
                            have H1 : (if t302 = a1 then (some ((wrap64 ((t306.length : Int) + (t303.length : Int))) == (l0_1.length : Int))) else (some false)) = some r := by rw [if_pos rfl] at H; exact H
                            clear H
                            have H := H1
                            clear H1
                            by_cases c57 : t302 = a1
                            · rw [if_pos c57] at H
                              have c57b0 : (t302 == a1) = true := beq_iff_eq.mpr c57
                              have c57b1 : (t302 != a1) = false := bne_eq_false_iff_eq.mpr c57
                              clear c57
                              obtain rfl := Option.some.inj H
                              have hnb58 := NB310_300.out
                              have hnc58 := NB300_310.out
                              have hcz59_0 : wc.cell? ⟨gb310, 0, none⟩ = some (.int .i64 t302) := (blk_cell BK310.out 0).trans rfl
                              have hcz59_1 : wc.cell? ⟨gb310, 1, none⟩ = some (.slice Ao18 t303.length co18) := (blk_cell BK310.out 1).trans rfl
                              have hfz59_0 := blk_frozen BK310.out 0
                              have hfz59_1 := blk_frozen BK310.out 1
                              have hcz60_0 : wc.cell? ⟨gb300, 0, none⟩ = some (.int .i64 a0_0) := (blk_cell BK300.out 0).trans rfl
                              have hcz60_1 : wc.cell? ⟨gb300, 1, none⟩ = some (.slice A0_1 l0_1.length c0_1) := (blk_cell BK300.out 1).trans rfl
                              have hfz60_0 := blk_frozen BK300.out 0
                              have hfz60_1 := blk_frozen BK300.out 1
                              go_wp2
                              repeat (go_quiet (fail); try go_wp2)
                              go_ret
                              exact ⟨by first | rfl | (simp [errW_none, errW_some] <;> rfl) | (simp [*, errW_none, errW_some] <;> rfl), by repeat (first | (with_reducible first | exact HB.out | apply below_alloc | apply pw_below_drewN | apply below_drew1 | refine below_set ?_ GE300.out | refine below_set ?_ GE310.out) | exact HB.out)⟩
                            · rw [if_neg c57] at H
                              have c57b0 : (t302 == a1) = false := beq_eq_false_iff_ne.mpr c57
                              have c57b1 : (t302 != a1) = true := bne_iff_ne.mpr c57
                              obtain rfl := Option.some.inj H
                              have hnb61 := NB310_300.out
                              have hnc61 := NB300_310.out
                              have hcz62_0 : wc.cell? ⟨gb310, 0, none⟩ = some (.int .i64 t302) := (blk_cell BK310.out 0).trans rfl
                              have hcz62_1 : wc.cell? ⟨gb310, 1, none⟩ = some (.slice Ao18 t303.length co18) := (blk_cell BK310.out 1).trans rfl
                              have hfz62_0 := blk_frozen BK310.out 0
                              have hfz62_1 := blk_frozen BK310.out 1
                              go_wp2
                              repeat (go_quiet (fail); try go_wp2)
                              go_ret
                              exact ⟨by first | rfl | (simp [errW_none, errW_some] <;> rfl) | (simp [*, errW_none, errW_some] <;> rfl), by repeat (first | (with_reducible first | exact HB.out | apply below_alloc | apply pw_below_drewN | apply below_drew1 | refine below_set ?_ GE300.out | refine below_set ?_ GE310.out) | exact HB.out)⟩
                          · replace c56 := Bool.eq_false_iff.mpr c56
                            subst c56
                            have H1 : (mooringslaw10_WheelDue.l2 kj38 a2 t306 false 0 a0_0 l0_1 t302 t303) = some r := by rw [if_neg (show ¬ (false = true) by decide)] at H; exact H
                            clear H
                            have H := H1
                            clear H1
                            have H' := Aside0.mk H
                            clear H
                            go_wp2
                            repeat (go_quiet (fail); try go_wp2)
                            go_loopg [13, 14] kj38 (fun kq v13 v14 w' => ∃ (x13_5 : Bool) (x14_5 : Int), v13 = .bool x13_5 ∧ v14 = .int .i64 x14_5 ∧ Aside0 (mooringslaw10_WheelDue.l2 kq a2 t306 x13_5 x14_5 a0_0 l0_1 t302 t303 = some r) ∧ Aside0 (kq ≤ kj38) ∧ Aside0 (Kd.R k33 33 w' w.heap.size (fun k_ => some k_ ≠ ((.slice Ao18 t303.length co18) : Value).ownBlock) (.slice Ao31 t306.length co31) t306) ∧ Aside0 (Kd.R k33 33 w' w.heap.size (fun k_ => some k_ ≠ ((.slice Ao31 t306.length co31) : Value).ownBlock) (.slice Ao18 t303.length co18) t303) ∧ Aside0 (w'.heap[gb300]? = some (.cells #[.int .i64 a0_0, (.slice A0_1 l0_1.length c0_1)] 24 (0, 0))) ∧ Aside0 (w'.heap[gb310]? = some (.cells #[.int .i64 t302, (.slice Ao18 t303.length co18)] 24 (0, 0))) ∧ Aside0 (Below w.heap.size w w'))
                            case atStart => exact ⟨(false), (0), (by first | rfl | (simp; done) | (simp [*]; done)), (by first | rfl | (simp; done) | (simp [*]; done)), H', ⟨Nat.le_refl _⟩, ⟨by (with_reducible repeat (first | apply Kd.R_alloc | apply Kd.R_drewN | apply Kd.R_drew)); exact HO_9.out⟩, ⟨by (with_reducible repeat (first | apply Kd.R_alloc | apply Kd.R_drewN | apply Kd.R_drew)); exact HO_311001.out⟩, ⟨by (with_reducible repeat (first | refine blk_drewN ?_ _ | refine blk_drew ?_ | refine blk_alloc ?_ _)); exact BK300.out⟩, ⟨by (with_reducible repeat (first | refine blk_drewN ?_ _ | refine blk_drew ?_ | refine blk_alloc ?_ _)); exact BK310.out⟩, ⟨by repeat (first | (with_reducible first | exact HB.out | apply below_alloc | apply pw_below_drewN | apply below_drew1 | refine below_set ?_ GE300.out | refine below_set ?_ GE310.out) | exact HB.out)⟩⟩
                            case round => as_aux_lemma =>
                              clear H'
                              try clear c1
                              try clear c2
                              try clear p2
                              try clear c3
                              try clear p3
                              try clear q3
                              try clear hx3
                              try clear c4
                              try clear c5
                              try clear c6
                              try clear p6
                              try clear c8
                              try clear c10
                              try clear c12
                              try clear c12b0
                              try clear c12b1
                              try clear c16
                              try clear c19
                              try clear c19b0
                              try clear c22
                              try clear c22b0
                              try clear c23
                              try clear c23b0
                              try clear c24
                              try clear c24b0
                              try clear c26
                              try clear c26b0
                              try clear c27
                              try clear c27b0
                              try clear c28
                              try clear c28b0
                              try clear c29
                              try clear c29b0
                              try clear c29b1
                              try clear c30
                              try clear p31
                              try clear q31
                              try clear hx31
                              try clear c32
                              try clear c32b0
                              try clear c33
                              try clear c33b0
                              try clear c34
                              try clear c34b0
                              try clear c35
                              try clear c37
                              try clear c40
                              try clear c42
                              try clear c42b0
                              try clear c42b1
                              try clear c43
                              try clear c43b0
                              try clear c43b1
                              try clear c44
                              try clear c44b0
                              try clear c45
                              try clear c48
                              try clear c51
                              try clear c54
                              try clear c56
                              try clear c57
                              try clear c57b0
                              try clear c57b1
                              try clear c58
                              try clear c61
                              try clear hcz13_0
                              try clear hcz13_1
                              try clear hcz17_0
                              try clear hcz17_1
                              try clear hcz36_0
                              try clear hcz36_1
                              try clear hcz38_0
                              try clear hcz38_1
                              try clear hcz41_0
                              try clear hcz41_1
                              try clear hcz46_0
                              try clear hcz46_1
                              try clear hcz47_0
                              try clear hcz47_1
                              try clear hcz49_0
                              try clear hcz49_1
                              try clear hcz50_0
                              try clear hcz50_1
                              try clear hcz52_0
                              try clear hcz52_1
                              try clear hcz53_0
                              try clear hcz53_1
                              try clear hcz55_0
                              try clear hcz55_1
                              try clear hcz59_0
                              try clear hcz59_1
                              try clear hcz60_0
                              try clear hcz60_1
                              try clear hcz62_0
                              try clear hcz62_1
                              try clear hcz9_0
                              try clear hcz9_1
                              try clear hfz13_0
                              try clear hfz13_1
                              try clear hfz17_0
                              try clear hfz17_1
                              try clear hfz36_0
                              try clear hfz36_1
                              try clear hfz38_0
                              try clear hfz38_1
                              try clear hfz41_0
                              try clear hfz41_1
                              try clear hfz46_0
                              try clear hfz46_1
                              try clear hfz47_0
                              try clear hfz47_1
                              try clear hfz49_0
                              try clear hfz49_1
                              try clear hfz50_0
                              try clear hfz50_1
                              try clear hfz52_0
                              try clear hfz52_1
                              try clear hfz53_0
                              try clear hfz53_1
                              try clear hfz55_0
                              try clear hfz55_1
                              try clear hfz59_0
                              try clear hfz59_1
                              try clear hfz60_0
                              try clear hfz60_1
                              try clear hfz62_0
                              try clear hfz62_1
                              try clear hfz9_0
                              try clear hfz9_1
                              try clear hx311_0
                              try clear hx311_1
                              try clear hx312_0
                              try clear hx312_1
                              try clear hx313_0
                              try clear hx313_1
                              try clear hx314_0
                              try clear hx314_1
                              try clear hx315_0
                              try clear hx315_1
                              try clear hx316_0
                              try clear hx316_1
                              try clear hx317_0
                              try clear hx317_1
                              try clear hx318_0
                              try clear hx318_1
                              try clear p2
                              try clear p3
                              try clear p31
                              try clear p311
                              try clear p312
                              try clear p313
                              try clear p314
                              try clear p315
                              try clear p316
                              try clear p317
                              try clear p318
                              try clear p6
                              try clear q3
                              try clear q31
                              try clear q311
                              try clear q312
                              try clear q313
                              try clear q314
                              try clear q315
                              try clear q316
                              try clear q317
                              try clear q318
                              obtain ⟨x13_5, x14_5, rfl, rfl, HA, HK5, HO_9, HO_311001, BK300, BK310, HB⟩ := hrel
                              cases gk with
                              | zero => exact absurd HA.out (by simp [mooringslaw10_WheelDue.l2])
                              | succ k5 =>
                                have H := HA.out
                                clear HA
                                simp only [mooringslaw10_WheelDue.l2] at H
                                by_cases c63 : x14_5 < (t306.length : Int)
                                · rw [if_pos c63] at H
                                  have c63b0 : decide (x14_5 < (t306.length : Int)) = true := decide_eq_true c63
                                  clear c63
                                  by_cases c64 : x13_5 = true
                                  · subst c64
                                    have H1 : (mooringslaw10_WheelDue.l2 k5 a2 t306 true (wrap64 (x14_5 + 1)) a0_0 l0_1 t302 t303) = some r := by rw [if_pos rfl] at H; exact H
                                    clear H
                                    have H := H1
                                    clear H1
                                    have H' := Aside0.mk H
                                    clear H
                                    go_wp2
                                    repeat (go_quiet (fail); try go_wp2)
                                    go_roundg k5
                                    case measure => have := HJ4.out; have := HK2.out; have := HK3.out; have := HJ38.out; have := HK5.out; omega
                                    case rel => exact ⟨(true), (wrap64 (x14_5 + 1)), (by first | rfl | (simp; done) | (simp [*]; done)), (by first | rfl | (simp; done) | (simp [*]; done)), H', ⟨by have := HJ4.out; have := HK2.out; have := HK3.out; have := HJ38.out; have := HK5.out; omega⟩, ⟨by (with_reducible repeat (first | apply Kd.R_alloc | apply Kd.R_drewN | apply Kd.R_drew)); exact HO_9.out⟩, ⟨by (with_reducible repeat (first | apply Kd.R_alloc | apply Kd.R_drewN | apply Kd.R_drew)); exact HO_311001.out⟩, ⟨by (with_reducible repeat (first | refine blk_drewN ?_ _ | refine blk_drew ?_ | refine blk_alloc ?_ _)); exact BK300.out⟩, ⟨by (with_reducible repeat (first | refine blk_drewN ?_ _ | refine blk_drew ?_ | refine blk_alloc ?_ _)); exact BK310.out⟩, ⟨by repeat (first | (with_reducible first | exact HB.out | apply below_alloc | apply pw_below_drewN | apply below_drew1 | refine below_set ?_ GE300.out | refine below_set ?_ GE310.out) | exact HB.out)⟩⟩
                                  · replace c64 := Bool.eq_false_iff.mpr c64
                                    subst c64
                                    have H1 : (if 0 ≤ x14_5 then (if 0 ≤ a2 then (if a2 < (l0_1.length : Int) then (mooringslaw10_WheelDue.l2 k5 a2 t306 (((rd_T33 t306 x14_5).f0) == ((rd_T33 l0_1 a2).f0) && (((rd_T33 t306 x14_5).f1) == ((rd_T33 l0_1 a2).f1))) (wrap64 (x14_5 + 1)) a0_0 l0_1 t302 t303) else (none)) else (none)) else (none)) = some r := by rw [if_neg (show ¬ (false = true) by decide)] at H; exact H
                                    clear H
                                    have H := H1
                                    clear H1
                                    by_cases c65 : 0 ≤ x14_5
                                    · rw [if_pos c65] at H
                                      have c65b0 : decide (0 ≤ x14_5) = true := decide_eq_true c65
                                      clear c65
                                      by_cases c66 : 0 ≤ a2
                                      · rw [if_pos c66] at H
                                        have c66b0 : decide (0 ≤ a2) = true := decide_eq_true c66
                                        clear c66
                                        by_cases c67 : a2 < (l0_1.length : Int)
                                        · rw [if_pos c67] at H
                                          have c67b0 : decide (a2 < (l0_1.length : Int)) = true := decide_eq_true c67
                                          clear c67
                                          have H' := Aside0.mk H
                                          clear H
                                          have p319 : 0 ≤ (x14_5 : Int) := of_decide_eq_true (by first | (with_reducible assumption) | assumption)
                                          have q319 : x14_5 < (t306.length : Int) := of_decide_eq_true (by first | (with_reducible assumption) | assumption)
                                          obtain ⟨ad319, e319, hx319_0, hx319_1⟩ := at_T33 (Kd.R_reads' HO_9.out).2.2 x14_5 p319 q319
                                          cases e319
                                          replace p319 := eq_true p319
                                          replace q319 := eq_true q319
                                          have hnb68 := NB300_310.out
                                          have hnc68 := NB310_300.out
                                          have hcz69_0 : wr.cell? ⟨gb300, 0, none⟩ = some (.int .i64 a0_0) := (blk_cell BK300.out 0).trans rfl
                                          have hcz69_1 : wr.cell? ⟨gb300, 1, none⟩ = some (.slice A0_1 l0_1.length c0_1) := (blk_cell BK300.out 1).trans rfl
                                          have hfz69_0 := blk_frozen BK300.out 0
                                          have hfz69_1 := blk_frozen BK300.out 1
                                          have p320 : 0 ≤ (a2 : Int) := of_decide_eq_true (by first | (with_reducible assumption) | assumption)
                                          have q320 : a2 < (l0_1.length : Int) := of_decide_eq_true (by first | (with_reducible assumption) | assumption)
                                          obtain ⟨ad320, e320, hx320_0, hx320_1⟩ := at_T33 HR0_1.out a2 p320 q320
                                          cases e320
                                          replace hx320_0 := (HB.out.cell (World.block_lt_of_cell? w _ hx320_0)).trans hx320_0
                                          replace hx320_1 := (HB.out.cell (World.block_lt_of_cell? w _ hx320_1)).trans hx320_1
                                          replace p320 := eq_true p320
                                          replace q320 := eq_true q320
                                          go_wp2
                                          repeat (go_quiet (fail); try go_wp2)
                                          go_roundg k5
                                          case measure => have := HJ4.out; have := HK2.out; have := HK3.out; have := HJ38.out; have := HK5.out; omega
                                          case rel => exact ⟨((((rd_T33 t306 x14_5).f0) == ((rd_T33 l0_1 a2).f0) && (((rd_T33 t306 x14_5).f1) == ((rd_T33 l0_1 a2).f1)))), (wrap64 (x14_5 + 1)), (by first | rfl | (simp; done) | (simp [*]; done)), (by first | rfl | (simp; done) | (simp [*]; done)), H', ⟨by have := HJ4.out; have := HK2.out; have := HK3.out; have := HJ38.out; have := HK5.out; omega⟩, ⟨by (with_reducible repeat (first | apply Kd.R_alloc | apply Kd.R_drewN | apply Kd.R_drew)); exact HO_9.out⟩, ⟨by (with_reducible repeat (first | apply Kd.R_alloc | apply Kd.R_drewN | apply Kd.R_drew)); exact HO_311001.out⟩, ⟨by (with_reducible repeat (first | refine blk_drewN ?_ _ | refine blk_drew ?_ | refine blk_alloc ?_ _)); exact BK300.out⟩, ⟨by (with_reducible repeat (first | refine blk_drewN ?_ _ | refine blk_drew ?_ | refine blk_alloc ?_ _)); exact BK310.out⟩, ⟨by repeat (first | (with_reducible first | exact HB.out | apply below_alloc | apply pw_below_drewN | apply below_drew1 | refine below_set ?_ GE300.out | refine below_set ?_ GE310.out) | exact HB.out)⟩⟩
                                        · rw [if_neg c67] at H
                                          exact absurd H (by simp)
                                      · rw [if_neg c66] at H
                                        exact absurd H (by simp)
                                    · rw [if_neg c65] at H
                                      exact absurd H (by simp)
                                · rw [if_neg c63] at H
                                  have c63b0 : decide (x14_5 < (t306.length : Int)) = false := decide_eq_false c63
                                  clear c63
                                  have H' := Aside0.mk H
                                  clear H
                                  go_wp2
                                  repeat (go_quiet (fail); try go_wp2)
                                  go_loopg [13, 15] k5 (fun kq v13 v15 w' => ∃ (x13_6 : Bool) (x15_6 : Int), v13 = .bool x13_6 ∧ v15 = .int .i64 x15_6 ∧ Aside0 (mooringslaw10_WheelDue.l3 kq a2 x13_6 x15_6 a0_0 l0_1 t302 t303 = some r) ∧ Aside0 (kq ≤ k5) ∧ Aside0 (Kd.R k33 33 w' w.heap.size (fun _ => True) (.slice Ao18 t303.length co18) t303) ∧ Aside0 (w'.heap[gb300]? = some (.cells #[.int .i64 a0_0, (.slice A0_1 l0_1.length c0_1)] 24 (0, 0))) ∧ Aside0 (w'.heap[gb310]? = some (.cells #[.int .i64 t302, (.slice Ao18 t303.length co18)] 24 (0, 0))) ∧ Aside0 (Below w.heap.size w w'))
                                  case atStart => exact ⟨(x13_5), (0), (by first | rfl | (simp; done) | (simp [*]; done)), (by first | rfl | (simp; done) | (simp [*]; done)), H', ⟨Nat.le_refl _⟩, ⟨by (with_reducible repeat (first | apply Kd.R_alloc | apply Kd.R_drewN | apply Kd.R_drew)); exact Kd.R_mono HO_311001.out (fun _ hk => trivial)⟩, ⟨by (with_reducible repeat (first | refine blk_drewN ?_ _ | refine blk_drew ?_ | refine blk_alloc ?_ _)); exact BK300.out⟩, ⟨by (with_reducible repeat (first | refine blk_drewN ?_ _ | refine blk_drew ?_ | refine blk_alloc ?_ _)); exact BK310.out⟩, ⟨by repeat (first | (with_reducible first | exact HB.out | apply below_alloc | apply pw_below_drewN | apply below_drew1 | refine below_set ?_ GE300.out | refine below_set ?_ GE310.out) | exact HB.out)⟩⟩
                                  case round => as_aux_lemma =>
                                    clear H'
                                    try clear c1
                                    try clear c2
                                    try clear p2
                                    try clear c3
                                    try clear p3
                                    try clear q3
                                    try clear hx3
                                    try clear c4
                                    try clear c5
                                    try clear c6
                                    try clear p6
                                    try clear c8
                                    try clear c10
                                    try clear c12
                                    try clear c12b0
                                    try clear c12b1
                                    try clear c16
                                    try clear c19
                                    try clear c19b0
                                    try clear c22
                                    try clear c22b0
                                    try clear c23
                                    try clear c23b0
                                    try clear c24
                                    try clear c24b0
                                    try clear c26
                                    try clear c26b0
                                    try clear c27
                                    try clear c27b0
                                    try clear c28
                                    try clear c28b0
                                    try clear c29
                                    try clear c29b0
                                    try clear c29b1
                                    try clear c30
                                    try clear p31
                                    try clear q31
                                    try clear hx31
                                    try clear c32
                                    try clear c32b0
                                    try clear p32
                                    try clear q32
                                    try clear hx32
                                    try clear c33
                                    try clear c33b0
                                    try clear c34
                                    try clear c34b0
                                    try clear c35
                                    try clear c37
                                    try clear c40
                                    try clear c42
                                    try clear c42b0
                                    try clear c42b1
                                    try clear c43
                                    try clear c43b0
                                    try clear c43b1
                                    try clear c44
                                    try clear c44b0
                                    try clear c45
                                    try clear c48
                                    try clear c51
                                    try clear c54
                                    try clear c56
                                    try clear c57
                                    try clear c57b0
                                    try clear c57b1
                                    try clear c58
                                    try clear c61
                                    try clear c63
                                    try clear c63b0
                                    try clear c64
                                    try clear p64
                                    try clear c65
                                    try clear c65b0
                                    try clear c66
                                    try clear c66b0
                                    try clear c67
                                    try clear c67b0
                                    try clear c68
                                    try clear hcz13_0
                                    try clear hcz13_1
                                    try clear hcz17_0
                                    try clear hcz17_1
                                    try clear hcz36_0
                                    try clear hcz36_1
                                    try clear hcz38_0
                                    try clear hcz38_1
                                    try clear hcz41_0
                                    try clear hcz41_1
                                    try clear hcz46_0
                                    try clear hcz46_1
                                    try clear hcz47_0
                                    try clear hcz47_1
                                    try clear hcz49_0
                                    try clear hcz49_1
                                    try clear hcz50_0
                                    try clear hcz50_1
                                    try clear hcz52_0
                                    try clear hcz52_1
                                    try clear hcz53_0
                                    try clear hcz53_1
                                    try clear hcz55_0
                                    try clear hcz55_1
                                    try clear hcz59_0
                                    try clear hcz59_1
                                    try clear hcz60_0
                                    try clear hcz60_1
                                    try clear hcz62_0
                                    try clear hcz62_1
                                    try clear hcz69_0
                                    try clear hcz69_1
                                    try clear hcz9_0
                                    try clear hcz9_1
                                    try clear hfz13_0
                                    try clear hfz13_1
                                    try clear hfz17_0
                                    try clear hfz17_1
                                    try clear hfz36_0
                                    try clear hfz36_1
                                    try clear hfz38_0
                                    try clear hfz38_1
                                    try clear hfz41_0
                                    try clear hfz41_1
                                    try clear hfz46_0
                                    try clear hfz46_1
                                    try clear hfz47_0
                                    try clear hfz47_1
                                    try clear hfz49_0
                                    try clear hfz49_1
                                    try clear hfz50_0
                                    try clear hfz50_1
                                    try clear hfz52_0
                                    try clear hfz52_1
                                    try clear hfz53_0
                                    try clear hfz53_1
                                    try clear hfz55_0
                                    try clear hfz55_1
                                    try clear hfz59_0
                                    try clear hfz59_1
                                    try clear hfz60_0
                                    try clear hfz60_1
                                    try clear hfz62_0
                                    try clear hfz62_1
                                    try clear hfz69_0
                                    try clear hfz69_1
                                    try clear hfz9_0
                                    try clear hfz9_1
                                    try clear hx311_0
                                    try clear hx311_1
                                    try clear hx312_0
                                    try clear hx312_1
                                    try clear hx313_0
                                    try clear hx313_1
                                    try clear hx314_0
                                    try clear hx314_1
                                    try clear hx315_0
                                    try clear hx315_1
                                    try clear hx316_0
                                    try clear hx316_1
                                    try clear hx317_0
                                    try clear hx317_1
                                    try clear hx318_0
                                    try clear hx318_1
                                    try clear hx319_0
                                    try clear hx319_1
                                    try clear hx320_0
                                    try clear hx320_1
                                    try clear p2
                                    try clear p3
                                    try clear p31
                                    try clear p311
                                    try clear p312
                                    try clear p313
                                    try clear p314
                                    try clear p315
                                    try clear p316
                                    try clear p317
                                    try clear p318
                                    try clear p319
                                    try clear p320
                                    try clear p6
                                    try clear q3
                                    try clear q31
                                    try clear q311
                                    try clear q312
                                    try clear q313
                                    try clear q314
                                    try clear q315
                                    try clear q316
                                    try clear q317
                                    try clear q318
                                    try clear q319
                                    try clear q320
                                    obtain ⟨x13_6, x15_6, rfl, rfl, HA, HK6, HO_311001, BK300, BK310, HB⟩ := hrel
                                    cases gk with
                                    | zero => exact absurd HA.out (by simp [mooringslaw10_WheelDue.l3])
                                    | succ k6 =>
                                      have H := HA.out
                                      clear HA
                                      simp only [mooringslaw10_WheelDue.l3] at H
                                      by_cases c70 : x15_6 < (t303.length : Int)
                                      · rw [if_pos c70] at H
                                        have c70b0 : decide (x15_6 < (t303.length : Int)) = true := decide_eq_true c70
                                        clear c70
                                        by_cases c71 : x13_6 = true
                                        · subst c71
                                          have H1 : (mooringslaw10_WheelDue.l3 k6 a2 true (wrap64 (x15_6 + 1)) a0_0 l0_1 t302 t303) = some r := by rw [if_pos rfl] at H; exact H
                                          clear H
                                          have H := H1
                                          clear H1
                                          have H' := Aside0.mk H
                                          clear H
                                          have hnb72 := NB310_300.out
                                          have hnc72 := NB300_310.out
                                          have hcz73_0 : wr.cell? ⟨gb310, 0, none⟩ = some (.int .i64 t302) := (blk_cell BK310.out 0).trans rfl
                                          have hcz73_1 : wr.cell? ⟨gb310, 1, none⟩ = some (.slice Ao18 t303.length co18) := (blk_cell BK310.out 1).trans rfl
                                          have hfz73_0 := blk_frozen BK310.out 0
                                          have hfz73_1 := blk_frozen BK310.out 1
                                          go_wp2
                                          repeat (go_quiet (fail); try go_wp2)
                                          go_roundg k6
                                          case measure => have := HJ4.out; have := HK2.out; have := HK3.out; have := HJ38.out; have := HK5.out; have := HK6.out; omega
                                          case rel => exact ⟨(true), (wrap64 (x15_6 + 1)), (by first | rfl | (simp; done) | (simp [*]; done)), (by first | rfl | (simp; done) | (simp [*]; done)), H', ⟨by have := HJ4.out; have := HK2.out; have := HK3.out; have := HJ38.out; have := HK5.out; have := HK6.out; omega⟩, ⟨by (with_reducible repeat (first | apply Kd.R_alloc | apply Kd.R_drewN | apply Kd.R_drew)); exact HO_311001.out⟩, ⟨by (with_reducible repeat (first | refine blk_drewN ?_ _ | refine blk_drew ?_ | refine blk_alloc ?_ _)); exact BK300.out⟩, ⟨by (with_reducible repeat (first | refine blk_drewN ?_ _ | refine blk_drew ?_ | refine blk_alloc ?_ _)); exact BK310.out⟩, ⟨by repeat (first | (with_reducible first | exact HB.out | apply below_alloc | apply pw_below_drewN | apply below_drew1 | refine below_set ?_ GE300.out | refine below_set ?_ GE310.out) | exact HB.out)⟩⟩
                                        · replace c71 := Bool.eq_false_iff.mpr c71
                                          subst c71
                                          have H1 : (if 0 ≤ x15_6 then (if 0 ≤ a2 then (if a2 < (l0_1.length : Int) then (mooringslaw10_WheelDue.l3 k6 a2 (((rd_T33 t303 x15_6).f0) == ((rd_T33 l0_1 a2).f0) && (((rd_T33 t303 x15_6).f1) == ((rd_T33 l0_1 a2).f1))) (wrap64 (x15_6 + 1)) a0_0 l0_1 t302 t303) else (none)) else (none)) else (none)) = some r := by rw [if_neg (show ¬ (false = true) by decide)] at H; exact H
                                          clear H
                                          have H := H1
                                          clear H1
                                          by_cases c74 : 0 ≤ x15_6
                                          · rw [if_pos c74] at H
                                            have c74b0 : decide (0 ≤ x15_6) = true := decide_eq_true c74
                                            clear c74
                                            by_cases c75 : 0 ≤ a2
                                            · rw [if_pos c75] at H
                                              have c75b0 : decide (0 ≤ a2) = true := decide_eq_true c75
                                              clear c75
                                              by_cases c76 : a2 < (l0_1.length : Int)
                                              · rw [if_pos c76] at H
                                                have c76b0 : decide (a2 < (l0_1.length : Int)) = true := decide_eq_true c76
                                                clear c76
                                                have H' := Aside0.mk H
                                                clear H
                                                have hnb77 := NB310_300.out
                                                have hnc77 := NB300_310.out
                                                have hcz78_0 : wr.cell? ⟨gb310, 0, none⟩ = some (.int .i64 t302) := (blk_cell BK310.out 0).trans rfl
                                                have hcz78_1 : wr.cell? ⟨gb310, 1, none⟩ = some (.slice Ao18 t303.length co18) := (blk_cell BK310.out 1).trans rfl
                                                have hfz78_0 := blk_frozen BK310.out 0
                                                have hfz78_1 := blk_frozen BK310.out 1
                                                have p321 : 0 ≤ (x15_6 : Int) := of_decide_eq_true (by first | (with_reducible assumption) | assumption)
                                                have q321 : x15_6 < (t303.length : Int) := of_decide_eq_true (by first | (with_reducible assumption) | assumption)
                                                obtain ⟨ad321, e321, hx321_0, hx321_1⟩ := at_T33 (Kd.R_reads' HO_311001.out).2.2 x15_6 p321 q321
                                                cases e321
                                                replace p321 := eq_true p321
                                                replace q321 := eq_true q321
                                                have hcz79_0 : wr.cell? ⟨gb300, 0, none⟩ = some (.int .i64 a0_0) := (blk_cell BK300.out 0).trans rfl
                                                have hcz79_1 : wr.cell? ⟨gb300, 1, none⟩ = some (.slice A0_1 l0_1.length c0_1) := (blk_cell BK300.out 1).trans rfl
                                                have hfz79_0 := blk_frozen BK300.out 0
                                                have hfz79_1 := blk_frozen BK300.out 1
                                                have p322 : 0 ≤ (a2 : Int) := of_decide_eq_true (by first | (with_reducible assumption) | assumption)
                                                have q322 : a2 < (l0_1.length : Int) := of_decide_eq_true (by first | (with_reducible assumption) | assumption)
                                                obtain ⟨ad322, e322, hx322_0, hx322_1⟩ := at_T33 HR0_1.out a2 p322 q322
                                                cases e322
                                                replace hx322_0 := (HB.out.cell (World.block_lt_of_cell? w _ hx322_0)).trans hx322_0
                                                replace hx322_1 := (HB.out.cell (World.block_lt_of_cell? w _ hx322_1)).trans hx322_1
                                                replace p322 := eq_true p322
                                                replace q322 := eq_true q322
                                                go_wp2
                                                repeat (go_quiet (fail); try go_wp2)
                                                go_roundg k6
                                                case measure => have := HJ4.out; have := HK2.out; have := HK3.out; have := HJ38.out; have := HK5.out; have := HK6.out; omega
                                                case rel => exact ⟨((((rd_T33 t303 x15_6).f0) == ((rd_T33 l0_1 a2).f0) && (((rd_T33 t303 x15_6).f1) == ((rd_T33 l0_1 a2).f1)))), (wrap64 (x15_6 + 1)), (by first | rfl | (simp; done) | (simp [*]; done)), (by first | rfl | (simp; done) | (simp [*]; done)), H', ⟨by have := HJ4.out; have := HK2.out; have := HK3.out; have := HJ38.out; have := HK5.out; have := HK6.out; omega⟩, ⟨by (with_reducible repeat (first | apply Kd.R_alloc | apply Kd.R_drewN | apply Kd.R_drew)); exact HO_311001.out⟩, ⟨by (with_reducible repeat (first | refine blk_drewN ?_ _ | refine blk_drew ?_ | refine blk_alloc ?_ _)); exact BK300.out⟩, ⟨by (with_reducible repeat (first | refine blk_drewN ?_ _ | refine blk_drew ?_ | refine blk_alloc ?_ _)); exact BK310.out⟩, ⟨by repeat (first | (with_reducible first | exact HB.out | apply below_alloc | apply pw_below_drewN | apply below_drew1 | refine below_set ?_ GE300.out | refine below_set ?_ GE310.out) | exact HB.out)⟩⟩
                                              · rw [if_neg c76] at H
                                                exact absurd H (by simp)
                                            · rw [if_neg c75] at H
                                              exact absurd H (by simp)
                                          · rw [if_neg c74] at H
                                            exact absurd H (by simp)
                                      · rw [if_neg c70] at H
                                        have c70b0 : decide (x15_6 < (t303.length : Int)) = false := decide_eq_false c70
                                        clear c70
                                        obtain rfl := Option.some.inj H
                                        have hnb80 := NB310_300.out
                                        have hnc80 := NB300_310.out
                                        have hcz81_0 : wr.cell? ⟨gb310, 0, none⟩ = some (.int .i64 t302) := (blk_cell BK310.out 0).trans rfl
                                        have hcz81_1 : wr.cell? ⟨gb310, 1, none⟩ = some (.slice Ao18 t303.length co18) := (blk_cell BK310.out 1).trans rfl
                                        have hfz81_0 := blk_frozen BK310.out 0
                                        have hfz81_1 := blk_frozen BK310.out 1
                                        go_wp2
                                        repeat (go_quiet (fail); try go_wp2)
                                        go_ret
                                        exact ⟨by first | rfl | (simp [errW_none, errW_some] <;> rfl) | (simp [*, errW_none, errW_some] <;> rfl), by repeat (first | (with_reducible first | exact HB.out | apply below_alloc | apply pw_below_drewN | apply below_drew1 | refine below_set ?_ GE300.out | refine below_set ?_ GE310.out) | exact HB.out)⟩
        · rw [if_neg c12] at H
          have c12b0 : (t309 == 0) = false := beq_eq_false_iff_ne.mpr c12
          have c12b1 : (t309 != 0) = true := bne_iff_ne.mpr c12
          obtain rfl := Option.some.inj H
          have hcz82_0 : wc.cell? ⟨gb300, 0, none⟩ = some (.int .i64 a0_0) := (blk_cell BK300.out 0).trans rfl
          have hcz82_1 : wc.cell? ⟨gb300, 1, none⟩ = some (.slice A0_1 l0_1.length c0_1) := (blk_cell BK300.out 1).trans rfl
          have hfz82_0 := blk_frozen BK300.out 0
          have hfz82_1 := blk_frozen BK300.out 1
          go_wp2_with (first | (go_at_call 11; (with_reducible refine (wheel_Step.calls a0_0 _ _ l0_1 a1 t302 t303 t306 t309 _ ?side1 ?side2 A11.out).mono ?_); (case side1 => repeat (first | exact (Kd.C_below HR0_1.out HB.out) | (with_reducible refine Kd.C_alloc ?_ _) | (with_reducible refine Kd.C_drewN ?_ _) | (with_reducible refine Kd.C_drew ?_))); (case side2 => exact HC0_1.out); rintro e w83 ⟨v304, v307, rfl, ho0, ho1, hb⟩; have n0_ := Aside0.mk (Kd.R_lower ho0 (below_size (by repeat (first | (with_reducible first | exact HB.out | apply below_alloc | apply pw_below_drewN | apply below_drew1 | refine below_set ?_ GE300.out) | exact HB.out)))); have n1_ := Aside0.mk (Kd.R_lower ho1 (below_size (by repeat (first | (with_reducible first | exact HB.out | apply below_alloc | apply pw_below_drewN | apply below_drew1 | refine below_set ?_ GE300.out) | exact HB.out)))); have n2_ := Aside0.mk (blk_below (g := gb300) (o := .cells #[.int .i64 a0_0, .slice A0_1 l0_1.length c0_1] 24 (0, 0)) (by (with_reducible repeat (first | refine blk_drewN ?_ _ | refine blk_drew ?_ | refine blk_alloc ?_ _)); exact BK300.out) hb); have n3_ := Aside0.mk (below_step (by repeat (first | (with_reducible first | exact HB.out | apply below_alloc | apply pw_below_drewN | apply below_drew1 | refine below_set ?_ GE300.out) | exact HB.out)) hb); clear BK300; clear HB; have HO305 := n0_; have HO308 := n1_; have BK300 := n2_; have HB := n3_; clear n0_ n1_ n2_ n3_; (try clear hb); (try clear hb2); (try clear hk); (try clear hi); (try clear ho0); (try clear ho1)) | ((with_reducible refine gate_dst (N := 8) rfl ?_); (try (refine gate_guard (by rfl) ?_; dsimp only)); refine box_event ?hg (N := 8) ?hd (cs := #[.int .i64 0, .slice none 0 0]) (t := 24) ?hr ?_; (case hd => rfl); (case hg => rfl); (case hr => first | (go_simp; done) | (go_simp; rfl)); intro gb310 hg w84 hbox hb; have n0_ := Aside0.mk (Kd.R_below (by (with_reducible repeat (first | apply Kd.R_alloc | apply Kd.R_drewN | apply Kd.R_drew)); exact HO305.out) hb); have n1_ := Aside0.mk (Kd.R_below (by (with_reducible repeat (first | apply Kd.R_alloc | apply Kd.R_drewN | apply Kd.R_drew)); exact HO308.out) hb); have n2_ := Aside0.mk (blk_below (g := gb300) (o := .cells #[.int .i64 a0_0, .slice A0_1 l0_1.length c0_1] 24 (0, 0)) (by (with_reducible repeat (first | refine blk_drewN ?_ _ | refine blk_drew ?_ | refine blk_alloc ?_ _)); exact BK300.out) hb); have n3_ := Aside0.mk (below_step (by repeat (first | (with_reducible first | exact HB.out | apply below_alloc | apply pw_below_drewN | apply below_drew1 | refine below_set ?_ GE300.out) | exact HB.out)) hb); have n4_ := Aside0.mk (hbox); have n5_ := Aside0.mk ((by rw [hg]; exact (below_size (by repeat (first | (with_reducible first | exact HB.out | apply below_alloc | apply pw_below_drewN | apply below_drew1 | refine below_set ?_ GE300.out) | exact HB.out))) : w.heap.size ≤ gb310)); have n6_ := Aside0.mk ((by rw [hg]; exact (below_size (by repeat (first | (with_reducible first | exact HB.out | apply below_alloc | apply pw_below_drewN | apply below_drew1 | refine below_set ?_ GE300.out) | exact HB.out))) : w.heap.size ≤ gb310)); have n7_ := Aside0.mk ((by rw [hg]; exact Nat.ne_of_lt (blk_lt (g := gb300) (o := .cells #[.int .i64 a0_0, .slice A0_1 l0_1.length c0_1] 24 (0, 0)) (by (with_reducible repeat (first | refine blk_drewN ?_ _ | refine blk_drew ?_ | refine blk_alloc ?_ _)); exact BK300.out)) : gb300 ≠ gb310)); have n8_ := Aside0.mk ((by rw [hg]; exact Nat.ne_of_gt (blk_lt (g := gb300) (o := .cells #[.int .i64 a0_0, .slice A0_1 l0_1.length c0_1] 24 (0, 0)) (by (with_reducible repeat (first | refine blk_drewN ?_ _ | refine blk_drew ?_ | refine blk_alloc ?_ _)); exact BK300.out)) : gb310 ≠ gb300)); clear HO305; clear HO308; clear BK300; clear HB; have HO305 := n0_; have HO308 := n1_; have BK300 := n2_; have HB := n3_; have BK310 := n4_; have GW310 := n5_; have GE310 := n6_; have NB300_310 := n7_; have NB310_300 := n8_; clear n0_ n1_ n2_ n3_ n4_ n5_ n6_ n7_ n8_; clear hb hbox hg; have hnb85 := NB310_300.out; have hnc85 := NB300_310.out; have hcz86_0 : w84.cell? ⟨gb310, 0, none⟩ = some (.int .i64 0) := (blk_cell BK310.out 0).trans rfl; have hcz86_1 : w84.cell? ⟨gb310, 1, none⟩ = some (.slice none 0 0) := (blk_cell BK310.out 1).trans rfl; have hfz86_0 := blk_frozen BK310.out 0; have hfz86_1 := blk_frozen BK310.out 1; obtain ⟨Ao87, co87, eo87⟩ := Kd.R_slice HO305.out; subst eo87; obtain ⟨Ao88, co88, eo88⟩ := Kd.R_slice HO308.out; subst eo88))
          repeat (go_quiet (first | (go_at_call 11; (with_reducible refine (wheel_Step.calls a0_0 _ _ l0_1 a1 t302 t303 t306 t309 _ ?side1 ?side2 A11.out).mono ?_); (case side1 => repeat (first | exact (Kd.C_below HR0_1.out HB.out) | (with_reducible refine Kd.C_alloc ?_ _) | (with_reducible refine Kd.C_drewN ?_ _) | (with_reducible refine Kd.C_drew ?_))); (case side2 => exact HC0_1.out); rintro e w83 ⟨v304, v307, rfl, ho0, ho1, hb⟩; have n0_ := Aside0.mk (Kd.R_lower ho0 (below_size (by repeat (first | (with_reducible first | exact HB.out | apply below_alloc | apply pw_below_drewN | apply below_drew1 | refine below_set ?_ GE300.out) | exact HB.out)))); have n1_ := Aside0.mk (Kd.R_lower ho1 (below_size (by repeat (first | (with_reducible first | exact HB.out | apply below_alloc | apply pw_below_drewN | apply below_drew1 | refine below_set ?_ GE300.out) | exact HB.out)))); have n2_ := Aside0.mk (blk_below (g := gb300) (o := .cells #[.int .i64 a0_0, .slice A0_1 l0_1.length c0_1] 24 (0, 0)) (by (with_reducible repeat (first | refine blk_drewN ?_ _ | refine blk_drew ?_ | refine blk_alloc ?_ _)); exact BK300.out) hb); have n3_ := Aside0.mk (below_step (by repeat (first | (with_reducible first | exact HB.out | apply below_alloc | apply pw_below_drewN | apply below_drew1 | refine below_set ?_ GE300.out) | exact HB.out)) hb); clear BK300; clear HB; have HO305 := n0_; have HO308 := n1_; have BK300 := n2_; have HB := n3_; clear n0_ n1_ n2_ n3_; (try clear hb); (try clear hb2); (try clear hk); (try clear hi); (try clear ho0); (try clear ho1)) | ((with_reducible refine gate_dst (N := 8) rfl ?_); (try (refine gate_guard (by rfl) ?_; dsimp only)); refine box_event ?hg (N := 8) ?hd (cs := #[.int .i64 0, .slice none 0 0]) (t := 24) ?hr ?_; (case hd => rfl); (case hg => rfl); (case hr => first | (go_simp; done) | (go_simp; rfl)); intro gb310 hg w84 hbox hb; have n0_ := Aside0.mk (Kd.R_below (by (with_reducible repeat (first | apply Kd.R_alloc | apply Kd.R_drewN | apply Kd.R_drew)); exact HO305.out) hb); have n1_ := Aside0.mk (Kd.R_below (by (with_reducible repeat (first | apply Kd.R_alloc | apply Kd.R_drewN | apply Kd.R_drew)); exact HO308.out) hb); have n2_ := Aside0.mk (blk_below (g := gb300) (o := .cells #[.int .i64 a0_0, .slice A0_1 l0_1.length c0_1] 24 (0, 0)) (by (with_reducible repeat (first | refine blk_drewN ?_ _ | refine blk_drew ?_ | refine blk_alloc ?_ _)); exact BK300.out) hb); have n3_ := Aside0.mk (below_step (by repeat (first | (with_reducible first | exact HB.out | apply below_alloc | apply pw_below_drewN | apply below_drew1 | refine below_set ?_ GE300.out) | exact HB.out)) hb); have n4_ := Aside0.mk (hbox); have n5_ := Aside0.mk ((by rw [hg]; exact (below_size (by repeat (first | (with_reducible first | exact HB.out | apply below_alloc | apply pw_below_drewN | apply below_drew1 | refine below_set ?_ GE300.out) | exact HB.out))) : w.heap.size ≤ gb310)); have n6_ := Aside0.mk ((by rw [hg]; exact (below_size (by repeat (first | (with_reducible first | exact HB.out | apply below_alloc | apply pw_below_drewN | apply below_drew1 | refine below_set ?_ GE300.out) | exact HB.out))) : w.heap.size ≤ gb310)); have n7_ := Aside0.mk ((by rw [hg]; exact Nat.ne_of_lt (blk_lt (g := gb300) (o := .cells #[.int .i64 a0_0, .slice A0_1 l0_1.length c0_1] 24 (0, 0)) (by (with_reducible repeat (first | refine blk_drewN ?_ _ | refine blk_drew ?_ | refine blk_alloc ?_ _)); exact BK300.out)) : gb300 ≠ gb310)); have n8_ := Aside0.mk ((by rw [hg]; exact Nat.ne_of_gt (blk_lt (g := gb300) (o := .cells #[.int .i64 a0_0, .slice A0_1 l0_1.length c0_1] 24 (0, 0)) (by (with_reducible repeat (first | refine blk_drewN ?_ _ | refine blk_drew ?_ | refine blk_alloc ?_ _)); exact BK300.out)) : gb310 ≠ gb300)); clear HO305; clear HO308; clear BK300; clear HB; have HO305 := n0_; have HO308 := n1_; have BK300 := n2_; have HB := n3_; have BK310 := n4_; have GW310 := n5_; have GE310 := n6_; have NB300_310 := n7_; have NB310_300 := n8_; clear n0_ n1_ n2_ n3_ n4_ n5_ n6_ n7_ n8_; clear hb hbox hg; have hnb85 := NB310_300.out; have hnc85 := NB300_310.out; have hcz86_0 : w84.cell? ⟨gb310, 0, none⟩ = some (.int .i64 0) := (blk_cell BK310.out 0).trans rfl; have hcz86_1 : w84.cell? ⟨gb310, 1, none⟩ = some (.slice none 0 0) := (blk_cell BK310.out 1).trans rfl; have hfz86_0 := blk_frozen BK310.out 0; have hfz86_1 := blk_frozen BK310.out 1; obtain ⟨Ao87, co87, eo87⟩ := Kd.R_slice HO305.out; subst eo87; obtain ⟨Ao88, co88, eo88⟩ := Kd.R_slice HO308.out; subst eo88)); try go_wp2_with (first | (go_at_call 11; (with_reducible refine (wheel_Step.calls a0_0 _ _ l0_1 a1 t302 t303 t306 t309 _ ?side1 ?side2 A11.out).mono ?_); (case side1 => repeat (first | exact (Kd.C_below HR0_1.out HB.out) | (with_reducible refine Kd.C_alloc ?_ _) | (with_reducible refine Kd.C_drewN ?_ _) | (with_reducible refine Kd.C_drew ?_))); (case side2 => exact HC0_1.out); rintro e w83 ⟨v304, v307, rfl, ho0, ho1, hb⟩; have n0_ := Aside0.mk (Kd.R_lower ho0 (below_size (by repeat (first | (with_reducible first | exact HB.out | apply below_alloc | apply pw_below_drewN | apply below_drew1 | refine below_set ?_ GE300.out) | exact HB.out)))); have n1_ := Aside0.mk (Kd.R_lower ho1 (below_size (by repeat (first | (with_reducible first | exact HB.out | apply below_alloc | apply pw_below_drewN | apply below_drew1 | refine below_set ?_ GE300.out) | exact HB.out)))); have n2_ := Aside0.mk (blk_below (g := gb300) (o := .cells #[.int .i64 a0_0, .slice A0_1 l0_1.length c0_1] 24 (0, 0)) (by (with_reducible repeat (first | refine blk_drewN ?_ _ | refine blk_drew ?_ | refine blk_alloc ?_ _)); exact BK300.out) hb); have n3_ := Aside0.mk (below_step (by repeat (first | (with_reducible first | exact HB.out | apply below_alloc | apply pw_below_drewN | apply below_drew1 | refine below_set ?_ GE300.out) | exact HB.out)) hb); clear BK300; clear HB; have HO305 := n0_; have HO308 := n1_; have BK300 := n2_; have HB := n3_; clear n0_ n1_ n2_ n3_; (try clear hb); (try clear hb2); (try clear hk); (try clear hi); (try clear ho0); (try clear ho1)) | ((with_reducible refine gate_dst (N := 8) rfl ?_); (try (refine gate_guard (by rfl) ?_; dsimp only)); refine box_event ?hg (N := 8) ?hd (cs := #[.int .i64 0, .slice none 0 0]) (t := 24) ?hr ?_; (case hd => rfl); (case hg => rfl); (case hr => first | (go_simp; done) | (go_simp; rfl)); intro gb310 hg w84 hbox hb; have n0_ := Aside0.mk (Kd.R_below (by (with_reducible repeat (first | apply Kd.R_alloc | apply Kd.R_drewN | apply Kd.R_drew)); exact HO305.out) hb); have n1_ := Aside0.mk (Kd.R_below (by (with_reducible repeat (first | apply Kd.R_alloc | apply Kd.R_drewN | apply Kd.R_drew)); exact HO308.out) hb); have n2_ := Aside0.mk (blk_below (g := gb300) (o := .cells #[.int .i64 a0_0, .slice A0_1 l0_1.length c0_1] 24 (0, 0)) (by (with_reducible repeat (first | refine blk_drewN ?_ _ | refine blk_drew ?_ | refine blk_alloc ?_ _)); exact BK300.out) hb); have n3_ := Aside0.mk (below_step (by repeat (first | (with_reducible first | exact HB.out | apply below_alloc | apply pw_below_drewN | apply below_drew1 | refine below_set ?_ GE300.out) | exact HB.out)) hb); have n4_ := Aside0.mk (hbox); have n5_ := Aside0.mk ((by rw [hg]; exact (below_size (by repeat (first | (with_reducible first | exact HB.out | apply below_alloc | apply pw_below_drewN | apply below_drew1 | refine below_set ?_ GE300.out) | exact HB.out))) : w.heap.size ≤ gb310)); have n6_ := Aside0.mk ((by rw [hg]; exact (below_size (by repeat (first | (with_reducible first | exact HB.out | apply below_alloc | apply pw_below_drewN | apply below_drew1 | refine below_set ?_ GE300.out) | exact HB.out))) : w.heap.size ≤ gb310)); have n7_ := Aside0.mk ((by rw [hg]; exact Nat.ne_of_lt (blk_lt (g := gb300) (o := .cells #[.int .i64 a0_0, .slice A0_1 l0_1.length c0_1] 24 (0, 0)) (by (with_reducible repeat (first | refine blk_drewN ?_ _ | refine blk_drew ?_ | refine blk_alloc ?_ _)); exact BK300.out)) : gb300 ≠ gb310)); have n8_ := Aside0.mk ((by rw [hg]; exact Nat.ne_of_gt (blk_lt (g := gb300) (o := .cells #[.int .i64 a0_0, .slice A0_1 l0_1.length c0_1] 24 (0, 0)) (by (with_reducible repeat (first | refine blk_drewN ?_ _ | refine blk_drew ?_ | refine blk_alloc ?_ _)); exact BK300.out)) : gb310 ≠ gb300)); clear HO305; clear HO308; clear BK300; clear HB; have HO305 := n0_; have HO308 := n1_; have BK300 := n2_; have HB := n3_; have BK310 := n4_; have GW310 := n5_; have GE310 := n6_; have NB300_310 := n7_; have NB310_300 := n8_; clear n0_ n1_ n2_ n3_ n4_ n5_ n6_ n7_ n8_; clear hb hbox hg; have hnb85 := NB310_300.out; have hnc85 := NB300_310.out; have hcz86_0 : w84.cell? ⟨gb310, 0, none⟩ = some (.int .i64 0) := (blk_cell BK310.out 0).trans rfl; have hcz86_1 : w84.cell? ⟨gb310, 1, none⟩ = some (.slice none 0 0) := (blk_cell BK310.out 1).trans rfl; have hfz86_0 := blk_frozen BK310.out 0; have hfz86_1 := blk_frozen BK310.out 1; obtain ⟨Ao87, co87, eo87⟩ := Kd.R_slice HO305.out; subst eo87; obtain ⟨Ao88, co88, eo88⟩ := Kd.R_slice HO308.out; subst eo88)))
          go_ret
          exact ⟨by first | rfl | (simp [errW_none, errW_some] <;> rfl) | (simp [*, errW_none, errW_some] <;> rfl), by repeat (first | (with_reducible first | exact HB.out | apply below_alloc | apply pw_below_drewN | apply below_drew1 | refine below_set ?_ GE300.out | refine below_set ?_ GE310.out) | exact HB.out)⟩

end
end Go.Proofs.Ytggkealdbebbkaa.P
