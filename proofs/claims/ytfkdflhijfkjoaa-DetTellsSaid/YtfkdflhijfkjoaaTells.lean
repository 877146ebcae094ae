/- The contract of DetTells where it answers true: the laid contract (wip/myprint.py), its other ways closed at once (wip/tells08.py). -/
import Derived.Test.YtfkdflhijfkjoaaP0
import Derived.Test.YtfkdflhijfkjoaaP3
import Derived.Test.YtfkdflhijfkjoaaP4
import Derived.Test.YtfkdflhijfkjoaaP5
import Derived.Test.YtfkdflhijfkjoaaP6
import Derived.Test.YtfkdflhijfkjoaaP7
import Derived.Test.YtfkdflhijfkjoaaP8
import Derived.Test.YtfkdflhijfkjoaaP9
import Derived.Test.YtfkdflhijfkjoaaP12
import Derived.Test.YtfkdflhijfkjoaaP13
import Derived.Test.YtfkdflhijfkjoaaP14
import Derived.Test.YtfkdflhijfkjoaaP15
import Derived.Test.YtfkdflhijfkjoaaP16
import Derived.Test.YtfkdflhijfkjoaaP17
namespace Go.Proofs.Ytfkdflhijfkjoaa.P
open Go.RowKit Go.Proofs.YtfkdflhijfkjoaaW.PrintWords Go.Proofs.YtfkdflhijfkjoaaW.PrintLast Go.Proofs.YtfkdflhijfkjoaaW.PrintMore
attribute [local go_sem] max2_int min2_int max_two min_two max_three min_three max_four min_four   -- for this text's walks alone
set_option linter.unusedVariables false
set_option linter.unusedSimpArgs false

attribute [local go_sem high] eqA28
/-! ### mooringslaw08_DetTells: function 3 -/
def mooringslaw08_DetTells.j0 : Nat → Int → Int → Bool → Int → Int → Int → Int → Int → Int → Int → Int → Option (Bool)
 | 0, _, _, _, _, _, _, _, _, _, _, _ => none
 | k + 1, x2, x3, x88, x198000, x198001, x198002, x198003, x198004, x198005, x198006, x198007 => if x88 = true then (some false) else ((detmap_Ratio.f x198000 x198001 x198002 x198003 x198004 x198005 x198006 x198007).bind fun t223 => ((mooringsref08_Ratio.f k x198000 x198001 x198002 x198003 x198004 x198005 x198006 x198007).bind fun t224 => (if t223 = t224 then ((detmap_Each.f x198000 x198001 x198002 x198003 x198004 x198005 x198006 x198007).bind fun t225 => ((mooringsref08_Each.f k x198000 x198001 x198002 x198003 x198004 x198005 x198006 x198007).bind fun t226 => (if t225 = t226 then ((detmap_Blocks.f x198000 x198001 x198002 x198003 x198004 x198005 x198006 x198007).bind fun t227 => ((mooringsref08_Blocks.f k x198000 x198001 x198002 x198003 x198004 x198005 x198006 x198007).bind fun t228 => (if t227 = t228 then ((detmap_Which.f k x198000 x198001 x198002 x198003 x198004 x198005 x198006 x198007 x2 x3).bind fun t229 => ((mooringsref08_Which.f k x198000 x198001 x198002 x198003 x198004 x198005 x198006 x198007 x2 x3).bind fun t230 => (some (t229 == t230)))) else (some false)))) else (some false)))) else (some false))))
def mooringslaw08_DetTells.f (k : Nat) (q0 : Int) (q1 : Int) (q2 : Int) (q3 : Int) (q4 : Int) (q5 : Int) (q6 : Int) (q7 : Int) (a1 : Int) (a2 : Int) (a3 : Int) (a4 : Int) : Option (Bool) := (mooringslaw08_awake.f).bind fun t198 => ((detmap_Base.f k q0 q1 q2 q3 q4 q5 q6 q7 a1).bind fun bt199 => ((mooringsref08_Base.f k q0 q1 q2 q3 q4 q5 q6 q7 a1).bind fun bt204 => ((detmap_Block.f k q0 q1 q2 q3 q4 q5 q6 q7 a2 a4).bind fun bt209 => ((mooringsref08_Block.f k q0 q1 q2 q3 q4 q5 q6 q7 a2 a4).bind fun bt214 => ((mooringsref08_Fit.f k q0 q1 q2 q3 q4 q5 q6 q7).bind fun t219 => (if t198 = true then (if (!(bt199.1 == bt204.1) || (!(bt199.2.1 == bt204.2.1) || (!(bt199.2.2.1 == bt204.2.2.1)))) = true then (mooringslaw08_DetTells.j0 k a2 a3 true q0 q1 q2 q3 q4 q5 q6 q7) else (if (bt199.2.2.2 != bt204.2.2.2) = true then (mooringslaw08_DetTells.j0 k a2 a3 true q0 q1 q2 q3 q4 q5 q6 q7) else (if (!(bt209.1 == bt214.1) || (!(bt209.2.1 == bt214.2.1) || (!(bt209.2.2.1 == bt214.2.2.1)))) = true then (mooringslaw08_DetTells.j0 k a2 a3 true q0 q1 q2 q3 q4 q5 q6 q7) else (if (bt209.2.2.2 != bt214.2.2.2) = true then (mooringslaw08_DetTells.j0 k a2 a3 true q0 q1 q2 q3 q4 q5 q6 q7) else ((detmap_Fit.f q0 q1 q2 q3 q4 q5 q6 q7).bind fun t220 => (if (t220 != t219) = true then (mooringslaw08_DetTells.j0 k a2 a3 true q0 q1 q2 q3 q4 q5 q6 q7) else ((detmap_Who.f k q0 q1 q2 q3 q4 q5 q6 q7 a2 a3).bind fun t221 => ((mooringsref08_Who.f k q0 q1 q2 q3 q4 q5 q6 q7 a2 a3).bind fun t222 => (mooringslaw08_DetTells.j0 k a2 a3 (t221 != t222) q0 q1 q2 q3 q4 q5 q6 q7))))))))) else (mooringslaw08_DetTells.j0 k a2 a3 true q0 q1 q2 q3 q4 q5 q6 q7)))))))
theorem mooringslaw08_DetTells.mono_l : ∀ k, (∀ y0 y1 y2 y3 y4 y5 y6 y7 y8 y9 y10, LeO (mooringslaw08_DetTells.j0 k y0 y1 y2 y3 y4 y5 y6 y7 y8 y9 y10) (mooringslaw08_DetTells.j0 (k + 1) y0 y1 y2 y3 y4 y5 y6 y7 y8 y9 y10))
 | 0 => fun _ _ _ _ _ _ _ _ _ _ _ r h => by simp [mooringslaw08_DetTells.j0] at h
 | k + 1 => by
  have ih0 := mooringslaw08_DetTells.mono_l k
  ·intro y0 y1 y2 y3 y4 y5 y6 y7 y8 y9 y10
   unfold mooringslaw08_DetTells.j0
   repeat' first
   | (with_reducible exact ih0 _ _ _ _ _ _ _ _ _ _ _)
   | (with_reducible exact detmap_Base.mono _ _ _ _ _ _ _ _ _ _)
   | (with_reducible exact detmap_Block.mono _ _ _ _ _ _ _ _ _ _ _)
   | (with_reducible exact detmap_Which.mono _ _ _ _ _ _ _ _ _ _ _)
   | (with_reducible exact detmap_Who.mono _ _ _ _ _ _ _ _ _ _ _)
   | (with_reducible exact mooringsref08_Base.mono _ _ _ _ _ _ _ _ _ _)
   | (with_reducible exact mooringsref08_Block.mono _ _ _ _ _ _ _ _ _ _ _)
   | (with_reducible exact mooringsref08_Blocks.mono _ _ _ _ _ _ _ _ _)
   | (with_reducible exact mooringsref08_Each.mono _ _ _ _ _ _ _ _ _)
   | (with_reducible exact mooringsref08_Fit.mono _ _ _ _ _ _ _ _ _)
   | (with_reducible exact mooringsref08_Ratio.mono _ _ _ _ _ _ _ _ _)
   | (with_reducible exact mooringsref08_Which.mono _ _ _ _ _ _ _ _ _ _ _)
   | (with_reducible exact mooringsref08_Who.mono _ _ _ _ _ _ _ _ _ _ _)
   | (with_reducible exact LeO.refl _)
   | (with_reducible exact LeO.none _)
   | (with_reducible refine LeO.ite ?_ ?_)
   | (with_reducible refine LeO.bind ?_ (fun _ => ?_))
   | exact ih0 _ _ _ _ _ _ _ _ _ _ _
   | exact detmap_Base.mono _ _ _ _ _ _ _ _ _ _
   | exact detmap_Block.mono _ _ _ _ _ _ _ _ _ _ _
   | exact detmap_Which.mono _ _ _ _ _ _ _ _ _ _ _
   | exact detmap_Who.mono _ _ _ _ _ _ _ _ _ _ _
   | exact mooringsref08_Base.mono _ _ _ _ _ _ _ _ _ _
   | exact mooringsref08_Block.mono _ _ _ _ _ _ _ _ _ _ _
   | exact mooringsref08_Blocks.mono _ _ _ _ _ _ _ _ _
   | exact mooringsref08_Each.mono _ _ _ _ _ _ _ _ _
   | exact mooringsref08_Fit.mono _ _ _ _ _ _ _ _ _
   | exact mooringsref08_Ratio.mono _ _ _ _ _ _ _ _ _
   | exact mooringsref08_Which.mono _ _ _ _ _ _ _ _ _ _ _
   | exact mooringsref08_Who.mono _ _ _ _ _ _ _ _ _ _ _
   | exact LeO.none _
   | refine LeO.ite ?_ ?_
   | refine LeO.bind ?_ (fun _ => ?_)
theorem mooringslaw08_DetTells.mono : ∀ a0 a1 a2 a3 a4 a5 a6 a7 a8 a9 a10 a11 k, LeO (mooringslaw08_DetTells.f k a0 a1 a2 a3 a4 a5 a6 a7 a8 a9 a10 a11) (mooringslaw08_DetTells.f (k + 1) a0 a1 a2 a3 a4 a5 a6 a7 a8 a9 a10 a11) := by
 intro a0 a1 a2 a3 a4 a5 a6 a7 a8 a9 a10 a11 k
 have ih0 := mooringslaw08_DetTells.mono_l k
 unfold mooringslaw08_DetTells.f
 repeat' first
   | (with_reducible exact ih0 _ _ _ _ _ _ _ _ _ _ _)
   | (with_reducible exact detmap_Base.mono _ _ _ _ _ _ _ _ _ _)
   | (with_reducible exact detmap_Block.mono _ _ _ _ _ _ _ _ _ _ _)
   | (with_reducible exact detmap_Which.mono _ _ _ _ _ _ _ _ _ _ _)
   | (with_reducible exact detmap_Who.mono _ _ _ _ _ _ _ _ _ _ _)
   | (with_reducible exact mooringsref08_Base.mono _ _ _ _ _ _ _ _ _ _)
   | (with_reducible exact mooringsref08_Block.mono _ _ _ _ _ _ _ _ _ _ _)
   | (with_reducible exact mooringsref08_Blocks.mono _ _ _ _ _ _ _ _ _)
   | (with_reducible exact mooringsref08_Each.mono _ _ _ _ _ _ _ _ _)
   | (with_reducible exact mooringsref08_Fit.mono _ _ _ _ _ _ _ _ _)
   | (with_reducible exact mooringsref08_Ratio.mono _ _ _ _ _ _ _ _ _)
   | (with_reducible exact mooringsref08_Which.mono _ _ _ _ _ _ _ _ _ _ _)
   | (with_reducible exact mooringsref08_Who.mono _ _ _ _ _ _ _ _ _ _ _)
   | (with_reducible exact LeO.refl _)
   | (with_reducible exact LeO.none _)
   | (with_reducible refine LeO.ite ?_ ?_)
   | (with_reducible refine LeO.bind ?_ (fun _ => ?_))
   | exact ih0 _ _ _ _ _ _ _ _ _ _ _
   | exact detmap_Base.mono _ _ _ _ _ _ _ _ _ _
   | exact detmap_Block.mono _ _ _ _ _ _ _ _ _ _ _
   | exact detmap_Which.mono _ _ _ _ _ _ _ _ _ _ _
   | exact detmap_Who.mono _ _ _ _ _ _ _ _ _ _ _
   | exact mooringsref08_Base.mono _ _ _ _ _ _ _ _ _ _
   | exact mooringsref08_Block.mono _ _ _ _ _ _ _ _ _ _ _
   | exact mooringsref08_Blocks.mono _ _ _ _ _ _ _ _ _
   | exact mooringsref08_Each.mono _ _ _ _ _ _ _ _ _
   | exact mooringsref08_Fit.mono _ _ _ _ _ _ _ _ _
   | exact mooringsref08_Ratio.mono _ _ _ _ _ _ _ _ _
   | exact mooringsref08_Which.mono _ _ _ _ _ _ _ _ _ _ _
   | exact mooringsref08_Who.mono _ _ _ _ _ _ _ _ _ _ _
   | exact LeO.none _
   | refine LeO.ite ?_ ?_
   | refine LeO.bind ?_ (fun _ => ?_)
def mooringslaw08_DetTells.T7 : Bool × List (List Nat × List Nat) := (true, [([], []), ([0], [0]), ([1], [1]), ([2], [2]), ([2], [2]), ([3, 4, 2], [2, 3, 4]), ([2, 5], [2, 5]), ([6, 2], [6]), ([7], [7]), ([7], [7]), ([8, 9, 7], [7, 8, 9]), ([7, 10], [7, 10]), ([11, 7], [11]), ([12], [12]), ([12], [12]), ([13, 14, 12], [12, 13, 14]), ([12, 15], [12, 15]), ([16, 12], [16]), ([17], [17]), ([17], [17]), ([18, 19, 17], [17, 18, 19]), ([17, 20], [17, 20]), ([21, 17], [21]), ([22], [22]), ([23, 22, 22], [22, 23]), ([22], [22]), ([24, 25, 22], [22, 24, 25]), ([22, 26], [22, 26]), ([27, 24], [27]), ([28], [28]), ([28], [28]), ([28], [28]), ([29, 30, 31, 28, 28], [28, 29, 30, 31]), ([28], [28]), ([28], [28]), ([28], [28]), ([33, 34, 35, 32, 28], [28, 33, 34, 35]), ([32, 36, 28], [28, 32, 36]), ([28, 37], [28, 37])])
def mooringslaw08_DetTells.B7 : List Nat := [0, 1, 3, 7, 7, 31, 63, 127, 255, 255, 1023, 2047, 4095, 8191, 8191, 32767, 65535, 131071, 262143, 262143, 1048575, 2097151, 4194303, 8388607, 16777215, 8388607, 67108863, 134217727, 268435455, 536870911, 536870911, 536870911, 4294967295, 536870911, 536870911, 536870911, 68719476735, 137438953471, 274877906943]
theorem mooringslaw08_DetTells.tab7 : rtab .any (opsOf Try.f3 7) = mooringslaw08_DetTells.T7 := by kernel_rfl
theorem mooringslaw08_DetTells.bits7 : waitsOk mooringslaw08_DetTells.T7.2 mooringslaw08_DetTells.B7 = true := by kernel_rfl
def mooringslaw08_DetTells.T9 : Bool × List (List Nat × List Nat) := (true, [([], []), ([0], [0]), ([], []), ([2, 1], [2]), ([1, 3], [1, 3]), ([4, 3], [4]), ([5], [5]), ([6, 5, 5], [5, 6]), ([5], [5]), ([8, 7, 5], [5, 8]), ([7, 9, 5], [5, 7, 9]), ([5, 10], [5, 10]), ([11, 9], [11]), ([12], [12]), ([13, 12, 12], [12, 13]), ([12], [12]), ([15, 14, 12], [12, 15]), ([14, 16, 12], [12, 14, 16]), ([12, 17], [12, 17]), ([18, 16], [18]), ([19], [19]), ([19], [19]), ([19], [19]), ([20, 21, 22, 19, 19], [19, 20, 21, 22]), ([19], [19]), ([19], [19]), ([19], [19]), ([24, 25, 26, 23, 19], [19, 24, 25, 26]), ([23, 27, 19], [19, 23, 27]), ([19, 28], [19, 28]), ([29, 27, 0, 1, 2, 3, 4, 5, 6, 7, 8, 9, 10, 11, 12, 13, 14, 15, 16, 17, 18, 19, 20, 21, 22, 23, 24, 25, 26, 27, 28, 29], [29])])
def mooringslaw08_DetTells.B9 : List Nat := [0, 1, 0, 7, 15, 31, 63, 127, 63, 511, 1023, 2047, 4095, 8191, 16383, 8191, 65535, 131071, 262143, 524287, 1048575, 1048575, 1048575, 8388607, 1048575, 1048575, 1048575, 134217727, 268435455, 536870911, 1073741823]
theorem mooringslaw08_DetTells.tab9 : rtab .any (opsOf Try.f3 9) = mooringslaw08_DetTells.T9 := by kernel_rfl
theorem mooringslaw08_DetTells.bits9 : waitsOk mooringslaw08_DetTells.T9.2 mooringslaw08_DetTells.B9 = true := by kernel_rfl
theorem mooringslaw08_DetTells.no : ∀ k a2 a3 x0 x1 x2 x3 x4 x5 x6 x7, mooringslaw08_DetTells.j0 k a2 a3 true x0 x1 x2 x3 x4 x5 x6 x7 ≠ some true := by
 intro k a2 a3 x0 x1 x2 x3 x4 x5 x6 x7
 cases k with
 | zero => rw [mooringslaw08_DetTells.j0]; exact fun h => by cases h
 | succ k => rw [mooringslaw08_DetTells.j0, if_pos rfl]; exact fun h => by cases h
set_option maxHeartbeats 8000000 in
set_option maxRecDepth 100000 in
theorem mooringslaw08_DetTells.calls (k : Nat) (q0 : Int) (q1 : Int) (q2 : Int) (q3 : Int) (q4 : Int) (q5 : Int) (q6 : Int) (q7 : Int) (a1 : Int) (a2 : Int) (a3 : Int) (a4 : Int) (r : Bool) (w : World) (hT : Aside0 (r = true)) (h : mooringslaw08_DetTells.f k q0 q1 q2 q3 q4 q5 q6 q7 a1 a2 a3 a4 = some r) :
  Calls Try.prog 3 #[.agg #[.int .i64 q0, .int .i64 q1, .int .i64 q2, .int .i64 q3, .int .i64 q4, .int .i64 q5, .int .i64 q6, .int .i64 q7], .int .i64 a1, .int .i64 a2, .int .i64 a3, .int .i64 a4] w fun e w' => e = .returned (.bool r) ∧ Below w.heap.size w w' := by
 have hu25 := Try.underlying25
 have hu28 := Try.underlying28
 have HB := Ym (Below.refl w.heap.size w)
 have H : ((mooringslaw08_awake.f).bind fun t198 => ((detmap_Base.f k q0 q1 q2 q3 q4 q5 q6 q7 a1).bind fun bt199 => ((mooringsref08_Base.f k q0 q1 q2 q3 q4 q5 q6 q7 a1).bind fun bt204 => ((detmap_Block.f k q0 q1 q2 q3 q4 q5 q6 q7 a2 a4).bind fun bt209 => ((mooringsref08_Block.f k q0 q1 q2 q3 q4 q5 q6 q7 a2 a4).bind fun bt214 => ((mooringsref08_Fit.f k q0 q1 q2 q3 q4 q5 q6 q7).bind fun t219 => (if t198 = true then (if (!(bt199.1 == bt204.1) || (!(bt199.2.1 == bt204.2.1) || (!(bt199.2.2.1 == bt204.2.2.1)))) = true then (mooringslaw08_DetTells.j0 k a2 a3 true q0 q1 q2 q3 q4 q5 q6 q7) else (if (bt199.2.2.2 != bt204.2.2.2) = true then (mooringslaw08_DetTells.j0 k a2 a3 true q0 q1 q2 q3 q4 q5 q6 q7) else (if (!(bt209.1 == bt214.1) || (!(bt209.2.1 == bt214.2.1) || (!(bt209.2.2.1 == bt214.2.2.1)))) = true then (mooringslaw08_DetTells.j0 k a2 a3 true q0 q1 q2 q3 q4 q5 q6 q7) else (if (bt209.2.2.2 != bt214.2.2.2) = true then (mooringslaw08_DetTells.j0 k a2 a3 true q0 q1 q2 q3 q4 q5 q6 q7) else ((detmap_Fit.f q0 q1 q2 q3 q4 q5 q6 q7).bind fun t220 => (if (t220 != t219) = true then (mooringslaw08_DetTells.j0 k a2 a3 true q0 q1 q2 q3 q4 q5 q6 q7) else ((detmap_Who.f k q0 q1 q2 q3 q4 q5 q6 q7 a2 a3).bind fun t221 => ((mooringsref08_Who.f k q0 q1 q2 q3 q4 q5 q6 q7 a2 a3).bind fun t222 => (mooringslaw08_DetTells.j0 k a2 a3 (t221 != t222) q0 q1 q2 q3 q4 q5 q6 q7))))))))) else (mooringslaw08_DetTells.j0 k a2 a3 true q0 q1 q2 q3 q4 q5 q6 q7)))))))) = some r := h
 clear h
 replace H := Option.bind_eq_some_iff.mp H
 obtain ⟨t198, A60, H⟩ := H
 replace H : ((detmap_Base.f k q0 q1 q2 q3 q4 q5 q6 q7 a1).bind fun bt199 => ((mooringsref08_Base.f k q0 q1 q2 q3 q4 q5 q6 q7 a1).bind fun bt204 => ((detmap_Block.f k q0 q1 q2 q3 q4 q5 q6 q7 a2 a4).bind fun bt209 => ((mooringsref08_Block.f k q0 q1 q2 q3 q4 q5 q6 q7 a2 a4).bind fun bt214 => ((mooringsref08_Fit.f k q0 q1 q2 q3 q4 q5 q6 q7).bind fun t219 => (if t198 = true then (if (!(bt199.1 == bt204.1) || (!(bt199.2.1 == bt204.2.1) || (!(bt199.2.2.1 == bt204.2.2.1)))) = true then (mooringslaw08_DetTells.j0 k a2 a3 true q0 q1 q2 q3 q4 q5 q6 q7) else (if (bt199.2.2.2 != bt204.2.2.2) = true then (mooringslaw08_DetTells.j0 k a2 a3 true q0 q1 q2 q3 q4 q5 q6 q7) else (if (!(bt209.1 == bt214.1) || (!(bt209.2.1 == bt214.2.1) || (!(bt209.2.2.1 == bt214.2.2.1)))) = true then (mooringslaw08_DetTells.j0 k a2 a3 true q0 q1 q2 q3 q4 q5 q6 q7) else (if (bt209.2.2.2 != bt214.2.2.2) = true then (mooringslaw08_DetTells.j0 k a2 a3 true q0 q1 q2 q3 q4 q5 q6 q7) else ((detmap_Fit.f q0 q1 q2 q3 q4 q5 q6 q7).bind fun t220 => (if (t220 != t219) = true then (mooringslaw08_DetTells.j0 k a2 a3 true q0 q1 q2 q3 q4 q5 q6 q7) else ((detmap_Who.f k q0 q1 q2 q3 q4 q5 q6 q7 a2 a3).bind fun t221 => ((mooringsref08_Who.f k q0 q1 q2 q3 q4 q5 q6 q7 a2 a3).bind fun t222 => (mooringslaw08_DetTells.j0 k a2 a3 (t221 != t222) q0 q1 q2 q3 q4 q5 q6 q7))))))))) else (mooringslaw08_DetTells.j0 k a2 a3 true q0 q1 q2 q3 q4 q5 q6 q7))))))) = some r := H
 have A6 := Ym A60
 clear A60
 replace H := Option.bind_eq_some_iff.mp H
 obtain ⟨⟨t199, t200, t201, t202⟩, A70, H⟩ := H
 replace H : ((mooringsref08_Base.f k q0 q1 q2 q3 q4 q5 q6 q7 a1).bind fun bt204 => ((detmap_Block.f k q0 q1 q2 q3 q4 q5 q6 q7 a2 a4).bind fun bt209 => ((mooringsref08_Block.f k q0 q1 q2 q3 q4 q5 q6 q7 a2 a4).bind fun bt214 => ((mooringsref08_Fit.f k q0 q1 q2 q3 q4 q5 q6 q7).bind fun t219 => (if t198 = true then (if (!(t199 == bt204.1) || (!(t200 == bt204.2.1) || (!(t201 == bt204.2.2.1)))) = true then (mooringslaw08_DetTells.j0 k a2 a3 true q0 q1 q2 q3 q4 q5 q6 q7) else (if (t202 != bt204.2.2.2) = true then (mooringslaw08_DetTells.j0 k a2 a3 true q0 q1 q2 q3 q4 q5 q6 q7) else (if (!(bt209.1 == bt214.1) || (!(bt209.2.1 == bt214.2.1) || (!(bt209.2.2.1 == bt214.2.2.1)))) = true then (mooringslaw08_DetTells.j0 k a2 a3 true q0 q1 q2 q3 q4 q5 q6 q7) else (if (bt209.2.2.2 != bt214.2.2.2) = true then (mooringslaw08_DetTells.j0 k a2 a3 true q0 q1 q2 q3 q4 q5 q6 q7) else ((detmap_Fit.f q0 q1 q2 q3 q4 q5 q6 q7).bind fun t220 => (if (t220 != t219) = true then (mooringslaw08_DetTells.j0 k a2 a3 true q0 q1 q2 q3 q4 q5 q6 q7) else ((detmap_Who.f k q0 q1 q2 q3 q4 q5 q6 q7 a2 a3).bind fun t221 => ((mooringsref08_Who.f k q0 q1 q2 q3 q4 q5 q6 q7 a2 a3).bind fun t222 => (mooringslaw08_DetTells.j0 k a2 a3 (t221 != t222) q0 q1 q2 q3 q4 q5 q6 q7))))))))) else (mooringslaw08_DetTells.j0 k a2 a3 true q0 q1 q2 q3 q4 q5 q6 q7)))))) = some r := H
 have A7 := Ym A70
 clear A70
 replace H := Option.bind_eq_some_iff.mp H
 obtain ⟨⟨t204, t205, t206, t207⟩, A80, H⟩ := H
 replace H : ((detmap_Block.f k q0 q1 q2 q3 q4 q5 q6 q7 a2 a4).bind fun bt209 => ((mooringsref08_Block.f k q0 q1 q2 q3 q4 q5 q6 q7 a2 a4).bind fun bt214 => ((mooringsref08_Fit.f k q0 q1 q2 q3 q4 q5 q6 q7).bind fun t219 => (if t198 = true then (if (!(t199 == t204) || (!(t200 == t205) || (!(t201 == t206)))) = true then (mooringslaw08_DetTells.j0 k a2 a3 true q0 q1 q2 q3 q4 q5 q6 q7) else (if (t202 != t207) = true then (mooringslaw08_DetTells.j0 k a2 a3 true q0 q1 q2 q3 q4 q5 q6 q7) else (if (!(bt209.1 == bt214.1) || (!(bt209.2.1 == bt214.2.1) || (!(bt209.2.2.1 == bt214.2.2.1)))) = true then (mooringslaw08_DetTells.j0 k a2 a3 true q0 q1 q2 q3 q4 q5 q6 q7) else (if (bt209.2.2.2 != bt214.2.2.2) = true then (mooringslaw08_DetTells.j0 k a2 a3 true q0 q1 q2 q3 q4 q5 q6 q7) else ((detmap_Fit.f q0 q1 q2 q3 q4 q5 q6 q7).bind fun t220 => (if (t220 != t219) = true then (mooringslaw08_DetTells.j0 k a2 a3 true q0 q1 q2 q3 q4 q5 q6 q7) else ((detmap_Who.f k q0 q1 q2 q3 q4 q5 q6 q7 a2 a3).bind fun t221 => ((mooringsref08_Who.f k q0 q1 q2 q3 q4 q5 q6 q7 a2 a3).bind fun t222 => (mooringslaw08_DetTells.j0 k a2 a3 (t221 != t222) q0 q1 q2 q3 q4 q5 q6 q7))))))))) else (mooringslaw08_DetTells.j0 k a2 a3 true q0 q1 q2 q3 q4 q5 q6 q7))))) = some r := H
 have A8 := Ym A80
 clear A80
 replace H := Option.bind_eq_some_iff.mp H
 obtain ⟨⟨t209, t210, t211, t212⟩, A90, H⟩ := H
 replace H : ((mooringsref08_Block.f k q0 q1 q2 q3 q4 q5 q6 q7 a2 a4).bind fun bt214 => ((mooringsref08_Fit.f k q0 q1 q2 q3 q4 q5 q6 q7).bind fun t219 => (if t198 = true then (if (!(t199 == t204) || (!(t200 == t205) || (!(t201 == t206)))) = true then (mooringslaw08_DetTells.j0 k a2 a3 true q0 q1 q2 q3 q4 q5 q6 q7) else (if (t202 != t207) = true then (mooringslaw08_DetTells.j0 k a2 a3 true q0 q1 q2 q3 q4 q5 q6 q7) else (if (!(t209 == bt214.1) || (!(t210 == bt214.2.1) || (!(t211 == bt214.2.2.1)))) = true then (mooringslaw08_DetTells.j0 k a2 a3 true q0 q1 q2 q3 q4 q5 q6 q7) else (if (t212 != bt214.2.2.2) = true then (mooringslaw08_DetTells.j0 k a2 a3 true q0 q1 q2 q3 q4 q5 q6 q7) else ((detmap_Fit.f q0 q1 q2 q3 q4 q5 q6 q7).bind fun t220 => (if (t220 != t219) = true then (mooringslaw08_DetTells.j0 k a2 a3 true q0 q1 q2 q3 q4 q5 q6 q7) else ((detmap_Who.f k q0 q1 q2 q3 q4 q5 q6 q7 a2 a3).bind fun t221 => ((mooringsref08_Who.f k q0 q1 q2 q3 q4 q5 q6 q7 a2 a3).bind fun t222 => (mooringslaw08_DetTells.j0 k a2 a3 (t221 != t222) q0 q1 q2 q3 q4 q5 q6 q7))))))))) else (mooringslaw08_DetTells.j0 k a2 a3 true q0 q1 q2 q3 q4 q5 q6 q7)))) = some r := H
 have A9 := Ym A90
 clear A90
 replace H := Option.bind_eq_some_iff.mp H
 obtain ⟨⟨t214, t215, t216, t217⟩, A100, H⟩ := H
 replace H : ((mooringsref08_Fit.f k q0 q1 q2 q3 q4 q5 q6 q7).bind fun t219 => (if t198 = true then (if (!(t199 == t204) || (!(t200 == t205) || (!(t201 == t206)))) = true then (mooringslaw08_DetTells.j0 k a2 a3 true q0 q1 q2 q3 q4 q5 q6 q7) else (if (t202 != t207) = true then (mooringslaw08_DetTells.j0 k a2 a3 true q0 q1 q2 q3 q4 q5 q6 q7) else (if (!(t209 == t214) || (!(t210 == t215) || (!(t211 == t216)))) = true then (mooringslaw08_DetTells.j0 k a2 a3 true q0 q1 q2 q3 q4 q5 q6 q7) else (if (t212 != t217) = true then (mooringslaw08_DetTells.j0 k a2 a3 true q0 q1 q2 q3 q4 q5 q6 q7) else ((detmap_Fit.f q0 q1 q2 q3 q4 q5 q6 q7).bind fun t220 => (if (t220 != t219) = true then (mooringslaw08_DetTells.j0 k a2 a3 true q0 q1 q2 q3 q4 q5 q6 q7) else ((detmap_Who.f k q0 q1 q2 q3 q4 q5 q6 q7 a2 a3).bind fun t221 => ((mooringsref08_Who.f k q0 q1 q2 q3 q4 q5 q6 q7 a2 a3).bind fun t222 => (mooringslaw08_DetTells.j0 k a2 a3 (t221 != t222) q0 q1 q2 q3 q4 q5 q6 q7))))))))) else (mooringslaw08_DetTells.j0 k a2 a3 true q0 q1 q2 q3 q4 q5 q6 q7))) = some r := H
 have A10 := Ym A100
 clear A100
 replace H := Option.bind_eq_some_iff.mp H
 obtain ⟨t219, A110, H⟩ := H
 replace H : (if t198 = true then (if (!(t199 == t204) || (!(t200 == t205) || (!(t201 == t206)))) = true then (mooringslaw08_DetTells.j0 k a2 a3 true q0 q1 q2 q3 q4 q5 q6 q7) else (if (t202 != t207) = true then (mooringslaw08_DetTells.j0 k a2 a3 true q0 q1 q2 q3 q4 q5 q6 q7) else (if (!(t209 == t214) || (!(t210 == t215) || (!(t211 == t216)))) = true then (mooringslaw08_DetTells.j0 k a2 a3 true q0 q1 q2 q3 q4 q5 q6 q7) else (if (t212 != t217) = true then (mooringslaw08_DetTells.j0 k a2 a3 true q0 q1 q2 q3 q4 q5 q6 q7) else ((detmap_Fit.f q0 q1 q2 q3 q4 q5 q6 q7).bind fun t220 => (if (t220 != t219) = true then (mooringslaw08_DetTells.j0 k a2 a3 true q0 q1 q2 q3 q4 q5 q6 q7) else ((detmap_Who.f k q0 q1 q2 q3 q4 q5 q6 q7 a2 a3).bind fun t221 => ((mooringsref08_Who.f k q0 q1 q2 q3 q4 q5 q6 q7 a2 a3).bind fun t222 => (mooringslaw08_DetTells.j0 k a2 a3 (t221 != t222) q0 q1 q2 q3 q4 q5 q6 q7))))))))) else (mooringslaw08_DetTells.j0 k a2 a3 true q0 q1 q2 q3 q4 q5 q6 q7)) = some r := H
 have A11 := Ym A110
 clear A110
 have HC12 := Ym H
 clear H
 go_enter Try.func3, Try.ntmps3
 go_upto_region 7 with (first | ((with_reducible refine gate_dst (N := 5) rfl ?_); refine box_event ?hg (N := 5) ?hd (cs := #[.int .i64 q0, .int .i64 q1, .int .i64 q2, .int .i64 q3, .int .i64 q4, .int .i64 q5, .int .i64 q6, .int .i64 q7]) (t := 25) ?hr ?_; (case hd => rfl); (case hg => rfl); (case hr => first | (go_simp; done) | (go_simp; rfl)); intro gb197 hg w13 hbox hb; have n0_ := Ym (Yj (by repeat (first | (with_reducible first | exact HB.out | apply Yc | apply Ya | apply Yb) | exact HB.out)) hb); have n1_ := Ym (hbox); have n2_ := Ym ((by rw [hg]; exact (Yk (by repeat (first | (with_reducible first | exact HB.out | apply Yc | apply Ya | apply Yb) | exact HB.out))) : w.heap.size ≤ gb197)); have n3_ := Ym ((by rw [hg]; exact (Yk (by repeat (first | (with_reducible first | exact HB.out | apply Yc | apply Ya | apply Yb) | exact HB.out))) : w.heap.size ≤ gb197)); clear HB; have HB := n0_; have BK197 := n1_; have GW197 := n2_; have GE197 := n3_; clear n0_ n1_ n2_ n3_; clear hb hbox hg) | ((with_reducible refine gate_callee (f := 10) rfl ?_); refine goesL_ (some 21) rfl rfl Try.func10 (by kernel_rfl) rfl #[] rfl (by (try simp only [List.map_toArray, List.map_cons, List.map_nil]); first | done | rfl | (simp only [List.length_drop, List.length_take]; rfl)) ?_; (with_reducible refine (mooringslaw08_awake.calls  t198 _ A6.out).mono ?_); rintro e w14 ⟨rfl, hb⟩; refine ⟨_, rfl, ?_⟩; have n0_ := Ym (Yl (g := gb197) (o := .cells #[.int .i64 q0, .int .i64 q1, .int .i64 q2, .int .i64 q3, .int .i64 q4, .int .i64 q5, .int .i64 q6, .int .i64 q7] 25 (0, 0)) (by (with_reducible repeat (first | refine Yd ?_ _ | refine Yf ?_ | refine Ye ?_ _)); exact BK197.out) hb); have n1_ := Ym (Yj (by repeat (first | (with_reducible first | exact HB.out | apply Yc | apply Ya | apply Yb | refine Yg ?_ GE197.out) | exact HB.out)) hb); clear BK197; clear HB; have BK197 := n0_; have HB := n1_; clear n0_ n1_; (try clear hb); (try clear hb2); (try clear hk); (try clear hi); have hcz15_0 : w14.cell? ⟨gb197, 0, none⟩ = some (.int .i64 q0) := (Yh BK197.out 0).trans rfl; have hcz15_1 : w14.cell? ⟨gb197, 1, none⟩ = some (.int .i64 q1) := (Yh BK197.out 1).trans rfl; have hcz15_2 : w14.cell? ⟨gb197, 2, none⟩ = some (.int .i64 q2) := (Yh BK197.out 2).trans rfl; have hcz15_3 : w14.cell? ⟨gb197, 3, none⟩ = some (.int .i64 q3) := (Yh BK197.out 3).trans rfl; have hcz15_4 : w14.cell? ⟨gb197, 4, none⟩ = some (.int .i64 q4) := (Yh BK197.out 4).trans rfl; have hcz15_5 : w14.cell? ⟨gb197, 5, none⟩ = some (.int .i64 q5) := (Yh BK197.out 5).trans rfl; have hcz15_6 : w14.cell? ⟨gb197, 6, none⟩ = some (.int .i64 q6) := (Yh BK197.out 6).trans rfl; have hcz15_7 : w14.cell? ⟨gb197, 7, none⟩ = some (.int .i64 q7) := (Yh BK197.out 7).trans rfl; have hfz15_0 := Yi BK197.out 0; have hfz15_1 := Yi BK197.out 1; have hfz15_2 := Yi BK197.out 2; have hfz15_3 := Yi BK197.out 3; have hfz15_4 := Yi BK197.out 4; have hfz15_5 := Yi BK197.out 5; have hfz15_6 := Yi BK197.out 6; have hfz15_7 := Yi BK197.out 7) | ((with_reducible refine gate_callee (f := 11) rfl ?_); refine goesL_ (some 25) rfl rfl Try.func11 (by kernel_rfl) rfl #[.agg #[.int .i64 q0, .int .i64 q1, .int .i64 q2, .int .i64 q3, .int .i64 q4, .int .i64 q5, .int .i64 q6, .int .i64 q7], .int .i64 a1] rfl (by (try simp only [List.map_toArray, List.map_cons, List.map_nil]); first | done | rfl | (simp only [List.length_drop, List.length_take]; rfl)) ?_; (with_reducible refine (detmap_Base.calls k q0 q1 q2 q3 q4 q5 q6 q7 a1 t199 t200 t201 t202 _ A7.out).mono ?_); rintro e w16 ⟨rfl, hb⟩; refine ⟨_, rfl, ?_⟩; have n0_ := Ym (Yl (g := gb197) (o := .cells #[.int .i64 q0, .int .i64 q1, .int .i64 q2, .int .i64 q3, .int .i64 q4, .int .i64 q5, .int .i64 q6, .int .i64 q7] 25 (0, 0)) (by (with_reducible repeat (first | refine Yd ?_ _ | refine Yf ?_ | refine Ye ?_ _)); exact BK197.out) hb); have n1_ := Ym (Yj (by repeat (first | (with_reducible first | exact HB.out | apply Yc | apply Ya | apply Yb | refine Yg ?_ GE197.out) | exact HB.out)) hb); clear BK197; clear HB; have BK197 := n0_; have HB := n1_; clear n0_ n1_; (try clear hb); (try clear hb2); (try clear hk); (try clear hi)) | ((with_reducible refine gate_dst (N := 12) rfl ?_); refine box_event ?hg (N := 12) ?hd (cs := #[.int .i64 0, .int .i64 0, .int .i64 0]) (t := 28) ?hr ?_; (case hd => rfl); (case hg => rfl); (case hr => first | (go_simp; done) | (go_simp; rfl)); intro gb203 hg w17 hbox hb; have n0_ := Ym (Yl (g := gb197) (o := .cells #[.int .i64 q0, .int .i64 q1, .int .i64 q2, .int .i64 q3, .int .i64 q4, .int .i64 q5, .int .i64 q6, .int .i64 q7] 25 (0, 0)) (by (with_reducible repeat (first | refine Yd ?_ _ | refine Yf ?_ | refine Ye ?_ _)); exact BK197.out) hb); have n1_ := Ym (Yj (by repeat (first | (with_reducible first | exact HB.out | apply Yc | apply Ya | apply Yb | refine Yg ?_ GE197.out) | exact HB.out)) hb); have n2_ := Ym (hbox); have n3_ := Ym ((by rw [hg]; exact (Yk (by repeat (first | (with_reducible first | exact HB.out | apply Yc | apply Ya | apply Yb | refine Yg ?_ GE197.out) | exact HB.out))) : w.heap.size ≤ gb203)); have n4_ := Ym ((by rw [hg]; exact (Yk (by repeat (first | (with_reducible first | exact HB.out | apply Yc | apply Ya | apply Yb | refine Yg ?_ GE197.out) | exact HB.out))) : w.heap.size ≤ gb203)); have n5_ := Ym ((by rw [hg]; exact Nat.ne_of_lt (blk_lt (g := gb197) (o := .cells #[.int .i64 q0, .int .i64 q1, .int .i64 q2, .int .i64 q3, .int .i64 q4, .int .i64 q5, .int .i64 q6, .int .i64 q7] 25 (0, 0)) (by (with_reducible repeat (first | refine Yd ?_ _ | refine Yf ?_ | refine Ye ?_ _)); exact BK197.out)) : gb197 ≠ gb203)); have n6_ := Ym ((by rw [hg]; exact Nat.ne_of_gt (blk_lt (g := gb197) (o := .cells #[.int .i64 q0, .int .i64 q1, .int .i64 q2, .int .i64 q3, .int .i64 q4, .int .i64 q5, .int .i64 q6, .int .i64 q7] 25 (0, 0)) (by (with_reducible repeat (first | refine Yd ?_ _ | refine Yf ?_ | refine Ye ?_ _)); exact BK197.out)) : gb203 ≠ gb197)); clear BK197; clear HB; have BK197 := n0_; have HB := n1_; have BK203 := n2_; have GW203 := n3_; have GE203 := n4_; have NB197_203 := n5_; have NB203_197 := n6_; clear n0_ n1_ n2_ n3_ n4_ n5_ n6_; clear hb hbox hg; have hnb18 := NB203_197.out; have hnc18 := NB197_203.out; have hcz19_0 : w17.cell? ⟨gb203, 0, none⟩ = some (.int .i64 0) := (Yh BK203.out 0).trans rfl; have hcz19_1 : w17.cell? ⟨gb203, 1, none⟩ = some (.int .i64 0) := (Yh BK203.out 1).trans rfl; have hcz19_2 : w17.cell? ⟨gb203, 2, none⟩ = some (.int .i64 0) := (Yh BK203.out 2).trans rfl; have hfz19_0 := Yi BK203.out 0; have hfz19_1 := Yi BK203.out 1; have hfz19_2 := Yi BK203.out 2; have hcz20_0 : w17.cell? ⟨gb197, 0, none⟩ = some (.int .i64 q0) := (Yh BK197.out 0).trans rfl; have hcz20_1 : w17.cell? ⟨gb197, 1, none⟩ = some (.int .i64 q1) := (Yh BK197.out 1).trans rfl; have hcz20_2 : w17.cell? ⟨gb197, 2, none⟩ = some (.int .i64 q2) := (Yh BK197.out 2).trans rfl; have hcz20_3 : w17.cell? ⟨gb197, 3, none⟩ = some (.int .i64 q3) := (Yh BK197.out 3).trans rfl; have hcz20_4 : w17.cell? ⟨gb197, 4, none⟩ = some (.int .i64 q4) := (Yh BK197.out 4).trans rfl; have hcz20_5 : w17.cell? ⟨gb197, 5, none⟩ = some (.int .i64 q5) := (Yh BK197.out 5).trans rfl; have hcz20_6 : w17.cell? ⟨gb197, 6, none⟩ = some (.int .i64 q6) := (Yh BK197.out 6).trans rfl; have hcz20_7 : w17.cell? ⟨gb197, 7, none⟩ = some (.int .i64 q7) := (Yh BK197.out 7).trans rfl; have hfz20_0 := Yi BK197.out 0; have hfz20_1 := Yi BK197.out 1; have hfz20_2 := Yi BK197.out 2; have hfz20_3 := Yi BK197.out 3; have hfz20_4 := Yi BK197.out 4; have hfz20_5 := Yi BK197.out 5; have hfz20_6 := Yi BK197.out 6; have hfz20_7 := Yi BK197.out 7) | ((with_reducible refine gate_callee (f := 12) rfl ?_); refine goesL_ (some 31) rfl rfl Try.func12 (by kernel_rfl) rfl #[.agg #[.int .i64 q0, .int .i64 q1, .int .i64 q2, .int .i64 q3, .int .i64 q4, .int .i64 q5, .int .i64 q6, .int .i64 q7], .int .i64 a1] rfl (by (try simp only [List.map_toArray, List.map_cons, List.map_nil]); first | done | rfl | (simp only [List.length_drop, List.length_take]; rfl)) ?_; (with_reducible refine (mooringsref08_Base.calls k q0 q1 q2 q3 q4 q5 q6 q7 a1 t204 t205 t206 t207 _ A8.out).mono ?_); rintro e w21 ⟨rfl, hb⟩; refine ⟨_, rfl, ?_⟩; have n0_ := Ym (Yl (g := gb197) (o := .cells #[.int .i64 q0, .int .i64 q1, .int .i64 q2, .int .i64 q3, .int .i64 q4, .int .i64 q5, .int .i64 q6, .int .i64 q7] 25 (0, 0)) (by (with_reducible repeat (first | refine Yd ?_ _ | refine Yf ?_ | refine Ye ?_ _)); refine blk_far ?_ NB197_203.out _; (with_reducible repeat (first | refine Yd ?_ _ | refine Yf ?_ | refine Ye ?_ _)); refine blk_far ?_ NB197_203.out _; (with_reducible repeat (first | refine Yd ?_ _ | refine Yf ?_ | refine Ye ?_ _)); refine blk_far ?_ NB197_203.out _; (with_reducible repeat (first | refine Yd ?_ _ | refine Yf ?_ | refine Ye ?_ _)); exact BK197.out) hb); have n1_ := Ym (Yl (g := gb203) (o := .cells #[.int .i64 t199, .int .i64 t200, .int .i64 t201] 28 (0, 0)) (by (with_reducible repeat (first | refine Yd ?_ _ | refine Yf ?_ | refine Ye ?_ _)); refine blk_put (cs := #[.int .i64 t199, .int .i64 t200, .int .i64 0]) ?_ 2 _ rfl; (with_reducible repeat (first | refine Yd ?_ _ | refine Yf ?_ | refine Ye ?_ _)); refine blk_put (cs := #[.int .i64 t199, .int .i64 0, .int .i64 0]) ?_ 1 _ rfl; (with_reducible repeat (first | refine Yd ?_ _ | refine Yf ?_ | refine Ye ?_ _)); refine blk_put (cs := #[.int .i64 0, .int .i64 0, .int .i64 0]) ?_ 0 _ rfl; (with_reducible repeat (first | refine Yd ?_ _ | refine Yf ?_ | refine Ye ?_ _)); exact BK203.out) hb); have n2_ := Ym (Yj (by repeat (first | (with_reducible first | exact HB.out | apply Yc | apply Ya | apply Yb | refine Yg ?_ GE197.out | refine Yg ?_ GE203.out) | exact HB.out)) hb); clear BK197; clear BK203; clear HB; have BK197 := n0_; have BK203 := n1_; have HB := n2_; clear n0_ n1_ n2_; (try clear hb); (try clear hb2); (try clear hk); (try clear hi)) | ((with_reducible refine gate_dst (N := 14) rfl ?_); refine box_event ?hg (N := 14) ?hd (cs := #[.int .i64 0, .int .i64 0, .int .i64 0]) (t := 28) ?hr ?_; (case hd => rfl); (case hg => rfl); (case hr => first | (go_simp; done) | (go_simp; rfl)); intro gb208 hg w22 hbox hb; have n0_ := Ym (Yl (g := gb197) (o := .cells #[.int .i64 q0, .int .i64 q1, .int .i64 q2, .int .i64 q3, .int .i64 q4, .int .i64 q5, .int .i64 q6, .int .i64 q7] 25 (0, 0)) (by (with_reducible repeat (first | refine Yd ?_ _ | refine Yf ?_ | refine Ye ?_ _)); exact BK197.out) hb); have n1_ := Ym (Yl (g := gb203) (o := .cells #[.int .i64 t199, .int .i64 t200, .int .i64 t201] 28 (0, 0)) (by (with_reducible repeat (first | refine Yd ?_ _ | refine Yf ?_ | refine Ye ?_ _)); exact BK203.out) hb); have n2_ := Ym (Yj (by repeat (first | (with_reducible first | exact HB.out | apply Yc | apply Ya | apply Yb | refine Yg ?_ GE197.out | refine Yg ?_ GE203.out) | exact HB.out)) hb); have n3_ := Ym (hbox); have n4_ := Ym ((by rw [hg]; exact (Yk (by repeat (first | (with_reducible first | exact HB.out | apply Yc | apply Ya | apply Yb | refine Yg ?_ GE197.out | refine Yg ?_ GE203.out) | exact HB.out))) : w.heap.size ≤ gb208)); have n5_ := Ym ((by rw [hg]; exact (Yk (by repeat (first | (with_reducible first | exact HB.out | apply Yc | apply Ya | apply Yb | refine Yg ?_ GE197.out | refine Yg ?_ GE203.out) | exact HB.out))) : w.heap.size ≤ gb208)); have n6_ := Ym ((by rw [hg]; exact Nat.ne_of_lt (blk_lt (g := gb197) (o := .cells #[.int .i64 q0, .int .i64 q1, .int .i64 q2, .int .i64 q3, .int .i64 q4, .int .i64 q5, .int .i64 q6, .int .i64 q7] 25 (0, 0)) (by (with_reducible repeat (first | refine Yd ?_ _ | refine Yf ?_ | refine Ye ?_ _)); exact BK197.out)) : gb197 ≠ gb208)); have n7_ := Ym ((by rw [hg]; exact Nat.ne_of_gt (blk_lt (g := gb197) (o := .cells #[.int .i64 q0, .int .i64 q1, .int .i64 q2, .int .i64 q3, .int .i64 q4, .int .i64 q5, .int .i64 q6, .int .i64 q7] 25 (0, 0)) (by (with_reducible repeat (first | refine Yd ?_ _ | refine Yf ?_ | refine Ye ?_ _)); exact BK197.out)) : gb208 ≠ gb197)); have n8_ := Ym ((by rw [hg]; exact Nat.ne_of_lt (blk_lt (g := gb203) (o := .cells #[.int .i64 t199, .int .i64 t200, .int .i64 t201] 28 (0, 0)) (by (with_reducible repeat (first | refine Yd ?_ _ | refine Yf ?_ | refine Ye ?_ _)); exact BK203.out)) : gb203 ≠ gb208)); have n9_ := Ym ((by rw [hg]; exact Nat.ne_of_gt (blk_lt (g := gb203) (o := .cells #[.int .i64 t199, .int .i64 t200, .int .i64 t201] 28 (0, 0)) (by (with_reducible repeat (first | refine Yd ?_ _ | refine Yf ?_ | refine Ye ?_ _)); exact BK203.out)) : gb208 ≠ gb203)); clear BK197; clear BK203; clear HB; have BK197 := n0_; have BK203 := n1_; have HB := n2_; have BK208 := n3_; have GW208 := n4_; have GE208 := n5_; have NB197_208 := n6_; have NB208_197 := n7_; have NB203_208 := n8_; have NB208_203 := n9_; clear n0_ n1_ n2_ n3_ n4_ n5_ n6_ n7_ n8_ n9_; clear hb hbox hg; have hnb23 := NB208_197.out; have hnc23 := NB197_208.out; have hnb24 := NB208_203.out; have hnc24 := NB203_208.out; have hcz25_0 : w22.cell? ⟨gb208, 0, none⟩ = some (.int .i64 0) := (Yh BK208.out 0).trans rfl; have hcz25_1 : w22.cell? ⟨gb208, 1, none⟩ = some (.int .i64 0) := (Yh BK208.out 1).trans rfl; have hcz25_2 : w22.cell? ⟨gb208, 2, none⟩ = some (.int .i64 0) := (Yh BK208.out 2).trans rfl; have hfz25_0 := Yi BK208.out 0; have hfz25_1 := Yi BK208.out 1; have hfz25_2 := Yi BK208.out 2; have hcz26_0 : w22.cell? ⟨gb197, 0, none⟩ = some (.int .i64 q0) := (Yh BK197.out 0).trans rfl; have hcz26_1 : w22.cell? ⟨gb197, 1, none⟩ = some (.int .i64 q1) := (Yh BK197.out 1).trans rfl; have hcz26_2 : w22.cell? ⟨gb197, 2, none⟩ = some (.int .i64 q2) := (Yh BK197.out 2).trans rfl; have hcz26_3 : w22.cell? ⟨gb197, 3, none⟩ = some (.int .i64 q3) := (Yh BK197.out 3).trans rfl; have hcz26_4 : w22.cell? ⟨gb197, 4, none⟩ = some (.int .i64 q4) := (Yh BK197.out 4).trans rfl; have hcz26_5 : w22.cell? ⟨gb197, 5, none⟩ = some (.int .i64 q5) := (Yh BK197.out 5).trans rfl; have hcz26_6 : w22.cell? ⟨gb197, 6, none⟩ = some (.int .i64 q6) := (Yh BK197.out 6).trans rfl; have hcz26_7 : w22.cell? ⟨gb197, 7, none⟩ = some (.int .i64 q7) := (Yh BK197.out 7).trans rfl; have hfz26_0 := Yi BK197.out 0; have hfz26_1 := Yi BK197.out 1; have hfz26_2 := Yi BK197.out 2; have hfz26_3 := Yi BK197.out 3; have hfz26_4 := Yi BK197.out 4; have hfz26_5 := Yi BK197.out 5; have hfz26_6 := Yi BK197.out 6; have hfz26_7 := Yi BK197.out 7) | ((with_reducible refine gate_callee (f := 13) rfl ?_); refine goesL_ (some 38) rfl rfl Try.func13 (by kernel_rfl) rfl #[.agg #[.int .i64 q0, .int .i64 q1, .int .i64 q2, .int .i64 q3, .int .i64 q4, .int .i64 q5, .int .i64 q6, .int .i64 q7], .int .i64 a2, .int .i64 a4] rfl (by (try simp only [List.map_toArray, List.map_cons, List.map_nil]); first | done | rfl | (simp only [List.length_drop, List.length_take]; rfl)) ?_; (with_reducible refine (detmap_Block.calls k q0 q1 q2 q3 q4 q5 q6 q7 a2 a4 t209 t210 t211 t212 _ A9.out).mono ?_); rintro e w27 ⟨rfl, hb⟩; refine ⟨_, rfl, ?_⟩; have n0_ := Ym (Yl (g := gb197) (o := .cells #[.int .i64 q0, .int .i64 q1, .int .i64 q2, .int .i64 q3, .int .i64 q4, .int .i64 q5, .int .i64 q6, .int .i64 q7] 25 (0, 0)) (by (with_reducible repeat (first | refine Yd ?_ _ | refine Yf ?_ | refine Ye ?_ _)); refine blk_far ?_ NB197_208.out _; (with_reducible repeat (first | refine Yd ?_ _ | refine Yf ?_ | refine Ye ?_ _)); refine blk_far ?_ NB197_208.out _; (with_reducible repeat (first | refine Yd ?_ _ | refine Yf ?_ | refine Ye ?_ _)); refine blk_far ?_ NB197_208.out _; (with_reducible repeat (first | refine Yd ?_ _ | refine Yf ?_ | refine Ye ?_ _)); exact BK197.out) hb); have n1_ := Ym (Yl (g := gb203) (o := .cells #[.int .i64 t199, .int .i64 t200, .int .i64 t201] 28 (0, 0)) (by (with_reducible repeat (first | refine Yd ?_ _ | refine Yf ?_ | refine Ye ?_ _)); refine blk_far ?_ NB203_208.out _; (with_reducible repeat (first | refine Yd ?_ _ | refine Yf ?_ | refine Ye ?_ _)); refine blk_far ?_ NB203_208.out _; (with_reducible repeat (first | refine Yd ?_ _ | refine Yf ?_ | refine Ye ?_ _)); refine blk_far ?_ NB203_208.out _; (with_reducible repeat (first | refine Yd ?_ _ | refine Yf ?_ | refine Ye ?_ _)); exact BK203.out) hb); have n2_ := Ym (Yl (g := gb208) (o := .cells #[.int .i64 t204, .int .i64 t205, .int .i64 t206] 28 (0, 0)) (by (with_reducible repeat (first | refine Yd ?_ _ | refine Yf ?_ | refine Ye ?_ _)); refine blk_put (cs := #[.int .i64 t204, .int .i64 t205, .int .i64 0]) ?_ 2 _ rfl; (with_reducible repeat (first | refine Yd ?_ _ | refine Yf ?_ | refine Ye ?_ _)); refine blk_put (cs := #[.int .i64 t204, .int .i64 0, .int .i64 0]) ?_ 1 _ rfl; (with_reducible repeat (first | refine Yd ?_ _ | refine Yf ?_ | refine Ye ?_ _)); refine blk_put (cs := #[.int .i64 0, .int .i64 0, .int .i64 0]) ?_ 0 _ rfl; (with_reducible repeat (first | refine Yd ?_ _ | refine Yf ?_ | refine Ye ?_ _)); exact BK208.out) hb); have n3_ := Ym (Yj (by repeat (first | (with_reducible first | exact HB.out | apply Yc | apply Ya | apply Yb | refine Yg ?_ GE197.out | refine Yg ?_ GE203.out | refine Yg ?_ GE208.out) | exact HB.out)) hb); clear BK197; clear BK203; clear BK208; clear HB; have BK197 := n0_; have BK203 := n1_; have BK208 := n2_; have HB := n3_; clear n0_ n1_ n2_ n3_; (try clear hb); (try clear hb2); (try clear hk); (try clear hi)) | ((with_reducible refine gate_dst (N := 16) rfl ?_); refine box_event ?hg (N := 16) ?hd (cs := #[.int .i64 0, .int .i64 0, .int .i64 0]) (t := 28) ?hr ?_; (case hd => rfl); (case hg => rfl); (case hr => first | (go_simp; done) | (go_simp; rfl)); intro gb213 hg w28 hbox hb; have n0_ := Ym (Yl (g := gb197) (o := .cells #[.int .i64 q0, .int .i64 q1, .int .i64 q2, .int .i64 q3, .int .i64 q4, .int .i64 q5, .int .i64 q6, .int .i64 q7] 25 (0, 0)) (by (with_reducible repeat (first | refine Yd ?_ _ | refine Yf ?_ | refine Ye ?_ _)); exact BK197.out) hb); have n1_ := Ym (Yl (g := gb203) (o := .cells #[.int .i64 t199, .int .i64 t200, .int .i64 t201] 28 (0, 0)) (by (with_reducible repeat (first | refine Yd ?_ _ | refine Yf ?_ | refine Ye ?_ _)); exact BK203.out) hb); have n2_ := Ym (Yl (g := gb208) (o := .cells #[.int .i64 t204, .int .i64 t205, .int .i64 t206] 28 (0, 0)) (by (with_reducible repeat (first | refine Yd ?_ _ | refine Yf ?_ | refine Ye ?_ _)); exact BK208.out) hb); have n3_ := Ym (Yj (by repeat (first | (with_reducible first | exact HB.out | apply Yc | apply Ya | apply Yb | refine Yg ?_ GE197.out | refine Yg ?_ GE203.out | refine Yg ?_ GE208.out) | exact HB.out)) hb); have n4_ := Ym (hbox); have n5_ := Ym ((by rw [hg]; exact (Yk (by repeat (first | (with_reducible first | exact HB.out | apply Yc | apply Ya | apply Yb | refine Yg ?_ GE197.out | refine Yg ?_ GE203.out | refine Yg ?_ GE208.out) | exact HB.out))) : w.heap.size ≤ gb213)); have n6_ := Ym ((by rw [hg]; exact (Yk (by repeat (first | (with_reducible first | exact HB.out | apply Yc | apply Ya | apply Yb | refine Yg ?_ GE197.out | refine Yg ?_ GE203.out | refine Yg ?_ GE208.out) | exact HB.out))) : w.heap.size ≤ gb213)); have n7_ := Ym ((by rw [hg]; exact Nat.ne_of_lt (blk_lt (g := gb197) (o := .cells #[.int .i64 q0, .int .i64 q1, .int .i64 q2, .int .i64 q3, .int .i64 q4, .int .i64 q5, .int .i64 q6, .int .i64 q7] 25 (0, 0)) (by (with_reducible repeat (first | refine Yd ?_ _ | refine Yf ?_ | refine Ye ?_ _)); exact BK197.out)) : gb197 ≠ gb213)); have n8_ := Ym ((by rw [hg]; exact Nat.ne_of_gt (blk_lt (g := gb197) (o := .cells #[.int .i64 q0, .int .i64 q1, .int .i64 q2, .int .i64 q3, .int .i64 q4, .int .i64 q5, .int .i64 q6, .int .i64 q7] 25 (0, 0)) (by (with_reducible repeat (first | refine Yd ?_ _ | refine Yf ?_ | refine Ye ?_ _)); exact BK197.out)) : gb213 ≠ gb197)); have n9_ := Ym ((by rw [hg]; exact Nat.ne_of_lt (blk_lt (g := gb203) (o := .cells #[.int .i64 t199, .int .i64 t200, .int .i64 t201] 28 (0, 0)) (by (with_reducible repeat (first | refine Yd ?_ _ | refine Yf ?_ | refine Ye ?_ _)); exact BK203.out)) : gb203 ≠ gb213)); have n10_ := Ym ((by rw [hg]; exact Nat.ne_of_gt (blk_lt (g := gb203) (o := .cells #[.int .i64 t199, .int .i64 t200, .int .i64 t201] 28 (0, 0)) (by (with_reducible repeat (first | refine Yd ?_ _ | refine Yf ?_ | refine Ye ?_ _)); exact BK203.out)) : gb213 ≠ gb203)); have n11_ := Ym ((by rw [hg]; exact Nat.ne_of_lt (blk_lt (g := gb208) (o := .cells #[.int .i64 t204, .int .i64 t205, .int .i64 t206] 28 (0, 0)) (by (with_reducible repeat (first | refine Yd ?_ _ | refine Yf ?_ | refine Ye ?_ _)); exact BK208.out)) : gb208 ≠ gb213)); have n12_ := Ym ((by rw [hg]; exact Nat.ne_of_gt (blk_lt (g := gb208) (o := .cells #[.int .i64 t204, .int .i64 t205, .int .i64 t206] 28 (0, 0)) (by (with_reducible repeat (first | refine Yd ?_ _ | refine Yf ?_ | refine Ye ?_ _)); exact BK208.out)) : gb213 ≠ gb208)); clear BK197; clear BK203; clear BK208; clear HB; have BK197 := n0_; have BK203 := n1_; have BK208 := n2_; have HB := n3_; have BK213 := n4_; have GW213 := n5_; have GE213 := n6_; have NB197_213 := n7_; have NB213_197 := n8_; have NB203_213 := n9_; have NB213_203 := n10_; have NB208_213 := n11_; have NB213_208 := n12_; clear n0_ n1_ n2_ n3_ n4_ n5_ n6_ n7_ n8_ n9_ n10_ n11_ n12_; clear hb hbox hg; have hnb29 := NB213_197.out; have hnc29 := NB197_213.out; have hnb30 := NB213_203.out; have hnc30 := NB203_213.out; have hnb31 := NB213_208.out; have hnc31 := NB208_213.out; have hcz32_0 : w28.cell? ⟨gb213, 0, none⟩ = some (.int .i64 0) := (Yh BK213.out 0).trans rfl; have hcz32_1 : w28.cell? ⟨gb213, 1, none⟩ = some (.int .i64 0) := (Yh BK213.out 1).trans rfl; have hcz32_2 : w28.cell? ⟨gb213, 2, none⟩ = some (.int .i64 0) := (Yh BK213.out 2).trans rfl; have hfz32_0 := Yi BK213.out 0; have hfz32_1 := Yi BK213.out 1; have hfz32_2 := Yi BK213.out 2; have hcz33_0 : w28.cell? ⟨gb197, 0, none⟩ = some (.int .i64 q0) := (Yh BK197.out 0).trans rfl; have hcz33_1 : w28.cell? ⟨gb197, 1, none⟩ = some (.int .i64 q1) := (Yh BK197.out 1).trans rfl; have hcz33_2 : w28.cell? ⟨gb197, 2, none⟩ = some (.int .i64 q2) := (Yh BK197.out 2).trans rfl; have hcz33_3 : w28.cell? ⟨gb197, 3, none⟩ = some (.int .i64 q3) := (Yh BK197.out 3).trans rfl; have hcz33_4 : w28.cell? ⟨gb197, 4, none⟩ = some (.int .i64 q4) := (Yh BK197.out 4).trans rfl; have hcz33_5 : w28.cell? ⟨gb197, 5, none⟩ = some (.int .i64 q5) := (Yh BK197.out 5).trans rfl; have hcz33_6 : w28.cell? ⟨gb197, 6, none⟩ = some (.int .i64 q6) := (Yh BK197.out 6).trans rfl; have hcz33_7 : w28.cell? ⟨gb197, 7, none⟩ = some (.int .i64 q7) := (Yh BK197.out 7).trans rfl; have hfz33_0 := Yi BK197.out 0; have hfz33_1 := Yi BK197.out 1; have hfz33_2 := Yi BK197.out 2; have hfz33_3 := Yi BK197.out 3; have hfz33_4 := Yi BK197.out 4; have hfz33_5 := Yi BK197.out 5; have hfz33_6 := Yi BK197.out 6; have hfz33_7 := Yi BK197.out 7) | ((with_reducible refine gate_callee (f := 14) rfl ?_); refine goesL_ (some 45) rfl rfl Try.func14 (by kernel_rfl) rfl #[.agg #[.int .i64 q0, .int .i64 q1, .int .i64 q2, .int .i64 q3, .int .i64 q4, .int .i64 q5, .int .i64 q6, .int .i64 q7], .int .i64 a2, .int .i64 a4] rfl (by (try simp only [List.map_toArray, List.map_cons, List.map_nil]); first | done | rfl | (simp only [List.length_drop, List.length_take]; rfl)) ?_; (with_reducible refine (mooringsref08_Block.calls k q0 q1 q2 q3 q4 q5 q6 q7 a2 a4 t214 t215 t216 t217 _ A10.out).mono ?_); rintro e w34 ⟨rfl, hb⟩; refine ⟨_, rfl, ?_⟩; have n0_ := Ym (Yl (g := gb197) (o := .cells #[.int .i64 q0, .int .i64 q1, .int .i64 q2, .int .i64 q3, .int .i64 q4, .int .i64 q5, .int .i64 q6, .int .i64 q7] 25 (0, 0)) (by (with_reducible repeat (first | refine Yd ?_ _ | refine Yf ?_ | refine Ye ?_ _)); refine blk_far ?_ NB197_213.out _; (with_reducible repeat (first | refine Yd ?_ _ | refine Yf ?_ | refine Ye ?_ _)); refine blk_far ?_ NB197_213.out _; (with_reducible repeat (first | refine Yd ?_ _ | refine Yf ?_ | refine Ye ?_ _)); refine blk_far ?_ NB197_213.out _; (with_reducible repeat (first | refine Yd ?_ _ | refine Yf ?_ | refine Ye ?_ _)); exact BK197.out) hb); have n1_ := Ym (Yl (g := gb203) (o := .cells #[.int .i64 t199, .int .i64 t200, .int .i64 t201] 28 (0, 0)) (by (with_reducible repeat (first | refine Yd ?_ _ | refine Yf ?_ | refine Ye ?_ _)); refine blk_far ?_ NB203_213.out _; (with_reducible repeat (first | refine Yd ?_ _ | refine Yf ?_ | refine Ye ?_ _)); refine blk_far ?_ NB203_213.out _; (with_reducible repeat (first | refine Yd ?_ _ | refine Yf ?_ | refine Ye ?_ _)); refine blk_far ?_ NB203_213.out _; (with_reducible repeat (first | refine Yd ?_ _ | refine Yf ?_ | refine Ye ?_ _)); exact BK203.out) hb); have n2_ := Ym (Yl (g := gb208) (o := .cells #[.int .i64 t204, .int .i64 t205, .int .i64 t206] 28 (0, 0)) (by (with_reducible repeat (first | refine Yd ?_ _ | refine Yf ?_ | refine Ye ?_ _)); refine blk_far ?_ NB208_213.out _; (with_reducible repeat (first | refine Yd ?_ _ | refine Yf ?_ | refine Ye ?_ _)); refine blk_far ?_ NB208_213.out _; (with_reducible repeat (first | refine Yd ?_ _ | refine Yf ?_ | refine Ye ?_ _)); refine blk_far ?_ NB208_213.out _; (with_reducible repeat (first | refine Yd ?_ _ | refine Yf ?_ | refine Ye ?_ _)); exact BK208.out) hb); have n3_ := Ym (Yl (g := gb213) (o := .cells #[.int .i64 t209, .int .i64 t210, .int .i64 t211] 28 (0, 0)) (by (with_reducible repeat (first | refine Yd ?_ _ | refine Yf ?_ | refine Ye ?_ _)); refine blk_put (cs := #[.int .i64 t209, .int .i64 t210, .int .i64 0]) ?_ 2 _ rfl; (with_reducible repeat (first | refine Yd ?_ _ | refine Yf ?_ | refine Ye ?_ _)); refine blk_put (cs := #[.int .i64 t209, .int .i64 0, .int .i64 0]) ?_ 1 _ rfl; (with_reducible repeat (first | refine Yd ?_ _ | refine Yf ?_ | refine Ye ?_ _)); refine blk_put (cs := #[.int .i64 0, .int .i64 0, .int .i64 0]) ?_ 0 _ rfl; (with_reducible repeat (first | refine Yd ?_ _ | refine Yf ?_ | refine Ye ?_ _)); exact BK213.out) hb); have n4_ := Ym (Yj (by repeat (first | (with_reducible first | exact HB.out | apply Yc | apply Ya | apply Yb | refine Yg ?_ GE197.out | refine Yg ?_ GE203.out | refine Yg ?_ GE208.out | refine Yg ?_ GE213.out) | exact HB.out)) hb); clear BK197; clear BK203; clear BK208; clear BK213; clear HB; have BK197 := n0_; have BK203 := n1_; have BK208 := n2_; have BK213 := n3_; have HB := n4_; clear n0_ n1_ n2_ n3_ n4_; (try clear hb); (try clear hb2); (try clear hk); (try clear hi)) | ((with_reducible refine gate_dst (N := 18) rfl ?_); refine box_event ?hg (N := 18) ?hd (cs := #[.int .i64 0, .int .i64 0, .int .i64 0]) (t := 28) ?hr ?_; (case hd => rfl); (case hg => rfl); (case hr => first | (go_simp; done) | (go_simp; rfl)); intro gb218 hg w35 hbox hb; have n0_ := Ym (Yl (g := gb197) (o := .cells #[.int .i64 q0, .int .i64 q1, .int .i64 q2, .int .i64 q3, .int .i64 q4, .int .i64 q5, .int .i64 q6, .int .i64 q7] 25 (0, 0)) (by (with_reducible repeat (first | refine Yd ?_ _ | refine Yf ?_ | refine Ye ?_ _)); exact BK197.out) hb); have n1_ := Ym (Yl (g := gb203) (o := .cells #[.int .i64 t199, .int .i64 t200, .int .i64 t201] 28 (0, 0)) (by (with_reducible repeat (first | refine Yd ?_ _ | refine Yf ?_ | refine Ye ?_ _)); exact BK203.out) hb); have n2_ := Ym (Yl (g := gb208) (o := .cells #[.int .i64 t204, .int .i64 t205, .int .i64 t206] 28 (0, 0)) (by (with_reducible repeat (first | refine Yd ?_ _ | refine Yf ?_ | refine Ye ?_ _)); exact BK208.out) hb); have n3_ := Ym (Yl (g := gb213) (o := .cells #[.int .i64 t209, .int .i64 t210, .int .i64 t211] 28 (0, 0)) (by (with_reducible repeat (first | refine Yd ?_ _ | refine Yf ?_ | refine Ye ?_ _)); exact BK213.out) hb); have n4_ := Ym (Yj (by repeat (first | (with_reducible first | exact HB.out | apply Yc | apply Ya | apply Yb | refine Yg ?_ GE197.out | refine Yg ?_ GE203.out | refine Yg ?_ GE208.out | refine Yg ?_ GE213.out) | exact HB.out)) hb); have n5_ := Ym (hbox); have n6_ := Ym ((by rw [hg]; exact (Yk (by repeat (first | (with_reducible first | exact HB.out | apply Yc | apply Ya | apply Yb | refine Yg ?_ GE197.out | refine Yg ?_ GE203.out | refine Yg ?_ GE208.out | refine Yg ?_ GE213.out) | exact HB.out))) : w.heap.size ≤ gb218)); have n7_ := Ym ((by rw [hg]; exact (Yk (by repeat (first | (with_reducible first | exact HB.out | apply Yc | apply Ya | apply Yb | refine Yg ?_ GE197.out | refine Yg ?_ GE203.out | refine Yg ?_ GE208.out | refine Yg ?_ GE213.out) | exact HB.out))) : w.heap.size ≤ gb218)); have n8_ := Ym ((by rw [hg]; exact Nat.ne_of_lt (blk_lt (g := gb197) (o := .cells #[.int .i64 q0, .int .i64 q1, .int .i64 q2, .int .i64 q3, .int .i64 q4, .int .i64 q5, .int .i64 q6, .int .i64 q7] 25 (0, 0)) (by (with_reducible repeat (first | refine Yd ?_ _ | refine Yf ?_ | refine Ye ?_ _)); exact BK197.out)) : gb197 ≠ gb218)); have n9_ := Ym ((by rw [hg]; exact Nat.ne_of_gt (blk_lt (g := gb197) (o := .cells #[.int .i64 q0, .int .i64 q1, .int .i64 q2, .int .i64 q3, .int .i64 q4, .int .i64 q5, .int .i64 q6, .int .i64 q7] 25 (0, 0)) (by (with_reducible repeat (first | refine Yd ?_ _ | refine Yf ?_ | refine Ye ?_ _)); exact BK197.out)) : gb218 ≠ gb197)); have n10_ := Ym ((by rw [hg]; exact Nat.ne_of_lt (blk_lt (g := gb203) (o := .cells #[.int .i64 t199, .int .i64 t200, .int .i64 t201] 28 (0, 0)) (by (with_reducible repeat (first | refine Yd ?_ _ | refine Yf ?_ | refine Ye ?_ _)); exact BK203.out)) : gb203 ≠ gb218)); have n11_ := Ym ((by rw [hg]; exact Nat.ne_of_gt (blk_lt (g := gb203) (o := .cells #[.int .i64 t199, .int .i64 t200, .int .i64 t201] 28 (0, 0)) (by (with_reducible repeat (first | refine Yd ?_ _ | refine Yf ?_ | refine Ye ?_ _)); exact BK203.out)) : gb218 ≠ gb203)); have n12_ := Ym ((by rw [hg]; exact Nat.ne_of_lt (blk_lt (g := gb208) (o := .cells #[.int .i64 t204, .int .i64 t205, .int .i64 t206] 28 (0, 0)) (by (with_reducible repeat (first | refine Yd ?_ _ | refine Yf ?_ | refine Ye ?_ _)); exact BK208.out)) : gb208 ≠ gb218)); have n13_ := Ym ((by rw [hg]; exact Nat.ne_of_gt (blk_lt (g := gb208) (o := .cells #[.int .i64 t204, .int .i64 t205, .int .i64 t206] 28 (0, 0)) (by (with_reducible repeat (first | refine Yd ?_ _ | refine Yf ?_ | refine Ye ?_ _)); exact BK208.out)) : gb218 ≠ gb208)); have n14_ := Ym ((by rw [hg]; exact Nat.ne_of_lt (blk_lt (g := gb213) (o := .cells #[.int .i64 t209, .int .i64 t210, .int .i64 t211] 28 (0, 0)) (by (with_reducible repeat (first | refine Yd ?_ _ | refine Yf ?_ | refine Ye ?_ _)); exact BK213.out)) : gb213 ≠ gb218)); have n15_ := Ym ((by rw [hg]; exact Nat.ne_of_gt (blk_lt (g := gb213) (o := .cells #[.int .i64 t209, .int .i64 t210, .int .i64 t211] 28 (0, 0)) (by (with_reducible repeat (first | refine Yd ?_ _ | refine Yf ?_ | refine Ye ?_ _)); exact BK213.out)) : gb218 ≠ gb213)); clear BK197; clear BK203; clear BK208; clear BK213; clear HB; have BK197 := n0_; have BK203 := n1_; have BK208 := n2_; have BK213 := n3_; have HB := n4_; have BK218 := n5_; have GW218 := n6_; have GE218 := n7_; have NB197_218 := n8_; have NB218_197 := n9_; have NB203_218 := n10_; have NB218_203 := n11_; have NB208_218 := n12_; have NB218_208 := n13_; have NB213_218 := n14_; have NB218_213 := n15_; clear n0_ n1_ n2_ n3_ n4_ n5_ n6_ n7_ n8_ n9_ n10_ n11_ n12_ n13_ n14_ n15_; clear hb hbox hg; have hnb36 := NB218_197.out; have hnc36 := NB197_218.out; have hnb37 := NB218_203.out; have hnc37 := NB203_218.out; have hnb38 := NB218_208.out; have hnc38 := NB208_218.out; have hnb39 := NB218_213.out; have hnc39 := NB213_218.out; have hcz40_0 : w35.cell? ⟨gb218, 0, none⟩ = some (.int .i64 0) := (Yh BK218.out 0).trans rfl; have hcz40_1 : w35.cell? ⟨gb218, 1, none⟩ = some (.int .i64 0) := (Yh BK218.out 1).trans rfl; have hcz40_2 : w35.cell? ⟨gb218, 2, none⟩ = some (.int .i64 0) := (Yh BK218.out 2).trans rfl; have hfz40_0 := Yi BK218.out 0; have hfz40_1 := Yi BK218.out 1; have hfz40_2 := Yi BK218.out 2; have hcz41_0 : w35.cell? ⟨gb197, 0, none⟩ = some (.int .i64 q0) := (Yh BK197.out 0).trans rfl; have hcz41_1 : w35.cell? ⟨gb197, 1, none⟩ = some (.int .i64 q1) := (Yh BK197.out 1).trans rfl; have hcz41_2 : w35.cell? ⟨gb197, 2, none⟩ = some (.int .i64 q2) := (Yh BK197.out 2).trans rfl; have hcz41_3 : w35.cell? ⟨gb197, 3, none⟩ = some (.int .i64 q3) := (Yh BK197.out 3).trans rfl; have hcz41_4 : w35.cell? ⟨gb197, 4, none⟩ = some (.int .i64 q4) := (Yh BK197.out 4).trans rfl; have hcz41_5 : w35.cell? ⟨gb197, 5, none⟩ = some (.int .i64 q5) := (Yh BK197.out 5).trans rfl; have hcz41_6 : w35.cell? ⟨gb197, 6, none⟩ = some (.int .i64 q6) := (Yh BK197.out 6).trans rfl; have hcz41_7 : w35.cell? ⟨gb197, 7, none⟩ = some (.int .i64 q7) := (Yh BK197.out 7).trans rfl; have hfz41_0 := Yi BK197.out 0; have hfz41_1 := Yi BK197.out 1; have hfz41_2 := Yi BK197.out 2; have hfz41_3 := Yi BK197.out 3; have hfz41_4 := Yi BK197.out 4; have hfz41_5 := Yi BK197.out 5; have hfz41_6 := Yi BK197.out 6; have hfz41_7 := Yi BK197.out 7) | ((with_reducible refine gate_callee (f := 15) rfl ?_); refine goesL_ (some 49) rfl rfl Try.func15 (by kernel_rfl) rfl #[.agg #[.int .i64 q0, .int .i64 q1, .int .i64 q2, .int .i64 q3, .int .i64 q4, .int .i64 q5, .int .i64 q6, .int .i64 q7]] rfl (by (try simp only [List.map_toArray, List.map_cons, List.map_nil]); first | done | rfl | (simp only [List.length_drop, List.length_take]; rfl)) ?_; (with_reducible refine (mooringsref08_Fit.calls k q0 q1 q2 q3 q4 q5 q6 q7 t219 _ A11.out).mono ?_); rintro e w42 ⟨rfl, hb⟩; refine ⟨_, rfl, ?_⟩; have n0_ := Ym (Yl (g := gb197) (o := .cells #[.int .i64 q0, .int .i64 q1, .int .i64 q2, .int .i64 q3, .int .i64 q4, .int .i64 q5, .int .i64 q6, .int .i64 q7] 25 (0, 0)) (by (with_reducible repeat (first | refine Yd ?_ _ | refine Yf ?_ | refine Ye ?_ _)); refine blk_far ?_ NB197_218.out _; (with_reducible repeat (first | refine Yd ?_ _ | refine Yf ?_ | refine Ye ?_ _)); refine blk_far ?_ NB197_218.out _; (with_reducible repeat (first | refine Yd ?_ _ | refine Yf ?_ | refine Ye ?_ _)); refine blk_far ?_ NB197_218.out _; (with_reducible repeat (first | refine Yd ?_ _ | refine Yf ?_ | refine Ye ?_ _)); exact BK197.out) hb); have n1_ := Ym (Yl (g := gb203) (o := .cells #[.int .i64 t199, .int .i64 t200, .int .i64 t201] 28 (0, 0)) (by (with_reducible repeat (first | refine Yd ?_ _ | refine Yf ?_ | refine Ye ?_ _)); refine blk_far ?_ NB203_218.out _; (with_reducible repeat (first | refine Yd ?_ _ | refine Yf ?_ | refine Ye ?_ _)); refine blk_far ?_ NB203_218.out _; (with_reducible repeat (first | refine Yd ?_ _ | refine Yf ?_ | refine Ye ?_ _)); refine blk_far ?_ NB203_218.out _; (with_reducible repeat (first | refine Yd ?_ _ | refine Yf ?_ | refine Ye ?_ _)); exact BK203.out) hb); have n2_ := Ym (Yl (g := gb208) (o := .cells #[.int .i64 t204, .int .i64 t205, .int .i64 t206] 28 (0, 0)) (by (with_reducible repeat (first | refine Yd ?_ _ | refine Yf ?_ | refine Ye ?_ _)); refine blk_far ?_ NB208_218.out _; (with_reducible repeat (first | refine Yd ?_ _ | refine Yf ?_ | refine Ye ?_ _)); refine blk_far ?_ NB208_218.out _; (with_reducible repeat (first | refine Yd ?_ _ | refine Yf ?_ | refine Ye ?_ _)); refine blk_far ?_ NB208_218.out _; (with_reducible repeat (first | refine Yd ?_ _ | refine Yf ?_ | refine Ye ?_ _)); exact BK208.out) hb); have n3_ := Ym (Yl (g := gb213) (o := .cells #[.int .i64 t209, .int .i64 t210, .int .i64 t211] 28 (0, 0)) (by (with_reducible repeat (first | refine Yd ?_ _ | refine Yf ?_ | refine Ye ?_ _)); refine blk_far ?_ NB213_218.out _; (with_reducible repeat (first | refine Yd ?_ _ | refine Yf ?_ | refine Ye ?_ _)); refine blk_far ?_ NB213_218.out _; (with_reducible repeat (first | refine Yd ?_ _ | refine Yf ?_ | refine Ye ?_ _)); refine blk_far ?_ NB213_218.out _; (with_reducible repeat (first | refine Yd ?_ _ | refine Yf ?_ | refine Ye ?_ _)); exact BK213.out) hb); have n4_ := Ym (Yl (g := gb218) (o := .cells #[.int .i64 t214, .int .i64 t215, .int .i64 t216] 28 (0, 0)) (by (with_reducible repeat (first | refine Yd ?_ _ | refine Yf ?_ | refine Ye ?_ _)); refine blk_put (cs := #[.int .i64 t214, .int .i64 t215, .int .i64 0]) ?_ 2 _ rfl; (with_reducible repeat (first | refine Yd ?_ _ | refine Yf ?_ | refine Ye ?_ _)); refine blk_put (cs := #[.int .i64 t214, .int .i64 0, .int .i64 0]) ?_ 1 _ rfl; (with_reducible repeat (first | refine Yd ?_ _ | refine Yf ?_ | refine Ye ?_ _)); refine blk_put (cs := #[.int .i64 0, .int .i64 0, .int .i64 0]) ?_ 0 _ rfl; (with_reducible repeat (first | refine Yd ?_ _ | refine Yf ?_ | refine Ye ?_ _)); exact BK218.out) hb); have n5_ := Ym (Yj (by repeat (first | (with_reducible first | exact HB.out | apply Yc | apply Ya | apply Yb | refine Yg ?_ GE197.out | refine Yg ?_ GE203.out | refine Yg ?_ GE208.out | refine Yg ?_ GE213.out | refine Yg ?_ GE218.out) | exact HB.out)) hb); clear BK197; clear BK203; clear BK208; clear BK213; clear BK218; clear HB; have BK197 := n0_; have BK203 := n1_; have BK208 := n2_; have BK213 := n3_; have BK218 := n4_; have HB := n5_; clear n0_ n1_ n2_ n3_ n4_ n5_; (try clear hb); (try clear hb2); (try clear hk); (try clear hi)))
 (try simp only [Act.put, Yo, Yp, Yq])
 go_cut [88] (fun v88 wc => ∃ (kq : Nat) (x88_11 : Bool), v88 = .bool x88_11 ∧ Aside0 (mooringslaw08_DetTells.j0 kq a2 a3 x88_11 q0 q1 q2 q3 q4 q5 q6 q7 = some r) ∧ Aside0 (kq ≤ k) ∧ Aside0 (wc.heap[gb197]? = some (.cells #[.int .i64 q0, .int .i64 q1, .int .i64 q2, .int .i64 q3, .int .i64 q4, .int .i64 q5, .int .i64 q6, .int .i64 q7] 25 (0, 0))) ∧ Aside0 (wc.heap[gb203]? = some (.cells #[.int .i64 t199, .int .i64 t200, .int .i64 t201] 28 (0, 0))) ∧ Aside0 (wc.heap[gb208]? = some (.cells #[.int .i64 t204, .int .i64 t205, .int .i64 t206] 28 (0, 0))) ∧ Aside0 (wc.heap[gb213]? = some (.cells #[.int .i64 t209, .int .i64 t210, .int .i64 t211] 28 (0, 0))) ∧ Aside0 (wc.heap[gb218]? = some (.cells #[.int .i64 t214, .int .i64 t215, .int .i64 t216] 28 (0, 0))) ∧ Aside0 (Below w.heap.size w wc))
 case first =>
  have H := HC12.out
  clear HC12
  by_cases c43 : t198 = true
  ·subst c43
   have H1 : (if (!(t199 == t204) || (!(t200 == t205) || (!(t201 == t206)))) = true then (mooringslaw08_DetTells.j0 k a2 a3 true q0 q1 q2 q3 q4 q5 q6 q7) else (if (t202 != t207) = true then (mooringslaw08_DetTells.j0 k a2 a3 true q0 q1 q2 q3 q4 q5 q6 q7) else (if (!(t209 == t214) || (!(t210 == t215) || (!(t211 == t216)))) = true then (mooringslaw08_DetTells.j0 k a2 a3 true q0 q1 q2 q3 q4 q5 q6 q7) else (if (t212 != t217) = true then (mooringslaw08_DetTells.j0 k a2 a3 true q0 q1 q2 q3 q4 q5 q6 q7) else ((detmap_Fit.f q0 q1 q2 q3 q4 q5 q6 q7).bind fun t220 => (if (t220 != t219) = true then (mooringslaw08_DetTells.j0 k a2 a3 true q0 q1 q2 q3 q4 q5 q6 q7) else ((detmap_Who.f k q0 q1 q2 q3 q4 q5 q6 q7 a2 a3).bind fun t221 => ((mooringsref08_Who.f k q0 q1 q2 q3 q4 q5 q6 q7 a2 a3).bind fun t222 => (mooringslaw08_DetTells.j0 k a2 a3 (t221 != t222) q0 q1 q2 q3 q4 q5 q6 q7))))))))) = some r := by rw [if_pos rfl] at H; exact H
   clear H
   have H := H1
   clear H1
   by_cases c44 : (!(t199 == t204) || (!(t200 == t205) || (!(t201 == t206)))) = true
   ·rw [if_pos c44] at H
    exact absurd (H.trans (congrArg some hT.out)) (mooringslaw08_DetTells.no _ _ _ _ _ _ _ _ _ _ _)
   ·rw [if_neg c44] at H
    have c44b0 : (!(t199 == t204) || (!(t200 == t205) || (!(t201 == t206)))) = false := by simpa using c44
    clear c44
    (first | rw [c44b0] | (simp only [i64_w, i32_w]; rw [c44b0]) | skip)
    by_cases c46 : (t202 != t207) = true
    ·rw [if_pos c46] at H
     exact absurd (H.trans (congrArg some hT.out)) (mooringslaw08_DetTells.no _ _ _ _ _ _ _ _ _ _ _)
    ·rw [if_neg c46] at H
     have c46b0 : (t202 != t207) = false := by simpa using c46
     (try (have c46b1 : decide (t202 = t207) = true := by simpa using c46))
     (try (have c46b2 : (t202 == t207) = true := by simpa using c46))
     clear c46
     by_cases c48 : (!(t209 == t214) || (!(t210 == t215) || (!(t211 == t216)))) = true
     ·rw [if_pos c48] at H
      exact absurd (H.trans (congrArg some hT.out)) (mooringslaw08_DetTells.no _ _ _ _ _ _ _ _ _ _ _)
     ·rw [if_neg c48] at H
      have c48b0 : (!(t209 == t214) || (!(t210 == t215) || (!(t211 == t216)))) = false := by simpa using c48
      clear c48
      by_cases c50 : (t212 != t217) = true
      ·rw [if_pos c50] at H
       exact absurd (H.trans (congrArg some hT.out)) (mooringslaw08_DetTells.no _ _ _ _ _ _ _ _ _ _ _)
      ·rw [if_neg c50] at H
       have c50b0 : (t212 != t217) = false := by simpa using c50
       (try (have c50b1 : decide (t212 = t217) = true := by simpa using c50))
       (try (have c50b2 : (t212 == t217) = true := by simpa using c50))
       clear c50
       replace H := Option.bind_eq_some_iff.mp H
       obtain ⟨t220, A520, H⟩ := H
       replace H : (if (t220 != t219) = true then (mooringslaw08_DetTells.j0 k a2 a3 true q0 q1 q2 q3 q4 q5 q6 q7) else ((detmap_Who.f k q0 q1 q2 q3 q4 q5 q6 q7 a2 a3).bind fun t221 => ((mooringsref08_Who.f k q0 q1 q2 q3 q4 q5 q6 q7 a2 a3).bind fun t222 => (mooringslaw08_DetTells.j0 k a2 a3 (t221 != t222) q0 q1 q2 q3 q4 q5 q6 q7)))) = some r := H
       have A52 := Ym A520
       clear A520
       by_cases c53 : (t220 != t219) = true
       ·rw [if_pos c53] at H
        exact absurd (H.trans (congrArg some hT.out)) (mooringslaw08_DetTells.no _ _ _ _ _ _ _ _ _ _ _)
       ·rw [if_neg c53] at H
        have c53b0 : (t220 != t219) = false := by simpa using c53
        (try (have c53b1 : decide (t220 = t219) = true := by simpa using c53))
        (try (have c53b2 : (t220 == t219) = true := by simpa using c53))
        clear c53
        replace H := Option.bind_eq_some_iff.mp H
        obtain ⟨t221, A560, H⟩ := H
        replace H : ((mooringsref08_Who.f k q0 q1 q2 q3 q4 q5 q6 q7 a2 a3).bind fun t222 => (mooringslaw08_DetTells.j0 k a2 a3 (t221 != t222) q0 q1 q2 q3 q4 q5 q6 q7)) = some r := H
        have A56 := Ym A560
        clear A560
        replace H := Option.bind_eq_some_iff.mp H
        obtain ⟨t222, A570, H⟩ := H
        replace H : (mooringslaw08_DetTells.j0 k a2 a3 (t221 != t222) q0 q1 q2 q3 q4 q5 q6 q7) = some r := H
        have A57 := Ym A570
        clear A570
        have H' := Ym H
        clear H
        try go_wp2
        have n0_ := Ym (Yf BK197.out)
        have n1_ := Ym (Yf BK203.out)
        have n2_ := Ym (Yf BK208.out)
        have n3_ := Ym (Yf BK213.out)
        have n4_ := Ym (Yf BK218.out)
        have n5_ := Ym (Yb HB.out)
        clear BK197
        clear BK203
        clear BK208
        clear BK213
        clear BK218
        clear HB
        have BK197 := n0_
        have BK203 := n1_
        have BK208 := n2_
        have BK213 := n3_
        have BK218 := n4_
        have HB := n5_
        clear n0_ n1_ n2_ n3_ n4_ n5_
        refine start_ (n := 39) (S := fun w' => w'.cell? ⟨gb203, 0, none⟩ = some (.int .i64 t199) ∧ w'.cell? ⟨gb203, 1, none⟩ = some (.int .i64 t200) ∧ w'.cell? ⟨gb203, 2, none⟩ = some (.int .i64 t201) ∧ w'.cell? ⟨gb208, 0, none⟩ = some (.int .i64 t204) ∧ w'.cell? ⟨gb208, 1, none⟩ = some (.int .i64 t205) ∧ w'.cell? ⟨gb208, 2, none⟩ = some (.int .i64 t206) ∧ w'.cell? ⟨gb213, 0, none⟩ = some (.int .i64 t209) ∧ w'.cell? ⟨gb213, 1, none⟩ = some (.int .i64 t210) ∧ w'.cell? ⟨gb213, 2, none⟩ = some (.int .i64 t211) ∧ w'.cell? ⟨gb218, 0, none⟩ = some (.int .i64 t214) ∧ w'.cell? ⟨gb218, 1, none⟩ = some (.int .i64 t215) ∧ w'.cell? ⟨gb218, 2, none⟩ = some (.int .i64 t216) ∧ w'.cell? ⟨gb197, 0, none⟩ = some (.int .i64 q0) ∧ w'.cell? ⟨gb197, 1, none⟩ = some (.int .i64 q1) ∧ w'.cell? ⟨gb197, 2, none⟩ = some (.int .i64 q2) ∧ w'.cell? ⟨gb197, 3, none⟩ = some (.int .i64 q3) ∧ w'.cell? ⟨gb197, 4, none⟩ = some (.int .i64 q4) ∧ w'.cell? ⟨gb197, 5, none⟩ = some (.int .i64 q5) ∧ w'.cell? ⟨gb197, 6, none⟩ = some (.int .i64 q6) ∧ w'.cell? ⟨gb197, 7, none⟩ = some (.int .i64 q7)) (ds := []) #[false, false, false, false, false, false, false, false, false, false, false, false, false, false, false, false, false, false, false, false, false, false, false, false, false, false, false, false, false, false, false, false, false, false, false, false, false, false, false] (by kernel_rfl) rfl rfl ⟨(Yh BK203.out 0).trans rfl, (Yh BK203.out 1).trans rfl, (Yh BK203.out 2).trans rfl, (Yh BK208.out 0).trans rfl, (Yh BK208.out 1).trans rfl, (Yh BK208.out 2).trans rfl, (Yh BK213.out 0).trans rfl, (Yh BK213.out 1).trans rfl, (Yh BK213.out 2).trans rfl, (Yh BK218.out 0).trans rfl, (Yh BK218.out 1).trans rfl, (Yh BK218.out 2).trans rfl, (Yh BK197.out 0).trans rfl, (Yh BK197.out 1).trans rfl, (Yh BK197.out 2).trans rfl, (Yh BK197.out 3).trans rfl, (Yh BK197.out 4).trans rfl, (Yh BK197.out 5).trans rfl, (Yh BK197.out 6).trans rfl, (Yh BK197.out 7).trans rfl⟩ (fun hHeld => ?_); refine with_tabW mooringslaw08_DetTells.tab7 mooringslaw08_DetTells.bits7 (fun HT_ HW_ => ?_)
        generalize w42.drew = w58 at BK197 BK203 BK208 BK213 BK218 HB hHeld ⊢
        refine pure_ (i := 0) (N := some 50) (v := ?_) (a' := ?_) #[true, false, false, false, false, false, false, false, false, false, false, false, false, false, false, false, false, false, false, false, false, false, false, false, false, false, false, false, false, false, false, false, false, false, false, false, false, false, false] rfl rfl (any_of HT_.out (by kernel_rfl)) (fun _ _ _ h => h) (Or.inl ⟨by rfl, ?_⟩) ?_ ?_
        rotate_left
        ·intro w'
         go_simp
         with_reducible rfl
        rotate_left
        ·simp only [Act.put, Yo, Yp, Yq, i64_w, i32_w]
         rfl
        refine pure_ (i := 1) (N := some 51) (v := ?_) (a' := ?_) #[true, true, false, false, false, false, false, false, false, false, false, false, false, false, false, false, false, false, false, false, false, false, false, false, false, false, false, false, false, false, false, false, false, false, false, false, false, false, false] rfl rfl (any_of HT_.out (by kernel_rfl)) (fun _ _ _ h => h) (Or.inl ⟨by rfl, ?_⟩) ?_ ?_
        rotate_left
        ·intro w'
         go_simp
         with_reducible rfl
        rotate_left
        ·simp only [Act.put, Yo, Yp, Yq, i64_w, i32_w]
         rfl
        refine pure_ (i := 2) (N := some 52) (v := ?_) (a' := ?_) #[true, true, true, false, false, false, false, false, false, false, false, false, false, false, false, false, false, false, false, false, false, false, false, false, false, false, false, false, false, false, false, false, false, false, false, false, false, false, false] rfl rfl (any_of HT_.out (by kernel_rfl)) (fun _ _ _ h => h) (Or.inl ⟨by rfl, ?_⟩) ?_ ?_
        rotate_left
        ·intro w'
         go_simp
         with_reducible rfl
        rotate_left
        ·simp only [Act.put, Yo, Yp, Yq, i64_w, i32_w]
         rfl
        refine take_ (i := 3) (N := some 53) (v := ?_) (a' := ?_) #[true, true, true, true, false, false, false, false, false, false, false, false, false, false, false, false, false, false, false, false, false, false, false, false, false, false, false, false, false, false, false, false, false, false, false, false, false, false, false] rfl rfl (take_ofW HT_.out HW_.out (by kernel_rfl)) (fun _ _ _ h => h) (Or.inl ⟨by rfl, ?_⟩) hHeld ?_ ?_
        rotate_left
        ·rintro w' ⟨s0, s1, s2, s3, s4, s5, s6, s7, s8, s9, s10, s11, s12, s13, s14, s15, s16, s17, s18, s19⟩
         go_simp
         with_reducible rfl
        rotate_left
        ·simp only [Act.put, Yo, Yp, Yq, i64_w, i32_w]
         rfl
        refine take_ (i := 4) (N := some 54) (v := ?_) (a' := ?_) #[true, true, true, true, true, false, false, false, false, false, false, false, false, false, false, false, false, false, false, false, false, false, false, false, false, false, false, false, false, false, false, false, false, false, false, false, false, false, false] rfl rfl (take_ofW HT_.out HW_.out (by kernel_rfl)) (fun _ _ _ h => h) (Or.inl ⟨by rfl, ?_⟩) hHeld ?_ ?_
        rotate_left
        ·rintro w' ⟨s0, s1, s2, s3, s4, s5, s6, s7, s8, s9, s10, s11, s12, s13, s14, s15, s16, s17, s18, s19⟩
         go_simp
         with_reducible rfl
        rotate_left
        ·simp only [Act.put, Yo, Yp, Yq, i64_w, i32_w]
         rfl
        refine pure_ (i := 5) (N := some 55) (v := ?_) (a' := ?_) #[true, true, true, true, true, true, false, false, false, false, false, false, false, false, false, false, false, false, false, false, false, false, false, false, false, false, false, false, false, false, false, false, false, false, false, false, false, false, false] rfl rfl (any_of HT_.out (by kernel_rfl)) (fun _ _ _ h => h) (Or.inl ⟨by rfl, ?_⟩) ?_ ?_
        rotate_left
        ·intro w'
         go_simp
         with_reducible rfl
        rotate_left
        ·simp only [Act.put, Yo, Yp, Yq, i64_w, i32_w]
         rfl
        refine pure_ (i := 6) (N := some 56) (v := ?_) (a' := ?_) #[true, true, true, true, true, true, true, false, false, false, false, false, false, false, false, false, false, false, false, false, false, false, false, false, false, false, false, false, false, false, false, false, false, false, false, false, false, false, false] rfl rfl (any_of HT_.out (by kernel_rfl)) (fun _ _ _ h => h) (Or.inl ⟨by rfl, ?_⟩) ?_ ?_
        rotate_left
        ·intro w'
         go_simp
         with_reducible rfl
        rotate_left
        ·simp only [Act.put, Yo, Yp, Yq, i64_w, i32_w]
         rfl
        refine pure_ (i := 7) (N := some 57) (v := ?_) (a' := ?_) #[true, true, true, true, true, true, true, true, false, false, false, false, false, false, false, false, false, false, false, false, false, false, false, false, false, false, false, false, false, false, false, false, false, false, false, false, false, false, false] rfl rfl (any_of HT_.out (by kernel_rfl)) (fun _ _ _ h => h) (Or.inl ⟨by rfl, ?_⟩) ?_ ?_
        rotate_left
        ·intro w'
         go_simp
         with_reducible rfl
        rotate_left
        ·simp only [Act.put, Yo, Yp, Yq, i64_w, i32_w]
         rfl
        refine pure_ (i := 8) (N := some 58) (v := ?_) (a' := ?_) #[true, true, true, true, true, true, true, true, true, false, false, false, false, false, false, false, false, false, false, false, false, false, false, false, false, false, false, false, false, false, false, false, false, false, false, false, false, false, false] rfl rfl (any_of HT_.out (by kernel_rfl)) (fun _ _ _ h => h) (Or.inl ⟨by rfl, ?_⟩) ?_ ?_
        rotate_left
        ·intro w'
         go_simp
         with_reducible rfl
        rotate_left
        ·simp only [Act.put, Yo, Yp, Yq, i64_w, i32_w]
         rfl
        refine pure_ (i := 9) (N := some 59) (v := ?_) (a' := ?_) #[true, true, true, true, true, true, true, true, true, true, false, false, false, false, false, false, false, false, false, false, false, false, false, false, false, false, false, false, false, false, false, false, false, false, false, false, false, false, false] rfl rfl (any_of HT_.out (by kernel_rfl)) (fun _ _ _ h => h) (Or.inl ⟨by rfl, ?_⟩) ?_ ?_
        rotate_left
        ·intro w'
         go_simp
         with_reducible rfl
        rotate_left
        ·simp only [Act.put, Yo, Yp, Yq, i64_w, i32_w]
         rfl
        refine pure_ (i := 10) (N := some 60) (v := ?_) (a' := ?_) #[true, true, true, true, true, true, true, true, true, true, true, false, false, false, false, false, false, false, false, false, false, false, false, false, false, false, false, false, false, false, false, false, false, false, false, false, false, false, false] rfl rfl (any_of HT_.out (by kernel_rfl)) (fun _ _ _ h => h) (Or.inl ⟨by rfl, ?_⟩) ?_ ?_
        rotate_left
        ·intro w'
         go_simp
         with_reducible rfl
        rotate_left
        ·simp only [Act.put, Yo, Yp, Yq, i64_w, i32_w]
         rfl
        refine pure_ (i := 11) (N := some 61) (v := ?_) (a' := ?_) #[true, true, true, true, true, true, true, true, true, true, true, true, false, false, false, false, false, false, false, false, false, false, false, false, false, false, false, false, false, false, false, false, false, false, false, false, false, false, false] rfl rfl (any_of HT_.out (by kernel_rfl)) (fun _ _ _ h => h) (Or.inl ⟨by rfl, ?_⟩) ?_ ?_
        rotate_left
        ·intro w'
         go_simp
         with_reducible rfl
        rotate_left
        ·simp only [Act.put, Yo, Yp, Yq, i64_w, i32_w]
         rfl
        refine pure_ (i := 12) (N := some 62) (v := ?_) (a' := ?_) #[true, true, true, true, true, true, true, true, true, true, true, true, true, false, false, false, false, false, false, false, false, false, false, false, false, false, false, false, false, false, false, false, false, false, false, false, false, false, false] rfl rfl (any_of HT_.out (by kernel_rfl)) (fun _ _ _ h => h) (Or.inl ⟨by rfl, ?_⟩) ?_ ?_
        rotate_left
        ·intro w'
         go_simp
         with_reducible rfl
        rotate_left
        ·simp only [Act.put, Yo, Yp, Yq, i64_w, i32_w]
         rfl
        refine take_ (i := 13) (N := some 63) (v := ?_) (a' := ?_) #[true, true, true, true, true, true, true, true, true, true, true, true, true, true, false, false, false, false, false, false, false, false, false, false, false, false, false, false, false, false, false, false, false, false, false, false, false, false, false] rfl rfl (take_ofW HT_.out HW_.out (by kernel_rfl)) (fun _ _ _ h => h) (Or.inl ⟨by rfl, ?_⟩) hHeld ?_ ?_
        rotate_left
        ·rintro w' ⟨s0, s1, s2, s3, s4, s5, s6, s7, s8, s9, s10, s11, s12, s13, s14, s15, s16, s17, s18, s19⟩
         go_simp
         with_reducible rfl
        rotate_left
        ·simp only [Act.put, Yo, Yp, Yq, i64_w, i32_w]
         rfl
        refine take_ (i := 14) (N := some 64) (v := ?_) (a' := ?_) #[true, true, true, true, true, true, true, true, true, true, true, true, true, true, true, false, false, false, false, false, false, false, false, false, false, false, false, false, false, false, false, false, false, false, false, false, false, false, false] rfl rfl (take_ofW HT_.out HW_.out (by kernel_rfl)) (fun _ _ _ h => h) (Or.inl ⟨by rfl, ?_⟩) hHeld ?_ ?_
        rotate_left
        ·rintro w' ⟨s0, s1, s2, s3, s4, s5, s6, s7, s8, s9, s10, s11, s12, s13, s14, s15, s16, s17, s18, s19⟩
         go_simp
         with_reducible rfl
        rotate_left
        ·simp only [Act.put, Yo, Yp, Yq, i64_w, i32_w]
         rfl
        refine pure_ (i := 15) (N := some 65) (v := ?_) (a' := ?_) #[true, true, true, true, true, true, true, true, true, true, true, true, true, true, true, true, false, false, false, false, false, false, false, false, false, false, false, false, false, false, false, false, false, false, false, false, false, false, false] rfl rfl (any_of HT_.out (by kernel_rfl)) (fun _ _ _ h => h) (Or.inl ⟨by rfl, ?_⟩) ?_ ?_
        rotate_left
        ·intro w'
         go_simp
         with_reducible rfl
        rotate_left
        ·simp only [Act.put, Yo, Yp, Yq, i64_w, i32_w]
         rfl
        refine pure_ (i := 16) (N := some 66) (v := ?_) (a' := ?_) #[true, true, true, true, true, true, true, true, true, true, true, true, true, true, true, true, true, false, false, false, false, false, false, false, false, false, false, false, false, false, false, false, false, false, false, false, false, false, false] rfl rfl (any_of HT_.out (by kernel_rfl)) (fun _ _ _ h => h) (Or.inl ⟨by rfl, ?_⟩) ?_ ?_
        rotate_left
        ·intro w'
         go_simp
         with_reducible rfl
        rotate_left
        ·simp only [Act.put, Yo, Yp, Yq, i64_w, i32_w]
         rfl
        refine pure_ (i := 17) (N := some 67) (v := ?_) (a' := ?_) #[true, true, true, true, true, true, true, true, true, true, true, true, true, true, true, true, true, true, false, false, false, false, false, false, false, false, false, false, false, false, false, false, false, false, false, false, false, false, false] rfl rfl (any_of HT_.out (by kernel_rfl)) (fun _ _ _ h => h) (Or.inl ⟨by rfl, ?_⟩) ?_ ?_
        rotate_left
        ·intro w'
         go_simp
         with_reducible rfl
        rotate_left
        ·simp only [Act.put, Yo, Yp, Yq, i64_w, i32_w]
         rfl
        refine pure_ (i := 18) (N := some 68) (v := ?_) (a' := ?_) #[true, true, true, true, true, true, true, true, true, true, true, true, true, true, true, true, true, true, true, false, false, false, false, false, false, false, false, false, false, false, false, false, false, false, false, false, false, false, false] rfl rfl (any_of HT_.out (by kernel_rfl)) (fun _ _ _ h => h) (Or.inl ⟨by rfl, ?_⟩) ?_ ?_
        rotate_left
        ·intro w'
         go_simp
         with_reducible rfl
        rotate_left
        ·simp only [Act.put, Yo, Yp, Yq, i64_w, i32_w]
         rfl
        refine pure_ (i := 19) (N := some 69) (v := ?_) (a' := ?_) #[true, true, true, true, true, true, true, true, true, true, true, true, true, true, true, true, true, true, true, true, false, false, false, false, false, false, false, false, false, false, false, false, false, false, false, false, false, false, false] rfl rfl (any_of HT_.out (by kernel_rfl)) (fun _ _ _ h => h) (Or.inl ⟨by rfl, ?_⟩) ?_ ?_
        rotate_left
        ·intro w'
         go_simp
         with_reducible rfl
        rotate_left
        ·simp only [Act.put, Yo, Yp, Yq, i64_w, i32_w]
         rfl
        refine pure_ (i := 20) (N := some 70) (v := ?_) (a' := ?_) #[true, true, true, true, true, true, true, true, true, true, true, true, true, true, true, true, true, true, true, true, true, false, false, false, false, false, false, false, false, false, false, false, false, false, false, false, false, false, false] rfl rfl (any_of HT_.out (by kernel_rfl)) (fun _ _ _ h => h) (Or.inl ⟨by rfl, ?_⟩) ?_ ?_
        rotate_left
        ·intro w'
         go_simp
         with_reducible rfl
        rotate_left
        ·simp only [Act.put, Yo, Yp, Yq, i64_w, i32_w]
         rfl
        refine pure_ (i := 21) (N := some 71) (v := ?_) (a' := ?_) #[true, true, true, true, true, true, true, true, true, true, true, true, true, true, true, true, true, true, true, true, true, true, false, false, false, false, false, false, false, false, false, false, false, false, false, false, false, false, false] rfl rfl (any_of HT_.out (by kernel_rfl)) (fun _ _ _ h => h) (Or.inl ⟨by rfl, ?_⟩) ?_ ?_
        rotate_left
        ·intro w'
         go_simp
         with_reducible rfl
        rotate_left
        ·simp only [Act.put, Yo, Yp, Yq, i64_w, i32_w]
         rfl
        refine pure_ (i := 22) (N := some 72) (v := ?_) (a' := ?_) #[true, true, true, true, true, true, true, true, true, true, true, true, true, true, true, true, true, true, true, true, true, true, true, false, false, false, false, false, false, false, false, false, false, false, false, false, false, false, false] rfl rfl (any_of HT_.out (by kernel_rfl)) (fun _ _ _ h => h) (Or.inl ⟨by rfl, ?_⟩) ?_ ?_
        rotate_left
        ·intro w'
         go_simp
         with_reducible rfl
        rotate_left
        ·simp only [Act.put, Yo, Yp, Yq, i64_w, i32_w]
         rfl
        refine pure_ (i := 25) (N := some 75) (v := ?_) (a' := ?_) #[true, true, true, true, true, true, true, true, true, true, true, true, true, true, true, true, true, true, true, true, true, true, true, false, false, true, false, false, false, false, false, false, false, false, false, false, false, false, false] rfl rfl (any_of HT_.out (by kernel_rfl)) (fun _ _ _ h => h) (Or.inl ⟨by rfl, ?_⟩) ?_ ?_
        rotate_left
        ·intro w'
         go_simp
         with_reducible rfl
        rotate_left
        ·simp only [Act.put, Yo, Yp, Yq, i64_w, i32_w]
         rfl
        refine take_ (i := 23) (N := some 73) (v := ?_) (a' := ?_) #[true, true, true, true, true, true, true, true, true, true, true, true, true, true, true, true, true, true, true, true, true, true, true, true, false, true, false, false, false, false, false, false, false, false, false, false, false, false, false] rfl rfl (take_ofW HT_.out HW_.out (by kernel_rfl)) (fun _ _ _ h => h) (Or.inl ⟨by rfl, ?_⟩) hHeld ?_ ?_
        rotate_left
        ·rintro w' ⟨s0, s1, s2, s3, s4, s5, s6, s7, s8, s9, s10, s11, s12, s13, s14, s15, s16, s17, s18, s19⟩
         go_simp
         with_reducible rfl
        rotate_left
        ·simp only [Act.put, Yo, Yp, Yq, i64_w, i32_w]
         rfl
        refine one_ (i := 24) (N := some 74) #[true, true, true, true, true, true, true, true, true, true, true, true, true, true, true, true, true, true, true, true, true, true, true, true, true, true, false, false, false, false, false, false, false, false, false, false, false, false, false] rfl rfl (one_of HT_.out (by kernel_rfl)) (by decide) (fun K hK => ?_)
        refine goes_ Try.func16 (by kernel_rfl) rfl #[.agg #[.int .i64 q0, .int .i64 q1, .int .i64 q2, .int .i64 q3, .int .i64 q4, .int .i64 q5, .int .i64 q6, .int .i64 q7]] (by rfl) rfl rfl (by (try simp only [List.map_toArray, List.map_cons, List.map_nil]); first | done | rfl | (simp only [List.length_drop, List.length_take]; rfl)) ?_
        with_reducible refine (detmap_Fit.calls q0 q1 q2 q3 q4 q5 q6 q7 t220 _ A52.out).mono ?_
        rintro e w59 ⟨rfl, hb⟩
        refine ⟨_, rfl, ?_⟩
        have n0_ := Ym (Yl (g := gb197) (o := .cells #[.int .i64 q0, .int .i64 q1, .int .i64 q2, .int .i64 q3, .int .i64 q4, .int .i64 q5, .int .i64 q6, .int .i64 q7] 25 (0, 0)) (by (with_reducible repeat (first | refine Yd ?_ _ | refine Yf ?_ | refine Ye ?_ _)); exact BK197.out) hb)
        have n1_ := Ym (Yl (g := gb203) (o := .cells #[.int .i64 t199, .int .i64 t200, .int .i64 t201] 28 (0, 0)) (by (with_reducible repeat (first | refine Yd ?_ _ | refine Yf ?_ | refine Ye ?_ _)); exact BK203.out) hb)
        have n2_ := Ym (Yl (g := gb208) (o := .cells #[.int .i64 t204, .int .i64 t205, .int .i64 t206] 28 (0, 0)) (by (with_reducible repeat (first | refine Yd ?_ _ | refine Yf ?_ | refine Ye ?_ _)); exact BK208.out) hb)
        have n3_ := Ym (Yl (g := gb213) (o := .cells #[.int .i64 t209, .int .i64 t210, .int .i64 t211] 28 (0, 0)) (by (with_reducible repeat (first | refine Yd ?_ _ | refine Yf ?_ | refine Ye ?_ _)); exact BK213.out) hb)
        have n4_ := Ym (Yl (g := gb218) (o := .cells #[.int .i64 t214, .int .i64 t215, .int .i64 t216] 28 (0, 0)) (by (with_reducible repeat (first | refine Yd ?_ _ | refine Yf ?_ | refine Ye ?_ _)); exact BK218.out) hb)
        have n5_ := Ym (Yj (by repeat (first | (with_reducible first | exact HB.out | apply Yc | apply Ya | apply Yb | refine Yg ?_ GE197.out | refine Yg ?_ GE203.out | refine Yg ?_ GE208.out | refine Yg ?_ GE213.out | refine Yg ?_ GE218.out) | exact HB.out)) hb)
        clear BK197
        clear BK203
        clear BK208
        clear BK213
        clear BK218
        clear HB
        have BK197 := n0_
        have BK203 := n1_
        have BK208 := n2_
        have BK213 := n3_
        have BK218 := n4_
        have HB := n5_
        clear n0_ n1_ n2_ n3_ n4_ n5_
        (try clear hb)
        (try clear hb2)
        (try clear hk)
        (try clear hi)
        refine hK.out _ _ ⟨(Yh BK203.out 0).trans rfl, (Yh BK203.out 1).trans rfl, (Yh BK203.out 2).trans rfl, (Yh BK208.out 0).trans rfl, (Yh BK208.out 1).trans rfl, (Yh BK208.out 2).trans rfl, (Yh BK213.out 0).trans rfl, (Yh BK213.out 1).trans rfl, (Yh BK213.out 2).trans rfl, (Yh BK218.out 0).trans rfl, (Yh BK218.out 1).trans rfl, (Yh BK218.out 2).trans rfl, (Yh BK197.out 0).trans rfl, (Yh BK197.out 1).trans rfl, (Yh BK197.out 2).trans rfl, (Yh BK197.out 3).trans rfl, (Yh BK197.out 4).trans rfl, (Yh BK197.out 5).trans rfl, (Yh BK197.out 6).trans rfl, (Yh BK197.out 7).trans rfl⟩ (fun hHeld => ?_)
        clear hK K
        refine norm_ (a' := ?_) ?_ ?_
        rotate_left
        ·show Act.put _ (some 74) _ = _
         simp only [Act.put, Yo, Yp, Yq, i64_w, i32_w]
         rfl
        refine pure_ (i := 26) (N := some 76) (v := ?_) (a' := ?_) #[true, true, true, true, true, true, true, true, true, true, true, true, true, true, true, true, true, true, true, true, true, true, true, true, true, true, true, false, false, false, false, false, false, false, false, false, false, false, false] rfl rfl (any_of HT_.out (by kernel_rfl)) (fun _ _ _ h => h) (Or.inl ⟨by rfl, ?_⟩) ?_ ?_
        rotate_left
        ·intro w'
         go_simp
         with_reducible rfl
        rotate_left
        ·simp only [Act.put, Yo, Yp, Yq, i64_w, i32_w]
         rfl
        refine pure_ (i := 27) (N := some 77) (v := ?_) (a' := ?_) #[true, true, true, true, true, true, true, true, true, true, true, true, true, true, true, true, true, true, true, true, true, true, true, true, true, true, true, true, false, false, false, false, false, false, false, false, false, false, false] rfl rfl (any_of HT_.out (by kernel_rfl)) (fun _ _ _ h => h) (Or.inl ⟨by rfl, ?_⟩) ?_ ?_
        rotate_left
        ·intro w'
         go_simp
         with_reducible rfl
        rotate_left
        ·simp only [Act.put, Yo, Yp, Yq, i64_w, i32_w]
         rfl
        refine pure_ (i := 28) (N := some 78) (v := ?_) (a' := ?_) #[true, true, true, true, true, true, true, true, true, true, true, true, true, true, true, true, true, true, true, true, true, true, true, true, true, true, true, true, true, false, false, false, false, false, false, false, false, false, false] rfl rfl (any_of HT_.out (by kernel_rfl)) (fun _ _ _ h => h) (Or.inl ⟨by rfl, ?_⟩) ?_ ?_
        rotate_left
        ·intro w'
         go_simp
         with_reducible rfl
        rotate_left
        ·simp only [Act.put, Yo, Yp, Yq, i64_w, i32_w]
         rfl
        refine pure_ (i := 30) (N := some 80) (v := ?_) (a' := ?_) #[true, true, true, true, true, true, true, true, true, true, true, true, true, true, true, true, true, true, true, true, true, true, true, true, true, true, true, true, true, false, true, false, false, false, false, false, false, false, false] rfl rfl (any_of HT_.out (by kernel_rfl)) (fun _ _ _ h => h) (Or.inl ⟨by rfl, ?_⟩) ?_ ?_
        rotate_left
        ·intro w'
         go_simp
         with_reducible rfl
        rotate_left
        ·simp only [Act.put, Yo, Yp, Yq, i64_w, i32_w]
         rfl
        refine pure_ (i := 31) (N := some 81) (v := ?_) (a' := ?_) #[true, true, true, true, true, true, true, true, true, true, true, true, true, true, true, true, true, true, true, true, true, true, true, true, true, true, true, true, true, false, true, true, false, false, false, false, false, false, false] rfl rfl (any_of HT_.out (by kernel_rfl)) (fun _ _ _ h => h) (Or.inl ⟨by rfl, ?_⟩) ?_ ?_
        rotate_left
        ·intro w'
         go_simp
         with_reducible rfl
        rotate_left
        ·simp only [Act.put, Yo, Yp, Yq, i64_w, i32_w]
         rfl
        refine pure_ (i := 34) (N := some 84) (v := ?_) (a' := ?_) #[true, true, true, true, true, true, true, true, true, true, true, true, true, true, true, true, true, true, true, true, true, true, true, true, true, true, true, true, true, false, true, true, false, false, true, false, false, false, false] rfl rfl (any_of HT_.out (by kernel_rfl)) (fun _ _ _ h => h) (Or.inl ⟨by rfl, ?_⟩) ?_ ?_
        rotate_left
        ·intro w'
         go_simp
         with_reducible rfl
        rotate_left
        ·simp only [Act.put, Yo, Yp, Yq, i64_w, i32_w]
         rfl
        refine pure_ (i := 35) (N := some 85) (v := ?_) (a' := ?_) #[true, true, true, true, true, true, true, true, true, true, true, true, true, true, true, true, true, true, true, true, true, true, true, true, true, true, true, true, true, false, true, true, false, false, true, true, false, false, false] rfl rfl (any_of HT_.out (by kernel_rfl)) (fun _ _ _ h => h) (Or.inl ⟨by rfl, ?_⟩) ?_ ?_
        rotate_left
        ·intro w'
         go_simp
         with_reducible rfl
        rotate_left
        ·simp only [Act.put, Yo, Yp, Yq, i64_w, i32_w]
         rfl
        refine take_ (i := 29) (N := some 79) (v := ?_) (a' := ?_) #[true, true, true, true, true, true, true, true, true, true, true, true, true, true, true, true, true, true, true, true, true, true, true, true, true, true, true, true, true, true, true, true, false, false, true, true, false, false, false] rfl rfl (take_ofW HT_.out HW_.out (by kernel_rfl)) (fun _ _ _ h => h) (Or.inl ⟨by rfl, ?_⟩) hHeld ?_ ?_
        rotate_left
        ·rintro w' ⟨s0, s1, s2, s3, s4, s5, s6, s7, s8, s9, s10, s11, s12, s13, s14, s15, s16, s17, s18, s19⟩
         go_simp
         with_reducible rfl
        rotate_left
        ·simp only [Act.put, Yo, Yp, Yq, i64_w, i32_w]
         rfl
        refine take_ (i := 33) (N := some 83) (v := ?_) (a' := ?_) #[true, true, true, true, true, true, true, true, true, true, true, true, true, true, true, true, true, true, true, true, true, true, true, true, true, true, true, true, true, true, true, true, false, true, true, true, false, false, false] rfl rfl (take_ofW HT_.out HW_.out (by kernel_rfl)) (fun _ _ _ h => h) (Or.inl ⟨by rfl, ?_⟩) hHeld ?_ ?_
        rotate_left
        ·rintro w' ⟨s0, s1, s2, s3, s4, s5, s6, s7, s8, s9, s10, s11, s12, s13, s14, s15, s16, s17, s18, s19⟩
         go_simp
         with_reducible rfl
        rotate_left
        ·simp only [Act.put, Yo, Yp, Yq, i64_w, i32_w]
         rfl
        refine one_ (i := 32) (N := some 82) #[true, true, true, true, true, true, true, true, true, true, true, true, true, true, true, true, true, true, true, true, true, true, true, true, true, true, true, true, true, true, true, true, true, true, true, true, false, false, false] rfl rfl (one_of HT_.out (by kernel_rfl)) (by decide) (fun K hK => ?_)
        refine goes_ Try.func17 (by kernel_rfl) rfl #[.agg #[.int .i64 q0, .int .i64 q1, .int .i64 q2, .int .i64 q3, .int .i64 q4, .int .i64 q5, .int .i64 q6, .int .i64 q7], .int .i64 a2, .int .i64 a3] (by rfl) rfl rfl (by (try simp only [List.map_toArray, List.map_cons, List.map_nil]); first | done | rfl | (simp only [List.length_drop, List.length_take]; rfl)) ?_
        with_reducible refine (detmap_Who.calls k q0 q1 q2 q3 q4 q5 q6 q7 a2 a3 t221 _ A56.out).mono ?_
        rintro e w60 ⟨rfl, hb⟩
        refine ⟨_, rfl, ?_⟩
        have n0_ := Ym (Yl (g := gb197) (o := .cells #[.int .i64 q0, .int .i64 q1, .int .i64 q2, .int .i64 q3, .int .i64 q4, .int .i64 q5, .int .i64 q6, .int .i64 q7] 25 (0, 0)) (by (with_reducible repeat (first | refine Yd ?_ _ | refine Yf ?_ | refine Ye ?_ _)); exact BK197.out) hb)
        have n1_ := Ym (Yl (g := gb203) (o := .cells #[.int .i64 t199, .int .i64 t200, .int .i64 t201] 28 (0, 0)) (by (with_reducible repeat (first | refine Yd ?_ _ | refine Yf ?_ | refine Ye ?_ _)); exact BK203.out) hb)
        have n2_ := Ym (Yl (g := gb208) (o := .cells #[.int .i64 t204, .int .i64 t205, .int .i64 t206] 28 (0, 0)) (by (with_reducible repeat (first | refine Yd ?_ _ | refine Yf ?_ | refine Ye ?_ _)); exact BK208.out) hb)
        have n3_ := Ym (Yl (g := gb213) (o := .cells #[.int .i64 t209, .int .i64 t210, .int .i64 t211] 28 (0, 0)) (by (with_reducible repeat (first | refine Yd ?_ _ | refine Yf ?_ | refine Ye ?_ _)); exact BK213.out) hb)
        have n4_ := Ym (Yl (g := gb218) (o := .cells #[.int .i64 t214, .int .i64 t215, .int .i64 t216] 28 (0, 0)) (by (with_reducible repeat (first | refine Yd ?_ _ | refine Yf ?_ | refine Ye ?_ _)); exact BK218.out) hb)
        have n5_ := Ym (Yj (by repeat (first | (with_reducible first | exact HB.out | apply Yc | apply Ya | apply Yb | refine Yg ?_ GE197.out | refine Yg ?_ GE203.out | refine Yg ?_ GE208.out | refine Yg ?_ GE213.out | refine Yg ?_ GE218.out) | exact HB.out)) hb)
        clear BK197
        clear BK203
        clear BK208
        clear BK213
        clear BK218
        clear HB
        have BK197 := n0_
        have BK203 := n1_
        have BK208 := n2_
        have BK213 := n3_
        have BK218 := n4_
        have HB := n5_
        clear n0_ n1_ n2_ n3_ n4_ n5_
        (try clear hb)
        (try clear hb2)
        (try clear hk)
        (try clear hi)
        refine hK.out _ _ ⟨(Yh BK203.out 0).trans rfl, (Yh BK203.out 1).trans rfl, (Yh BK203.out 2).trans rfl, (Yh BK208.out 0).trans rfl, (Yh BK208.out 1).trans rfl, (Yh BK208.out 2).trans rfl, (Yh BK213.out 0).trans rfl, (Yh BK213.out 1).trans rfl, (Yh BK213.out 2).trans rfl, (Yh BK218.out 0).trans rfl, (Yh BK218.out 1).trans rfl, (Yh BK218.out 2).trans rfl, (Yh BK197.out 0).trans rfl, (Yh BK197.out 1).trans rfl, (Yh BK197.out 2).trans rfl, (Yh BK197.out 3).trans rfl, (Yh BK197.out 4).trans rfl, (Yh BK197.out 5).trans rfl, (Yh BK197.out 6).trans rfl, (Yh BK197.out 7).trans rfl⟩ (fun hHeld => ?_)
        clear hK K
        refine norm_ (a' := ?_) ?_ ?_
        rotate_left
        ·show Act.put _ (some 82) _ = _
         simp only [Act.put, Yo, Yp, Yq, i64_w, i32_w]
         rfl
        refine one_ (i := 36) (N := some 86) #[true, true, true, true, true, true, true, true, true, true, true, true, true, true, true, true, true, true, true, true, true, true, true, true, true, true, true, true, true, true, true, true, true, true, true, true, true, false, false] rfl rfl (one_of HT_.out (by kernel_rfl)) (by decide) (fun K hK => ?_)
        refine goes_ Try.func18 (by kernel_rfl) rfl #[.agg #[.int .i64 q0, .int .i64 q1, .int .i64 q2, .int .i64 q3, .int .i64 q4, .int .i64 q5, .int .i64 q6, .int .i64 q7], .int .i64 a2, .int .i64 a3] (by rfl) rfl rfl (by (try simp only [List.map_toArray, List.map_cons, List.map_nil]); first | done | rfl | (simp only [List.length_drop, List.length_take]; rfl)) ?_
        with_reducible refine (mooringsref08_Who.calls k q0 q1 q2 q3 q4 q5 q6 q7 a2 a3 t222 _ A57.out).mono ?_
        rintro e w61 ⟨rfl, hb⟩
        refine ⟨_, rfl, ?_⟩
        have n0_ := Ym (Yl (g := gb197) (o := .cells #[.int .i64 q0, .int .i64 q1, .int .i64 q2, .int .i64 q3, .int .i64 q4, .int .i64 q5, .int .i64 q6, .int .i64 q7] 25 (0, 0)) (by (with_reducible repeat (first | refine Yd ?_ _ | refine Yf ?_ | refine Ye ?_ _)); exact BK197.out) hb)
        have n1_ := Ym (Yl (g := gb203) (o := .cells #[.int .i64 t199, .int .i64 t200, .int .i64 t201] 28 (0, 0)) (by (with_reducible repeat (first | refine Yd ?_ _ | refine Yf ?_ | refine Ye ?_ _)); exact BK203.out) hb)
        have n2_ := Ym (Yl (g := gb208) (o := .cells #[.int .i64 t204, .int .i64 t205, .int .i64 t206] 28 (0, 0)) (by (with_reducible repeat (first | refine Yd ?_ _ | refine Yf ?_ | refine Ye ?_ _)); exact BK208.out) hb)
        have n3_ := Ym (Yl (g := gb213) (o := .cells #[.int .i64 t209, .int .i64 t210, .int .i64 t211] 28 (0, 0)) (by (with_reducible repeat (first | refine Yd ?_ _ | refine Yf ?_ | refine Ye ?_ _)); exact BK213.out) hb)
        have n4_ := Ym (Yl (g := gb218) (o := .cells #[.int .i64 t214, .int .i64 t215, .int .i64 t216] 28 (0, 0)) (by (with_reducible repeat (first | refine Yd ?_ _ | refine Yf ?_ | refine Ye ?_ _)); exact BK218.out) hb)
        have n5_ := Ym (Yj (by repeat (first | (with_reducible first | exact HB.out | apply Yc | apply Ya | apply Yb | refine Yg ?_ GE197.out | refine Yg ?_ GE203.out | refine Yg ?_ GE208.out | refine Yg ?_ GE213.out | refine Yg ?_ GE218.out) | exact HB.out)) hb)
        clear BK197
        clear BK203
        clear BK208
        clear BK213
        clear BK218
        clear HB
        have BK197 := n0_
        have BK203 := n1_
        have BK208 := n2_
        have BK213 := n3_
        have BK218 := n4_
        have HB := n5_
        clear n0_ n1_ n2_ n3_ n4_ n5_
        (try clear hb)
        (try clear hb2)
        (try clear hk)
        (try clear hi)
        refine hK.out _ _ ⟨(Yh BK203.out 0).trans rfl, (Yh BK203.out 1).trans rfl, (Yh BK203.out 2).trans rfl, (Yh BK208.out 0).trans rfl, (Yh BK208.out 1).trans rfl, (Yh BK208.out 2).trans rfl, (Yh BK213.out 0).trans rfl, (Yh BK213.out 1).trans rfl, (Yh BK213.out 2).trans rfl, (Yh BK218.out 0).trans rfl, (Yh BK218.out 1).trans rfl, (Yh BK218.out 2).trans rfl, (Yh BK197.out 0).trans rfl, (Yh BK197.out 1).trans rfl, (Yh BK197.out 2).trans rfl, (Yh BK197.out 3).trans rfl, (Yh BK197.out 4).trans rfl, (Yh BK197.out 5).trans rfl, (Yh BK197.out 6).trans rfl, (Yh BK197.out 7).trans rfl⟩ (fun hHeld => ?_)
        clear hK K
        refine norm_ (a' := ?_) ?_ ?_
        rotate_left
        ·show Act.put _ (some 86) _ = _
         simp only [Act.put, Yo, Yp, Yq, i64_w, i32_w]
         rfl
        refine pure_ (i := 37) (N := some 87) (v := ?_) (a' := ?_) #[true, true, true, true, true, true, true, true, true, true, true, true, true, true, true, true, true, true, true, true, true, true, true, true, true, true, true, true, true, true, true, true, true, true, true, true, true, true, false] rfl rfl (any_of HT_.out (by kernel_rfl)) (fun _ _ _ h => h) (Or.inl ⟨by rfl, ?_⟩) ?_ ?_
        rotate_left
        ·intro w'
         go_simp
         with_reducible rfl
        rotate_left
        ·simp only [Act.put, Yo, Yp, Yq, i64_w, i32_w]
         rfl
        refine pure_ (i := 38) (N := some 88) (v := ?_) (a' := ?_) #[true, true, true, true, true, true, true, true, true, true, true, true, true, true, true, true, true, true, true, true, true, true, true, true, true, true, true, true, true, true, true, true, true, true, true, true, true, true, true] rfl rfl (any_of HT_.out (by kernel_rfl)) (fun _ _ _ h => h) (Or.inl ⟨by rfl, ?_⟩) ?_ ?_
        rotate_left
        ·intro w'
         go_simp
         with_reducible rfl
        rotate_left
        ·simp only [Act.put, Yo, Yp, Yq, i64_w, i32_w]
         rfl
        refine done_ (done_of HT_.out (by kernel_rfl)) ?_
        try go_wp2
        go_meet
        case rel => exact ⟨_, ((t221 != t222)), (by first | rfl | (simp; done) | (simp [*]; done)), H', ⟨by first | omega | exact Nat.le_refl _⟩, ⟨by (with_reducible repeat (first | refine Yd ?_ _ | refine Yf ?_ | refine Ye ?_ _)); exact BK197.out⟩, ⟨by (with_reducible repeat (first | refine Yd ?_ _ | refine Yf ?_ | refine Ye ?_ _)); exact BK203.out⟩, ⟨by (with_reducible repeat (first | refine Yd ?_ _ | refine Yf ?_ | refine Ye ?_ _)); exact BK208.out⟩, ⟨by (with_reducible repeat (first | refine Yd ?_ _ | refine Yf ?_ | refine Ye ?_ _)); exact BK213.out⟩, ⟨by (with_reducible repeat (first | refine Yd ?_ _ | refine Yf ?_ | refine Ye ?_ _)); exact BK218.out⟩, ⟨by repeat (first | (with_reducible first | exact HB.out | apply Yc | apply Ya | apply Yb | refine Yg ?_ GE197.out | refine Yg ?_ GE203.out | refine Yg ?_ GE208.out | refine Yg ?_ GE213.out | refine Yg ?_ GE218.out) | exact HB.out)⟩⟩
  ·replace c43 := Bool.eq_false_iff.mpr c43
   subst c43
   have H1 : (mooringslaw08_DetTells.j0 k a2 a3 true q0 q1 q2 q3 q4 q5 q6 q7) = some r := by rw [if_neg (show ¬ (false = true) by decide)] at H; exact H
   clear H
   have H := H1
   exact absurd (H.trans (congrArg some hT.out)) (mooringslaw08_DetTells.no _ _ _ _ _ _ _ _ _ _ _)
 case rest =>
  clear HC12
  try clear c1
  try clear p2
  try clear c4
  try clear c16
  try clear c17
  try clear c18
  try clear c43
  obtain ⟨kq, x88_11, rfl, HA, HJ11, BK197, BK203, BK208, BK213, BK218, HB⟩ := hcut
  cases kq with
  | zero => exact absurd HA.out (by simp [mooringslaw08_DetTells.j0])
  | succ kj11 =>
   have H := HA.out
   clear HA
   simp only [mooringslaw08_DetTells.j0] at H
   by_cases c63 : x88_11 = true
   ·subst c63
    have H1 : (some false) = some r := by rw [if_pos rfl] at H; exact H
    clear H
    have H := H1
    exact absurd (H.trans (congrArg some hT.out)) (by decide)
   ·replace c63 := Bool.eq_false_iff.mpr c63
    subst c63
    have H1 : ((detmap_Ratio.f q0 q1 q2 q3 q4 q5 q6 q7).bind fun t223 => ((mooringsref08_Ratio.f kj11 q0 q1 q2 q3 q4 q5 q6 q7).bind fun t224 => (if t223 = t224 then ((detmap_Each.f q0 q1 q2 q3 q4 q5 q6 q7).bind fun t225 => ((mooringsref08_Each.f kj11 q0 q1 q2 q3 q4 q5 q6 q7).bind fun t226 => (if t225 = t226 then ((detmap_Blocks.f q0 q1 q2 q3 q4 q5 q6 q7).bind fun t227 => ((mooringsref08_Blocks.f kj11 q0 q1 q2 q3 q4 q5 q6 q7).bind fun t228 => (if t227 = t228 then ((detmap_Which.f kj11 q0 q1 q2 q3 q4 q5 q6 q7 a2 a3).bind fun t229 => ((mooringsref08_Which.f kj11 q0 q1 q2 q3 q4 q5 q6 q7 a2 a3).bind fun t230 => (some (t229 == t230)))) else (some false)))) else (some false)))) else (some false)))) = some r := by rw [if_neg (show ¬ (false = true) by decide)] at H; exact H
    clear H
    have H := H1
    clear H1
    replace H := Option.bind_eq_some_iff.mp H
    obtain ⟨t223, A640, H⟩ := H
    replace H : ((mooringsref08_Ratio.f kj11 q0 q1 q2 q3 q4 q5 q6 q7).bind fun t224 => (if t223 = t224 then ((detmap_Each.f q0 q1 q2 q3 q4 q5 q6 q7).bind fun t225 => ((mooringsref08_Each.f kj11 q0 q1 q2 q3 q4 q5 q6 q7).bind fun t226 => (if t225 = t226 then ((detmap_Blocks.f q0 q1 q2 q3 q4 q5 q6 q7).bind fun t227 => ((mooringsref08_Blocks.f kj11 q0 q1 q2 q3 q4 q5 q6 q7).bind fun t228 => (if t227 = t228 then ((detmap_Which.f kj11 q0 q1 q2 q3 q4 q5 q6 q7 a2 a3).bind fun t229 => ((mooringsref08_Which.f kj11 q0 q1 q2 q3 q4 q5 q6 q7 a2 a3).bind fun t230 => (some (t229 == t230)))) else (some false)))) else (some false)))) else (some false))) = some r := H
    have A64 := Ym A640
    clear A640
    replace H := Option.bind_eq_some_iff.mp H
    obtain ⟨t224, A650, H⟩ := H
    replace H : (if t223 = t224 then ((detmap_Each.f q0 q1 q2 q3 q4 q5 q6 q7).bind fun t225 => ((mooringsref08_Each.f kj11 q0 q1 q2 q3 q4 q5 q6 q7).bind fun t226 => (if t225 = t226 then ((detmap_Blocks.f q0 q1 q2 q3 q4 q5 q6 q7).bind fun t227 => ((mooringsref08_Blocks.f kj11 q0 q1 q2 q3 q4 q5 q6 q7).bind fun t228 => (if t227 = t228 then ((detmap_Which.f kj11 q0 q1 q2 q3 q4 q5 q6 q7 a2 a3).bind fun t229 => ((mooringsref08_Which.f kj11 q0 q1 q2 q3 q4 q5 q6 q7 a2 a3).bind fun t230 => (some (t229 == t230)))) else (some false)))) else (some false)))) else (some false)) = some r := H
    have A65 := Ym A650
    clear A650
    by_cases c66 : t223 = t224
    ·rw [if_pos c66] at H
     have c66b0 : (t223 == t224) = true := beq_iff_eq.mpr c66
     have c66b1 : (t223 != t224) = false := bne_eq_false_iff_eq.mpr c66
     clear c66
     replace H := Option.bind_eq_some_iff.mp H
     obtain ⟨t225, A670, H⟩ := H
     replace H : ((mooringsref08_Each.f kj11 q0 q1 q2 q3 q4 q5 q6 q7).bind fun t226 => (if t225 = t226 then ((detmap_Blocks.f q0 q1 q2 q3 q4 q5 q6 q7).bind fun t227 => ((mooringsref08_Blocks.f kj11 q0 q1 q2 q3 q4 q5 q6 q7).bind fun t228 => (if t227 = t228 then ((detmap_Which.f kj11 q0 q1 q2 q3 q4 q5 q6 q7 a2 a3).bind fun t229 => ((mooringsref08_Which.f kj11 q0 q1 q2 q3 q4 q5 q6 q7 a2 a3).bind fun t230 => (some (t229 == t230)))) else (some false)))) else (some false))) = some r := H
     have A67 := Ym A670
     clear A670
     replace H := Option.bind_eq_some_iff.mp H
     obtain ⟨t226, A680, H⟩ := H
     replace H : (if t225 = t226 then ((detmap_Blocks.f q0 q1 q2 q3 q4 q5 q6 q7).bind fun t227 => ((mooringsref08_Blocks.f kj11 q0 q1 q2 q3 q4 q5 q6 q7).bind fun t228 => (if t227 = t228 then ((detmap_Which.f kj11 q0 q1 q2 q3 q4 q5 q6 q7 a2 a3).bind fun t229 => ((mooringsref08_Which.f kj11 q0 q1 q2 q3 q4 q5 q6 q7 a2 a3).bind fun t230 => (some (t229 == t230)))) else (some false)))) else (some false)) = some r := H
     have A68 := Ym A680
     clear A680
     by_cases c69 : t225 = t226
     ·rw [if_pos c69] at H
      have c69b0 : (t225 == t226) = true := beq_iff_eq.mpr c69
      have c69b1 : (t225 != t226) = false := bne_eq_false_iff_eq.mpr c69
      clear c69
      replace H := Option.bind_eq_some_iff.mp H
      obtain ⟨t227, A700, H⟩ := H
      replace H : ((mooringsref08_Blocks.f kj11 q0 q1 q2 q3 q4 q5 q6 q7).bind fun t228 => (if t227 = t228 then ((detmap_Which.f kj11 q0 q1 q2 q3 q4 q5 q6 q7 a2 a3).bind fun t229 => ((mooringsref08_Which.f kj11 q0 q1 q2 q3 q4 q5 q6 q7 a2 a3).bind fun t230 => (some (t229 == t230)))) else (some false))) = some r := H
      have A70 := Ym A700
      clear A700
      replace H := Option.bind_eq_some_iff.mp H
      obtain ⟨t228, A710, H⟩ := H
      replace H : (if t227 = t228 then ((detmap_Which.f kj11 q0 q1 q2 q3 q4 q5 q6 q7 a2 a3).bind fun t229 => ((mooringsref08_Which.f kj11 q0 q1 q2 q3 q4 q5 q6 q7 a2 a3).bind fun t230 => (some (t229 == t230)))) else (some false)) = some r := H
      have A71 := Ym A710
      clear A710
      by_cases c72 : t227 = t228
      ·rw [if_pos c72] at H
       have c72b0 : (t227 == t228) = true := beq_iff_eq.mpr c72
       have c72b1 : (t227 != t228) = false := bne_eq_false_iff_eq.mpr c72
       clear c72
       replace H := Option.bind_eq_some_iff.mp H
       obtain ⟨t229, A730, H⟩ := H
       replace H : ((mooringsref08_Which.f kj11 q0 q1 q2 q3 q4 q5 q6 q7 a2 a3).bind fun t230 => (some (t229 == t230))) = some r := H
       have A73 := Ym A730
       clear A730
       replace H := Option.bind_eq_some_iff.mp H
       obtain ⟨t230, A740, H⟩ := H
       replace H : (some (t229 == t230)) = some r := H
       have A74 := Ym A740
       clear A740
       obtain rfl := Option.some.inj H
       try go_wp2
       have n0_ := Ym (Yf BK197.out)
       have n1_ := Ym (Yf BK203.out)
       have n2_ := Ym (Yf BK208.out)
       have n3_ := Ym (Yf BK213.out)
       have n4_ := Ym (Yf BK218.out)
       have n5_ := Ym (Yb HB.out)
       clear BK197
       clear BK203
       clear BK208
       clear BK213
       clear BK218
       clear HB
       have BK197 := n0_
       have BK203 := n1_
       have BK208 := n2_
       have BK213 := n3_
       have BK218 := n4_
       have HB := n5_
       clear n0_ n1_ n2_ n3_ n4_ n5_
       refine start_ (n := 31) (S := fun w' => w'.cell? ⟨gb197, 0, none⟩ = some (.int .i64 q0) ∧ w'.cell? ⟨gb197, 1, none⟩ = some (.int .i64 q1) ∧ w'.cell? ⟨gb197, 2, none⟩ = some (.int .i64 q2) ∧ w'.cell? ⟨gb197, 3, none⟩ = some (.int .i64 q3) ∧ w'.cell? ⟨gb197, 4, none⟩ = some (.int .i64 q4) ∧ w'.cell? ⟨gb197, 5, none⟩ = some (.int .i64 q5) ∧ w'.cell? ⟨gb197, 6, none⟩ = some (.int .i64 q6) ∧ w'.cell? ⟨gb197, 7, none⟩ = some (.int .i64 q7)) (ds := []) #[false, false, false, false, false, false, false, false, false, false, false, false, false, false, false, false, false, false, false, false, false, false, false, false, false, false, false, false, false, false, false] (by kernel_rfl) rfl rfl ⟨(Yh BK197.out 0).trans rfl, (Yh BK197.out 1).trans rfl, (Yh BK197.out 2).trans rfl, (Yh BK197.out 3).trans rfl, (Yh BK197.out 4).trans rfl, (Yh BK197.out 5).trans rfl, (Yh BK197.out 6).trans rfl, (Yh BK197.out 7).trans rfl⟩ (fun hHeld => ?_); refine with_tabW mooringslaw08_DetTells.tab9 mooringslaw08_DetTells.bits9 (fun HT_ HW_ => ?_)
       generalize wc.drew = w75 at BK197 BK203 BK208 BK213 BK218 HB hHeld ⊢
       refine take_ (i := 0) (N := some 89) (v := ?_) (a' := ?_) #[true, false, false, false, false, false, false, false, false, false, false, false, false, false, false, false, false, false, false, false, false, false, false, false, false, false, false, false, false, false, false] rfl rfl (take_ofW HT_.out HW_.out (by kernel_rfl)) (fun _ _ _ h => h) (Or.inl ⟨by rfl, ?_⟩) hHeld ?_ ?_
       rotate_left
       ·rintro w' ⟨s0, s1, s2, s3, s4, s5, s6, s7⟩
        go_simp
        with_reducible rfl
       rotate_left
       ·simp only [Act.put, Yo, Yp, Yq, i64_w, i32_w]
        rfl
       refine take_ (i := 2) (N := some 91) (v := ?_) (a' := ?_) #[true, false, true, false, false, false, false, false, false, false, false, false, false, false, false, false, false, false, false, false, false, false, false, false, false, false, false, false, false, false, false] rfl rfl (take_ofW HT_.out HW_.out (by kernel_rfl)) (fun _ _ _ h => h) (Or.inl ⟨by rfl, ?_⟩) hHeld ?_ ?_
       rotate_left
       ·rintro w' ⟨s0, s1, s2, s3, s4, s5, s6, s7⟩
        go_simp
        with_reducible rfl
       rotate_left
       ·simp only [Act.put, Yo, Yp, Yq, i64_w, i32_w]
        rfl
       refine one_ (i := 1) (N := some 90) #[true, true, true, false, false, false, false, false, false, false, false, false, false, false, false, false, false, false, false, false, false, false, false, false, false, false, false, false, false, false, false] rfl rfl (one_of HT_.out (by kernel_rfl)) (by decide) (fun K hK => ?_)
       refine goes_ Try.func19 (by kernel_rfl) rfl #[.agg #[.int .i64 q0, .int .i64 q1, .int .i64 q2, .int .i64 q3, .int .i64 q4, .int .i64 q5, .int .i64 q6, .int .i64 q7]] (by rfl) rfl rfl (by (try simp only [List.map_toArray, List.map_cons, List.map_nil]); first | done | rfl | (simp only [List.length_drop, List.length_take]; rfl)) ?_
       with_reducible refine (detmap_Ratio.calls q0 q1 q2 q3 q4 q5 q6 q7 t223 _ A64.out).mono ?_
       rintro e w76 ⟨rfl, hb⟩
       refine ⟨_, rfl, ?_⟩
       have n0_ := Ym (Yl (g := gb197) (o := .cells #[.int .i64 q0, .int .i64 q1, .int .i64 q2, .int .i64 q3, .int .i64 q4, .int .i64 q5, .int .i64 q6, .int .i64 q7] 25 (0, 0)) (by (with_reducible repeat (first | refine Yd ?_ _ | refine Yf ?_ | refine Ye ?_ _)); exact BK197.out) hb)
       have n1_ := Ym (Yl (g := gb203) (o := .cells #[.int .i64 t199, .int .i64 t200, .int .i64 t201] 28 (0, 0)) (by (with_reducible repeat (first | refine Yd ?_ _ | refine Yf ?_ | refine Ye ?_ _)); exact BK203.out) hb)
       have n2_ := Ym (Yl (g := gb208) (o := .cells #[.int .i64 t204, .int .i64 t205, .int .i64 t206] 28 (0, 0)) (by (with_reducible repeat (first | refine Yd ?_ _ | refine Yf ?_ | refine Ye ?_ _)); exact BK208.out) hb)
       have n3_ := Ym (Yl (g := gb213) (o := .cells #[.int .i64 t209, .int .i64 t210, .int .i64 t211] 28 (0, 0)) (by (with_reducible repeat (first | refine Yd ?_ _ | refine Yf ?_ | refine Ye ?_ _)); exact BK213.out) hb)
       have n4_ := Ym (Yl (g := gb218) (o := .cells #[.int .i64 t214, .int .i64 t215, .int .i64 t216] 28 (0, 0)) (by (with_reducible repeat (first | refine Yd ?_ _ | refine Yf ?_ | refine Ye ?_ _)); exact BK218.out) hb)
       have n5_ := Ym (Yj (by repeat (first | (with_reducible first | exact HB.out | apply Yc | apply Ya | apply Yb | refine Yg ?_ GE197.out | refine Yg ?_ GE203.out | refine Yg ?_ GE208.out | refine Yg ?_ GE213.out | refine Yg ?_ GE218.out) | exact HB.out)) hb)
       clear BK197
       clear BK203
       clear BK208
       clear BK213
       clear BK218
       clear HB
       have BK197 := n0_
       have BK203 := n1_
       have BK208 := n2_
       have BK213 := n3_
       have BK218 := n4_
       have HB := n5_
       clear n0_ n1_ n2_ n3_ n4_ n5_
       (try clear hb)
       (try clear hb2)
       (try clear hk)
       (try clear hi)
       refine hK.out _ _ ⟨(Yh BK197.out 0).trans rfl, (Yh BK197.out 1).trans rfl, (Yh BK197.out 2).trans rfl, (Yh BK197.out 3).trans rfl, (Yh BK197.out 4).trans rfl, (Yh BK197.out 5).trans rfl, (Yh BK197.out 6).trans rfl, (Yh BK197.out 7).trans rfl⟩ (fun hHeld => ?_)
       clear hK K
       refine norm_ (a' := ?_) ?_ ?_
       rotate_left
       ·show Act.put _ (some 90) _ = _
        simp only [Act.put, Yo, Yp, Yq, i64_w, i32_w]
        rfl
       refine one_ (i := 3) (N := some 92) #[true, true, true, true, false, false, false, false, false, false, false, false, false, false, false, false, false, false, false, false, false, false, false, false, false, false, false, false, false, false, false] rfl rfl (one_of HT_.out (by kernel_rfl)) (by decide) (fun K hK => ?_)
       refine goes_ Try.func20 (by kernel_rfl) rfl #[.agg #[.int .i64 q0, .int .i64 q1, .int .i64 q2, .int .i64 q3, .int .i64 q4, .int .i64 q5, .int .i64 q6, .int .i64 q7]] (by rfl) rfl rfl (by (try simp only [List.map_toArray, List.map_cons, List.map_nil]); first | done | rfl | (simp only [List.length_drop, List.length_take]; rfl)) ?_
       with_reducible refine (mooringsref08_Ratio.calls kj11 q0 q1 q2 q3 q4 q5 q6 q7 t224 _ A65.out).mono ?_
       rintro e w77 ⟨rfl, hb⟩
       refine ⟨_, rfl, ?_⟩
       have n0_ := Ym (Yl (g := gb197) (o := .cells #[.int .i64 q0, .int .i64 q1, .int .i64 q2, .int .i64 q3, .int .i64 q4, .int .i64 q5, .int .i64 q6, .int .i64 q7] 25 (0, 0)) (by (with_reducible repeat (first | refine Yd ?_ _ | refine Yf ?_ | refine Ye ?_ _)); exact BK197.out) hb)
       have n1_ := Ym (Yl (g := gb203) (o := .cells #[.int .i64 t199, .int .i64 t200, .int .i64 t201] 28 (0, 0)) (by (with_reducible repeat (first | refine Yd ?_ _ | refine Yf ?_ | refine Ye ?_ _)); exact BK203.out) hb)
       have n2_ := Ym (Yl (g := gb208) (o := .cells #[.int .i64 t204, .int .i64 t205, .int .i64 t206] 28 (0, 0)) (by (with_reducible repeat (first | refine Yd ?_ _ | refine Yf ?_ | refine Ye ?_ _)); exact BK208.out) hb)
       have n3_ := Ym (Yl (g := gb213) (o := .cells #[.int .i64 t209, .int .i64 t210, .int .i64 t211] 28 (0, 0)) (by (with_reducible repeat (first | refine Yd ?_ _ | refine Yf ?_ | refine Ye ?_ _)); exact BK213.out) hb)
       have n4_ := Ym (Yl (g := gb218) (o := .cells #[.int .i64 t214, .int .i64 t215, .int .i64 t216] 28 (0, 0)) (by (with_reducible repeat (first | refine Yd ?_ _ | refine Yf ?_ | refine Ye ?_ _)); exact BK218.out) hb)
       have n5_ := Ym (Yj (by repeat (first | (with_reducible first | exact HB.out | apply Yc | apply Ya | apply Yb | refine Yg ?_ GE197.out | refine Yg ?_ GE203.out | refine Yg ?_ GE208.out | refine Yg ?_ GE213.out | refine Yg ?_ GE218.out) | exact HB.out)) hb)
       clear BK197
       clear BK203
       clear BK208
       clear BK213
       clear BK218
       clear HB
       have BK197 := n0_
       have BK203 := n1_
       have BK208 := n2_
       have BK213 := n3_
       have BK218 := n4_
       have HB := n5_
       clear n0_ n1_ n2_ n3_ n4_ n5_
       (try clear hb)
       (try clear hb2)
       (try clear hk)
       (try clear hi)
       refine hK.out _ _ ⟨(Yh BK197.out 0).trans rfl, (Yh BK197.out 1).trans rfl, (Yh BK197.out 2).trans rfl, (Yh BK197.out 3).trans rfl, (Yh BK197.out 4).trans rfl, (Yh BK197.out 5).trans rfl, (Yh BK197.out 6).trans rfl, (Yh BK197.out 7).trans rfl⟩ (fun hHeld => ?_)
       clear hK K
       refine norm_ (a' := ?_) ?_ ?_
       rotate_left
       ·show Act.put _ (some 92) _ = _
        simp only [Act.put, Yo, Yp, Yq, i64_w, i32_w]
        rfl
       refine pure_ (i := 4) (N := some 93) (v := ?_) (a' := ?_) #[true, true, true, true, true, false, false, false, false, false, false, false, false, false, false, false, false, false, false, false, false, false, false, false, false, false, false, false, false, false, false] rfl rfl (any_of HT_.out (by kernel_rfl)) (fun _ _ _ h => h) (Or.inl ⟨by rfl, ?_⟩) ?_ ?_
       rotate_left
       ·intro w'
        go_simp
        with_reducible rfl
       rotate_left
       ·simp only [Act.put, Yo, Yp, Yq, i64_w, i32_w]
        rfl
       refine pure_ (i := 5) (N := some 94) (v := ?_) (a' := ?_) #[true, true, true, true, true, true, false, false, false, false, false, false, false, false, false, false, false, false, false, false, false, false, false, false, false, false, false, false, false, false, false] rfl rfl (any_of HT_.out (by kernel_rfl)) (fun _ _ _ h => h) (Or.inl ⟨by rfl, ?_⟩) ?_ ?_
       rotate_left
       ·intro w'
        go_simp
        with_reducible rfl
       rotate_left
       ·simp only [Act.put, Yo, Yp, Yq, i64_w, i32_w]
        rfl
       refine take_ (i := 6) (N := some 95) (v := ?_) (a' := ?_) #[true, true, true, true, true, true, true, false, false, false, false, false, false, false, false, false, false, false, false, false, false, false, false, false, false, false, false, false, false, false, false] rfl rfl (take_ofW HT_.out HW_.out (by kernel_rfl)) (fun _ _ _ h => h) (Or.inl ⟨by rfl, ?_⟩) hHeld ?_ ?_
       rotate_left
       ·rintro w' ⟨s0, s1, s2, s3, s4, s5, s6, s7⟩
        go_simp
        with_reducible rfl
       rotate_left
       ·simp only [Act.put, Yo, Yp, Yq, i64_w, i32_w]
        rfl
       refine take_ (i := 8) (N := some 97) (v := ?_) (a' := ?_) #[true, true, true, true, true, true, true, false, true, false, false, false, false, false, false, false, false, false, false, false, false, false, false, false, false, false, false, false, false, false, false] rfl rfl (take_ofW HT_.out HW_.out (by kernel_rfl)) (fun _ _ _ h => h) (Or.inl ⟨by rfl, ?_⟩) hHeld ?_ ?_
       rotate_left
       ·rintro w' ⟨s0, s1, s2, s3, s4, s5, s6, s7⟩
        go_simp
        with_reducible rfl
       rotate_left
       ·simp only [Act.put, Yo, Yp, Yq, i64_w, i32_w]
        rfl
       refine one_ (i := 7) (N := some 96) #[true, true, true, true, true, true, true, true, true, false, false, false, false, false, false, false, false, false, false, false, false, false, false, false, false, false, false, false, false, false, false] rfl rfl (one_of HT_.out (by kernel_rfl)) (by decide) (fun K hK => ?_)
       refine goes_ Try.func21 (by kernel_rfl) rfl #[.agg #[.int .i64 q0, .int .i64 q1, .int .i64 q2, .int .i64 q3, .int .i64 q4, .int .i64 q5, .int .i64 q6, .int .i64 q7]] (by rfl) rfl rfl (by (try simp only [List.map_toArray, List.map_cons, List.map_nil]); first | done | rfl | (simp only [List.length_drop, List.length_take]; rfl)) ?_
       with_reducible refine (detmap_Each.calls q0 q1 q2 q3 q4 q5 q6 q7 t225 _ A67.out).mono ?_
       rintro e w78 ⟨rfl, hb⟩
       refine ⟨_, rfl, ?_⟩
       have n0_ := Ym (Yl (g := gb197) (o := .cells #[.int .i64 q0, .int .i64 q1, .int .i64 q2, .int .i64 q3, .int .i64 q4, .int .i64 q5, .int .i64 q6, .int .i64 q7] 25 (0, 0)) (by (with_reducible repeat (first | refine Yd ?_ _ | refine Yf ?_ | refine Ye ?_ _)); exact BK197.out) hb)
       have n1_ := Ym (Yl (g := gb203) (o := .cells #[.int .i64 t199, .int .i64 t200, .int .i64 t201] 28 (0, 0)) (by (with_reducible repeat (first | refine Yd ?_ _ | refine Yf ?_ | refine Ye ?_ _)); exact BK203.out) hb)
       have n2_ := Ym (Yl (g := gb208) (o := .cells #[.int .i64 t204, .int .i64 t205, .int .i64 t206] 28 (0, 0)) (by (with_reducible repeat (first | refine Yd ?_ _ | refine Yf ?_ | refine Ye ?_ _)); exact BK208.out) hb)
       have n3_ := Ym (Yl (g := gb213) (o := .cells #[.int .i64 t209, .int .i64 t210, .int .i64 t211] 28 (0, 0)) (by (with_reducible repeat (first | refine Yd ?_ _ | refine Yf ?_ | refine Ye ?_ _)); exact BK213.out) hb)
       have n4_ := Ym (Yl (g := gb218) (o := .cells #[.int .i64 t214, .int .i64 t215, .int .i64 t216] 28 (0, 0)) (by (with_reducible repeat (first | refine Yd ?_ _ | refine Yf ?_ | refine Ye ?_ _)); exact BK218.out) hb)
       have n5_ := Ym (Yj (by repeat (first | (with_reducible first | exact HB.out | apply Yc | apply Ya | apply Yb | refine Yg ?_ GE197.out | refine Yg ?_ GE203.out | refine Yg ?_ GE208.out | refine Yg ?_ GE213.out | refine Yg ?_ GE218.out) | exact HB.out)) hb)
       clear BK197
       clear BK203
       clear BK208
       clear BK213
       clear BK218
       clear HB
       have BK197 := n0_
       have BK203 := n1_
       have BK208 := n2_
       have BK213 := n3_
       have BK218 := n4_
       have HB := n5_
       clear n0_ n1_ n2_ n3_ n4_ n5_
       (try clear hb)
       (try clear hb2)
       (try clear hk)
       (try clear hi)
       refine hK.out _ _ ⟨(Yh BK197.out 0).trans rfl, (Yh BK197.out 1).trans rfl, (Yh BK197.out 2).trans rfl, (Yh BK197.out 3).trans rfl, (Yh BK197.out 4).trans rfl, (Yh BK197.out 5).trans rfl, (Yh BK197.out 6).trans rfl, (Yh BK197.out 7).trans rfl⟩ (fun hHeld => ?_)
       clear hK K
       refine norm_ (a' := ?_) ?_ ?_
       rotate_left
       ·show Act.put _ (some 96) _ = _
        simp only [Act.put, Yo, Yp, Yq, i64_w, i32_w]
        rfl
       refine one_ (i := 9) (N := some 98) #[true, true, true, true, true, true, true, true, true, true, false, false, false, false, false, false, false, false, false, false, false, false, false, false, false, false, false, false, false, false, false] rfl rfl (one_of HT_.out (by kernel_rfl)) (by decide) (fun K hK => ?_)
       refine goes_ Try.func22 (by kernel_rfl) rfl #[.agg #[.int .i64 q0, .int .i64 q1, .int .i64 q2, .int .i64 q3, .int .i64 q4, .int .i64 q5, .int .i64 q6, .int .i64 q7]] (by rfl) rfl rfl (by (try simp only [List.map_toArray, List.map_cons, List.map_nil]); first | done | rfl | (simp only [List.length_drop, List.length_take]; rfl)) ?_
       with_reducible refine (mooringsref08_Each.calls kj11 q0 q1 q2 q3 q4 q5 q6 q7 t226 _ A68.out).mono ?_
       rintro e w79 ⟨rfl, hb⟩
       refine ⟨_, rfl, ?_⟩
       have n0_ := Ym (Yl (g := gb197) (o := .cells #[.int .i64 q0, .int .i64 q1, .int .i64 q2, .int .i64 q3, .int .i64 q4, .int .i64 q5, .int .i64 q6, .int .i64 q7] 25 (0, 0)) (by (with_reducible repeat (first | refine Yd ?_ _ | refine Yf ?_ | refine Ye ?_ _)); exact BK197.out) hb)
       have n1_ := Ym (Yl (g := gb203) (o := .cells #[.int .i64 t199, .int .i64 t200, .int .i64 t201] 28 (0, 0)) (by (with_reducible repeat (first | refine Yd ?_ _ | refine Yf ?_ | refine Ye ?_ _)); exact BK203.out) hb)
       have n2_ := Ym (Yl (g := gb208) (o := .cells #[.int .i64 t204, .int .i64 t205, .int .i64 t206] 28 (0, 0)) (by (with_reducible repeat (first | refine Yd ?_ _ | refine Yf ?_ | refine Ye ?_ _)); exact BK208.out) hb)
       have n3_ := Ym (Yl (g := gb213) (o := .cells #[.int .i64 t209, .int .i64 t210, .int .i64 t211] 28 (0, 0)) (by (with_reducible repeat (first | refine Yd ?_ _ | refine Yf ?_ | refine Ye ?_ _)); exact BK213.out) hb)
       have n4_ := Ym (Yl (g := gb218) (o := .cells #[.int .i64 t214, .int .i64 t215, .int .i64 t216] 28 (0, 0)) (by (with_reducible repeat (first | refine Yd ?_ _ | refine Yf ?_ | refine Ye ?_ _)); exact BK218.out) hb)
       have n5_ := Ym (Yj (by repeat (first | (with_reducible first | exact HB.out | apply Yc | apply Ya | apply Yb | refine Yg ?_ GE197.out | refine Yg ?_ GE203.out | refine Yg ?_ GE208.out | refine Yg ?_ GE213.out | refine Yg ?_ GE218.out) | exact HB.out)) hb)
       clear BK197
       clear BK203
       clear BK208
       clear BK213
       clear BK218
       clear HB
       have BK197 := n0_
       have BK203 := n1_
       have BK208 := n2_
       have BK213 := n3_
       have BK218 := n4_
       have HB := n5_
       clear n0_ n1_ n2_ n3_ n4_ n5_
       (try clear hb)
       (try clear hb2)
       (try clear hk)
       (try clear hi)
       refine hK.out _ _ ⟨(Yh BK197.out 0).trans rfl, (Yh BK197.out 1).trans rfl, (Yh BK197.out 2).trans rfl, (Yh BK197.out 3).trans rfl, (Yh BK197.out 4).trans rfl, (Yh BK197.out 5).trans rfl, (Yh BK197.out 6).trans rfl, (Yh BK197.out 7).trans rfl⟩ (fun hHeld => ?_)
       clear hK K
       refine norm_ (a' := ?_) ?_ ?_
       rotate_left
       ·show Act.put _ (some 98) _ = _
        simp only [Act.put, Yo, Yp, Yq, i64_w, i32_w]
        rfl
       refine pure_ (i := 10) (N := some 99) (v := ?_) (a' := ?_) #[true, true, true, true, true, true, true, true, true, true, true, false, false, false, false, false, false, false, false, false, false, false, false, false, false, false, false, false, false, false, false] rfl rfl (any_of HT_.out (by kernel_rfl)) (fun _ _ _ h => h) (Or.inl ⟨by rfl, ?_⟩) ?_ ?_
       rotate_left
       ·intro w'
        go_simp
        with_reducible rfl
       rotate_left
       ·simp only [Act.put, Yo, Yp, Yq, i64_w, i32_w]
        rfl
       refine pure_ (i := 11) (N := some 100) (v := ?_) (a' := ?_) #[true, true, true, true, true, true, true, true, true, true, true, true, false, false, false, false, false, false, false, false, false, false, false, false, false, false, false, false, false, false, false] rfl rfl (any_of HT_.out (by kernel_rfl)) (fun _ _ _ h => h) (Or.inl ⟨by rfl, ?_⟩) ?_ ?_
       rotate_left
       ·intro w'
        go_simp
        with_reducible rfl
       rotate_left
       ·simp only [Act.put, Yo, Yp, Yq, i64_w, i32_w]
        rfl
       refine pure_ (i := 12) (N := some 101) (v := ?_) (a' := ?_) #[true, true, true, true, true, true, true, true, true, true, true, true, true, false, false, false, false, false, false, false, false, false, false, false, false, false, false, false, false, false, false] rfl rfl (any_of HT_.out (by kernel_rfl)) (fun _ _ _ h => h) (Or.inl ⟨by rfl, ?_⟩) ?_ ?_
       rotate_left
       ·intro w'
        go_simp
        with_reducible rfl
       rotate_left
       ·simp only [Act.put, Yo, Yp, Yq, i64_w, i32_w]
        rfl
       refine take_ (i := 13) (N := some 102) (v := ?_) (a' := ?_) #[true, true, true, true, true, true, true, true, true, true, true, true, true, true, false, false, false, false, false, false, false, false, false, false, false, false, false, false, false, false, false] rfl rfl (take_ofW HT_.out HW_.out (by kernel_rfl)) (fun _ _ _ h => h) (Or.inl ⟨by rfl, ?_⟩) hHeld ?_ ?_
       rotate_left
       ·rintro w' ⟨s0, s1, s2, s3, s4, s5, s6, s7⟩
        go_simp
        with_reducible rfl
       rotate_left
       ·simp only [Act.put, Yo, Yp, Yq, i64_w, i32_w]
        rfl
       refine take_ (i := 15) (N := some 104) (v := ?_) (a' := ?_) #[true, true, true, true, true, true, true, true, true, true, true, true, true, true, false, true, false, false, false, false, false, false, false, false, false, false, false, false, false, false, false] rfl rfl (take_ofW HT_.out HW_.out (by kernel_rfl)) (fun _ _ _ h => h) (Or.inl ⟨by rfl, ?_⟩) hHeld ?_ ?_
       rotate_left
       ·rintro w' ⟨s0, s1, s2, s3, s4, s5, s6, s7⟩
        go_simp
        with_reducible rfl
       rotate_left
       ·simp only [Act.put, Yo, Yp, Yq, i64_w, i32_w]
        rfl
       refine one_ (i := 14) (N := some 103) #[true, true, true, true, true, true, true, true, true, true, true, true, true, true, true, true, false, false, false, false, false, false, false, false, false, false, false, false, false, false, false] rfl rfl (one_of HT_.out (by kernel_rfl)) (by decide) (fun K hK => ?_)
       refine goes_ Try.func23 (by kernel_rfl) rfl #[.agg #[.int .i64 q0, .int .i64 q1, .int .i64 q2, .int .i64 q3, .int .i64 q4, .int .i64 q5, .int .i64 q6, .int .i64 q7]] (by rfl) rfl rfl (by (try simp only [List.map_toArray, List.map_cons, List.map_nil]); first | done | rfl | (simp only [List.length_drop, List.length_take]; rfl)) ?_
       with_reducible refine (detmap_Blocks.calls q0 q1 q2 q3 q4 q5 q6 q7 t227 _ A70.out).mono ?_
       rintro e w80 ⟨rfl, hb⟩
       refine ⟨_, rfl, ?_⟩
       have n0_ := Ym (Yl (g := gb197) (o := .cells #[.int .i64 q0, .int .i64 q1, .int .i64 q2, .int .i64 q3, .int .i64 q4, .int .i64 q5, .int .i64 q6, .int .i64 q7] 25 (0, 0)) (by (with_reducible repeat (first | refine Yd ?_ _ | refine Yf ?_ | refine Ye ?_ _)); exact BK197.out) hb)
       have n1_ := Ym (Yl (g := gb203) (o := .cells #[.int .i64 t199, .int .i64 t200, .int .i64 t201] 28 (0, 0)) (by (with_reducible repeat (first | refine Yd ?_ _ | refine Yf ?_ | refine Ye ?_ _)); exact BK203.out) hb)
       have n2_ := Ym (Yl (g := gb208) (o := .cells #[.int .i64 t204, .int .i64 t205, .int .i64 t206] 28 (0, 0)) (by (with_reducible repeat (first | refine Yd ?_ _ | refine Yf ?_ | refine Ye ?_ _)); exact BK208.out) hb)
       have n3_ := Ym (Yl (g := gb213) (o := .cells #[.int .i64 t209, .int .i64 t210, .int .i64 t211] 28 (0, 0)) (by (with_reducible repeat (first | refine Yd ?_ _ | refine Yf ?_ | refine Ye ?_ _)); exact BK213.out) hb)
       have n4_ := Ym (Yl (g := gb218) (o := .cells #[.int .i64 t214, .int .i64 t215, .int .i64 t216] 28 (0, 0)) (by (with_reducible repeat (first | refine Yd ?_ _ | refine Yf ?_ | refine Ye ?_ _)); exact BK218.out) hb)
       have n5_ := Ym (Yj (by repeat (first | (with_reducible first | exact HB.out | apply Yc | apply Ya | apply Yb | refine Yg ?_ GE197.out | refine Yg ?_ GE203.out | refine Yg ?_ GE208.out | refine Yg ?_ GE213.out | refine Yg ?_ GE218.out) | exact HB.out)) hb)
       clear BK197
       clear BK203
       clear BK208
       clear BK213
       clear BK218
       clear HB
       have BK197 := n0_
       have BK203 := n1_
       have BK208 := n2_
       have BK213 := n3_
       have BK218 := n4_
       have HB := n5_
       clear n0_ n1_ n2_ n3_ n4_ n5_
       (try clear hb)
       (try clear hb2)
       (try clear hk)
       (try clear hi)
       refine hK.out _ _ ⟨(Yh BK197.out 0).trans rfl, (Yh BK197.out 1).trans rfl, (Yh BK197.out 2).trans rfl, (Yh BK197.out 3).trans rfl, (Yh BK197.out 4).trans rfl, (Yh BK197.out 5).trans rfl, (Yh BK197.out 6).trans rfl, (Yh BK197.out 7).trans rfl⟩ (fun hHeld => ?_)
       clear hK K
       refine norm_ (a' := ?_) ?_ ?_
       rotate_left
       ·show Act.put _ (some 103) _ = _
        simp only [Act.put, Yo, Yp, Yq, i64_w, i32_w]
        rfl
       refine one_ (i := 16) (N := some 105) #[true, true, true, true, true, true, true, true, true, true, true, true, true, true, true, true, true, false, false, false, false, false, false, false, false, false, false, false, false, false, false] rfl rfl (one_of HT_.out (by kernel_rfl)) (by decide) (fun K hK => ?_)
       refine goes_ Try.func24 (by kernel_rfl) rfl #[.agg #[.int .i64 q0, .int .i64 q1, .int .i64 q2, .int .i64 q3, .int .i64 q4, .int .i64 q5, .int .i64 q6, .int .i64 q7]] (by rfl) rfl rfl (by (try simp only [List.map_toArray, List.map_cons, List.map_nil]); first | done | rfl | (simp only [List.length_drop, List.length_take]; rfl)) ?_
       with_reducible refine (mooringsref08_Blocks.calls kj11 q0 q1 q2 q3 q4 q5 q6 q7 t228 _ A71.out).mono ?_
       rintro e w81 ⟨rfl, hb⟩
       refine ⟨_, rfl, ?_⟩
       have n0_ := Ym (Yl (g := gb197) (o := .cells #[.int .i64 q0, .int .i64 q1, .int .i64 q2, .int .i64 q3, .int .i64 q4, .int .i64 q5, .int .i64 q6, .int .i64 q7] 25 (0, 0)) (by (with_reducible repeat (first | refine Yd ?_ _ | refine Yf ?_ | refine Ye ?_ _)); exact BK197.out) hb)
       have n1_ := Ym (Yl (g := gb203) (o := .cells #[.int .i64 t199, .int .i64 t200, .int .i64 t201] 28 (0, 0)) (by (with_reducible repeat (first | refine Yd ?_ _ | refine Yf ?_ | refine Ye ?_ _)); exact BK203.out) hb)
       have n2_ := Ym (Yl (g := gb208) (o := .cells #[.int .i64 t204, .int .i64 t205, .int .i64 t206] 28 (0, 0)) (by (with_reducible repeat (first | refine Yd ?_ _ | refine Yf ?_ | refine Ye ?_ _)); exact BK208.out) hb)
       have n3_ := Ym (Yl (g := gb213) (o := .cells #[.int .i64 t209, .int .i64 t210, .int .i64 t211] 28 (0, 0)) (by (with_reducible repeat (first | refine Yd ?_ _ | refine Yf ?_ | refine Ye ?_ _)); exact BK213.out) hb)
       have n4_ := Ym (Yl (g := gb218) (o := .cells #[.int .i64 t214, .int .i64 t215, .int .i64 t216] 28 (0, 0)) (by (with_reducible repeat (first | refine Yd ?_ _ | refine Yf ?_ | refine Ye ?_ _)); exact BK218.out) hb)
       have n5_ := Ym (Yj (by repeat (first | (with_reducible first | exact HB.out | apply Yc | apply Ya | apply Yb | refine Yg ?_ GE197.out | refine Yg ?_ GE203.out | refine Yg ?_ GE208.out | refine Yg ?_ GE213.out | refine Yg ?_ GE218.out) | exact HB.out)) hb)
       clear BK197
       clear BK203
       clear BK208
       clear BK213
       clear BK218
       clear HB
       have BK197 := n0_
       have BK203 := n1_
       have BK208 := n2_
       have BK213 := n3_
       have BK218 := n4_
       have HB := n5_
       clear n0_ n1_ n2_ n3_ n4_ n5_
       (try clear hb)
       (try clear hb2)
       (try clear hk)
       (try clear hi)
       refine hK.out _ _ ⟨(Yh BK197.out 0).trans rfl, (Yh BK197.out 1).trans rfl, (Yh BK197.out 2).trans rfl, (Yh BK197.out 3).trans rfl, (Yh BK197.out 4).trans rfl, (Yh BK197.out 5).trans rfl, (Yh BK197.out 6).trans rfl, (Yh BK197.out 7).trans rfl⟩ (fun hHeld => ?_)
       clear hK K
       refine norm_ (a' := ?_) ?_ ?_
       rotate_left
       ·show Act.put _ (some 105) _ = _
        simp only [Act.put, Yo, Yp, Yq, i64_w, i32_w]
        rfl
       refine pure_ (i := 17) (N := some 106) (v := ?_) (a' := ?_) #[true, true, true, true, true, true, true, true, true, true, true, true, true, true, true, true, true, true, false, false, false, false, false, false, false, false, false, false, false, false, false] rfl rfl (any_of HT_.out (by kernel_rfl)) (fun _ _ _ h => h) (Or.inl ⟨by rfl, ?_⟩) ?_ ?_
       rotate_left
       ·intro w'
        go_simp
        with_reducible rfl
       rotate_left
       ·simp only [Act.put, Yo, Yp, Yq, i64_w, i32_w]
        rfl
       refine pure_ (i := 18) (N := some 107) (v := ?_) (a' := ?_) #[true, true, true, true, true, true, true, true, true, true, true, true, true, true, true, true, true, true, true, false, false, false, false, false, false, false, false, false, false, false, false] rfl rfl (any_of HT_.out (by kernel_rfl)) (fun _ _ _ h => h) (Or.inl ⟨by rfl, ?_⟩) ?_ ?_
       rotate_left
       ·intro w'
        go_simp
        with_reducible rfl
       rotate_left
       ·simp only [Act.put, Yo, Yp, Yq, i64_w, i32_w]
        rfl
       refine pure_ (i := 19) (N := some 108) (v := ?_) (a' := ?_) #[true, true, true, true, true, true, true, true, true, true, true, true, true, true, true, true, true, true, true, true, false, false, false, false, false, false, false, false, false, false, false] rfl rfl (any_of HT_.out (by kernel_rfl)) (fun _ _ _ h => h) (Or.inl ⟨by rfl, ?_⟩) ?_ ?_
       rotate_left
       ·intro w'
        go_simp
        with_reducible rfl
       rotate_left
       ·simp only [Act.put, Yo, Yp, Yq, i64_w, i32_w]
        rfl
       refine pure_ (i := 21) (N := some 110) (v := ?_) (a' := ?_) #[true, true, true, true, true, true, true, true, true, true, true, true, true, true, true, true, true, true, true, true, false, true, false, false, false, false, false, false, false, false, false] rfl rfl (any_of HT_.out (by kernel_rfl)) (fun _ _ _ h => h) (Or.inl ⟨by rfl, ?_⟩) ?_ ?_
       rotate_left
       ·intro w'
        go_simp
        with_reducible rfl
       rotate_left
       ·simp only [Act.put, Yo, Yp, Yq, i64_w, i32_w]
        rfl
       refine pure_ (i := 22) (N := some 111) (v := ?_) (a' := ?_) #[true, true, true, true, true, true, true, true, true, true, true, true, true, true, true, true, true, true, true, true, false, true, true, false, false, false, false, false, false, false, false] rfl rfl (any_of HT_.out (by kernel_rfl)) (fun _ _ _ h => h) (Or.inl ⟨by rfl, ?_⟩) ?_ ?_
       rotate_left
       ·intro w'
        go_simp
        with_reducible rfl
       rotate_left
       ·simp only [Act.put, Yo, Yp, Yq, i64_w, i32_w]
        rfl
       refine pure_ (i := 25) (N := some 114) (v := ?_) (a' := ?_) #[true, true, true, true, true, true, true, true, true, true, true, true, true, true, true, true, true, true, true, true, false, true, true, false, false, true, false, false, false, false, false] rfl rfl (any_of HT_.out (by kernel_rfl)) (fun _ _ _ h => h) (Or.inl ⟨by rfl, ?_⟩) ?_ ?_
       rotate_left
       ·intro w'
        go_simp
        with_reducible rfl
       rotate_left
       ·simp only [Act.put, Yo, Yp, Yq, i64_w, i32_w]
        rfl
       refine pure_ (i := 26) (N := some 115) (v := ?_) (a' := ?_) #[true, true, true, true, true, true, true, true, true, true, true, true, true, true, true, true, true, true, true, true, false, true, true, false, false, true, true, false, false, false, false] rfl rfl (any_of HT_.out (by kernel_rfl)) (fun _ _ _ h => h) (Or.inl ⟨by rfl, ?_⟩) ?_ ?_
       rotate_left
       ·intro w'
        go_simp
        with_reducible rfl
       rotate_left
       ·simp only [Act.put, Yo, Yp, Yq, i64_w, i32_w]
        rfl
       refine take_ (i := 20) (N := some 109) (v := ?_) (a' := ?_) #[true, true, true, true, true, true, true, true, true, true, true, true, true, true, true, true, true, true, true, true, true, true, true, false, false, true, true, false, false, false, false] rfl rfl (take_ofW HT_.out HW_.out (by kernel_rfl)) (fun _ _ _ h => h) (Or.inl ⟨by rfl, ?_⟩) hHeld ?_ ?_
       rotate_left
       ·rintro w' ⟨s0, s1, s2, s3, s4, s5, s6, s7⟩
        go_simp
        with_reducible rfl
       rotate_left
       ·simp only [Act.put, Yo, Yp, Yq, i64_w, i32_w]
        rfl
       refine take_ (i := 24) (N := some 113) (v := ?_) (a' := ?_) #[true, true, true, true, true, true, true, true, true, true, true, true, true, true, true, true, true, true, true, true, true, true, true, false, true, true, true, false, false, false, false] rfl rfl (take_ofW HT_.out HW_.out (by kernel_rfl)) (fun _ _ _ h => h) (Or.inl ⟨by rfl, ?_⟩) hHeld ?_ ?_
       rotate_left
       ·rintro w' ⟨s0, s1, s2, s3, s4, s5, s6, s7⟩
        go_simp
        with_reducible rfl
       rotate_left
       ·simp only [Act.put, Yo, Yp, Yq, i64_w, i32_w]
        rfl
       refine one_ (i := 23) (N := some 112) #[true, true, true, true, true, true, true, true, true, true, true, true, true, true, true, true, true, true, true, true, true, true, true, true, true, true, true, false, false, false, false] rfl rfl (one_of HT_.out (by kernel_rfl)) (by decide) (fun K hK => ?_)
       refine goes_ Try.func25 (by kernel_rfl) rfl #[.agg #[.int .i64 q0, .int .i64 q1, .int .i64 q2, .int .i64 q3, .int .i64 q4, .int .i64 q5, .int .i64 q6, .int .i64 q7], .int .i64 a2, .int .i64 a3] (by rfl) rfl rfl (by (try simp only [List.map_toArray, List.map_cons, List.map_nil]); first | done | rfl | (simp only [List.length_drop, List.length_take]; rfl)) ?_
       with_reducible refine (detmap_Which.calls kj11 q0 q1 q2 q3 q4 q5 q6 q7 a2 a3 t229 _ A73.out).mono ?_
       rintro e w82 ⟨rfl, hb⟩
       refine ⟨_, rfl, ?_⟩
       have n0_ := Ym (Yl (g := gb197) (o := .cells #[.int .i64 q0, .int .i64 q1, .int .i64 q2, .int .i64 q3, .int .i64 q4, .int .i64 q5, .int .i64 q6, .int .i64 q7] 25 (0, 0)) (by (with_reducible repeat (first | refine Yd ?_ _ | refine Yf ?_ | refine Ye ?_ _)); exact BK197.out) hb)
       have n1_ := Ym (Yl (g := gb203) (o := .cells #[.int .i64 t199, .int .i64 t200, .int .i64 t201] 28 (0, 0)) (by (with_reducible repeat (first | refine Yd ?_ _ | refine Yf ?_ | refine Ye ?_ _)); exact BK203.out) hb)
       have n2_ := Ym (Yl (g := gb208) (o := .cells #[.int .i64 t204, .int .i64 t205, .int .i64 t206] 28 (0, 0)) (by (with_reducible repeat (first | refine Yd ?_ _ | refine Yf ?_ | refine Ye ?_ _)); exact BK208.out) hb)
       have n3_ := Ym (Yl (g := gb213) (o := .cells #[.int .i64 t209, .int .i64 t210, .int .i64 t211] 28 (0, 0)) (by (with_reducible repeat (first | refine Yd ?_ _ | refine Yf ?_ | refine Ye ?_ _)); exact BK213.out) hb)
       have n4_ := Ym (Yl (g := gb218) (o := .cells #[.int .i64 t214, .int .i64 t215, .int .i64 t216] 28 (0, 0)) (by (with_reducible repeat (first | refine Yd ?_ _ | refine Yf ?_ | refine Ye ?_ _)); exact BK218.out) hb)
       have n5_ := Ym (Yj (by repeat (first | (with_reducible first | exact HB.out | apply Yc | apply Ya | apply Yb | refine Yg ?_ GE197.out | refine Yg ?_ GE203.out | refine Yg ?_ GE208.out | refine Yg ?_ GE213.out | refine Yg ?_ GE218.out) | exact HB.out)) hb)
       clear BK197
       clear BK203
       clear BK208
       clear BK213
       clear BK218
       clear HB
       have BK197 := n0_
       have BK203 := n1_
       have BK208 := n2_
       have BK213 := n3_
       have BK218 := n4_
       have HB := n5_
       clear n0_ n1_ n2_ n3_ n4_ n5_
       (try clear hb)
       (try clear hb2)
       (try clear hk)
       (try clear hi)
       refine hK.out _ _ ⟨(Yh BK197.out 0).trans rfl, (Yh BK197.out 1).trans rfl, (Yh BK197.out 2).trans rfl, (Yh BK197.out 3).trans rfl, (Yh BK197.out 4).trans rfl, (Yh BK197.out 5).trans rfl, (Yh BK197.out 6).trans rfl, (Yh BK197.out 7).trans rfl⟩ (fun hHeld => ?_)
       clear hK K
       refine norm_ (a' := ?_) ?_ ?_
       rotate_left
       ·show Act.put _ (some 112) _ = _
        simp only [Act.put, Yo, Yp, Yq, i64_w, i32_w]
        rfl
       refine one_ (i := 27) (N := some 116) #[true, true, true, true, true, true, true, true, true, true, true, true, true, true, true, true, true, true, true, true, true, true, true, true, true, true, true, true, false, false, false] rfl rfl (one_of HT_.out (by kernel_rfl)) (by decide) (fun K hK => ?_)
       refine goes_ Try.func26 (by kernel_rfl) rfl #[.agg #[.int .i64 q0, .int .i64 q1, .int .i64 q2, .int .i64 q3, .int .i64 q4, .int .i64 q5, .int .i64 q6, .int .i64 q7], .int .i64 a2, .int .i64 a3] (by rfl) rfl rfl (by (try simp only [List.map_toArray, List.map_cons, List.map_nil]); first | done | rfl | (simp only [List.length_drop, List.length_take]; rfl)) ?_
       with_reducible refine (mooringsref08_Which.calls kj11 q0 q1 q2 q3 q4 q5 q6 q7 a2 a3 t230 _ A74.out).mono ?_
       rintro e w83 ⟨rfl, hb⟩
       refine ⟨_, rfl, ?_⟩
       have n0_ := Ym (Yl (g := gb197) (o := .cells #[.int .i64 q0, .int .i64 q1, .int .i64 q2, .int .i64 q3, .int .i64 q4, .int .i64 q5, .int .i64 q6, .int .i64 q7] 25 (0, 0)) (by (with_reducible repeat (first | refine Yd ?_ _ | refine Yf ?_ | refine Ye ?_ _)); exact BK197.out) hb)
       have n1_ := Ym (Yl (g := gb203) (o := .cells #[.int .i64 t199, .int .i64 t200, .int .i64 t201] 28 (0, 0)) (by (with_reducible repeat (first | refine Yd ?_ _ | refine Yf ?_ | refine Ye ?_ _)); exact BK203.out) hb)
       have n2_ := Ym (Yl (g := gb208) (o := .cells #[.int .i64 t204, .int .i64 t205, .int .i64 t206] 28 (0, 0)) (by (with_reducible repeat (first | refine Yd ?_ _ | refine Yf ?_ | refine Ye ?_ _)); exact BK208.out) hb)
       have n3_ := Ym (Yl (g := gb213) (o := .cells #[.int .i64 t209, .int .i64 t210, .int .i64 t211] 28 (0, 0)) (by (with_reducible repeat (first | refine Yd ?_ _ | refine Yf ?_ | refine Ye ?_ _)); exact BK213.out) hb)
       have n4_ := Ym (Yl (g := gb218) (o := .cells #[.int .i64 t214, .int .i64 t215, .int .i64 t216] 28 (0, 0)) (by (with_reducible repeat (first | refine Yd ?_ _ | refine Yf ?_ | refine Ye ?_ _)); exact BK218.out) hb)
       have n5_ := Ym (Yj (by repeat (first | (with_reducible first | exact HB.out | apply Yc | apply Ya | apply Yb | refine Yg ?_ GE197.out | refine Yg ?_ GE203.out | refine Yg ?_ GE208.out | refine Yg ?_ GE213.out | refine Yg ?_ GE218.out) | exact HB.out)) hb)
       clear BK197
       clear BK203
       clear BK208
       clear BK213
       clear BK218
       clear HB
       have BK197 := n0_
       have BK203 := n1_
       have BK208 := n2_
       have BK213 := n3_
       have BK218 := n4_
       have HB := n5_
       clear n0_ n1_ n2_ n3_ n4_ n5_
       (try clear hb)
       (try clear hb2)
       (try clear hk)
       (try clear hi)
       refine hK.out _ _ ⟨(Yh BK197.out 0).trans rfl, (Yh BK197.out 1).trans rfl, (Yh BK197.out 2).trans rfl, (Yh BK197.out 3).trans rfl, (Yh BK197.out 4).trans rfl, (Yh BK197.out 5).trans rfl, (Yh BK197.out 6).trans rfl, (Yh BK197.out 7).trans rfl⟩ (fun hHeld => ?_)
       clear hK K
       refine norm_ (a' := ?_) ?_ ?_
       rotate_left
       ·show Act.put _ (some 116) _ = _
        simp only [Act.put, Yo, Yp, Yq, i64_w, i32_w]
        rfl
       refine pure_ (i := 28) (N := some 117) (v := ?_) (a' := ?_) #[true, true, true, true, true, true, true, true, true, true, true, true, true, true, true, true, true, true, true, true, true, true, true, true, true, true, true, true, true, false, false] rfl rfl (any_of HT_.out (by kernel_rfl)) (fun _ _ _ h => h) (Or.inl ⟨by rfl, ?_⟩) ?_ ?_
       rotate_left
       ·intro w'
        go_simp
        with_reducible rfl
       rotate_left
       ·simp only [Act.put, Yo, Yp, Yq, i64_w, i32_w]
        rfl
       refine pure_ (i := 29) (N := some 118) (v := ?_) (a' := ?_) #[true, true, true, true, true, true, true, true, true, true, true, true, true, true, true, true, true, true, true, true, true, true, true, true, true, true, true, true, true, true, false] rfl rfl (any_of HT_.out (by kernel_rfl)) (fun _ _ _ h => h) (Or.inl ⟨by rfl, ?_⟩) ?_ ?_
       rotate_left
       ·intro w'
        go_simp
        with_reducible rfl
       rotate_left
       ·simp only [Act.put, Yo, Yp, Yq, i64_w, i32_w]
        rfl
       refine pure_ (i := 30) (N := some 10) (v := ?_) (a' := ?_) #[true, true, true, true, true, true, true, true, true, true, true, true, true, true, true, true, true, true, true, true, true, true, true, true, true, true, true, true, true, true, true] rfl rfl (any_of HT_.out (by kernel_rfl)) (fun _ _ _ h => h) (Or.inl ⟨by rfl, ?_⟩) ?_ ?_
       rotate_left
       ·intro w'
        go_simp
        with_reducible rfl
       rotate_left
       ·simp only [Act.put, Yo, Yp, Yq, i64_w, i32_w]
        rfl
       refine done_ (done_of HT_.out (by kernel_rfl)) ?_
       try go_wp2
       go_ret
       exact ⟨by first | rfl | (simp [errW_none, errW_some] <;> rfl) | (simp [*, errW_none, errW_some] <;> rfl), by repeat (first | (with_reducible first | exact HB.out | apply Yc | apply Ya | apply Yb | refine Yg ?_ GE197.out | refine Yg ?_ GE203.out | refine Yg ?_ GE208.out | refine Yg ?_ GE213.out | refine Yg ?_ GE218.out) | exact HB.out)⟩
      ·rw [if_neg c72] at H
       exact absurd (H.trans (congrArg some hT.out)) (by decide)
     ·rw [if_neg c69] at H
      exact absurd (H.trans (congrArg some hT.out)) (by decide)
    ·rw [if_neg c66] at H
     exact absurd (H.trans (congrArg some hT.out)) (by decide)
end Go.Proofs.Ytfkdflhijfkjoaa.P
