-- Laid by this session's own program (wip/myprint.py): Lean functions for the Go functions that a law reaches, and their contracts. Not trusted: Lean checks it.
import Derived.Test.YtfkdflhijfkjoaaP0
import Derived.Test.YtfkdflhijfkjoaaP4
import Derived.Test.YtfkdflhijfkjoaaP5
import Derived.Test.YtfkdflhijfkjoaaP6
import Derived.Test.YtfkdflhijfkjoaaP8
import Derived.Test.YtfkdflhijfkjoaaP9
namespace Go.Proofs.Ytfkdflhijfkjoaa.P
open Go.RowKit Go.Proofs.YtfkdflhijfkjoaaW.PrintWords Go.Proofs.YtfkdflhijfkjoaaW.PrintLast Go.Proofs.YtfkdflhijfkjoaaW.PrintMore
attribute [local go_sem] max2_int min2_int max_two min_two max_three min_three max_four min_four   -- for this text's walks alone
set_option linter.unusedVariables false
set_option linter.unusedSimpArgs false

/-! ### mooringslaw08_DetApart: function 6 -/
mutual
def mooringslaw08_DetApart.j0 : Nat → Bool → Bool → Bool → Int → Int → Int → Int → Int → Int → Int → Int → Int → Int → Int → Int → Int → Int → Option (Bool)
  | 0, _, _, _, _, _, _, _, _, _, _, _, _, _, _, _, _, _ => none
  | k + 1, x13, x17, x71, x265000, x265001, x265002, x265003, x265004, x265005, x265006, x265007, x271000, x271001, x271002, x281000, x281001, x281002 => if x71 = true then (some false) else (if x13 = true then (if x17 = true then (if x271000 = x281000 then (if x271001 ≤ x281002 then (mooringslaw08_DetApart.j1 k x13 (decide (x281001 ≤ x271002)) x265000 x265001 x265002 x265003 x265004 x265005 x265006 x265007 x271000 x271001 x271002) else (mooringslaw08_DetApart.j1 k x13 false x265000 x265001 x265002 x265003 x265004 x265005 x265006 x265007 x271000 x271001 x271002)) else (mooringslaw08_DetApart.j1 k x13 false x265000 x265001 x265002 x265003 x265004 x265005 x265006 x265007 x271000 x271001 x271002)) else (mooringslaw08_DetApart.j1 k x13 false x265000 x265001 x265002 x265003 x265004 x265005 x265006 x265007 x271000 x271001 x271002)) else (mooringslaw08_DetApart.j1 k x13 false x265000 x265001 x265002 x265003 x265004 x265005 x265006 x265007 x271000 x271001 x271002))
def mooringslaw08_DetApart.j1 : Nat → Bool → Bool → Int → Int → Int → Int → Int → Int → Int → Int → Int → Int → Int → Option (Bool)
  | 0, _, _, _, _, _, _, _, _, _, _, _, _, _ => none
  | k + 1, x13, x96, x265000, x265001, x265002, x265003, x265004, x265005, x265006, x265007, x271000, x271001, x271002 => if x96 = true then (some false) else (if x13 = true then ((detmap_Which.f k x265000 x265001 x265002 x265003 x265004 x265005 x265006 x265007 x271000 x271001).bind fun t281 => (if t281 = (-1) then ((detmap_Which.f k x265000 x265001 x265002 x265003 x265004 x265005 x265006 x265007 x271000 x271002).bind fun t282 => (some (t282 == (-1)))) else (some false))) else (some true))
end
def mooringslaw08_DetApart.f (k : Nat) (a0_0 : Int) (a0_1 : Int) (a0_2 : Int) (a0_3 : Int) (a0_4 : Int) (a0_5 : Int) (a0_6 : Int) (a0_7 : Int) (a1 : Int) (a2 : Int) (a3 : Int) (a4 : Int) : Option (Bool) := (mooringslaw08_awake.f).bind fun t265 => ((detmap_Base.f k a0_0 a0_1 a0_2 a0_3 a0_4 a0_5 a0_6 a0_7 a1).bind fun bt266 => ((detmap_Base.f k a0_0 a0_1 a0_2 a0_3 a0_4 a0_5 a0_6 a0_7 a2).bind fun bt271 => ((detmap_Block.f k a0_0 a0_1 a0_2 a0_3 a0_4 a0_5 a0_6 a0_7 a3 a4).bind fun bt276 => (if t265 = true then (if bt266.2.2.2 = true then (if bt271.2.2.2 = true then (if a1 = a2 then (mooringslaw08_DetApart.j0 k bt266.2.2.2 bt276.2.2.2 false a0_0 a0_1 a0_2 a0_3 a0_4 a0_5 a0_6 a0_7 bt266.1 bt266.2.1 bt266.2.2.1 bt276.1 bt276.2.1 bt276.2.2.1) else (if bt266.1 = bt271.1 then (if bt266.2.1 ≤ bt271.2.2.1 then (mooringslaw08_DetApart.j0 k bt266.2.2.2 bt276.2.2.2 (decide (bt271.2.1 ≤ bt266.2.2.1)) a0_0 a0_1 a0_2 a0_3 a0_4 a0_5 a0_6 a0_7 bt266.1 bt266.2.1 bt266.2.2.1 bt276.1 bt276.2.1 bt276.2.2.1) else (mooringslaw08_DetApart.j0 k bt266.2.2.2 bt276.2.2.2 false a0_0 a0_1 a0_2 a0_3 a0_4 a0_5 a0_6 a0_7 bt266.1 bt266.2.1 bt266.2.2.1 bt276.1 bt276.2.1 bt276.2.2.1)) else (mooringslaw08_DetApart.j0 k bt266.2.2.2 bt276.2.2.2 false a0_0 a0_1 a0_2 a0_3 a0_4 a0_5 a0_6 a0_7 bt266.1 bt266.2.1 bt266.2.2.1 bt276.1 bt276.2.1 bt276.2.2.1))) else (mooringslaw08_DetApart.j0 k bt266.2.2.2 bt276.2.2.2 false a0_0 a0_1 a0_2 a0_3 a0_4 a0_5 a0_6 a0_7 bt266.1 bt266.2.1 bt266.2.2.1 bt276.1 bt276.2.1 bt276.2.2.1)) else (mooringslaw08_DetApart.j0 k bt266.2.2.2 bt276.2.2.2 false a0_0 a0_1 a0_2 a0_3 a0_4 a0_5 a0_6 a0_7 bt266.1 bt266.2.1 bt266.2.2.1 bt276.1 bt276.2.1 bt276.2.2.1)) else (mooringslaw08_DetApart.j0 k bt266.2.2.2 bt276.2.2.2 true a0_0 a0_1 a0_2 a0_3 a0_4 a0_5 a0_6 a0_7 bt266.1 bt266.2.1 bt266.2.2.1 bt276.1 bt276.2.1 bt276.2.2.1)))))
theorem mooringslaw08_DetApart.mono_l : ∀ k, (∀ y0 y1 y2 y3 y4 y5 y6 y7 y8 y9 y10 y11 y12 y13 y14 y15 y16, LeO (mooringslaw08_DetApart.j0 k y0 y1 y2 y3 y4 y5 y6 y7 y8 y9 y10 y11 y12 y13 y14 y15 y16) (mooringslaw08_DetApart.j0 (k + 1) y0 y1 y2 y3 y4 y5 y6 y7 y8 y9 y10 y11 y12 y13 y14 y15 y16)) ∧ (∀ y0 y1 y2 y3 y4 y5 y6 y7 y8 y9 y10 y11 y12, LeO (mooringslaw08_DetApart.j1 k y0 y1 y2 y3 y4 y5 y6 y7 y8 y9 y10 y11 y12) (mooringslaw08_DetApart.j1 (k + 1) y0 y1 y2 y3 y4 y5 y6 y7 y8 y9 y10 y11 y12))
  | 0 => ⟨fun _ _ _ _ _ _ _ _ _ _ _ _ _ _ _ _ _ r h => by simp [mooringslaw08_DetApart.j0] at h, fun _ _ _ _ _ _ _ _ _ _ _ _ _ r h => by simp [mooringslaw08_DetApart.j1] at h⟩
  | k + 1 => by
    obtain ⟨ih0, ih1⟩ := mooringslaw08_DetApart.mono_l k
    refine ⟨?_, ?_⟩
    · intro y0 y1 y2 y3 y4 y5 y6 y7 y8 y9 y10 y11 y12 y13 y14 y15 y16
      unfold mooringslaw08_DetApart.j0
      repeat' first
      | (with_reducible exact ih0 _ _ _ _ _ _ _ _ _ _ _ _ _ _ _ _ _)
      | (with_reducible exact ih1 _ _ _ _ _ _ _ _ _ _ _ _ _)
      | (with_reducible exact detmap_Base.mono _ _ _ _ _ _ _ _ _ _)
      | (with_reducible exact detmap_Block.mono _ _ _ _ _ _ _ _ _ _ _)
      | (with_reducible exact detmap_Which.mono _ _ _ _ _ _ _ _ _ _ _)
      | (with_reducible exact LeO.refl _)
      | (with_reducible exact LeO.none _)
      | (with_reducible refine LeO.ite ?_ ?_)
      | (with_reducible refine LeO.bind ?_ (fun _ => ?_))
      | exact ih0 _ _ _ _ _ _ _ _ _ _ _ _ _ _ _ _ _
      | exact ih1 _ _ _ _ _ _ _ _ _ _ _ _ _
      | exact detmap_Base.mono _ _ _ _ _ _ _ _ _ _
      | exact detmap_Block.mono _ _ _ _ _ _ _ _ _ _ _
      | exact detmap_Which.mono _ _ _ _ _ _ _ _ _ _ _
      | exact LeO.none _
      | refine LeO.ite ?_ ?_
      | refine LeO.bind ?_ (fun _ => ?_)
    · intro y0 y1 y2 y3 y4 y5 y6 y7 y8 y9 y10 y11 y12
      unfold mooringslaw08_DetApart.j1
      repeat' first
      | (with_reducible exact ih0 _ _ _ _ _ _ _ _ _ _ _ _ _ _ _ _ _)
      | (with_reducible exact ih1 _ _ _ _ _ _ _ _ _ _ _ _ _)
      | (with_reducible exact detmap_Base.mono _ _ _ _ _ _ _ _ _ _)
      | (with_reducible exact detmap_Block.mono _ _ _ _ _ _ _ _ _ _ _)
      | (with_reducible exact detmap_Which.mono _ _ _ _ _ _ _ _ _ _ _)
      | (with_reducible exact LeO.refl _)
      | (with_reducible exact LeO.none _)
      | (with_reducible refine LeO.ite ?_ ?_)
      | (with_reducible refine LeO.bind ?_ (fun _ => ?_))
      | exact ih0 _ _ _ _ _ _ _ _ _ _ _ _ _ _ _ _ _
      | exact ih1 _ _ _ _ _ _ _ _ _ _ _ _ _
      | exact detmap_Base.mono _ _ _ _ _ _ _ _ _ _
      | exact detmap_Block.mono _ _ _ _ _ _ _ _ _ _ _
      | exact detmap_Which.mono _ _ _ _ _ _ _ _ _ _ _
      | exact LeO.none _
      | refine LeO.ite ?_ ?_
      | refine LeO.bind ?_ (fun _ => ?_)
theorem mooringslaw08_DetApart.mono : ∀ a0 a1 a2 a3 a4 a5 a6 a7 a8 a9 a10 a11 k, LeO (mooringslaw08_DetApart.f k a0 a1 a2 a3 a4 a5 a6 a7 a8 a9 a10 a11) (mooringslaw08_DetApart.f (k + 1) a0 a1 a2 a3 a4 a5 a6 a7 a8 a9 a10 a11) := by
  intro a0 a1 a2 a3 a4 a5 a6 a7 a8 a9 a10 a11 k
  obtain ⟨ih0, ih1⟩ := mooringslaw08_DetApart.mono_l k
  unfold mooringslaw08_DetApart.f
  repeat' first
      | (with_reducible exact ih0 _ _ _ _ _ _ _ _ _ _ _ _ _ _ _ _ _)
      | (with_reducible exact ih1 _ _ _ _ _ _ _ _ _ _ _ _ _)
      | (with_reducible exact detmap_Base.mono _ _ _ _ _ _ _ _ _ _)
      | (with_reducible exact detmap_Block.mono _ _ _ _ _ _ _ _ _ _ _)
      | (with_reducible exact detmap_Which.mono _ _ _ _ _ _ _ _ _ _ _)
      | (with_reducible exact LeO.refl _)
      | (with_reducible exact LeO.none _)
      | (with_reducible refine LeO.ite ?_ ?_)
      | (with_reducible refine LeO.bind ?_ (fun _ => ?_))
      | exact ih0 _ _ _ _ _ _ _ _ _ _ _ _ _ _ _ _ _
      | exact ih1 _ _ _ _ _ _ _ _ _ _ _ _ _
      | exact detmap_Base.mono _ _ _ _ _ _ _ _ _ _
      | exact detmap_Block.mono _ _ _ _ _ _ _ _ _ _ _
      | exact detmap_Which.mono _ _ _ _ _ _ _ _ _ _ _
      | exact LeO.none _
      | refine LeO.ite ?_ ?_
      | refine LeO.bind ?_ (fun _ => ?_)
set_option maxHeartbeats 8000000 in
set_option maxRecDepth 100000 in
theorem mooringslaw08_DetApart.calls (k : Nat) (a0_0 : Int) (a0_1 : Int) (a0_2 : Int) (a0_3 : Int) (a0_4 : Int) (a0_5 : Int) (a0_6 : Int) (a0_7 : Int) (a1 : Int) (a2 : Int) (a3 : Int) (a4 : Int) (r : Bool) (w : World) (h : mooringslaw08_DetApart.f k a0_0 a0_1 a0_2 a0_3 a0_4 a0_5 a0_6 a0_7 a1 a2 a3 a4 = some r) :
    Calls Try.prog 6 #[.agg #[.int .i64 a0_0, .int .i64 a0_1, .int .i64 a0_2, .int .i64 a0_3, .int .i64 a0_4, .int .i64 a0_5, .int .i64 a0_6, .int .i64 a0_7], .int .i64 a1, .int .i64 a2, .int .i64 a3, .int .i64 a4] w fun e w' => e = .returned (.bool r) ∧ Below w.heap.size w w' := by
  have hu25 := Try.underlying25
  have hu28 := Try.underlying28
  have HB := Aside0.mk (Below.refl w.heap.size w)
  have H : ((mooringslaw08_awake.f).bind fun t265 => ((detmap_Base.f k a0_0 a0_1 a0_2 a0_3 a0_4 a0_5 a0_6 a0_7 a1).bind fun bt266 => ((detmap_Base.f k a0_0 a0_1 a0_2 a0_3 a0_4 a0_5 a0_6 a0_7 a2).bind fun bt271 => ((detmap_Block.f k a0_0 a0_1 a0_2 a0_3 a0_4 a0_5 a0_6 a0_7 a3 a4).bind fun bt276 => (if t265 = true then (if bt266.2.2.2 = true then (if bt271.2.2.2 = true then (if a1 = a2 then (mooringslaw08_DetApart.j0 k bt266.2.2.2 bt276.2.2.2 false a0_0 a0_1 a0_2 a0_3 a0_4 a0_5 a0_6 a0_7 bt266.1 bt266.2.1 bt266.2.2.1 bt276.1 bt276.2.1 bt276.2.2.1) else (if bt266.1 = bt271.1 then (if bt266.2.1 ≤ bt271.2.2.1 then (mooringslaw08_DetApart.j0 k bt266.2.2.2 bt276.2.2.2 (decide (bt271.2.1 ≤ bt266.2.2.1)) a0_0 a0_1 a0_2 a0_3 a0_4 a0_5 a0_6 a0_7 bt266.1 bt266.2.1 bt266.2.2.1 bt276.1 bt276.2.1 bt276.2.2.1) else (mooringslaw08_DetApart.j0 k bt266.2.2.2 bt276.2.2.2 false a0_0 a0_1 a0_2 a0_3 a0_4 a0_5 a0_6 a0_7 bt266.1 bt266.2.1 bt266.2.2.1 bt276.1 bt276.2.1 bt276.2.2.1)) else (mooringslaw08_DetApart.j0 k bt266.2.2.2 bt276.2.2.2 false a0_0 a0_1 a0_2 a0_3 a0_4 a0_5 a0_6 a0_7 bt266.1 bt266.2.1 bt266.2.2.1 bt276.1 bt276.2.1 bt276.2.2.1))) else (mooringslaw08_DetApart.j0 k bt266.2.2.2 bt276.2.2.2 false a0_0 a0_1 a0_2 a0_3 a0_4 a0_5 a0_6 a0_7 bt266.1 bt266.2.1 bt266.2.2.1 bt276.1 bt276.2.1 bt276.2.2.1)) else (mooringslaw08_DetApart.j0 k bt266.2.2.2 bt276.2.2.2 false a0_0 a0_1 a0_2 a0_3 a0_4 a0_5 a0_6 a0_7 bt266.1 bt266.2.1 bt266.2.2.1 bt276.1 bt276.2.1 bt276.2.2.1)) else (mooringslaw08_DetApart.j0 k bt266.2.2.2 bt276.2.2.2 true a0_0 a0_1 a0_2 a0_3 a0_4 a0_5 a0_6 a0_7 bt266.1 bt266.2.1 bt266.2.2.1 bt276.1 bt276.2.1 bt276.2.2.1)))))) = some r := h
  clear h
  replace H := Option.bind_eq_some_iff.mp H
  obtain ⟨t265, A60, H⟩ := H
  replace H : ((detmap_Base.f k a0_0 a0_1 a0_2 a0_3 a0_4 a0_5 a0_6 a0_7 a1).bind fun bt266 => ((detmap_Base.f k a0_0 a0_1 a0_2 a0_3 a0_4 a0_5 a0_6 a0_7 a2).bind fun bt271 => ((detmap_Block.f k a0_0 a0_1 a0_2 a0_3 a0_4 a0_5 a0_6 a0_7 a3 a4).bind fun bt276 => (if t265 = true then (if bt266.2.2.2 = true then (if bt271.2.2.2 = true then (if a1 = a2 then (mooringslaw08_DetApart.j0 k bt266.2.2.2 bt276.2.2.2 false a0_0 a0_1 a0_2 a0_3 a0_4 a0_5 a0_6 a0_7 bt266.1 bt266.2.1 bt266.2.2.1 bt276.1 bt276.2.1 bt276.2.2.1) else (if bt266.1 = bt271.1 then (if bt266.2.1 ≤ bt271.2.2.1 then (mooringslaw08_DetApart.j0 k bt266.2.2.2 bt276.2.2.2 (decide (bt271.2.1 ≤ bt266.2.2.1)) a0_0 a0_1 a0_2 a0_3 a0_4 a0_5 a0_6 a0_7 bt266.1 bt266.2.1 bt266.2.2.1 bt276.1 bt276.2.1 bt276.2.2.1) else (mooringslaw08_DetApart.j0 k bt266.2.2.2 bt276.2.2.2 false a0_0 a0_1 a0_2 a0_3 a0_4 a0_5 a0_6 a0_7 bt266.1 bt266.2.1 bt266.2.2.1 bt276.1 bt276.2.1 bt276.2.2.1)) else (mooringslaw08_DetApart.j0 k bt266.2.2.2 bt276.2.2.2 false a0_0 a0_1 a0_2 a0_3 a0_4 a0_5 a0_6 a0_7 bt266.1 bt266.2.1 bt266.2.2.1 bt276.1 bt276.2.1 bt276.2.2.1))) else (mooringslaw08_DetApart.j0 k bt266.2.2.2 bt276.2.2.2 false a0_0 a0_1 a0_2 a0_3 a0_4 a0_5 a0_6 a0_7 bt266.1 bt266.2.1 bt266.2.2.1 bt276.1 bt276.2.1 bt276.2.2.1)) else (mooringslaw08_DetApart.j0 k bt266.2.2.2 bt276.2.2.2 false a0_0 a0_1 a0_2 a0_3 a0_4 a0_5 a0_6 a0_7 bt266.1 bt266.2.1 bt266.2.2.1 bt276.1 bt276.2.1 bt276.2.2.1)) else (mooringslaw08_DetApart.j0 k bt266.2.2.2 bt276.2.2.2 true a0_0 a0_1 a0_2 a0_3 a0_4 a0_5 a0_6 a0_7 bt266.1 bt266.2.1 bt266.2.2.1 bt276.1 bt276.2.1 bt276.2.2.1))))) = some r := H
  have A6 := Aside0.mk A60
  clear A60
  replace H := Option.bind_eq_some_iff.mp H
  obtain ⟨⟨t266, t267, t268, t269⟩, A70, H⟩ := H
  replace H : ((detmap_Base.f k a0_0 a0_1 a0_2 a0_3 a0_4 a0_5 a0_6 a0_7 a2).bind fun bt271 => ((detmap_Block.f k a0_0 a0_1 a0_2 a0_3 a0_4 a0_5 a0_6 a0_7 a3 a4).bind fun bt276 => (if t265 = true then (if t269 = true then (if bt271.2.2.2 = true then (if a1 = a2 then (mooringslaw08_DetApart.j0 k t269 bt276.2.2.2 false a0_0 a0_1 a0_2 a0_3 a0_4 a0_5 a0_6 a0_7 t266 t267 t268 bt276.1 bt276.2.1 bt276.2.2.1) else (if t266 = bt271.1 then (if t267 ≤ bt271.2.2.1 then (mooringslaw08_DetApart.j0 k t269 bt276.2.2.2 (decide (bt271.2.1 ≤ t268)) a0_0 a0_1 a0_2 a0_3 a0_4 a0_5 a0_6 a0_7 t266 t267 t268 bt276.1 bt276.2.1 bt276.2.2.1) else (mooringslaw08_DetApart.j0 k t269 bt276.2.2.2 false a0_0 a0_1 a0_2 a0_3 a0_4 a0_5 a0_6 a0_7 t266 t267 t268 bt276.1 bt276.2.1 bt276.2.2.1)) else (mooringslaw08_DetApart.j0 k t269 bt276.2.2.2 false a0_0 a0_1 a0_2 a0_3 a0_4 a0_5 a0_6 a0_7 t266 t267 t268 bt276.1 bt276.2.1 bt276.2.2.1))) else (mooringslaw08_DetApart.j0 k t269 bt276.2.2.2 false a0_0 a0_1 a0_2 a0_3 a0_4 a0_5 a0_6 a0_7 t266 t267 t268 bt276.1 bt276.2.1 bt276.2.2.1)) else (mooringslaw08_DetApart.j0 k t269 bt276.2.2.2 false a0_0 a0_1 a0_2 a0_3 a0_4 a0_5 a0_6 a0_7 t266 t267 t268 bt276.1 bt276.2.1 bt276.2.2.1)) else (mooringslaw08_DetApart.j0 k t269 bt276.2.2.2 true a0_0 a0_1 a0_2 a0_3 a0_4 a0_5 a0_6 a0_7 t266 t267 t268 bt276.1 bt276.2.1 bt276.2.2.1)))) = some r := H
  have A7 := Aside0.mk A70
  clear A70
  replace H := Option.bind_eq_some_iff.mp H
  obtain ⟨⟨t271, t272, t273, t274⟩, A80, H⟩ := H
  replace H : ((detmap_Block.f k a0_0 a0_1 a0_2 a0_3 a0_4 a0_5 a0_6 a0_7 a3 a4).bind fun bt276 => (if t265 = true then (if t269 = true then (if t274 = true then (if a1 = a2 then (mooringslaw08_DetApart.j0 k t269 bt276.2.2.2 false a0_0 a0_1 a0_2 a0_3 a0_4 a0_5 a0_6 a0_7 t266 t267 t268 bt276.1 bt276.2.1 bt276.2.2.1) else (if t266 = t271 then (if t267 ≤ t273 then (mooringslaw08_DetApart.j0 k t269 bt276.2.2.2 (decide (t272 ≤ t268)) a0_0 a0_1 a0_2 a0_3 a0_4 a0_5 a0_6 a0_7 t266 t267 t268 bt276.1 bt276.2.1 bt276.2.2.1) else (mooringslaw08_DetApart.j0 k t269 bt276.2.2.2 false a0_0 a0_1 a0_2 a0_3 a0_4 a0_5 a0_6 a0_7 t266 t267 t268 bt276.1 bt276.2.1 bt276.2.2.1)) else (mooringslaw08_DetApart.j0 k t269 bt276.2.2.2 false a0_0 a0_1 a0_2 a0_3 a0_4 a0_5 a0_6 a0_7 t266 t267 t268 bt276.1 bt276.2.1 bt276.2.2.1))) else (mooringslaw08_DetApart.j0 k t269 bt276.2.2.2 false a0_0 a0_1 a0_2 a0_3 a0_4 a0_5 a0_6 a0_7 t266 t267 t268 bt276.1 bt276.2.1 bt276.2.2.1)) else (mooringslaw08_DetApart.j0 k t269 bt276.2.2.2 false a0_0 a0_1 a0_2 a0_3 a0_4 a0_5 a0_6 a0_7 t266 t267 t268 bt276.1 bt276.2.1 bt276.2.2.1)) else (mooringslaw08_DetApart.j0 k t269 bt276.2.2.2 true a0_0 a0_1 a0_2 a0_3 a0_4 a0_5 a0_6 a0_7 t266 t267 t268 bt276.1 bt276.2.1 bt276.2.2.1))) = some r := H
  have A8 := Aside0.mk A80
  clear A80
  replace H := Option.bind_eq_some_iff.mp H
  obtain ⟨⟨t276, t277, t278, t279⟩, A90, H⟩ := H
  replace H : (if t265 = true then (if t269 = true then (if t274 = true then (if a1 = a2 then (mooringslaw08_DetApart.j0 k t269 t279 false a0_0 a0_1 a0_2 a0_3 a0_4 a0_5 a0_6 a0_7 t266 t267 t268 t276 t277 t278) else (if t266 = t271 then (if t267 ≤ t273 then (mooringslaw08_DetApart.j0 k t269 t279 (decide (t272 ≤ t268)) a0_0 a0_1 a0_2 a0_3 a0_4 a0_5 a0_6 a0_7 t266 t267 t268 t276 t277 t278) else (mooringslaw08_DetApart.j0 k t269 t279 false a0_0 a0_1 a0_2 a0_3 a0_4 a0_5 a0_6 a0_7 t266 t267 t268 t276 t277 t278)) else (mooringslaw08_DetApart.j0 k t269 t279 false a0_0 a0_1 a0_2 a0_3 a0_4 a0_5 a0_6 a0_7 t266 t267 t268 t276 t277 t278))) else (mooringslaw08_DetApart.j0 k t269 t279 false a0_0 a0_1 a0_2 a0_3 a0_4 a0_5 a0_6 a0_7 t266 t267 t268 t276 t277 t278)) else (mooringslaw08_DetApart.j0 k t269 t279 false a0_0 a0_1 a0_2 a0_3 a0_4 a0_5 a0_6 a0_7 t266 t267 t268 t276 t277 t278)) else (mooringslaw08_DetApart.j0 k t269 t279 true a0_0 a0_1 a0_2 a0_3 a0_4 a0_5 a0_6 a0_7 t266 t267 t268 t276 t277 t278)) = some r := H
  have A9 := Aside0.mk A90
  clear A90
  have HC10 := Aside0.mk H
  clear H
  go_enter Try.func6, Try.ntmps6
  go_upto_region 5 with (first | ((with_reducible refine gate_dst (N := 5) rfl ?_); refine box_event ?hg (N := 5) ?hd (cs := #[.int .i64 a0_0, .int .i64 a0_1, .int .i64 a0_2, .int .i64 a0_3, .int .i64 a0_4, .int .i64 a0_5, .int .i64 a0_6, .int .i64 a0_7]) (t := 25) ?hr ?_; (case hd => rfl); (case hg => rfl); (case hr => first | (go_simp; done) | (go_simp; rfl)); intro gb264 hg w11 hbox hb; have n0_ := Aside0.mk (below_step (by repeat (first | (with_reducible first | exact HB.out | apply below_alloc | apply pw_below_drewN | apply below_drew1) | exact HB.out)) hb); have n1_ := Aside0.mk (hbox); have n2_ := Aside0.mk ((by rw [hg]; exact (below_size (by repeat (first | (with_reducible first | exact HB.out | apply below_alloc | apply pw_below_drewN | apply below_drew1) | exact HB.out))) : w.heap.size ≤ gb264)); have n3_ := Aside0.mk ((by rw [hg]; exact (below_size (by repeat (first | (with_reducible first | exact HB.out | apply below_alloc | apply pw_below_drewN | apply below_drew1) | exact HB.out))) : w.heap.size ≤ gb264)); clear HB; have HB := n0_; have BK264 := n1_; have GW264 := n2_; have GE264 := n3_; clear n0_ n1_ n2_ n3_; clear hb hbox hg) | ((with_reducible refine gate_callee (f := 10) rfl ?_); refine goesL_ (some 18) rfl rfl Try.func10 (by kernel_rfl) rfl #[] rfl (by (try simp only [List.map_toArray, List.map_cons, List.map_nil]); first | done | rfl | (simp only [List.length_drop, List.length_take]; rfl)) ?_; (with_reducible refine (mooringslaw08_awake.calls  t265 _ A6.out).mono ?_); rintro e w12 ⟨rfl, hb⟩; refine ⟨_, rfl, ?_⟩; have n0_ := Aside0.mk (blk_below (g := gb264) (o := .cells #[.int .i64 a0_0, .int .i64 a0_1, .int .i64 a0_2, .int .i64 a0_3, .int .i64 a0_4, .int .i64 a0_5, .int .i64 a0_6, .int .i64 a0_7] 25 (0, 0)) (by (with_reducible repeat (first | refine blk_drewN ?_ _ | refine blk_drew ?_ | refine blk_alloc ?_ _)); exact BK264.out) hb); have n1_ := Aside0.mk (below_step (by repeat (first | (with_reducible first | exact HB.out | apply below_alloc | apply pw_below_drewN | apply below_drew1 | refine below_set ?_ GE264.out) | exact HB.out)) hb); clear BK264; clear HB; have BK264 := n0_; have HB := n1_; clear n0_ n1_; (try clear hb); (try clear hb2); (try clear hk); (try clear hi); have hcz13_0 : w12.cell? ⟨gb264, 0, none⟩ = some (.int .i64 a0_0) := (blk_cell BK264.out 0).trans rfl; have hcz13_1 : w12.cell? ⟨gb264, 1, none⟩ = some (.int .i64 a0_1) := (blk_cell BK264.out 1).trans rfl; have hcz13_2 : w12.cell? ⟨gb264, 2, none⟩ = some (.int .i64 a0_2) := (blk_cell BK264.out 2).trans rfl; have hcz13_3 : w12.cell? ⟨gb264, 3, none⟩ = some (.int .i64 a0_3) := (blk_cell BK264.out 3).trans rfl; have hcz13_4 : w12.cell? ⟨gb264, 4, none⟩ = some (.int .i64 a0_4) := (blk_cell BK264.out 4).trans rfl; have hcz13_5 : w12.cell? ⟨gb264, 5, none⟩ = some (.int .i64 a0_5) := (blk_cell BK264.out 5).trans rfl; have hcz13_6 : w12.cell? ⟨gb264, 6, none⟩ = some (.int .i64 a0_6) := (blk_cell BK264.out 6).trans rfl; have hcz13_7 : w12.cell? ⟨gb264, 7, none⟩ = some (.int .i64 a0_7) := (blk_cell BK264.out 7).trans rfl; have hfz13_0 := blk_frozen BK264.out 0; have hfz13_1 := blk_frozen BK264.out 1; have hfz13_2 := blk_frozen BK264.out 2; have hfz13_3 := blk_frozen BK264.out 3; have hfz13_4 := blk_frozen BK264.out 4; have hfz13_5 := blk_frozen BK264.out 5; have hfz13_6 := blk_frozen BK264.out 6; have hfz13_7 := blk_frozen BK264.out 7) | ((with_reducible refine gate_callee (f := 11) rfl ?_); refine goesL_ (some 22) rfl rfl Try.func11 (by kernel_rfl) rfl #[.agg #[.int .i64 a0_0, .int .i64 a0_1, .int .i64 a0_2, .int .i64 a0_3, .int .i64 a0_4, .int .i64 a0_5, .int .i64 a0_6, .int .i64 a0_7], .int .i64 a1] rfl (by (try simp only [List.map_toArray, List.map_cons, List.map_nil]); first | done | rfl | (simp only [List.length_drop, List.length_take]; rfl)) ?_; (with_reducible refine (detmap_Base.calls k a0_0 a0_1 a0_2 a0_3 a0_4 a0_5 a0_6 a0_7 a1 t266 t267 t268 t269 _ A7.out).mono ?_); rintro e w14 ⟨rfl, hb⟩; refine ⟨_, rfl, ?_⟩; have n0_ := Aside0.mk (blk_below (g := gb264) (o := .cells #[.int .i64 a0_0, .int .i64 a0_1, .int .i64 a0_2, .int .i64 a0_3, .int .i64 a0_4, .int .i64 a0_5, .int .i64 a0_6, .int .i64 a0_7] 25 (0, 0)) (by (with_reducible repeat (first | refine blk_drewN ?_ _ | refine blk_drew ?_ | refine blk_alloc ?_ _)); exact BK264.out) hb); have n1_ := Aside0.mk (below_step (by repeat (first | (with_reducible first | exact HB.out | apply below_alloc | apply pw_below_drewN | apply below_drew1 | refine below_set ?_ GE264.out) | exact HB.out)) hb); clear BK264; clear HB; have BK264 := n0_; have HB := n1_; clear n0_ n1_; (try clear hb); (try clear hb2); (try clear hk); (try clear hi)) | ((with_reducible refine gate_dst (N := 12) rfl ?_); refine box_event ?hg (N := 12) ?hd (cs := #[.int .i64 0, .int .i64 0, .int .i64 0]) (t := 28) ?hr ?_; (case hd => rfl); (case hg => rfl); (case hr => first | (go_simp; done) | (go_simp; rfl)); intro gb270 hg w15 hbox hb; have n0_ := Aside0.mk (blk_below (g := gb264) (o := .cells #[.int .i64 a0_0, .int .i64 a0_1, .int .i64 a0_2, .int .i64 a0_3, .int .i64 a0_4, .int .i64 a0_5, .int .i64 a0_6, .int .i64 a0_7] 25 (0, 0)) (by (with_reducible repeat (first | refine blk_drewN ?_ _ | refine blk_drew ?_ | refine blk_alloc ?_ _)); exact BK264.out) hb); have n1_ := Aside0.mk (below_step (by repeat (first | (with_reducible first | exact HB.out | apply below_alloc | apply pw_below_drewN | apply below_drew1 | refine below_set ?_ GE264.out) | exact HB.out)) hb); have n2_ := Aside0.mk (hbox); have n3_ := Aside0.mk ((by rw [hg]; exact (below_size (by repeat (first | (with_reducible first | exact HB.out | apply below_alloc | apply pw_below_drewN | apply below_drew1 | refine below_set ?_ GE264.out) | exact HB.out))) : w.heap.size ≤ gb270)); have n4_ := Aside0.mk ((by rw [hg]; exact (below_size (by repeat (first | (with_reducible first | exact HB.out | apply below_alloc | apply pw_below_drewN | apply below_drew1 | refine below_set ?_ GE264.out) | exact HB.out))) : w.heap.size ≤ gb270)); have n5_ := Aside0.mk ((by rw [hg]; exact Nat.ne_of_lt (blk_lt (g := gb264) (o := .cells #[.int .i64 a0_0, .int .i64 a0_1, .int .i64 a0_2, .int .i64 a0_3, .int .i64 a0_4, .int .i64 a0_5, .int .i64 a0_6, .int .i64 a0_7] 25 (0, 0)) (by (with_reducible repeat (first | refine blk_drewN ?_ _ | refine blk_drew ?_ | refine blk_alloc ?_ _)); exact BK264.out)) : gb264 ≠ gb270)); have n6_ := Aside0.mk ((by rw [hg]; exact Nat.ne_of_gt (blk_lt (g := gb264) (o := .cells #[.int .i64 a0_0, .int .i64 a0_1, .int .i64 a0_2, .int .i64 a0_3, .int .i64 a0_4, .int .i64 a0_5, .int .i64 a0_6, .int .i64 a0_7] 25 (0, 0)) (by (with_reducible repeat (first | refine blk_drewN ?_ _ | refine blk_drew ?_ | refine blk_alloc ?_ _)); exact BK264.out)) : gb270 ≠ gb264)); clear BK264; clear HB; have BK264 := n0_; have HB := n1_; have BK270 := n2_; have GW270 := n3_; have GE270 := n4_; have NB264_270 := n5_; have NB270_264 := n6_; clear n0_ n1_ n2_ n3_ n4_ n5_ n6_; clear hb hbox hg; have hnb16 := NB270_264.out; have hnc16 := NB264_270.out; have hcz17_0 : w15.cell? ⟨gb270, 0, none⟩ = some (.int .i64 0) := (blk_cell BK270.out 0).trans rfl; have hcz17_1 : w15.cell? ⟨gb270, 1, none⟩ = some (.int .i64 0) := (blk_cell BK270.out 1).trans rfl; have hcz17_2 : w15.cell? ⟨gb270, 2, none⟩ = some (.int .i64 0) := (blk_cell BK270.out 2).trans rfl; have hfz17_0 := blk_frozen BK270.out 0; have hfz17_1 := blk_frozen BK270.out 1; have hfz17_2 := blk_frozen BK270.out 2; have hcz18_0 : w15.cell? ⟨gb264, 0, none⟩ = some (.int .i64 a0_0) := (blk_cell BK264.out 0).trans rfl; have hcz18_1 : w15.cell? ⟨gb264, 1, none⟩ = some (.int .i64 a0_1) := (blk_cell BK264.out 1).trans rfl; have hcz18_2 : w15.cell? ⟨gb264, 2, none⟩ = some (.int .i64 a0_2) := (blk_cell BK264.out 2).trans rfl; have hcz18_3 : w15.cell? ⟨gb264, 3, none⟩ = some (.int .i64 a0_3) := (blk_cell BK264.out 3).trans rfl; have hcz18_4 : w15.cell? ⟨gb264, 4, none⟩ = some (.int .i64 a0_4) := (blk_cell BK264.out 4).trans rfl; have hcz18_5 : w15.cell? ⟨gb264, 5, none⟩ = some (.int .i64 a0_5) := (blk_cell BK264.out 5).trans rfl; have hcz18_6 : w15.cell? ⟨gb264, 6, none⟩ = some (.int .i64 a0_6) := (blk_cell BK264.out 6).trans rfl; have hcz18_7 : w15.cell? ⟨gb264, 7, none⟩ = some (.int .i64 a0_7) := (blk_cell BK264.out 7).trans rfl; have hfz18_0 := blk_frozen BK264.out 0; have hfz18_1 := blk_frozen BK264.out 1; have hfz18_2 := blk_frozen BK264.out 2; have hfz18_3 := blk_frozen BK264.out 3; have hfz18_4 := blk_frozen BK264.out 4; have hfz18_5 := blk_frozen BK264.out 5; have hfz18_6 := blk_frozen BK264.out 6; have hfz18_7 := blk_frozen BK264.out 7) | ((with_reducible refine gate_callee (f := 11) rfl ?_); refine goesL_ (some 28) rfl rfl Try.func11 (by kernel_rfl) rfl #[.agg #[.int .i64 a0_0, .int .i64 a0_1, .int .i64 a0_2, .int .i64 a0_3, .int .i64 a0_4, .int .i64 a0_5, .int .i64 a0_6, .int .i64 a0_7], .int .i64 a2] rfl (by (try simp only [List.map_toArray, List.map_cons, List.map_nil]); first | done | rfl | (simp only [List.length_drop, List.length_take]; rfl)) ?_; (with_reducible refine (detmap_Base.calls k a0_0 a0_1 a0_2 a0_3 a0_4 a0_5 a0_6 a0_7 a2 t271 t272 t273 t274 _ A8.out).mono ?_); rintro e w19 ⟨rfl, hb⟩; refine ⟨_, rfl, ?_⟩; have n0_ := Aside0.mk (blk_below (g := gb264) (o := .cells #[.int .i64 a0_0, .int .i64 a0_1, .int .i64 a0_2, .int .i64 a0_3, .int .i64 a0_4, .int .i64 a0_5, .int .i64 a0_6, .int .i64 a0_7] 25 (0, 0)) (by (with_reducible repeat (first | refine blk_drewN ?_ _ | refine blk_drew ?_ | refine blk_alloc ?_ _)); refine blk_far ?_ NB264_270.out _; (with_reducible repeat (first | refine blk_drewN ?_ _ | refine blk_drew ?_ | refine blk_alloc ?_ _)); refine blk_far ?_ NB264_270.out _; (with_reducible repeat (first | refine blk_drewN ?_ _ | refine blk_drew ?_ | refine blk_alloc ?_ _)); refine blk_far ?_ NB264_270.out _; (with_reducible repeat (first | refine blk_drewN ?_ _ | refine blk_drew ?_ | refine blk_alloc ?_ _)); exact BK264.out) hb); have n1_ := Aside0.mk (blk_below (g := gb270) (o := .cells #[.int .i64 t266, .int .i64 t267, .int .i64 t268] 28 (0, 0)) (by (with_reducible repeat (first | refine blk_drewN ?_ _ | refine blk_drew ?_ | refine blk_alloc ?_ _)); refine blk_put (cs := #[.int .i64 t266, .int .i64 t267, .int .i64 0]) ?_ 2 _ rfl; (with_reducible repeat (first | refine blk_drewN ?_ _ | refine blk_drew ?_ | refine blk_alloc ?_ _)); refine blk_put (cs := #[.int .i64 t266, .int .i64 0, .int .i64 0]) ?_ 1 _ rfl; (with_reducible repeat (first | refine blk_drewN ?_ _ | refine blk_drew ?_ | refine blk_alloc ?_ _)); refine blk_put (cs := #[.int .i64 0, .int .i64 0, .int .i64 0]) ?_ 0 _ rfl; (with_reducible repeat (first | refine blk_drewN ?_ _ | refine blk_drew ?_ | refine blk_alloc ?_ _)); exact BK270.out) hb); have n2_ := Aside0.mk (below_step (by repeat (first | (with_reducible first | exact HB.out | apply below_alloc | apply pw_below_drewN | apply below_drew1 | refine below_set ?_ GE264.out | refine below_set ?_ GE270.out) | exact HB.out)) hb); clear BK264; clear BK270; clear HB; have BK264 := n0_; have BK270 := n1_; have HB := n2_; clear n0_ n1_ n2_; (try clear hb); (try clear hb2); (try clear hk); (try clear hi)) | ((with_reducible refine gate_dst (N := 14) rfl ?_); refine box_event ?hg (N := 14) ?hd (cs := #[.int .i64 0, .int .i64 0, .int .i64 0]) (t := 28) ?hr ?_; (case hd => rfl); (case hg => rfl); (case hr => first | (go_simp; done) | (go_simp; rfl)); intro gb275 hg w20 hbox hb; have n0_ := Aside0.mk (blk_below (g := gb264) (o := .cells #[.int .i64 a0_0, .int .i64 a0_1, .int .i64 a0_2, .int .i64 a0_3, .int .i64 a0_4, .int .i64 a0_5, .int .i64 a0_6, .int .i64 a0_7] 25 (0, 0)) (by (with_reducible repeat (first | refine blk_drewN ?_ _ | refine blk_drew ?_ | refine blk_alloc ?_ _)); exact BK264.out) hb); have n1_ := Aside0.mk (blk_below (g := gb270) (o := .cells #[.int .i64 t266, .int .i64 t267, .int .i64 t268] 28 (0, 0)) (by (with_reducible repeat (first | refine blk_drewN ?_ _ | refine blk_drew ?_ | refine blk_alloc ?_ _)); exact BK270.out) hb); have n2_ := Aside0.mk (below_step (by repeat (first | (with_reducible first | exact HB.out | apply below_alloc | apply pw_below_drewN | apply below_drew1 | refine below_set ?_ GE264.out | refine below_set ?_ GE270.out) | exact HB.out)) hb); have n3_ := Aside0.mk (hbox); have n4_ := Aside0.mk ((by rw [hg]; exact (below_size (by repeat (first | (with_reducible first | exact HB.out | apply below_alloc | apply pw_below_drewN | apply below_drew1 | refine below_set ?_ GE264.out | refine below_set ?_ GE270.out) | exact HB.out))) : w.heap.size ≤ gb275)); have n5_ := Aside0.mk ((by rw [hg]; exact (below_size (by repeat (first | (with_reducible first | exact HB.out | apply below_alloc | apply pw_below_drewN | apply below_drew1 | refine below_set ?_ GE264.out | refine below_set ?_ GE270.out) | exact HB.out))) : w.heap.size ≤ gb275)); have n6_ := Aside0.mk ((by rw [hg]; exact Nat.ne_of_lt (blk_lt (g := gb264) (o := .cells #[.int .i64 a0_0, .int .i64 a0_1, .int .i64 a0_2, .int .i64 a0_3, .int .i64 a0_4, .int .i64 a0_5, .int .i64 a0_6, .int .i64 a0_7] 25 (0, 0)) (by (with_reducible repeat (first | refine blk_drewN ?_ _ | refine blk_drew ?_ | refine blk_alloc ?_ _)); exact BK264.out)) : gb264 ≠ gb275)); have n7_ := Aside0.mk ((by rw [hg]; exact Nat.ne_of_gt (blk_lt (g := gb264) (o := .cells #[.int .i64 a0_0, .int .i64 a0_1, .int .i64 a0_2, .int .i64 a0_3, .int .i64 a0_4, .int .i64 a0_5, .int .i64 a0_6, .int .i64 a0_7] 25 (0, 0)) (by (with_reducible repeat (first | refine blk_drewN ?_ _ | refine blk_drew ?_ | refine blk_alloc ?_ _)); exact BK264.out)) : gb275 ≠ gb264)); have n8_ := Aside0.mk ((by rw [hg]; exact Nat.ne_of_lt (blk_lt (g := gb270) (o := .cells #[.int .i64 t266, .int .i64 t267, .int .i64 t268] 28 (0, 0)) (by (with_reducible repeat (first | refine blk_drewN ?_ _ | refine blk_drew ?_ | refine blk_alloc ?_ _)); exact BK270.out)) : gb270 ≠ gb275)); have n9_ := Aside0.mk ((by rw [hg]; exact Nat.ne_of_gt (blk_lt (g := gb270) (o := .cells #[.int .i64 t266, .int .i64 t267, .int .i64 t268] 28 (0, 0)) (by (with_reducible repeat (first | refine blk_drewN ?_ _ | refine blk_drew ?_ | refine blk_alloc ?_ _)); exact BK270.out)) : gb275 ≠ gb270)); clear BK264; clear BK270; clear HB; have BK264 := n0_; have BK270 := n1_; have HB := n2_; have BK275 := n3_; have GW275 := n4_; have GE275 := n5_; have NB264_275 := n6_; have NB275_264 := n7_; have NB270_275 := n8_; have NB275_270 := n9_; clear n0_ n1_ n2_ n3_ n4_ n5_ n6_ n7_ n8_ n9_; clear hb hbox hg; have hnb21 := NB275_264.out; have hnc21 := NB264_275.out; have hnb22 := NB275_270.out; have hnc22 := NB270_275.out; have hcz23_0 : w20.cell? ⟨gb275, 0, none⟩ = some (.int .i64 0) := (blk_cell BK275.out 0).trans rfl; have hcz23_1 : w20.cell? ⟨gb275, 1, none⟩ = some (.int .i64 0) := (blk_cell BK275.out 1).trans rfl; have hcz23_2 : w20.cell? ⟨gb275, 2, none⟩ = some (.int .i64 0) := (blk_cell BK275.out 2).trans rfl; have hfz23_0 := blk_frozen BK275.out 0; have hfz23_1 := blk_frozen BK275.out 1; have hfz23_2 := blk_frozen BK275.out 2; have hcz24_0 : w20.cell? ⟨gb264, 0, none⟩ = some (.int .i64 a0_0) := (blk_cell BK264.out 0).trans rfl; have hcz24_1 : w20.cell? ⟨gb264, 1, none⟩ = some (.int .i64 a0_1) := (blk_cell BK264.out 1).trans rfl; have hcz24_2 : w20.cell? ⟨gb264, 2, none⟩ = some (.int .i64 a0_2) := (blk_cell BK264.out 2).trans rfl; have hcz24_3 : w20.cell? ⟨gb264, 3, none⟩ = some (.int .i64 a0_3) := (blk_cell BK264.out 3).trans rfl; have hcz24_4 : w20.cell? ⟨gb264, 4, none⟩ = some (.int .i64 a0_4) := (blk_cell BK264.out 4).trans rfl; have hcz24_5 : w20.cell? ⟨gb264, 5, none⟩ = some (.int .i64 a0_5) := (blk_cell BK264.out 5).trans rfl; have hcz24_6 : w20.cell? ⟨gb264, 6, none⟩ = some (.int .i64 a0_6) := (blk_cell BK264.out 6).trans rfl; have hcz24_7 : w20.cell? ⟨gb264, 7, none⟩ = some (.int .i64 a0_7) := (blk_cell BK264.out 7).trans rfl; have hfz24_0 := blk_frozen BK264.out 0; have hfz24_1 := blk_frozen BK264.out 1; have hfz24_2 := blk_frozen BK264.out 2; have hfz24_3 := blk_frozen BK264.out 3; have hfz24_4 := blk_frozen BK264.out 4; have hfz24_5 := blk_frozen BK264.out 5; have hfz24_6 := blk_frozen BK264.out 6; have hfz24_7 := blk_frozen BK264.out 7) | ((with_reducible refine gate_callee (f := 13) rfl ?_); refine goesL_ (some 35) rfl rfl Try.func13 (by kernel_rfl) rfl #[.agg #[.int .i64 a0_0, .int .i64 a0_1, .int .i64 a0_2, .int .i64 a0_3, .int .i64 a0_4, .int .i64 a0_5, .int .i64 a0_6, .int .i64 a0_7], .int .i64 a3, .int .i64 a4] rfl (by (try simp only [List.map_toArray, List.map_cons, List.map_nil]); first | done | rfl | (simp only [List.length_drop, List.length_take]; rfl)) ?_; (with_reducible refine (detmap_Block.calls k a0_0 a0_1 a0_2 a0_3 a0_4 a0_5 a0_6 a0_7 a3 a4 t276 t277 t278 t279 _ A9.out).mono ?_); rintro e w25 ⟨rfl, hb⟩; refine ⟨_, rfl, ?_⟩; have n0_ := Aside0.mk (blk_below (g := gb264) (o := .cells #[.int .i64 a0_0, .int .i64 a0_1, .int .i64 a0_2, .int .i64 a0_3, .int .i64 a0_4, .int .i64 a0_5, .int .i64 a0_6, .int .i64 a0_7] 25 (0, 0)) (by (with_reducible repeat (first | refine blk_drewN ?_ _ | refine blk_drew ?_ | refine blk_alloc ?_ _)); refine blk_far ?_ NB264_275.out _; (with_reducible repeat (first | refine blk_drewN ?_ _ | refine blk_drew ?_ | refine blk_alloc ?_ _)); refine blk_far ?_ NB264_275.out _; (with_reducible repeat (first | refine blk_drewN ?_ _ | refine blk_drew ?_ | refine blk_alloc ?_ _)); refine blk_far ?_ NB264_275.out _; (with_reducible repeat (first | refine blk_drewN ?_ _ | refine blk_drew ?_ | refine blk_alloc ?_ _)); exact BK264.out) hb); have n1_ := Aside0.mk (blk_below (g := gb270) (o := .cells #[.int .i64 t266, .int .i64 t267, .int .i64 t268] 28 (0, 0)) (by (with_reducible repeat (first | refine blk_drewN ?_ _ | refine blk_drew ?_ | refine blk_alloc ?_ _)); refine blk_far ?_ NB270_275.out _; (with_reducible repeat (first | refine blk_drewN ?_ _ | refine blk_drew ?_ | refine blk_alloc ?_ _)); refine blk_far ?_ NB270_275.out _; (with_reducible repeat (first | refine blk_drewN ?_ _ | refine blk_drew ?_ | refine blk_alloc ?_ _)); refine blk_far ?_ NB270_275.out _; (with_reducible repeat (first | refine blk_drewN ?_ _ | refine blk_drew ?_ | refine blk_alloc ?_ _)); exact BK270.out) hb); have n2_ := Aside0.mk (blk_below (g := gb275) (o := .cells #[.int .i64 t271, .int .i64 t272, .int .i64 t273] 28 (0, 0)) (by (with_reducible repeat (first | refine blk_drewN ?_ _ | refine blk_drew ?_ | refine blk_alloc ?_ _)); refine blk_put (cs := #[.int .i64 t271, .int .i64 t272, .int .i64 0]) ?_ 2 _ rfl; (with_reducible repeat (first | refine blk_drewN ?_ _ | refine blk_drew ?_ | refine blk_alloc ?_ _)); refine blk_put (cs := #[.int .i64 t271, .int .i64 0, .int .i64 0]) ?_ 1 _ rfl; (with_reducible repeat (first | refine blk_drewN ?_ _ | refine blk_drew ?_ | refine blk_alloc ?_ _)); refine blk_put (cs := #[.int .i64 0, .int .i64 0, .int .i64 0]) ?_ 0 _ rfl; (with_reducible repeat (first | refine blk_drewN ?_ _ | refine blk_drew ?_ | refine blk_alloc ?_ _)); exact BK275.out) hb); have n3_ := Aside0.mk (below_step (by repeat (first | (with_reducible first | exact HB.out | apply below_alloc | apply pw_below_drewN | apply below_drew1 | refine below_set ?_ GE264.out | refine below_set ?_ GE270.out | refine below_set ?_ GE275.out) | exact HB.out)) hb); clear BK264; clear BK270; clear BK275; clear HB; have BK264 := n0_; have BK270 := n1_; have BK275 := n2_; have HB := n3_; clear n0_ n1_ n2_ n3_; (try clear hb); (try clear hb2); (try clear hk); (try clear hi)) | ((with_reducible refine gate_dst (N := 16) rfl ?_); refine box_event ?hg (N := 16) ?hd (cs := #[.int .i64 0, .int .i64 0, .int .i64 0]) (t := 28) ?hr ?_; (case hd => rfl); (case hg => rfl); (case hr => first | (go_simp; done) | (go_simp; rfl)); intro gb280 hg w26 hbox hb; have n0_ := Aside0.mk (blk_below (g := gb264) (o := .cells #[.int .i64 a0_0, .int .i64 a0_1, .int .i64 a0_2, .int .i64 a0_3, .int .i64 a0_4, .int .i64 a0_5, .int .i64 a0_6, .int .i64 a0_7] 25 (0, 0)) (by (with_reducible repeat (first | refine blk_drewN ?_ _ | refine blk_drew ?_ | refine blk_alloc ?_ _)); exact BK264.out) hb); have n1_ := Aside0.mk (blk_below (g := gb270) (o := .cells #[.int .i64 t266, .int .i64 t267, .int .i64 t268] 28 (0, 0)) (by (with_reducible repeat (first | refine blk_drewN ?_ _ | refine blk_drew ?_ | refine blk_alloc ?_ _)); exact BK270.out) hb); have n2_ := Aside0.mk (blk_below (g := gb275) (o := .cells #[.int .i64 t271, .int .i64 t272, .int .i64 t273] 28 (0, 0)) (by (with_reducible repeat (first | refine blk_drewN ?_ _ | refine blk_drew ?_ | refine blk_alloc ?_ _)); exact BK275.out) hb); have n3_ := Aside0.mk (below_step (by repeat (first | (with_reducible first | exact HB.out | apply below_alloc | apply pw_below_drewN | apply below_drew1 | refine below_set ?_ GE264.out | refine below_set ?_ GE270.out | refine below_set ?_ GE275.out) | exact HB.out)) hb); have n4_ := Aside0.mk (hbox); have n5_ := Aside0.mk ((by rw [hg]; exact (below_size (by repeat (first | (with_reducible first | exact HB.out | apply below_alloc | apply pw_below_drewN | apply below_drew1 | refine below_set ?_ GE264.out | refine below_set ?_ GE270.out | refine below_set ?_ GE275.out) | exact HB.out))) : w.heap.size ≤ gb280)); have n6_ := Aside0.mk ((by rw [hg]; exact (below_size (by repeat (first | (with_reducible first | exact HB.out | apply below_alloc | apply pw_below_drewN | apply below_drew1 | refine below_set ?_ GE264.out | refine below_set ?_ GE270.out | refine below_set ?_ GE275.out) | exact HB.out))) : w.heap.size ≤ gb280)); have n7_ := Aside0.mk ((by rw [hg]; exact Nat.ne_of_lt (blk_lt (g := gb264) (o := .cells #[.int .i64 a0_0, .int .i64 a0_1, .int .i64 a0_2, .int .i64 a0_3, .int .i64 a0_4, .int .i64 a0_5, .int .i64 a0_6, .int .i64 a0_7] 25 (0, 0)) (by (with_reducible repeat (first | refine blk_drewN ?_ _ | refine blk_drew ?_ | refine blk_alloc ?_ _)); exact BK264.out)) : gb264 ≠ gb280)); have n8_ := Aside0.mk ((by rw [hg]; exact Nat.ne_of_gt (blk_lt (g := gb264) (o := .cells #[.int .i64 a0_0, .int .i64 a0_1, .int .i64 a0_2, .int .i64 a0_3, .int .i64 a0_4, .int .i64 a0_5, .int .i64 a0_6, .int .i64 a0_7] 25 (0, 0)) (by (with_reducible repeat (first | refine blk_drewN ?_ _ | refine blk_drew ?_ | refine blk_alloc ?_ _)); exact BK264.out)) : gb280 ≠ gb264)); have n9_ := Aside0.mk ((by rw [hg]; exact Nat.ne_of_lt (blk_lt (g := gb270) (o := .cells #[.int .i64 t266, .int .i64 t267, .int .i64 t268] 28 (0, 0)) (by (with_reducible repeat (first | refine blk_drewN ?_ _ | refine blk_drew ?_ | refine blk_alloc ?_ _)); exact BK270.out)) : gb270 ≠ gb280)); have n10_ := Aside0.mk ((by rw [hg]; exact Nat.ne_of_gt (blk_lt (g := gb270) (o := .cells #[.int .i64 t266, .int .i64 t267, .int .i64 t268] 28 (0, 0)) (by (with_reducible repeat (first | refine blk_drewN ?_ _ | refine blk_drew ?_ | refine blk_alloc ?_ _)); exact BK270.out)) : gb280 ≠ gb270)); have n11_ := Aside0.mk ((by rw [hg]; exact Nat.ne_of_lt (blk_lt (g := gb275) (o := .cells #[.int .i64 t271, .int .i64 t272, .int .i64 t273] 28 (0, 0)) (by (with_reducible repeat (first | refine blk_drewN ?_ _ | refine blk_drew ?_ | refine blk_alloc ?_ _)); exact BK275.out)) : gb275 ≠ gb280)); have n12_ := Aside0.mk ((by rw [hg]; exact Nat.ne_of_gt (blk_lt (g := gb275) (o := .cells #[.int .i64 t271, .int .i64 t272, .int .i64 t273] 28 (0, 0)) (by (with_reducible repeat (first | refine blk_drewN ?_ _ | refine blk_drew ?_ | refine blk_alloc ?_ _)); exact BK275.out)) : gb280 ≠ gb275)); clear BK264; clear BK270; clear BK275; clear HB; have BK264 := n0_; have BK270 := n1_; have BK275 := n2_; have HB := n3_; have BK280 := n4_; have GW280 := n5_; have GE280 := n6_; have NB264_280 := n7_; have NB280_264 := n8_; have NB270_280 := n9_; have NB280_270 := n10_; have NB275_280 := n11_; have NB280_275 := n12_; clear n0_ n1_ n2_ n3_ n4_ n5_ n6_ n7_ n8_ n9_ n10_ n11_ n12_; clear hb hbox hg; have hnb27 := NB280_264.out; have hnc27 := NB264_280.out; have hnb28 := NB280_270.out; have hnc28 := NB270_280.out; have hnb29 := NB280_275.out; have hnc29 := NB275_280.out; have hcz30_0 : w26.cell? ⟨gb280, 0, none⟩ = some (.int .i64 0) := (blk_cell BK280.out 0).trans rfl; have hcz30_1 : w26.cell? ⟨gb280, 1, none⟩ = some (.int .i64 0) := (blk_cell BK280.out 1).trans rfl; have hcz30_2 : w26.cell? ⟨gb280, 2, none⟩ = some (.int .i64 0) := (blk_cell BK280.out 2).trans rfl; have hfz30_0 := blk_frozen BK280.out 0; have hfz30_1 := blk_frozen BK280.out 1; have hfz30_2 := blk_frozen BK280.out 2))
  (try simp only [Act.put, List.setIfInBounds_toArray, List.set_cons_zero, List.set_cons_succ])
  go_cut [71] (fun v71 wc => ∃ (kq : Nat) (x71_9 : Bool), v71 = .bool x71_9 ∧ Aside0 (mooringslaw08_DetApart.j0 kq t269 t279 x71_9 a0_0 a0_1 a0_2 a0_3 a0_4 a0_5 a0_6 a0_7 t266 t267 t268 t276 t277 t278 = some r) ∧ Aside0 (kq ≤ k) ∧ Aside0 (wc.heap[gb264]? = some (.cells #[.int .i64 a0_0, .int .i64 a0_1, .int .i64 a0_2, .int .i64 a0_3, .int .i64 a0_4, .int .i64 a0_5, .int .i64 a0_6, .int .i64 a0_7] 25 (0, 0))) ∧ Aside0 (wc.heap[gb270]? = some (.cells #[.int .i64 t266, .int .i64 t267, .int .i64 t268] 28 (0, 0))) ∧ Aside0 (wc.heap[gb275]? = some (.cells #[.int .i64 t271, .int .i64 t272, .int .i64 t273] 28 (0, 0))) ∧ Aside0 (wc.heap[gb280]? = some (.cells #[.int .i64 t276, .int .i64 t277, .int .i64 t278] 28 (0, 0))) ∧ Aside0 (Below w.heap.size w wc))
  case first =>
    have H := HC10.out
    clear HC10
    by_cases c31 : t265 = true
    · subst c31
      have H1 : (if t269 = true then (if t274 = true then (if a1 = a2 then (mooringslaw08_DetApart.j0 k t269 t279 false a0_0 a0_1 a0_2 a0_3 a0_4 a0_5 a0_6 a0_7 t266 t267 t268 t276 t277 t278) else (if t266 = t271 then (if t267 ≤ t273 then (mooringslaw08_DetApart.j0 k t269 t279 (decide (t272 ≤ t268)) a0_0 a0_1 a0_2 a0_3 a0_4 a0_5 a0_6 a0_7 t266 t267 t268 t276 t277 t278) else (mooringslaw08_DetApart.j0 k t269 t279 false a0_0 a0_1 a0_2 a0_3 a0_4 a0_5 a0_6 a0_7 t266 t267 t268 t276 t277 t278)) else (mooringslaw08_DetApart.j0 k t269 t279 false a0_0 a0_1 a0_2 a0_3 a0_4 a0_5 a0_6 a0_7 t266 t267 t268 t276 t277 t278))) else (mooringslaw08_DetApart.j0 k t269 t279 false a0_0 a0_1 a0_2 a0_3 a0_4 a0_5 a0_6 a0_7 t266 t267 t268 t276 t277 t278)) else (mooringslaw08_DetApart.j0 k t269 t279 false a0_0 a0_1 a0_2 a0_3 a0_4 a0_5 a0_6 a0_7 t266 t267 t268 t276 t277 t278)) = some r := by rw [if_pos rfl] at H; exact H
      clear H
      have H := H1
      clear H1
      by_cases c32 : t269 = true
      · subst c32
        have H1 : (if t274 = true then (if a1 = a2 then (mooringslaw08_DetApart.j0 k true t279 false a0_0 a0_1 a0_2 a0_3 a0_4 a0_5 a0_6 a0_7 t266 t267 t268 t276 t277 t278) else (if t266 = t271 then (if t267 ≤ t273 then (mooringslaw08_DetApart.j0 k true t279 (decide (t272 ≤ t268)) a0_0 a0_1 a0_2 a0_3 a0_4 a0_5 a0_6 a0_7 t266 t267 t268 t276 t277 t278) else (mooringslaw08_DetApart.j0 k true t279 false a0_0 a0_1 a0_2 a0_3 a0_4 a0_5 a0_6 a0_7 t266 t267 t268 t276 t277 t278)) else (mooringslaw08_DetApart.j0 k true t279 false a0_0 a0_1 a0_2 a0_3 a0_4 a0_5 a0_6 a0_7 t266 t267 t268 t276 t277 t278))) else (mooringslaw08_DetApart.j0 k true t279 false a0_0 a0_1 a0_2 a0_3 a0_4 a0_5 a0_6 a0_7 t266 t267 t268 t276 t277 t278)) = some r := by rw [if_pos rfl] at H; exact H
        clear H
        have H := H1
        clear H1
        by_cases c33 : t274 = true
        · subst c33
          have H1 : (if a1 = a2 then (mooringslaw08_DetApart.j0 k true t279 false a0_0 a0_1 a0_2 a0_3 a0_4 a0_5 a0_6 a0_7 t266 t267 t268 t276 t277 t278) else (if t266 = t271 then (if t267 ≤ t273 then (mooringslaw08_DetApart.j0 k true t279 (decide (t272 ≤ t268)) a0_0 a0_1 a0_2 a0_3 a0_4 a0_5 a0_6 a0_7 t266 t267 t268 t276 t277 t278) else (mooringslaw08_DetApart.j0 k true t279 false a0_0 a0_1 a0_2 a0_3 a0_4 a0_5 a0_6 a0_7 t266 t267 t268 t276 t277 t278)) else (mooringslaw08_DetApart.j0 k true t279 false a0_0 a0_1 a0_2 a0_3 a0_4 a0_5 a0_6 a0_7 t266 t267 t268 t276 t277 t278))) = some r := by rw [if_pos rfl] at H; exact H
          clear H
          have H := H1
          clear H1
          by_cases c34 : a1 = a2
          · rw [if_pos c34] at H
            have c34b0 : (a1 == a2) = true := beq_iff_eq.mpr c34
            have c34b1 : (a1 != a2) = false := bne_eq_false_iff_eq.mpr c34
            clear c34
            (first | rw [c34b0] | (simp only [i64_w, i32_w]; rw [c34b0]) | skip)
            have H' := Aside0.mk H
            clear H
            go_wp2
            go_meet
            case rel => exact ⟨_, (false), (by first | rfl | (simp; done) | (simp [*]; done)), H', ⟨by first | omega | exact Nat.le_refl _⟩, ⟨by (with_reducible repeat (first | refine blk_drewN ?_ _ | refine blk_drew ?_ | refine blk_alloc ?_ _)); refine blk_far ?_ NB264_280.out _; (with_reducible repeat (first | refine blk_drewN ?_ _ | refine blk_drew ?_ | refine blk_alloc ?_ _)); refine blk_far ?_ NB264_280.out _; (with_reducible repeat (first | refine blk_drewN ?_ _ | refine blk_drew ?_ | refine blk_alloc ?_ _)); refine blk_far ?_ NB264_280.out _; (with_reducible repeat (first | refine blk_drewN ?_ _ | refine blk_drew ?_ | refine blk_alloc ?_ _)); exact BK264.out⟩, ⟨by (with_reducible repeat (first | refine blk_drewN ?_ _ | refine blk_drew ?_ | refine blk_alloc ?_ _)); refine blk_far ?_ NB270_280.out _; (with_reducible repeat (first | refine blk_drewN ?_ _ | refine blk_drew ?_ | refine blk_alloc ?_ _)); refine blk_far ?_ NB270_280.out _; (with_reducible repeat (first | refine blk_drewN ?_ _ | refine blk_drew ?_ | refine blk_alloc ?_ _)); refine blk_far ?_ NB270_280.out _; (with_reducible repeat (first | refine blk_drewN ?_ _ | refine blk_drew ?_ | refine blk_alloc ?_ _)); exact BK270.out⟩, ⟨by (with_reducible repeat (first | refine blk_drewN ?_ _ | refine blk_drew ?_ | refine blk_alloc ?_ _)); refine blk_far ?_ NB275_280.out _; (with_reducible repeat (first | refine blk_drewN ?_ _ | refine blk_drew ?_ | refine blk_alloc ?_ _)); refine blk_far ?_ NB275_280.out _; (with_reducible repeat (first | refine blk_drewN ?_ _ | refine blk_drew ?_ | refine blk_alloc ?_ _)); refine blk_far ?_ NB275_280.out _; (with_reducible repeat (first | refine blk_drewN ?_ _ | refine blk_drew ?_ | refine blk_alloc ?_ _)); exact BK275.out⟩, ⟨by (with_reducible repeat (first | refine blk_drewN ?_ _ | refine blk_drew ?_ | refine blk_alloc ?_ _)); refine blk_put (cs := #[.int .i64 t276, .int .i64 t277, .int .i64 0]) ?_ 2 _ rfl; (with_reducible repeat (first | refine blk_drewN ?_ _ | refine blk_drew ?_ | refine blk_alloc ?_ _)); refine blk_put (cs := #[.int .i64 t276, .int .i64 0, .int .i64 0]) ?_ 1 _ rfl; (with_reducible repeat (first | refine blk_drewN ?_ _ | refine blk_drew ?_ | refine blk_alloc ?_ _)); refine blk_put (cs := #[.int .i64 0, .int .i64 0, .int .i64 0]) ?_ 0 _ rfl; (with_reducible repeat (first | refine blk_drewN ?_ _ | refine blk_drew ?_ | refine blk_alloc ?_ _)); exact BK280.out⟩, ⟨by repeat (first | (with_reducible first | exact HB.out | apply below_alloc | apply pw_below_drewN | apply below_drew1 | refine below_set ?_ GE264.out | refine below_set ?_ GE270.out | refine below_set ?_ GE275.out | refine below_set ?_ GE280.out) | exact HB.out)⟩⟩
          · rw [if_neg c34] at H
            have c34b0 : (a1 == a2) = false := beq_eq_false_iff_ne.mpr c34
            have c34b1 : (a1 != a2) = true := bne_iff_ne.mpr c34
            (first | rw [c34b0] | (simp only [i64_w, i32_w]; rw [c34b0]) | skip)
            by_cases c35 : t266 = t271
            · rw [if_pos c35] at H
              have c35b0 : (t266 == t271) = true := beq_iff_eq.mpr c35
              have c35b1 : (t266 != t271) = false := bne_eq_false_iff_eq.mpr c35
              clear c35
              by_cases c36 : t267 ≤ t273
              · rw [if_pos c36] at H
                have c36b0 : decide (t267 ≤ t273) = true := decide_eq_true c36
                clear c36
                have H' := Aside0.mk H
                clear H
                have hnb37 := NB270_264.out
                have hnc37 := NB264_270.out
                have hnb38 := NB270_275.out
                have hnc38 := NB275_270.out
                have hnb39 := NB270_280.out
                have hnc39 := NB280_270.out
                have hcz40_0 : w26.cell? ⟨gb270, 0, none⟩ = some (.int .i64 t266) := (blk_cell BK270.out 0).trans rfl
                have hcz40_1 : w26.cell? ⟨gb270, 1, none⟩ = some (.int .i64 t267) := (blk_cell BK270.out 1).trans rfl
                have hcz40_2 : w26.cell? ⟨gb270, 2, none⟩ = some (.int .i64 t268) := (blk_cell BK270.out 2).trans rfl
                have hfz40_0 := blk_frozen BK270.out 0
                have hfz40_1 := blk_frozen BK270.out 1
                have hfz40_2 := blk_frozen BK270.out 2
                have hnb41 := NB275_264.out
                have hnc41 := NB264_275.out
                have hnb42 := NB275_280.out
                have hnc42 := NB280_275.out
                have hcz43_0 : w26.cell? ⟨gb275, 0, none⟩ = some (.int .i64 t271) := (blk_cell BK275.out 0).trans rfl
                have hcz43_1 : w26.cell? ⟨gb275, 1, none⟩ = some (.int .i64 t272) := (blk_cell BK275.out 1).trans rfl
                have hcz43_2 : w26.cell? ⟨gb275, 2, none⟩ = some (.int .i64 t273) := (blk_cell BK275.out 2).trans rfl
                have hfz43_0 := blk_frozen BK275.out 0
                have hfz43_1 := blk_frozen BK275.out 1
                have hfz43_2 := blk_frozen BK275.out 2
                go_wp2
                go_meet
                case rel => exact ⟨_, (decide (t272 ≤ t268)), (by first | rfl | (simp; done) | (simp [*]; done)), H', ⟨by first | omega | exact Nat.le_refl _⟩, ⟨by (with_reducible repeat (first | refine blk_drewN ?_ _ | refine blk_drew ?_ | refine blk_alloc ?_ _)); refine blk_far ?_ NB264_280.out _; (with_reducible repeat (first | refine blk_drewN ?_ _ | refine blk_drew ?_ | refine blk_alloc ?_ _)); refine blk_far ?_ NB264_280.out _; (with_reducible repeat (first | refine blk_drewN ?_ _ | refine blk_drew ?_ | refine blk_alloc ?_ _)); refine blk_far ?_ NB264_280.out _; (with_reducible repeat (first | refine blk_drewN ?_ _ | refine blk_drew ?_ | refine blk_alloc ?_ _)); exact BK264.out⟩, ⟨by (with_reducible repeat (first | refine blk_drewN ?_ _ | refine blk_drew ?_ | refine blk_alloc ?_ _)); refine blk_far ?_ NB270_280.out _; (with_reducible repeat (first | refine blk_drewN ?_ _ | refine blk_drew ?_ | refine blk_alloc ?_ _)); refine blk_far ?_ NB270_280.out _; (with_reducible repeat (first | refine blk_drewN ?_ _ | refine blk_drew ?_ | refine blk_alloc ?_ _)); refine blk_far ?_ NB270_280.out _; (with_reducible repeat (first | refine blk_drewN ?_ _ | refine blk_drew ?_ | refine blk_alloc ?_ _)); exact BK270.out⟩, ⟨by (with_reducible repeat (first | refine blk_drewN ?_ _ | refine blk_drew ?_ | refine blk_alloc ?_ _)); refine blk_far ?_ NB275_280.out _; (with_reducible repeat (first | refine blk_drewN ?_ _ | refine blk_drew ?_ | refine blk_alloc ?_ _)); refine blk_far ?_ NB275_280.out _; (with_reducible repeat (first | refine blk_drewN ?_ _ | refine blk_drew ?_ | refine blk_alloc ?_ _)); refine blk_far ?_ NB275_280.out _; (with_reducible repeat (first | refine blk_drewN ?_ _ | refine blk_drew ?_ | refine blk_alloc ?_ _)); exact BK275.out⟩, ⟨by (with_reducible repeat (first | refine blk_drewN ?_ _ | refine blk_drew ?_ | refine blk_alloc ?_ _)); refine blk_put (cs := #[.int .i64 t276, .int .i64 t277, .int .i64 0]) ?_ 2 _ rfl; (with_reducible repeat (first | refine blk_drewN ?_ _ | refine blk_drew ?_ | refine blk_alloc ?_ _)); refine blk_put (cs := #[.int .i64 t276, .int .i64 0, .int .i64 0]) ?_ 1 _ rfl; (with_reducible repeat (first | refine blk_drewN ?_ _ | refine blk_drew ?_ | refine blk_alloc ?_ _)); refine blk_put (cs := #[.int .i64 0, .int .i64 0, .int .i64 0]) ?_ 0 _ rfl; (with_reducible repeat (first | refine blk_drewN ?_ _ | refine blk_drew ?_ | refine blk_alloc ?_ _)); exact BK280.out⟩, ⟨by repeat (first | (with_reducible first | exact HB.out | apply below_alloc | apply pw_below_drewN | apply below_drew1 | refine below_set ?_ GE264.out | refine below_set ?_ GE270.out | refine below_set ?_ GE275.out | refine below_set ?_ GE280.out) | exact HB.out)⟩⟩
              · rw [if_neg c36] at H
                have c36b0 : decide (t267 ≤ t273) = false := decide_eq_false c36
                clear c36
                have H' := Aside0.mk H
                clear H
                have hnb44 := NB270_264.out
                have hnc44 := NB264_270.out
                have hnb45 := NB270_275.out
                have hnc45 := NB275_270.out
                have hnb46 := NB270_280.out
                have hnc46 := NB280_270.out
                have hcz47_0 : w26.cell? ⟨gb270, 0, none⟩ = some (.int .i64 t266) := (blk_cell BK270.out 0).trans rfl
                have hcz47_1 : w26.cell? ⟨gb270, 1, none⟩ = some (.int .i64 t267) := (blk_cell BK270.out 1).trans rfl
                have hcz47_2 : w26.cell? ⟨gb270, 2, none⟩ = some (.int .i64 t268) := (blk_cell BK270.out 2).trans rfl
                have hfz47_0 := blk_frozen BK270.out 0
                have hfz47_1 := blk_frozen BK270.out 1
                have hfz47_2 := blk_frozen BK270.out 2
                have hnb48 := NB275_264.out
                have hnc48 := NB264_275.out
                have hnb49 := NB275_280.out
                have hnc49 := NB280_275.out
                have hcz50_0 : w26.cell? ⟨gb275, 0, none⟩ = some (.int .i64 t271) := (blk_cell BK275.out 0).trans rfl
                have hcz50_1 : w26.cell? ⟨gb275, 1, none⟩ = some (.int .i64 t272) := (blk_cell BK275.out 1).trans rfl
                have hcz50_2 : w26.cell? ⟨gb275, 2, none⟩ = some (.int .i64 t273) := (blk_cell BK275.out 2).trans rfl
                have hfz50_0 := blk_frozen BK275.out 0
                have hfz50_1 := blk_frozen BK275.out 1
                have hfz50_2 := blk_frozen BK275.out 2
                go_wp2
                go_meet
                case rel => exact ⟨_, (false), (by first | rfl | (simp; done) | (simp [*]; done)), H', ⟨by first | omega | exact Nat.le_refl _⟩, ⟨by (with_reducible repeat (first | refine blk_drewN ?_ _ | refine blk_drew ?_ | refine blk_alloc ?_ _)); refine blk_far ?_ NB264_280.out _; (with_reducible repeat (first | refine blk_drewN ?_ _ | refine blk_drew ?_ | refine blk_alloc ?_ _)); refine blk_far ?_ NB264_280.out _; (with_reducible repeat (first | refine blk_drewN ?_ _ | refine blk_drew ?_ | refine blk_alloc ?_ _)); refine blk_far ?_ NB264_280.out _; (with_reducible repeat (first | refine blk_drewN ?_ _ | refine blk_drew ?_ | refine blk_alloc ?_ _)); exact BK264.out⟩, ⟨by (with_reducible repeat (first | refine blk_drewN ?_ _ | refine blk_drew ?_ | refine blk_alloc ?_ _)); refine blk_far ?_ NB270_280.out _; (with_reducible repeat (first | refine blk_drewN ?_ _ | refine blk_drew ?_ | refine blk_alloc ?_ _)); refine blk_far ?_ NB270_280.out _; (with_reducible repeat (first | refine blk_drewN ?_ _ | refine blk_drew ?_ | refine blk_alloc ?_ _)); refine blk_far ?_ NB270_280.out _; (with_reducible repeat (first | refine blk_drewN ?_ _ | refine blk_drew ?_ | refine blk_alloc ?_ _)); exact BK270.out⟩, ⟨by (with_reducible repeat (first | refine blk_drewN ?_ _ | refine blk_drew ?_ | refine blk_alloc ?_ _)); refine blk_far ?_ NB275_280.out _; (with_reducible repeat (first | refine blk_drewN ?_ _ | refine blk_drew ?_ | refine blk_alloc ?_ _)); refine blk_far ?_ NB275_280.out _; (with_reducible repeat (first | refine blk_drewN ?_ _ | refine blk_drew ?_ | refine blk_alloc ?_ _)); refine blk_far ?_ NB275_280.out _; (with_reducible repeat (first | refine blk_drewN ?_ _ | refine blk_drew ?_ | refine blk_alloc ?_ _)); exact BK275.out⟩, ⟨by (with_reducible repeat (first | refine blk_drewN ?_ _ | refine blk_drew ?_ | refine blk_alloc ?_ _)); refine blk_put (cs := #[.int .i64 t276, .int .i64 t277, .int .i64 0]) ?_ 2 _ rfl; (with_reducible repeat (first | refine blk_drewN ?_ _ | refine blk_drew ?_ | refine blk_alloc ?_ _)); refine blk_put (cs := #[.int .i64 t276, .int .i64 0, .int .i64 0]) ?_ 1 _ rfl; (with_reducible repeat (first | refine blk_drewN ?_ _ | refine blk_drew ?_ | refine blk_alloc ?_ _)); refine blk_put (cs := #[.int .i64 0, .int .i64 0, .int .i64 0]) ?_ 0 _ rfl; (with_reducible repeat (first | refine blk_drewN ?_ _ | refine blk_drew ?_ | refine blk_alloc ?_ _)); exact BK280.out⟩, ⟨by repeat (first | (with_reducible first | exact HB.out | apply below_alloc | apply pw_below_drewN | apply below_drew1 | refine below_set ?_ GE264.out | refine below_set ?_ GE270.out | refine below_set ?_ GE275.out | refine below_set ?_ GE280.out) | exact HB.out)⟩⟩
            · rw [if_neg c35] at H
              have c35b0 : (t266 == t271) = false := beq_eq_false_iff_ne.mpr c35
              have c35b1 : (t266 != t271) = true := bne_iff_ne.mpr c35
              have H' := Aside0.mk H
              clear H
              have hnb51 := NB270_264.out
              have hnc51 := NB264_270.out
              have hnb52 := NB270_275.out
              have hnc52 := NB275_270.out
              have hnb53 := NB270_280.out
              have hnc53 := NB280_270.out
              have hcz54_0 : w26.cell? ⟨gb270, 0, none⟩ = some (.int .i64 t266) := (blk_cell BK270.out 0).trans rfl
              have hcz54_1 : w26.cell? ⟨gb270, 1, none⟩ = some (.int .i64 t267) := (blk_cell BK270.out 1).trans rfl
              have hcz54_2 : w26.cell? ⟨gb270, 2, none⟩ = some (.int .i64 t268) := (blk_cell BK270.out 2).trans rfl
              have hfz54_0 := blk_frozen BK270.out 0
              have hfz54_1 := blk_frozen BK270.out 1
              have hfz54_2 := blk_frozen BK270.out 2
              have hnb55 := NB275_264.out
              have hnc55 := NB264_275.out
              have hnb56 := NB275_280.out
              have hnc56 := NB280_275.out
              have hcz57_0 : w26.cell? ⟨gb275, 0, none⟩ = some (.int .i64 t271) := (blk_cell BK275.out 0).trans rfl
              have hcz57_1 : w26.cell? ⟨gb275, 1, none⟩ = some (.int .i64 t272) := (blk_cell BK275.out 1).trans rfl
              have hcz57_2 : w26.cell? ⟨gb275, 2, none⟩ = some (.int .i64 t273) := (blk_cell BK275.out 2).trans rfl
              have hfz57_0 := blk_frozen BK275.out 0
              have hfz57_1 := blk_frozen BK275.out 1
              have hfz57_2 := blk_frozen BK275.out 2
              go_wp2
              go_meet
              case rel => exact ⟨_, (false), (by first | rfl | (simp; done) | (simp [*]; done)), H', ⟨by first | omega | exact Nat.le_refl _⟩, ⟨by (with_reducible repeat (first | refine blk_drewN ?_ _ | refine blk_drew ?_ | refine blk_alloc ?_ _)); refine blk_far ?_ NB264_280.out _; (with_reducible repeat (first | refine blk_drewN ?_ _ | refine blk_drew ?_ | refine blk_alloc ?_ _)); refine blk_far ?_ NB264_280.out _; (with_reducible repeat (first | refine blk_drewN ?_ _ | refine blk_drew ?_ | refine blk_alloc ?_ _)); refine blk_far ?_ NB264_280.out _; (with_reducible repeat (first | refine blk_drewN ?_ _ | refine blk_drew ?_ | refine blk_alloc ?_ _)); exact BK264.out⟩, ⟨by (with_reducible repeat (first | refine blk_drewN ?_ _ | refine blk_drew ?_ | refine blk_alloc ?_ _)); refine blk_far ?_ NB270_280.out _; (with_reducible repeat (first | refine blk_drewN ?_ _ | refine blk_drew ?_ | refine blk_alloc ?_ _)); refine blk_far ?_ NB270_280.out _; (with_reducible repeat (first | refine blk_drewN ?_ _ | refine blk_drew ?_ | refine blk_alloc ?_ _)); refine blk_far ?_ NB270_280.out _; (with_reducible repeat (first | refine blk_drewN ?_ _ | refine blk_drew ?_ | refine blk_alloc ?_ _)); exact BK270.out⟩, ⟨by (with_reducible repeat (first | refine blk_drewN ?_ _ | refine blk_drew ?_ | refine blk_alloc ?_ _)); refine blk_far ?_ NB275_280.out _; (with_reducible repeat (first | refine blk_drewN ?_ _ | refine blk_drew ?_ | refine blk_alloc ?_ _)); refine blk_far ?_ NB275_280.out _; (with_reducible repeat (first | refine blk_drewN ?_ _ | refine blk_drew ?_ | refine blk_alloc ?_ _)); refine blk_far ?_ NB275_280.out _; (with_reducible repeat (first | refine blk_drewN ?_ _ | refine blk_drew ?_ | refine blk_alloc ?_ _)); exact BK275.out⟩, ⟨by (with_reducible repeat (first | refine blk_drewN ?_ _ | refine blk_drew ?_ | refine blk_alloc ?_ _)); refine blk_put (cs := #[.int .i64 t276, .int .i64 t277, .int .i64 0]) ?_ 2 _ rfl; (with_reducible repeat (first | refine blk_drewN ?_ _ | refine blk_drew ?_ | refine blk_alloc ?_ _)); refine blk_put (cs := #[.int .i64 t276, .int .i64 0, .int .i64 0]) ?_ 1 _ rfl; (with_reducible repeat (first | refine blk_drewN ?_ _ | refine blk_drew ?_ | refine blk_alloc ?_ _)); refine blk_put (cs := #[.int .i64 0, .int .i64 0, .int .i64 0]) ?_ 0 _ rfl; (with_reducible repeat (first | refine blk_drewN ?_ _ | refine blk_drew ?_ | refine blk_alloc ?_ _)); exact BK280.out⟩, ⟨by repeat (first | (with_reducible first | exact HB.out | apply below_alloc | apply pw_below_drewN | apply below_drew1 | refine below_set ?_ GE264.out | refine below_set ?_ GE270.out | refine below_set ?_ GE275.out | refine below_set ?_ GE280.out) | exact HB.out)⟩⟩
        · replace c33 := Bool.eq_false_iff.mpr c33
          subst c33
          have H1 : (mooringslaw08_DetApart.j0 k true t279 false a0_0 a0_1 a0_2 a0_3 a0_4 a0_5 a0_6 a0_7 t266 t267 t268 t276 t277 t278) = some r := by rw [if_neg (show ¬ (false = true) by decide)] at H; exact H
          clear H
          have H := H1
          clear H1
          have H' := Aside0.mk H
          clear H
          go_wp2
          go_meet
          case rel => exact ⟨_, (false), (by first | rfl | (simp; done) | (simp [*]; done)), H', ⟨by first | omega | exact Nat.le_refl _⟩, ⟨by (with_reducible repeat (first | refine blk_drewN ?_ _ | refine blk_drew ?_ | refine blk_alloc ?_ _)); refine blk_far ?_ NB264_280.out _; (with_reducible repeat (first | refine blk_drewN ?_ _ | refine blk_drew ?_ | refine blk_alloc ?_ _)); refine blk_far ?_ NB264_280.out _; (with_reducible repeat (first | refine blk_drewN ?_ _ | refine blk_drew ?_ | refine blk_alloc ?_ _)); refine blk_far ?_ NB264_280.out _; (with_reducible repeat (first | refine blk_drewN ?_ _ | refine blk_drew ?_ | refine blk_alloc ?_ _)); exact BK264.out⟩, ⟨by (with_reducible repeat (first | refine blk_drewN ?_ _ | refine blk_drew ?_ | refine blk_alloc ?_ _)); refine blk_far ?_ NB270_280.out _; (with_reducible repeat (first | refine blk_drewN ?_ _ | refine blk_drew ?_ | refine blk_alloc ?_ _)); refine blk_far ?_ NB270_280.out _; (with_reducible repeat (first | refine blk_drewN ?_ _ | refine blk_drew ?_ | refine blk_alloc ?_ _)); refine blk_far ?_ NB270_280.out _; (with_reducible repeat (first | refine blk_drewN ?_ _ | refine blk_drew ?_ | refine blk_alloc ?_ _)); exact BK270.out⟩, ⟨by (with_reducible repeat (first | refine blk_drewN ?_ _ | refine blk_drew ?_ | refine blk_alloc ?_ _)); refine blk_far ?_ NB275_280.out _; (with_reducible repeat (first | refine blk_drewN ?_ _ | refine blk_drew ?_ | refine blk_alloc ?_ _)); refine blk_far ?_ NB275_280.out _; (with_reducible repeat (first | refine blk_drewN ?_ _ | refine blk_drew ?_ | refine blk_alloc ?_ _)); refine blk_far ?_ NB275_280.out _; (with_reducible repeat (first | refine blk_drewN ?_ _ | refine blk_drew ?_ | refine blk_alloc ?_ _)); exact BK275.out⟩, ⟨by (with_reducible repeat (first | refine blk_drewN ?_ _ | refine blk_drew ?_ | refine blk_alloc ?_ _)); refine blk_put (cs := #[.int .i64 t276, .int .i64 t277, .int .i64 0]) ?_ 2 _ rfl; (with_reducible repeat (first | refine blk_drewN ?_ _ | refine blk_drew ?_ | refine blk_alloc ?_ _)); refine blk_put (cs := #[.int .i64 t276, .int .i64 0, .int .i64 0]) ?_ 1 _ rfl; (with_reducible repeat (first | refine blk_drewN ?_ _ | refine blk_drew ?_ | refine blk_alloc ?_ _)); refine blk_put (cs := #[.int .i64 0, .int .i64 0, .int .i64 0]) ?_ 0 _ rfl; (with_reducible repeat (first | refine blk_drewN ?_ _ | refine blk_drew ?_ | refine blk_alloc ?_ _)); exact BK280.out⟩, ⟨by repeat (first | (with_reducible first | exact HB.out | apply below_alloc | apply pw_below_drewN | apply below_drew1 | refine below_set ?_ GE264.out | refine below_set ?_ GE270.out | refine below_set ?_ GE275.out | refine below_set ?_ GE280.out) | exact HB.out)⟩⟩
      · replace c32 := Bool.eq_false_iff.mpr c32
        subst c32
        have H1 : (mooringslaw08_DetApart.j0 k false t279 false a0_0 a0_1 a0_2 a0_3 a0_4 a0_5 a0_6 a0_7 t266 t267 t268 t276 t277 t278) = some r := by rw [if_neg (show ¬ (false = true) by decide)] at H; exact H
        clear H
        have H := H1
        clear H1
        have H' := Aside0.mk H
        clear H
        go_wp2
        go_meet
        case rel => exact ⟨_, (false), (by first | rfl | (simp; done) | (simp [*]; done)), H', ⟨by first | omega | exact Nat.le_refl _⟩, ⟨by (with_reducible repeat (first | refine blk_drewN ?_ _ | refine blk_drew ?_ | refine blk_alloc ?_ _)); refine blk_far ?_ NB264_280.out _; (with_reducible repeat (first | refine blk_drewN ?_ _ | refine blk_drew ?_ | refine blk_alloc ?_ _)); refine blk_far ?_ NB264_280.out _; (with_reducible repeat (first | refine blk_drewN ?_ _ | refine blk_drew ?_ | refine blk_alloc ?_ _)); refine blk_far ?_ NB264_280.out _; (with_reducible repeat (first | refine blk_drewN ?_ _ | refine blk_drew ?_ | refine blk_alloc ?_ _)); exact BK264.out⟩, ⟨by (with_reducible repeat (first | refine blk_drewN ?_ _ | refine blk_drew ?_ | refine blk_alloc ?_ _)); refine blk_far ?_ NB270_280.out _; (with_reducible repeat (first | refine blk_drewN ?_ _ | refine blk_drew ?_ | refine blk_alloc ?_ _)); refine blk_far ?_ NB270_280.out _; (with_reducible repeat (first | refine blk_drewN ?_ _ | refine blk_drew ?_ | refine blk_alloc ?_ _)); refine blk_far ?_ NB270_280.out _; (with_reducible repeat (first | refine blk_drewN ?_ _ | refine blk_drew ?_ | refine blk_alloc ?_ _)); exact BK270.out⟩, ⟨by (with_reducible repeat (first | refine blk_drewN ?_ _ | refine blk_drew ?_ | refine blk_alloc ?_ _)); refine blk_far ?_ NB275_280.out _; (with_reducible repeat (first | refine blk_drewN ?_ _ | refine blk_drew ?_ | refine blk_alloc ?_ _)); refine blk_far ?_ NB275_280.out _; (with_reducible repeat (first | refine blk_drewN ?_ _ | refine blk_drew ?_ | refine blk_alloc ?_ _)); refine blk_far ?_ NB275_280.out _; (with_reducible repeat (first | refine blk_drewN ?_ _ | refine blk_drew ?_ | refine blk_alloc ?_ _)); exact BK275.out⟩, ⟨by (with_reducible repeat (first | refine blk_drewN ?_ _ | refine blk_drew ?_ | refine blk_alloc ?_ _)); refine blk_put (cs := #[.int .i64 t276, .int .i64 t277, .int .i64 0]) ?_ 2 _ rfl; (with_reducible repeat (first | refine blk_drewN ?_ _ | refine blk_drew ?_ | refine blk_alloc ?_ _)); refine blk_put (cs := #[.int .i64 t276, .int .i64 0, .int .i64 0]) ?_ 1 _ rfl; (with_reducible repeat (first | refine blk_drewN ?_ _ | refine blk_drew ?_ | refine blk_alloc ?_ _)); refine blk_put (cs := #[.int .i64 0, .int .i64 0, .int .i64 0]) ?_ 0 _ rfl; (with_reducible repeat (first | refine blk_drewN ?_ _ | refine blk_drew ?_ | refine blk_alloc ?_ _)); exact BK280.out⟩, ⟨by repeat (first | (with_reducible first | exact HB.out | apply below_alloc | apply pw_below_drewN | apply below_drew1 | refine below_set ?_ GE264.out | refine below_set ?_ GE270.out | refine below_set ?_ GE275.out | refine below_set ?_ GE280.out) | exact HB.out)⟩⟩
    · replace c31 := Bool.eq_false_iff.mpr c31
      subst c31
      have H1 : (mooringslaw08_DetApart.j0 k t269 t279 true a0_0 a0_1 a0_2 a0_3 a0_4 a0_5 a0_6 a0_7 t266 t267 t268 t276 t277 t278) = some r := by rw [if_neg (show ¬ (false = true) by decide)] at H; exact H
      clear H
      have H := H1
      clear H1
      have H' := Aside0.mk H
      clear H
      go_wp2
      go_meet
      case rel => exact ⟨_, (true), (by first | rfl | (simp; done) | (simp [*]; done)), H', ⟨by first | omega | exact Nat.le_refl _⟩, ⟨by (with_reducible repeat (first | refine blk_drewN ?_ _ | refine blk_drew ?_ | refine blk_alloc ?_ _)); refine blk_far ?_ NB264_280.out _; (with_reducible repeat (first | refine blk_drewN ?_ _ | refine blk_drew ?_ | refine blk_alloc ?_ _)); refine blk_far ?_ NB264_280.out _; (with_reducible repeat (first | refine blk_drewN ?_ _ | refine blk_drew ?_ | refine blk_alloc ?_ _)); refine blk_far ?_ NB264_280.out _; (with_reducible repeat (first | refine blk_drewN ?_ _ | refine blk_drew ?_ | refine blk_alloc ?_ _)); exact BK264.out⟩, ⟨by (with_reducible repeat (first | refine blk_drewN ?_ _ | refine blk_drew ?_ | refine blk_alloc ?_ _)); refine blk_far ?_ NB270_280.out _; (with_reducible repeat (first | refine blk_drewN ?_ _ | refine blk_drew ?_ | refine blk_alloc ?_ _)); refine blk_far ?_ NB270_280.out _; (with_reducible repeat (first | refine blk_drewN ?_ _ | refine blk_drew ?_ | refine blk_alloc ?_ _)); refine blk_far ?_ NB270_280.out _; (with_reducible repeat (first | refine blk_drewN ?_ _ | refine blk_drew ?_ | refine blk_alloc ?_ _)); exact BK270.out⟩, ⟨by (with_reducible repeat (first | refine blk_drewN ?_ _ | refine blk_drew ?_ | refine blk_alloc ?_ _)); refine blk_far ?_ NB275_280.out _; (with_reducible repeat (first | refine blk_drewN ?_ _ | refine blk_drew ?_ | refine blk_alloc ?_ _)); refine blk_far ?_ NB275_280.out _; (with_reducible repeat (first | refine blk_drewN ?_ _ | refine blk_drew ?_ | refine blk_alloc ?_ _)); refine blk_far ?_ NB275_280.out _; (with_reducible repeat (first | refine blk_drewN ?_ _ | refine blk_drew ?_ | refine blk_alloc ?_ _)); exact BK275.out⟩, ⟨by (with_reducible repeat (first | refine blk_drewN ?_ _ | refine blk_drew ?_ | refine blk_alloc ?_ _)); refine blk_put (cs := #[.int .i64 t276, .int .i64 t277, .int .i64 0]) ?_ 2 _ rfl; (with_reducible repeat (first | refine blk_drewN ?_ _ | refine blk_drew ?_ | refine blk_alloc ?_ _)); refine blk_put (cs := #[.int .i64 t276, .int .i64 0, .int .i64 0]) ?_ 1 _ rfl; (with_reducible repeat (first | refine blk_drewN ?_ _ | refine blk_drew ?_ | refine blk_alloc ?_ _)); refine blk_put (cs := #[.int .i64 0, .int .i64 0, .int .i64 0]) ?_ 0 _ rfl; (with_reducible repeat (first | refine blk_drewN ?_ _ | refine blk_drew ?_ | refine blk_alloc ?_ _)); exact BK280.out⟩, ⟨by repeat (first | (with_reducible first | exact HB.out | apply below_alloc | apply pw_below_drewN | apply below_drew1 | refine below_set ?_ GE264.out | refine below_set ?_ GE270.out | refine below_set ?_ GE275.out | refine below_set ?_ GE280.out) | exact HB.out)⟩⟩
  case rest =>
    clear HC10
    try clear c1
    try clear c2
    try clear p2
    try clear c3
    try clear c4
    try clear c5
    try clear c6
    try clear c10
    try clear c11
    try clear c13
    try clear c16
    try clear c21
    try clear c22
    try clear c27
    try clear c28
    try clear c29
    try clear c31
    try clear c32
    try clear c33
    try clear c34
    try clear c34b0
    try clear c34b1
    try clear c35
    try clear c35b0
    try clear c35b1
    try clear c36
    try clear c36b0
    try clear c37
    try clear c38
    try clear c39
    try clear c41
    try clear c42
    try clear c44
    try clear c45
    try clear c46
    try clear c48
    try clear c49
    try clear c51
    try clear c52
    try clear c53
    try clear c55
    try clear c56
    try clear hcz13_0
    try clear hcz13_1
    try clear hcz13_2
    try clear hcz13_3
    try clear hcz13_4
    try clear hcz13_5
    try clear hcz13_6
    try clear hcz13_7
    try clear hcz17_0
    try clear hcz17_1
    try clear hcz17_2
    try clear hcz18_0
    try clear hcz18_1
    try clear hcz18_2
    try clear hcz18_3
    try clear hcz18_4
    try clear hcz18_5
    try clear hcz18_6
    try clear hcz18_7
    try clear hcz23_0
    try clear hcz23_1
    try clear hcz23_2
    try clear hcz24_0
    try clear hcz24_1
    try clear hcz24_2
    try clear hcz24_3
    try clear hcz24_4
    try clear hcz24_5
    try clear hcz24_6
    try clear hcz24_7
    try clear hcz30_0
    try clear hcz30_1
    try clear hcz30_2
    try clear hcz40_0
    try clear hcz40_1
    try clear hcz40_2
    try clear hcz43_0
    try clear hcz43_1
    try clear hcz43_2
    try clear hcz47_0
    try clear hcz47_1
    try clear hcz47_2
    try clear hcz50_0
    try clear hcz50_1
    try clear hcz50_2
    try clear hcz54_0
    try clear hcz54_1
    try clear hcz54_2
    try clear hcz57_0
    try clear hcz57_1
    try clear hcz57_2
    try clear hfz13_0
    try clear hfz13_1
    try clear hfz13_2
    try clear hfz13_3
    try clear hfz13_4
    try clear hfz13_5
    try clear hfz13_6
    try clear hfz13_7
    try clear hfz17_0
    try clear hfz17_1
    try clear hfz17_2
    try clear hfz18_0
    try clear hfz18_1
    try clear hfz18_2
    try clear hfz18_3
    try clear hfz18_4
    try clear hfz18_5
    try clear hfz18_6
    try clear hfz18_7
    try clear hfz23_0
    try clear hfz23_1
    try clear hfz23_2
    try clear hfz24_0
    try clear hfz24_1
    try clear hfz24_2
    try clear hfz24_3
    try clear hfz24_4
    try clear hfz24_5
    try clear hfz24_6
    try clear hfz24_7
    try clear hfz30_0
    try clear hfz30_1
    try clear hfz30_2
    try clear hfz40_0
    try clear hfz40_1
    try clear hfz40_2
    try clear hfz43_0
    try clear hfz43_1
    try clear hfz43_2
    try clear hfz47_0
    try clear hfz47_1
    try clear hfz47_2
    try clear hfz50_0
    try clear hfz50_1
    try clear hfz50_2
    try clear hfz54_0
    try clear hfz54_1
    try clear hfz54_2
    try clear hfz57_0
    try clear hfz57_1
    try clear hfz57_2
    obtain ⟨kq, x71_9, rfl, HA, HJ9, BK264, BK270, BK275, BK280, HB⟩ := hcut
    cases kq with
    | zero => exact absurd HA.out (by simp [mooringslaw08_DetApart.j0])
    | succ kj9 =>
      have H := HA.out
      clear HA
      simp only [mooringslaw08_DetApart.j0] at H
      by_cases c58 : x71_9 = true
      · subst c58
        have H1 : (some false) = some r := by rw [if_pos rfl] at H; exact H
        clear H
        have H := H1
        clear H1
        obtain rfl := Option.some.inj H
        go_wp2
        go_ret
        exact ⟨by first | rfl | (simp [errW_none, errW_some] <;> rfl) | (simp [*, errW_none, errW_some] <;> rfl), by repeat (first | (with_reducible first | exact HB.out | apply below_alloc | apply pw_below_drewN | apply below_drew1 | refine below_set ?_ GE264.out | refine below_set ?_ GE270.out | refine below_set ?_ GE275.out | refine below_set ?_ GE280.out) | exact HB.out)⟩
      · replace c58 := Bool.eq_false_iff.mpr c58
        subst c58
        have H1 : (if t269 = true then (if t279 = true then (if t266 = t276 then (if t267 ≤ t278 then (mooringslaw08_DetApart.j1 kj9 t269 (decide (t277 ≤ t268)) a0_0 a0_1 a0_2 a0_3 a0_4 a0_5 a0_6 a0_7 t266 t267 t268) else (mooringslaw08_DetApart.j1 kj9 t269 false a0_0 a0_1 a0_2 a0_3 a0_4 a0_5 a0_6 a0_7 t266 t267 t268)) else (mooringslaw08_DetApart.j1 kj9 t269 false a0_0 a0_1 a0_2 a0_3 a0_4 a0_5 a0_6 a0_7 t266 t267 t268)) else (mooringslaw08_DetApart.j1 kj9 t269 false a0_0 a0_1 a0_2 a0_3 a0_4 a0_5 a0_6 a0_7 t266 t267 t268)) else (mooringslaw08_DetApart.j1 kj9 t269 false a0_0 a0_1 a0_2 a0_3 a0_4 a0_5 a0_6 a0_7 t266 t267 t268)) = some r := by rw [if_neg (show ¬ (false = true) by decide)] at H; exact H
        clear H
        have H := H1
        clear H1
        have HC59 := Aside0.mk H
        clear H
        go_upto_region 7 with (fail)
        go_cut [96] (fun v96 wc => ∃ (kq : Nat) (x96_58 : Bool), v96 = .bool x96_58 ∧ Aside0 (mooringslaw08_DetApart.j1 kq t269 x96_58 a0_0 a0_1 a0_2 a0_3 a0_4 a0_5 a0_6 a0_7 t266 t267 t268 = some r) ∧ Aside0 (kq ≤ kj9) ∧ Aside0 (wc.heap[gb264]? = some (.cells #[.int .i64 a0_0, .int .i64 a0_1, .int .i64 a0_2, .int .i64 a0_3, .int .i64 a0_4, .int .i64 a0_5, .int .i64 a0_6, .int .i64 a0_7] 25 (0, 0))) ∧ Aside0 (wc.heap[gb270]? = some (.cells #[.int .i64 t266, .int .i64 t267, .int .i64 t268] 28 (0, 0))) ∧ Aside0 (wc.heap[gb275]? = some (.cells #[.int .i64 t271, .int .i64 t272, .int .i64 t273] 28 (0, 0))) ∧ Aside0 (wc.heap[gb280]? = some (.cells #[.int .i64 t276, .int .i64 t277, .int .i64 t278] 28 (0, 0))) ∧ Aside0 (Below w.heap.size w wc))
        case first =>
          have H := HC59.out
          clear HC59
          by_cases c60 : t269 = true
          · subst c60
            have H1 : (if t279 = true then (if t266 = t276 then (if t267 ≤ t278 then (mooringslaw08_DetApart.j1 kj9 true (decide (t277 ≤ t268)) a0_0 a0_1 a0_2 a0_3 a0_4 a0_5 a0_6 a0_7 t266 t267 t268) else (mooringslaw08_DetApart.j1 kj9 true false a0_0 a0_1 a0_2 a0_3 a0_4 a0_5 a0_6 a0_7 t266 t267 t268)) else (mooringslaw08_DetApart.j1 kj9 true false a0_0 a0_1 a0_2 a0_3 a0_4 a0_5 a0_6 a0_7 t266 t267 t268)) else (mooringslaw08_DetApart.j1 kj9 true false a0_0 a0_1 a0_2 a0_3 a0_4 a0_5 a0_6 a0_7 t266 t267 t268)) = some r := by rw [if_pos rfl] at H; exact H
            clear H
            have H := H1
            clear H1
            by_cases c61 : t279 = true
            · subst c61
              have H1 : (if t266 = t276 then (if t267 ≤ t278 then (mooringslaw08_DetApart.j1 kj9 true (decide (t277 ≤ t268)) a0_0 a0_1 a0_2 a0_3 a0_4 a0_5 a0_6 a0_7 t266 t267 t268) else (mooringslaw08_DetApart.j1 kj9 true false a0_0 a0_1 a0_2 a0_3 a0_4 a0_5 a0_6 a0_7 t266 t267 t268)) else (mooringslaw08_DetApart.j1 kj9 true false a0_0 a0_1 a0_2 a0_3 a0_4 a0_5 a0_6 a0_7 t266 t267 t268)) = some r := by rw [if_pos rfl] at H; exact H
              clear H
              have H := H1
              clear H1
              by_cases c62 : t266 = t276
              · rw [if_pos c62] at H
                have c62b0 : (t266 == t276) = true := beq_iff_eq.mpr c62
                have c62b1 : (t266 != t276) = false := bne_eq_false_iff_eq.mpr c62
                clear c62
                (first | rw [c62b0] | (simp only [i64_w, i32_w]; rw [c62b0]) | skip)
                by_cases c63 : t267 ≤ t278
                · rw [if_pos c63] at H
                  have c63b0 : decide (t267 ≤ t278) = true := decide_eq_true c63
                  clear c63
                  have H' := Aside0.mk H
                  clear H
                  have hnb64 := NB270_264.out
                  have hnc64 := NB264_270.out
                  have hnb65 := NB270_275.out
                  have hnc65 := NB275_270.out
                  have hnb66 := NB270_280.out
                  have hnc66 := NB280_270.out
                  have hcz67_0 : wc.cell? ⟨gb270, 0, none⟩ = some (.int .i64 t266) := (blk_cell BK270.out 0).trans rfl
                  have hcz67_1 : wc.cell? ⟨gb270, 1, none⟩ = some (.int .i64 t267) := (blk_cell BK270.out 1).trans rfl
                  have hcz67_2 : wc.cell? ⟨gb270, 2, none⟩ = some (.int .i64 t268) := (blk_cell BK270.out 2).trans rfl
                  have hfz67_0 := blk_frozen BK270.out 0
                  have hfz67_1 := blk_frozen BK270.out 1
                  have hfz67_2 := blk_frozen BK270.out 2
                  have hnb68 := NB280_264.out
                  have hnc68 := NB264_280.out
                  have hnb69 := NB280_275.out
                  have hnc69 := NB275_280.out
                  have hcz70_0 : wc.cell? ⟨gb280, 0, none⟩ = some (.int .i64 t276) := (blk_cell BK280.out 0).trans rfl
                  have hcz70_1 : wc.cell? ⟨gb280, 1, none⟩ = some (.int .i64 t277) := (blk_cell BK280.out 1).trans rfl
                  have hcz70_2 : wc.cell? ⟨gb280, 2, none⟩ = some (.int .i64 t278) := (blk_cell BK280.out 2).trans rfl
                  have hfz70_0 := blk_frozen BK280.out 0
                  have hfz70_1 := blk_frozen BK280.out 1
                  have hfz70_2 := blk_frozen BK280.out 2
                  go_wp2
                  go_meet
                  case rel => exact ⟨_, (decide (t277 ≤ t268)), (by first | rfl | (simp; done) | (simp [*]; done)), H', ⟨by have := HJ9.out; first | omega | exact Nat.le_refl _⟩, ⟨by (with_reducible repeat (first | refine blk_drewN ?_ _ | refine blk_drew ?_ | refine blk_alloc ?_ _)); exact BK264.out⟩, ⟨by (with_reducible repeat (first | refine blk_drewN ?_ _ | refine blk_drew ?_ | refine blk_alloc ?_ _)); exact BK270.out⟩, ⟨by (with_reducible repeat (first | refine blk_drewN ?_ _ | refine blk_drew ?_ | refine blk_alloc ?_ _)); exact BK275.out⟩, ⟨by (with_reducible repeat (first | refine blk_drewN ?_ _ | refine blk_drew ?_ | refine blk_alloc ?_ _)); exact BK280.out⟩, ⟨by repeat (first | (with_reducible first | exact HB.out | apply below_alloc | apply pw_below_drewN | apply below_drew1 | refine below_set ?_ GE264.out | refine below_set ?_ GE270.out | refine below_set ?_ GE275.out | refine below_set ?_ GE280.out) | exact HB.out)⟩⟩
                · rw [if_neg c63] at H
                  have c63b0 : decide (t267 ≤ t278) = false := decide_eq_false c63
                  clear c63
                  have H' := Aside0.mk H
                  clear H
                  have hnb71 := NB270_264.out
                  have hnc71 := NB264_270.out
                  have hnb72 := NB270_275.out
                  have hnc72 := NB275_270.out
                  have hnb73 := NB270_280.out
                  have hnc73 := NB280_270.out
                  have hcz74_0 : wc.cell? ⟨gb270, 0, none⟩ = some (.int .i64 t266) := (blk_cell BK270.out 0).trans rfl
                  have hcz74_1 : wc.cell? ⟨gb270, 1, none⟩ = some (.int .i64 t267) := (blk_cell BK270.out 1).trans rfl
                  have hcz74_2 : wc.cell? ⟨gb270, 2, none⟩ = some (.int .i64 t268) := (blk_cell BK270.out 2).trans rfl
                  have hfz74_0 := blk_frozen BK270.out 0
                  have hfz74_1 := blk_frozen BK270.out 1
                  have hfz74_2 := blk_frozen BK270.out 2
                  have hnb75 := NB280_264.out
                  have hnc75 := NB264_280.out
                  have hnb76 := NB280_275.out
                  have hnc76 := NB275_280.out
                  have hcz77_0 : wc.cell? ⟨gb280, 0, none⟩ = some (.int .i64 t276) := (blk_cell BK280.out 0).trans rfl
                  have hcz77_1 : wc.cell? ⟨gb280, 1, none⟩ = some (.int .i64 t277) := (blk_cell BK280.out 1).trans rfl
                  have hcz77_2 : wc.cell? ⟨gb280, 2, none⟩ = some (.int .i64 t278) := (blk_cell BK280.out 2).trans rfl
                  have hfz77_0 := blk_frozen BK280.out 0
                  have hfz77_1 := blk_frozen BK280.out 1
                  have hfz77_2 := blk_frozen BK280.out 2
                  go_wp2
                  go_meet
                  case rel => exact ⟨_, (false), (by first | rfl | (simp; done) | (simp [*]; done)), H', ⟨by have := HJ9.out; first | omega | exact Nat.le_refl _⟩, ⟨by (with_reducible repeat (first | refine blk_drewN ?_ _ | refine blk_drew ?_ | refine blk_alloc ?_ _)); exact BK264.out⟩, ⟨by (with_reducible repeat (first | refine blk_drewN ?_ _ | refine blk_drew ?_ | refine blk_alloc ?_ _)); exact BK270.out⟩, ⟨by (with_reducible repeat (first | refine blk_drewN ?_ _ | refine blk_drew ?_ | refine blk_alloc ?_ _)); exact BK275.out⟩, ⟨by (with_reducible repeat (first | refine blk_drewN ?_ _ | refine blk_drew ?_ | refine blk_alloc ?_ _)); exact BK280.out⟩, ⟨by repeat (first | (with_reducible first | exact HB.out | apply below_alloc | apply pw_below_drewN | apply below_drew1 | refine below_set ?_ GE264.out | refine below_set ?_ GE270.out | refine below_set ?_ GE275.out | refine below_set ?_ GE280.out) | exact HB.out)⟩⟩
              · rw [if_neg c62] at H
                have c62b0 : (t266 == t276) = false := beq_eq_false_iff_ne.mpr c62
                have c62b1 : (t266 != t276) = true := bne_iff_ne.mpr c62
                (first | rw [c62b0] | (simp only [i64_w, i32_w]; rw [c62b0]) | skip)
                have H' := Aside0.mk H
                clear H
                have hnb78 := NB270_264.out
                have hnc78 := NB264_270.out
                have hnb79 := NB270_275.out
                have hnc79 := NB275_270.out
                have hnb80 := NB270_280.out
                have hnc80 := NB280_270.out
                have hcz81_0 : wc.cell? ⟨gb270, 0, none⟩ = some (.int .i64 t266) := (blk_cell BK270.out 0).trans rfl
                have hcz81_1 : wc.cell? ⟨gb270, 1, none⟩ = some (.int .i64 t267) := (blk_cell BK270.out 1).trans rfl
                have hcz81_2 : wc.cell? ⟨gb270, 2, none⟩ = some (.int .i64 t268) := (blk_cell BK270.out 2).trans rfl
                have hfz81_0 := blk_frozen BK270.out 0
                have hfz81_1 := blk_frozen BK270.out 1
                have hfz81_2 := blk_frozen BK270.out 2
                have hnb82 := NB280_264.out
                have hnc82 := NB264_280.out
                have hnb83 := NB280_275.out
                have hnc83 := NB275_280.out
                have hcz84_0 : wc.cell? ⟨gb280, 0, none⟩ = some (.int .i64 t276) := (blk_cell BK280.out 0).trans rfl
                have hcz84_1 : wc.cell? ⟨gb280, 1, none⟩ = some (.int .i64 t277) := (blk_cell BK280.out 1).trans rfl
                have hcz84_2 : wc.cell? ⟨gb280, 2, none⟩ = some (.int .i64 t278) := (blk_cell BK280.out 2).trans rfl
                have hfz84_0 := blk_frozen BK280.out 0
                have hfz84_1 := blk_frozen BK280.out 1
                have hfz84_2 := blk_frozen BK280.out 2
                go_wp2
                go_meet
                case rel => exact ⟨_, (false), (by first | rfl | (simp; done) | (simp [*]; done)), H', ⟨by have := HJ9.out; first | omega | exact Nat.le_refl _⟩, ⟨by (with_reducible repeat (first | refine blk_drewN ?_ _ | refine blk_drew ?_ | refine blk_alloc ?_ _)); exact BK264.out⟩, ⟨by (with_reducible repeat (first | refine blk_drewN ?_ _ | refine blk_drew ?_ | refine blk_alloc ?_ _)); exact BK270.out⟩, ⟨by (with_reducible repeat (first | refine blk_drewN ?_ _ | refine blk_drew ?_ | refine blk_alloc ?_ _)); exact BK275.out⟩, ⟨by (with_reducible repeat (first | refine blk_drewN ?_ _ | refine blk_drew ?_ | refine blk_alloc ?_ _)); exact BK280.out⟩, ⟨by repeat (first | (with_reducible first | exact HB.out | apply below_alloc | apply pw_below_drewN | apply below_drew1 | refine below_set ?_ GE264.out | refine below_set ?_ GE270.out | refine below_set ?_ GE275.out | refine below_set ?_ GE280.out) | exact HB.out)⟩⟩
            · replace c61 := Bool.eq_false_iff.mpr c61
              subst c61
              have H1 : (mooringslaw08_DetApart.j1 kj9 true false a0_0 a0_1 a0_2 a0_3 a0_4 a0_5 a0_6 a0_7 t266 t267 t268) = some r := by rw [if_neg (show ¬ (false = true) by decide)] at H; exact H
              clear H
              have H := H1
              clear H1
              have H' := Aside0.mk H
              clear H
              go_wp2
              go_meet
              case rel => exact ⟨_, (false), (by first | rfl | (simp; done) | (simp [*]; done)), H', ⟨by have := HJ9.out; first | omega | exact Nat.le_refl _⟩, ⟨by (with_reducible repeat (first | refine blk_drewN ?_ _ | refine blk_drew ?_ | refine blk_alloc ?_ _)); exact BK264.out⟩, ⟨by (with_reducible repeat (first | refine blk_drewN ?_ _ | refine blk_drew ?_ | refine blk_alloc ?_ _)); exact BK270.out⟩, ⟨by (with_reducible repeat (first | refine blk_drewN ?_ _ | refine blk_drew ?_ | refine blk_alloc ?_ _)); exact BK275.out⟩, ⟨by (with_reducible repeat (first | refine blk_drewN ?_ _ | refine blk_drew ?_ | refine blk_alloc ?_ _)); exact BK280.out⟩, ⟨by repeat (first | (with_reducible first | exact HB.out | apply below_alloc | apply pw_below_drewN | apply below_drew1 | refine below_set ?_ GE264.out | refine below_set ?_ GE270.out | refine below_set ?_ GE275.out | refine below_set ?_ GE280.out) | exact HB.out)⟩⟩
          · replace c60 := Bool.eq_false_iff.mpr c60
            subst c60
            have H1 : (mooringslaw08_DetApart.j1 kj9 false false a0_0 a0_1 a0_2 a0_3 a0_4 a0_5 a0_6 a0_7 t266 t267 t268) = some r := by rw [if_neg (show ¬ (false = true) by decide)] at H; exact H
            clear H
            have H := H1
            clear H1
            have H' := Aside0.mk H
            clear H
            go_wp2
            go_meet
            case rel => exact ⟨_, (false), (by first | rfl | (simp; done) | (simp [*]; done)), H', ⟨by have := HJ9.out; first | omega | exact Nat.le_refl _⟩, ⟨by (with_reducible repeat (first | refine blk_drewN ?_ _ | refine blk_drew ?_ | refine blk_alloc ?_ _)); exact BK264.out⟩, ⟨by (with_reducible repeat (first | refine blk_drewN ?_ _ | refine blk_drew ?_ | refine blk_alloc ?_ _)); exact BK270.out⟩, ⟨by (with_reducible repeat (first | refine blk_drewN ?_ _ | refine blk_drew ?_ | refine blk_alloc ?_ _)); exact BK275.out⟩, ⟨by (with_reducible repeat (first | refine blk_drewN ?_ _ | refine blk_drew ?_ | refine blk_alloc ?_ _)); exact BK280.out⟩, ⟨by repeat (first | (with_reducible first | exact HB.out | apply below_alloc | apply pw_below_drewN | apply below_drew1 | refine below_set ?_ GE264.out | refine below_set ?_ GE270.out | refine below_set ?_ GE275.out | refine below_set ?_ GE280.out) | exact HB.out)⟩⟩
        case rest =>
          clear HC59
          try clear c1
          try clear c2
          try clear p2
          try clear c3
          try clear c4
          try clear c5
          try clear c6
          try clear c7
          try clear c8
          try clear c10
          try clear c11
          try clear c13
          try clear c16
          try clear c21
          try clear c22
          try clear c27
          try clear c28
          try clear c29
          try clear c31
          try clear c32
          try clear c33
          try clear c34
          try clear c34b0
          try clear c34b1
          try clear c35
          try clear c35b0
          try clear c35b1
          try clear c36
          try clear c36b0
          try clear c37
          try clear c38
          try clear c39
          try clear c41
          try clear c42
          try clear c44
          try clear c45
          try clear c46
          try clear c48
          try clear c49
          try clear c51
          try clear c52
          try clear c53
          try clear c55
          try clear c56
          try clear c58
          try clear c60
          try clear c61
          try clear c62
          try clear c62b0
          try clear c62b1
          try clear c63
          try clear c63b0
          try clear c64
          try clear c65
          try clear c66
          try clear c68
          try clear c69
          try clear c71
          try clear c72
          try clear c73
          try clear c75
          try clear c76
          try clear c78
          try clear c79
          try clear c80
          try clear c82
          try clear c83
          try clear hcz13_0
          try clear hcz13_1
          try clear hcz13_2
          try clear hcz13_3
          try clear hcz13_4
          try clear hcz13_5
          try clear hcz13_6
          try clear hcz13_7
          try clear hcz17_0
          try clear hcz17_1
          try clear hcz17_2
          try clear hcz18_0
          try clear hcz18_1
          try clear hcz18_2
          try clear hcz18_3
          try clear hcz18_4
          try clear hcz18_5
          try clear hcz18_6
          try clear hcz18_7
          try clear hcz23_0
          try clear hcz23_1
          try clear hcz23_2
          try clear hcz24_0
          try clear hcz24_1
          try clear hcz24_2
          try clear hcz24_3
          try clear hcz24_4
          try clear hcz24_5
          try clear hcz24_6
          try clear hcz24_7
          try clear hcz30_0
          try clear hcz30_1
          try clear hcz30_2
          try clear hcz40_0
          try clear hcz40_1
          try clear hcz40_2
          try clear hcz43_0
          try clear hcz43_1
          try clear hcz43_2
          try clear hcz47_0
          try clear hcz47_1
          try clear hcz47_2
          try clear hcz50_0
          try clear hcz50_1
          try clear hcz50_2
          try clear hcz54_0
          try clear hcz54_1
          try clear hcz54_2
          try clear hcz57_0
          try clear hcz57_1
          try clear hcz57_2
          try clear hcz67_0
          try clear hcz67_1
          try clear hcz67_2
          try clear hcz70_0
          try clear hcz70_1
          try clear hcz70_2
          try clear hcz74_0
          try clear hcz74_1
          try clear hcz74_2
          try clear hcz77_0
          try clear hcz77_1
          try clear hcz77_2
          try clear hcz81_0
          try clear hcz81_1
          try clear hcz81_2
          try clear hcz84_0
          try clear hcz84_1
          try clear hcz84_2
          try clear hfz13_0
          try clear hfz13_1
          try clear hfz13_2
          try clear hfz13_3
          try clear hfz13_4
          try clear hfz13_5
          try clear hfz13_6
          try clear hfz13_7
          try clear hfz17_0
          try clear hfz17_1
          try clear hfz17_2
          try clear hfz18_0
          try clear hfz18_1
          try clear hfz18_2
          try clear hfz18_3
          try clear hfz18_4
          try clear hfz18_5
          try clear hfz18_6
          try clear hfz18_7
          try clear hfz23_0
          try clear hfz23_1
          try clear hfz23_2
          try clear hfz24_0
          try clear hfz24_1
          try clear hfz24_2
          try clear hfz24_3
          try clear hfz24_4
          try clear hfz24_5
          try clear hfz24_6
          try clear hfz24_7
          try clear hfz30_0
          try clear hfz30_1
          try clear hfz30_2
          try clear hfz40_0
          try clear hfz40_1
          try clear hfz40_2
          try clear hfz43_0
          try clear hfz43_1
          try clear hfz43_2
          try clear hfz47_0
          try clear hfz47_1
          try clear hfz47_2
          try clear hfz50_0
          try clear hfz50_1
          try clear hfz50_2
          try clear hfz54_0
          try clear hfz54_1
          try clear hfz54_2
          try clear hfz57_0
          try clear hfz57_1
          try clear hfz57_2
          try clear hfz67_0
          try clear hfz67_1
          try clear hfz67_2
          try clear hfz70_0
          try clear hfz70_1
          try clear hfz70_2
          try clear hfz74_0
          try clear hfz74_1
          try clear hfz74_2
          try clear hfz77_0
          try clear hfz77_1
          try clear hfz77_2
          try clear hfz81_0
          try clear hfz81_1
          try clear hfz81_2
          try clear hfz84_0
          try clear hfz84_1
          try clear hfz84_2
          try clear p2
          obtain ⟨kq, x96_58, rfl, HA, HJ58, BK264, BK270, BK275, BK280, HB⟩ := hcut
          cases kq with
          | zero => exact absurd HA.out (by simp [mooringslaw08_DetApart.j1])
          | succ kj58 =>
            have H := HA.out
            clear HA
            simp only [mooringslaw08_DetApart.j1] at H
            by_cases c85 : x96_58 = true
            · subst c85
              have H1 : (some false) = some r := by rw [if_pos rfl] at H; exact H
              clear H
              have H := H1
              clear H1
              obtain rfl := Option.some.inj H
              go_wp2
              go_ret
              exact ⟨by first | rfl | (simp [errW_none, errW_some] <;> rfl) | (simp [*, errW_none, errW_some] <;> rfl), by repeat (first | (with_reducible first | exact HB.out | apply below_alloc | apply pw_below_drewN | apply below_drew1 | refine below_set ?_ GE264.out | refine below_set ?_ GE270.out | refine below_set ?_ GE275.out | refine below_set ?_ GE280.out) | exact HB.out)⟩
            · replace c85 := Bool.eq_false_iff.mpr c85
              subst c85
              have H1 : (if t269 = true then ((detmap_Which.f kj58 a0_0 a0_1 a0_2 a0_3 a0_4 a0_5 a0_6 a0_7 t266 t267).bind fun t281 => (if t281 = (-1) then ((detmap_Which.f kj58 a0_0 a0_1 a0_2 a0_3 a0_4 a0_5 a0_6 a0_7 t266 t268).bind fun t282 => (some (t282 == (-1)))) else (some false))) else (some true)) = some r := by rw [if_neg (show ¬ (false = true) by decide)] at H; exact H
              clear H
              have H := H1
              clear H1
              by_cases c86 : t269 = true
              · subst c86
                have H1 : ((detmap_Which.f kj58 a0_0 a0_1 a0_2 a0_3 a0_4 a0_5 a0_6 a0_7 t266 t267).bind fun t281 => (if t281 = (-1) then ((detmap_Which.f kj58 a0_0 a0_1 a0_2 a0_3 a0_4 a0_5 a0_6 a0_7 t266 t268).bind fun t282 => (some (t282 == (-1)))) else (some false))) = some r := by rw [if_pos rfl] at H; exact H
                clear H
                have H := H1
                clear H1
                replace H := Option.bind_eq_some_iff.mp H
                obtain ⟨t281, A870, H⟩ := H
                replace H : (if t281 = (-1) then ((detmap_Which.f kj58 a0_0 a0_1 a0_2 a0_3 a0_4 a0_5 a0_6 a0_7 t266 t268).bind fun t282 => (some (t282 == (-1)))) else (some false)) = some r := H
                have A87 := Aside0.mk A870
                clear A870
                by_cases c88 : t281 = (-1)
                · rw [if_pos c88] at H
                  have c88b0 : (t281 == (-1)) = true := beq_iff_eq.mpr c88
                  have c88b1 : (t281 != (-1)) = false := bne_eq_false_iff_eq.mpr c88
                  clear c88
                  replace H := Option.bind_eq_some_iff.mp H
                  obtain ⟨t282, A890, H⟩ := H
                  replace H : (some (t282 == (-1))) = some r := H
                  have A89 := Aside0.mk A890
                  clear A890
                  obtain rfl := Option.some.inj H
                  have hnb90 := NB264_270.out
                  have hnc90 := NB270_264.out
                  have hnb91 := NB264_275.out
                  have hnc91 := NB275_264.out
                  have hnb92 := NB264_280.out
                  have hnc92 := NB280_264.out
                  have hcz93_0 : wc.cell? ⟨gb264, 0, none⟩ = some (.int .i64 a0_0) := (blk_cell BK264.out 0).trans rfl
                  have hcz93_1 : wc.cell? ⟨gb264, 1, none⟩ = some (.int .i64 a0_1) := (blk_cell BK264.out 1).trans rfl
                  have hcz93_2 : wc.cell? ⟨gb264, 2, none⟩ = some (.int .i64 a0_2) := (blk_cell BK264.out 2).trans rfl
                  have hcz93_3 : wc.cell? ⟨gb264, 3, none⟩ = some (.int .i64 a0_3) := (blk_cell BK264.out 3).trans rfl
                  have hcz93_4 : wc.cell? ⟨gb264, 4, none⟩ = some (.int .i64 a0_4) := (blk_cell BK264.out 4).trans rfl
                  have hcz93_5 : wc.cell? ⟨gb264, 5, none⟩ = some (.int .i64 a0_5) := (blk_cell BK264.out 5).trans rfl
                  have hcz93_6 : wc.cell? ⟨gb264, 6, none⟩ = some (.int .i64 a0_6) := (blk_cell BK264.out 6).trans rfl
                  have hcz93_7 : wc.cell? ⟨gb264, 7, none⟩ = some (.int .i64 a0_7) := (blk_cell BK264.out 7).trans rfl
                  have hfz93_0 := blk_frozen BK264.out 0
                  have hfz93_1 := blk_frozen BK264.out 1
                  have hfz93_2 := blk_frozen BK264.out 2
                  have hfz93_3 := blk_frozen BK264.out 3
                  have hfz93_4 := blk_frozen BK264.out 4
                  have hfz93_5 := blk_frozen BK264.out 5
                  have hfz93_6 := blk_frozen BK264.out 6
                  have hfz93_7 := blk_frozen BK264.out 7
                  have hnb94 := NB270_275.out
                  have hnc94 := NB275_270.out
                  have hnb95 := NB270_280.out
                  have hnc95 := NB280_270.out
                  have hcz96_0 : wc.cell? ⟨gb270, 0, none⟩ = some (.int .i64 t266) := (blk_cell BK270.out 0).trans rfl
                  have hcz96_1 : wc.cell? ⟨gb270, 1, none⟩ = some (.int .i64 t267) := (blk_cell BK270.out 1).trans rfl
                  have hcz96_2 : wc.cell? ⟨gb270, 2, none⟩ = some (.int .i64 t268) := (blk_cell BK270.out 2).trans rfl
                  have hfz96_0 := blk_frozen BK270.out 0
                  have hfz96_1 := blk_frozen BK270.out 1
                  have hfz96_2 := blk_frozen BK270.out 2
                  go_wp2_with (first | (go_at_call 25; (with_reducible refine (detmap_Which.calls kj58 a0_0 a0_1 a0_2 a0_3 a0_4 a0_5 a0_6 a0_7 t266 t267 t281 _ A87.out).mono ?_); rintro e w97 ⟨rfl, hb⟩; have n0_ := Aside0.mk (blk_below (g := gb264) (o := .cells #[.int .i64 a0_0, .int .i64 a0_1, .int .i64 a0_2, .int .i64 a0_3, .int .i64 a0_4, .int .i64 a0_5, .int .i64 a0_6, .int .i64 a0_7] 25 (0, 0)) (by (with_reducible repeat (first | refine blk_drewN ?_ _ | refine blk_drew ?_ | refine blk_alloc ?_ _)); exact BK264.out) hb); have n1_ := Aside0.mk (blk_below (g := gb270) (o := .cells #[.int .i64 t266, .int .i64 t267, .int .i64 t268] 28 (0, 0)) (by (with_reducible repeat (first | refine blk_drewN ?_ _ | refine blk_drew ?_ | refine blk_alloc ?_ _)); exact BK270.out) hb); have n2_ := Aside0.mk (blk_below (g := gb275) (o := .cells #[.int .i64 t271, .int .i64 t272, .int .i64 t273] 28 (0, 0)) (by (with_reducible repeat (first | refine blk_drewN ?_ _ | refine blk_drew ?_ | refine blk_alloc ?_ _)); exact BK275.out) hb); have n3_ := Aside0.mk (blk_below (g := gb280) (o := .cells #[.int .i64 t276, .int .i64 t277, .int .i64 t278] 28 (0, 0)) (by (with_reducible repeat (first | refine blk_drewN ?_ _ | refine blk_drew ?_ | refine blk_alloc ?_ _)); exact BK280.out) hb); have n4_ := Aside0.mk (below_step (by repeat (first | (with_reducible first | exact HB.out | apply below_alloc | apply pw_below_drewN | apply below_drew1 | refine below_set ?_ GE264.out | refine below_set ?_ GE270.out | refine below_set ?_ GE275.out | refine below_set ?_ GE280.out) | exact HB.out)) hb); clear BK264; clear BK270; clear BK275; clear BK280; clear HB; have BK264 := n0_; have BK270 := n1_; have BK275 := n2_; have BK280 := n3_; have HB := n4_; clear n0_ n1_ n2_ n3_ n4_; (try clear hb); (try clear hb2); (try clear hk); (try clear hi); have hcz98_0 : w97.cell? ⟨gb264, 0, none⟩ = some (.int .i64 a0_0) := (blk_cell BK264.out 0).trans rfl; have hcz98_1 : w97.cell? ⟨gb264, 1, none⟩ = some (.int .i64 a0_1) := (blk_cell BK264.out 1).trans rfl; have hcz98_2 : w97.cell? ⟨gb264, 2, none⟩ = some (.int .i64 a0_2) := (blk_cell BK264.out 2).trans rfl; have hcz98_3 : w97.cell? ⟨gb264, 3, none⟩ = some (.int .i64 a0_3) := (blk_cell BK264.out 3).trans rfl; have hcz98_4 : w97.cell? ⟨gb264, 4, none⟩ = some (.int .i64 a0_4) := (blk_cell BK264.out 4).trans rfl; have hcz98_5 : w97.cell? ⟨gb264, 5, none⟩ = some (.int .i64 a0_5) := (blk_cell BK264.out 5).trans rfl; have hcz98_6 : w97.cell? ⟨gb264, 6, none⟩ = some (.int .i64 a0_6) := (blk_cell BK264.out 6).trans rfl; have hcz98_7 : w97.cell? ⟨gb264, 7, none⟩ = some (.int .i64 a0_7) := (blk_cell BK264.out 7).trans rfl; have hfz98_0 := blk_frozen BK264.out 0; have hfz98_1 := blk_frozen BK264.out 1; have hfz98_2 := blk_frozen BK264.out 2; have hfz98_3 := blk_frozen BK264.out 3; have hfz98_4 := blk_frozen BK264.out 4; have hfz98_5 := blk_frozen BK264.out 5; have hfz98_6 := blk_frozen BK264.out 6; have hfz98_7 := blk_frozen BK264.out 7; have hcz99_0 : w97.cell? ⟨gb270, 0, none⟩ = some (.int .i64 t266) := (blk_cell BK270.out 0).trans rfl; have hcz99_1 : w97.cell? ⟨gb270, 1, none⟩ = some (.int .i64 t267) := (blk_cell BK270.out 1).trans rfl; have hcz99_2 : w97.cell? ⟨gb270, 2, none⟩ = some (.int .i64 t268) := (blk_cell BK270.out 2).trans rfl; have hfz99_0 := blk_frozen BK270.out 0; have hfz99_1 := blk_frozen BK270.out 1; have hfz99_2 := blk_frozen BK270.out 2) | (go_at_call 25; (with_reducible refine (detmap_Which.calls kj58 a0_0 a0_1 a0_2 a0_3 a0_4 a0_5 a0_6 a0_7 t266 t268 t282 _ A89.out).mono ?_); rintro e w100 ⟨rfl, hb⟩; have n0_ := Aside0.mk (blk_below (g := gb264) (o := .cells #[.int .i64 a0_0, .int .i64 a0_1, .int .i64 a0_2, .int .i64 a0_3, .int .i64 a0_4, .int .i64 a0_5, .int .i64 a0_6, .int .i64 a0_7] 25 (0, 0)) (by (with_reducible repeat (first | refine blk_drewN ?_ _ | refine blk_drew ?_ | refine blk_alloc ?_ _)); exact BK264.out) hb); have n1_ := Aside0.mk (blk_below (g := gb270) (o := .cells #[.int .i64 t266, .int .i64 t267, .int .i64 t268] 28 (0, 0)) (by (with_reducible repeat (first | refine blk_drewN ?_ _ | refine blk_drew ?_ | refine blk_alloc ?_ _)); exact BK270.out) hb); have n2_ := Aside0.mk (blk_below (g := gb275) (o := .cells #[.int .i64 t271, .int .i64 t272, .int .i64 t273] 28 (0, 0)) (by (with_reducible repeat (first | refine blk_drewN ?_ _ | refine blk_drew ?_ | refine blk_alloc ?_ _)); exact BK275.out) hb); have n3_ := Aside0.mk (blk_below (g := gb280) (o := .cells #[.int .i64 t276, .int .i64 t277, .int .i64 t278] 28 (0, 0)) (by (with_reducible repeat (first | refine blk_drewN ?_ _ | refine blk_drew ?_ | refine blk_alloc ?_ _)); exact BK280.out) hb); have n4_ := Aside0.mk (below_step (by repeat (first | (with_reducible first | exact HB.out | apply below_alloc | apply pw_below_drewN | apply below_drew1 | refine below_set ?_ GE264.out | refine below_set ?_ GE270.out | refine below_set ?_ GE275.out | refine below_set ?_ GE280.out) | exact HB.out)) hb); clear BK264; clear BK270; clear BK275; clear BK280; clear HB; have BK264 := n0_; have BK270 := n1_; have BK275 := n2_; have BK280 := n3_; have HB := n4_; clear n0_ n1_ n2_ n3_ n4_; (try clear hb); (try clear hb2); (try clear hk); (try clear hi)))
                  go_ret
                  exact ⟨by first | rfl | (simp [errW_none, errW_some] <;> rfl) | (simp [*, errW_none, errW_some] <;> rfl), by repeat (first | (with_reducible first | exact HB.out | apply below_alloc | apply pw_below_drewN | apply below_drew1 | refine below_set ?_ GE264.out | refine below_set ?_ GE270.out | refine below_set ?_ GE275.out | refine below_set ?_ GE280.out) | exact HB.out)⟩
                · rw [if_neg c88] at H
                  have c88b0 : (t281 == (-1)) = false := beq_eq_false_iff_ne.mpr c88
                  have c88b1 : (t281 != (-1)) = true := bne_iff_ne.mpr c88
                  obtain rfl := Option.some.inj H
                  have hnb101 := NB264_270.out
                  have hnc101 := NB270_264.out
                  have hnb102 := NB264_275.out
                  have hnc102 := NB275_264.out
                  have hnb103 := NB264_280.out
                  have hnc103 := NB280_264.out
                  have hcz104_0 : wc.cell? ⟨gb264, 0, none⟩ = some (.int .i64 a0_0) := (blk_cell BK264.out 0).trans rfl
                  have hcz104_1 : wc.cell? ⟨gb264, 1, none⟩ = some (.int .i64 a0_1) := (blk_cell BK264.out 1).trans rfl
                  have hcz104_2 : wc.cell? ⟨gb264, 2, none⟩ = some (.int .i64 a0_2) := (blk_cell BK264.out 2).trans rfl
                  have hcz104_3 : wc.cell? ⟨gb264, 3, none⟩ = some (.int .i64 a0_3) := (blk_cell BK264.out 3).trans rfl
                  have hcz104_4 : wc.cell? ⟨gb264, 4, none⟩ = some (.int .i64 a0_4) := (blk_cell BK264.out 4).trans rfl
                  have hcz104_5 : wc.cell? ⟨gb264, 5, none⟩ = some (.int .i64 a0_5) := (blk_cell BK264.out 5).trans rfl
                  have hcz104_6 : wc.cell? ⟨gb264, 6, none⟩ = some (.int .i64 a0_6) := (blk_cell BK264.out 6).trans rfl
                  have hcz104_7 : wc.cell? ⟨gb264, 7, none⟩ = some (.int .i64 a0_7) := (blk_cell BK264.out 7).trans rfl
                  have hfz104_0 := blk_frozen BK264.out 0
                  have hfz104_1 := blk_frozen BK264.out 1
                  have hfz104_2 := blk_frozen BK264.out 2
                  have hfz104_3 := blk_frozen BK264.out 3
                  have hfz104_4 := blk_frozen BK264.out 4
                  have hfz104_5 := blk_frozen BK264.out 5
                  have hfz104_6 := blk_frozen BK264.out 6
                  have hfz104_7 := blk_frozen BK264.out 7
                  have hnb105 := NB270_275.out
                  have hnc105 := NB275_270.out
                  have hnb106 := NB270_280.out
                  have hnc106 := NB280_270.out
                  have hcz107_0 : wc.cell? ⟨gb270, 0, none⟩ = some (.int .i64 t266) := (blk_cell BK270.out 0).trans rfl
                  have hcz107_1 : wc.cell? ⟨gb270, 1, none⟩ = some (.int .i64 t267) := (blk_cell BK270.out 1).trans rfl
                  have hcz107_2 : wc.cell? ⟨gb270, 2, none⟩ = some (.int .i64 t268) := (blk_cell BK270.out 2).trans rfl
                  have hfz107_0 := blk_frozen BK270.out 0
                  have hfz107_1 := blk_frozen BK270.out 1
                  have hfz107_2 := blk_frozen BK270.out 2
                  go_wp2_with (first | (go_at_call 25; (with_reducible refine (detmap_Which.calls kj58 a0_0 a0_1 a0_2 a0_3 a0_4 a0_5 a0_6 a0_7 t266 t267 t281 _ A87.out).mono ?_); rintro e w108 ⟨rfl, hb⟩; have n0_ := Aside0.mk (blk_below (g := gb264) (o := .cells #[.int .i64 a0_0, .int .i64 a0_1, .int .i64 a0_2, .int .i64 a0_3, .int .i64 a0_4, .int .i64 a0_5, .int .i64 a0_6, .int .i64 a0_7] 25 (0, 0)) (by (with_reducible repeat (first | refine blk_drewN ?_ _ | refine blk_drew ?_ | refine blk_alloc ?_ _)); exact BK264.out) hb); have n1_ := Aside0.mk (blk_below (g := gb270) (o := .cells #[.int .i64 t266, .int .i64 t267, .int .i64 t268] 28 (0, 0)) (by (with_reducible repeat (first | refine blk_drewN ?_ _ | refine blk_drew ?_ | refine blk_alloc ?_ _)); exact BK270.out) hb); have n2_ := Aside0.mk (blk_below (g := gb275) (o := .cells #[.int .i64 t271, .int .i64 t272, .int .i64 t273] 28 (0, 0)) (by (with_reducible repeat (first | refine blk_drewN ?_ _ | refine blk_drew ?_ | refine blk_alloc ?_ _)); exact BK275.out) hb); have n3_ := Aside0.mk (blk_below (g := gb280) (o := .cells #[.int .i64 t276, .int .i64 t277, .int .i64 t278] 28 (0, 0)) (by (with_reducible repeat (first | refine blk_drewN ?_ _ | refine blk_drew ?_ | refine blk_alloc ?_ _)); exact BK280.out) hb); have n4_ := Aside0.mk (below_step (by repeat (first | (with_reducible first | exact HB.out | apply below_alloc | apply pw_below_drewN | apply below_drew1 | refine below_set ?_ GE264.out | refine below_set ?_ GE270.out | refine below_set ?_ GE275.out | refine below_set ?_ GE280.out) | exact HB.out)) hb); clear BK264; clear BK270; clear BK275; clear BK280; clear HB; have BK264 := n0_; have BK270 := n1_; have BK275 := n2_; have BK280 := n3_; have HB := n4_; clear n0_ n1_ n2_ n3_ n4_; (try clear hb); (try clear hb2); (try clear hk); (try clear hi)))
                  go_ret
                  exact ⟨by first | rfl | (simp [errW_none, errW_some] <;> rfl) | (simp [*, errW_none, errW_some] <;> rfl), by repeat (first | (with_reducible first | exact HB.out | apply below_alloc | apply pw_below_drewN | apply below_drew1 | refine below_set ?_ GE264.out | refine below_set ?_ GE270.out | refine below_set ?_ GE275.out | refine below_set ?_ GE280.out) | exact HB.out)⟩
              · replace c86 := Bool.eq_false_iff.mpr c86
                subst c86
                have H1 : (some true) = some r := by rw [if_neg (show ¬ (false = true) by decide)] at H; exact H
                clear H
                have H := H1
                clear H1
                obtain rfl := Option.some.inj H
                go_wp2
                go_ret
                exact ⟨by first | rfl | (simp [errW_none, errW_some] <;> rfl) | (simp [*, errW_none, errW_some] <;> rfl), by repeat (first | (with_reducible first | exact HB.out | apply below_alloc | apply pw_below_drewN | apply below_drew1 | refine below_set ?_ GE264.out | refine below_set ?_ GE270.out | refine below_set ?_ GE275.out | refine below_set ?_ GE280.out) | exact HB.out)⟩

end Go.Proofs.Ytfkdflhijfkjoaa.P
