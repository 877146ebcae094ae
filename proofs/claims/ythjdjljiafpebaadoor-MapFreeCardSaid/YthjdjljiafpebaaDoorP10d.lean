-- Laid by this session's own program (wip/myprint.py): Lean functions for the Go functions that a law reaches, and their contracts. Not trusted: Lean checks it.
import Derived.Test.YthjdjljiafpebaaDoorP0
import Derived.Test.YthjdjljiafpebaaDoorP2
import Derived.Test.YthjdjljiafpebaaDoorP3
namespace Go.Proofs.YthjdjljiafpebaaDoor.P
open Go.RowKit Go.Proofs.YthjdjljiafpebaaDoorW.PrintWords Go.Proofs.YthjdjljiafpebaaDoorW.PrintLast Go.Proofs.YthjdjljiafpebaaDoorW.PrintMore
attribute [local go_sem] max2_int min2_int max_two min_two max_three min_three max_four min_four   -- for this text's walks alone
set_option linter.unusedVariables false
set_option linter.unusedSimpArgs false

/-! ### mooringslaw09_MapFree: function 3 -/
mutual
def mooringslaw09_MapFree.j0 : Nat → Int → Bool → List Int → Int → Bool → Int → Int → Option (Bool)
 |0, _, _, _, _, _, _, _ => none
 |k + 1, x1, x5, x6, x7, x23, x224000, x224001 => if x23 = true then (if x5 = true then (if (x6.length : Int) = 0 then (some (x7 == (-1))) else (some false)) else (some false)) else (mooringslaw09_MapFree.l0 k x1 x6 x7 false 0 x224000 x224001)
def mooringslaw09_MapFree.l0 : Nat → Int → List Int → Int → Bool → Int → Int → Int → Option (Bool)
 |0, _, _, _, _, _, _, _ => none
 |k + 1, x1, x6, x7, x8, x9, x224000, x224001 => if x9 < (x6.length : Int) then (if x8 = true then (if x9 > 0 then (if 0 ≤ x9 then (if 0 ≤ (wrap64 (x9 - 1)) then (if (wrap64 (x9 - 1)) < (x6.length : Int) then (if (rd x6 x9) ≤ (rd x6 (wrap64 (x9 - 1))) then (some false) else (mooringslaw09_MapFree.l0 k x1 x6 x7 true (wrap64 (x9 + 1)) x224000 x224001)) else (none)) else (none)) else (none)) else (mooringslaw09_MapFree.l0 k x1 x6 x7 true (wrap64 (x9 + 1)) x224000 x224001)) else (if 0 ≤ x9 then (if x9 > 0 then (if 0 ≤ (wrap64 (x9 - 1)) then (if (wrap64 (x9 - 1)) < (x6.length : Int) then (if (rd x6 x9) ≤ (rd x6 (wrap64 (x9 - 1))) then (some false) else (mooringslaw09_MapFree.l0 k x1 x6 x7 ((rd x6 x9) == x1) (wrap64 (x9 + 1)) x224000 x224001)) else (none)) else (none)) else (mooringslaw09_MapFree.l0 k x1 x6 x7 ((rd x6 x9) == x1) (wrap64 (x9 + 1)) x224000 x224001)) else (none))) else ((bitmap_Count.f x224000 x224001).bind fun t235 => (if (wrap64 ((x6.length : Int) + t235)) = x224000 then (if x1 ≥ 0 then (if x1 < x224000 then ((bitmap_Has.f x224000 x224001 x1).bind fun t236 => (if (x8 != (!t236)) = true then (mooringslaw09_MapFree.j2 k x6 x7 true x224000 x224001) else (mooringslaw09_MapFree.j2 k x6 x7 ((x7 == (-1)) != ((x6.length : Int) == 0)) x224000 x224001))) else (if (x8 != false) = true then (mooringslaw09_MapFree.j2 k x6 x7 true x224000 x224001) else (mooringslaw09_MapFree.j2 k x6 x7 ((x7 == (-1)) != ((x6.length : Int) == 0)) x224000 x224001))) else (if (x8 != false) = true then (mooringslaw09_MapFree.j2 k x6 x7 true x224000 x224001) else (mooringslaw09_MapFree.j2 k x6 x7 ((x7 == (-1)) != ((x6.length : Int) == 0)) x224000 x224001))) else (mooringslaw09_MapFree.j2 k x6 x7 true x224000 x224001)))
def mooringslaw09_MapFree.j2 : Nat → List Int → Int → Bool → Int → Int → Option (Bool)
 |0, _, _, _, _, _ => none
 |k + 1, x6, x7, x96, x224000, x224001 => if x96 = true then (some false) else ((bitmap_Take.f x224000 x224001 x7).bind fun bt237 => (if (x6.length : Int) = 0 then (if bt237.2.2 = true then (if (x6.length : Int) > 0 then (if 0 < (x6.length : Int) then (if x7 = (rd x6 0) then (some bt237.2.2) else (some false)) else (none)) else (some false)) else (some true)) else (if (x6.length : Int) > 0 then (if 0 < (x6.length : Int) then (if x7 = (rd x6 0) then (some bt237.2.2) else (some false)) else (none)) else (some false))))
end
def mooringslaw09_MapFree.f (k : Nat) (a0_0 : Int) (a0_1 : Int) (a1 : Int) : Option (Bool) := (mooringslaw09_awake.f).bind fun t224 => ((bitmap_Free.f a0_0 a0_1).bind fun t225 => ((bitmap_First.f a0_0 a0_1).bind fun t228 => (if t224 = true then ((bitmap_May.f a0_0 a0_1).bind fun t229 => (mooringslaw09_MapFree.j0 k a1 t224 t225 t228 (!t229) a0_0 a0_1)) else (mooringslaw09_MapFree.j0 k a1 t224 t225 t228 true a0_0 a0_1))))
theorem mooringslaw09_MapFree.mono_l : ∀ k, (∀ y0 y1 y2 y3 y4 y5 y6, LeO (mooringslaw09_MapFree.j0 k y0 y1 y2 y3 y4 y5 y6) (mooringslaw09_MapFree.j0 (k + 1) y0 y1 y2 y3 y4 y5 y6)) ∧ (∀ y0 y1 y2 y3 y4 y5 y6, LeO (mooringslaw09_MapFree.l0 k y0 y1 y2 y3 y4 y5 y6) (mooringslaw09_MapFree.l0 (k + 1) y0 y1 y2 y3 y4 y5 y6)) ∧ (∀ y0 y1 y2 y3 y4, LeO (mooringslaw09_MapFree.j2 k y0 y1 y2 y3 y4) (mooringslaw09_MapFree.j2 (k + 1) y0 y1 y2 y3 y4))
 |0 => ⟨fun _ _ _ _ _ _ _ r h => by simp [mooringslaw09_MapFree.j0] at h, fun _ _ _ _ _ _ _ r h => by simp [mooringslaw09_MapFree.l0] at h, fun _ _ _ _ _ r h => by simp [mooringslaw09_MapFree.j2] at h⟩
 |k + 1 => by
  obtain ⟨ih0, ih1, ih2⟩ := mooringslaw09_MapFree.mono_l k
  refine ⟨?_, ?_, ?_⟩
  ·intro y0 y1 y2 y3 y4 y5 y6
   unfold mooringslaw09_MapFree.j0
   repeat' first
   |(with_reducible exact ih0 _ _ _ _ _ _ _)
   |(with_reducible exact ih1 _ _ _ _ _ _ _)
   |(with_reducible exact ih2 _ _ _ _ _)
   |(with_reducible exact LeO.refl _)
   |(with_reducible exact LeO.none _)
   |(with_reducible refine LeO.ite ?_ ?_)
   |(with_reducible refine LeO.bind ?_ (fun _ => ?_))
   |exact ih0 _ _ _ _ _ _ _
   |exact ih1 _ _ _ _ _ _ _
   |exact ih2 _ _ _ _ _
   |exact LeO.none _
   |refine LeO.ite ?_ ?_
   |refine LeO.bind ?_ (fun _ => ?_)
  ·intro y0 y1 y2 y3 y4 y5 y6
   unfold mooringslaw09_MapFree.l0
   repeat' first
   |(with_reducible exact ih0 _ _ _ _ _ _ _)
   |(with_reducible exact ih1 _ _ _ _ _ _ _)
   |(with_reducible exact ih2 _ _ _ _ _)
   |(with_reducible exact LeO.refl _)
   |(with_reducible exact LeO.none _)
   |(with_reducible refine LeO.ite ?_ ?_)
   |(with_reducible refine LeO.bind ?_ (fun _ => ?_))
   |exact ih0 _ _ _ _ _ _ _
   |exact ih1 _ _ _ _ _ _ _
   |exact ih2 _ _ _ _ _
   |exact LeO.none _
   |refine LeO.ite ?_ ?_
   |refine LeO.bind ?_ (fun _ => ?_)
  ·intro y0 y1 y2 y3 y4
   unfold mooringslaw09_MapFree.j2
   repeat' first
   |(with_reducible exact ih0 _ _ _ _ _ _ _)
   |(with_reducible exact ih1 _ _ _ _ _ _ _)
   |(with_reducible exact ih2 _ _ _ _ _)
   |(with_reducible exact LeO.refl _)
   |(with_reducible exact LeO.none _)
   |(with_reducible refine LeO.ite ?_ ?_)
   |(with_reducible refine LeO.bind ?_ (fun _ => ?_))
   |exact ih0 _ _ _ _ _ _ _
   |exact ih1 _ _ _ _ _ _ _
   |exact ih2 _ _ _ _ _
   |exact LeO.none _
   |refine LeO.ite ?_ ?_
   |refine LeO.bind ?_ (fun _ => ?_)
theorem mooringslaw09_MapFree.mono : ∀ a0 a1 a2 k, LeO (mooringslaw09_MapFree.f k a0 a1 a2) (mooringslaw09_MapFree.f (k + 1) a0 a1 a2) := by
 intro a0 a1 a2 k
 obtain ⟨ih0, ih1, ih2⟩ := mooringslaw09_MapFree.mono_l k
 unfold mooringslaw09_MapFree.f
 repeat' first
   |(with_reducible exact ih0 _ _ _ _ _ _ _)
   |(with_reducible exact ih1 _ _ _ _ _ _ _)
   |(with_reducible exact ih2 _ _ _ _ _)
   |(with_reducible exact LeO.refl _)
   |(with_reducible exact LeO.none _)
   |(with_reducible refine LeO.ite ?_ ?_)
   |(with_reducible refine LeO.bind ?_ (fun _ => ?_))
   |exact ih0 _ _ _ _ _ _ _
   |exact ih1 _ _ _ _ _ _ _
   |exact ih2 _ _ _ _ _
   |exact LeO.none _
   |refine LeO.ite ?_ ?_
   |refine LeO.bind ?_ (fun _ => ?_)
def mooringslaw09_MapFree.T11 : Bool × List (List Nat × List Nat) := (true, [([], []), ([0], [0]), ([1], [1]), ([2], [2]), ([2], [2]), ([3, 4, 2], [2, 3, 4]), ([5, 2], [2, 5]), ([2], [2]), ([2], [2]), ([8, 2], [2, 8]), ([7, 9, 2], [2, 7, 9]), ([10, 2], [2, 10]), ([6, 11, 2], [2, 6, 11]), ([2, 12], [2, 12])])
def mooringslaw09_MapFree.B11 : List Nat := [0, 1, 3, 7, 7, 31, 63, 7, 7, 263, 903, 1927, 4095, 8191]
theorem mooringslaw09_MapFree.tab11 : rtab .any (opsOf Tryd.f3 11) = mooringslaw09_MapFree.T11 := by kernel_rfl
theorem mooringslaw09_MapFree.bits11 : waitsOk mooringslaw09_MapFree.T11.2 mooringslaw09_MapFree.B11 = true := by kernel_rfl
def mooringslaw09_MapFree.T13 : Bool × List (List Nat × List Nat) := (true, [([], []), ([0], [0]), ([], []), ([2], [2]), ([1, 3], [1, 3]), ([], []), ([5], [5]), ([4, 6], [4, 6]), ([7, 3], [7]), ([8], [8]), ([8], [8]), ([10, 8], [8, 10]), ([11, 8, 8], [8, 11]), ([12], [12]), ([12], [12]), ([14, 12], [12, 14]), ([13, 15, 12], [12, 13, 15]), ([12, 16, 8], [8, 12, 16]), ([17, 12, 8], [8, 17]), ([18], [18]), ([18], [18]), ([19, 20, 18, 18], [18, 19, 20]), ([21, 18], [18, 21]), ([18, 22, 8], [8, 18, 22]), ([9, 23, 8], [8, 9, 23]), ([8, 24], [8, 24]), ([25, 21], [25]), ([26], [26]), ([27, 26], [26, 27]), ([26], [26]), ([29, 26], [26, 29]), ([30, 26], [26, 30]), ([28, 31, 26], [26, 28, 31]), ([26, 32], [26, 32])])
def mooringslaw09_MapFree.B13 : List Nat := [0, 1, 0, 4, 15, 0, 32, 127, 255, 511, 511, 1535, 3583, 7679, 7679, 24063, 65023, 130559, 261631, 523775, 523775, 2096639, 4193791, 8388095, 16777215, 33554431, 67108863, 134217727, 268435455, 134217727, 671088639, 1744830463, 4294967295, 8589934591]
theorem mooringslaw09_MapFree.tab13 : rtab .any (opsOf Tryd.f3 13) = mooringslaw09_MapFree.T13 := by kernel_rfl
theorem mooringslaw09_MapFree.bits13 : waitsOk mooringslaw09_MapFree.T13.2 mooringslaw09_MapFree.B13 = true := by kernel_rfl

end Go.Proofs.YthjdjljiafpebaaDoor.P
