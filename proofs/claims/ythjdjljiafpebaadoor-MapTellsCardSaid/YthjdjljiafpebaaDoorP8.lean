-- Laid by this session's own program (wip/myprint.py): Lean functions for the Go functions that a law reaches, and their contracts. Not trusted: Lean checks it.
import Derived.Test.YthjdjljiafpebaaDoorP0
import Derived.Test.YthjdjljiafpebaaDoorP1
import Derived.Test.YthjdjljiafpebaaDoorP2
import Derived.Test.YthjdjljiafpebaaDoorP3
import Derived.Test.YthjdjljiafpebaaDoorP4
import Derived.Test.YthjdjljiafpebaaDoorP5
import Derived.Test.YthjdjljiafpebaaDoorP6
import Derived.Test.YthjdjljiafpebaaDoorP7
namespace Go.Proofs.YthjdjljiafpebaaDoor.P
open Go.RowKit Go.Proofs.YthjdjljiafpebaaDoorW.PrintWords Go.Proofs.YthjdjljiafpebaaDoorW.PrintLast Go.Proofs.YthjdjljiafpebaaDoorW.PrintMore
attribute [local go_sem] max2_int min2_int max_two min_two max_three min_three max_four min_four   -- for this text's walks alone
set_option linter.unusedVariables false
set_option linter.unusedSimpArgs false

attribute [local go_sem high] eqA23
/-! ### mooringslaw09_MapTells: function 6 -/
def mooringslaw09_MapTells.j0 : Nat → Int → Bool → Bool → Bool → Int → Int → Option (Bool)
  | 0, _, _, _, _, _, _ => none
  | k + 1, x1, x21, x22, x103, x163000, x163001 => if x103 = true then (some false) else ((bitmap_May.f x163000 x163001).bind fun t197 => (if (t197 == x21) = true then ((bitmap_Has.f x163000 x163001 x1).bind fun t198 => (if (t198 == x22) = true then ((bitmap_First.f x163000 x163001).bind fun t199 => ((mooringsref09_First.f k x163000 x163001).bind fun t200 => (if t199 = t200 then ((bitmap_Count.f x163000 x163001).bind fun t201 => ((mooringsref09_Count.f k x163000 x163001).bind fun t202 => (some (t201 == t202)))) else (some false)))) else (some false))) else (some false)))
def mooringslaw09_MapTells.f (k : Nat) (a0_0 : Int) (a0_1 : Int) (a1 : Int) (a2 : Int) : Option (Bool) := (mooringslaw09_awake.f).bind fun t163 => ((bitmap_Take.f a0_0 a0_1 a1).bind fun bt164 => ((mooringsref09_Take.f k a0_0 a0_1 a1).bind fun bt168 => ((bitmap_Give.f a0_0 a0_1 a1).bind fun bt172 => ((mooringsref09_Give.f k a0_0 a0_1 a1).bind fun bt176 => ((bitmap_New.f a2).bind fun bt180 => ((mooringsref09_New.f k a2).bind fun bt184 => ((bitmap_Free.f a0_0 a0_1).bind fun t188 => ((mooringsref09_Free.f k a0_0 a0_1).bind fun t191 => ((mooringsref01_Ints.f k t188 t191).bind fun t194 => ((mooringsref09_May.f k a0_0 a0_1).bind fun t195 => ((mooringsref09_Has.f k a0_0 a0_1 a1).bind fun t196 => (if t163 = true then (if (!(bt164.1 == bt168.1) || (!(bt164.2.1 == bt168.2.1))) = true then (mooringslaw09_MapTells.j0 k a1 t195 t196 true a0_0 a0_1) else (if (bt164.2.2 != bt168.2.2) = true then (mooringslaw09_MapTells.j0 k a1 t195 t196 true a0_0 a0_1) else (if (!(bt172.1 == bt176.1) || (!(bt172.2.1 == bt176.2.1))) = true then (mooringslaw09_MapTells.j0 k a1 t195 t196 true a0_0 a0_1) else (if (bt172.2.2 != bt176.2.2) = true then (mooringslaw09_MapTells.j0 k a1 t195 t196 true a0_0 a0_1) else (if (!(bt180.1 == bt184.1) || (!(bt180.2.1 == bt184.2.1))) = true then (mooringslaw09_MapTells.j0 k a1 t195 t196 true a0_0 a0_1) else (if (bt180.2.2 != bt184.2.2) = true then (mooringslaw09_MapTells.j0 k a1 t195 t196 true a0_0 a0_1) else (mooringslaw09_MapTells.j0 k a1 t195 t196 (!t194) a0_0 a0_1))))))) else (mooringslaw09_MapTells.j0 k a1 t195 t196 true a0_0 a0_1)))))))))))))
theorem mooringslaw09_MapTells.mono_l : ∀ k, (∀ y0 y1 y2 y3 y4 y5, LeO (mooringslaw09_MapTells.j0 k y0 y1 y2 y3 y4 y5) (mooringslaw09_MapTells.j0 (k + 1) y0 y1 y2 y3 y4 y5))
  | 0 => fun _ _ _ _ _ _ r h => by simp [mooringslaw09_MapTells.j0] at h
  | k + 1 => by
    have ih0 := mooringslaw09_MapTells.mono_l k
    · intro y0 y1 y2 y3 y4 y5
      unfold mooringslaw09_MapTells.j0
      repeat' first
      | (with_reducible exact ih0 _ _ _ _ _ _)
      | (with_reducible exact mooringsref01_Ints.mono _ _ _)
      | (with_reducible exact mooringsref09_Count.mono _ _ _)
      | (with_reducible exact mooringsref09_First.mono _ _ _)
      | (with_reducible exact mooringsref09_Free.mono _ _ _)
      | (with_reducible exact mooringsref09_Give.mono _ _ _ _)
      | (with_reducible exact mooringsref09_Has.mono _ _ _ _)
      | (with_reducible exact mooringsref09_May.mono _ _ _)
      | (with_reducible exact mooringsref09_New.mono _ _)
      | (with_reducible exact mooringsref09_Take.mono _ _ _ _)
      | (with_reducible exact LeO.refl _)
      | (with_reducible exact LeO.none _)
      | (with_reducible refine LeO.ite ?_ ?_)
      | (with_reducible refine LeO.bind ?_ (fun _ => ?_))
      | exact ih0 _ _ _ _ _ _
      | exact mooringsref01_Ints.mono _ _ _
      | exact mooringsref09_Count.mono _ _ _
      | exact mooringsref09_First.mono _ _ _
      | exact mooringsref09_Free.mono _ _ _
      | exact mooringsref09_Give.mono _ _ _ _
      | exact mooringsref09_Has.mono _ _ _ _
      | exact mooringsref09_May.mono _ _ _
      | exact mooringsref09_New.mono _ _
      | exact mooringsref09_Take.mono _ _ _ _
      | exact LeO.none _
      | refine LeO.ite ?_ ?_
      | refine LeO.bind ?_ (fun _ => ?_)
theorem mooringslaw09_MapTells.mono : ∀ a0 a1 a2 a3 k, LeO (mooringslaw09_MapTells.f k a0 a1 a2 a3) (mooringslaw09_MapTells.f (k + 1) a0 a1 a2 a3) := by
  intro a0 a1 a2 a3 k
  have ih0 := mooringslaw09_MapTells.mono_l k
  unfold mooringslaw09_MapTells.f
  repeat' first
      | (with_reducible exact ih0 _ _ _ _ _ _)
      | (with_reducible exact mooringsref01_Ints.mono _ _ _)
      | (with_reducible exact mooringsref09_Count.mono _ _ _)
      | (with_reducible exact mooringsref09_First.mono _ _ _)
      | (with_reducible exact mooringsref09_Free.mono _ _ _)
      | (with_reducible exact mooringsref09_Give.mono _ _ _ _)
      | (with_reducible exact mooringsref09_Has.mono _ _ _ _)
      | (with_reducible exact mooringsref09_May.mono _ _ _)
      | (with_reducible exact mooringsref09_New.mono _ _)
      | (with_reducible exact mooringsref09_Take.mono _ _ _ _)
      | (with_reducible exact LeO.refl _)
      | (with_reducible exact LeO.none _)
      | (with_reducible refine LeO.ite ?_ ?_)
      | (with_reducible refine LeO.bind ?_ (fun _ => ?_))
      | exact ih0 _ _ _ _ _ _
      | exact mooringsref01_Ints.mono _ _ _
      | exact mooringsref09_Count.mono _ _ _
      | exact mooringsref09_First.mono _ _ _
      | exact mooringsref09_Free.mono _ _ _
      | exact mooringsref09_Give.mono _ _ _ _
      | exact mooringsref09_Has.mono _ _ _ _
      | exact mooringsref09_May.mono _ _ _
      | exact mooringsref09_New.mono _ _
      | exact mooringsref09_Take.mono _ _ _ _
      | exact LeO.none _
      | refine LeO.ite ?_ ?_
      | refine LeO.bind ?_ (fun _ => ?_)
def mooringslaw09_MapTells.T13 : Bool × List (List Nat × List Nat) := (true, [([], []), ([0], [0]), ([], []), ([1, 2], [1, 2]), ([3, 1], [3]), ([4], [4]), ([4], [4]), ([5, 6, 4, 4], [4, 5, 6]), ([4], [4]), ([7, 8, 4], [4, 7, 8]), ([4, 9], [4, 9]), ([10, 7], [10]), ([11], [11]), ([12, 11, 11], [11, 12]), ([11], [11]), ([14, 13, 11], [11, 14]), ([13, 15, 11], [11, 13, 15]), ([11, 16], [11, 16]), ([17, 15], [17]), ([18], [18]), ([19, 18, 18], [18, 19]), ([18], [18]), ([21, 20, 18], [18, 21]), ([20, 22, 18], [18, 20, 22]), ([18, 23], [18, 23]), ([24, 22, 0, 1, 2, 3, 4, 5, 6, 7, 8, 9, 10, 11, 12, 13, 14, 15, 16, 17, 18, 19, 20, 21, 22, 23, 24], [24])])
def mooringslaw09_MapTells.B13 : List Nat := [0, 1, 0, 7, 15, 31, 31, 127, 31, 511, 1023, 2047, 4095, 8191, 4095, 32767, 65535, 131071, 262143, 524287, 1048575, 524287, 4194303, 8388607, 16777215, 33554431]
theorem mooringslaw09_MapTells.tab13 : rtab .any (opsOf Tryd.f6 13) = mooringslaw09_MapTells.T13 := by kernel_rfl
theorem mooringslaw09_MapTells.bits13 : waitsOk mooringslaw09_MapTells.T13.2 mooringslaw09_MapTells.B13 = true := by kernel_rfl
set_option maxHeartbeats 8000000 in
set_option maxRecDepth 100000 in
theorem mooringslaw09_MapTells.calls (k : Nat) (a0_0 : Int) (a0_1 : Int) (a1 : Int) (a2 : Int) (r : Bool) (w : World) (h : mooringslaw09_MapTells.f k a0_0 a0_1 a1 a2 = some r) (hT0 : Dev.Laid w) (hR0 : r = true) :
    Calls Tryd.prog 6 #[.agg #[.int .i64 a0_0, .int .i64 a0_1], .int .i64 a1, .int .i64 a2] w fun e w' => e = .returned (.bool r) ∧ Below w.heap.size w w' := by
  have HR := Aside0.mk hR0
  clear hR0
  have HT := Aside0.mk hT0
  clear hT0
  have hu23 := Tryd.underlying23
  have HB := Aside0.mk (Below.refl w.heap.size w)
  have H : ((mooringslaw09_awake.f).bind fun t163 => ((bitmap_Take.f a0_0 a0_1 a1).bind fun bt164 => ((mooringsref09_Take.f k a0_0 a0_1 a1).bind fun bt168 => ((bitmap_Give.f a0_0 a0_1 a1).bind fun bt172 => ((mooringsref09_Give.f k a0_0 a0_1 a1).bind fun bt176 => ((bitmap_New.f a2).bind fun bt180 => ((mooringsref09_New.f k a2).bind fun bt184 => ((bitmap_Free.f a0_0 a0_1).bind fun t188 => ((mooringsref09_Free.f k a0_0 a0_1).bind fun t191 => ((mooringsref01_Ints.f k t188 t191).bind fun t194 => ((mooringsref09_May.f k a0_0 a0_1).bind fun t195 => ((mooringsref09_Has.f k a0_0 a0_1 a1).bind fun t196 => (if t163 = true then (if (!(bt164.1 == bt168.1) || (!(bt164.2.1 == bt168.2.1))) = true then (mooringslaw09_MapTells.j0 k a1 t195 t196 true a0_0 a0_1) else (if (bt164.2.2 != bt168.2.2) = true then (mooringslaw09_MapTells.j0 k a1 t195 t196 true a0_0 a0_1) else (if (!(bt172.1 == bt176.1) || (!(bt172.2.1 == bt176.2.1))) = true then (mooringslaw09_MapTells.j0 k a1 t195 t196 true a0_0 a0_1) else (if (bt172.2.2 != bt176.2.2) = true then (mooringslaw09_MapTells.j0 k a1 t195 t196 true a0_0 a0_1) else (if (!(bt180.1 == bt184.1) || (!(bt180.2.1 == bt184.2.1))) = true then (mooringslaw09_MapTells.j0 k a1 t195 t196 true a0_0 a0_1) else (if (bt180.2.2 != bt184.2.2) = true then (mooringslaw09_MapTells.j0 k a1 t195 t196 true a0_0 a0_1) else (mooringslaw09_MapTells.j0 k a1 t195 t196 (!t194) a0_0 a0_1))))))) else (mooringslaw09_MapTells.j0 k a1 t195 t196 true a0_0 a0_1)))))))))))))) = some r := h
  clear h
  replace H := Option.bind_eq_some_iff.mp H
  obtain ⟨t163, A40, H⟩ := H
  replace H : ((bitmap_Take.f a0_0 a0_1 a1).bind fun bt164 => ((mooringsref09_Take.f k a0_0 a0_1 a1).bind fun bt168 => ((bitmap_Give.f a0_0 a0_1 a1).bind fun bt172 => ((mooringsref09_Give.f k a0_0 a0_1 a1).bind fun bt176 => ((bitmap_New.f a2).bind fun bt180 => ((mooringsref09_New.f k a2).bind fun bt184 => ((bitmap_Free.f a0_0 a0_1).bind fun t188 => ((mooringsref09_Free.f k a0_0 a0_1).bind fun t191 => ((mooringsref01_Ints.f k t188 t191).bind fun t194 => ((mooringsref09_May.f k a0_0 a0_1).bind fun t195 => ((mooringsref09_Has.f k a0_0 a0_1 a1).bind fun t196 => (if t163 = true then (if (!(bt164.1 == bt168.1) || (!(bt164.2.1 == bt168.2.1))) = true then (mooringslaw09_MapTells.j0 k a1 t195 t196 true a0_0 a0_1) else (if (bt164.2.2 != bt168.2.2) = true then (mooringslaw09_MapTells.j0 k a1 t195 t196 true a0_0 a0_1) else (if (!(bt172.1 == bt176.1) || (!(bt172.2.1 == bt176.2.1))) = true then (mooringslaw09_MapTells.j0 k a1 t195 t196 true a0_0 a0_1) else (if (bt172.2.2 != bt176.2.2) = true then (mooringslaw09_MapTells.j0 k a1 t195 t196 true a0_0 a0_1) else (if (!(bt180.1 == bt184.1) || (!(bt180.2.1 == bt184.2.1))) = true then (mooringslaw09_MapTells.j0 k a1 t195 t196 true a0_0 a0_1) else (if (bt180.2.2 != bt184.2.2) = true then (mooringslaw09_MapTells.j0 k a1 t195 t196 true a0_0 a0_1) else (mooringslaw09_MapTells.j0 k a1 t195 t196 (!t194) a0_0 a0_1))))))) else (mooringslaw09_MapTells.j0 k a1 t195 t196 true a0_0 a0_1))))))))))))) = some r := H
  have A4 := Aside0.mk A40
  clear A40
  replace H := Option.bind_eq_some_iff.mp H
  obtain ⟨⟨t164, t165, t166⟩, A50, H⟩ := H
  replace H : ((mooringsref09_Take.f k a0_0 a0_1 a1).bind fun bt168 => ((bitmap_Give.f a0_0 a0_1 a1).bind fun bt172 => ((mooringsref09_Give.f k a0_0 a0_1 a1).bind fun bt176 => ((bitmap_New.f a2).bind fun bt180 => ((mooringsref09_New.f k a2).bind fun bt184 => ((bitmap_Free.f a0_0 a0_1).bind fun t188 => ((mooringsref09_Free.f k a0_0 a0_1).bind fun t191 => ((mooringsref01_Ints.f k t188 t191).bind fun t194 => ((mooringsref09_May.f k a0_0 a0_1).bind fun t195 => ((mooringsref09_Has.f k a0_0 a0_1 a1).bind fun t196 => (if t163 = true then (if (!(t164 == bt168.1) || (!(t165 == bt168.2.1))) = true then (mooringslaw09_MapTells.j0 k a1 t195 t196 true a0_0 a0_1) else (if (t166 != bt168.2.2) = true then (mooringslaw09_MapTells.j0 k a1 t195 t196 true a0_0 a0_1) else (if (!(bt172.1 == bt176.1) || (!(bt172.2.1 == bt176.2.1))) = true then (mooringslaw09_MapTells.j0 k a1 t195 t196 true a0_0 a0_1) else (if (bt172.2.2 != bt176.2.2) = true then (mooringslaw09_MapTells.j0 k a1 t195 t196 true a0_0 a0_1) else (if (!(bt180.1 == bt184.1) || (!(bt180.2.1 == bt184.2.1))) = true then (mooringslaw09_MapTells.j0 k a1 t195 t196 true a0_0 a0_1) else (if (bt180.2.2 != bt184.2.2) = true then (mooringslaw09_MapTells.j0 k a1 t195 t196 true a0_0 a0_1) else (mooringslaw09_MapTells.j0 k a1 t195 t196 (!t194) a0_0 a0_1))))))) else (mooringslaw09_MapTells.j0 k a1 t195 t196 true a0_0 a0_1)))))))))))) = some r := H
  have A5 := Aside0.mk A50
  clear A50
  replace H := Option.bind_eq_some_iff.mp H
  obtain ⟨⟨t168, t169, t170⟩, A60, H⟩ := H
  replace H : ((bitmap_Give.f a0_0 a0_1 a1).bind fun bt172 => ((mooringsref09_Give.f k a0_0 a0_1 a1).bind fun bt176 => ((bitmap_New.f a2).bind fun bt180 => ((mooringsref09_New.f k a2).bind fun bt184 => ((bitmap_Free.f a0_0 a0_1).bind fun t188 => ((mooringsref09_Free.f k a0_0 a0_1).bind fun t191 => ((mooringsref01_Ints.f k t188 t191).bind fun t194 => ((mooringsref09_May.f k a0_0 a0_1).bind fun t195 => ((mooringsref09_Has.f k a0_0 a0_1 a1).bind fun t196 => (if t163 = true then (if (!(t164 == t168) || (!(t165 == t169))) = true then (mooringslaw09_MapTells.j0 k a1 t195 t196 true a0_0 a0_1) else (if (t166 != t170) = true then (mooringslaw09_MapTells.j0 k a1 t195 t196 true a0_0 a0_1) else (if (!(bt172.1 == bt176.1) || (!(bt172.2.1 == bt176.2.1))) = true then (mooringslaw09_MapTells.j0 k a1 t195 t196 true a0_0 a0_1) else (if (bt172.2.2 != bt176.2.2) = true then (mooringslaw09_MapTells.j0 k a1 t195 t196 true a0_0 a0_1) else (if (!(bt180.1 == bt184.1) || (!(bt180.2.1 == bt184.2.1))) = true then (mooringslaw09_MapTells.j0 k a1 t195 t196 true a0_0 a0_1) else (if (bt180.2.2 != bt184.2.2) = true then (mooringslaw09_MapTells.j0 k a1 t195 t196 true a0_0 a0_1) else (mooringslaw09_MapTells.j0 k a1 t195 t196 (!t194) a0_0 a0_1))))))) else (mooringslaw09_MapTells.j0 k a1 t195 t196 true a0_0 a0_1))))))))))) = some r := H
  have A6 := Aside0.mk A60
  clear A60
  replace H := Option.bind_eq_some_iff.mp H
  obtain ⟨⟨t172, t173, t174⟩, A70, H⟩ := H
  replace H : ((mooringsref09_Give.f k a0_0 a0_1 a1).bind fun bt176 => ((bitmap_New.f a2).bind fun bt180 => ((mooringsref09_New.f k a2).bind fun bt184 => ((bitmap_Free.f a0_0 a0_1).bind fun t188 => ((mooringsref09_Free.f k a0_0 a0_1).bind fun t191 => ((mooringsref01_Ints.f k t188 t191).bind fun t194 => ((mooringsref09_May.f k a0_0 a0_1).bind fun t195 => ((mooringsref09_Has.f k a0_0 a0_1 a1).bind fun t196 => (if t163 = true then (if (!(t164 == t168) || (!(t165 == t169))) = true then (mooringslaw09_MapTells.j0 k a1 t195 t196 true a0_0 a0_1) else (if (t166 != t170) = true then (mooringslaw09_MapTells.j0 k a1 t195 t196 true a0_0 a0_1) else (if (!(t172 == bt176.1) || (!(t173 == bt176.2.1))) = true then (mooringslaw09_MapTells.j0 k a1 t195 t196 true a0_0 a0_1) else (if (t174 != bt176.2.2) = true then (mooringslaw09_MapTells.j0 k a1 t195 t196 true a0_0 a0_1) else (if (!(bt180.1 == bt184.1) || (!(bt180.2.1 == bt184.2.1))) = true then (mooringslaw09_MapTells.j0 k a1 t195 t196 true a0_0 a0_1) else (if (bt180.2.2 != bt184.2.2) = true then (mooringslaw09_MapTells.j0 k a1 t195 t196 true a0_0 a0_1) else (mooringslaw09_MapTells.j0 k a1 t195 t196 (!t194) a0_0 a0_1))))))) else (mooringslaw09_MapTells.j0 k a1 t195 t196 true a0_0 a0_1)))))))))) = some r := H
  have A7 := Aside0.mk A70
  clear A70
  replace H := Option.bind_eq_some_iff.mp H
  obtain ⟨⟨t176, t177, t178⟩, A80, H⟩ := H
  replace H : ((bitmap_New.f a2).bind fun bt180 => ((mooringsref09_New.f k a2).bind fun bt184 => ((bitmap_Free.f a0_0 a0_1).bind fun t188 => ((mooringsref09_Free.f k a0_0 a0_1).bind fun t191 => ((mooringsref01_Ints.f k t188 t191).bind fun t194 => ((mooringsref09_May.f k a0_0 a0_1).bind fun t195 => ((mooringsref09_Has.f k a0_0 a0_1 a1).bind fun t196 => (if t163 = true then (if (!(t164 == t168) || (!(t165 == t169))) = true then (mooringslaw09_MapTells.j0 k a1 t195 t196 true a0_0 a0_1) else (if (t166 != t170) = true then (mooringslaw09_MapTells.j0 k a1 t195 t196 true a0_0 a0_1) else (if (!(t172 == t176) || (!(t173 == t177))) = true then (mooringslaw09_MapTells.j0 k a1 t195 t196 true a0_0 a0_1) else (if (t174 != t178) = true then (mooringslaw09_MapTells.j0 k a1 t195 t196 true a0_0 a0_1) else (if (!(bt180.1 == bt184.1) || (!(bt180.2.1 == bt184.2.1))) = true then (mooringslaw09_MapTells.j0 k a1 t195 t196 true a0_0 a0_1) else (if (bt180.2.2 != bt184.2.2) = true then (mooringslaw09_MapTells.j0 k a1 t195 t196 true a0_0 a0_1) else (mooringslaw09_MapTells.j0 k a1 t195 t196 (!t194) a0_0 a0_1))))))) else (mooringslaw09_MapTells.j0 k a1 t195 t196 true a0_0 a0_1))))))))) = some r := H
  have A8 := Aside0.mk A80
  clear A80
  replace H := Option.bind_eq_some_iff.mp H
  obtain ⟨⟨t180, t181, t182⟩, A90, H⟩ := H
  replace H : ((mooringsref09_New.f k a2).bind fun bt184 => ((bitmap_Free.f a0_0 a0_1).bind fun t188 => ((mooringsref09_Free.f k a0_0 a0_1).bind fun t191 => ((mooringsref01_Ints.f k t188 t191).bind fun t194 => ((mooringsref09_May.f k a0_0 a0_1).bind fun t195 => ((mooringsref09_Has.f k a0_0 a0_1 a1).bind fun t196 => (if t163 = true then (if (!(t164 == t168) || (!(t165 == t169))) = true then (mooringslaw09_MapTells.j0 k a1 t195 t196 true a0_0 a0_1) else (if (t166 != t170) = true then (mooringslaw09_MapTells.j0 k a1 t195 t196 true a0_0 a0_1) else (if (!(t172 == t176) || (!(t173 == t177))) = true then (mooringslaw09_MapTells.j0 k a1 t195 t196 true a0_0 a0_1) else (if (t174 != t178) = true then (mooringslaw09_MapTells.j0 k a1 t195 t196 true a0_0 a0_1) else (if (!(t180 == bt184.1) || (!(t181 == bt184.2.1))) = true then (mooringslaw09_MapTells.j0 k a1 t195 t196 true a0_0 a0_1) else (if (t182 != bt184.2.2) = true then (mooringslaw09_MapTells.j0 k a1 t195 t196 true a0_0 a0_1) else (mooringslaw09_MapTells.j0 k a1 t195 t196 (!t194) a0_0 a0_1))))))) else (mooringslaw09_MapTells.j0 k a1 t195 t196 true a0_0 a0_1)))))))) = some r := H
  have A9 := Aside0.mk A90
  clear A90
  replace H := Option.bind_eq_some_iff.mp H
  obtain ⟨⟨t184, t185, t186⟩, A100, H⟩ := H
  replace H : ((bitmap_Free.f a0_0 a0_1).bind fun t188 => ((mooringsref09_Free.f k a0_0 a0_1).bind fun t191 => ((mooringsref01_Ints.f k t188 t191).bind fun t194 => ((mooringsref09_May.f k a0_0 a0_1).bind fun t195 => ((mooringsref09_Has.f k a0_0 a0_1 a1).bind fun t196 => (if t163 = true then (if (!(t164 == t168) || (!(t165 == t169))) = true then (mooringslaw09_MapTells.j0 k a1 t195 t196 true a0_0 a0_1) else (if (t166 != t170) = true then (mooringslaw09_MapTells.j0 k a1 t195 t196 true a0_0 a0_1) else (if (!(t172 == t176) || (!(t173 == t177))) = true then (mooringslaw09_MapTells.j0 k a1 t195 t196 true a0_0 a0_1) else (if (t174 != t178) = true then (mooringslaw09_MapTells.j0 k a1 t195 t196 true a0_0 a0_1) else (if (!(t180 == t184) || (!(t181 == t185))) = true then (mooringslaw09_MapTells.j0 k a1 t195 t196 true a0_0 a0_1) else (if (t182 != t186) = true then (mooringslaw09_MapTells.j0 k a1 t195 t196 true a0_0 a0_1) else (mooringslaw09_MapTells.j0 k a1 t195 t196 (!t194) a0_0 a0_1))))))) else (mooringslaw09_MapTells.j0 k a1 t195 t196 true a0_0 a0_1))))))) = some r := H
  have A10 := Aside0.mk A100
  clear A100
  replace H := Option.bind_eq_some_iff.mp H
  obtain ⟨t188, A110, H⟩ := H
  replace H : ((mooringsref09_Free.f k a0_0 a0_1).bind fun t191 => ((mooringsref01_Ints.f k t188 t191).bind fun t194 => ((mooringsref09_May.f k a0_0 a0_1).bind fun t195 => ((mooringsref09_Has.f k a0_0 a0_1 a1).bind fun t196 => (if t163 = true then (if (!(t164 == t168) || (!(t165 == t169))) = true then (mooringslaw09_MapTells.j0 k a1 t195 t196 true a0_0 a0_1) else (if (t166 != t170) = true then (mooringslaw09_MapTells.j0 k a1 t195 t196 true a0_0 a0_1) else (if (!(t172 == t176) || (!(t173 == t177))) = true then (mooringslaw09_MapTells.j0 k a1 t195 t196 true a0_0 a0_1) else (if (t174 != t178) = true then (mooringslaw09_MapTells.j0 k a1 t195 t196 true a0_0 a0_1) else (if (!(t180 == t184) || (!(t181 == t185))) = true then (mooringslaw09_MapTells.j0 k a1 t195 t196 true a0_0 a0_1) else (if (t182 != t186) = true then (mooringslaw09_MapTells.j0 k a1 t195 t196 true a0_0 a0_1) else (mooringslaw09_MapTells.j0 k a1 t195 t196 (!t194) a0_0 a0_1))))))) else (mooringslaw09_MapTells.j0 k a1 t195 t196 true a0_0 a0_1)))))) = some r := H
  have A11 := Aside0.mk A110
  clear A110
  replace H := Option.bind_eq_some_iff.mp H
  obtain ⟨t191, A120, H⟩ := H
  replace H : ((mooringsref01_Ints.f k t188 t191).bind fun t194 => ((mooringsref09_May.f k a0_0 a0_1).bind fun t195 => ((mooringsref09_Has.f k a0_0 a0_1 a1).bind fun t196 => (if t163 = true then (if (!(t164 == t168) || (!(t165 == t169))) = true then (mooringslaw09_MapTells.j0 k a1 t195 t196 true a0_0 a0_1) else (if (t166 != t170) = true then (mooringslaw09_MapTells.j0 k a1 t195 t196 true a0_0 a0_1) else (if (!(t172 == t176) || (!(t173 == t177))) = true then (mooringslaw09_MapTells.j0 k a1 t195 t196 true a0_0 a0_1) else (if (t174 != t178) = true then (mooringslaw09_MapTells.j0 k a1 t195 t196 true a0_0 a0_1) else (if (!(t180 == t184) || (!(t181 == t185))) = true then (mooringslaw09_MapTells.j0 k a1 t195 t196 true a0_0 a0_1) else (if (t182 != t186) = true then (mooringslaw09_MapTells.j0 k a1 t195 t196 true a0_0 a0_1) else (mooringslaw09_MapTells.j0 k a1 t195 t196 (!t194) a0_0 a0_1))))))) else (mooringslaw09_MapTells.j0 k a1 t195 t196 true a0_0 a0_1))))) = some r := H
  have A12 := Aside0.mk A120
  clear A120
  replace H := Option.bind_eq_some_iff.mp H
  obtain ⟨t194, A130, H⟩ := H
  replace H : ((mooringsref09_May.f k a0_0 a0_1).bind fun t195 => ((mooringsref09_Has.f k a0_0 a0_1 a1).bind fun t196 => (if t163 = true then (if (!(t164 == t168) || (!(t165 == t169))) = true then (mooringslaw09_MapTells.j0 k a1 t195 t196 true a0_0 a0_1) else (if (t166 != t170) = true then (mooringslaw09_MapTells.j0 k a1 t195 t196 true a0_0 a0_1) else (if (!(t172 == t176) || (!(t173 == t177))) = true then (mooringslaw09_MapTells.j0 k a1 t195 t196 true a0_0 a0_1) else (if (t174 != t178) = true then (mooringslaw09_MapTells.j0 k a1 t195 t196 true a0_0 a0_1) else (if (!(t180 == t184) || (!(t181 == t185))) = true then (mooringslaw09_MapTells.j0 k a1 t195 t196 true a0_0 a0_1) else (if (t182 != t186) = true then (mooringslaw09_MapTells.j0 k a1 t195 t196 true a0_0 a0_1) else (mooringslaw09_MapTells.j0 k a1 t195 t196 (!t194) a0_0 a0_1))))))) else (mooringslaw09_MapTells.j0 k a1 t195 t196 true a0_0 a0_1)))) = some r := H
  have A13 := Aside0.mk A130
  clear A130
  replace H := Option.bind_eq_some_iff.mp H
  obtain ⟨t195, A140, H⟩ := H
  replace H : ((mooringsref09_Has.f k a0_0 a0_1 a1).bind fun t196 => (if t163 = true then (if (!(t164 == t168) || (!(t165 == t169))) = true then (mooringslaw09_MapTells.j0 k a1 t195 t196 true a0_0 a0_1) else (if (t166 != t170) = true then (mooringslaw09_MapTells.j0 k a1 t195 t196 true a0_0 a0_1) else (if (!(t172 == t176) || (!(t173 == t177))) = true then (mooringslaw09_MapTells.j0 k a1 t195 t196 true a0_0 a0_1) else (if (t174 != t178) = true then (mooringslaw09_MapTells.j0 k a1 t195 t196 true a0_0 a0_1) else (if (!(t180 == t184) || (!(t181 == t185))) = true then (mooringslaw09_MapTells.j0 k a1 t195 t196 true a0_0 a0_1) else (if (t182 != t186) = true then (mooringslaw09_MapTells.j0 k a1 t195 t196 true a0_0 a0_1) else (mooringslaw09_MapTells.j0 k a1 t195 t196 (!t194) a0_0 a0_1))))))) else (mooringslaw09_MapTells.j0 k a1 t195 t196 true a0_0 a0_1))) = some r := H
  have A14 := Aside0.mk A140
  clear A140
  replace H := Option.bind_eq_some_iff.mp H
  obtain ⟨t196, A150, H⟩ := H
  replace H : (if t163 = true then (if (!(t164 == t168) || (!(t165 == t169))) = true then (mooringslaw09_MapTells.j0 k a1 t195 t196 true a0_0 a0_1) else (if (t166 != t170) = true then (mooringslaw09_MapTells.j0 k a1 t195 t196 true a0_0 a0_1) else (if (!(t172 == t176) || (!(t173 == t177))) = true then (mooringslaw09_MapTells.j0 k a1 t195 t196 true a0_0 a0_1) else (if (t174 != t178) = true then (mooringslaw09_MapTells.j0 k a1 t195 t196 true a0_0 a0_1) else (if (!(t180 == t184) || (!(t181 == t185))) = true then (mooringslaw09_MapTells.j0 k a1 t195 t196 true a0_0 a0_1) else (if (t182 != t186) = true then (mooringslaw09_MapTells.j0 k a1 t195 t196 true a0_0 a0_1) else (mooringslaw09_MapTells.j0 k a1 t195 t196 (!t194) a0_0 a0_1))))))) else (mooringslaw09_MapTells.j0 k a1 t195 t196 true a0_0 a0_1)) = some r := H
  have A15 := Aside0.mk A150
  clear A150
  have HC16 := Aside0.mk H
  clear H
  go_enter Tryd.func6, Tryd.ntmps6
  try go_wp2_with (first | ((with_reducible refine gate_dst (N := 3) rfl ?_); refine box_event ?hg (N := 3) ?hd (cs := #[.int .i64 a0_0, .int .i64 a0_1]) (t := 23) ?hr ?_; (case hd => rfl); (case hg => rfl); (case hr => first | (go_simp; done) | (go_simp; rfl)); intro gb162 hg w17 hbox hb; have n0_ := Aside0.mk (below_step (by repeat (first | (with_reducible first | exact HB.out | apply below_alloc | apply pw_below_drewN | apply below_drew1) | exact HB.out)) hb); have n1_ := Aside0.mk (hbox); have n2_ := Aside0.mk ((by rw [hg]; exact (below_size (by repeat (first | (with_reducible first | exact HB.out | apply below_alloc | apply pw_below_drewN | apply below_drew1) | exact HB.out))) : w.heap.size ≤ gb162)); have n3_ := Aside0.mk ((by rw [hg]; exact (below_size (by repeat (first | (with_reducible first | exact HB.out | apply below_alloc | apply pw_below_drewN | apply below_drew1) | exact HB.out))) : w.heap.size ≤ gb162)); clear HB; have HB := n0_; have BK162 := n1_; have GW162 := n2_; have GE162 := n3_; clear n0_ n1_ n2_ n3_; clear hb hbox hg) | ((with_reducible refine gate_callee (f := 9) rfl ?_); refine goesL_ (some 23) rfl rfl Tryd.func9 (by kernel_rfl) rfl #[] rfl (by (try simp only [List.map_toArray, List.map_cons, List.map_nil]); first | done | rfl | (simp only [List.length_drop, List.length_take]; rfl)) ?_; (with_reducible refine (mooringslaw09_awake.calls  t163 _ A4.out (Dev.laid_below HT.out (by repeat (first | (with_reducible first | exact HB.out | apply below_alloc | apply pw_below_drewN | apply below_drew1 | refine below_set ?_ GE162.out) | exact HB.out)))).mono ?_); rintro e w18 ⟨rfl, hb⟩; refine ⟨_, rfl, ?_⟩; have n0_ := Aside0.mk (blk_below (g := gb162) (o := .cells #[.int .i64 a0_0, .int .i64 a0_1] 23 (0, 0)) (by (with_reducible repeat (first | refine blk_drewN ?_ _ | refine blk_drew ?_ | refine blk_alloc ?_ _)); exact BK162.out) hb); have n1_ := Aside0.mk (below_step (by repeat (first | (with_reducible first | exact HB.out | apply below_alloc | apply pw_below_drewN | apply below_drew1 | refine below_set ?_ GE162.out) | exact HB.out)) hb); clear BK162; clear HB; have BK162 := n0_; have HB := n1_; clear n0_ n1_; (try clear hb); (try clear hb2); (try clear hk); (try clear hi); have hcz19_0 : w18.cell? ⟨gb162, 0, none⟩ = some (.int .i64 a0_0) := (blk_cell BK162.out 0).trans rfl; have hcz19_1 : w18.cell? ⟨gb162, 1, none⟩ = some (.int .i64 a0_1) := (blk_cell BK162.out 1).trans rfl; have hfz19_0 := blk_frozen BK162.out 0; have hfz19_1 := blk_frozen BK162.out 1) | ((with_reducible refine gate_callee (f := 15) rfl ?_); refine goesL_ (some 27) rfl rfl Tryd.func15 (by kernel_rfl) rfl #[.agg #[.int .i64 a0_0, .int .i64 a0_1], .int .i64 a1] rfl (by (try simp only [List.map_toArray, List.map_cons, List.map_nil]); first | done | rfl | (simp only [List.length_drop, List.length_take]; rfl)) ?_; (with_reducible refine (bitmap_Take.calls a0_0 a0_1 a1 t164 t165 t166 _ A5.out).mono ?_); rintro e w20 ⟨rfl, hb⟩; refine ⟨_, rfl, ?_⟩; have n0_ := Aside0.mk (blk_below (g := gb162) (o := .cells #[.int .i64 a0_0, .int .i64 a0_1] 23 (0, 0)) (by (with_reducible repeat (first | refine blk_drewN ?_ _ | refine blk_drew ?_ | refine blk_alloc ?_ _)); exact BK162.out) hb); have n1_ := Aside0.mk (below_step (by repeat (first | (with_reducible first | exact HB.out | apply below_alloc | apply pw_below_drewN | apply below_drew1 | refine below_set ?_ GE162.out) | exact HB.out)) hb); clear BK162; clear HB; have BK162 := n0_; have HB := n1_; clear n0_ n1_; (try clear hb); (try clear hb2); (try clear hk); (try clear hi)) | ((with_reducible refine gate_dst (N := 8) rfl ?_); refine box_event ?hg (N := 8) ?hd (cs := #[.int .i64 0, .int .i64 0]) (t := 23) ?hr ?_; (case hd => rfl); (case hg => rfl); (case hr => first | (go_simp; done) | (go_simp; rfl)); intro gb167 hg w21 hbox hb; have n0_ := Aside0.mk (blk_below (g := gb162) (o := .cells #[.int .i64 a0_0, .int .i64 a0_1] 23 (0, 0)) (by (with_reducible repeat (first | refine blk_drewN ?_ _ | refine blk_drew ?_ | refine blk_alloc ?_ _)); exact BK162.out) hb); have n1_ := Aside0.mk (below_step (by repeat (first | (with_reducible first | exact HB.out | apply below_alloc | apply pw_below_drewN | apply below_drew1 | refine below_set ?_ GE162.out) | exact HB.out)) hb); have n2_ := Aside0.mk (hbox); have n3_ := Aside0.mk ((by rw [hg]; exact (below_size (by repeat (first | (with_reducible first | exact HB.out | apply below_alloc | apply pw_below_drewN | apply below_drew1 | refine below_set ?_ GE162.out) | exact HB.out))) : w.heap.size ≤ gb167)); have n4_ := Aside0.mk ((by rw [hg]; exact (below_size (by repeat (first | (with_reducible first | exact HB.out | apply below_alloc | apply pw_below_drewN | apply below_drew1 | refine below_set ?_ GE162.out) | exact HB.out))) : w.heap.size ≤ gb167)); have n5_ := Aside0.mk ((by rw [hg]; exact Nat.ne_of_lt (blk_lt (g := gb162) (o := .cells #[.int .i64 a0_0, .int .i64 a0_1] 23 (0, 0)) (by (with_reducible repeat (first | refine blk_drewN ?_ _ | refine blk_drew ?_ | refine blk_alloc ?_ _)); exact BK162.out)) : gb162 ≠ gb167)); have n6_ := Aside0.mk ((by rw [hg]; exact Nat.ne_of_gt (blk_lt (g := gb162) (o := .cells #[.int .i64 a0_0, .int .i64 a0_1] 23 (0, 0)) (by (with_reducible repeat (first | refine blk_drewN ?_ _ | refine blk_drew ?_ | refine blk_alloc ?_ _)); exact BK162.out)) : gb167 ≠ gb162)); clear BK162; clear HB; have BK162 := n0_; have HB := n1_; have BK167 := n2_; have GW167 := n3_; have GE167 := n4_; have NB162_167 := n5_; have NB167_162 := n6_; clear n0_ n1_ n2_ n3_ n4_ n5_ n6_; clear hb hbox hg; have hnb22 := NB167_162.out; have hnc22 := NB162_167.out; have hcz23_0 : w21.cell? ⟨gb167, 0, none⟩ = some (.int .i64 0) := (blk_cell BK167.out 0).trans rfl; have hcz23_1 : w21.cell? ⟨gb167, 1, none⟩ = some (.int .i64 0) := (blk_cell BK167.out 1).trans rfl; have hfz23_0 := blk_frozen BK167.out 0; have hfz23_1 := blk_frozen BK167.out 1; have hcz24_0 : w21.cell? ⟨gb162, 0, none⟩ = some (.int .i64 a0_0) := (blk_cell BK162.out 0).trans rfl; have hcz24_1 : w21.cell? ⟨gb162, 1, none⟩ = some (.int .i64 a0_1) := (blk_cell BK162.out 1).trans rfl; have hfz24_0 := blk_frozen BK162.out 0; have hfz24_1 := blk_frozen BK162.out 1) | ((with_reducible refine gate_callee (f := 17) rfl ?_); refine goesL_ (some 33) rfl rfl Tryd.func17 (by kernel_rfl) rfl #[.agg #[.int .i64 a0_0, .int .i64 a0_1], .int .i64 a1] rfl (by (try simp only [List.map_toArray, List.map_cons, List.map_nil]); first | done | rfl | (simp only [List.length_drop, List.length_take]; rfl)) ?_; (with_reducible refine (mooringsref09_Take.calls k a0_0 a0_1 a1 t168 t169 t170 _ A6.out).mono ?_); rintro e w25 ⟨rfl, hb⟩; refine ⟨_, rfl, ?_⟩; have n0_ := Aside0.mk (blk_below (g := gb162) (o := .cells #[.int .i64 a0_0, .int .i64 a0_1] 23 (0, 0)) (by (with_reducible repeat (first | refine blk_drewN ?_ _ | refine blk_drew ?_ | refine blk_alloc ?_ _)); refine blk_far ?_ NB162_167.out _; (with_reducible repeat (first | refine blk_drewN ?_ _ | refine blk_drew ?_ | refine blk_alloc ?_ _)); refine blk_far ?_ NB162_167.out _; (with_reducible repeat (first | refine blk_drewN ?_ _ | refine blk_drew ?_ | refine blk_alloc ?_ _)); exact BK162.out) hb); have n1_ := Aside0.mk (blk_below (g := gb167) (o := .cells #[.int .i64 t164, .int .i64 t165] 23 (0, 0)) (by (with_reducible repeat (first | refine blk_drewN ?_ _ | refine blk_drew ?_ | refine blk_alloc ?_ _)); refine blk_put (cs := #[.int .i64 t164, .int .i64 0]) ?_ 1 _ rfl; (with_reducible repeat (first | refine blk_drewN ?_ _ | refine blk_drew ?_ | refine blk_alloc ?_ _)); refine blk_put (cs := #[.int .i64 0, .int .i64 0]) ?_ 0 _ rfl; (with_reducible repeat (first | refine blk_drewN ?_ _ | refine blk_drew ?_ | refine blk_alloc ?_ _)); exact BK167.out) hb); have n2_ := Aside0.mk (below_step (by repeat (first | (with_reducible first | exact HB.out | apply below_alloc | apply pw_below_drewN | apply below_drew1 | refine below_set ?_ GE162.out | refine below_set ?_ GE167.out) | exact HB.out)) hb); clear BK162; clear BK167; clear HB; have BK162 := n0_; have BK167 := n1_; have HB := n2_; clear n0_ n1_ n2_; (try clear hb); (try clear hb2); (try clear hk); (try clear hi)) | ((with_reducible refine gate_dst (N := 10) rfl ?_); refine box_event ?hg (N := 10) ?hd (cs := #[.int .i64 0, .int .i64 0]) (t := 23) ?hr ?_; (case hd => rfl); (case hg => rfl); (case hr => first | (go_simp; done) | (go_simp; rfl)); intro gb171 hg w26 hbox hb; have n0_ := Aside0.mk (blk_below (g := gb162) (o := .cells #[.int .i64 a0_0, .int .i64 a0_1] 23 (0, 0)) (by (with_reducible repeat (first | refine blk_drewN ?_ _ | refine blk_drew ?_ | refine blk_alloc ?_ _)); exact BK162.out) hb); have n1_ := Aside0.mk (blk_below (g := gb167) (o := .cells #[.int .i64 t164, .int .i64 t165] 23 (0, 0)) (by (with_reducible repeat (first | refine blk_drewN ?_ _ | refine blk_drew ?_ | refine blk_alloc ?_ _)); exact BK167.out) hb); have n2_ := Aside0.mk (below_step (by repeat (first | (with_reducible first | exact HB.out | apply below_alloc | apply pw_below_drewN | apply below_drew1 | refine below_set ?_ GE162.out | refine below_set ?_ GE167.out) | exact HB.out)) hb); have n3_ := Aside0.mk (hbox); have n4_ := Aside0.mk ((by rw [hg]; exact (below_size (by repeat (first | (with_reducible first | exact HB.out | apply below_alloc | apply pw_below_drewN | apply below_drew1 | refine below_set ?_ GE162.out | refine below_set ?_ GE167.out) | exact HB.out))) : w.heap.size ≤ gb171)); have n5_ := Aside0.mk ((by rw [hg]; exact (below_size (by repeat (first | (with_reducible first | exact HB.out | apply below_alloc | apply pw_below_drewN | apply below_drew1 | refine below_set ?_ GE162.out | refine below_set ?_ GE167.out) | exact HB.out))) : w.heap.size ≤ gb171)); have n6_ := Aside0.mk ((by rw [hg]; exact Nat.ne_of_lt (blk_lt (g := gb162) (o := .cells #[.int .i64 a0_0, .int .i64 a0_1] 23 (0, 0)) (by (with_reducible repeat (first | refine blk_drewN ?_ _ | refine blk_drew ?_ | refine blk_alloc ?_ _)); exact BK162.out)) : gb162 ≠ gb171)); have n7_ := Aside0.mk ((by rw [hg]; exact Nat.ne_of_gt (blk_lt (g := gb162) (o := .cells #[.int .i64 a0_0, .int .i64 a0_1] 23 (0, 0)) (by (with_reducible repeat (first | refine blk_drewN ?_ _ | refine blk_drew ?_ | refine blk_alloc ?_ _)); exact BK162.out)) : gb171 ≠ gb162)); have n8_ := Aside0.mk ((by rw [hg]; exact Nat.ne_of_lt (blk_lt (g := gb167) (o := .cells #[.int .i64 t164, .int .i64 t165] 23 (0, 0)) (by (with_reducible repeat (first | refine blk_drewN ?_ _ | refine blk_drew ?_ | refine blk_alloc ?_ _)); exact BK167.out)) : gb167 ≠ gb171)); have n9_ := Aside0.mk ((by rw [hg]; exact Nat.ne_of_gt (blk_lt (g := gb167) (o := .cells #[.int .i64 t164, .int .i64 t165] 23 (0, 0)) (by (with_reducible repeat (first | refine blk_drewN ?_ _ | refine blk_drew ?_ | refine blk_alloc ?_ _)); exact BK167.out)) : gb171 ≠ gb167)); clear BK162; clear BK167; clear HB; have BK162 := n0_; have BK167 := n1_; have HB := n2_; have BK171 := n3_; have GW171 := n4_; have GE171 := n5_; have NB162_171 := n6_; have NB171_162 := n7_; have NB167_171 := n8_; have NB171_167 := n9_; clear n0_ n1_ n2_ n3_ n4_ n5_ n6_ n7_ n8_ n9_; clear hb hbox hg; have hnb27 := NB171_162.out; have hnc27 := NB162_171.out; have hnb28 := NB171_167.out; have hnc28 := NB167_171.out; have hcz29_0 : w26.cell? ⟨gb171, 0, none⟩ = some (.int .i64 0) := (blk_cell BK171.out 0).trans rfl; have hcz29_1 : w26.cell? ⟨gb171, 1, none⟩ = some (.int .i64 0) := (blk_cell BK171.out 1).trans rfl; have hfz29_0 := blk_frozen BK171.out 0; have hfz29_1 := blk_frozen BK171.out 1; have hcz30_0 : w26.cell? ⟨gb162, 0, none⟩ = some (.int .i64 a0_0) := (blk_cell BK162.out 0).trans rfl; have hcz30_1 : w26.cell? ⟨gb162, 1, none⟩ = some (.int .i64 a0_1) := (blk_cell BK162.out 1).trans rfl; have hfz30_0 := blk_frozen BK162.out 0; have hfz30_1 := blk_frozen BK162.out 1) | ((with_reducible refine gate_callee (f := 18) rfl ?_); refine goesL_ (some 39) rfl rfl Tryd.func18 (by kernel_rfl) rfl #[.agg #[.int .i64 a0_0, .int .i64 a0_1], .int .i64 a1] rfl (by (try simp only [List.map_toArray, List.map_cons, List.map_nil]); first | done | rfl | (simp only [List.length_drop, List.length_take]; rfl)) ?_; (with_reducible refine (bitmap_Give.calls a0_0 a0_1 a1 t172 t173 t174 _ A7.out).mono ?_); rintro e w31 ⟨rfl, hb⟩; refine ⟨_, rfl, ?_⟩; have n0_ := Aside0.mk (blk_below (g := gb162) (o := .cells #[.int .i64 a0_0, .int .i64 a0_1] 23 (0, 0)) (by (with_reducible repeat (first | refine blk_drewN ?_ _ | refine blk_drew ?_ | refine blk_alloc ?_ _)); refine blk_far ?_ NB162_171.out _; (with_reducible repeat (first | refine blk_drewN ?_ _ | refine blk_drew ?_ | refine blk_alloc ?_ _)); refine blk_far ?_ NB162_171.out _; (with_reducible repeat (first | refine blk_drewN ?_ _ | refine blk_drew ?_ | refine blk_alloc ?_ _)); exact BK162.out) hb); have n1_ := Aside0.mk (blk_below (g := gb167) (o := .cells #[.int .i64 t164, .int .i64 t165] 23 (0, 0)) (by (with_reducible repeat (first | refine blk_drewN ?_ _ | refine blk_drew ?_ | refine blk_alloc ?_ _)); refine blk_far ?_ NB167_171.out _; (with_reducible repeat (first | refine blk_drewN ?_ _ | refine blk_drew ?_ | refine blk_alloc ?_ _)); refine blk_far ?_ NB167_171.out _; (with_reducible repeat (first | refine blk_drewN ?_ _ | refine blk_drew ?_ | refine blk_alloc ?_ _)); exact BK167.out) hb); have n2_ := Aside0.mk (blk_below (g := gb171) (o := .cells #[.int .i64 t168, .int .i64 t169] 23 (0, 0)) (by (with_reducible repeat (first | refine blk_drewN ?_ _ | refine blk_drew ?_ | refine blk_alloc ?_ _)); refine blk_put (cs := #[.int .i64 t168, .int .i64 0]) ?_ 1 _ rfl; (with_reducible repeat (first | refine blk_drewN ?_ _ | refine blk_drew ?_ | refine blk_alloc ?_ _)); refine blk_put (cs := #[.int .i64 0, .int .i64 0]) ?_ 0 _ rfl; (with_reducible repeat (first | refine blk_drewN ?_ _ | refine blk_drew ?_ | refine blk_alloc ?_ _)); exact BK171.out) hb); have n3_ := Aside0.mk (below_step (by repeat (first | (with_reducible first | exact HB.out | apply below_alloc | apply pw_below_drewN | apply below_drew1 | refine below_set ?_ GE162.out | refine below_set ?_ GE167.out | refine below_set ?_ GE171.out) | exact HB.out)) hb); clear BK162; clear BK167; clear BK171; clear HB; have BK162 := n0_; have BK167 := n1_; have BK171 := n2_; have HB := n3_; clear n0_ n1_ n2_ n3_; (try clear hb); (try clear hb2); (try clear hk); (try clear hi)) | ((with_reducible refine gate_dst (N := 12) rfl ?_); refine box_event ?hg (N := 12) ?hd (cs := #[.int .i64 0, .int .i64 0]) (t := 23) ?hr ?_; (case hd => rfl); (case hg => rfl); (case hr => first | (go_simp; done) | (go_simp; rfl)); intro gb175 hg w32 hbox hb; have n0_ := Aside0.mk (blk_below (g := gb162) (o := .cells #[.int .i64 a0_0, .int .i64 a0_1] 23 (0, 0)) (by (with_reducible repeat (first | refine blk_drewN ?_ _ | refine blk_drew ?_ | refine blk_alloc ?_ _)); exact BK162.out) hb); have n1_ := Aside0.mk (blk_below (g := gb167) (o := .cells #[.int .i64 t164, .int .i64 t165] 23 (0, 0)) (by (with_reducible repeat (first | refine blk_drewN ?_ _ | refine blk_drew ?_ | refine blk_alloc ?_ _)); exact BK167.out) hb); have n2_ := Aside0.mk (blk_below (g := gb171) (o := .cells #[.int .i64 t168, .int .i64 t169] 23 (0, 0)) (by (with_reducible repeat (first | refine blk_drewN ?_ _ | refine blk_drew ?_ | refine blk_alloc ?_ _)); exact BK171.out) hb); have n3_ := Aside0.mk (below_step (by repeat (first | (with_reducible first | exact HB.out | apply below_alloc | apply pw_below_drewN | apply below_drew1 | refine below_set ?_ GE162.out | refine below_set ?_ GE167.out | refine below_set ?_ GE171.out) | exact HB.out)) hb); have n4_ := Aside0.mk (hbox); have n5_ := Aside0.mk ((by rw [hg]; exact (below_size (by repeat (first | (with_reducible first | exact HB.out | apply below_alloc | apply pw_below_drewN | apply below_drew1 | refine below_set ?_ GE162.out | refine below_set ?_ GE167.out | refine below_set ?_ GE171.out) | exact HB.out))) : w.heap.size ≤ gb175)); have n6_ := Aside0.mk ((by rw [hg]; exact (below_size (by repeat (first | (with_reducible first | exact HB.out | apply below_alloc | apply pw_below_drewN | apply below_drew1 | refine below_set ?_ GE162.out | refine below_set ?_ GE167.out | refine below_set ?_ GE171.out) | exact HB.out))) : w.heap.size ≤ gb175)); have n7_ := Aside0.mk ((by rw [hg]; exact Nat.ne_of_lt (blk_lt (g := gb162) (o := .cells #[.int .i64 a0_0, .int .i64 a0_1] 23 (0, 0)) (by (with_reducible repeat (first | refine blk_drewN ?_ _ | refine blk_drew ?_ | refine blk_alloc ?_ _)); exact BK162.out)) : gb162 ≠ gb175)); have n8_ := Aside0.mk ((by rw [hg]; exact Nat.ne_of_gt (blk_lt (g := gb162) (o := .cells #[.int .i64 a0_0, .int .i64 a0_1] 23 (0, 0)) (by (with_reducible repeat (first | refine blk_drewN ?_ _ | refine blk_drew ?_ | refine blk_alloc ?_ _)); exact BK162.out)) : gb175 ≠ gb162)); have n9_ := Aside0.mk ((by rw [hg]; exact Nat.ne_of_lt (blk_lt (g := gb167) (o := .cells #[.int .i64 t164, .int .i64 t165] 23 (0, 0)) (by (with_reducible repeat (first | refine blk_drewN ?_ _ | refine blk_drew ?_ | refine blk_alloc ?_ _)); exact BK167.out)) : gb167 ≠ gb175)); have n10_ := Aside0.mk ((by rw [hg]; exact Nat.ne_of_gt (blk_lt (g := gb167) (o := .cells #[.int .i64 t164, .int .i64 t165] 23 (0, 0)) (by (with_reducible repeat (first | refine blk_drewN ?_ _ | refine blk_drew ?_ | refine blk_alloc ?_ _)); exact BK167.out)) : gb175 ≠ gb167)); have n11_ := Aside0.mk ((by rw [hg]; exact Nat.ne_of_lt (blk_lt (g := gb171) (o := .cells #[.int .i64 t168, .int .i64 t169] 23 (0, 0)) (by (with_reducible repeat (first | refine blk_drewN ?_ _ | refine blk_drew ?_ | refine blk_alloc ?_ _)); exact BK171.out)) : gb171 ≠ gb175)); have n12_ := Aside0.mk ((by rw [hg]; exact Nat.ne_of_gt (blk_lt (g := gb171) (o := .cells #[.int .i64 t168, .int .i64 t169] 23 (0, 0)) (by (with_reducible repeat (first | refine blk_drewN ?_ _ | refine blk_drew ?_ | refine blk_alloc ?_ _)); exact BK171.out)) : gb175 ≠ gb171)); clear BK162; clear BK167; clear BK171; clear HB; have BK162 := n0_; have BK167 := n1_; have BK171 := n2_; have HB := n3_; have BK175 := n4_; have GW175 := n5_; have GE175 := n6_; have NB162_175 := n7_; have NB175_162 := n8_; have NB167_175 := n9_; have NB175_167 := n10_; have NB171_175 := n11_; have NB175_171 := n12_; clear n0_ n1_ n2_ n3_ n4_ n5_ n6_ n7_ n8_ n9_ n10_ n11_ n12_; clear hb hbox hg; have hnb33 := NB175_162.out; have hnc33 := NB162_175.out; have hnb34 := NB175_167.out; have hnc34 := NB167_175.out; have hnb35 := NB175_171.out; have hnc35 := NB171_175.out; have hcz36_0 : w32.cell? ⟨gb175, 0, none⟩ = some (.int .i64 0) := (blk_cell BK175.out 0).trans rfl; have hcz36_1 : w32.cell? ⟨gb175, 1, none⟩ = some (.int .i64 0) := (blk_cell BK175.out 1).trans rfl; have hfz36_0 := blk_frozen BK175.out 0; have hfz36_1 := blk_frozen BK175.out 1; have hcz37_0 : w32.cell? ⟨gb162, 0, none⟩ = some (.int .i64 a0_0) := (blk_cell BK162.out 0).trans rfl; have hcz37_1 : w32.cell? ⟨gb162, 1, none⟩ = some (.int .i64 a0_1) := (blk_cell BK162.out 1).trans rfl; have hfz37_0 := blk_frozen BK162.out 0; have hfz37_1 := blk_frozen BK162.out 1) | ((with_reducible refine gate_callee (f := 19) rfl ?_); refine goesL_ (some 45) rfl rfl Tryd.func19 (by kernel_rfl) rfl #[.agg #[.int .i64 a0_0, .int .i64 a0_1], .int .i64 a1] rfl (by (try simp only [List.map_toArray, List.map_cons, List.map_nil]); first | done | rfl | (simp only [List.length_drop, List.length_take]; rfl)) ?_; (with_reducible refine (mooringsref09_Give.calls k a0_0 a0_1 a1 t176 t177 t178 _ A8.out).mono ?_); rintro e w38 ⟨rfl, hb⟩; refine ⟨_, rfl, ?_⟩; have n0_ := Aside0.mk (blk_below (g := gb162) (o := .cells #[.int .i64 a0_0, .int .i64 a0_1] 23 (0, 0)) (by (with_reducible repeat (first | refine blk_drewN ?_ _ | refine blk_drew ?_ | refine blk_alloc ?_ _)); refine blk_far ?_ NB162_175.out _; (with_reducible repeat (first | refine blk_drewN ?_ _ | refine blk_drew ?_ | refine blk_alloc ?_ _)); refine blk_far ?_ NB162_175.out _; (with_reducible repeat (first | refine blk_drewN ?_ _ | refine blk_drew ?_ | refine blk_alloc ?_ _)); exact BK162.out) hb); have n1_ := Aside0.mk (blk_below (g := gb167) (o := .cells #[.int .i64 t164, .int .i64 t165] 23 (0, 0)) (by (with_reducible repeat (first | refine blk_drewN ?_ _ | refine blk_drew ?_ | refine blk_alloc ?_ _)); refine blk_far ?_ NB167_175.out _; (with_reducible repeat (first | refine blk_drewN ?_ _ | refine blk_drew ?_ | refine blk_alloc ?_ _)); refine blk_far ?_ NB167_175.out _; (with_reducible repeat (first | refine blk_drewN ?_ _ | refine blk_drew ?_ | refine blk_alloc ?_ _)); exact BK167.out) hb); have n2_ := Aside0.mk (blk_below (g := gb171) (o := .cells #[.int .i64 t168, .int .i64 t169] 23 (0, 0)) (by (with_reducible repeat (first | refine blk_drewN ?_ _ | refine blk_drew ?_ | refine blk_alloc ?_ _)); refine blk_far ?_ NB171_175.out _; (with_reducible repeat (first | refine blk_drewN ?_ _ | refine blk_drew ?_ | refine blk_alloc ?_ _)); refine blk_far ?_ NB171_175.out _; (with_reducible repeat (first | refine blk_drewN ?_ _ | refine blk_drew ?_ | refine blk_alloc ?_ _)); exact BK171.out) hb); have n3_ := Aside0.mk (blk_below (g := gb175) (o := .cells #[.int .i64 t172, .int .i64 t173] 23 (0, 0)) (by (with_reducible repeat (first | refine blk_drewN ?_ _ | refine blk_drew ?_ | refine blk_alloc ?_ _)); refine blk_put (cs := #[.int .i64 t172, .int .i64 0]) ?_ 1 _ rfl; (with_reducible repeat (first | refine blk_drewN ?_ _ | refine blk_drew ?_ | refine blk_alloc ?_ _)); refine blk_put (cs := #[.int .i64 0, .int .i64 0]) ?_ 0 _ rfl; (with_reducible repeat (first | refine blk_drewN ?_ _ | refine blk_drew ?_ | refine blk_alloc ?_ _)); exact BK175.out) hb); have n4_ := Aside0.mk (below_step (by repeat (first | (with_reducible first | exact HB.out | apply below_alloc | apply pw_below_drewN | apply below_drew1 | refine below_set ?_ GE162.out | refine below_set ?_ GE167.out | refine below_set ?_ GE171.out | refine below_set ?_ GE175.out) | exact HB.out)) hb); clear BK162; clear BK167; clear BK171; clear BK175; clear HB; have BK162 := n0_; have BK167 := n1_; have BK171 := n2_; have BK175 := n3_; have HB := n4_; clear n0_ n1_ n2_ n3_ n4_; (try clear hb); (try clear hb2); (try clear hk); (try clear hi)) | ((with_reducible refine gate_dst (N := 14) rfl ?_); refine box_event ?hg (N := 14) ?hd (cs := #[.int .i64 0, .int .i64 0]) (t := 23) ?hr ?_; (case hd => rfl); (case hg => rfl); (case hr => first | (go_simp; done) | (go_simp; rfl)); intro gb179 hg w39 hbox hb; have n0_ := Aside0.mk (blk_below (g := gb162) (o := .cells #[.int .i64 a0_0, .int .i64 a0_1] 23 (0, 0)) (by (with_reducible repeat (first | refine blk_drewN ?_ _ | refine blk_drew ?_ | refine blk_alloc ?_ _)); exact BK162.out) hb); have n1_ := Aside0.mk (blk_below (g := gb167) (o := .cells #[.int .i64 t164, .int .i64 t165] 23 (0, 0)) (by (with_reducible repeat (first | refine blk_drewN ?_ _ | refine blk_drew ?_ | refine blk_alloc ?_ _)); exact BK167.out) hb); have n2_ := Aside0.mk (blk_below (g := gb171) (o := .cells #[.int .i64 t168, .int .i64 t169] 23 (0, 0)) (by (with_reducible repeat (first | refine blk_drewN ?_ _ | refine blk_drew ?_ | refine blk_alloc ?_ _)); exact BK171.out) hb); have n3_ := Aside0.mk (blk_below (g := gb175) (o := .cells #[.int .i64 t172, .int .i64 t173] 23 (0, 0)) (by (with_reducible repeat (first | refine blk_drewN ?_ _ | refine blk_drew ?_ | refine blk_alloc ?_ _)); exact BK175.out) hb); have n4_ := Aside0.mk (below_step (by repeat (first | (with_reducible first | exact HB.out | apply below_alloc | apply pw_below_drewN | apply below_drew1 | refine below_set ?_ GE162.out | refine below_set ?_ GE167.out | refine below_set ?_ GE171.out | refine below_set ?_ GE175.out) | exact HB.out)) hb); have n5_ := Aside0.mk (hbox); have n6_ := Aside0.mk ((by rw [hg]; exact (below_size (by repeat (first | (with_reducible first | exact HB.out | apply below_alloc | apply pw_below_drewN | apply below_drew1 | refine below_set ?_ GE162.out | refine below_set ?_ GE167.out | refine below_set ?_ GE171.out | refine below_set ?_ GE175.out) | exact HB.out))) : w.heap.size ≤ gb179)); have n7_ := Aside0.mk ((by rw [hg]; exact (below_size (by repeat (first | (with_reducible first | exact HB.out | apply below_alloc | apply pw_below_drewN | apply below_drew1 | refine below_set ?_ GE162.out | refine below_set ?_ GE167.out | refine below_set ?_ GE171.out | refine below_set ?_ GE175.out) | exact HB.out))) : w.heap.size ≤ gb179)); have n8_ := Aside0.mk ((by rw [hg]; exact Nat.ne_of_lt (blk_lt (g := gb162) (o := .cells #[.int .i64 a0_0, .int .i64 a0_1] 23 (0, 0)) (by (with_reducible repeat (first | refine blk_drewN ?_ _ | refine blk_drew ?_ | refine blk_alloc ?_ _)); exact BK162.out)) : gb162 ≠ gb179)); have n9_ := Aside0.mk ((by rw [hg]; exact Nat.ne_of_gt (blk_lt (g := gb162) (o := .cells #[.int .i64 a0_0, .int .i64 a0_1] 23 (0, 0)) (by (with_reducible repeat (first | refine blk_drewN ?_ _ | refine blk_drew ?_ | refine blk_alloc ?_ _)); exact BK162.out)) : gb179 ≠ gb162)); have n10_ := Aside0.mk ((by rw [hg]; exact Nat.ne_of_lt (blk_lt (g := gb167) (o := .cells #[.int .i64 t164, .int .i64 t165] 23 (0, 0)) (by (with_reducible repeat (first | refine blk_drewN ?_ _ | refine blk_drew ?_ | refine blk_alloc ?_ _)); exact BK167.out)) : gb167 ≠ gb179)); have n11_ := Aside0.mk ((by rw [hg]; exact Nat.ne_of_gt (blk_lt (g := gb167) (o := .cells #[.int .i64 t164, .int .i64 t165] 23 (0, 0)) (by (with_reducible repeat (first | refine blk_drewN ?_ _ | refine blk_drew ?_ | refine blk_alloc ?_ _)); exact BK167.out)) : gb179 ≠ gb167)); have n12_ := Aside0.mk ((by rw [hg]; exact Nat.ne_of_lt (blk_lt (g := gb171) (o := .cells #[.int .i64 t168, .int .i64 t169] 23 (0, 0)) (by (with_reducible repeat (first | refine blk_drewN ?_ _ | refine blk_drew ?_ | refine blk_alloc ?_ _)); exact BK171.out)) : gb171 ≠ gb179)); have n13_ := Aside0.mk ((by rw [hg]; exact Nat.ne_of_gt (blk_lt (g := gb171) (o := .cells #[.int .i64 t168, .int .i64 t169] 23 (0, 0)) (by (with_reducible repeat (first | refine blk_drewN ?_ _ | refine blk_drew ?_ | refine blk_alloc ?_ _)); exact BK171.out)) : gb179 ≠ gb171)); have n14_ := Aside0.mk ((by rw [hg]; exact Nat.ne_of_lt (blk_lt (g := gb175) (o := .cells #[.int .i64 t172, .int .i64 t173] 23 (0, 0)) (by (with_reducible repeat (first | refine blk_drewN ?_ _ | refine blk_drew ?_ | refine blk_alloc ?_ _)); exact BK175.out)) : gb175 ≠ gb179)); have n15_ := Aside0.mk ((by rw [hg]; exact Nat.ne_of_gt (blk_lt (g := gb175) (o := .cells #[.int .i64 t172, .int .i64 t173] 23 (0, 0)) (by (with_reducible repeat (first | refine blk_drewN ?_ _ | refine blk_drew ?_ | refine blk_alloc ?_ _)); exact BK175.out)) : gb179 ≠ gb175)); clear BK162; clear BK167; clear BK171; clear BK175; clear HB; have BK162 := n0_; have BK167 := n1_; have BK171 := n2_; have BK175 := n3_; have HB := n4_; have BK179 := n5_; have GW179 := n6_; have GE179 := n7_; have NB162_179 := n8_; have NB179_162 := n9_; have NB167_179 := n10_; have NB179_167 := n11_; have NB171_179 := n12_; have NB179_171 := n13_; have NB175_179 := n14_; have NB179_175 := n15_; clear n0_ n1_ n2_ n3_ n4_ n5_ n6_ n7_ n8_ n9_ n10_ n11_ n12_ n13_ n14_ n15_; clear hb hbox hg; have hnb40 := NB179_162.out; have hnc40 := NB162_179.out; have hnb41 := NB179_167.out; have hnc41 := NB167_179.out; have hnb42 := NB179_171.out; have hnc42 := NB171_179.out; have hnb43 := NB179_175.out; have hnc43 := NB175_179.out; have hcz44_0 : w39.cell? ⟨gb179, 0, none⟩ = some (.int .i64 0) := (blk_cell BK179.out 0).trans rfl; have hcz44_1 : w39.cell? ⟨gb179, 1, none⟩ = some (.int .i64 0) := (blk_cell BK179.out 1).trans rfl; have hfz44_0 := blk_frozen BK179.out 0; have hfz44_1 := blk_frozen BK179.out 1) | ((with_reducible refine gate_callee (f := 16) rfl ?_); refine goesL_ (some 50) rfl rfl Tryd.func16 (by kernel_rfl) rfl #[.int .i64 a2] rfl (by (try simp only [List.map_toArray, List.map_cons, List.map_nil]); first | done | rfl | (simp only [List.length_drop, List.length_take]; rfl)) ?_; (with_reducible refine (bitmap_New.calls a2 t180 t181 t182 _ A9.out).mono ?_); rintro e w45 ⟨rfl, hb⟩; refine ⟨_, rfl, ?_⟩; have n0_ := Aside0.mk (blk_below (g := gb162) (o := .cells #[.int .i64 a0_0, .int .i64 a0_1] 23 (0, 0)) (by (with_reducible repeat (first | refine blk_drewN ?_ _ | refine blk_drew ?_ | refine blk_alloc ?_ _)); refine blk_far ?_ NB162_179.out _; (with_reducible repeat (first | refine blk_drewN ?_ _ | refine blk_drew ?_ | refine blk_alloc ?_ _)); refine blk_far ?_ NB162_179.out _; (with_reducible repeat (first | refine blk_drewN ?_ _ | refine blk_drew ?_ | refine blk_alloc ?_ _)); exact BK162.out) hb); have n1_ := Aside0.mk (blk_below (g := gb167) (o := .cells #[.int .i64 t164, .int .i64 t165] 23 (0, 0)) (by (with_reducible repeat (first | refine blk_drewN ?_ _ | refine blk_drew ?_ | refine blk_alloc ?_ _)); refine blk_far ?_ NB167_179.out _; (with_reducible repeat (first | refine blk_drewN ?_ _ | refine blk_drew ?_ | refine blk_alloc ?_ _)); refine blk_far ?_ NB167_179.out _; (with_reducible repeat (first | refine blk_drewN ?_ _ | refine blk_drew ?_ | refine blk_alloc ?_ _)); exact BK167.out) hb); have n2_ := Aside0.mk (blk_below (g := gb171) (o := .cells #[.int .i64 t168, .int .i64 t169] 23 (0, 0)) (by (with_reducible repeat (first | refine blk_drewN ?_ _ | refine blk_drew ?_ | refine blk_alloc ?_ _)); refine blk_far ?_ NB171_179.out _; (with_reducible repeat (first | refine blk_drewN ?_ _ | refine blk_drew ?_ | refine blk_alloc ?_ _)); refine blk_far ?_ NB171_179.out _; (with_reducible repeat (first | refine blk_drewN ?_ _ | refine blk_drew ?_ | refine blk_alloc ?_ _)); exact BK171.out) hb); have n3_ := Aside0.mk (blk_below (g := gb175) (o := .cells #[.int .i64 t172, .int .i64 t173] 23 (0, 0)) (by (with_reducible repeat (first | refine blk_drewN ?_ _ | refine blk_drew ?_ | refine blk_alloc ?_ _)); refine blk_far ?_ NB175_179.out _; (with_reducible repeat (first | refine blk_drewN ?_ _ | refine blk_drew ?_ | refine blk_alloc ?_ _)); refine blk_far ?_ NB175_179.out _; (with_reducible repeat (first | refine blk_drewN ?_ _ | refine blk_drew ?_ | refine blk_alloc ?_ _)); exact BK175.out) hb); have n4_ := Aside0.mk (blk_below (g := gb179) (o := .cells #[.int .i64 t176, .int .i64 t177] 23 (0, 0)) (by (with_reducible repeat (first | refine blk_drewN ?_ _ | refine blk_drew ?_ | refine blk_alloc ?_ _)); refine blk_put (cs := #[.int .i64 t176, .int .i64 0]) ?_ 1 _ rfl; (with_reducible repeat (first | refine blk_drewN ?_ _ | refine blk_drew ?_ | refine blk_alloc ?_ _)); refine blk_put (cs := #[.int .i64 0, .int .i64 0]) ?_ 0 _ rfl; (with_reducible repeat (first | refine blk_drewN ?_ _ | refine blk_drew ?_ | refine blk_alloc ?_ _)); exact BK179.out) hb); have n5_ := Aside0.mk (below_step (by repeat (first | (with_reducible first | exact HB.out | apply below_alloc | apply pw_below_drewN | apply below_drew1 | refine below_set ?_ GE162.out | refine below_set ?_ GE167.out | refine below_set ?_ GE171.out | refine below_set ?_ GE175.out | refine below_set ?_ GE179.out) | exact HB.out)) hb); clear BK162; clear BK167; clear BK171; clear BK175; clear BK179; clear HB; have BK162 := n0_; have BK167 := n1_; have BK171 := n2_; have BK175 := n3_; have BK179 := n4_; have HB := n5_; clear n0_ n1_ n2_ n3_ n4_ n5_; (try clear hb); (try clear hb2); (try clear hk); (try clear hi)) | ((with_reducible refine gate_dst (N := 16) rfl ?_); refine box_event ?hg (N := 16) ?hd (cs := #[.int .i64 0, .int .i64 0]) (t := 23) ?hr ?_; (case hd => rfl); (case hg => rfl); (case hr => first | (go_simp; done) | (go_simp; rfl)); intro gb183 hg w46 hbox hb; have n0_ := Aside0.mk (blk_below (g := gb162) (o := .cells #[.int .i64 a0_0, .int .i64 a0_1] 23 (0, 0)) (by (with_reducible repeat (first | refine blk_drewN ?_ _ | refine blk_drew ?_ | refine blk_alloc ?_ _)); exact BK162.out) hb); have n1_ := Aside0.mk (blk_below (g := gb167) (o := .cells #[.int .i64 t164, .int .i64 t165] 23 (0, 0)) (by (with_reducible repeat (first | refine blk_drewN ?_ _ | refine blk_drew ?_ | refine blk_alloc ?_ _)); exact BK167.out) hb); have n2_ := Aside0.mk (blk_below (g := gb171) (o := .cells #[.int .i64 t168, .int .i64 t169] 23 (0, 0)) (by (with_reducible repeat (first | refine blk_drewN ?_ _ | refine blk_drew ?_ | refine blk_alloc ?_ _)); exact BK171.out) hb); have n3_ := Aside0.mk (blk_below (g := gb175) (o := .cells #[.int .i64 t172, .int .i64 t173] 23 (0, 0)) (by (with_reducible repeat (first | refine blk_drewN ?_ _ | refine blk_drew ?_ | refine blk_alloc ?_ _)); exact BK175.out) hb); have n4_ := Aside0.mk (blk_below (g := gb179) (o := .cells #[.int .i64 t176, .int .i64 t177] 23 (0, 0)) (by (with_reducible repeat (first | refine blk_drewN ?_ _ | refine blk_drew ?_ | refine blk_alloc ?_ _)); exact BK179.out) hb); have n5_ := Aside0.mk (below_step (by repeat (first | (with_reducible first | exact HB.out | apply below_alloc | apply pw_below_drewN | apply below_drew1 | refine below_set ?_ GE162.out | refine below_set ?_ GE167.out | refine below_set ?_ GE171.out | refine below_set ?_ GE175.out | refine below_set ?_ GE179.out) | exact HB.out)) hb); have n6_ := Aside0.mk (hbox); have n7_ := Aside0.mk ((by rw [hg]; exact (below_size (by repeat (first | (with_reducible first | exact HB.out | apply below_alloc | apply pw_below_drewN | apply below_drew1 | refine below_set ?_ GE162.out | refine below_set ?_ GE167.out | refine below_set ?_ GE171.out | refine below_set ?_ GE175.out | refine below_set ?_ GE179.out) | exact HB.out))) : w.heap.size ≤ gb183)); have n8_ := Aside0.mk ((by rw [hg]; exact (below_size (by repeat (first | (with_reducible first | exact HB.out | apply below_alloc | apply pw_below_drewN | apply below_drew1 | refine below_set ?_ GE162.out | refine below_set ?_ GE167.out | refine below_set ?_ GE171.out | refine below_set ?_ GE175.out | refine below_set ?_ GE179.out) | exact HB.out))) : w.heap.size ≤ gb183)); have n9_ := Aside0.mk ((by rw [hg]; exact Nat.ne_of_lt (blk_lt (g := gb162) (o := .cells #[.int .i64 a0_0, .int .i64 a0_1] 23 (0, 0)) (by (with_reducible repeat (first | refine blk_drewN ?_ _ | refine blk_drew ?_ | refine blk_alloc ?_ _)); exact BK162.out)) : gb162 ≠ gb183)); have n10_ := Aside0.mk ((by rw [hg]; exact Nat.ne_of_gt (blk_lt (g := gb162) (o := .cells #[.int .i64 a0_0, .int .i64 a0_1] 23 (0, 0)) (by (with_reducible repeat (first | refine blk_drewN ?_ _ | refine blk_drew ?_ | refine blk_alloc ?_ _)); exact BK162.out)) : gb183 ≠ gb162)); have n11_ := Aside0.mk ((by rw [hg]; exact Nat.ne_of_lt (blk_lt (g := gb167) (o := .cells #[.int .i64 t164, .int .i64 t165] 23 (0, 0)) (by (with_reducible repeat (first | refine blk_drewN ?_ _ | refine blk_drew ?_ | refine blk_alloc ?_ _)); exact BK167.out)) : gb167 ≠ gb183)); have n12_ := Aside0.mk ((by rw [hg]; exact Nat.ne_of_gt (blk_lt (g := gb167) (o := .cells #[.int .i64 t164, .int .i64 t165] 23 (0, 0)) (by (with_reducible repeat (first | refine blk_drewN ?_ _ | refine blk_drew ?_ | refine blk_alloc ?_ _)); exact BK167.out)) : gb183 ≠ gb167)); have n13_ := Aside0.mk ((by rw [hg]; exact Nat.ne_of_lt (blk_lt (g := gb171) (o := .cells #[.int .i64 t168, .int .i64 t169] 23 (0, 0)) (by (with_reducible repeat (first | refine blk_drewN ?_ _ | refine blk_drew ?_ | refine blk_alloc ?_ _)); exact BK171.out)) : gb171 ≠ gb183)); have n14_ := Aside0.mk ((by rw [hg]; exact Nat.ne_of_gt (blk_lt (g := gb171) (o := .cells #[.int .i64 t168, .int .i64 t169] 23 (0, 0)) (by (with_reducible repeat (first | refine blk_drewN ?_ _ | refine blk_drew ?_ | refine blk_alloc ?_ _)); exact BK171.out)) : gb183 ≠ gb171)); have n15_ := Aside0.mk ((by rw [hg]; exact Nat.ne_of_lt (blk_lt (g := gb175) (o := .cells #[.int .i64 t172, .int .i64 t173] 23 (0, 0)) (by (with_reducible repeat (first | refine blk_drewN ?_ _ | refine blk_drew ?_ | refine blk_alloc ?_ _)); exact BK175.out)) : gb175 ≠ gb183)); have n16_ := Aside0.mk ((by rw [hg]; exact Nat.ne_of_gt (blk_lt (g := gb175) (o := .cells #[.int .i64 t172, .int .i64 t173] 23 (0, 0)) (by (with_reducible repeat (first | refine blk_drewN ?_ _ | refine blk_drew ?_ | refine blk_alloc ?_ _)); exact BK175.out)) : gb183 ≠ gb175)); have n17_ := Aside0.mk ((by rw [hg]; exact Nat.ne_of_lt (blk_lt (g := gb179) (o := .cells #[.int .i64 t176, .int .i64 t177] 23 (0, 0)) (by (with_reducible repeat (first | refine blk_drewN ?_ _ | refine blk_drew ?_ | refine blk_alloc ?_ _)); exact BK179.out)) : gb179 ≠ gb183)); have n18_ := Aside0.mk ((by rw [hg]; exact Nat.ne_of_gt (blk_lt (g := gb179) (o := .cells #[.int .i64 t176, .int .i64 t177] 23 (0, 0)) (by (with_reducible repeat (first | refine blk_drewN ?_ _ | refine blk_drew ?_ | refine blk_alloc ?_ _)); exact BK179.out)) : gb183 ≠ gb179)); clear BK162; clear BK167; clear BK171; clear BK175; clear BK179; clear HB; have BK162 := n0_; have BK167 := n1_; have BK171 := n2_; have BK175 := n3_; have BK179 := n4_; have HB := n5_; have BK183 := n6_; have GW183 := n7_; have GE183 := n8_; have NB162_183 := n9_; have NB183_162 := n10_; have NB167_183 := n11_; have NB183_167 := n12_; have NB171_183 := n13_; have NB183_171 := n14_; have NB175_183 := n15_; have NB183_175 := n16_; have NB179_183 := n17_; have NB183_179 := n18_; clear n0_ n1_ n2_ n3_ n4_ n5_ n6_ n7_ n8_ n9_ n10_ n11_ n12_ n13_ n14_ n15_ n16_ n17_ n18_; clear hb hbox hg; have hnb47 := NB183_162.out; have hnc47 := NB162_183.out; have hnb48 := NB183_167.out; have hnc48 := NB167_183.out; have hnb49 := NB183_171.out; have hnc49 := NB171_183.out; have hnb50 := NB183_175.out; have hnc50 := NB175_183.out; have hnb51 := NB183_179.out; have hnc51 := NB179_183.out; have hcz52_0 : w46.cell? ⟨gb183, 0, none⟩ = some (.int .i64 0) := (blk_cell BK183.out 0).trans rfl; have hcz52_1 : w46.cell? ⟨gb183, 1, none⟩ = some (.int .i64 0) := (blk_cell BK183.out 1).trans rfl; have hfz52_0 := blk_frozen BK183.out 0; have hfz52_1 := blk_frozen BK183.out 1) | ((with_reducible refine gate_callee (f := 20) rfl ?_); refine goesL_ (some 55) rfl rfl Tryd.func20 (by kernel_rfl) rfl #[.int .i64 a2] rfl (by (try simp only [List.map_toArray, List.map_cons, List.map_nil]); first | done | rfl | (simp only [List.length_drop, List.length_take]; rfl)) ?_; (with_reducible refine (mooringsref09_New.calls k a2 t184 t185 t186 _ A10.out).mono ?_); rintro e w53 ⟨rfl, hb⟩; refine ⟨_, rfl, ?_⟩; have n0_ := Aside0.mk (blk_below (g := gb162) (o := .cells #[.int .i64 a0_0, .int .i64 a0_1] 23 (0, 0)) (by (with_reducible repeat (first | refine blk_drewN ?_ _ | refine blk_drew ?_ | refine blk_alloc ?_ _)); refine blk_far ?_ NB162_183.out _; (with_reducible repeat (first | refine blk_drewN ?_ _ | refine blk_drew ?_ | refine blk_alloc ?_ _)); refine blk_far ?_ NB162_183.out _; (with_reducible repeat (first | refine blk_drewN ?_ _ | refine blk_drew ?_ | refine blk_alloc ?_ _)); exact BK162.out) hb); have n1_ := Aside0.mk (blk_below (g := gb167) (o := .cells #[.int .i64 t164, .int .i64 t165] 23 (0, 0)) (by (with_reducible repeat (first | refine blk_drewN ?_ _ | refine blk_drew ?_ | refine blk_alloc ?_ _)); refine blk_far ?_ NB167_183.out _; (with_reducible repeat (first | refine blk_drewN ?_ _ | refine blk_drew ?_ | refine blk_alloc ?_ _)); refine blk_far ?_ NB167_183.out _; (with_reducible repeat (first | refine blk_drewN ?_ _ | refine blk_drew ?_ | refine blk_alloc ?_ _)); exact BK167.out) hb); have n2_ := Aside0.mk (blk_below (g := gb171) (o := .cells #[.int .i64 t168, .int .i64 t169] 23 (0, 0)) (by (with_reducible repeat (first | refine blk_drewN ?_ _ | refine blk_drew ?_ | refine blk_alloc ?_ _)); refine blk_far ?_ NB171_183.out _; (with_reducible repeat (first | refine blk_drewN ?_ _ | refine blk_drew ?_ | refine blk_alloc ?_ _)); refine blk_far ?_ NB171_183.out _; (with_reducible repeat (first | refine blk_drewN ?_ _ | refine blk_drew ?_ | refine blk_alloc ?_ _)); exact BK171.out) hb); have n3_ := Aside0.mk (blk_below (g := gb175) (o := .cells #[.int .i64 t172, .int .i64 t173] 23 (0, 0)) (by (with_reducible repeat (first | refine blk_drewN ?_ _ | refine blk_drew ?_ | refine blk_alloc ?_ _)); refine blk_far ?_ NB175_183.out _; (with_reducible repeat (first | refine blk_drewN ?_ _ | refine blk_drew ?_ | refine blk_alloc ?_ _)); refine blk_far ?_ NB175_183.out _; (with_reducible repeat (first | refine blk_drewN ?_ _ | refine blk_drew ?_ | refine blk_alloc ?_ _)); exact BK175.out) hb); have n4_ := Aside0.mk (blk_below (g := gb179) (o := .cells #[.int .i64 t176, .int .i64 t177] 23 (0, 0)) (by (with_reducible repeat (first | refine blk_drewN ?_ _ | refine blk_drew ?_ | refine blk_alloc ?_ _)); refine blk_far ?_ NB179_183.out _; (with_reducible repeat (first | refine blk_drewN ?_ _ | refine blk_drew ?_ | refine blk_alloc ?_ _)); refine blk_far ?_ NB179_183.out _; (with_reducible repeat (first | refine blk_drewN ?_ _ | refine blk_drew ?_ | refine blk_alloc ?_ _)); exact BK179.out) hb); have n5_ := Aside0.mk (blk_below (g := gb183) (o := .cells #[.int .i64 t180, .int .i64 t181] 23 (0, 0)) (by (with_reducible repeat (first | refine blk_drewN ?_ _ | refine blk_drew ?_ | refine blk_alloc ?_ _)); refine blk_put (cs := #[.int .i64 t180, .int .i64 0]) ?_ 1 _ rfl; (with_reducible repeat (first | refine blk_drewN ?_ _ | refine blk_drew ?_ | refine blk_alloc ?_ _)); refine blk_put (cs := #[.int .i64 0, .int .i64 0]) ?_ 0 _ rfl; (with_reducible repeat (first | refine blk_drewN ?_ _ | refine blk_drew ?_ | refine blk_alloc ?_ _)); exact BK183.out) hb); have n6_ := Aside0.mk (below_step (by repeat (first | (with_reducible first | exact HB.out | apply below_alloc | apply pw_below_drewN | apply below_drew1 | refine below_set ?_ GE162.out | refine below_set ?_ GE167.out | refine below_set ?_ GE171.out | refine below_set ?_ GE175.out | refine below_set ?_ GE179.out | refine below_set ?_ GE183.out) | exact HB.out)) hb); clear BK162; clear BK167; clear BK171; clear BK175; clear BK179; clear BK183; clear HB; have BK162 := n0_; have BK167 := n1_; have BK171 := n2_; have BK175 := n3_; have BK179 := n4_; have BK183 := n5_; have HB := n6_; clear n0_ n1_ n2_ n3_ n4_ n5_ n6_; (try clear hb); (try clear hb2); (try clear hk); (try clear hi)) | ((with_reducible refine gate_dst (N := 18) rfl ?_); refine box_event ?hg (N := 18) ?hd (cs := #[.int .i64 0, .int .i64 0]) (t := 23) ?hr ?_; (case hd => rfl); (case hg => rfl); (case hr => first | (go_simp; done) | (go_simp; rfl)); intro gb187 hg w54 hbox hb; have n0_ := Aside0.mk (blk_below (g := gb162) (o := .cells #[.int .i64 a0_0, .int .i64 a0_1] 23 (0, 0)) (by (with_reducible repeat (first | refine blk_drewN ?_ _ | refine blk_drew ?_ | refine blk_alloc ?_ _)); exact BK162.out) hb); have n1_ := Aside0.mk (blk_below (g := gb167) (o := .cells #[.int .i64 t164, .int .i64 t165] 23 (0, 0)) (by (with_reducible repeat (first | refine blk_drewN ?_ _ | refine blk_drew ?_ | refine blk_alloc ?_ _)); exact BK167.out) hb); have n2_ := Aside0.mk (blk_below (g := gb171) (o := .cells #[.int .i64 t168, .int .i64 t169] 23 (0, 0)) (by (with_reducible repeat (first | refine blk_drewN ?_ _ | refine blk_drew ?_ | refine blk_alloc ?_ _)); exact BK171.out) hb); have n3_ := Aside0.mk (blk_below (g := gb175) (o := .cells #[.int .i64 t172, .int .i64 t173] 23 (0, 0)) (by (with_reducible repeat (first | refine blk_drewN ?_ _ | refine blk_drew ?_ | refine blk_alloc ?_ _)); exact BK175.out) hb); have n4_ := Aside0.mk (blk_below (g := gb179) (o := .cells #[.int .i64 t176, .int .i64 t177] 23 (0, 0)) (by (with_reducible repeat (first | refine blk_drewN ?_ _ | refine blk_drew ?_ | refine blk_alloc ?_ _)); exact BK179.out) hb); have n5_ := Aside0.mk (blk_below (g := gb183) (o := .cells #[.int .i64 t180, .int .i64 t181] 23 (0, 0)) (by (with_reducible repeat (first | refine blk_drewN ?_ _ | refine blk_drew ?_ | refine blk_alloc ?_ _)); exact BK183.out) hb); have n6_ := Aside0.mk (below_step (by repeat (first | (with_reducible first | exact HB.out | apply below_alloc | apply pw_below_drewN | apply below_drew1 | refine below_set ?_ GE162.out | refine below_set ?_ GE167.out | refine below_set ?_ GE171.out | refine below_set ?_ GE175.out | refine below_set ?_ GE179.out | refine below_set ?_ GE183.out) | exact HB.out)) hb); have n7_ := Aside0.mk (hbox); have n8_ := Aside0.mk ((by rw [hg]; exact (below_size (by repeat (first | (with_reducible first | exact HB.out | apply below_alloc | apply pw_below_drewN | apply below_drew1 | refine below_set ?_ GE162.out | refine below_set ?_ GE167.out | refine below_set ?_ GE171.out | refine below_set ?_ GE175.out | refine below_set ?_ GE179.out | refine below_set ?_ GE183.out) | exact HB.out))) : w.heap.size ≤ gb187)); have n9_ := Aside0.mk ((by rw [hg]; exact (below_size (by repeat (first | (with_reducible first | exact HB.out | apply below_alloc | apply pw_below_drewN | apply below_drew1 | refine below_set ?_ GE162.out | refine below_set ?_ GE167.out | refine below_set ?_ GE171.out | refine below_set ?_ GE175.out | refine below_set ?_ GE179.out | refine below_set ?_ GE183.out) | exact HB.out))) : w.heap.size ≤ gb187)); have n10_ := Aside0.mk ((by rw [hg]; exact Nat.ne_of_lt (blk_lt (g := gb162) (o := .cells #[.int .i64 a0_0, .int .i64 a0_1] 23 (0, 0)) (by (with_reducible repeat (first | refine blk_drewN ?_ _ | refine blk_drew ?_ | refine blk_alloc ?_ _)); exact BK162.out)) : gb162 ≠ gb187)); have n11_ := Aside0.mk ((by rw [hg]; exact Nat.ne_of_gt (blk_lt (g := gb162) (o := .cells #[.int .i64 a0_0, .int .i64 a0_1] 23 (0, 0)) (by (with_reducible repeat (first | refine blk_drewN ?_ _ | refine blk_drew ?_ | refine blk_alloc ?_ _)); exact BK162.out)) : gb187 ≠ gb162)); have n12_ := Aside0.mk ((by rw [hg]; exact Nat.ne_of_lt (blk_lt (g := gb167) (o := .cells #[.int .i64 t164, .int .i64 t165] 23 (0, 0)) (by (with_reducible repeat (first | refine blk_drewN ?_ _ | refine blk_drew ?_ | refine blk_alloc ?_ _)); exact BK167.out)) : gb167 ≠ gb187)); have n13_ := Aside0.mk ((by rw [hg]; exact Nat.ne_of_gt (blk_lt (g := gb167) (o := .cells #[.int .i64 t164, .int .i64 t165] 23 (0, 0)) (by (with_reducible repeat (first | refine blk_drewN ?_ _ | refine blk_drew ?_ | refine blk_alloc ?_ _)); exact BK167.out)) : gb187 ≠ gb167)); have n14_ := Aside0.mk ((by rw [hg]; exact Nat.ne_of_lt (blk_lt (g := gb171) (o := .cells #[.int .i64 t168, .int .i64 t169] 23 (0, 0)) (by (with_reducible repeat (first | refine blk_drewN ?_ _ | refine blk_drew ?_ | refine blk_alloc ?_ _)); exact BK171.out)) : gb171 ≠ gb187)); have n15_ := Aside0.mk ((by rw [hg]; exact Nat.ne_of_gt (blk_lt (g := gb171) (o := .cells #[.int .i64 t168, .int .i64 t169] 23 (0, 0)) (by (with_reducible repeat (first | refine blk_drewN ?_ _ | refine blk_drew ?_ | refine blk_alloc ?_ _)); exact BK171.out)) : gb187 ≠ gb171)); have n16_ := Aside0.mk ((by rw [hg]; exact Nat.ne_of_lt (blk_lt (g := gb175) (o := .cells #[.int .i64 t172, .int .i64 t173] 23 (0, 0)) (by (with_reducible repeat (first | refine blk_drewN ?_ _ | refine blk_drew ?_ | refine blk_alloc ?_ _)); exact BK175.out)) : gb175 ≠ gb187)); have n17_ := Aside0.mk ((by rw [hg]; exact Nat.ne_of_gt (blk_lt (g := gb175) (o := .cells #[.int .i64 t172, .int .i64 t173] 23 (0, 0)) (by (with_reducible repeat (first | refine blk_drewN ?_ _ | refine blk_drew ?_ | refine blk_alloc ?_ _)); exact BK175.out)) : gb187 ≠ gb175)); have n18_ := Aside0.mk ((by rw [hg]; exact Nat.ne_of_lt (blk_lt (g := gb179) (o := .cells #[.int .i64 t176, .int .i64 t177] 23 (0, 0)) (by (with_reducible repeat (first | refine blk_drewN ?_ _ | refine blk_drew ?_ | refine blk_alloc ?_ _)); exact BK179.out)) : gb179 ≠ gb187)); have n19_ := Aside0.mk ((by rw [hg]; exact Nat.ne_of_gt (blk_lt (g := gb179) (o := .cells #[.int .i64 t176, .int .i64 t177] 23 (0, 0)) (by (with_reducible repeat (first | refine blk_drewN ?_ _ | refine blk_drew ?_ | refine blk_alloc ?_ _)); exact BK179.out)) : gb187 ≠ gb179)); have n20_ := Aside0.mk ((by rw [hg]; exact Nat.ne_of_lt (blk_lt (g := gb183) (o := .cells #[.int .i64 t180, .int .i64 t181] 23 (0, 0)) (by (with_reducible repeat (first | refine blk_drewN ?_ _ | refine blk_drew ?_ | refine blk_alloc ?_ _)); exact BK183.out)) : gb183 ≠ gb187)); have n21_ := Aside0.mk ((by rw [hg]; exact Nat.ne_of_gt (blk_lt (g := gb183) (o := .cells #[.int .i64 t180, .int .i64 t181] 23 (0, 0)) (by (with_reducible repeat (first | refine blk_drewN ?_ _ | refine blk_drew ?_ | refine blk_alloc ?_ _)); exact BK183.out)) : gb187 ≠ gb183)); clear BK162; clear BK167; clear BK171; clear BK175; clear BK179; clear BK183; clear HB; have BK162 := n0_; have BK167 := n1_; have BK171 := n2_; have BK175 := n3_; have BK179 := n4_; have BK183 := n5_; have HB := n6_; have BK187 := n7_; have GW187 := n8_; have GE187 := n9_; have NB162_187 := n10_; have NB187_162 := n11_; have NB167_187 := n12_; have NB187_167 := n13_; have NB171_187 := n14_; have NB187_171 := n15_; have NB175_187 := n16_; have NB187_175 := n17_; have NB179_187 := n18_; have NB187_179 := n19_; have NB183_187 := n20_; have NB187_183 := n21_; clear n0_ n1_ n2_ n3_ n4_ n5_ n6_ n7_ n8_ n9_ n10_ n11_ n12_ n13_ n14_ n15_ n16_ n17_ n18_ n19_ n20_ n21_; clear hb hbox hg; have hnb55 := NB187_162.out; have hnc55 := NB162_187.out; have hnb56 := NB187_167.out; have hnc56 := NB167_187.out; have hnb57 := NB187_171.out; have hnc57 := NB171_187.out; have hnb58 := NB187_175.out; have hnc58 := NB175_187.out; have hnb59 := NB187_179.out; have hnc59 := NB179_187.out; have hnb60 := NB187_183.out; have hnc60 := NB183_187.out; have hcz61_0 : w54.cell? ⟨gb187, 0, none⟩ = some (.int .i64 0) := (blk_cell BK187.out 0).trans rfl; have hcz61_1 : w54.cell? ⟨gb187, 1, none⟩ = some (.int .i64 0) := (blk_cell BK187.out 1).trans rfl; have hfz61_0 := blk_frozen BK187.out 0; have hfz61_1 := blk_frozen BK187.out 1))
  have n0_ : Aside0 (((w54.setCell ⟨gb187, 0, none⟩ (.int .i64 t184)).setCell ⟨gb187, 1, none⟩ (.int .i64 t185)).heap[gb162]? = some (.cells #[.int .i64 a0_0, .int .i64 a0_1] 23 (0, 0))) := ⟨by (with_reducible repeat (first | refine blk_drewN ?_ _ | refine blk_drew ?_ | refine blk_alloc ?_ _)); refine blk_far ?_ NB162_187.out _; (with_reducible repeat (first | refine blk_drewN ?_ _ | refine blk_drew ?_ | refine blk_alloc ?_ _)); refine blk_far ?_ NB162_187.out _; (with_reducible repeat (first | refine blk_drewN ?_ _ | refine blk_drew ?_ | refine blk_alloc ?_ _)); exact BK162.out⟩
  have n1_ : Aside0 (((w54.setCell ⟨gb187, 0, none⟩ (.int .i64 t184)).setCell ⟨gb187, 1, none⟩ (.int .i64 t185)).heap[gb167]? = some (.cells #[.int .i64 t164, .int .i64 t165] 23 (0, 0))) := ⟨by (with_reducible repeat (first | refine blk_drewN ?_ _ | refine blk_drew ?_ | refine blk_alloc ?_ _)); refine blk_far ?_ NB167_187.out _; (with_reducible repeat (first | refine blk_drewN ?_ _ | refine blk_drew ?_ | refine blk_alloc ?_ _)); refine blk_far ?_ NB167_187.out _; (with_reducible repeat (first | refine blk_drewN ?_ _ | refine blk_drew ?_ | refine blk_alloc ?_ _)); exact BK167.out⟩
  have n2_ : Aside0 (((w54.setCell ⟨gb187, 0, none⟩ (.int .i64 t184)).setCell ⟨gb187, 1, none⟩ (.int .i64 t185)).heap[gb171]? = some (.cells #[.int .i64 t168, .int .i64 t169] 23 (0, 0))) := ⟨by (with_reducible repeat (first | refine blk_drewN ?_ _ | refine blk_drew ?_ | refine blk_alloc ?_ _)); refine blk_far ?_ NB171_187.out _; (with_reducible repeat (first | refine blk_drewN ?_ _ | refine blk_drew ?_ | refine blk_alloc ?_ _)); refine blk_far ?_ NB171_187.out _; (with_reducible repeat (first | refine blk_drewN ?_ _ | refine blk_drew ?_ | refine blk_alloc ?_ _)); exact BK171.out⟩
  have n3_ : Aside0 (((w54.setCell ⟨gb187, 0, none⟩ (.int .i64 t184)).setCell ⟨gb187, 1, none⟩ (.int .i64 t185)).heap[gb175]? = some (.cells #[.int .i64 t172, .int .i64 t173] 23 (0, 0))) := ⟨by (with_reducible repeat (first | refine blk_drewN ?_ _ | refine blk_drew ?_ | refine blk_alloc ?_ _)); refine blk_far ?_ NB175_187.out _; (with_reducible repeat (first | refine blk_drewN ?_ _ | refine blk_drew ?_ | refine blk_alloc ?_ _)); refine blk_far ?_ NB175_187.out _; (with_reducible repeat (first | refine blk_drewN ?_ _ | refine blk_drew ?_ | refine blk_alloc ?_ _)); exact BK175.out⟩
  have n4_ : Aside0 (((w54.setCell ⟨gb187, 0, none⟩ (.int .i64 t184)).setCell ⟨gb187, 1, none⟩ (.int .i64 t185)).heap[gb179]? = some (.cells #[.int .i64 t176, .int .i64 t177] 23 (0, 0))) := ⟨by (with_reducible repeat (first | refine blk_drewN ?_ _ | refine blk_drew ?_ | refine blk_alloc ?_ _)); refine blk_far ?_ NB179_187.out _; (with_reducible repeat (first | refine blk_drewN ?_ _ | refine blk_drew ?_ | refine blk_alloc ?_ _)); refine blk_far ?_ NB179_187.out _; (with_reducible repeat (first | refine blk_drewN ?_ _ | refine blk_drew ?_ | refine blk_alloc ?_ _)); exact BK179.out⟩
  have n5_ : Aside0 (((w54.setCell ⟨gb187, 0, none⟩ (.int .i64 t184)).setCell ⟨gb187, 1, none⟩ (.int .i64 t185)).heap[gb183]? = some (.cells #[.int .i64 t180, .int .i64 t181] 23 (0, 0))) := ⟨by (with_reducible repeat (first | refine blk_drewN ?_ _ | refine blk_drew ?_ | refine blk_alloc ?_ _)); refine blk_far ?_ NB183_187.out _; (with_reducible repeat (first | refine blk_drewN ?_ _ | refine blk_drew ?_ | refine blk_alloc ?_ _)); refine blk_far ?_ NB183_187.out _; (with_reducible repeat (first | refine blk_drewN ?_ _ | refine blk_drew ?_ | refine blk_alloc ?_ _)); exact BK183.out⟩
  have n6_ : Aside0 (((w54.setCell ⟨gb187, 0, none⟩ (.int .i64 t184)).setCell ⟨gb187, 1, none⟩ (.int .i64 t185)).heap[gb187]? = some (.cells #[.int .i64 t184, .int .i64 t185] 23 (0, 0))) := ⟨by (with_reducible repeat (first | refine blk_drewN ?_ _ | refine blk_drew ?_ | refine blk_alloc ?_ _)); refine blk_put (cs := #[.int .i64 t184, .int .i64 0]) ?_ 1 _ rfl; (with_reducible repeat (first | refine blk_drewN ?_ _ | refine blk_drew ?_ | refine blk_alloc ?_ _)); refine blk_put (cs := #[.int .i64 0, .int .i64 0]) ?_ 0 _ rfl; (with_reducible repeat (first | refine blk_drewN ?_ _ | refine blk_drew ?_ | refine blk_alloc ?_ _)); exact BK187.out⟩
  have n7_ : Aside0 (Below w.heap.size w ((w54.setCell ⟨gb187, 0, none⟩ (.int .i64 t184)).setCell ⟨gb187, 1, none⟩ (.int .i64 t185))) := ⟨by repeat (first | (with_reducible first | exact HB.out | apply below_alloc | apply pw_below_drewN | apply below_drew1 | refine below_set ?_ GE162.out | refine below_set ?_ GE167.out | refine below_set ?_ GE171.out | refine below_set ?_ GE175.out | refine below_set ?_ GE179.out | refine below_set ?_ GE183.out | refine below_set ?_ GE187.out) | exact HB.out)⟩
  (try clear BK162)
  (try clear BK167)
  (try clear BK171)
  (try clear BK175)
  (try clear BK179)
  (try clear BK183)
  (try clear BK187)
  (try clear HB)
  generalize ((w54.setCell ⟨gb187, 0, none⟩ (.int .i64 t184)).setCell ⟨gb187, 1, none⟩ (.int .i64 t185)) = w62 at n0_ n1_ n2_ n3_ n4_ n5_ n6_ n7_ ⊢
  have BK162 := n0_
  have BK167 := n1_
  have BK171 := n2_
  have BK175 := n3_
  have BK179 := n4_
  have BK183 := n5_
  have BK187 := n6_
  have HB := n7_
  clear n0_ n1_ n2_ n3_ n4_ n5_ n6_ n7_
  have n0_ := Aside0.mk (blk_drew BK162.out)
  have n1_ := Aside0.mk (blk_drew BK167.out)
  have n2_ := Aside0.mk (blk_drew BK171.out)
  have n3_ := Aside0.mk (blk_drew BK175.out)
  have n4_ := Aside0.mk (blk_drew BK179.out)
  have n5_ := Aside0.mk (blk_drew BK183.out)
  have n6_ := Aside0.mk (blk_drew BK187.out)
  have n7_ := Aside0.mk (below_drew1 HB.out)
  clear BK162
  clear BK167
  clear BK171
  clear BK175
  clear BK179
  clear BK183
  clear BK187
  clear HB
  have BK162 := n0_
  have BK167 := n1_
  have BK171 := n2_
  have BK175 := n3_
  have BK179 := n4_
  have BK183 := n5_
  have BK187 := n6_
  have HB := n7_
  clear n0_ n1_ n2_ n3_ n4_ n5_ n6_ n7_
  refine start_ (n := 6) (S := fun w' => w'.cell? ⟨gb162, 0, none⟩ = some (.int .i64 a0_0) ∧ w'.cell? ⟨gb162, 1, none⟩ = some (.int .i64 a0_1)) (ds := []) #[false, false, false, false, false, false] (by kernel_rfl) rfl rfl ⟨(blk_cell BK162.out 0).trans rfl, (blk_cell BK162.out 1).trans rfl⟩ (fun hHeld => ?_)
  generalize w62.drew = w63 at BK162 BK167 BK171 BK175 BK179 BK183 BK187 HB hHeld ⊢
  refine take_ (i := 0) (N := some 58) (v := ?_) (a' := ?_) #[true, false, false, false, false, false] rfl rfl (by kernel_rfl) (fun _ _ _ h => h) (Or.inl ⟨by rfl, ?_⟩) hHeld ?_ ?_
  rotate_left
  · rintro w' ⟨s0, s1⟩
    go_simp
    with_reducible rfl
  rotate_left
  · simp only [Act.put, List.setIfInBounds_toArray, List.set_cons_zero, List.set_cons_succ, i64_w, i32_w]
    rfl
  refine take_ (i := 2) (N := some 60) (v := ?_) (a' := ?_) #[true, false, true, false, false, false] rfl rfl (by kernel_rfl) (fun _ _ _ h => h) (Or.inl ⟨by rfl, ?_⟩) hHeld ?_ ?_
  rotate_left
  · rintro w' ⟨s0, s1⟩
    go_simp
    with_reducible rfl
  rotate_left
  · simp only [Act.put, List.setIfInBounds_toArray, List.set_cons_zero, List.set_cons_succ, i64_w, i32_w]
    rfl
  refine one_ (i := 1) (N := some 59) #[true, true, true, false, false, false] rfl rfl (by kernel_rfl) (by decide) (fun K hK => ?_)
  refine goes_ Tryd.func10 (by kernel_rfl) rfl #[.agg #[.int .i64 a0_0, .int .i64 a0_1]] (by rfl) rfl rfl (by (try simp only [List.map_toArray, List.map_cons, List.map_nil]); first | done | rfl | (simp only [List.length_drop, List.length_take]; rfl)) ?_
  with_reducible refine (bitmap_Free.calls a0_0 a0_1 t188 _ A11.out (Dev.laid_below HT.out (by repeat (first | (with_reducible first | exact HB.out | apply below_alloc | apply pw_below_drewN | apply below_drew1 | refine below_set ?_ GE162.out | refine below_set ?_ GE167.out | refine below_set ?_ GE171.out | refine below_set ?_ GE175.out | refine below_set ?_ GE179.out | refine below_set ?_ GE183.out | refine below_set ?_ GE187.out) | exact HB.out)))).mono ?_
  rintro e w64 ⟨v189, rfl, ho0, hb⟩
  refine ⟨_, rfl, ?_⟩
  have n0_ := Aside0.mk (Kd.R_lower ho0 (below_size (by repeat (first | (with_reducible first | exact HB.out | apply below_alloc | apply pw_below_drewN | apply below_drew1 | refine below_set ?_ GE162.out | refine below_set ?_ GE167.out | refine below_set ?_ GE171.out | refine below_set ?_ GE175.out | refine below_set ?_ GE179.out | refine below_set ?_ GE183.out | refine below_set ?_ GE187.out) | exact HB.out))))
  have n1_ := Aside0.mk (blk_below (g := gb162) (o := .cells #[.int .i64 a0_0, .int .i64 a0_1] 23 (0, 0)) (by (with_reducible repeat (first | refine blk_drewN ?_ _ | refine blk_drew ?_ | refine blk_alloc ?_ _)); exact BK162.out) hb)
  have n2_ := Aside0.mk (blk_below (g := gb167) (o := .cells #[.int .i64 t164, .int .i64 t165] 23 (0, 0)) (by (with_reducible repeat (first | refine blk_drewN ?_ _ | refine blk_drew ?_ | refine blk_alloc ?_ _)); exact BK167.out) hb)
  have n3_ := Aside0.mk (blk_below (g := gb171) (o := .cells #[.int .i64 t168, .int .i64 t169] 23 (0, 0)) (by (with_reducible repeat (first | refine blk_drewN ?_ _ | refine blk_drew ?_ | refine blk_alloc ?_ _)); exact BK171.out) hb)
  have n4_ := Aside0.mk (blk_below (g := gb175) (o := .cells #[.int .i64 t172, .int .i64 t173] 23 (0, 0)) (by (with_reducible repeat (first | refine blk_drewN ?_ _ | refine blk_drew ?_ | refine blk_alloc ?_ _)); exact BK175.out) hb)
  have n5_ := Aside0.mk (blk_below (g := gb179) (o := .cells #[.int .i64 t176, .int .i64 t177] 23 (0, 0)) (by (with_reducible repeat (first | refine blk_drewN ?_ _ | refine blk_drew ?_ | refine blk_alloc ?_ _)); exact BK179.out) hb)
  have n6_ := Aside0.mk (blk_below (g := gb183) (o := .cells #[.int .i64 t180, .int .i64 t181] 23 (0, 0)) (by (with_reducible repeat (first | refine blk_drewN ?_ _ | refine blk_drew ?_ | refine blk_alloc ?_ _)); exact BK183.out) hb)
  have n7_ := Aside0.mk (blk_below (g := gb187) (o := .cells #[.int .i64 t184, .int .i64 t185] 23 (0, 0)) (by (with_reducible repeat (first | refine blk_drewN ?_ _ | refine blk_drew ?_ | refine blk_alloc ?_ _)); exact BK187.out) hb)
  have n8_ := Aside0.mk (below_step (by repeat (first | (with_reducible first | exact HB.out | apply below_alloc | apply pw_below_drewN | apply below_drew1 | refine below_set ?_ GE162.out | refine below_set ?_ GE167.out | refine below_set ?_ GE171.out | refine below_set ?_ GE175.out | refine below_set ?_ GE179.out | refine below_set ?_ GE183.out | refine below_set ?_ GE187.out) | exact HB.out)) hb)
  clear BK162
  clear BK167
  clear BK171
  clear BK175
  clear BK179
  clear BK183
  clear BK187
  clear HB
  have HO190 := n0_
  have BK162 := n1_
  have BK167 := n2_
  have BK171 := n3_
  have BK175 := n4_
  have BK179 := n5_
  have BK183 := n6_
  have BK187 := n7_
  have HB := n8_
  clear n0_ n1_ n2_ n3_ n4_ n5_ n6_ n7_ n8_
  (try clear hb)
  (try clear hb2)
  (try clear hk)
  (try clear hi)
  (try clear ho0)
  refine hK.out _ _ ⟨(blk_cell BK162.out 0).trans rfl, (blk_cell BK162.out 1).trans rfl⟩ (fun hHeld => ?_)
  clear hK K
  refine norm_ (a' := ?_) ?_ ?_
  rotate_left
  · show Act.put _ (some 59) _ = _
    simp only [Act.put, List.setIfInBounds_toArray, List.set_cons_zero, List.set_cons_succ, i64_w, i32_w]
    rfl
  refine one_ (i := 3) (N := some 61) #[true, true, true, true, false, false] rfl rfl (by kernel_rfl) (by decide) (fun K hK => ?_)
  refine goes_ Tryd.func22 (by kernel_rfl) rfl #[.agg #[.int .i64 a0_0, .int .i64 a0_1]] (by rfl) rfl rfl (by (try simp only [List.map_toArray, List.map_cons, List.map_nil]); first | done | rfl | (simp only [List.length_drop, List.length_take]; rfl)) ?_
  with_reducible refine (mooringsref09_Free.calls k a0_0 a0_1 t191 _ A12.out).mono ?_
  rintro e w65 ⟨v192, rfl, ho0, hb⟩
  refine ⟨_, rfl, ?_⟩
  have n0_ := Aside0.mk (Kd.R_elder' (by (with_reducible repeat (first | apply Kd.R_alloc | apply Kd.R_drewN | apply Kd.R_drew)); exact HO190.out) (Kd.R_base ho0) hb)
  have n1_ := Aside0.mk (Kd.R_lower (Kd.R_new' ho0 (Kd.R_lt (by (with_reducible repeat (first | apply Kd.R_alloc | apply Kd.R_drewN | apply Kd.R_drew)); exact HO190.out))) (below_size (by repeat (first | (with_reducible first | exact HB.out | apply below_alloc | apply pw_below_drewN | apply below_drew1 | refine below_set ?_ GE162.out | refine below_set ?_ GE167.out | refine below_set ?_ GE171.out | refine below_set ?_ GE175.out | refine below_set ?_ GE179.out | refine below_set ?_ GE183.out | refine below_set ?_ GE187.out) | exact HB.out))))
  have n2_ := Aside0.mk (blk_below (g := gb162) (o := .cells #[.int .i64 a0_0, .int .i64 a0_1] 23 (0, 0)) (by (with_reducible repeat (first | refine blk_drewN ?_ _ | refine blk_drew ?_ | refine blk_alloc ?_ _)); exact BK162.out) hb)
  have n3_ := Aside0.mk (blk_below (g := gb167) (o := .cells #[.int .i64 t164, .int .i64 t165] 23 (0, 0)) (by (with_reducible repeat (first | refine blk_drewN ?_ _ | refine blk_drew ?_ | refine blk_alloc ?_ _)); exact BK167.out) hb)
  have n4_ := Aside0.mk (blk_below (g := gb171) (o := .cells #[.int .i64 t168, .int .i64 t169] 23 (0, 0)) (by (with_reducible repeat (first | refine blk_drewN ?_ _ | refine blk_drew ?_ | refine blk_alloc ?_ _)); exact BK171.out) hb)
  have n5_ := Aside0.mk (blk_below (g := gb175) (o := .cells #[.int .i64 t172, .int .i64 t173] 23 (0, 0)) (by (with_reducible repeat (first | refine blk_drewN ?_ _ | refine blk_drew ?_ | refine blk_alloc ?_ _)); exact BK175.out) hb)
  have n6_ := Aside0.mk (blk_below (g := gb179) (o := .cells #[.int .i64 t176, .int .i64 t177] 23 (0, 0)) (by (with_reducible repeat (first | refine blk_drewN ?_ _ | refine blk_drew ?_ | refine blk_alloc ?_ _)); exact BK179.out) hb)
  have n7_ := Aside0.mk (blk_below (g := gb183) (o := .cells #[.int .i64 t180, .int .i64 t181] 23 (0, 0)) (by (with_reducible repeat (first | refine blk_drewN ?_ _ | refine blk_drew ?_ | refine blk_alloc ?_ _)); exact BK183.out) hb)
  have n8_ := Aside0.mk (blk_below (g := gb187) (o := .cells #[.int .i64 t184, .int .i64 t185] 23 (0, 0)) (by (with_reducible repeat (first | refine blk_drewN ?_ _ | refine blk_drew ?_ | refine blk_alloc ?_ _)); exact BK187.out) hb)
  have n9_ := Aside0.mk (below_step (by repeat (first | (with_reducible first | exact HB.out | apply below_alloc | apply pw_below_drewN | apply below_drew1 | refine below_set ?_ GE162.out | refine below_set ?_ GE167.out | refine below_set ?_ GE171.out | refine below_set ?_ GE175.out | refine below_set ?_ GE179.out | refine below_set ?_ GE183.out | refine below_set ?_ GE187.out) | exact HB.out)) hb)
  clear HO190
  clear BK162
  clear BK167
  clear BK171
  clear BK175
  clear BK179
  clear BK183
  clear BK187
  clear HB
  have HO190 := n0_
  have HO193 := n1_
  have BK162 := n2_
  have BK167 := n3_
  have BK171 := n4_
  have BK175 := n5_
  have BK179 := n6_
  have BK183 := n7_
  have BK187 := n8_
  have HB := n9_
  clear n0_ n1_ n2_ n3_ n4_ n5_ n6_ n7_ n8_ n9_
  (try clear hb)
  (try clear hb2)
  (try clear hk)
  (try clear hi)
  (try clear ho0)
  obtain ⟨Ao66, co66, eo66⟩ := Kd.R_slice HO190.out
  (first | subst eo66 | (injection eo66 with f1_ f2_ f3_; have f4_ := f1_.symm; have f5_ := f3_.symm; clear f1_ f2_ f3_; subst f4_; subst f5_))
  obtain ⟨Ao67, co67, eo67⟩ := Kd.R_slice HO193.out
  (first | subst eo67 | (injection eo67 with f1_ f2_ f3_; have f4_ := f1_.symm; have f5_ := f3_.symm; clear f1_ f2_ f3_; subst f4_; subst f5_))
  refine hK.out _ _ ⟨(blk_cell BK162.out 0).trans rfl, (blk_cell BK162.out 1).trans rfl⟩ (fun hHeld => ?_)
  clear hK K
  refine norm_ (a' := ?_) ?_ ?_
  rotate_left
  · show Act.put _ (some 61) _ = _
    simp only [Act.put, List.setIfInBounds_toArray, List.set_cons_zero, List.set_cons_succ, i64_w, i32_w]
    rfl
  refine one_ (i := 4) (N := some 62) #[true, true, true, true, true, false] rfl rfl (by kernel_rfl) (by decide) (fun K hK => ?_)
  refine goes_ Tryd.func21 (by kernel_rfl) rfl #[.slice Ao66 t188.length co66, .slice Ao67 t191.length co67] (by rfl) rfl rfl (by (try simp only [List.map_toArray, List.map_cons, List.map_nil]); first | done | rfl | (simp only [List.length_drop, List.length_take]; rfl)) ?_
  with_reducible refine (mooringsref01_Ints.calls k _ _ t188 _ _ t191 t194 _ ?side1 ?side2 ?side3 ?side4 A13.out).mono ?_
  (case side1 => repeat (first | exact (Kd.R_reads' HO190.out).2.2 | (with_reducible refine Kd.C_alloc ?_ _) | (with_reducible refine Kd.C_drewN ?_ _) | (with_reducible refine Kd.C_drew ?_)))
  (case side2 => exact (Kd.R_reads' HO190.out).2.1)
  (case side3 => repeat (first | exact (Kd.R_reads' HO193.out).2.2 | (with_reducible refine Kd.C_alloc ?_ _) | (with_reducible refine Kd.C_drewN ?_ _) | (with_reducible refine Kd.C_drew ?_)))
  (case side4 => exact (Kd.R_reads' HO193.out).2.1)
  rintro e w' ⟨rfl, ⟨nd, rfl⟩⟩
  refine ⟨_, rfl, ?_⟩
  refine hK.out _ _ ⟨(blk_cell BK162.out 0).trans rfl, (blk_cell BK162.out 1).trans rfl⟩ (fun hHeld => ?_)
  clear hK K
  refine norm_ (a' := ?_) ?_ ?_
  rotate_left
  · show Act.put _ (some 62) _ = _
    simp only [Act.put, List.setIfInBounds_toArray, List.set_cons_zero, List.set_cons_succ, i64_w, i32_w]
    rfl
  refine pure_ (i := 5) (N := some 20) (v := ?_) (a' := ?_) #[true, true, true, true, true, true] rfl rfl (by kernel_rfl) (fun _ _ _ h => h) (Or.inl ⟨by rfl, ?_⟩) ?_ ?_
  rotate_left
  · intro w'
    go_simp
    with_reducible rfl
  rotate_left
  · simp only [Act.put, List.setIfInBounds_toArray, List.set_cons_zero, List.set_cons_succ, i64_w, i32_w]
    rfl
  refine done_ (by kernel_rfl) ?_
  have hcz68_0 : w65.cell? ⟨gb162, 0, none⟩ = some (.int .i64 a0_0) := (blk_cell BK162.out 0).trans rfl
  have hcz68_1 : w65.cell? ⟨gb162, 1, none⟩ = some (.int .i64 a0_1) := (blk_cell BK162.out 1).trans rfl
  have hfz68_0 := blk_frozen BK162.out 0
  have hfz68_1 := blk_frozen BK162.out 1
  go_upto_region 11 with (first | ((with_reducible refine gate_callee (f := 23) rfl ?_); refine goesL_ (some 64) rfl rfl Tryd.func23 (by kernel_rfl) rfl #[.agg #[.int .i64 a0_0, .int .i64 a0_1]] rfl (by (try simp only [List.map_toArray, List.map_cons, List.map_nil]); first | done | rfl | (simp only [List.length_drop, List.length_take]; rfl)) ?_; (with_reducible refine (mooringsref09_May.calls k a0_0 a0_1 t195 _ A14.out).mono ?_); rintro e w69 ⟨rfl, hb⟩; refine ⟨_, rfl, ?_⟩; have n0_ := Aside0.mk (Kd.R_below (by (with_reducible repeat (first | apply Kd.R_alloc | apply Kd.R_drewN | apply Kd.R_drew)); exact HO190.out) hb); have n1_ := Aside0.mk (Kd.R_below (by (with_reducible repeat (first | apply Kd.R_alloc | apply Kd.R_drewN | apply Kd.R_drew)); exact HO193.out) hb); have n2_ := Aside0.mk (blk_below (g := gb162) (o := .cells #[.int .i64 a0_0, .int .i64 a0_1] 23 (0, 0)) (by (with_reducible repeat (first | refine blk_drewN ?_ _ | refine blk_drew ?_ | refine blk_alloc ?_ _)); exact BK162.out) hb); have n3_ := Aside0.mk (blk_below (g := gb167) (o := .cells #[.int .i64 t164, .int .i64 t165] 23 (0, 0)) (by (with_reducible repeat (first | refine blk_drewN ?_ _ | refine blk_drew ?_ | refine blk_alloc ?_ _)); exact BK167.out) hb); have n4_ := Aside0.mk (blk_below (g := gb171) (o := .cells #[.int .i64 t168, .int .i64 t169] 23 (0, 0)) (by (with_reducible repeat (first | refine blk_drewN ?_ _ | refine blk_drew ?_ | refine blk_alloc ?_ _)); exact BK171.out) hb); have n5_ := Aside0.mk (blk_below (g := gb175) (o := .cells #[.int .i64 t172, .int .i64 t173] 23 (0, 0)) (by (with_reducible repeat (first | refine blk_drewN ?_ _ | refine blk_drew ?_ | refine blk_alloc ?_ _)); exact BK175.out) hb); have n6_ := Aside0.mk (blk_below (g := gb179) (o := .cells #[.int .i64 t176, .int .i64 t177] 23 (0, 0)) (by (with_reducible repeat (first | refine blk_drewN ?_ _ | refine blk_drew ?_ | refine blk_alloc ?_ _)); exact BK179.out) hb); have n7_ := Aside0.mk (blk_below (g := gb183) (o := .cells #[.int .i64 t180, .int .i64 t181] 23 (0, 0)) (by (with_reducible repeat (first | refine blk_drewN ?_ _ | refine blk_drew ?_ | refine blk_alloc ?_ _)); exact BK183.out) hb); have n8_ := Aside0.mk (blk_below (g := gb187) (o := .cells #[.int .i64 t184, .int .i64 t185] 23 (0, 0)) (by (with_reducible repeat (first | refine blk_drewN ?_ _ | refine blk_drew ?_ | refine blk_alloc ?_ _)); exact BK187.out) hb); have n9_ := Aside0.mk (below_step (by repeat (first | (with_reducible first | exact HB.out | apply below_alloc | apply pw_below_drewN | apply below_drew1 | refine below_set ?_ GE162.out | refine below_set ?_ GE167.out | refine below_set ?_ GE171.out | refine below_set ?_ GE175.out | refine below_set ?_ GE179.out | refine below_set ?_ GE183.out | refine below_set ?_ GE187.out) | exact HB.out)) hb); clear HO190; clear HO193; clear BK162; clear BK167; clear BK171; clear BK175; clear BK179; clear BK183; clear BK187; clear HB; have HO190 := n0_; have HO193 := n1_; have BK162 := n2_; have BK167 := n3_; have BK171 := n4_; have BK175 := n5_; have BK179 := n6_; have BK183 := n7_; have BK187 := n8_; have HB := n9_; clear n0_ n1_ n2_ n3_ n4_ n5_ n6_ n7_ n8_ n9_; (try clear hb); (try clear hb2); (try clear hk); (try clear hi); have hcz70_0 : w69.cell? ⟨gb162, 0, none⟩ = some (.int .i64 a0_0) := (blk_cell BK162.out 0).trans rfl; have hcz70_1 : w69.cell? ⟨gb162, 1, none⟩ = some (.int .i64 a0_1) := (blk_cell BK162.out 1).trans rfl; have hfz70_0 := blk_frozen BK162.out 0; have hfz70_1 := blk_frozen BK162.out 1) | ((with_reducible refine gate_callee (f := 24) rfl ?_); refine goesL_ (some 67) rfl rfl Tryd.func24 (by kernel_rfl) rfl #[.agg #[.int .i64 a0_0, .int .i64 a0_1], .int .i64 a1] rfl (by (try simp only [List.map_toArray, List.map_cons, List.map_nil]); first | done | rfl | (simp only [List.length_drop, List.length_take]; rfl)) ?_; (with_reducible refine (mooringsref09_Has.calls k a0_0 a0_1 a1 t196 _ A15.out).mono ?_); rintro e w71 ⟨rfl, hb⟩; refine ⟨_, rfl, ?_⟩; have n0_ := Aside0.mk (Kd.R_below (by (with_reducible repeat (first | apply Kd.R_alloc | apply Kd.R_drewN | apply Kd.R_drew)); exact HO190.out) hb); have n1_ := Aside0.mk (Kd.R_below (by (with_reducible repeat (first | apply Kd.R_alloc | apply Kd.R_drewN | apply Kd.R_drew)); exact HO193.out) hb); have n2_ := Aside0.mk (blk_below (g := gb162) (o := .cells #[.int .i64 a0_0, .int .i64 a0_1] 23 (0, 0)) (by (with_reducible repeat (first | refine blk_drewN ?_ _ | refine blk_drew ?_ | refine blk_alloc ?_ _)); exact BK162.out) hb); have n3_ := Aside0.mk (blk_below (g := gb167) (o := .cells #[.int .i64 t164, .int .i64 t165] 23 (0, 0)) (by (with_reducible repeat (first | refine blk_drewN ?_ _ | refine blk_drew ?_ | refine blk_alloc ?_ _)); exact BK167.out) hb); have n4_ := Aside0.mk (blk_below (g := gb171) (o := .cells #[.int .i64 t168, .int .i64 t169] 23 (0, 0)) (by (with_reducible repeat (first | refine blk_drewN ?_ _ | refine blk_drew ?_ | refine blk_alloc ?_ _)); exact BK171.out) hb); have n5_ := Aside0.mk (blk_below (g := gb175) (o := .cells #[.int .i64 t172, .int .i64 t173] 23 (0, 0)) (by (with_reducible repeat (first | refine blk_drewN ?_ _ | refine blk_drew ?_ | refine blk_alloc ?_ _)); exact BK175.out) hb); have n6_ := Aside0.mk (blk_below (g := gb179) (o := .cells #[.int .i64 t176, .int .i64 t177] 23 (0, 0)) (by (with_reducible repeat (first | refine blk_drewN ?_ _ | refine blk_drew ?_ | refine blk_alloc ?_ _)); exact BK179.out) hb); have n7_ := Aside0.mk (blk_below (g := gb183) (o := .cells #[.int .i64 t180, .int .i64 t181] 23 (0, 0)) (by (with_reducible repeat (first | refine blk_drewN ?_ _ | refine blk_drew ?_ | refine blk_alloc ?_ _)); exact BK183.out) hb); have n8_ := Aside0.mk (blk_below (g := gb187) (o := .cells #[.int .i64 t184, .int .i64 t185] 23 (0, 0)) (by (with_reducible repeat (first | refine blk_drewN ?_ _ | refine blk_drew ?_ | refine blk_alloc ?_ _)); exact BK187.out) hb); have n9_ := Aside0.mk (below_step (by repeat (first | (with_reducible first | exact HB.out | apply below_alloc | apply pw_below_drewN | apply below_drew1 | refine below_set ?_ GE162.out | refine below_set ?_ GE167.out | refine below_set ?_ GE171.out | refine below_set ?_ GE175.out | refine below_set ?_ GE179.out | refine below_set ?_ GE183.out | refine below_set ?_ GE187.out) | exact HB.out)) hb); clear HO190; clear HO193; clear BK162; clear BK167; clear BK171; clear BK175; clear BK179; clear BK183; clear BK187; clear HB; have HO190 := n0_; have HO193 := n1_; have BK162 := n2_; have BK167 := n3_; have BK171 := n4_; have BK175 := n5_; have BK179 := n6_; have BK183 := n7_; have BK187 := n8_; have HB := n9_; clear n0_ n1_ n2_ n3_ n4_ n5_ n6_ n7_ n8_ n9_; (try clear hb); (try clear hb2); (try clear hk); (try clear hi)))
  (try simp only [Act.put, List.setIfInBounds_toArray, List.set_cons_zero, List.set_cons_succ])
  go_cut [103] (fun v103 wc => ∃ (kq : Nat) (x103_15 : Bool), v103 = .bool x103_15 ∧ Aside0 (mooringslaw09_MapTells.j0 kq a1 t195 t196 x103_15 a0_0 a0_1 = some r) ∧ Aside0 (kq ≤ k) ∧ Aside0 (wc.heap[gb162]? = some (.cells #[.int .i64 a0_0, .int .i64 a0_1] 23 (0, 0))) ∧ Aside0 (wc.heap[gb167]? = some (.cells #[.int .i64 t164, .int .i64 t165] 23 (0, 0))) ∧ Aside0 (wc.heap[gb171]? = some (.cells #[.int .i64 t168, .int .i64 t169] 23 (0, 0))) ∧ Aside0 (wc.heap[gb175]? = some (.cells #[.int .i64 t172, .int .i64 t173] 23 (0, 0))) ∧ Aside0 (wc.heap[gb179]? = some (.cells #[.int .i64 t176, .int .i64 t177] 23 (0, 0))) ∧ Aside0 (wc.heap[gb183]? = some (.cells #[.int .i64 t180, .int .i64 t181] 23 (0, 0))) ∧ Aside0 (wc.heap[gb187]? = some (.cells #[.int .i64 t184, .int .i64 t185] 23 (0, 0))) ∧ Aside0 (Below w.heap.size w wc))
  case first =>
    have H := HC16.out
    clear HC16
    by_cases c72 : t163 = true
    · subst c72
      have H1 : (if (!(t164 == t168) || (!(t165 == t169))) = true then (mooringslaw09_MapTells.j0 k a1 t195 t196 true a0_0 a0_1) else (if (t166 != t170) = true then (mooringslaw09_MapTells.j0 k a1 t195 t196 true a0_0 a0_1) else (if (!(t172 == t176) || (!(t173 == t177))) = true then (mooringslaw09_MapTells.j0 k a1 t195 t196 true a0_0 a0_1) else (if (t174 != t178) = true then (mooringslaw09_MapTells.j0 k a1 t195 t196 true a0_0 a0_1) else (if (!(t180 == t184) || (!(t181 == t185))) = true then (mooringslaw09_MapTells.j0 k a1 t195 t196 true a0_0 a0_1) else (if (t182 != t186) = true then (mooringslaw09_MapTells.j0 k a1 t195 t196 true a0_0 a0_1) else (mooringslaw09_MapTells.j0 k a1 t195 t196 (!t194) a0_0 a0_1))))))) = some r := by rw [if_pos rfl] at H; exact H
      clear H
      have H := H1
      clear H1
      by_cases c73 : (!(t164 == t168) || (!(t165 == t169))) = true
      · rw [if_pos c73] at H
        have c73b0 : (!(t164 == t168) || (!(t165 == t169))) = true := c73
        clear c73
        (first | rw [c73b0] | (simp only [i64_w, i32_w]; rw [c73b0]) | skip)
        have H' := Aside0.mk H
        clear H
        have hnb74 := NB167_162.out
        have hnc74 := NB162_167.out
        have hnb75 := NB167_171.out
        have hnc75 := NB171_167.out
        have hnb76 := NB167_175.out
        have hnc76 := NB175_167.out
        have hnb77 := NB167_179.out
        have hnc77 := NB179_167.out
        have hnb78 := NB167_183.out
        have hnc78 := NB183_167.out
        have hnb79 := NB167_187.out
        have hnc79 := NB187_167.out
        have hcz80_0 : w71.cell? ⟨gb167, 0, none⟩ = some (.int .i64 t164) := (blk_cell BK167.out 0).trans rfl
        have hcz80_1 : w71.cell? ⟨gb167, 1, none⟩ = some (.int .i64 t165) := (blk_cell BK167.out 1).trans rfl
        have hfz80_0 := blk_frozen BK167.out 0
        have hfz80_1 := blk_frozen BK167.out 1
        have hnb81 := NB171_162.out
        have hnc81 := NB162_171.out
        have hnb82 := NB171_175.out
        have hnc82 := NB175_171.out
        have hnb83 := NB171_179.out
        have hnc83 := NB179_171.out
        have hnb84 := NB171_183.out
        have hnc84 := NB183_171.out
        have hnb85 := NB171_187.out
        have hnc85 := NB187_171.out
        have hcz86_0 : w71.cell? ⟨gb171, 0, none⟩ = some (.int .i64 t168) := (blk_cell BK171.out 0).trans rfl
        have hcz86_1 : w71.cell? ⟨gb171, 1, none⟩ = some (.int .i64 t169) := (blk_cell BK171.out 1).trans rfl
        have hfz86_0 := blk_frozen BK171.out 0
        have hfz86_1 := blk_frozen BK171.out 1
        go_wp2
        go_meet
        case rel => exact ⟨_, (true), (by first | rfl | (simp; done) | (simp [*]; done)), H', ⟨by first | omega | exact Nat.le_refl _⟩, ⟨by (with_reducible repeat (first | refine blk_drewN ?_ _ | refine blk_drew ?_ | refine blk_alloc ?_ _)); exact BK162.out⟩, ⟨by (with_reducible repeat (first | refine blk_drewN ?_ _ | refine blk_drew ?_ | refine blk_alloc ?_ _)); exact BK167.out⟩, ⟨by (with_reducible repeat (first | refine blk_drewN ?_ _ | refine blk_drew ?_ | refine blk_alloc ?_ _)); exact BK171.out⟩, ⟨by (with_reducible repeat (first | refine blk_drewN ?_ _ | refine blk_drew ?_ | refine blk_alloc ?_ _)); exact BK175.out⟩, ⟨by (with_reducible repeat (first | refine blk_drewN ?_ _ | refine blk_drew ?_ | refine blk_alloc ?_ _)); exact BK179.out⟩, ⟨by (with_reducible repeat (first | refine blk_drewN ?_ _ | refine blk_drew ?_ | refine blk_alloc ?_ _)); exact BK183.out⟩, ⟨by (with_reducible repeat (first | refine blk_drewN ?_ _ | refine blk_drew ?_ | refine blk_alloc ?_ _)); exact BK187.out⟩, ⟨by repeat (first | (with_reducible first | exact HB.out | apply below_alloc | apply pw_below_drewN | apply below_drew1 | refine below_set ?_ GE162.out | refine below_set ?_ GE167.out | refine below_set ?_ GE171.out | refine below_set ?_ GE175.out | refine below_set ?_ GE179.out | refine below_set ?_ GE183.out | refine below_set ?_ GE187.out) | exact HB.out)⟩⟩
      · rw [if_neg c73] at H
        have c73b0 : (!(t164 == t168) || (!(t165 == t169))) = false := by simpa using c73
        clear c73
        (first | rw [c73b0] | (simp only [i64_w, i32_w]; rw [c73b0]) | skip)
        by_cases c87 : (t166 != t170) = true
        · rw [if_pos c87] at H
          have c87b0 : (t166 != t170) = true := c87
          (try (have c87b1 : decide (t166 = t170) = false := by simpa using c87))
          (try (have c87b2 : (t166 == t170) = false := by simpa using c87))
          (try (have c87b3 : ¬ (t166 = t170) := by simpa using c87))
          clear c87
          have H' := Aside0.mk H
          clear H
          have hnb88 := NB167_162.out
          have hnc88 := NB162_167.out
          have hnb89 := NB167_171.out
          have hnc89 := NB171_167.out
          have hnb90 := NB167_175.out
          have hnc90 := NB175_167.out
          have hnb91 := NB167_179.out
          have hnc91 := NB179_167.out
          have hnb92 := NB167_183.out
          have hnc92 := NB183_167.out
          have hnb93 := NB167_187.out
          have hnc93 := NB187_167.out
          have hcz94_0 : w71.cell? ⟨gb167, 0, none⟩ = some (.int .i64 t164) := (blk_cell BK167.out 0).trans rfl
          have hcz94_1 : w71.cell? ⟨gb167, 1, none⟩ = some (.int .i64 t165) := (blk_cell BK167.out 1).trans rfl
          have hfz94_0 := blk_frozen BK167.out 0
          have hfz94_1 := blk_frozen BK167.out 1
          have hnb95 := NB171_162.out
          have hnc95 := NB162_171.out
          have hnb96 := NB171_175.out
          have hnc96 := NB175_171.out
          have hnb97 := NB171_179.out
          have hnc97 := NB179_171.out
          have hnb98 := NB171_183.out
          have hnc98 := NB183_171.out
          have hnb99 := NB171_187.out
          have hnc99 := NB187_171.out
          have hcz100_0 : w71.cell? ⟨gb171, 0, none⟩ = some (.int .i64 t168) := (blk_cell BK171.out 0).trans rfl
          have hcz100_1 : w71.cell? ⟨gb171, 1, none⟩ = some (.int .i64 t169) := (blk_cell BK171.out 1).trans rfl
          have hfz100_0 := blk_frozen BK171.out 0
          have hfz100_1 := blk_frozen BK171.out 1
          go_wp2
          go_meet
          case rel => exact ⟨_, (true), (by first | rfl | (simp; done) | (simp [*]; done)), H', ⟨by first | omega | exact Nat.le_refl _⟩, ⟨by (with_reducible repeat (first | refine blk_drewN ?_ _ | refine blk_drew ?_ | refine blk_alloc ?_ _)); exact BK162.out⟩, ⟨by (with_reducible repeat (first | refine blk_drewN ?_ _ | refine blk_drew ?_ | refine blk_alloc ?_ _)); exact BK167.out⟩, ⟨by (with_reducible repeat (first | refine blk_drewN ?_ _ | refine blk_drew ?_ | refine blk_alloc ?_ _)); exact BK171.out⟩, ⟨by (with_reducible repeat (first | refine blk_drewN ?_ _ | refine blk_drew ?_ | refine blk_alloc ?_ _)); exact BK175.out⟩, ⟨by (with_reducible repeat (first | refine blk_drewN ?_ _ | refine blk_drew ?_ | refine blk_alloc ?_ _)); exact BK179.out⟩, ⟨by (with_reducible repeat (first | refine blk_drewN ?_ _ | refine blk_drew ?_ | refine blk_alloc ?_ _)); exact BK183.out⟩, ⟨by (with_reducible repeat (first | refine blk_drewN ?_ _ | refine blk_drew ?_ | refine blk_alloc ?_ _)); exact BK187.out⟩, ⟨by repeat (first | (with_reducible first | exact HB.out | apply below_alloc | apply pw_below_drewN | apply below_drew1 | refine below_set ?_ GE162.out | refine below_set ?_ GE167.out | refine below_set ?_ GE171.out | refine below_set ?_ GE175.out | refine below_set ?_ GE179.out | refine below_set ?_ GE183.out | refine below_set ?_ GE187.out) | exact HB.out)⟩⟩
        · rw [if_neg c87] at H
          have c87b0 : (t166 != t170) = false := by simpa using c87
          (try (have c87b1 : decide (t166 = t170) = true := by simpa using c87))
          (try (have c87b2 : (t166 == t170) = true := by simpa using c87))
          clear c87
          by_cases c101 : (!(t172 == t176) || (!(t173 == t177))) = true
          · rw [if_pos c101] at H
            have c101b0 : (!(t172 == t176) || (!(t173 == t177))) = true := c101
            clear c101
            have H' := Aside0.mk H
            clear H
            have hnb102 := NB167_162.out
            have hnc102 := NB162_167.out
            have hnb103 := NB167_171.out
            have hnc103 := NB171_167.out
            have hnb104 := NB167_175.out
            have hnc104 := NB175_167.out
            have hnb105 := NB167_179.out
            have hnc105 := NB179_167.out
            have hnb106 := NB167_183.out
            have hnc106 := NB183_167.out
            have hnb107 := NB167_187.out
            have hnc107 := NB187_167.out
            have hcz108_0 : w71.cell? ⟨gb167, 0, none⟩ = some (.int .i64 t164) := (blk_cell BK167.out 0).trans rfl
            have hcz108_1 : w71.cell? ⟨gb167, 1, none⟩ = some (.int .i64 t165) := (blk_cell BK167.out 1).trans rfl
            have hfz108_0 := blk_frozen BK167.out 0
            have hfz108_1 := blk_frozen BK167.out 1
            have hnb109 := NB171_162.out
            have hnc109 := NB162_171.out
            have hnb110 := NB171_175.out
            have hnc110 := NB175_171.out
            have hnb111 := NB171_179.out
            have hnc111 := NB179_171.out
            have hnb112 := NB171_183.out
            have hnc112 := NB183_171.out
            have hnb113 := NB171_187.out
            have hnc113 := NB187_171.out
            have hcz114_0 : w71.cell? ⟨gb171, 0, none⟩ = some (.int .i64 t168) := (blk_cell BK171.out 0).trans rfl
            have hcz114_1 : w71.cell? ⟨gb171, 1, none⟩ = some (.int .i64 t169) := (blk_cell BK171.out 1).trans rfl
            have hfz114_0 := blk_frozen BK171.out 0
            have hfz114_1 := blk_frozen BK171.out 1
            have hnb115 := NB175_162.out
            have hnc115 := NB162_175.out
            have hnb116 := NB175_179.out
            have hnc116 := NB179_175.out
            have hnb117 := NB175_183.out
            have hnc117 := NB183_175.out
            have hnb118 := NB175_187.out
            have hnc118 := NB187_175.out
            have hcz119_0 : w71.cell? ⟨gb175, 0, none⟩ = some (.int .i64 t172) := (blk_cell BK175.out 0).trans rfl
            have hcz119_1 : w71.cell? ⟨gb175, 1, none⟩ = some (.int .i64 t173) := (blk_cell BK175.out 1).trans rfl
            have hfz119_0 := blk_frozen BK175.out 0
            have hfz119_1 := blk_frozen BK175.out 1
            have hnb120 := NB179_162.out
            have hnc120 := NB162_179.out
            have hnb121 := NB179_183.out
            have hnc121 := NB183_179.out
            have hnb122 := NB179_187.out
            have hnc122 := NB187_179.out
            have hcz123_0 : w71.cell? ⟨gb179, 0, none⟩ = some (.int .i64 t176) := (blk_cell BK179.out 0).trans rfl
            have hcz123_1 : w71.cell? ⟨gb179, 1, none⟩ = some (.int .i64 t177) := (blk_cell BK179.out 1).trans rfl
            have hfz123_0 := blk_frozen BK179.out 0
            have hfz123_1 := blk_frozen BK179.out 1
            go_wp2
            go_meet
            case rel => exact ⟨_, (true), (by first | rfl | (simp; done) | (simp [*]; done)), H', ⟨by first | omega | exact Nat.le_refl _⟩, ⟨by (with_reducible repeat (first | refine blk_drewN ?_ _ | refine blk_drew ?_ | refine blk_alloc ?_ _)); exact BK162.out⟩, ⟨by (with_reducible repeat (first | refine blk_drewN ?_ _ | refine blk_drew ?_ | refine blk_alloc ?_ _)); exact BK167.out⟩, ⟨by (with_reducible repeat (first | refine blk_drewN ?_ _ | refine blk_drew ?_ | refine blk_alloc ?_ _)); exact BK171.out⟩, ⟨by (with_reducible repeat (first | refine blk_drewN ?_ _ | refine blk_drew ?_ | refine blk_alloc ?_ _)); exact BK175.out⟩, ⟨by (with_reducible repeat (first | refine blk_drewN ?_ _ | refine blk_drew ?_ | refine blk_alloc ?_ _)); exact BK179.out⟩, ⟨by (with_reducible repeat (first | refine blk_drewN ?_ _ | refine blk_drew ?_ | refine blk_alloc ?_ _)); exact BK183.out⟩, ⟨by (with_reducible repeat (first | refine blk_drewN ?_ _ | refine blk_drew ?_ | refine blk_alloc ?_ _)); exact BK187.out⟩, ⟨by repeat (first | (with_reducible first | exact HB.out | apply below_alloc | apply pw_below_drewN | apply below_drew1 | refine below_set ?_ GE162.out | refine below_set ?_ GE167.out | refine below_set ?_ GE171.out | refine below_set ?_ GE175.out | refine below_set ?_ GE179.out | refine below_set ?_ GE183.out | refine below_set ?_ GE187.out) | exact HB.out)⟩⟩
          · rw [if_neg c101] at H
            have c101b0 : (!(t172 == t176) || (!(t173 == t177))) = false := by simpa using c101
            clear c101
            by_cases c124 : (t174 != t178) = true
            · rw [if_pos c124] at H
              have c124b0 : (t174 != t178) = true := c124
              (try (have c124b1 : decide (t174 = t178) = false := by simpa using c124))
              (try (have c124b2 : (t174 == t178) = false := by simpa using c124))
              (try (have c124b3 : ¬ (t174 = t178) := by simpa using c124))
              clear c124
              have H' := Aside0.mk H
              clear H
              have hnb125 := NB167_162.out
              have hnc125 := NB162_167.out
              have hnb126 := NB167_171.out
              have hnc126 := NB171_167.out
              have hnb127 := NB167_175.out
              have hnc127 := NB175_167.out
              have hnb128 := NB167_179.out
              have hnc128 := NB179_167.out
              have hnb129 := NB167_183.out
              have hnc129 := NB183_167.out
              have hnb130 := NB167_187.out
              have hnc130 := NB187_167.out
              have hcz131_0 : w71.cell? ⟨gb167, 0, none⟩ = some (.int .i64 t164) := (blk_cell BK167.out 0).trans rfl
              have hcz131_1 : w71.cell? ⟨gb167, 1, none⟩ = some (.int .i64 t165) := (blk_cell BK167.out 1).trans rfl
              have hfz131_0 := blk_frozen BK167.out 0
              have hfz131_1 := blk_frozen BK167.out 1
              have hnb132 := NB171_162.out
              have hnc132 := NB162_171.out
              have hnb133 := NB171_175.out
              have hnc133 := NB175_171.out
              have hnb134 := NB171_179.out
              have hnc134 := NB179_171.out
              have hnb135 := NB171_183.out
              have hnc135 := NB183_171.out
              have hnb136 := NB171_187.out
              have hnc136 := NB187_171.out
              have hcz137_0 : w71.cell? ⟨gb171, 0, none⟩ = some (.int .i64 t168) := (blk_cell BK171.out 0).trans rfl
              have hcz137_1 : w71.cell? ⟨gb171, 1, none⟩ = some (.int .i64 t169) := (blk_cell BK171.out 1).trans rfl
              have hfz137_0 := blk_frozen BK171.out 0
              have hfz137_1 := blk_frozen BK171.out 1
              have hnb138 := NB175_162.out
              have hnc138 := NB162_175.out
              have hnb139 := NB175_179.out
              have hnc139 := NB179_175.out
              have hnb140 := NB175_183.out
              have hnc140 := NB183_175.out
              have hnb141 := NB175_187.out
              have hnc141 := NB187_175.out
              have hcz142_0 : w71.cell? ⟨gb175, 0, none⟩ = some (.int .i64 t172) := (blk_cell BK175.out 0).trans rfl
              have hcz142_1 : w71.cell? ⟨gb175, 1, none⟩ = some (.int .i64 t173) := (blk_cell BK175.out 1).trans rfl
              have hfz142_0 := blk_frozen BK175.out 0
              have hfz142_1 := blk_frozen BK175.out 1
              have hnb143 := NB179_162.out
              have hnc143 := NB162_179.out
              have hnb144 := NB179_183.out
              have hnc144 := NB183_179.out
              have hnb145 := NB179_187.out
              have hnc145 := NB187_179.out
              have hcz146_0 : w71.cell? ⟨gb179, 0, none⟩ = some (.int .i64 t176) := (blk_cell BK179.out 0).trans rfl
              have hcz146_1 : w71.cell? ⟨gb179, 1, none⟩ = some (.int .i64 t177) := (blk_cell BK179.out 1).trans rfl
              have hfz146_0 := blk_frozen BK179.out 0
              have hfz146_1 := blk_frozen BK179.out 1
              go_wp2
              go_meet
              case rel => exact ⟨_, (true), (by first | rfl | (simp; done) | (simp [*]; done)), H', ⟨by first | omega | exact Nat.le_refl _⟩, ⟨by (with_reducible repeat (first | refine blk_drewN ?_ _ | refine blk_drew ?_ | refine blk_alloc ?_ _)); exact BK162.out⟩, ⟨by (with_reducible repeat (first | refine blk_drewN ?_ _ | refine blk_drew ?_ | refine blk_alloc ?_ _)); exact BK167.out⟩, ⟨by (with_reducible repeat (first | refine blk_drewN ?_ _ | refine blk_drew ?_ | refine blk_alloc ?_ _)); exact BK171.out⟩, ⟨by (with_reducible repeat (first | refine blk_drewN ?_ _ | refine blk_drew ?_ | refine blk_alloc ?_ _)); exact BK175.out⟩, ⟨by (with_reducible repeat (first | refine blk_drewN ?_ _ | refine blk_drew ?_ | refine blk_alloc ?_ _)); exact BK179.out⟩, ⟨by (with_reducible repeat (first | refine blk_drewN ?_ _ | refine blk_drew ?_ | refine blk_alloc ?_ _)); exact BK183.out⟩, ⟨by (with_reducible repeat (first | refine blk_drewN ?_ _ | refine blk_drew ?_ | refine blk_alloc ?_ _)); exact BK187.out⟩, ⟨by repeat (first | (with_reducible first | exact HB.out | apply below_alloc | apply pw_below_drewN | apply below_drew1 | refine below_set ?_ GE162.out | refine below_set ?_ GE167.out | refine below_set ?_ GE171.out | refine below_set ?_ GE175.out | refine below_set ?_ GE179.out | refine below_set ?_ GE183.out | refine below_set ?_ GE187.out) | exact HB.out)⟩⟩
            · rw [if_neg c124] at H
              have c124b0 : (t174 != t178) = false := by simpa using c124
              (try (have c124b1 : decide (t174 = t178) = true := by simpa using c124))
              (try (have c124b2 : (t174 == t178) = true := by simpa using c124))
              clear c124
              by_cases c147 : (!(t180 == t184) || (!(t181 == t185))) = true
              · rw [if_pos c147] at H
                have c147b0 : (!(t180 == t184) || (!(t181 == t185))) = true := c147
                clear c147
                have H' := Aside0.mk H
                clear H
                have hnb148 := NB167_162.out
                have hnc148 := NB162_167.out
                have hnb149 := NB167_171.out
                have hnc149 := NB171_167.out
                have hnb150 := NB167_175.out
                have hnc150 := NB175_167.out
                have hnb151 := NB167_179.out
                have hnc151 := NB179_167.out
                have hnb152 := NB167_183.out
                have hnc152 := NB183_167.out
                have hnb153 := NB167_187.out
                have hnc153 := NB187_167.out
                have hcz154_0 : w71.cell? ⟨gb167, 0, none⟩ = some (.int .i64 t164) := (blk_cell BK167.out 0).trans rfl
                have hcz154_1 : w71.cell? ⟨gb167, 1, none⟩ = some (.int .i64 t165) := (blk_cell BK167.out 1).trans rfl
                have hfz154_0 := blk_frozen BK167.out 0
                have hfz154_1 := blk_frozen BK167.out 1
                have hnb155 := NB171_162.out
                have hnc155 := NB162_171.out
                have hnb156 := NB171_175.out
                have hnc156 := NB175_171.out
                have hnb157 := NB171_179.out
                have hnc157 := NB179_171.out
                have hnb158 := NB171_183.out
                have hnc158 := NB183_171.out
                have hnb159 := NB171_187.out
                have hnc159 := NB187_171.out
                have hcz160_0 : w71.cell? ⟨gb171, 0, none⟩ = some (.int .i64 t168) := (blk_cell BK171.out 0).trans rfl
                have hcz160_1 : w71.cell? ⟨gb171, 1, none⟩ = some (.int .i64 t169) := (blk_cell BK171.out 1).trans rfl
                have hfz160_0 := blk_frozen BK171.out 0
                have hfz160_1 := blk_frozen BK171.out 1
                have hnb161 := NB175_162.out
                have hnc161 := NB162_175.out
                have hnb162 := NB175_179.out
                have hnc162 := NB179_175.out
                have hnb163 := NB175_183.out
                have hnc163 := NB183_175.out
                have hnb164 := NB175_187.out
                have hnc164 := NB187_175.out
                have hcz165_0 : w71.cell? ⟨gb175, 0, none⟩ = some (.int .i64 t172) := (blk_cell BK175.out 0).trans rfl
                have hcz165_1 : w71.cell? ⟨gb175, 1, none⟩ = some (.int .i64 t173) := (blk_cell BK175.out 1).trans rfl
                have hfz165_0 := blk_frozen BK175.out 0
                have hfz165_1 := blk_frozen BK175.out 1
                have hnb166 := NB179_162.out
                have hnc166 := NB162_179.out
                have hnb167 := NB179_183.out
                have hnc167 := NB183_179.out
                have hnb168 := NB179_187.out
                have hnc168 := NB187_179.out
                have hcz169_0 : w71.cell? ⟨gb179, 0, none⟩ = some (.int .i64 t176) := (blk_cell BK179.out 0).trans rfl
                have hcz169_1 : w71.cell? ⟨gb179, 1, none⟩ = some (.int .i64 t177) := (blk_cell BK179.out 1).trans rfl
                have hfz169_0 := blk_frozen BK179.out 0
                have hfz169_1 := blk_frozen BK179.out 1
                have hnb170 := NB183_162.out
                have hnc170 := NB162_183.out
                have hnb171 := NB183_187.out
                have hnc171 := NB187_183.out
                have hcz172_0 : w71.cell? ⟨gb183, 0, none⟩ = some (.int .i64 t180) := (blk_cell BK183.out 0).trans rfl
                have hcz172_1 : w71.cell? ⟨gb183, 1, none⟩ = some (.int .i64 t181) := (blk_cell BK183.out 1).trans rfl
                have hfz172_0 := blk_frozen BK183.out 0
                have hfz172_1 := blk_frozen BK183.out 1
                have hnb173 := NB187_162.out
                have hnc173 := NB162_187.out
                have hcz174_0 : w71.cell? ⟨gb187, 0, none⟩ = some (.int .i64 t184) := (blk_cell BK187.out 0).trans rfl
                have hcz174_1 : w71.cell? ⟨gb187, 1, none⟩ = some (.int .i64 t185) := (blk_cell BK187.out 1).trans rfl
                have hfz174_0 := blk_frozen BK187.out 0
                have hfz174_1 := blk_frozen BK187.out 1
                go_wp2
                go_meet
                case rel => exact ⟨_, (true), (by first | rfl | (simp; done) | (simp [*]; done)), H', ⟨by first | omega | exact Nat.le_refl _⟩, ⟨by (with_reducible repeat (first | refine blk_drewN ?_ _ | refine blk_drew ?_ | refine blk_alloc ?_ _)); exact BK162.out⟩, ⟨by (with_reducible repeat (first | refine blk_drewN ?_ _ | refine blk_drew ?_ | refine blk_alloc ?_ _)); exact BK167.out⟩, ⟨by (with_reducible repeat (first | refine blk_drewN ?_ _ | refine blk_drew ?_ | refine blk_alloc ?_ _)); exact BK171.out⟩, ⟨by (with_reducible repeat (first | refine blk_drewN ?_ _ | refine blk_drew ?_ | refine blk_alloc ?_ _)); exact BK175.out⟩, ⟨by (with_reducible repeat (first | refine blk_drewN ?_ _ | refine blk_drew ?_ | refine blk_alloc ?_ _)); exact BK179.out⟩, ⟨by (with_reducible repeat (first | refine blk_drewN ?_ _ | refine blk_drew ?_ | refine blk_alloc ?_ _)); exact BK183.out⟩, ⟨by (with_reducible repeat (first | refine blk_drewN ?_ _ | refine blk_drew ?_ | refine blk_alloc ?_ _)); exact BK187.out⟩, ⟨by repeat (first | (with_reducible first | exact HB.out | apply below_alloc | apply pw_below_drewN | apply below_drew1 | refine below_set ?_ GE162.out | refine below_set ?_ GE167.out | refine below_set ?_ GE171.out | refine below_set ?_ GE175.out | refine below_set ?_ GE179.out | refine below_set ?_ GE183.out | refine below_set ?_ GE187.out) | exact HB.out)⟩⟩
              · rw [if_neg c147] at H
                have c147b0 : (!(t180 == t184) || (!(t181 == t185))) = false := by simpa using c147
                clear c147
                by_cases c175 : (t182 != t186) = true
                · rw [if_pos c175] at H
                  have c175b0 : (t182 != t186) = true := c175
                  (try (have c175b1 : decide (t182 = t186) = false := by simpa using c175))
                  (try (have c175b2 : (t182 == t186) = false := by simpa using c175))
                  (try (have c175b3 : ¬ (t182 = t186) := by simpa using c175))
                  clear c175
                  have H' := Aside0.mk H
                  clear H
                  have hnb176 := NB167_162.out
                  have hnc176 := NB162_167.out
                  have hnb177 := NB167_171.out
                  have hnc177 := NB171_167.out
                  have hnb178 := NB167_175.out
                  have hnc178 := NB175_167.out
                  have hnb179 := NB167_179.out
                  have hnc179 := NB179_167.out
                  have hnb180 := NB167_183.out
                  have hnc180 := NB183_167.out
                  have hnb181 := NB167_187.out
                  have hnc181 := NB187_167.out
                  have hcz182_0 : w71.cell? ⟨gb167, 0, none⟩ = some (.int .i64 t164) := (blk_cell BK167.out 0).trans rfl
                  have hcz182_1 : w71.cell? ⟨gb167, 1, none⟩ = some (.int .i64 t165) := (blk_cell BK167.out 1).trans rfl
                  have hfz182_0 := blk_frozen BK167.out 0
                  have hfz182_1 := blk_frozen BK167.out 1
                  have hnb183 := NB171_162.out
                  have hnc183 := NB162_171.out
                  have hnb184 := NB171_175.out
                  have hnc184 := NB175_171.out
                  have hnb185 := NB171_179.out
                  have hnc185 := NB179_171.out
                  have hnb186 := NB171_183.out
                  have hnc186 := NB183_171.out
                  have hnb187 := NB171_187.out
                  have hnc187 := NB187_171.out
                  have hcz188_0 : w71.cell? ⟨gb171, 0, none⟩ = some (.int .i64 t168) := (blk_cell BK171.out 0).trans rfl
                  have hcz188_1 : w71.cell? ⟨gb171, 1, none⟩ = some (.int .i64 t169) := (blk_cell BK171.out 1).trans rfl
                  have hfz188_0 := blk_frozen BK171.out 0
                  have hfz188_1 := blk_frozen BK171.out 1
                  have hnb189 := NB175_162.out
                  have hnc189 := NB162_175.out
                  have hnb190 := NB175_179.out
                  have hnc190 := NB179_175.out
                  have hnb191 := NB175_183.out
                  have hnc191 := NB183_175.out
                  have hnb192 := NB175_187.out
                  have hnc192 := NB187_175.out
                  have hcz193_0 : w71.cell? ⟨gb175, 0, none⟩ = some (.int .i64 t172) := (blk_cell BK175.out 0).trans rfl
                  have hcz193_1 : w71.cell? ⟨gb175, 1, none⟩ = some (.int .i64 t173) := (blk_cell BK175.out 1).trans rfl
                  have hfz193_0 := blk_frozen BK175.out 0
                  have hfz193_1 := blk_frozen BK175.out 1
                  have hnb194 := NB179_162.out
                  have hnc194 := NB162_179.out
                  have hnb195 := NB179_183.out
                  have hnc195 := NB183_179.out
                  have hnb196 := NB179_187.out
                  have hnc196 := NB187_179.out
                  have hcz197_0 : w71.cell? ⟨gb179, 0, none⟩ = some (.int .i64 t176) := (blk_cell BK179.out 0).trans rfl
                  have hcz197_1 : w71.cell? ⟨gb179, 1, none⟩ = some (.int .i64 t177) := (blk_cell BK179.out 1).trans rfl
                  have hfz197_0 := blk_frozen BK179.out 0
                  have hfz197_1 := blk_frozen BK179.out 1
                  have hnb198 := NB183_162.out
                  have hnc198 := NB162_183.out
                  have hnb199 := NB183_187.out
                  have hnc199 := NB187_183.out
                  have hcz200_0 : w71.cell? ⟨gb183, 0, none⟩ = some (.int .i64 t180) := (blk_cell BK183.out 0).trans rfl
                  have hcz200_1 : w71.cell? ⟨gb183, 1, none⟩ = some (.int .i64 t181) := (blk_cell BK183.out 1).trans rfl
                  have hfz200_0 := blk_frozen BK183.out 0
                  have hfz200_1 := blk_frozen BK183.out 1
                  have hnb201 := NB187_162.out
                  have hnc201 := NB162_187.out
                  have hcz202_0 : w71.cell? ⟨gb187, 0, none⟩ = some (.int .i64 t184) := (blk_cell BK187.out 0).trans rfl
                  have hcz202_1 : w71.cell? ⟨gb187, 1, none⟩ = some (.int .i64 t185) := (blk_cell BK187.out 1).trans rfl
                  have hfz202_0 := blk_frozen BK187.out 0
                  have hfz202_1 := blk_frozen BK187.out 1
                  go_wp2
                  go_meet
                  case rel => exact ⟨_, (true), (by first | rfl | (simp; done) | (simp [*]; done)), H', ⟨by first | omega | exact Nat.le_refl _⟩, ⟨by (with_reducible repeat (first | refine blk_drewN ?_ _ | refine blk_drew ?_ | refine blk_alloc ?_ _)); exact BK162.out⟩, ⟨by (with_reducible repeat (first | refine blk_drewN ?_ _ | refine blk_drew ?_ | refine blk_alloc ?_ _)); exact BK167.out⟩, ⟨by (with_reducible repeat (first | refine blk_drewN ?_ _ | refine blk_drew ?_ | refine blk_alloc ?_ _)); exact BK171.out⟩, ⟨by (with_reducible repeat (first | refine blk_drewN ?_ _ | refine blk_drew ?_ | refine blk_alloc ?_ _)); exact BK175.out⟩, ⟨by (with_reducible repeat (first | refine blk_drewN ?_ _ | refine blk_drew ?_ | refine blk_alloc ?_ _)); exact BK179.out⟩, ⟨by (with_reducible repeat (first | refine blk_drewN ?_ _ | refine blk_drew ?_ | refine blk_alloc ?_ _)); exact BK183.out⟩, ⟨by (with_reducible repeat (first | refine blk_drewN ?_ _ | refine blk_drew ?_ | refine blk_alloc ?_ _)); exact BK187.out⟩, ⟨by repeat (first | (with_reducible first | exact HB.out | apply below_alloc | apply pw_below_drewN | apply below_drew1 | refine below_set ?_ GE162.out | refine below_set ?_ GE167.out | refine below_set ?_ GE171.out | refine below_set ?_ GE175.out | refine below_set ?_ GE179.out | refine below_set ?_ GE183.out | refine below_set ?_ GE187.out) | exact HB.out)⟩⟩
                · rw [if_neg c175] at H
                  have c175b0 : (t182 != t186) = false := by simpa using c175
                  (try (have c175b1 : decide (t182 = t186) = true := by simpa using c175))
                  (try (have c175b2 : (t182 == t186) = true := by simpa using c175))
                  clear c175
                  have H' := Aside0.mk H
                  clear H
                  have hnb203 := NB167_162.out
                  have hnc203 := NB162_167.out
                  have hnb204 := NB167_171.out
                  have hnc204 := NB171_167.out
                  have hnb205 := NB167_175.out
                  have hnc205 := NB175_167.out
                  have hnb206 := NB167_179.out
                  have hnc206 := NB179_167.out
                  have hnb207 := NB167_183.out
                  have hnc207 := NB183_167.out
                  have hnb208 := NB167_187.out
                  have hnc208 := NB187_167.out
                  have hcz209_0 : w71.cell? ⟨gb167, 0, none⟩ = some (.int .i64 t164) := (blk_cell BK167.out 0).trans rfl
                  have hcz209_1 : w71.cell? ⟨gb167, 1, none⟩ = some (.int .i64 t165) := (blk_cell BK167.out 1).trans rfl
                  have hfz209_0 := blk_frozen BK167.out 0
                  have hfz209_1 := blk_frozen BK167.out 1
                  have hnb210 := NB171_162.out
                  have hnc210 := NB162_171.out
                  have hnb211 := NB171_175.out
                  have hnc211 := NB175_171.out
                  have hnb212 := NB171_179.out
                  have hnc212 := NB179_171.out
                  have hnb213 := NB171_183.out
                  have hnc213 := NB183_171.out
                  have hnb214 := NB171_187.out
                  have hnc214 := NB187_171.out
                  have hcz215_0 : w71.cell? ⟨gb171, 0, none⟩ = some (.int .i64 t168) := (blk_cell BK171.out 0).trans rfl
                  have hcz215_1 : w71.cell? ⟨gb171, 1, none⟩ = some (.int .i64 t169) := (blk_cell BK171.out 1).trans rfl
                  have hfz215_0 := blk_frozen BK171.out 0
                  have hfz215_1 := blk_frozen BK171.out 1
                  have hnb216 := NB175_162.out
                  have hnc216 := NB162_175.out
                  have hnb217 := NB175_179.out
                  have hnc217 := NB179_175.out
                  have hnb218 := NB175_183.out
                  have hnc218 := NB183_175.out
                  have hnb219 := NB175_187.out
                  have hnc219 := NB187_175.out
                  have hcz220_0 : w71.cell? ⟨gb175, 0, none⟩ = some (.int .i64 t172) := (blk_cell BK175.out 0).trans rfl
                  have hcz220_1 : w71.cell? ⟨gb175, 1, none⟩ = some (.int .i64 t173) := (blk_cell BK175.out 1).trans rfl
                  have hfz220_0 := blk_frozen BK175.out 0
                  have hfz220_1 := blk_frozen BK175.out 1
                  have hnb221 := NB179_162.out
                  have hnc221 := NB162_179.out
                  have hnb222 := NB179_183.out
                  have hnc222 := NB183_179.out
                  have hnb223 := NB179_187.out
                  have hnc223 := NB187_179.out
                  have hcz224_0 : w71.cell? ⟨gb179, 0, none⟩ = some (.int .i64 t176) := (blk_cell BK179.out 0).trans rfl
                  have hcz224_1 : w71.cell? ⟨gb179, 1, none⟩ = some (.int .i64 t177) := (blk_cell BK179.out 1).trans rfl
                  have hfz224_0 := blk_frozen BK179.out 0
                  have hfz224_1 := blk_frozen BK179.out 1
                  have hnb225 := NB183_162.out
                  have hnc225 := NB162_183.out
                  have hnb226 := NB183_187.out
                  have hnc226 := NB187_183.out
                  have hcz227_0 : w71.cell? ⟨gb183, 0, none⟩ = some (.int .i64 t180) := (blk_cell BK183.out 0).trans rfl
                  have hcz227_1 : w71.cell? ⟨gb183, 1, none⟩ = some (.int .i64 t181) := (blk_cell BK183.out 1).trans rfl
                  have hfz227_0 := blk_frozen BK183.out 0
                  have hfz227_1 := blk_frozen BK183.out 1
                  have hnb228 := NB187_162.out
                  have hnc228 := NB162_187.out
                  have hcz229_0 : w71.cell? ⟨gb187, 0, none⟩ = some (.int .i64 t184) := (blk_cell BK187.out 0).trans rfl
                  have hcz229_1 : w71.cell? ⟨gb187, 1, none⟩ = some (.int .i64 t185) := (blk_cell BK187.out 1).trans rfl
                  have hfz229_0 := blk_frozen BK187.out 0
                  have hfz229_1 := blk_frozen BK187.out 1
                  go_wp2
                  go_meet
                  case rel => exact ⟨_, (!t194), (by first | rfl | (simp; done) | (simp [*]; done)), H', ⟨by first | omega | exact Nat.le_refl _⟩, ⟨by (with_reducible repeat (first | refine blk_drewN ?_ _ | refine blk_drew ?_ | refine blk_alloc ?_ _)); exact BK162.out⟩, ⟨by (with_reducible repeat (first | refine blk_drewN ?_ _ | refine blk_drew ?_ | refine blk_alloc ?_ _)); exact BK167.out⟩, ⟨by (with_reducible repeat (first | refine blk_drewN ?_ _ | refine blk_drew ?_ | refine blk_alloc ?_ _)); exact BK171.out⟩, ⟨by (with_reducible repeat (first | refine blk_drewN ?_ _ | refine blk_drew ?_ | refine blk_alloc ?_ _)); exact BK175.out⟩, ⟨by (with_reducible repeat (first | refine blk_drewN ?_ _ | refine blk_drew ?_ | refine blk_alloc ?_ _)); exact BK179.out⟩, ⟨by (with_reducible repeat (first | refine blk_drewN ?_ _ | refine blk_drew ?_ | refine blk_alloc ?_ _)); exact BK183.out⟩, ⟨by (with_reducible repeat (first | refine blk_drewN ?_ _ | refine blk_drew ?_ | refine blk_alloc ?_ _)); exact BK187.out⟩, ⟨by repeat (first | (with_reducible first | exact HB.out | apply below_alloc | apply pw_below_drewN | apply below_drew1 | refine below_set ?_ GE162.out | refine below_set ?_ GE167.out | refine below_set ?_ GE171.out | refine below_set ?_ GE175.out | refine below_set ?_ GE179.out | refine below_set ?_ GE183.out | refine below_set ?_ GE187.out) | exact HB.out)⟩⟩
    · replace c72 := Bool.eq_false_iff.mpr c72
      subst c72
      have H1 : (mooringslaw09_MapTells.j0 k a1 t195 t196 true a0_0 a0_1) = some r := by rw [if_neg (show ¬ (false = true) by decide)] at H; exact H
      clear H
      have H := H1
      clear H1
      have H' := Aside0.mk H
      clear H
      go_wp2
      go_meet
      case rel => exact ⟨_, (true), (by first | rfl | (simp; done) | (simp [*]; done)), H', ⟨by first | omega | exact Nat.le_refl _⟩, ⟨by (with_reducible repeat (first | refine blk_drewN ?_ _ | refine blk_drew ?_ | refine blk_alloc ?_ _)); exact BK162.out⟩, ⟨by (with_reducible repeat (first | refine blk_drewN ?_ _ | refine blk_drew ?_ | refine blk_alloc ?_ _)); exact BK167.out⟩, ⟨by (with_reducible repeat (first | refine blk_drewN ?_ _ | refine blk_drew ?_ | refine blk_alloc ?_ _)); exact BK171.out⟩, ⟨by (with_reducible repeat (first | refine blk_drewN ?_ _ | refine blk_drew ?_ | refine blk_alloc ?_ _)); exact BK175.out⟩, ⟨by (with_reducible repeat (first | refine blk_drewN ?_ _ | refine blk_drew ?_ | refine blk_alloc ?_ _)); exact BK179.out⟩, ⟨by (with_reducible repeat (first | refine blk_drewN ?_ _ | refine blk_drew ?_ | refine blk_alloc ?_ _)); exact BK183.out⟩, ⟨by (with_reducible repeat (first | refine blk_drewN ?_ _ | refine blk_drew ?_ | refine blk_alloc ?_ _)); exact BK187.out⟩, ⟨by repeat (first | (with_reducible first | exact HB.out | apply below_alloc | apply pw_below_drewN | apply below_drew1 | refine below_set ?_ GE162.out | refine below_set ?_ GE167.out | refine below_set ?_ GE171.out | refine below_set ?_ GE175.out | refine below_set ?_ GE179.out | refine below_set ?_ GE183.out | refine below_set ?_ GE187.out) | exact HB.out)⟩⟩
  case rest =>
    clear HC16
    try clear c1
    try clear c2
    try clear p2
    try clear c7
    try clear c8
    try clear c9
    try clear c10
    try clear c11
    try clear c12
    try clear c13
    try clear c14
    try clear c15
    try clear c16
    try clear c17
    try clear c18
    try clear c19
    try clear c20
    try clear c21
    try clear c22
    try clear c23
    try clear c24
    try clear c72
    try clear c73
    try clear c73b0
    try clear c74
    try clear c75
    try clear c76
    try clear c77
    try clear c78
    try clear c79
    try clear c81
    try clear c82
    try clear c83
    try clear c84
    try clear c85
    try clear c87
    try clear c87b0
    try clear c87b1
    try clear c87b2
    try clear c88
    try clear c89
    try clear c90
    try clear c91
    try clear c92
    try clear c93
    try clear c95
    try clear c96
    try clear c97
    try clear c98
    try clear c99
    try clear c101
    try clear c101b0
    try clear c102
    try clear c103
    try clear c104
    try clear c105
    try clear c106
    try clear c107
    try clear c109
    try clear c110
    try clear c111
    try clear c112
    try clear c113
    try clear c115
    try clear c116
    try clear c117
    try clear c118
    try clear c120
    try clear c121
    try clear c122
    try clear c124
    try clear c124b0
    try clear c124b1
    try clear c124b2
    try clear c125
    try clear c126
    try clear c127
    try clear c128
    try clear c129
    try clear c130
    try clear c132
    try clear c133
    try clear c134
    try clear c135
    try clear c136
    try clear c138
    try clear c139
    try clear c140
    try clear c141
    try clear c143
    try clear c144
    try clear c145
    try clear c147
    try clear c147b0
    try clear c148
    try clear c149
    try clear c150
    try clear c151
    try clear c152
    try clear c153
    try clear c155
    try clear c156
    try clear c157
    try clear c158
    try clear c159
    try clear c161
    try clear c162
    try clear c163
    try clear c164
    try clear c166
    try clear c167
    try clear c168
    try clear c170
    try clear c171
    try clear c173
    try clear c175
    try clear c175b0
    try clear c175b1
    try clear c175b2
    try clear c176
    try clear c177
    try clear c178
    try clear c179
    try clear c180
    try clear c181
    try clear c183
    try clear c184
    try clear c185
    try clear c186
    try clear c187
    try clear c189
    try clear c190
    try clear c191
    try clear c192
    try clear c194
    try clear c195
    try clear c196
    try clear c198
    try clear c199
    try clear c201
    try clear c203
    try clear c204
    try clear c205
    try clear c206
    try clear c207
    try clear c208
    try clear c210
    try clear c211
    try clear c212
    try clear c213
    try clear c214
    try clear c216
    try clear c217
    try clear c218
    try clear c219
    try clear c221
    try clear c222
    try clear c223
    try clear c225
    try clear c226
    try clear c228
    try clear hcz100_0
    try clear hcz100_1
    try clear hcz108_0
    try clear hcz108_1
    try clear hcz114_0
    try clear hcz114_1
    try clear hcz119_0
    try clear hcz119_1
    try clear hcz123_0
    try clear hcz123_1
    try clear hcz131_0
    try clear hcz131_1
    try clear hcz137_0
    try clear hcz137_1
    try clear hcz142_0
    try clear hcz142_1
    try clear hcz146_0
    try clear hcz146_1
    try clear hcz154_0
    try clear hcz154_1
    try clear hcz160_0
    try clear hcz160_1
    try clear hcz165_0
    try clear hcz165_1
    try clear hcz169_0
    try clear hcz169_1
    try clear hcz172_0
    try clear hcz172_1
    try clear hcz174_0
    try clear hcz174_1
    try clear hcz182_0
    try clear hcz182_1
    try clear hcz188_0
    try clear hcz188_1
    try clear hcz193_0
    try clear hcz193_1
    try clear hcz197_0
    try clear hcz197_1
    try clear hcz200_0
    try clear hcz200_1
    try clear hcz202_0
    try clear hcz202_1
    try clear hcz209_0
    try clear hcz209_1
    try clear hcz215_0
    try clear hcz215_1
    try clear hcz220_0
    try clear hcz220_1
    try clear hcz224_0
    try clear hcz224_1
    try clear hcz227_0
    try clear hcz227_1
    try clear hcz229_0
    try clear hcz229_1
    try clear hcz68_0
    try clear hcz68_1
    try clear hcz70_0
    try clear hcz70_1
    try clear hcz80_0
    try clear hcz80_1
    try clear hcz86_0
    try clear hcz86_1
    try clear hcz94_0
    try clear hcz94_1
    try clear hfz100_0
    try clear hfz100_1
    try clear hfz108_0
    try clear hfz108_1
    try clear hfz114_0
    try clear hfz114_1
    try clear hfz119_0
    try clear hfz119_1
    try clear hfz123_0
    try clear hfz123_1
    try clear hfz131_0
    try clear hfz131_1
    try clear hfz137_0
    try clear hfz137_1
    try clear hfz142_0
    try clear hfz142_1
    try clear hfz146_0
    try clear hfz146_1
    try clear hfz154_0
    try clear hfz154_1
    try clear hfz160_0
    try clear hfz160_1
    try clear hfz165_0
    try clear hfz165_1
    try clear hfz169_0
    try clear hfz169_1
    try clear hfz172_0
    try clear hfz172_1
    try clear hfz174_0
    try clear hfz174_1
    try clear hfz182_0
    try clear hfz182_1
    try clear hfz188_0
    try clear hfz188_1
    try clear hfz193_0
    try clear hfz193_1
    try clear hfz197_0
    try clear hfz197_1
    try clear hfz200_0
    try clear hfz200_1
    try clear hfz202_0
    try clear hfz202_1
    try clear hfz209_0
    try clear hfz209_1
    try clear hfz215_0
    try clear hfz215_1
    try clear hfz220_0
    try clear hfz220_1
    try clear hfz224_0
    try clear hfz224_1
    try clear hfz227_0
    try clear hfz227_1
    try clear hfz229_0
    try clear hfz229_1
    try clear hfz68_0
    try clear hfz68_1
    try clear hfz70_0
    try clear hfz70_1
    try clear hfz80_0
    try clear hfz80_1
    try clear hfz86_0
    try clear hfz86_1
    try clear hfz94_0
    try clear hfz94_1
    obtain ⟨kq, x103_15, rfl, HA, HJ15, BK162, BK167, BK171, BK175, BK179, BK183, BK187, HB⟩ := hcut
    cases kq with
    | zero => exact absurd HA.out (by simp [mooringslaw09_MapTells.j0])
    | succ kj15 =>
      have H := HA.out
      clear HA
      simp only [mooringslaw09_MapTells.j0] at H
      by_cases c230 : x103_15 = true
      · subst c230
        have H1 : (some false) = some r := by rw [if_pos rfl] at H; exact H
        exact absurd (H1.trans (congrArg some HR.out)) (by decide)
      · replace c230 := Bool.eq_false_iff.mpr c230
        subst c230
        have H1 : ((bitmap_May.f a0_0 a0_1).bind fun t197 => (if (t197 == t195) = true then ((bitmap_Has.f a0_0 a0_1 a1).bind fun t198 => (if (t198 == t196) = true then ((bitmap_First.f a0_0 a0_1).bind fun t199 => ((mooringsref09_First.f kj15 a0_0 a0_1).bind fun t200 => (if t199 = t200 then ((bitmap_Count.f a0_0 a0_1).bind fun t201 => ((mooringsref09_Count.f kj15 a0_0 a0_1).bind fun t202 => (some (t201 == t202)))) else (some false)))) else (some false))) else (some false))) = some r := by rw [if_neg (show ¬ (false = true) by decide)] at H; exact H
        clear H
        have H := H1
        clear H1
        replace H := Option.bind_eq_some_iff.mp H
        obtain ⟨t197, A2310, H⟩ := H
        replace H : (if (t197 == t195) = true then ((bitmap_Has.f a0_0 a0_1 a1).bind fun t198 => (if (t198 == t196) = true then ((bitmap_First.f a0_0 a0_1).bind fun t199 => ((mooringsref09_First.f kj15 a0_0 a0_1).bind fun t200 => (if t199 = t200 then ((bitmap_Count.f a0_0 a0_1).bind fun t201 => ((mooringsref09_Count.f kj15 a0_0 a0_1).bind fun t202 => (some (t201 == t202)))) else (some false)))) else (some false))) else (some false)) = some r := H
        have A231 := Aside0.mk A2310
        clear A2310
        by_cases c232 : (t197 == t195) = true
        · rw [if_pos c232] at H
          have c232b0 : (t197 == t195) = true := c232
          (try (have c232b1 : decide (t197 = t195) = true := by simpa using c232))
          (try (have c232b2 : (t197 == t195) = true := by simpa using c232))
          clear c232
          replace H := Option.bind_eq_some_iff.mp H
          obtain ⟨t198, A2330, H⟩ := H
          replace H : (if (t198 == t196) = true then ((bitmap_First.f a0_0 a0_1).bind fun t199 => ((mooringsref09_First.f kj15 a0_0 a0_1).bind fun t200 => (if t199 = t200 then ((bitmap_Count.f a0_0 a0_1).bind fun t201 => ((mooringsref09_Count.f kj15 a0_0 a0_1).bind fun t202 => (some (t201 == t202)))) else (some false)))) else (some false)) = some r := H
          have A233 := Aside0.mk A2330
          clear A2330
          by_cases c234 : (t198 == t196) = true
          · rw [if_pos c234] at H
            have c234b0 : (t198 == t196) = true := c234
            (try (have c234b1 : decide (t198 = t196) = true := by simpa using c234))
            (try (have c234b2 : (t198 == t196) = true := by simpa using c234))
            clear c234
            replace H := Option.bind_eq_some_iff.mp H
            obtain ⟨t199, A2350, H⟩ := H
            replace H : ((mooringsref09_First.f kj15 a0_0 a0_1).bind fun t200 => (if t199 = t200 then ((bitmap_Count.f a0_0 a0_1).bind fun t201 => ((mooringsref09_Count.f kj15 a0_0 a0_1).bind fun t202 => (some (t201 == t202)))) else (some false))) = some r := H
            have A235 := Aside0.mk A2350
            clear A2350
            replace H := Option.bind_eq_some_iff.mp H
            obtain ⟨t200, A2360, H⟩ := H
            replace H : (if t199 = t200 then ((bitmap_Count.f a0_0 a0_1).bind fun t201 => ((mooringsref09_Count.f kj15 a0_0 a0_1).bind fun t202 => (some (t201 == t202)))) else (some false)) = some r := H
            have A236 := Aside0.mk A2360
            clear A2360
            by_cases c237 : t199 = t200
            · rw [if_pos c237] at H
              have c237b0 : (t199 == t200) = true := beq_iff_eq.mpr c237
              have c237b1 : (t199 != t200) = false := bne_eq_false_iff_eq.mpr c237
              clear c237
              replace H := Option.bind_eq_some_iff.mp H
              obtain ⟨t201, A2380, H⟩ := H
              replace H : ((mooringsref09_Count.f kj15 a0_0 a0_1).bind fun t202 => (some (t201 == t202))) = some r := H
              have A238 := Aside0.mk A2380
              clear A2380
              replace H := Option.bind_eq_some_iff.mp H
              obtain ⟨t202, A2390, H⟩ := H
              replace H : (some (t201 == t202)) = some r := H
              have A239 := Aside0.mk A2390
              clear A2390
              obtain rfl := Option.some.inj H
              first
                | exact absurd HR.out (by decide)
                | skip
                  try go_wp2
                  have n0_ := Aside0.mk (blk_drew BK162.out)
                  have n1_ := Aside0.mk (blk_drew BK167.out)
                  have n2_ := Aside0.mk (blk_drew BK171.out)
                  have n3_ := Aside0.mk (blk_drew BK175.out)
                  have n4_ := Aside0.mk (blk_drew BK179.out)
                  have n5_ := Aside0.mk (blk_drew BK183.out)
                  have n6_ := Aside0.mk (blk_drew BK187.out)
                  have n7_ := Aside0.mk (below_drew1 HB.out)
                  clear BK162
                  clear BK167
                  clear BK171
                  clear BK175
                  clear BK179
                  clear BK183
                  clear BK187
                  clear HB
                  have BK162 := n0_
                  have BK167 := n1_
                  have BK171 := n2_
                  have BK175 := n3_
                  have BK179 := n4_
                  have BK183 := n5_
                  have BK187 := n6_
                  have HB := n7_
                  clear n0_ n1_ n2_ n3_ n4_ n5_ n6_ n7_
                  refine start_ (n := 26) (S := fun w' => w'.cell? ⟨gb162, 0, none⟩ = some (.int .i64 a0_0) ∧ w'.cell? ⟨gb162, 1, none⟩ = some (.int .i64 a0_1)) (ds := []) #[false, false, false, false, false, false, false, false, false, false, false, false, false, false, false, false, false, false, false, false, false, false, false, false, false, false] (by kernel_rfl) rfl rfl ⟨(blk_cell BK162.out 0).trans rfl, (blk_cell BK162.out 1).trans rfl⟩ (fun hHeld => ?_); refine with_tabW mooringslaw09_MapTells.tab13 mooringslaw09_MapTells.bits13 (fun HT_ HW_ => ?_)
                  generalize wc.drew = w240 at BK162 BK167 BK171 BK175 BK179 BK183 BK187 HB hHeld ⊢
                  refine pure_ (i := 2) (N := some 106) (v := ?_) (a' := ?_) #[false, false, true, false, false, false, false, false, false, false, false, false, false, false, false, false, false, false, false, false, false, false, false, false, false, false] rfl rfl (any_of HT_.out (by kernel_rfl)) (fun _ _ _ h => h) (Or.inl ⟨by rfl, ?_⟩) ?_ ?_
                  rotate_left
                  · intro w'
                    go_simp
                    with_reducible rfl
                  rotate_left
                  · simp only [Act.put, List.setIfInBounds_toArray, List.set_cons_zero, List.set_cons_succ, i64_w, i32_w]
                    rfl
                  refine take_ (i := 0) (N := some 104) (v := ?_) (a' := ?_) #[true, false, true, false, false, false, false, false, false, false, false, false, false, false, false, false, false, false, false, false, false, false, false, false, false, false] rfl rfl (take_ofW HT_.out HW_.out (by kernel_rfl)) (fun _ _ _ h => h) (Or.inl ⟨by rfl, ?_⟩) hHeld ?_ ?_
                  rotate_left
                  · rintro w' ⟨s0, s1⟩
                    go_simp
                    with_reducible rfl
                  rotate_left
                  · simp only [Act.put, List.setIfInBounds_toArray, List.set_cons_zero, List.set_cons_succ, i64_w, i32_w]
                    rfl
                  refine one_ (i := 1) (N := some 105) #[true, true, true, false, false, false, false, false, false, false, false, false, false, false, false, false, false, false, false, false, false, false, false, false, false, false] rfl rfl (one_of HT_.out (by kernel_rfl)) (by decide) (fun K hK => ?_)
                  refine goes_ Tryd.func12 (by kernel_rfl) rfl #[.agg #[.int .i64 a0_0, .int .i64 a0_1]] (by rfl) rfl rfl (by (try simp only [List.map_toArray, List.map_cons, List.map_nil]); first | done | rfl | (simp only [List.length_drop, List.length_take]; rfl)) ?_
                  with_reducible refine (bitmap_May.calls a0_0 a0_1 t197 _ A231.out).mono ?_
                  rintro e w241 ⟨rfl, hb⟩
                  refine ⟨_, rfl, ?_⟩
                  have n0_ := Aside0.mk (blk_below (g := gb162) (o := .cells #[.int .i64 a0_0, .int .i64 a0_1] 23 (0, 0)) (by (with_reducible repeat (first | refine blk_drewN ?_ _ | refine blk_drew ?_ | refine blk_alloc ?_ _)); exact BK162.out) hb)
                  have n1_ := Aside0.mk (blk_below (g := gb167) (o := .cells #[.int .i64 t164, .int .i64 t165] 23 (0, 0)) (by (with_reducible repeat (first | refine blk_drewN ?_ _ | refine blk_drew ?_ | refine blk_alloc ?_ _)); exact BK167.out) hb)
                  have n2_ := Aside0.mk (blk_below (g := gb171) (o := .cells #[.int .i64 t168, .int .i64 t169] 23 (0, 0)) (by (with_reducible repeat (first | refine blk_drewN ?_ _ | refine blk_drew ?_ | refine blk_alloc ?_ _)); exact BK171.out) hb)
                  have n3_ := Aside0.mk (blk_below (g := gb175) (o := .cells #[.int .i64 t172, .int .i64 t173] 23 (0, 0)) (by (with_reducible repeat (first | refine blk_drewN ?_ _ | refine blk_drew ?_ | refine blk_alloc ?_ _)); exact BK175.out) hb)
                  have n4_ := Aside0.mk (blk_below (g := gb179) (o := .cells #[.int .i64 t176, .int .i64 t177] 23 (0, 0)) (by (with_reducible repeat (first | refine blk_drewN ?_ _ | refine blk_drew ?_ | refine blk_alloc ?_ _)); exact BK179.out) hb)
                  have n5_ := Aside0.mk (blk_below (g := gb183) (o := .cells #[.int .i64 t180, .int .i64 t181] 23 (0, 0)) (by (with_reducible repeat (first | refine blk_drewN ?_ _ | refine blk_drew ?_ | refine blk_alloc ?_ _)); exact BK183.out) hb)
                  have n6_ := Aside0.mk (blk_below (g := gb187) (o := .cells #[.int .i64 t184, .int .i64 t185] 23 (0, 0)) (by (with_reducible repeat (first | refine blk_drewN ?_ _ | refine blk_drew ?_ | refine blk_alloc ?_ _)); exact BK187.out) hb)
                  have n7_ := Aside0.mk (below_step (by repeat (first | (with_reducible first | exact HB.out | apply below_alloc | apply pw_below_drewN | apply below_drew1 | refine below_set ?_ GE162.out | refine below_set ?_ GE167.out | refine below_set ?_ GE171.out | refine below_set ?_ GE175.out | refine below_set ?_ GE179.out | refine below_set ?_ GE183.out | refine below_set ?_ GE187.out) | exact HB.out)) hb)
                  clear BK162
                  clear BK167
                  clear BK171
                  clear BK175
                  clear BK179
                  clear BK183
                  clear BK187
                  clear HB
                  have BK162 := n0_
                  have BK167 := n1_
                  have BK171 := n2_
                  have BK175 := n3_
                  have BK179 := n4_
                  have BK183 := n5_
                  have BK187 := n6_
                  have HB := n7_
                  clear n0_ n1_ n2_ n3_ n4_ n5_ n6_ n7_
                  (try clear hb)
                  (try clear hb2)
                  (try clear hk)
                  (try clear hi)
                  refine hK.out _ _ ⟨(blk_cell BK162.out 0).trans rfl, (blk_cell BK162.out 1).trans rfl⟩ (fun hHeld => ?_)
                  clear hK K
                  refine norm_ (a' := ?_) ?_ ?_
                  rotate_left
                  · show Act.put _ (some 105) _ = _
                    simp only [Act.put, List.setIfInBounds_toArray, List.set_cons_zero, List.set_cons_succ, i64_w, i32_w]
                    rfl
                  refine pure_ (i := 3) (N := some 107) (v := ?_) (a' := ?_) #[true, true, true, true, false, false, false, false, false, false, false, false, false, false, false, false, false, false, false, false, false, false, false, false, false, false] rfl rfl (any_of HT_.out (by kernel_rfl)) (fun _ _ _ h => h) (Or.inl ⟨by rfl, ?_⟩) ?_ ?_
                  rotate_left
                  · intro w'
                    go_simp
                    with_reducible rfl
                  rotate_left
                  · simp only [Act.put, List.setIfInBounds_toArray, List.set_cons_zero, List.set_cons_succ, i64_w, i32_w]
                    rfl
                  refine pure_ (i := 4) (N := some 108) (v := ?_) (a' := ?_) #[true, true, true, true, true, false, false, false, false, false, false, false, false, false, false, false, false, false, false, false, false, false, false, false, false, false] rfl rfl (any_of HT_.out (by kernel_rfl)) (fun _ _ _ h => h) (Or.inl ⟨by rfl, ?_⟩) ?_ ?_
                  rotate_left
                  · intro w'
                    go_simp
                    with_reducible rfl
                  rotate_left
                  · simp only [Act.put, List.setIfInBounds_toArray, List.set_cons_zero, List.set_cons_succ, i64_w, i32_w]
                    rfl
                  refine pure_ (i := 6) (N := some 110) (v := ?_) (a' := ?_) #[true, true, true, true, true, false, true, false, false, false, false, false, false, false, false, false, false, false, false, false, false, false, false, false, false, false] rfl rfl (any_of HT_.out (by kernel_rfl)) (fun _ _ _ h => h) (Or.inl ⟨by rfl, ?_⟩) ?_ ?_
                  rotate_left
                  · intro w'
                    go_simp
                    with_reducible rfl
                  rotate_left
                  · simp only [Act.put, List.setIfInBounds_toArray, List.set_cons_zero, List.set_cons_succ, i64_w, i32_w]
                    rfl
                  refine pure_ (i := 8) (N := some 112) (v := ?_) (a' := ?_) #[true, true, true, true, true, false, true, false, true, false, false, false, false, false, false, false, false, false, false, false, false, false, false, false, false, false] rfl rfl (any_of HT_.out (by kernel_rfl)) (fun _ _ _ h => h) (Or.inl ⟨by rfl, ?_⟩) ?_ ?_
                  rotate_left
                  · intro w'
                    go_simp
                    with_reducible rfl
                  rotate_left
                  · simp only [Act.put, List.setIfInBounds_toArray, List.set_cons_zero, List.set_cons_succ, i64_w, i32_w]
                    rfl
                  refine take_ (i := 5) (N := some 109) (v := ?_) (a' := ?_) #[true, true, true, true, true, true, true, false, true, false, false, false, false, false, false, false, false, false, false, false, false, false, false, false, false, false] rfl rfl (take_ofW HT_.out HW_.out (by kernel_rfl)) (fun _ _ _ h => h) (Or.inl ⟨by rfl, ?_⟩) hHeld ?_ ?_
                  rotate_left
                  · rintro w' ⟨s0, s1⟩
                    go_simp
                    with_reducible rfl
                  rotate_left
                  · simp only [Act.put, List.setIfInBounds_toArray, List.set_cons_zero, List.set_cons_succ, i64_w, i32_w]
                    rfl
                  refine one_ (i := 7) (N := some 111) #[true, true, true, true, true, true, true, true, true, false, false, false, false, false, false, false, false, false, false, false, false, false, false, false, false, false] rfl rfl (one_of HT_.out (by kernel_rfl)) (by decide) (fun K hK => ?_)
                  refine goes_ Tryd.func14 (by kernel_rfl) rfl #[.agg #[.int .i64 a0_0, .int .i64 a0_1], .int .i64 a1] (by rfl) rfl rfl (by (try simp only [List.map_toArray, List.map_cons, List.map_nil]); first | done | rfl | (simp only [List.length_drop, List.length_take]; rfl)) ?_
                  with_reducible refine (bitmap_Has.calls a0_0 a0_1 a1 t198 _ A233.out).mono ?_
                  rintro e w242 ⟨rfl, hb⟩
                  refine ⟨_, rfl, ?_⟩
                  have n0_ := Aside0.mk (blk_below (g := gb162) (o := .cells #[.int .i64 a0_0, .int .i64 a0_1] 23 (0, 0)) (by (with_reducible repeat (first | refine blk_drewN ?_ _ | refine blk_drew ?_ | refine blk_alloc ?_ _)); exact BK162.out) hb)
                  have n1_ := Aside0.mk (blk_below (g := gb167) (o := .cells #[.int .i64 t164, .int .i64 t165] 23 (0, 0)) (by (with_reducible repeat (first | refine blk_drewN ?_ _ | refine blk_drew ?_ | refine blk_alloc ?_ _)); exact BK167.out) hb)
                  have n2_ := Aside0.mk (blk_below (g := gb171) (o := .cells #[.int .i64 t168, .int .i64 t169] 23 (0, 0)) (by (with_reducible repeat (first | refine blk_drewN ?_ _ | refine blk_drew ?_ | refine blk_alloc ?_ _)); exact BK171.out) hb)
                  have n3_ := Aside0.mk (blk_below (g := gb175) (o := .cells #[.int .i64 t172, .int .i64 t173] 23 (0, 0)) (by (with_reducible repeat (first | refine blk_drewN ?_ _ | refine blk_drew ?_ | refine blk_alloc ?_ _)); exact BK175.out) hb)
                  have n4_ := Aside0.mk (blk_below (g := gb179) (o := .cells #[.int .i64 t176, .int .i64 t177] 23 (0, 0)) (by (with_reducible repeat (first | refine blk_drewN ?_ _ | refine blk_drew ?_ | refine blk_alloc ?_ _)); exact BK179.out) hb)
                  have n5_ := Aside0.mk (blk_below (g := gb183) (o := .cells #[.int .i64 t180, .int .i64 t181] 23 (0, 0)) (by (with_reducible repeat (first | refine blk_drewN ?_ _ | refine blk_drew ?_ | refine blk_alloc ?_ _)); exact BK183.out) hb)
                  have n6_ := Aside0.mk (blk_below (g := gb187) (o := .cells #[.int .i64 t184, .int .i64 t185] 23 (0, 0)) (by (with_reducible repeat (first | refine blk_drewN ?_ _ | refine blk_drew ?_ | refine blk_alloc ?_ _)); exact BK187.out) hb)
                  have n7_ := Aside0.mk (below_step (by repeat (first | (with_reducible first | exact HB.out | apply below_alloc | apply pw_below_drewN | apply below_drew1 | refine below_set ?_ GE162.out | refine below_set ?_ GE167.out | refine below_set ?_ GE171.out | refine below_set ?_ GE175.out | refine below_set ?_ GE179.out | refine below_set ?_ GE183.out | refine below_set ?_ GE187.out) | exact HB.out)) hb)
                  clear BK162
                  clear BK167
                  clear BK171
                  clear BK175
                  clear BK179
                  clear BK183
                  clear BK187
                  clear HB
                  have BK162 := n0_
                  have BK167 := n1_
                  have BK171 := n2_
                  have BK175 := n3_
                  have BK179 := n4_
                  have BK183 := n5_
                  have BK187 := n6_
                  have HB := n7_
                  clear n0_ n1_ n2_ n3_ n4_ n5_ n6_ n7_
                  (try clear hb)
                  (try clear hb2)
                  (try clear hk)
                  (try clear hi)
                  refine hK.out _ _ ⟨(blk_cell BK162.out 0).trans rfl, (blk_cell BK162.out 1).trans rfl⟩ (fun hHeld => ?_)
                  clear hK K
                  refine norm_ (a' := ?_) ?_ ?_
                  rotate_left
                  · show Act.put _ (some 111) _ = _
                    simp only [Act.put, List.setIfInBounds_toArray, List.set_cons_zero, List.set_cons_succ, i64_w, i32_w]
                    rfl
                  refine pure_ (i := 9) (N := some 113) (v := ?_) (a' := ?_) #[true, true, true, true, true, true, true, true, true, true, false, false, false, false, false, false, false, false, false, false, false, false, false, false, false, false] rfl rfl (any_of HT_.out (by kernel_rfl)) (fun _ _ _ h => h) (Or.inl ⟨by rfl, ?_⟩) ?_ ?_
                  rotate_left
                  · intro w'
                    go_simp
                    with_reducible rfl
                  rotate_left
                  · simp only [Act.put, List.setIfInBounds_toArray, List.set_cons_zero, List.set_cons_succ, i64_w, i32_w]
                    rfl
                  refine pure_ (i := 10) (N := some 114) (v := ?_) (a' := ?_) #[true, true, true, true, true, true, true, true, true, true, true, false, false, false, false, false, false, false, false, false, false, false, false, false, false, false] rfl rfl (any_of HT_.out (by kernel_rfl)) (fun _ _ _ h => h) (Or.inl ⟨by rfl, ?_⟩) ?_ ?_
                  rotate_left
                  · intro w'
                    go_simp
                    with_reducible rfl
                  rotate_left
                  · simp only [Act.put, List.setIfInBounds_toArray, List.set_cons_zero, List.set_cons_succ, i64_w, i32_w]
                    rfl
                  refine pure_ (i := 11) (N := some 115) (v := ?_) (a' := ?_) #[true, true, true, true, true, true, true, true, true, true, true, true, false, false, false, false, false, false, false, false, false, false, false, false, false, false] rfl rfl (any_of HT_.out (by kernel_rfl)) (fun _ _ _ h => h) (Or.inl ⟨by rfl, ?_⟩) ?_ ?_
                  rotate_left
                  · intro w'
                    go_simp
                    with_reducible rfl
                  rotate_left
                  · simp only [Act.put, List.setIfInBounds_toArray, List.set_cons_zero, List.set_cons_succ, i64_w, i32_w]
                    rfl
                  refine take_ (i := 12) (N := some 116) (v := ?_) (a' := ?_) #[true, true, true, true, true, true, true, true, true, true, true, true, true, false, false, false, false, false, false, false, false, false, false, false, false, false] rfl rfl (take_ofW HT_.out HW_.out (by kernel_rfl)) (fun _ _ _ h => h) (Or.inl ⟨by rfl, ?_⟩) hHeld ?_ ?_
                  rotate_left
                  · rintro w' ⟨s0, s1⟩
                    go_simp
                    with_reducible rfl
                  rotate_left
                  · simp only [Act.put, List.setIfInBounds_toArray, List.set_cons_zero, List.set_cons_succ, i64_w, i32_w]
                    rfl
                  refine take_ (i := 14) (N := some 118) (v := ?_) (a' := ?_) #[true, true, true, true, true, true, true, true, true, true, true, true, true, false, true, false, false, false, false, false, false, false, false, false, false, false] rfl rfl (take_ofW HT_.out HW_.out (by kernel_rfl)) (fun _ _ _ h => h) (Or.inl ⟨by rfl, ?_⟩) hHeld ?_ ?_
                  rotate_left
                  · rintro w' ⟨s0, s1⟩
                    go_simp
                    with_reducible rfl
                  rotate_left
                  · simp only [Act.put, List.setIfInBounds_toArray, List.set_cons_zero, List.set_cons_succ, i64_w, i32_w]
                    rfl
                  refine one_ (i := 13) (N := some 117) #[true, true, true, true, true, true, true, true, true, true, true, true, true, true, true, false, false, false, false, false, false, false, false, false, false, false] rfl rfl (one_of HT_.out (by kernel_rfl)) (by decide) (fun K hK => ?_)
                  refine goes_ Tryd.func11 (by kernel_rfl) rfl #[.agg #[.int .i64 a0_0, .int .i64 a0_1]] (by rfl) rfl rfl (by (try simp only [List.map_toArray, List.map_cons, List.map_nil]); first | done | rfl | (simp only [List.length_drop, List.length_take]; rfl)) ?_
                  with_reducible refine (bitmap_First.calls a0_0 a0_1 t199 _ A235.out (Dev.laid_below HT.out (by repeat (first | (with_reducible first | exact HB.out | apply below_alloc | apply pw_below_drewN | apply below_drew1 | refine below_set ?_ GE162.out | refine below_set ?_ GE167.out | refine below_set ?_ GE171.out | refine below_set ?_ GE175.out | refine below_set ?_ GE179.out | refine below_set ?_ GE183.out | refine below_set ?_ GE187.out) | exact HB.out)))).mono ?_
                  rintro e w243 ⟨rfl, hb⟩
                  refine ⟨_, rfl, ?_⟩
                  have n0_ := Aside0.mk (blk_below (g := gb162) (o := .cells #[.int .i64 a0_0, .int .i64 a0_1] 23 (0, 0)) (by (with_reducible repeat (first | refine blk_drewN ?_ _ | refine blk_drew ?_ | refine blk_alloc ?_ _)); exact BK162.out) hb)
                  have n1_ := Aside0.mk (blk_below (g := gb167) (o := .cells #[.int .i64 t164, .int .i64 t165] 23 (0, 0)) (by (with_reducible repeat (first | refine blk_drewN ?_ _ | refine blk_drew ?_ | refine blk_alloc ?_ _)); exact BK167.out) hb)
                  have n2_ := Aside0.mk (blk_below (g := gb171) (o := .cells #[.int .i64 t168, .int .i64 t169] 23 (0, 0)) (by (with_reducible repeat (first | refine blk_drewN ?_ _ | refine blk_drew ?_ | refine blk_alloc ?_ _)); exact BK171.out) hb)
                  have n3_ := Aside0.mk (blk_below (g := gb175) (o := .cells #[.int .i64 t172, .int .i64 t173] 23 (0, 0)) (by (with_reducible repeat (first | refine blk_drewN ?_ _ | refine blk_drew ?_ | refine blk_alloc ?_ _)); exact BK175.out) hb)
                  have n4_ := Aside0.mk (blk_below (g := gb179) (o := .cells #[.int .i64 t176, .int .i64 t177] 23 (0, 0)) (by (with_reducible repeat (first | refine blk_drewN ?_ _ | refine blk_drew ?_ | refine blk_alloc ?_ _)); exact BK179.out) hb)
                  have n5_ := Aside0.mk (blk_below (g := gb183) (o := .cells #[.int .i64 t180, .int .i64 t181] 23 (0, 0)) (by (with_reducible repeat (first | refine blk_drewN ?_ _ | refine blk_drew ?_ | refine blk_alloc ?_ _)); exact BK183.out) hb)
                  have n6_ := Aside0.mk (blk_below (g := gb187) (o := .cells #[.int .i64 t184, .int .i64 t185] 23 (0, 0)) (by (with_reducible repeat (first | refine blk_drewN ?_ _ | refine blk_drew ?_ | refine blk_alloc ?_ _)); exact BK187.out) hb)
                  have n7_ := Aside0.mk (below_step (by repeat (first | (with_reducible first | exact HB.out | apply below_alloc | apply pw_below_drewN | apply below_drew1 | refine below_set ?_ GE162.out | refine below_set ?_ GE167.out | refine below_set ?_ GE171.out | refine below_set ?_ GE175.out | refine below_set ?_ GE179.out | refine below_set ?_ GE183.out | refine below_set ?_ GE187.out) | exact HB.out)) hb)
                  clear BK162
                  clear BK167
                  clear BK171
                  clear BK175
                  clear BK179
                  clear BK183
                  clear BK187
                  clear HB
                  have BK162 := n0_
                  have BK167 := n1_
                  have BK171 := n2_
                  have BK175 := n3_
                  have BK179 := n4_
                  have BK183 := n5_
                  have BK187 := n6_
                  have HB := n7_
                  clear n0_ n1_ n2_ n3_ n4_ n5_ n6_ n7_
                  (try clear hb)
                  (try clear hb2)
                  (try clear hk)
                  (try clear hi)
                  refine hK.out _ _ ⟨(blk_cell BK162.out 0).trans rfl, (blk_cell BK162.out 1).trans rfl⟩ (fun hHeld => ?_)
                  clear hK K
                  refine norm_ (a' := ?_) ?_ ?_
                  rotate_left
                  · show Act.put _ (some 117) _ = _
                    simp only [Act.put, List.setIfInBounds_toArray, List.set_cons_zero, List.set_cons_succ, i64_w, i32_w]
                    rfl
                  refine one_ (i := 15) (N := some 119) #[true, true, true, true, true, true, true, true, true, true, true, true, true, true, true, true, false, false, false, false, false, false, false, false, false, false] rfl rfl (one_of HT_.out (by kernel_rfl)) (by decide) (fun K hK => ?_)
                  refine goes_ Tryd.func25 (by kernel_rfl) rfl #[.agg #[.int .i64 a0_0, .int .i64 a0_1]] (by rfl) rfl rfl (by (try simp only [List.map_toArray, List.map_cons, List.map_nil]); first | done | rfl | (simp only [List.length_drop, List.length_take]; rfl)) ?_
                  with_reducible refine (mooringsref09_First.calls kj15 a0_0 a0_1 t200 _ A236.out).mono ?_
                  rintro e w244 ⟨rfl, hb⟩
                  refine ⟨_, rfl, ?_⟩
                  have n0_ := Aside0.mk (blk_below (g := gb162) (o := .cells #[.int .i64 a0_0, .int .i64 a0_1] 23 (0, 0)) (by (with_reducible repeat (first | refine blk_drewN ?_ _ | refine blk_drew ?_ | refine blk_alloc ?_ _)); exact BK162.out) hb)
                  have n1_ := Aside0.mk (blk_below (g := gb167) (o := .cells #[.int .i64 t164, .int .i64 t165] 23 (0, 0)) (by (with_reducible repeat (first | refine blk_drewN ?_ _ | refine blk_drew ?_ | refine blk_alloc ?_ _)); exact BK167.out) hb)
                  have n2_ := Aside0.mk (blk_below (g := gb171) (o := .cells #[.int .i64 t168, .int .i64 t169] 23 (0, 0)) (by (with_reducible repeat (first | refine blk_drewN ?_ _ | refine blk_drew ?_ | refine blk_alloc ?_ _)); exact BK171.out) hb)
                  have n3_ := Aside0.mk (blk_below (g := gb175) (o := .cells #[.int .i64 t172, .int .i64 t173] 23 (0, 0)) (by (with_reducible repeat (first | refine blk_drewN ?_ _ | refine blk_drew ?_ | refine blk_alloc ?_ _)); exact BK175.out) hb)
                  have n4_ := Aside0.mk (blk_below (g := gb179) (o := .cells #[.int .i64 t176, .int .i64 t177] 23 (0, 0)) (by (with_reducible repeat (first | refine blk_drewN ?_ _ | refine blk_drew ?_ | refine blk_alloc ?_ _)); exact BK179.out) hb)
                  have n5_ := Aside0.mk (blk_below (g := gb183) (o := .cells #[.int .i64 t180, .int .i64 t181] 23 (0, 0)) (by (with_reducible repeat (first | refine blk_drewN ?_ _ | refine blk_drew ?_ | refine blk_alloc ?_ _)); exact BK183.out) hb)
                  have n6_ := Aside0.mk (blk_below (g := gb187) (o := .cells #[.int .i64 t184, .int .i64 t185] 23 (0, 0)) (by (with_reducible repeat (first | refine blk_drewN ?_ _ | refine blk_drew ?_ | refine blk_alloc ?_ _)); exact BK187.out) hb)
                  have n7_ := Aside0.mk (below_step (by repeat (first | (with_reducible first | exact HB.out | apply below_alloc | apply pw_below_drewN | apply below_drew1 | refine below_set ?_ GE162.out | refine below_set ?_ GE167.out | refine below_set ?_ GE171.out | refine below_set ?_ GE175.out | refine below_set ?_ GE179.out | refine below_set ?_ GE183.out | refine below_set ?_ GE187.out) | exact HB.out)) hb)
                  clear BK162
                  clear BK167
                  clear BK171
                  clear BK175
                  clear BK179
                  clear BK183
                  clear BK187
                  clear HB
                  have BK162 := n0_
                  have BK167 := n1_
                  have BK171 := n2_
                  have BK175 := n3_
                  have BK179 := n4_
                  have BK183 := n5_
                  have BK187 := n6_
                  have HB := n7_
                  clear n0_ n1_ n2_ n3_ n4_ n5_ n6_ n7_
                  (try clear hb)
                  (try clear hb2)
                  (try clear hk)
                  (try clear hi)
                  refine hK.out _ _ ⟨(blk_cell BK162.out 0).trans rfl, (blk_cell BK162.out 1).trans rfl⟩ (fun hHeld => ?_)
                  clear hK K
                  refine norm_ (a' := ?_) ?_ ?_
                  rotate_left
                  · show Act.put _ (some 119) _ = _
                    simp only [Act.put, List.setIfInBounds_toArray, List.set_cons_zero, List.set_cons_succ, i64_w, i32_w]
                    rfl
                  refine pure_ (i := 16) (N := some 120) (v := ?_) (a' := ?_) #[true, true, true, true, true, true, true, true, true, true, true, true, true, true, true, true, true, false, false, false, false, false, false, false, false, false] rfl rfl (any_of HT_.out (by kernel_rfl)) (fun _ _ _ h => h) (Or.inl ⟨by rfl, ?_⟩) ?_ ?_
                  rotate_left
                  · intro w'
                    go_simp
                    with_reducible rfl
                  rotate_left
                  · simp only [Act.put, List.setIfInBounds_toArray, List.set_cons_zero, List.set_cons_succ, i64_w, i32_w]
                    rfl
                  refine pure_ (i := 17) (N := some 121) (v := ?_) (a' := ?_) #[true, true, true, true, true, true, true, true, true, true, true, true, true, true, true, true, true, true, false, false, false, false, false, false, false, false] rfl rfl (any_of HT_.out (by kernel_rfl)) (fun _ _ _ h => h) (Or.inl ⟨by rfl, ?_⟩) ?_ ?_
                  rotate_left
                  · intro w'
                    go_simp
                    with_reducible rfl
                  rotate_left
                  · simp only [Act.put, List.setIfInBounds_toArray, List.set_cons_zero, List.set_cons_succ, i64_w, i32_w]
                    rfl
                  refine pure_ (i := 18) (N := some 122) (v := ?_) (a' := ?_) #[true, true, true, true, true, true, true, true, true, true, true, true, true, true, true, true, true, true, true, false, false, false, false, false, false, false] rfl rfl (any_of HT_.out (by kernel_rfl)) (fun _ _ _ h => h) (Or.inl ⟨by rfl, ?_⟩) ?_ ?_
                  rotate_left
                  · intro w'
                    go_simp
                    with_reducible rfl
                  rotate_left
                  · simp only [Act.put, List.setIfInBounds_toArray, List.set_cons_zero, List.set_cons_succ, i64_w, i32_w]
                    rfl
                  refine take_ (i := 19) (N := some 123) (v := ?_) (a' := ?_) #[true, true, true, true, true, true, true, true, true, true, true, true, true, true, true, true, true, true, true, true, false, false, false, false, false, false] rfl rfl (take_ofW HT_.out HW_.out (by kernel_rfl)) (fun _ _ _ h => h) (Or.inl ⟨by rfl, ?_⟩) hHeld ?_ ?_
                  rotate_left
                  · rintro w' ⟨s0, s1⟩
                    go_simp
                    with_reducible rfl
                  rotate_left
                  · simp only [Act.put, List.setIfInBounds_toArray, List.set_cons_zero, List.set_cons_succ, i64_w, i32_w]
                    rfl
                  refine take_ (i := 21) (N := some 125) (v := ?_) (a' := ?_) #[true, true, true, true, true, true, true, true, true, true, true, true, true, true, true, true, true, true, true, true, false, true, false, false, false, false] rfl rfl (take_ofW HT_.out HW_.out (by kernel_rfl)) (fun _ _ _ h => h) (Or.inl ⟨by rfl, ?_⟩) hHeld ?_ ?_
                  rotate_left
                  · rintro w' ⟨s0, s1⟩
                    go_simp
                    with_reducible rfl
                  rotate_left
                  · simp only [Act.put, List.setIfInBounds_toArray, List.set_cons_zero, List.set_cons_succ, i64_w, i32_w]
                    rfl
                  refine one_ (i := 20) (N := some 124) #[true, true, true, true, true, true, true, true, true, true, true, true, true, true, true, true, true, true, true, true, true, true, false, false, false, false] rfl rfl (one_of HT_.out (by kernel_rfl)) (by decide) (fun K hK => ?_)
                  refine goes_ Tryd.func13 (by kernel_rfl) rfl #[.agg #[.int .i64 a0_0, .int .i64 a0_1]] (by rfl) rfl rfl (by (try simp only [List.map_toArray, List.map_cons, List.map_nil]); first | done | rfl | (simp only [List.length_drop, List.length_take]; rfl)) ?_
                  with_reducible refine (bitmap_Count.calls a0_0 a0_1 t201 _ A238.out).mono ?_
                  rintro e w245 ⟨rfl, hb⟩
                  refine ⟨_, rfl, ?_⟩
                  have n0_ := Aside0.mk (blk_below (g := gb162) (o := .cells #[.int .i64 a0_0, .int .i64 a0_1] 23 (0, 0)) (by (with_reducible repeat (first | refine blk_drewN ?_ _ | refine blk_drew ?_ | refine blk_alloc ?_ _)); exact BK162.out) hb)
                  have n1_ := Aside0.mk (blk_below (g := gb167) (o := .cells #[.int .i64 t164, .int .i64 t165] 23 (0, 0)) (by (with_reducible repeat (first | refine blk_drewN ?_ _ | refine blk_drew ?_ | refine blk_alloc ?_ _)); exact BK167.out) hb)
                  have n2_ := Aside0.mk (blk_below (g := gb171) (o := .cells #[.int .i64 t168, .int .i64 t169] 23 (0, 0)) (by (with_reducible repeat (first | refine blk_drewN ?_ _ | refine blk_drew ?_ | refine blk_alloc ?_ _)); exact BK171.out) hb)
                  have n3_ := Aside0.mk (blk_below (g := gb175) (o := .cells #[.int .i64 t172, .int .i64 t173] 23 (0, 0)) (by (with_reducible repeat (first | refine blk_drewN ?_ _ | refine blk_drew ?_ | refine blk_alloc ?_ _)); exact BK175.out) hb)
                  have n4_ := Aside0.mk (blk_below (g := gb179) (o := .cells #[.int .i64 t176, .int .i64 t177] 23 (0, 0)) (by (with_reducible repeat (first | refine blk_drewN ?_ _ | refine blk_drew ?_ | refine blk_alloc ?_ _)); exact BK179.out) hb)
                  have n5_ := Aside0.mk (blk_below (g := gb183) (o := .cells #[.int .i64 t180, .int .i64 t181] 23 (0, 0)) (by (with_reducible repeat (first | refine blk_drewN ?_ _ | refine blk_drew ?_ | refine blk_alloc ?_ _)); exact BK183.out) hb)
                  have n6_ := Aside0.mk (blk_below (g := gb187) (o := .cells #[.int .i64 t184, .int .i64 t185] 23 (0, 0)) (by (with_reducible repeat (first | refine blk_drewN ?_ _ | refine blk_drew ?_ | refine blk_alloc ?_ _)); exact BK187.out) hb)
                  have n7_ := Aside0.mk (below_step (by repeat (first | (with_reducible first | exact HB.out | apply below_alloc | apply pw_below_drewN | apply below_drew1 | refine below_set ?_ GE162.out | refine below_set ?_ GE167.out | refine below_set ?_ GE171.out | refine below_set ?_ GE175.out | refine below_set ?_ GE179.out | refine below_set ?_ GE183.out | refine below_set ?_ GE187.out) | exact HB.out)) hb)
                  clear BK162
                  clear BK167
                  clear BK171
                  clear BK175
                  clear BK179
                  clear BK183
                  clear BK187
                  clear HB
                  have BK162 := n0_
                  have BK167 := n1_
                  have BK171 := n2_
                  have BK175 := n3_
                  have BK179 := n4_
                  have BK183 := n5_
                  have BK187 := n6_
                  have HB := n7_
                  clear n0_ n1_ n2_ n3_ n4_ n5_ n6_ n7_
                  (try clear hb)
                  (try clear hb2)
                  (try clear hk)
                  (try clear hi)
                  refine hK.out _ _ ⟨(blk_cell BK162.out 0).trans rfl, (blk_cell BK162.out 1).trans rfl⟩ (fun hHeld => ?_)
                  clear hK K
                  refine norm_ (a' := ?_) ?_ ?_
                  rotate_left
                  · show Act.put _ (some 124) _ = _
                    simp only [Act.put, List.setIfInBounds_toArray, List.set_cons_zero, List.set_cons_succ, i64_w, i32_w]
                    rfl
                  refine one_ (i := 22) (N := some 126) #[true, true, true, true, true, true, true, true, true, true, true, true, true, true, true, true, true, true, true, true, true, true, true, false, false, false] rfl rfl (one_of HT_.out (by kernel_rfl)) (by decide) (fun K hK => ?_)
                  refine goes_ Tryd.func26 (by kernel_rfl) rfl #[.agg #[.int .i64 a0_0, .int .i64 a0_1]] (by rfl) rfl rfl (by (try simp only [List.map_toArray, List.map_cons, List.map_nil]); first | done | rfl | (simp only [List.length_drop, List.length_take]; rfl)) ?_
                  with_reducible refine (mooringsref09_Count.calls kj15 a0_0 a0_1 t202 _ A239.out).mono ?_
                  rintro e w246 ⟨rfl, hb⟩
                  refine ⟨_, rfl, ?_⟩
                  have n0_ := Aside0.mk (blk_below (g := gb162) (o := .cells #[.int .i64 a0_0, .int .i64 a0_1] 23 (0, 0)) (by (with_reducible repeat (first | refine blk_drewN ?_ _ | refine blk_drew ?_ | refine blk_alloc ?_ _)); exact BK162.out) hb)
                  have n1_ := Aside0.mk (blk_below (g := gb167) (o := .cells #[.int .i64 t164, .int .i64 t165] 23 (0, 0)) (by (with_reducible repeat (first | refine blk_drewN ?_ _ | refine blk_drew ?_ | refine blk_alloc ?_ _)); exact BK167.out) hb)
                  have n2_ := Aside0.mk (blk_below (g := gb171) (o := .cells #[.int .i64 t168, .int .i64 t169] 23 (0, 0)) (by (with_reducible repeat (first | refine blk_drewN ?_ _ | refine blk_drew ?_ | refine blk_alloc ?_ _)); exact BK171.out) hb)
                  have n3_ := Aside0.mk (blk_below (g := gb175) (o := .cells #[.int .i64 t172, .int .i64 t173] 23 (0, 0)) (by (with_reducible repeat (first | refine blk_drewN ?_ _ | refine blk_drew ?_ | refine blk_alloc ?_ _)); exact BK175.out) hb)
                  have n4_ := Aside0.mk (blk_below (g := gb179) (o := .cells #[.int .i64 t176, .int .i64 t177] 23 (0, 0)) (by (with_reducible repeat (first | refine blk_drewN ?_ _ | refine blk_drew ?_ | refine blk_alloc ?_ _)); exact BK179.out) hb)
                  have n5_ := Aside0.mk (blk_below (g := gb183) (o := .cells #[.int .i64 t180, .int .i64 t181] 23 (0, 0)) (by (with_reducible repeat (first | refine blk_drewN ?_ _ | refine blk_drew ?_ | refine blk_alloc ?_ _)); exact BK183.out) hb)
                  have n6_ := Aside0.mk (blk_below (g := gb187) (o := .cells #[.int .i64 t184, .int .i64 t185] 23 (0, 0)) (by (with_reducible repeat (first | refine blk_drewN ?_ _ | refine blk_drew ?_ | refine blk_alloc ?_ _)); exact BK187.out) hb)
                  have n7_ := Aside0.mk (below_step (by repeat (first | (with_reducible first | exact HB.out | apply below_alloc | apply pw_below_drewN | apply below_drew1 | refine below_set ?_ GE162.out | refine below_set ?_ GE167.out | refine below_set ?_ GE171.out | refine below_set ?_ GE175.out | refine below_set ?_ GE179.out | refine below_set ?_ GE183.out | refine below_set ?_ GE187.out) | exact HB.out)) hb)
                  clear BK162
                  clear BK167
                  clear BK171
                  clear BK175
                  clear BK179
                  clear BK183
                  clear BK187
                  clear HB
                  have BK162 := n0_
                  have BK167 := n1_
                  have BK171 := n2_
                  have BK175 := n3_
                  have BK179 := n4_
                  have BK183 := n5_
                  have BK187 := n6_
                  have HB := n7_
                  clear n0_ n1_ n2_ n3_ n4_ n5_ n6_ n7_
                  (try clear hb)
                  (try clear hb2)
                  (try clear hk)
                  (try clear hi)
                  refine hK.out _ _ ⟨(blk_cell BK162.out 0).trans rfl, (blk_cell BK162.out 1).trans rfl⟩ (fun hHeld => ?_)
                  clear hK K
                  refine norm_ (a' := ?_) ?_ ?_
                  rotate_left
                  · show Act.put _ (some 126) _ = _
                    simp only [Act.put, List.setIfInBounds_toArray, List.set_cons_zero, List.set_cons_succ, i64_w, i32_w]
                    rfl
                  refine pure_ (i := 23) (N := some 127) (v := ?_) (a' := ?_) #[true, true, true, true, true, true, true, true, true, true, true, true, true, true, true, true, true, true, true, true, true, true, true, true, false, false] rfl rfl (any_of HT_.out (by kernel_rfl)) (fun _ _ _ h => h) (Or.inl ⟨by rfl, ?_⟩) ?_ ?_
                  rotate_left
                  · intro w'
                    go_simp
                    with_reducible rfl
                  rotate_left
                  · simp only [Act.put, List.setIfInBounds_toArray, List.set_cons_zero, List.set_cons_succ, i64_w, i32_w]
                    rfl
                  refine pure_ (i := 24) (N := some 128) (v := ?_) (a' := ?_) #[true, true, true, true, true, true, true, true, true, true, true, true, true, true, true, true, true, true, true, true, true, true, true, true, true, false] rfl rfl (any_of HT_.out (by kernel_rfl)) (fun _ _ _ h => h) (Or.inl ⟨by rfl, ?_⟩) ?_ ?_
                  rotate_left
                  · intro w'
                    go_simp
                    with_reducible rfl
                  rotate_left
                  · simp only [Act.put, List.setIfInBounds_toArray, List.set_cons_zero, List.set_cons_succ, i64_w, i32_w]
                    rfl
                  refine pure_ (i := 25) (N := some 6) (v := ?_) (a' := ?_) #[true, true, true, true, true, true, true, true, true, true, true, true, true, true, true, true, true, true, true, true, true, true, true, true, true, true] rfl rfl (any_of HT_.out (by kernel_rfl)) (fun _ _ _ h => h) (Or.inl ⟨by rfl, ?_⟩) ?_ ?_
                  rotate_left
                  · intro w'
                    go_simp
                    with_reducible rfl
                  rotate_left
                  · simp only [Act.put, List.setIfInBounds_toArray, List.set_cons_zero, List.set_cons_succ, i64_w, i32_w]
                    rfl
                  refine done_ (done_of HT_.out (by kernel_rfl)) ?_
                  try go_wp2
                  go_ret
                  exact ⟨by first | rfl | (simp [errW_none, errW_some] <;> rfl) | (simp [*, errW_none, errW_some] <;> rfl), by repeat (first | (with_reducible first | exact HB.out | apply below_alloc | apply pw_below_drewN | apply below_drew1 | refine below_set ?_ GE162.out | refine below_set ?_ GE167.out | refine below_set ?_ GE171.out | refine below_set ?_ GE175.out | refine below_set ?_ GE179.out | refine below_set ?_ GE183.out | refine below_set ?_ GE187.out) | exact HB.out)⟩
            · rw [if_neg c237] at H
              have c237b0 : (t199 == t200) = false := beq_eq_false_iff_ne.mpr c237
              have c237b1 : (t199 != t200) = true := bne_iff_ne.mpr c237
              obtain rfl := Option.some.inj H
              first
                | exact absurd HR.out (by decide)
                | skip
                  try go_wp2
                  have n0_ := Aside0.mk (blk_drew BK162.out)
                  have n1_ := Aside0.mk (blk_drew BK167.out)
                  have n2_ := Aside0.mk (blk_drew BK171.out)
                  have n3_ := Aside0.mk (blk_drew BK175.out)
                  have n4_ := Aside0.mk (blk_drew BK179.out)
                  have n5_ := Aside0.mk (blk_drew BK183.out)
                  have n6_ := Aside0.mk (blk_drew BK187.out)
                  have n7_ := Aside0.mk (below_drew1 HB.out)
                  clear BK162
                  clear BK167
                  clear BK171
                  clear BK175
                  clear BK179
                  clear BK183
                  clear BK187
                  clear HB
                  have BK162 := n0_
                  have BK167 := n1_
                  have BK171 := n2_
                  have BK175 := n3_
                  have BK179 := n4_
                  have BK183 := n5_
                  have BK187 := n6_
                  have HB := n7_
                  clear n0_ n1_ n2_ n3_ n4_ n5_ n6_ n7_
                  refine start_ (n := 26) (S := fun w' => w'.cell? ⟨gb162, 0, none⟩ = some (.int .i64 a0_0) ∧ w'.cell? ⟨gb162, 1, none⟩ = some (.int .i64 a0_1)) (ds := []) #[false, false, false, false, false, false, false, false, false, false, false, false, false, false, false, false, false, false, false, false, false, false, false, false, false, false] (by kernel_rfl) rfl rfl ⟨(blk_cell BK162.out 0).trans rfl, (blk_cell BK162.out 1).trans rfl⟩ (fun hHeld => ?_); refine with_tabW mooringslaw09_MapTells.tab13 mooringslaw09_MapTells.bits13 (fun HT_ HW_ => ?_)
                  generalize wc.drew = w247 at BK162 BK167 BK171 BK175 BK179 BK183 BK187 HB hHeld ⊢
                  refine pure_ (i := 2) (N := some 106) (v := ?_) (a' := ?_) #[false, false, true, false, false, false, false, false, false, false, false, false, false, false, false, false, false, false, false, false, false, false, false, false, false, false] rfl rfl (any_of HT_.out (by kernel_rfl)) (fun _ _ _ h => h) (Or.inl ⟨by rfl, ?_⟩) ?_ ?_
                  rotate_left
                  · intro w'
                    go_simp
                    with_reducible rfl
                  rotate_left
                  · simp only [Act.put, List.setIfInBounds_toArray, List.set_cons_zero, List.set_cons_succ, i64_w, i32_w]
                    rfl
                  refine take_ (i := 0) (N := some 104) (v := ?_) (a' := ?_) #[true, false, true, false, false, false, false, false, false, false, false, false, false, false, false, false, false, false, false, false, false, false, false, false, false, false] rfl rfl (take_ofW HT_.out HW_.out (by kernel_rfl)) (fun _ _ _ h => h) (Or.inl ⟨by rfl, ?_⟩) hHeld ?_ ?_
                  rotate_left
                  · rintro w' ⟨s0, s1⟩
                    go_simp
                    with_reducible rfl
                  rotate_left
                  · simp only [Act.put, List.setIfInBounds_toArray, List.set_cons_zero, List.set_cons_succ, i64_w, i32_w]
                    rfl
                  refine one_ (i := 1) (N := some 105) #[true, true, true, false, false, false, false, false, false, false, false, false, false, false, false, false, false, false, false, false, false, false, false, false, false, false] rfl rfl (one_of HT_.out (by kernel_rfl)) (by decide) (fun K hK => ?_)
                  refine goes_ Tryd.func12 (by kernel_rfl) rfl #[.agg #[.int .i64 a0_0, .int .i64 a0_1]] (by rfl) rfl rfl (by (try simp only [List.map_toArray, List.map_cons, List.map_nil]); first | done | rfl | (simp only [List.length_drop, List.length_take]; rfl)) ?_
                  with_reducible refine (bitmap_May.calls a0_0 a0_1 t197 _ A231.out).mono ?_
                  rintro e w248 ⟨rfl, hb⟩
                  refine ⟨_, rfl, ?_⟩
                  have n0_ := Aside0.mk (blk_below (g := gb162) (o := .cells #[.int .i64 a0_0, .int .i64 a0_1] 23 (0, 0)) (by (with_reducible repeat (first | refine blk_drewN ?_ _ | refine blk_drew ?_ | refine blk_alloc ?_ _)); exact BK162.out) hb)
                  have n1_ := Aside0.mk (blk_below (g := gb167) (o := .cells #[.int .i64 t164, .int .i64 t165] 23 (0, 0)) (by (with_reducible repeat (first | refine blk_drewN ?_ _ | refine blk_drew ?_ | refine blk_alloc ?_ _)); exact BK167.out) hb)
                  have n2_ := Aside0.mk (blk_below (g := gb171) (o := .cells #[.int .i64 t168, .int .i64 t169] 23 (0, 0)) (by (with_reducible repeat (first | refine blk_drewN ?_ _ | refine blk_drew ?_ | refine blk_alloc ?_ _)); exact BK171.out) hb)
                  have n3_ := Aside0.mk (blk_below (g := gb175) (o := .cells #[.int .i64 t172, .int .i64 t173] 23 (0, 0)) (by (with_reducible repeat (first | refine blk_drewN ?_ _ | refine blk_drew ?_ | refine blk_alloc ?_ _)); exact BK175.out) hb)
                  have n4_ := Aside0.mk (blk_below (g := gb179) (o := .cells #[.int .i64 t176, .int .i64 t177] 23 (0, 0)) (by (with_reducible repeat (first | refine blk_drewN ?_ _ | refine blk_drew ?_ | refine blk_alloc ?_ _)); exact BK179.out) hb)
                  have n5_ := Aside0.mk (blk_below (g := gb183) (o := .cells #[.int .i64 t180, .int .i64 t181] 23 (0, 0)) (by (with_reducible repeat (first | refine blk_drewN ?_ _ | refine blk_drew ?_ | refine blk_alloc ?_ _)); exact BK183.out) hb)
                  have n6_ := Aside0.mk (blk_below (g := gb187) (o := .cells #[.int .i64 t184, .int .i64 t185] 23 (0, 0)) (by (with_reducible repeat (first | refine blk_drewN ?_ _ | refine blk_drew ?_ | refine blk_alloc ?_ _)); exact BK187.out) hb)
                  have n7_ := Aside0.mk (below_step (by repeat (first | (with_reducible first | exact HB.out | apply below_alloc | apply pw_below_drewN | apply below_drew1 | refine below_set ?_ GE162.out | refine below_set ?_ GE167.out | refine below_set ?_ GE171.out | refine below_set ?_ GE175.out | refine below_set ?_ GE179.out | refine below_set ?_ GE183.out | refine below_set ?_ GE187.out) | exact HB.out)) hb)
                  clear BK162
                  clear BK167
                  clear BK171
                  clear BK175
                  clear BK179
                  clear BK183
                  clear BK187
                  clear HB
                  have BK162 := n0_
                  have BK167 := n1_
                  have BK171 := n2_
                  have BK175 := n3_
                  have BK179 := n4_
                  have BK183 := n5_
                  have BK187 := n6_
                  have HB := n7_
                  clear n0_ n1_ n2_ n3_ n4_ n5_ n6_ n7_
                  (try clear hb)
                  (try clear hb2)
                  (try clear hk)
                  (try clear hi)
                  refine hK.out _ _ ⟨(blk_cell BK162.out 0).trans rfl, (blk_cell BK162.out 1).trans rfl⟩ (fun hHeld => ?_)
                  clear hK K
                  refine norm_ (a' := ?_) ?_ ?_
                  rotate_left
                  · show Act.put _ (some 105) _ = _
                    simp only [Act.put, List.setIfInBounds_toArray, List.set_cons_zero, List.set_cons_succ, i64_w, i32_w]
                    rfl
                  refine pure_ (i := 3) (N := some 107) (v := ?_) (a' := ?_) #[true, true, true, true, false, false, false, false, false, false, false, false, false, false, false, false, false, false, false, false, false, false, false, false, false, false] rfl rfl (any_of HT_.out (by kernel_rfl)) (fun _ _ _ h => h) (Or.inl ⟨by rfl, ?_⟩) ?_ ?_
                  rotate_left
                  · intro w'
                    go_simp
                    with_reducible rfl
                  rotate_left
                  · simp only [Act.put, List.setIfInBounds_toArray, List.set_cons_zero, List.set_cons_succ, i64_w, i32_w]
                    rfl
                  refine pure_ (i := 4) (N := some 108) (v := ?_) (a' := ?_) #[true, true, true, true, true, false, false, false, false, false, false, false, false, false, false, false, false, false, false, false, false, false, false, false, false, false] rfl rfl (any_of HT_.out (by kernel_rfl)) (fun _ _ _ h => h) (Or.inl ⟨by rfl, ?_⟩) ?_ ?_
                  rotate_left
                  · intro w'
                    go_simp
                    with_reducible rfl
                  rotate_left
                  · simp only [Act.put, List.setIfInBounds_toArray, List.set_cons_zero, List.set_cons_succ, i64_w, i32_w]
                    rfl
                  refine pure_ (i := 6) (N := some 110) (v := ?_) (a' := ?_) #[true, true, true, true, true, false, true, false, false, false, false, false, false, false, false, false, false, false, false, false, false, false, false, false, false, false] rfl rfl (any_of HT_.out (by kernel_rfl)) (fun _ _ _ h => h) (Or.inl ⟨by rfl, ?_⟩) ?_ ?_
                  rotate_left
                  · intro w'
                    go_simp
                    with_reducible rfl
                  rotate_left
                  · simp only [Act.put, List.setIfInBounds_toArray, List.set_cons_zero, List.set_cons_succ, i64_w, i32_w]
                    rfl
                  refine pure_ (i := 8) (N := some 112) (v := ?_) (a' := ?_) #[true, true, true, true, true, false, true, false, true, false, false, false, false, false, false, false, false, false, false, false, false, false, false, false, false, false] rfl rfl (any_of HT_.out (by kernel_rfl)) (fun _ _ _ h => h) (Or.inl ⟨by rfl, ?_⟩) ?_ ?_
                  rotate_left
                  · intro w'
                    go_simp
                    with_reducible rfl
                  rotate_left
                  · simp only [Act.put, List.setIfInBounds_toArray, List.set_cons_zero, List.set_cons_succ, i64_w, i32_w]
                    rfl
                  refine take_ (i := 5) (N := some 109) (v := ?_) (a' := ?_) #[true, true, true, true, true, true, true, false, true, false, false, false, false, false, false, false, false, false, false, false, false, false, false, false, false, false] rfl rfl (take_ofW HT_.out HW_.out (by kernel_rfl)) (fun _ _ _ h => h) (Or.inl ⟨by rfl, ?_⟩) hHeld ?_ ?_
                  rotate_left
                  · rintro w' ⟨s0, s1⟩
                    go_simp
                    with_reducible rfl
                  rotate_left
                  · simp only [Act.put, List.setIfInBounds_toArray, List.set_cons_zero, List.set_cons_succ, i64_w, i32_w]
                    rfl
                  refine one_ (i := 7) (N := some 111) #[true, true, true, true, true, true, true, true, true, false, false, false, false, false, false, false, false, false, false, false, false, false, false, false, false, false] rfl rfl (one_of HT_.out (by kernel_rfl)) (by decide) (fun K hK => ?_)
                  refine goes_ Tryd.func14 (by kernel_rfl) rfl #[.agg #[.int .i64 a0_0, .int .i64 a0_1], .int .i64 a1] (by rfl) rfl rfl (by (try simp only [List.map_toArray, List.map_cons, List.map_nil]); first | done | rfl | (simp only [List.length_drop, List.length_take]; rfl)) ?_
                  with_reducible refine (bitmap_Has.calls a0_0 a0_1 a1 t198 _ A233.out).mono ?_
                  rintro e w249 ⟨rfl, hb⟩
                  refine ⟨_, rfl, ?_⟩
                  have n0_ := Aside0.mk (blk_below (g := gb162) (o := .cells #[.int .i64 a0_0, .int .i64 a0_1] 23 (0, 0)) (by (with_reducible repeat (first | refine blk_drewN ?_ _ | refine blk_drew ?_ | refine blk_alloc ?_ _)); exact BK162.out) hb)
                  have n1_ := Aside0.mk (blk_below (g := gb167) (o := .cells #[.int .i64 t164, .int .i64 t165] 23 (0, 0)) (by (with_reducible repeat (first | refine blk_drewN ?_ _ | refine blk_drew ?_ | refine blk_alloc ?_ _)); exact BK167.out) hb)
                  have n2_ := Aside0.mk (blk_below (g := gb171) (o := .cells #[.int .i64 t168, .int .i64 t169] 23 (0, 0)) (by (with_reducible repeat (first | refine blk_drewN ?_ _ | refine blk_drew ?_ | refine blk_alloc ?_ _)); exact BK171.out) hb)
                  have n3_ := Aside0.mk (blk_below (g := gb175) (o := .cells #[.int .i64 t172, .int .i64 t173] 23 (0, 0)) (by (with_reducible repeat (first | refine blk_drewN ?_ _ | refine blk_drew ?_ | refine blk_alloc ?_ _)); exact BK175.out) hb)
                  have n4_ := Aside0.mk (blk_below (g := gb179) (o := .cells #[.int .i64 t176, .int .i64 t177] 23 (0, 0)) (by (with_reducible repeat (first | refine blk_drewN ?_ _ | refine blk_drew ?_ | refine blk_alloc ?_ _)); exact BK179.out) hb)
                  have n5_ := Aside0.mk (blk_below (g := gb183) (o := .cells #[.int .i64 t180, .int .i64 t181] 23 (0, 0)) (by (with_reducible repeat (first | refine blk_drewN ?_ _ | refine blk_drew ?_ | refine blk_alloc ?_ _)); exact BK183.out) hb)
                  have n6_ := Aside0.mk (blk_below (g := gb187) (o := .cells #[.int .i64 t184, .int .i64 t185] 23 (0, 0)) (by (with_reducible repeat (first | refine blk_drewN ?_ _ | refine blk_drew ?_ | refine blk_alloc ?_ _)); exact BK187.out) hb)
                  have n7_ := Aside0.mk (below_step (by repeat (first | (with_reducible first | exact HB.out | apply below_alloc | apply pw_below_drewN | apply below_drew1 | refine below_set ?_ GE162.out | refine below_set ?_ GE167.out | refine below_set ?_ GE171.out | refine below_set ?_ GE175.out | refine below_set ?_ GE179.out | refine below_set ?_ GE183.out | refine below_set ?_ GE187.out) | exact HB.out)) hb)
                  clear BK162
                  clear BK167
                  clear BK171
                  clear BK175
                  clear BK179
                  clear BK183
                  clear BK187
                  clear HB
                  have BK162 := n0_
                  have BK167 := n1_
                  have BK171 := n2_
                  have BK175 := n3_
                  have BK179 := n4_
                  have BK183 := n5_
                  have BK187 := n6_
                  have HB := n7_
                  clear n0_ n1_ n2_ n3_ n4_ n5_ n6_ n7_
                  (try clear hb)
                  (try clear hb2)
                  (try clear hk)
                  (try clear hi)
                  refine hK.out _ _ ⟨(blk_cell BK162.out 0).trans rfl, (blk_cell BK162.out 1).trans rfl⟩ (fun hHeld => ?_)
                  clear hK K
                  refine norm_ (a' := ?_) ?_ ?_
                  rotate_left
                  · show Act.put _ (some 111) _ = _
                    simp only [Act.put, List.setIfInBounds_toArray, List.set_cons_zero, List.set_cons_succ, i64_w, i32_w]
                    rfl
                  refine pure_ (i := 9) (N := some 113) (v := ?_) (a' := ?_) #[true, true, true, true, true, true, true, true, true, true, false, false, false, false, false, false, false, false, false, false, false, false, false, false, false, false] rfl rfl (any_of HT_.out (by kernel_rfl)) (fun _ _ _ h => h) (Or.inl ⟨by rfl, ?_⟩) ?_ ?_
                  rotate_left
                  · intro w'
                    go_simp
                    with_reducible rfl
                  rotate_left
                  · simp only [Act.put, List.setIfInBounds_toArray, List.set_cons_zero, List.set_cons_succ, i64_w, i32_w]
                    rfl
                  refine pure_ (i := 10) (N := some 114) (v := ?_) (a' := ?_) #[true, true, true, true, true, true, true, true, true, true, true, false, false, false, false, false, false, false, false, false, false, false, false, false, false, false] rfl rfl (any_of HT_.out (by kernel_rfl)) (fun _ _ _ h => h) (Or.inl ⟨by rfl, ?_⟩) ?_ ?_
                  rotate_left
                  · intro w'
                    go_simp
                    with_reducible rfl
                  rotate_left
                  · simp only [Act.put, List.setIfInBounds_toArray, List.set_cons_zero, List.set_cons_succ, i64_w, i32_w]
                    rfl
                  refine pure_ (i := 11) (N := some 115) (v := ?_) (a' := ?_) #[true, true, true, true, true, true, true, true, true, true, true, true, false, false, false, false, false, false, false, false, false, false, false, false, false, false] rfl rfl (any_of HT_.out (by kernel_rfl)) (fun _ _ _ h => h) (Or.inl ⟨by rfl, ?_⟩) ?_ ?_
                  rotate_left
                  · intro w'
                    go_simp
                    with_reducible rfl
                  rotate_left
                  · simp only [Act.put, List.setIfInBounds_toArray, List.set_cons_zero, List.set_cons_succ, i64_w, i32_w]
                    rfl
                  refine take_ (i := 12) (N := some 116) (v := ?_) (a' := ?_) #[true, true, true, true, true, true, true, true, true, true, true, true, true, false, false, false, false, false, false, false, false, false, false, false, false, false] rfl rfl (take_ofW HT_.out HW_.out (by kernel_rfl)) (fun _ _ _ h => h) (Or.inl ⟨by rfl, ?_⟩) hHeld ?_ ?_
                  rotate_left
                  · rintro w' ⟨s0, s1⟩
                    go_simp
                    with_reducible rfl
                  rotate_left
                  · simp only [Act.put, List.setIfInBounds_toArray, List.set_cons_zero, List.set_cons_succ, i64_w, i32_w]
                    rfl
                  refine take_ (i := 14) (N := some 118) (v := ?_) (a' := ?_) #[true, true, true, true, true, true, true, true, true, true, true, true, true, false, true, false, false, false, false, false, false, false, false, false, false, false] rfl rfl (take_ofW HT_.out HW_.out (by kernel_rfl)) (fun _ _ _ h => h) (Or.inl ⟨by rfl, ?_⟩) hHeld ?_ ?_
                  rotate_left
                  · rintro w' ⟨s0, s1⟩
                    go_simp
                    with_reducible rfl
                  rotate_left
                  · simp only [Act.put, List.setIfInBounds_toArray, List.set_cons_zero, List.set_cons_succ, i64_w, i32_w]
                    rfl
                  refine one_ (i := 13) (N := some 117) #[true, true, true, true, true, true, true, true, true, true, true, true, true, true, true, false, false, false, false, false, false, false, false, false, false, false] rfl rfl (one_of HT_.out (by kernel_rfl)) (by decide) (fun K hK => ?_)
                  refine goes_ Tryd.func11 (by kernel_rfl) rfl #[.agg #[.int .i64 a0_0, .int .i64 a0_1]] (by rfl) rfl rfl (by (try simp only [List.map_toArray, List.map_cons, List.map_nil]); first | done | rfl | (simp only [List.length_drop, List.length_take]; rfl)) ?_
                  with_reducible refine (bitmap_First.calls a0_0 a0_1 t199 _ A235.out (Dev.laid_below HT.out (by repeat (first | (with_reducible first | exact HB.out | apply below_alloc | apply pw_below_drewN | apply below_drew1 | refine below_set ?_ GE162.out | refine below_set ?_ GE167.out | refine below_set ?_ GE171.out | refine below_set ?_ GE175.out | refine below_set ?_ GE179.out | refine below_set ?_ GE183.out | refine below_set ?_ GE187.out) | exact HB.out)))).mono ?_
                  rintro e w250 ⟨rfl, hb⟩
                  refine ⟨_, rfl, ?_⟩
                  have n0_ := Aside0.mk (blk_below (g := gb162) (o := .cells #[.int .i64 a0_0, .int .i64 a0_1] 23 (0, 0)) (by (with_reducible repeat (first | refine blk_drewN ?_ _ | refine blk_drew ?_ | refine blk_alloc ?_ _)); exact BK162.out) hb)
                  have n1_ := Aside0.mk (blk_below (g := gb167) (o := .cells #[.int .i64 t164, .int .i64 t165] 23 (0, 0)) (by (with_reducible repeat (first | refine blk_drewN ?_ _ | refine blk_drew ?_ | refine blk_alloc ?_ _)); exact BK167.out) hb)
                  have n2_ := Aside0.mk (blk_below (g := gb171) (o := .cells #[.int .i64 t168, .int .i64 t169] 23 (0, 0)) (by (with_reducible repeat (first | refine blk_drewN ?_ _ | refine blk_drew ?_ | refine blk_alloc ?_ _)); exact BK171.out) hb)
                  have n3_ := Aside0.mk (blk_below (g := gb175) (o := .cells #[.int .i64 t172, .int .i64 t173] 23 (0, 0)) (by (with_reducible repeat (first | refine blk_drewN ?_ _ | refine blk_drew ?_ | refine blk_alloc ?_ _)); exact BK175.out) hb)
                  have n4_ := Aside0.mk (blk_below (g := gb179) (o := .cells #[.int .i64 t176, .int .i64 t177] 23 (0, 0)) (by (with_reducible repeat (first | refine blk_drewN ?_ _ | refine blk_drew ?_ | refine blk_alloc ?_ _)); exact BK179.out) hb)
                  have n5_ := Aside0.mk (blk_below (g := gb183) (o := .cells #[.int .i64 t180, .int .i64 t181] 23 (0, 0)) (by (with_reducible repeat (first | refine blk_drewN ?_ _ | refine blk_drew ?_ | refine blk_alloc ?_ _)); exact BK183.out) hb)
                  have n6_ := Aside0.mk (blk_below (g := gb187) (o := .cells #[.int .i64 t184, .int .i64 t185] 23 (0, 0)) (by (with_reducible repeat (first | refine blk_drewN ?_ _ | refine blk_drew ?_ | refine blk_alloc ?_ _)); exact BK187.out) hb)
                  have n7_ := Aside0.mk (below_step (by repeat (first | (with_reducible first | exact HB.out | apply below_alloc | apply pw_below_drewN | apply below_drew1 | refine below_set ?_ GE162.out | refine below_set ?_ GE167.out | refine below_set ?_ GE171.out | refine below_set ?_ GE175.out | refine below_set ?_ GE179.out | refine below_set ?_ GE183.out | refine below_set ?_ GE187.out) | exact HB.out)) hb)
                  clear BK162
                  clear BK167
                  clear BK171
                  clear BK175
                  clear BK179
                  clear BK183
                  clear BK187
                  clear HB
                  have BK162 := n0_
                  have BK167 := n1_
                  have BK171 := n2_
                  have BK175 := n3_
                  have BK179 := n4_
                  have BK183 := n5_
                  have BK187 := n6_
                  have HB := n7_
                  clear n0_ n1_ n2_ n3_ n4_ n5_ n6_ n7_
                  (try clear hb)
                  (try clear hb2)
                  (try clear hk)
                  (try clear hi)
                  refine hK.out _ _ ⟨(blk_cell BK162.out 0).trans rfl, (blk_cell BK162.out 1).trans rfl⟩ (fun hHeld => ?_)
                  clear hK K
                  refine norm_ (a' := ?_) ?_ ?_
                  rotate_left
                  · show Act.put _ (some 117) _ = _
                    simp only [Act.put, List.setIfInBounds_toArray, List.set_cons_zero, List.set_cons_succ, i64_w, i32_w]
                    rfl
                  refine one_ (i := 15) (N := some 119) #[true, true, true, true, true, true, true, true, true, true, true, true, true, true, true, true, false, false, false, false, false, false, false, false, false, false] rfl rfl (one_of HT_.out (by kernel_rfl)) (by decide) (fun K hK => ?_)
                  refine goes_ Tryd.func25 (by kernel_rfl) rfl #[.agg #[.int .i64 a0_0, .int .i64 a0_1]] (by rfl) rfl rfl (by (try simp only [List.map_toArray, List.map_cons, List.map_nil]); first | done | rfl | (simp only [List.length_drop, List.length_take]; rfl)) ?_
                  with_reducible refine (mooringsref09_First.calls kj15 a0_0 a0_1 t200 _ A236.out).mono ?_
                  rintro e w251 ⟨rfl, hb⟩
                  refine ⟨_, rfl, ?_⟩
                  have n0_ := Aside0.mk (blk_below (g := gb162) (o := .cells #[.int .i64 a0_0, .int .i64 a0_1] 23 (0, 0)) (by (with_reducible repeat (first | refine blk_drewN ?_ _ | refine blk_drew ?_ | refine blk_alloc ?_ _)); exact BK162.out) hb)
                  have n1_ := Aside0.mk (blk_below (g := gb167) (o := .cells #[.int .i64 t164, .int .i64 t165] 23 (0, 0)) (by (with_reducible repeat (first | refine blk_drewN ?_ _ | refine blk_drew ?_ | refine blk_alloc ?_ _)); exact BK167.out) hb)
                  have n2_ := Aside0.mk (blk_below (g := gb171) (o := .cells #[.int .i64 t168, .int .i64 t169] 23 (0, 0)) (by (with_reducible repeat (first | refine blk_drewN ?_ _ | refine blk_drew ?_ | refine blk_alloc ?_ _)); exact BK171.out) hb)
                  have n3_ := Aside0.mk (blk_below (g := gb175) (o := .cells #[.int .i64 t172, .int .i64 t173] 23 (0, 0)) (by (with_reducible repeat (first | refine blk_drewN ?_ _ | refine blk_drew ?_ | refine blk_alloc ?_ _)); exact BK175.out) hb)
                  have n4_ := Aside0.mk (blk_below (g := gb179) (o := .cells #[.int .i64 t176, .int .i64 t177] 23 (0, 0)) (by (with_reducible repeat (first | refine blk_drewN ?_ _ | refine blk_drew ?_ | refine blk_alloc ?_ _)); exact BK179.out) hb)
                  have n5_ := Aside0.mk (blk_below (g := gb183) (o := .cells #[.int .i64 t180, .int .i64 t181] 23 (0, 0)) (by (with_reducible repeat (first | refine blk_drewN ?_ _ | refine blk_drew ?_ | refine blk_alloc ?_ _)); exact BK183.out) hb)
                  have n6_ := Aside0.mk (blk_below (g := gb187) (o := .cells #[.int .i64 t184, .int .i64 t185] 23 (0, 0)) (by (with_reducible repeat (first | refine blk_drewN ?_ _ | refine blk_drew ?_ | refine blk_alloc ?_ _)); exact BK187.out) hb)
                  have n7_ := Aside0.mk (below_step (by repeat (first | (with_reducible first | exact HB.out | apply below_alloc | apply pw_below_drewN | apply below_drew1 | refine below_set ?_ GE162.out | refine below_set ?_ GE167.out | refine below_set ?_ GE171.out | refine below_set ?_ GE175.out | refine below_set ?_ GE179.out | refine below_set ?_ GE183.out | refine below_set ?_ GE187.out) | exact HB.out)) hb)
                  clear BK162
                  clear BK167
                  clear BK171
                  clear BK175
                  clear BK179
                  clear BK183
                  clear BK187
                  clear HB
                  have BK162 := n0_
                  have BK167 := n1_
                  have BK171 := n2_
                  have BK175 := n3_
                  have BK179 := n4_
                  have BK183 := n5_
                  have BK187 := n6_
                  have HB := n7_
                  clear n0_ n1_ n2_ n3_ n4_ n5_ n6_ n7_
                  (try clear hb)
                  (try clear hb2)
                  (try clear hk)
                  (try clear hi)
                  refine hK.out _ _ ⟨(blk_cell BK162.out 0).trans rfl, (blk_cell BK162.out 1).trans rfl⟩ (fun hHeld => ?_)
                  clear hK K
                  refine norm_ (a' := ?_) ?_ ?_
                  rotate_left
                  · show Act.put _ (some 119) _ = _
                    simp only [Act.put, List.setIfInBounds_toArray, List.set_cons_zero, List.set_cons_succ, i64_w, i32_w]
                    rfl
                  refine pure_ (i := 16) (N := some 120) (v := ?_) (a' := ?_) #[true, true, true, true, true, true, true, true, true, true, true, true, true, true, true, true, true, false, false, false, false, false, false, false, false, false] rfl rfl (any_of HT_.out (by kernel_rfl)) (fun _ _ _ h => h) (Or.inl ⟨by rfl, ?_⟩) ?_ ?_
                  rotate_left
                  · intro w'
                    go_simp
                    with_reducible rfl
                  rotate_left
                  · simp only [Act.put, List.setIfInBounds_toArray, List.set_cons_zero, List.set_cons_succ, i64_w, i32_w]
                    rfl
                  refine pure_ (i := 17) (N := some 121) (v := ?_) (a' := ?_) #[true, true, true, true, true, true, true, true, true, true, true, true, true, true, true, true, true, true, false, false, false, false, false, false, false, false] rfl rfl (any_of HT_.out (by kernel_rfl)) (fun _ _ _ h => h) (Or.inl ⟨by rfl, ?_⟩) ?_ ?_
                  rotate_left
                  · intro w'
                    go_simp
                    with_reducible rfl
                  rotate_left
                  · simp only [Act.put, List.setIfInBounds_toArray, List.set_cons_zero, List.set_cons_succ, i64_w, i32_w]
                    rfl
                  refine pure_ (i := 18) (N := some 122) (v := ?_) (a' := ?_) #[true, true, true, true, true, true, true, true, true, true, true, true, true, true, true, true, true, true, true, false, false, false, false, false, false, false] rfl rfl (any_of HT_.out (by kernel_rfl)) (fun _ _ _ h => h) (Or.inl ⟨by rfl, ?_⟩) ?_ ?_
                  rotate_left
                  · intro w'
                    go_simp
                    with_reducible rfl
                  rotate_left
                  · simp only [Act.put, List.setIfInBounds_toArray, List.set_cons_zero, List.set_cons_succ, i64_w, i32_w]
                    rfl
                  refine pure_ (i := 19) (N := some 123) (v := undef) (a' := ?_) #[true, true, true, true, true, true, true, true, true, true, true, true, true, true, true, true, true, true, true, true, false, false, false, false, false, false] rfl rfl (any_of HT_.out (by kernel_rfl)) (fun _ _ _ h => h) (Or.inr ⟨by rfl, rfl⟩) ?_ ?_
                  rotate_left
                  · simp only [Act.put, List.setIfInBounds_toArray, List.set_cons_zero, List.set_cons_succ, i64_w, i32_w]
                    rfl
                  refine pure_ (i := 20) (N := some 124) (v := undef) (a' := ?_) #[true, true, true, true, true, true, true, true, true, true, true, true, true, true, true, true, true, true, true, true, true, false, false, false, false, false] rfl rfl (any_of HT_.out (by kernel_rfl)) (fun _ _ _ h => h) (Or.inr ⟨by rfl, rfl⟩) ?_ ?_
                  rotate_left
                  · simp only [Act.put, List.setIfInBounds_toArray, List.set_cons_zero, List.set_cons_succ, i64_w, i32_w]
                    rfl
                  refine pure_ (i := 21) (N := some 125) (v := undef) (a' := ?_) #[true, true, true, true, true, true, true, true, true, true, true, true, true, true, true, true, true, true, true, true, true, true, false, false, false, false] rfl rfl (any_of HT_.out (by kernel_rfl)) (fun _ _ _ h => h) (Or.inr ⟨by rfl, rfl⟩) ?_ ?_
                  rotate_left
                  · simp only [Act.put, List.setIfInBounds_toArray, List.set_cons_zero, List.set_cons_succ, i64_w, i32_w]
                    rfl
                  refine pure_ (i := 22) (N := some 126) (v := undef) (a' := ?_) #[true, true, true, true, true, true, true, true, true, true, true, true, true, true, true, true, true, true, true, true, true, true, true, false, false, false] rfl rfl (any_of HT_.out (by kernel_rfl)) (fun _ _ _ h => h) (Or.inr ⟨by rfl, rfl⟩) ?_ ?_
                  rotate_left
                  · simp only [Act.put, List.setIfInBounds_toArray, List.set_cons_zero, List.set_cons_succ, i64_w, i32_w]
                    rfl
                  refine pure_ (i := 23) (N := some 127) (v := undef) (a' := ?_) #[true, true, true, true, true, true, true, true, true, true, true, true, true, true, true, true, true, true, true, true, true, true, true, true, false, false] rfl rfl (any_of HT_.out (by kernel_rfl)) (fun _ _ _ h => h) (Or.inr ⟨by rfl, rfl⟩) ?_ ?_
                  rotate_left
                  · simp only [Act.put, List.setIfInBounds_toArray, List.set_cons_zero, List.set_cons_succ, i64_w, i32_w]
                    rfl
                  refine pure_ (i := 24) (N := some 128) (v := ?_) (a' := ?_) #[true, true, true, true, true, true, true, true, true, true, true, true, true, true, true, true, true, true, true, true, true, true, true, true, true, false] rfl rfl (any_of HT_.out (by kernel_rfl)) (fun _ _ _ h => h) (Or.inl ⟨by rfl, ?_⟩) ?_ ?_
                  rotate_left
                  · intro w'
                    go_simp
                    with_reducible rfl
                  rotate_left
                  · simp only [Act.put, List.setIfInBounds_toArray, List.set_cons_zero, List.set_cons_succ, i64_w, i32_w]
                    rfl
                  refine pure_ (i := 25) (N := some 6) (v := ?_) (a' := ?_) #[true, true, true, true, true, true, true, true, true, true, true, true, true, true, true, true, true, true, true, true, true, true, true, true, true, true] rfl rfl (any_of HT_.out (by kernel_rfl)) (fun _ _ _ h => h) (Or.inl ⟨by rfl, ?_⟩) ?_ ?_
                  rotate_left
                  · intro w'
                    go_simp
                    with_reducible rfl
                  rotate_left
                  · simp only [Act.put, List.setIfInBounds_toArray, List.set_cons_zero, List.set_cons_succ, i64_w, i32_w]
                    rfl
                  refine done_ (done_of HT_.out (by kernel_rfl)) ?_
                  try go_wp2
                  go_ret
                  exact ⟨by first | rfl | (simp [errW_none, errW_some] <;> rfl) | (simp [*, errW_none, errW_some] <;> rfl), by repeat (first | (with_reducible first | exact HB.out | apply below_alloc | apply pw_below_drewN | apply below_drew1 | refine below_set ?_ GE162.out | refine below_set ?_ GE167.out | refine below_set ?_ GE171.out | refine below_set ?_ GE175.out | refine below_set ?_ GE179.out | refine below_set ?_ GE183.out | refine below_set ?_ GE187.out) | exact HB.out)⟩
          · rw [if_neg c234] at H
            have c234b0 : (t198 == t196) = false := by simpa using c234
            (try (have c234b1 : decide (t198 = t196) = false := by simpa using c234))
            (try (have c234b2 : (t198 == t196) = false := by simpa using c234))
            (try (have c234b3 : ¬ (t198 = t196) := by simpa using c234))
            clear c234
            obtain rfl := Option.some.inj H
            first
              | exact absurd HR.out (by decide)
              | skip
                try go_wp2
                have n0_ := Aside0.mk (blk_drew BK162.out)
                have n1_ := Aside0.mk (blk_drew BK167.out)
                have n2_ := Aside0.mk (blk_drew BK171.out)
                have n3_ := Aside0.mk (blk_drew BK175.out)
                have n4_ := Aside0.mk (blk_drew BK179.out)
                have n5_ := Aside0.mk (blk_drew BK183.out)
                have n6_ := Aside0.mk (blk_drew BK187.out)
                have n7_ := Aside0.mk (below_drew1 HB.out)
                clear BK162
                clear BK167
                clear BK171
                clear BK175
                clear BK179
                clear BK183
                clear BK187
                clear HB
                have BK162 := n0_
                have BK167 := n1_
                have BK171 := n2_
                have BK175 := n3_
                have BK179 := n4_
                have BK183 := n5_
                have BK187 := n6_
                have HB := n7_
                clear n0_ n1_ n2_ n3_ n4_ n5_ n6_ n7_
                refine start_ (n := 26) (S := fun w' => w'.cell? ⟨gb162, 0, none⟩ = some (.int .i64 a0_0) ∧ w'.cell? ⟨gb162, 1, none⟩ = some (.int .i64 a0_1)) (ds := []) #[false, false, false, false, false, false, false, false, false, false, false, false, false, false, false, false, false, false, false, false, false, false, false, false, false, false] (by kernel_rfl) rfl rfl ⟨(blk_cell BK162.out 0).trans rfl, (blk_cell BK162.out 1).trans rfl⟩ (fun hHeld => ?_); refine with_tabW mooringslaw09_MapTells.tab13 mooringslaw09_MapTells.bits13 (fun HT_ HW_ => ?_)
                generalize wc.drew = w252 at BK162 BK167 BK171 BK175 BK179 BK183 BK187 HB hHeld ⊢
                refine pure_ (i := 2) (N := some 106) (v := ?_) (a' := ?_) #[false, false, true, false, false, false, false, false, false, false, false, false, false, false, false, false, false, false, false, false, false, false, false, false, false, false] rfl rfl (any_of HT_.out (by kernel_rfl)) (fun _ _ _ h => h) (Or.inl ⟨by rfl, ?_⟩) ?_ ?_
                rotate_left
                · intro w'
                  go_simp
                  with_reducible rfl
                rotate_left
                · simp only [Act.put, List.setIfInBounds_toArray, List.set_cons_zero, List.set_cons_succ, i64_w, i32_w]
                  rfl
                refine take_ (i := 0) (N := some 104) (v := ?_) (a' := ?_) #[true, false, true, false, false, false, false, false, false, false, false, false, false, false, false, false, false, false, false, false, false, false, false, false, false, false] rfl rfl (take_ofW HT_.out HW_.out (by kernel_rfl)) (fun _ _ _ h => h) (Or.inl ⟨by rfl, ?_⟩) hHeld ?_ ?_
                rotate_left
                · rintro w' ⟨s0, s1⟩
                  go_simp
                  with_reducible rfl
                rotate_left
                · simp only [Act.put, List.setIfInBounds_toArray, List.set_cons_zero, List.set_cons_succ, i64_w, i32_w]
                  rfl
                refine one_ (i := 1) (N := some 105) #[true, true, true, false, false, false, false, false, false, false, false, false, false, false, false, false, false, false, false, false, false, false, false, false, false, false] rfl rfl (one_of HT_.out (by kernel_rfl)) (by decide) (fun K hK => ?_)
                refine goes_ Tryd.func12 (by kernel_rfl) rfl #[.agg #[.int .i64 a0_0, .int .i64 a0_1]] (by rfl) rfl rfl (by (try simp only [List.map_toArray, List.map_cons, List.map_nil]); first | done | rfl | (simp only [List.length_drop, List.length_take]; rfl)) ?_
                with_reducible refine (bitmap_May.calls a0_0 a0_1 t197 _ A231.out).mono ?_
                rintro e w253 ⟨rfl, hb⟩
                refine ⟨_, rfl, ?_⟩
                have n0_ := Aside0.mk (blk_below (g := gb162) (o := .cells #[.int .i64 a0_0, .int .i64 a0_1] 23 (0, 0)) (by (with_reducible repeat (first | refine blk_drewN ?_ _ | refine blk_drew ?_ | refine blk_alloc ?_ _)); exact BK162.out) hb)
                have n1_ := Aside0.mk (blk_below (g := gb167) (o := .cells #[.int .i64 t164, .int .i64 t165] 23 (0, 0)) (by (with_reducible repeat (first | refine blk_drewN ?_ _ | refine blk_drew ?_ | refine blk_alloc ?_ _)); exact BK167.out) hb)
                have n2_ := Aside0.mk (blk_below (g := gb171) (o := .cells #[.int .i64 t168, .int .i64 t169] 23 (0, 0)) (by (with_reducible repeat (first | refine blk_drewN ?_ _ | refine blk_drew ?_ | refine blk_alloc ?_ _)); exact BK171.out) hb)
                have n3_ := Aside0.mk (blk_below (g := gb175) (o := .cells #[.int .i64 t172, .int .i64 t173] 23 (0, 0)) (by (with_reducible repeat (first | refine blk_drewN ?_ _ | refine blk_drew ?_ | refine blk_alloc ?_ _)); exact BK175.out) hb)
                have n4_ := Aside0.mk (blk_below (g := gb179) (o := .cells #[.int .i64 t176, .int .i64 t177] 23 (0, 0)) (by (with_reducible repeat (first | refine blk_drewN ?_ _ | refine blk_drew ?_ | refine blk_alloc ?_ _)); exact BK179.out) hb)
                have n5_ := Aside0.mk (blk_below (g := gb183) (o := .cells #[.int .i64 t180, .int .i64 t181] 23 (0, 0)) (by (with_reducible repeat (first | refine blk_drewN ?_ _ | refine blk_drew ?_ | refine blk_alloc ?_ _)); exact BK183.out) hb)
                have n6_ := Aside0.mk (blk_below (g := gb187) (o := .cells #[.int .i64 t184, .int .i64 t185] 23 (0, 0)) (by (with_reducible repeat (first | refine blk_drewN ?_ _ | refine blk_drew ?_ | refine blk_alloc ?_ _)); exact BK187.out) hb)
                have n7_ := Aside0.mk (below_step (by repeat (first | (with_reducible first | exact HB.out | apply below_alloc | apply pw_below_drewN | apply below_drew1 | refine below_set ?_ GE162.out | refine below_set ?_ GE167.out | refine below_set ?_ GE171.out | refine below_set ?_ GE175.out | refine below_set ?_ GE179.out | refine below_set ?_ GE183.out | refine below_set ?_ GE187.out) | exact HB.out)) hb)
                clear BK162
                clear BK167
                clear BK171
                clear BK175
                clear BK179
                clear BK183
                clear BK187
                clear HB
                have BK162 := n0_
                have BK167 := n1_
                have BK171 := n2_
                have BK175 := n3_
                have BK179 := n4_
                have BK183 := n5_
                have BK187 := n6_
                have HB := n7_
                clear n0_ n1_ n2_ n3_ n4_ n5_ n6_ n7_
                (try clear hb)
                (try clear hb2)
                (try clear hk)
                (try clear hi)
                refine hK.out _ _ ⟨(blk_cell BK162.out 0).trans rfl, (blk_cell BK162.out 1).trans rfl⟩ (fun hHeld => ?_)
                clear hK K
                refine norm_ (a' := ?_) ?_ ?_
                rotate_left
                · show Act.put _ (some 105) _ = _
                  simp only [Act.put, List.setIfInBounds_toArray, List.set_cons_zero, List.set_cons_succ, i64_w, i32_w]
                  rfl
                refine pure_ (i := 3) (N := some 107) (v := ?_) (a' := ?_) #[true, true, true, true, false, false, false, false, false, false, false, false, false, false, false, false, false, false, false, false, false, false, false, false, false, false] rfl rfl (any_of HT_.out (by kernel_rfl)) (fun _ _ _ h => h) (Or.inl ⟨by rfl, ?_⟩) ?_ ?_
                rotate_left
                · intro w'
                  go_simp
                  with_reducible rfl
                rotate_left
                · simp only [Act.put, List.setIfInBounds_toArray, List.set_cons_zero, List.set_cons_succ, i64_w, i32_w]
                  rfl
                refine pure_ (i := 4) (N := some 108) (v := ?_) (a' := ?_) #[true, true, true, true, true, false, false, false, false, false, false, false, false, false, false, false, false, false, false, false, false, false, false, false, false, false] rfl rfl (any_of HT_.out (by kernel_rfl)) (fun _ _ _ h => h) (Or.inl ⟨by rfl, ?_⟩) ?_ ?_
                rotate_left
                · intro w'
                  go_simp
                  with_reducible rfl
                rotate_left
                · simp only [Act.put, List.setIfInBounds_toArray, List.set_cons_zero, List.set_cons_succ, i64_w, i32_w]
                  rfl
                refine pure_ (i := 6) (N := some 110) (v := ?_) (a' := ?_) #[true, true, true, true, true, false, true, false, false, false, false, false, false, false, false, false, false, false, false, false, false, false, false, false, false, false] rfl rfl (any_of HT_.out (by kernel_rfl)) (fun _ _ _ h => h) (Or.inl ⟨by rfl, ?_⟩) ?_ ?_
                rotate_left
                · intro w'
                  go_simp
                  with_reducible rfl
                rotate_left
                · simp only [Act.put, List.setIfInBounds_toArray, List.set_cons_zero, List.set_cons_succ, i64_w, i32_w]
                  rfl
                refine pure_ (i := 8) (N := some 112) (v := ?_) (a' := ?_) #[true, true, true, true, true, false, true, false, true, false, false, false, false, false, false, false, false, false, false, false, false, false, false, false, false, false] rfl rfl (any_of HT_.out (by kernel_rfl)) (fun _ _ _ h => h) (Or.inl ⟨by rfl, ?_⟩) ?_ ?_
                rotate_left
                · intro w'
                  go_simp
                  with_reducible rfl
                rotate_left
                · simp only [Act.put, List.setIfInBounds_toArray, List.set_cons_zero, List.set_cons_succ, i64_w, i32_w]
                  rfl
                refine take_ (i := 5) (N := some 109) (v := ?_) (a' := ?_) #[true, true, true, true, true, true, true, false, true, false, false, false, false, false, false, false, false, false, false, false, false, false, false, false, false, false] rfl rfl (take_ofW HT_.out HW_.out (by kernel_rfl)) (fun _ _ _ h => h) (Or.inl ⟨by rfl, ?_⟩) hHeld ?_ ?_
                rotate_left
                · rintro w' ⟨s0, s1⟩
                  go_simp
                  with_reducible rfl
                rotate_left
                · simp only [Act.put, List.setIfInBounds_toArray, List.set_cons_zero, List.set_cons_succ, i64_w, i32_w]
                  rfl
                refine one_ (i := 7) (N := some 111) #[true, true, true, true, true, true, true, true, true, false, false, false, false, false, false, false, false, false, false, false, false, false, false, false, false, false] rfl rfl (one_of HT_.out (by kernel_rfl)) (by decide) (fun K hK => ?_)
                refine goes_ Tryd.func14 (by kernel_rfl) rfl #[.agg #[.int .i64 a0_0, .int .i64 a0_1], .int .i64 a1] (by rfl) rfl rfl (by (try simp only [List.map_toArray, List.map_cons, List.map_nil]); first | done | rfl | (simp only [List.length_drop, List.length_take]; rfl)) ?_
                with_reducible refine (bitmap_Has.calls a0_0 a0_1 a1 t198 _ A233.out).mono ?_
                rintro e w254 ⟨rfl, hb⟩
                refine ⟨_, rfl, ?_⟩
                have n0_ := Aside0.mk (blk_below (g := gb162) (o := .cells #[.int .i64 a0_0, .int .i64 a0_1] 23 (0, 0)) (by (with_reducible repeat (first | refine blk_drewN ?_ _ | refine blk_drew ?_ | refine blk_alloc ?_ _)); exact BK162.out) hb)
                have n1_ := Aside0.mk (blk_below (g := gb167) (o := .cells #[.int .i64 t164, .int .i64 t165] 23 (0, 0)) (by (with_reducible repeat (first | refine blk_drewN ?_ _ | refine blk_drew ?_ | refine blk_alloc ?_ _)); exact BK167.out) hb)
                have n2_ := Aside0.mk (blk_below (g := gb171) (o := .cells #[.int .i64 t168, .int .i64 t169] 23 (0, 0)) (by (with_reducible repeat (first | refine blk_drewN ?_ _ | refine blk_drew ?_ | refine blk_alloc ?_ _)); exact BK171.out) hb)
                have n3_ := Aside0.mk (blk_below (g := gb175) (o := .cells #[.int .i64 t172, .int .i64 t173] 23 (0, 0)) (by (with_reducible repeat (first | refine blk_drewN ?_ _ | refine blk_drew ?_ | refine blk_alloc ?_ _)); exact BK175.out) hb)
                have n4_ := Aside0.mk (blk_below (g := gb179) (o := .cells #[.int .i64 t176, .int .i64 t177] 23 (0, 0)) (by (with_reducible repeat (first | refine blk_drewN ?_ _ | refine blk_drew ?_ | refine blk_alloc ?_ _)); exact BK179.out) hb)
                have n5_ := Aside0.mk (blk_below (g := gb183) (o := .cells #[.int .i64 t180, .int .i64 t181] 23 (0, 0)) (by (with_reducible repeat (first | refine blk_drewN ?_ _ | refine blk_drew ?_ | refine blk_alloc ?_ _)); exact BK183.out) hb)
                have n6_ := Aside0.mk (blk_below (g := gb187) (o := .cells #[.int .i64 t184, .int .i64 t185] 23 (0, 0)) (by (with_reducible repeat (first | refine blk_drewN ?_ _ | refine blk_drew ?_ | refine blk_alloc ?_ _)); exact BK187.out) hb)
                have n7_ := Aside0.mk (below_step (by repeat (first | (with_reducible first | exact HB.out | apply below_alloc | apply pw_below_drewN | apply below_drew1 | refine below_set ?_ GE162.out | refine below_set ?_ GE167.out | refine below_set ?_ GE171.out | refine below_set ?_ GE175.out | refine below_set ?_ GE179.out | refine below_set ?_ GE183.out | refine below_set ?_ GE187.out) | exact HB.out)) hb)
                clear BK162
                clear BK167
                clear BK171
                clear BK175
                clear BK179
                clear BK183
                clear BK187
                clear HB
                have BK162 := n0_
                have BK167 := n1_
                have BK171 := n2_
                have BK175 := n3_
                have BK179 := n4_
                have BK183 := n5_
                have BK187 := n6_
                have HB := n7_
                clear n0_ n1_ n2_ n3_ n4_ n5_ n6_ n7_
                (try clear hb)
                (try clear hb2)
                (try clear hk)
                (try clear hi)
                refine hK.out _ _ ⟨(blk_cell BK162.out 0).trans rfl, (blk_cell BK162.out 1).trans rfl⟩ (fun hHeld => ?_)
                clear hK K
                refine norm_ (a' := ?_) ?_ ?_
                rotate_left
                · show Act.put _ (some 111) _ = _
                  simp only [Act.put, List.setIfInBounds_toArray, List.set_cons_zero, List.set_cons_succ, i64_w, i32_w]
                  rfl
                refine pure_ (i := 9) (N := some 113) (v := ?_) (a' := ?_) #[true, true, true, true, true, true, true, true, true, true, false, false, false, false, false, false, false, false, false, false, false, false, false, false, false, false] rfl rfl (any_of HT_.out (by kernel_rfl)) (fun _ _ _ h => h) (Or.inl ⟨by rfl, ?_⟩) ?_ ?_
                rotate_left
                · intro w'
                  go_simp
                  with_reducible rfl
                rotate_left
                · simp only [Act.put, List.setIfInBounds_toArray, List.set_cons_zero, List.set_cons_succ, i64_w, i32_w]
                  rfl
                refine pure_ (i := 10) (N := some 114) (v := ?_) (a' := ?_) #[true, true, true, true, true, true, true, true, true, true, true, false, false, false, false, false, false, false, false, false, false, false, false, false, false, false] rfl rfl (any_of HT_.out (by kernel_rfl)) (fun _ _ _ h => h) (Or.inl ⟨by rfl, ?_⟩) ?_ ?_
                rotate_left
                · intro w'
                  go_simp
                  with_reducible rfl
                rotate_left
                · simp only [Act.put, List.setIfInBounds_toArray, List.set_cons_zero, List.set_cons_succ, i64_w, i32_w]
                  rfl
                refine pure_ (i := 11) (N := some 115) (v := ?_) (a' := ?_) #[true, true, true, true, true, true, true, true, true, true, true, true, false, false, false, false, false, false, false, false, false, false, false, false, false, false] rfl rfl (any_of HT_.out (by kernel_rfl)) (fun _ _ _ h => h) (Or.inl ⟨by rfl, ?_⟩) ?_ ?_
                rotate_left
                · intro w'
                  go_simp
                  with_reducible rfl
                rotate_left
                · simp only [Act.put, List.setIfInBounds_toArray, List.set_cons_zero, List.set_cons_succ, i64_w, i32_w]
                  rfl
                refine pure_ (i := 12) (N := some 116) (v := undef) (a' := ?_) #[true, true, true, true, true, true, true, true, true, true, true, true, true, false, false, false, false, false, false, false, false, false, false, false, false, false] rfl rfl (any_of HT_.out (by kernel_rfl)) (fun _ _ _ h => h) (Or.inr ⟨by rfl, rfl⟩) ?_ ?_
                rotate_left
                · simp only [Act.put, List.setIfInBounds_toArray, List.set_cons_zero, List.set_cons_succ, i64_w, i32_w]
                  rfl
                refine pure_ (i := 13) (N := some 117) (v := undef) (a' := ?_) #[true, true, true, true, true, true, true, true, true, true, true, true, true, true, false, false, false, false, false, false, false, false, false, false, false, false] rfl rfl (any_of HT_.out (by kernel_rfl)) (fun _ _ _ h => h) (Or.inr ⟨by rfl, rfl⟩) ?_ ?_
                rotate_left
                · simp only [Act.put, List.setIfInBounds_toArray, List.set_cons_zero, List.set_cons_succ, i64_w, i32_w]
                  rfl
                refine pure_ (i := 14) (N := some 118) (v := undef) (a' := ?_) #[true, true, true, true, true, true, true, true, true, true, true, true, true, true, true, false, false, false, false, false, false, false, false, false, false, false] rfl rfl (any_of HT_.out (by kernel_rfl)) (fun _ _ _ h => h) (Or.inr ⟨by rfl, rfl⟩) ?_ ?_
                rotate_left
                · simp only [Act.put, List.setIfInBounds_toArray, List.set_cons_zero, List.set_cons_succ, i64_w, i32_w]
                  rfl
                refine pure_ (i := 15) (N := some 119) (v := undef) (a' := ?_) #[true, true, true, true, true, true, true, true, true, true, true, true, true, true, true, true, false, false, false, false, false, false, false, false, false, false] rfl rfl (any_of HT_.out (by kernel_rfl)) (fun _ _ _ h => h) (Or.inr ⟨by rfl, rfl⟩) ?_ ?_
                rotate_left
                · simp only [Act.put, List.setIfInBounds_toArray, List.set_cons_zero, List.set_cons_succ, i64_w, i32_w]
                  rfl
                refine pure_ (i := 16) (N := some 120) (v := undef) (a' := ?_) #[true, true, true, true, true, true, true, true, true, true, true, true, true, true, true, true, true, false, false, false, false, false, false, false, false, false] rfl rfl (any_of HT_.out (by kernel_rfl)) (fun _ _ _ h => h) (Or.inr ⟨by rfl, rfl⟩) ?_ ?_
                rotate_left
                · simp only [Act.put, List.setIfInBounds_toArray, List.set_cons_zero, List.set_cons_succ, i64_w, i32_w]
                  rfl
                refine pure_ (i := 17) (N := some 121) (v := ?_) (a' := ?_) #[true, true, true, true, true, true, true, true, true, true, true, true, true, true, true, true, true, true, false, false, false, false, false, false, false, false] rfl rfl (any_of HT_.out (by kernel_rfl)) (fun _ _ _ h => h) (Or.inl ⟨by rfl, ?_⟩) ?_ ?_
                rotate_left
                · intro w'
                  go_simp
                  with_reducible rfl
                rotate_left
                · simp only [Act.put, List.setIfInBounds_toArray, List.set_cons_zero, List.set_cons_succ, i64_w, i32_w]
                  rfl
                refine pure_ (i := 18) (N := some 122) (v := ?_) (a' := ?_) #[true, true, true, true, true, true, true, true, true, true, true, true, true, true, true, true, true, true, true, false, false, false, false, false, false, false] rfl rfl (any_of HT_.out (by kernel_rfl)) (fun _ _ _ h => h) (Or.inl ⟨by rfl, ?_⟩) ?_ ?_
                rotate_left
                · intro w'
                  go_simp
                  with_reducible rfl
                rotate_left
                · simp only [Act.put, List.setIfInBounds_toArray, List.set_cons_zero, List.set_cons_succ, i64_w, i32_w]
                  rfl
                refine pure_ (i := 19) (N := some 123) (v := undef) (a' := ?_) #[true, true, true, true, true, true, true, true, true, true, true, true, true, true, true, true, true, true, true, true, false, false, false, false, false, false] rfl rfl (any_of HT_.out (by kernel_rfl)) (fun _ _ _ h => h) (Or.inr ⟨by rfl, rfl⟩) ?_ ?_
                rotate_left
                · simp only [Act.put, List.setIfInBounds_toArray, List.set_cons_zero, List.set_cons_succ, i64_w, i32_w]
                  rfl
                refine pure_ (i := 20) (N := some 124) (v := undef) (a' := ?_) #[true, true, true, true, true, true, true, true, true, true, true, true, true, true, true, true, true, true, true, true, true, false, false, false, false, false] rfl rfl (any_of HT_.out (by kernel_rfl)) (fun _ _ _ h => h) (Or.inr ⟨by rfl, rfl⟩) ?_ ?_
                rotate_left
                · simp only [Act.put, List.setIfInBounds_toArray, List.set_cons_zero, List.set_cons_succ, i64_w, i32_w]
                  rfl
                refine pure_ (i := 21) (N := some 125) (v := undef) (a' := ?_) #[true, true, true, true, true, true, true, true, true, true, true, true, true, true, true, true, true, true, true, true, true, true, false, false, false, false] rfl rfl (any_of HT_.out (by kernel_rfl)) (fun _ _ _ h => h) (Or.inr ⟨by rfl, rfl⟩) ?_ ?_
                rotate_left
                · simp only [Act.put, List.setIfInBounds_toArray, List.set_cons_zero, List.set_cons_succ, i64_w, i32_w]
                  rfl
                refine pure_ (i := 22) (N := some 126) (v := undef) (a' := ?_) #[true, true, true, true, true, true, true, true, true, true, true, true, true, true, true, true, true, true, true, true, true, true, true, false, false, false] rfl rfl (any_of HT_.out (by kernel_rfl)) (fun _ _ _ h => h) (Or.inr ⟨by rfl, rfl⟩) ?_ ?_
                rotate_left
                · simp only [Act.put, List.setIfInBounds_toArray, List.set_cons_zero, List.set_cons_succ, i64_w, i32_w]
                  rfl
                refine pure_ (i := 23) (N := some 127) (v := undef) (a' := ?_) #[true, true, true, true, true, true, true, true, true, true, true, true, true, true, true, true, true, true, true, true, true, true, true, true, false, false] rfl rfl (any_of HT_.out (by kernel_rfl)) (fun _ _ _ h => h) (Or.inr ⟨by rfl, rfl⟩) ?_ ?_
                rotate_left
                · simp only [Act.put, List.setIfInBounds_toArray, List.set_cons_zero, List.set_cons_succ, i64_w, i32_w]
                  rfl
                refine pure_ (i := 24) (N := some 128) (v := ?_) (a' := ?_) #[true, true, true, true, true, true, true, true, true, true, true, true, true, true, true, true, true, true, true, true, true, true, true, true, true, false] rfl rfl (any_of HT_.out (by kernel_rfl)) (fun _ _ _ h => h) (Or.inl ⟨by rfl, ?_⟩) ?_ ?_
                rotate_left
                · intro w'
                  go_simp
                  with_reducible rfl
                rotate_left
                · simp only [Act.put, List.setIfInBounds_toArray, List.set_cons_zero, List.set_cons_succ, i64_w, i32_w]
                  rfl
                refine pure_ (i := 25) (N := some 6) (v := ?_) (a' := ?_) #[true, true, true, true, true, true, true, true, true, true, true, true, true, true, true, true, true, true, true, true, true, true, true, true, true, true] rfl rfl (any_of HT_.out (by kernel_rfl)) (fun _ _ _ h => h) (Or.inl ⟨by rfl, ?_⟩) ?_ ?_
                rotate_left
                · intro w'
                  go_simp
                  with_reducible rfl
                rotate_left
                · simp only [Act.put, List.setIfInBounds_toArray, List.set_cons_zero, List.set_cons_succ, i64_w, i32_w]
                  rfl
                refine done_ (done_of HT_.out (by kernel_rfl)) ?_
                try go_wp2
                go_ret
                exact ⟨by first | rfl | (simp [errW_none, errW_some] <;> rfl) | (simp [*, errW_none, errW_some] <;> rfl), by repeat (first | (with_reducible first | exact HB.out | apply below_alloc | apply pw_below_drewN | apply below_drew1 | refine below_set ?_ GE162.out | refine below_set ?_ GE167.out | refine below_set ?_ GE171.out | refine below_set ?_ GE175.out | refine below_set ?_ GE179.out | refine below_set ?_ GE183.out | refine below_set ?_ GE187.out) | exact HB.out)⟩
        · rw [if_neg c232] at H
          have c232b0 : (t197 == t195) = false := by simpa using c232
          (try (have c232b1 : decide (t197 = t195) = false := by simpa using c232))
          (try (have c232b2 : (t197 == t195) = false := by simpa using c232))
          (try (have c232b3 : ¬ (t197 = t195) := by simpa using c232))
          clear c232
          obtain rfl := Option.some.inj H
          first
            | exact absurd HR.out (by decide)
            | skip
              try go_wp2
              have n0_ := Aside0.mk (blk_drew BK162.out)
              have n1_ := Aside0.mk (blk_drew BK167.out)
              have n2_ := Aside0.mk (blk_drew BK171.out)
              have n3_ := Aside0.mk (blk_drew BK175.out)
              have n4_ := Aside0.mk (blk_drew BK179.out)
              have n5_ := Aside0.mk (blk_drew BK183.out)
              have n6_ := Aside0.mk (blk_drew BK187.out)
              have n7_ := Aside0.mk (below_drew1 HB.out)
              clear BK162
              clear BK167
              clear BK171
              clear BK175
              clear BK179
              clear BK183
              clear BK187
              clear HB
              have BK162 := n0_
              have BK167 := n1_
              have BK171 := n2_
              have BK175 := n3_
              have BK179 := n4_
              have BK183 := n5_
              have BK187 := n6_
              have HB := n7_
              clear n0_ n1_ n2_ n3_ n4_ n5_ n6_ n7_
              refine start_ (n := 26) (S := fun w' => w'.cell? ⟨gb162, 0, none⟩ = some (.int .i64 a0_0) ∧ w'.cell? ⟨gb162, 1, none⟩ = some (.int .i64 a0_1)) (ds := []) #[false, false, false, false, false, false, false, false, false, false, false, false, false, false, false, false, false, false, false, false, false, false, false, false, false, false] (by kernel_rfl) rfl rfl ⟨(blk_cell BK162.out 0).trans rfl, (blk_cell BK162.out 1).trans rfl⟩ (fun hHeld => ?_); refine with_tabW mooringslaw09_MapTells.tab13 mooringslaw09_MapTells.bits13 (fun HT_ HW_ => ?_)
              generalize wc.drew = w255 at BK162 BK167 BK171 BK175 BK179 BK183 BK187 HB hHeld ⊢
              refine pure_ (i := 2) (N := some 106) (v := ?_) (a' := ?_) #[false, false, true, false, false, false, false, false, false, false, false, false, false, false, false, false, false, false, false, false, false, false, false, false, false, false] rfl rfl (any_of HT_.out (by kernel_rfl)) (fun _ _ _ h => h) (Or.inl ⟨by rfl, ?_⟩) ?_ ?_
              rotate_left
              · intro w'
                go_simp
                with_reducible rfl
              rotate_left
              · simp only [Act.put, List.setIfInBounds_toArray, List.set_cons_zero, List.set_cons_succ, i64_w, i32_w]
                rfl
              refine take_ (i := 0) (N := some 104) (v := ?_) (a' := ?_) #[true, false, true, false, false, false, false, false, false, false, false, false, false, false, false, false, false, false, false, false, false, false, false, false, false, false] rfl rfl (take_ofW HT_.out HW_.out (by kernel_rfl)) (fun _ _ _ h => h) (Or.inl ⟨by rfl, ?_⟩) hHeld ?_ ?_
              rotate_left
              · rintro w' ⟨s0, s1⟩
                go_simp
                with_reducible rfl
              rotate_left
              · simp only [Act.put, List.setIfInBounds_toArray, List.set_cons_zero, List.set_cons_succ, i64_w, i32_w]
                rfl
              refine one_ (i := 1) (N := some 105) #[true, true, true, false, false, false, false, false, false, false, false, false, false, false, false, false, false, false, false, false, false, false, false, false, false, false] rfl rfl (one_of HT_.out (by kernel_rfl)) (by decide) (fun K hK => ?_)
              refine goes_ Tryd.func12 (by kernel_rfl) rfl #[.agg #[.int .i64 a0_0, .int .i64 a0_1]] (by rfl) rfl rfl (by (try simp only [List.map_toArray, List.map_cons, List.map_nil]); first | done | rfl | (simp only [List.length_drop, List.length_take]; rfl)) ?_
              with_reducible refine (bitmap_May.calls a0_0 a0_1 t197 _ A231.out).mono ?_
              rintro e w256 ⟨rfl, hb⟩
              refine ⟨_, rfl, ?_⟩
              have n0_ := Aside0.mk (blk_below (g := gb162) (o := .cells #[.int .i64 a0_0, .int .i64 a0_1] 23 (0, 0)) (by (with_reducible repeat (first | refine blk_drewN ?_ _ | refine blk_drew ?_ | refine blk_alloc ?_ _)); exact BK162.out) hb)
              have n1_ := Aside0.mk (blk_below (g := gb167) (o := .cells #[.int .i64 t164, .int .i64 t165] 23 (0, 0)) (by (with_reducible repeat (first | refine blk_drewN ?_ _ | refine blk_drew ?_ | refine blk_alloc ?_ _)); exact BK167.out) hb)
              have n2_ := Aside0.mk (blk_below (g := gb171) (o := .cells #[.int .i64 t168, .int .i64 t169] 23 (0, 0)) (by (with_reducible repeat (first | refine blk_drewN ?_ _ | refine blk_drew ?_ | refine blk_alloc ?_ _)); exact BK171.out) hb)
              have n3_ := Aside0.mk (blk_below (g := gb175) (o := .cells #[.int .i64 t172, .int .i64 t173] 23 (0, 0)) (by (with_reducible repeat (first | refine blk_drewN ?_ _ | refine blk_drew ?_ | refine blk_alloc ?_ _)); exact BK175.out) hb)
              have n4_ := Aside0.mk (blk_below (g := gb179) (o := .cells #[.int .i64 t176, .int .i64 t177] 23 (0, 0)) (by (with_reducible repeat (first | refine blk_drewN ?_ _ | refine blk_drew ?_ | refine blk_alloc ?_ _)); exact BK179.out) hb)
              have n5_ := Aside0.mk (blk_below (g := gb183) (o := .cells #[.int .i64 t180, .int .i64 t181] 23 (0, 0)) (by (with_reducible repeat (first | refine blk_drewN ?_ _ | refine blk_drew ?_ | refine blk_alloc ?_ _)); exact BK183.out) hb)
              have n6_ := Aside0.mk (blk_below (g := gb187) (o := .cells #[.int .i64 t184, .int .i64 t185] 23 (0, 0)) (by (with_reducible repeat (first | refine blk_drewN ?_ _ | refine blk_drew ?_ | refine blk_alloc ?_ _)); exact BK187.out) hb)
              have n7_ := Aside0.mk (below_step (by repeat (first | (with_reducible first | exact HB.out | apply below_alloc | apply pw_below_drewN | apply below_drew1 | refine below_set ?_ GE162.out | refine below_set ?_ GE167.out | refine below_set ?_ GE171.out | refine below_set ?_ GE175.out | refine below_set ?_ GE179.out | refine below_set ?_ GE183.out | refine below_set ?_ GE187.out) | exact HB.out)) hb)
              clear BK162
              clear BK167
              clear BK171
              clear BK175
              clear BK179
              clear BK183
              clear BK187
              clear HB
              have BK162 := n0_
              have BK167 := n1_
              have BK171 := n2_
              have BK175 := n3_
              have BK179 := n4_
              have BK183 := n5_
              have BK187 := n6_
              have HB := n7_
              clear n0_ n1_ n2_ n3_ n4_ n5_ n6_ n7_
              (try clear hb)
              (try clear hb2)
              (try clear hk)
              (try clear hi)
              refine hK.out _ _ ⟨(blk_cell BK162.out 0).trans rfl, (blk_cell BK162.out 1).trans rfl⟩ (fun hHeld => ?_)
              clear hK K
              refine norm_ (a' := ?_) ?_ ?_
              rotate_left
              · show Act.put _ (some 105) _ = _
                simp only [Act.put, List.setIfInBounds_toArray, List.set_cons_zero, List.set_cons_succ, i64_w, i32_w]
                rfl
              refine pure_ (i := 3) (N := some 107) (v := ?_) (a' := ?_) #[true, true, true, true, false, false, false, false, false, false, false, false, false, false, false, false, false, false, false, false, false, false, false, false, false, false] rfl rfl (any_of HT_.out (by kernel_rfl)) (fun _ _ _ h => h) (Or.inl ⟨by rfl, ?_⟩) ?_ ?_
              rotate_left
              · intro w'
                go_simp
                with_reducible rfl
              rotate_left
              · simp only [Act.put, List.setIfInBounds_toArray, List.set_cons_zero, List.set_cons_succ, i64_w, i32_w]
                rfl
              refine pure_ (i := 4) (N := some 108) (v := ?_) (a' := ?_) #[true, true, true, true, true, false, false, false, false, false, false, false, false, false, false, false, false, false, false, false, false, false, false, false, false, false] rfl rfl (any_of HT_.out (by kernel_rfl)) (fun _ _ _ h => h) (Or.inl ⟨by rfl, ?_⟩) ?_ ?_
              rotate_left
              · intro w'
                go_simp
                with_reducible rfl
              rotate_left
              · simp only [Act.put, List.setIfInBounds_toArray, List.set_cons_zero, List.set_cons_succ, i64_w, i32_w]
                rfl
              refine pure_ (i := 5) (N := some 109) (v := undef) (a' := ?_) #[true, true, true, true, true, true, false, false, false, false, false, false, false, false, false, false, false, false, false, false, false, false, false, false, false, false] rfl rfl (any_of HT_.out (by kernel_rfl)) (fun _ _ _ h => h) (Or.inr ⟨by rfl, rfl⟩) ?_ ?_
              rotate_left
              · simp only [Act.put, List.setIfInBounds_toArray, List.set_cons_zero, List.set_cons_succ, i64_w, i32_w]
                rfl
              refine pure_ (i := 6) (N := some 110) (v := undef) (a' := ?_) #[true, true, true, true, true, true, true, false, false, false, false, false, false, false, false, false, false, false, false, false, false, false, false, false, false, false] rfl rfl (any_of HT_.out (by kernel_rfl)) (fun _ _ _ h => h) (Or.inr ⟨by rfl, rfl⟩) ?_ ?_
              rotate_left
              · simp only [Act.put, List.setIfInBounds_toArray, List.set_cons_zero, List.set_cons_succ, i64_w, i32_w]
                rfl
              refine pure_ (i := 7) (N := some 111) (v := undef) (a' := ?_) #[true, true, true, true, true, true, true, true, false, false, false, false, false, false, false, false, false, false, false, false, false, false, false, false, false, false] rfl rfl (any_of HT_.out (by kernel_rfl)) (fun _ _ _ h => h) (Or.inr ⟨by rfl, rfl⟩) ?_ ?_
              rotate_left
              · simp only [Act.put, List.setIfInBounds_toArray, List.set_cons_zero, List.set_cons_succ, i64_w, i32_w]
                rfl
              refine pure_ (i := 8) (N := some 112) (v := undef) (a' := ?_) #[true, true, true, true, true, true, true, true, true, false, false, false, false, false, false, false, false, false, false, false, false, false, false, false, false, false] rfl rfl (any_of HT_.out (by kernel_rfl)) (fun _ _ _ h => h) (Or.inr ⟨by rfl, rfl⟩) ?_ ?_
              rotate_left
              · simp only [Act.put, List.setIfInBounds_toArray, List.set_cons_zero, List.set_cons_succ, i64_w, i32_w]
                rfl
              refine pure_ (i := 9) (N := some 113) (v := undef) (a' := ?_) #[true, true, true, true, true, true, true, true, true, true, false, false, false, false, false, false, false, false, false, false, false, false, false, false, false, false] rfl rfl (any_of HT_.out (by kernel_rfl)) (fun _ _ _ h => h) (Or.inr ⟨by rfl, rfl⟩) ?_ ?_
              rotate_left
              · simp only [Act.put, List.setIfInBounds_toArray, List.set_cons_zero, List.set_cons_succ, i64_w, i32_w]
                rfl
              refine pure_ (i := 10) (N := some 114) (v := ?_) (a' := ?_) #[true, true, true, true, true, true, true, true, true, true, true, false, false, false, false, false, false, false, false, false, false, false, false, false, false, false] rfl rfl (any_of HT_.out (by kernel_rfl)) (fun _ _ _ h => h) (Or.inl ⟨by rfl, ?_⟩) ?_ ?_
              rotate_left
              · intro w'
                go_simp
                with_reducible rfl
              rotate_left
              · simp only [Act.put, List.setIfInBounds_toArray, List.set_cons_zero, List.set_cons_succ, i64_w, i32_w]
                rfl
              refine pure_ (i := 11) (N := some 115) (v := ?_) (a' := ?_) #[true, true, true, true, true, true, true, true, true, true, true, true, false, false, false, false, false, false, false, false, false, false, false, false, false, false] rfl rfl (any_of HT_.out (by kernel_rfl)) (fun _ _ _ h => h) (Or.inl ⟨by rfl, ?_⟩) ?_ ?_
              rotate_left
              · intro w'
                go_simp
                with_reducible rfl
              rotate_left
              · simp only [Act.put, List.setIfInBounds_toArray, List.set_cons_zero, List.set_cons_succ, i64_w, i32_w]
                rfl
              refine pure_ (i := 12) (N := some 116) (v := undef) (a' := ?_) #[true, true, true, true, true, true, true, true, true, true, true, true, true, false, false, false, false, false, false, false, false, false, false, false, false, false] rfl rfl (any_of HT_.out (by kernel_rfl)) (fun _ _ _ h => h) (Or.inr ⟨by rfl, rfl⟩) ?_ ?_
              rotate_left
              · simp only [Act.put, List.setIfInBounds_toArray, List.set_cons_zero, List.set_cons_succ, i64_w, i32_w]
                rfl
              refine pure_ (i := 13) (N := some 117) (v := undef) (a' := ?_) #[true, true, true, true, true, true, true, true, true, true, true, true, true, true, false, false, false, false, false, false, false, false, false, false, false, false] rfl rfl (any_of HT_.out (by kernel_rfl)) (fun _ _ _ h => h) (Or.inr ⟨by rfl, rfl⟩) ?_ ?_
              rotate_left
              · simp only [Act.put, List.setIfInBounds_toArray, List.set_cons_zero, List.set_cons_succ, i64_w, i32_w]
                rfl
              refine pure_ (i := 14) (N := some 118) (v := undef) (a' := ?_) #[true, true, true, true, true, true, true, true, true, true, true, true, true, true, true, false, false, false, false, false, false, false, false, false, false, false] rfl rfl (any_of HT_.out (by kernel_rfl)) (fun _ _ _ h => h) (Or.inr ⟨by rfl, rfl⟩) ?_ ?_
              rotate_left
              · simp only [Act.put, List.setIfInBounds_toArray, List.set_cons_zero, List.set_cons_succ, i64_w, i32_w]
                rfl
              refine pure_ (i := 15) (N := some 119) (v := undef) (a' := ?_) #[true, true, true, true, true, true, true, true, true, true, true, true, true, true, true, true, false, false, false, false, false, false, false, false, false, false] rfl rfl (any_of HT_.out (by kernel_rfl)) (fun _ _ _ h => h) (Or.inr ⟨by rfl, rfl⟩) ?_ ?_
              rotate_left
              · simp only [Act.put, List.setIfInBounds_toArray, List.set_cons_zero, List.set_cons_succ, i64_w, i32_w]
                rfl
              refine pure_ (i := 16) (N := some 120) (v := undef) (a' := ?_) #[true, true, true, true, true, true, true, true, true, true, true, true, true, true, true, true, true, false, false, false, false, false, false, false, false, false] rfl rfl (any_of HT_.out (by kernel_rfl)) (fun _ _ _ h => h) (Or.inr ⟨by rfl, rfl⟩) ?_ ?_
              rotate_left
              · simp only [Act.put, List.setIfInBounds_toArray, List.set_cons_zero, List.set_cons_succ, i64_w, i32_w]
                rfl
              refine pure_ (i := 17) (N := some 121) (v := ?_) (a' := ?_) #[true, true, true, true, true, true, true, true, true, true, true, true, true, true, true, true, true, true, false, false, false, false, false, false, false, false] rfl rfl (any_of HT_.out (by kernel_rfl)) (fun _ _ _ h => h) (Or.inl ⟨by rfl, ?_⟩) ?_ ?_
              rotate_left
              · intro w'
                go_simp
                with_reducible rfl
              rotate_left
              · simp only [Act.put, List.setIfInBounds_toArray, List.set_cons_zero, List.set_cons_succ, i64_w, i32_w]
                rfl
              refine pure_ (i := 18) (N := some 122) (v := ?_) (a' := ?_) #[true, true, true, true, true, true, true, true, true, true, true, true, true, true, true, true, true, true, true, false, false, false, false, false, false, false] rfl rfl (any_of HT_.out (by kernel_rfl)) (fun _ _ _ h => h) (Or.inl ⟨by rfl, ?_⟩) ?_ ?_
              rotate_left
              · intro w'
                go_simp
                with_reducible rfl
              rotate_left
              · simp only [Act.put, List.setIfInBounds_toArray, List.set_cons_zero, List.set_cons_succ, i64_w, i32_w]
                rfl
              refine pure_ (i := 19) (N := some 123) (v := undef) (a' := ?_) #[true, true, true, true, true, true, true, true, true, true, true, true, true, true, true, true, true, true, true, true, false, false, false, false, false, false] rfl rfl (any_of HT_.out (by kernel_rfl)) (fun _ _ _ h => h) (Or.inr ⟨by rfl, rfl⟩) ?_ ?_
              rotate_left
              · simp only [Act.put, List.setIfInBounds_toArray, List.set_cons_zero, List.set_cons_succ, i64_w, i32_w]
                rfl
              refine pure_ (i := 20) (N := some 124) (v := undef) (a' := ?_) #[true, true, true, true, true, true, true, true, true, true, true, true, true, true, true, true, true, true, true, true, true, false, false, false, false, false] rfl rfl (any_of HT_.out (by kernel_rfl)) (fun _ _ _ h => h) (Or.inr ⟨by rfl, rfl⟩) ?_ ?_
              rotate_left
              · simp only [Act.put, List.setIfInBounds_toArray, List.set_cons_zero, List.set_cons_succ, i64_w, i32_w]
                rfl
              refine pure_ (i := 21) (N := some 125) (v := undef) (a' := ?_) #[true, true, true, true, true, true, true, true, true, true, true, true, true, true, true, true, true, true, true, true, true, true, false, false, false, false] rfl rfl (any_of HT_.out (by kernel_rfl)) (fun _ _ _ h => h) (Or.inr ⟨by rfl, rfl⟩) ?_ ?_
              rotate_left
              · simp only [Act.put, List.setIfInBounds_toArray, List.set_cons_zero, List.set_cons_succ, i64_w, i32_w]
                rfl
              refine pure_ (i := 22) (N := some 126) (v := undef) (a' := ?_) #[true, true, true, true, true, true, true, true, true, true, true, true, true, true, true, true, true, true, true, true, true, true, true, false, false, false] rfl rfl (any_of HT_.out (by kernel_rfl)) (fun _ _ _ h => h) (Or.inr ⟨by rfl, rfl⟩) ?_ ?_
              rotate_left
              · simp only [Act.put, List.setIfInBounds_toArray, List.set_cons_zero, List.set_cons_succ, i64_w, i32_w]
                rfl
              refine pure_ (i := 23) (N := some 127) (v := undef) (a' := ?_) #[true, true, true, true, true, true, true, true, true, true, true, true, true, true, true, true, true, true, true, true, true, true, true, true, false, false] rfl rfl (any_of HT_.out (by kernel_rfl)) (fun _ _ _ h => h) (Or.inr ⟨by rfl, rfl⟩) ?_ ?_
              rotate_left
              · simp only [Act.put, List.setIfInBounds_toArray, List.set_cons_zero, List.set_cons_succ, i64_w, i32_w]
                rfl
              refine pure_ (i := 24) (N := some 128) (v := ?_) (a' := ?_) #[true, true, true, true, true, true, true, true, true, true, true, true, true, true, true, true, true, true, true, true, true, true, true, true, true, false] rfl rfl (any_of HT_.out (by kernel_rfl)) (fun _ _ _ h => h) (Or.inl ⟨by rfl, ?_⟩) ?_ ?_
              rotate_left
              · intro w'
                go_simp
                with_reducible rfl
              rotate_left
              · simp only [Act.put, List.setIfInBounds_toArray, List.set_cons_zero, List.set_cons_succ, i64_w, i32_w]
                rfl
              refine pure_ (i := 25) (N := some 6) (v := ?_) (a' := ?_) #[true, true, true, true, true, true, true, true, true, true, true, true, true, true, true, true, true, true, true, true, true, true, true, true, true, true] rfl rfl (any_of HT_.out (by kernel_rfl)) (fun _ _ _ h => h) (Or.inl ⟨by rfl, ?_⟩) ?_ ?_
              rotate_left
              · intro w'
                go_simp
                with_reducible rfl
              rotate_left
              · simp only [Act.put, List.setIfInBounds_toArray, List.set_cons_zero, List.set_cons_succ, i64_w, i32_w]
                rfl
              refine done_ (done_of HT_.out (by kernel_rfl)) ?_
              try go_wp2
              go_ret
              exact ⟨by first | rfl | (simp [errW_none, errW_some] <;> rfl) | (simp [*, errW_none, errW_some] <;> rfl), by repeat (first | (with_reducible first | exact HB.out | apply below_alloc | apply pw_below_drewN | apply below_drew1 | refine below_set ?_ GE162.out | refine below_set ?_ GE167.out | refine below_set ?_ GE171.out | refine below_set ?_ GE175.out | refine below_set ?_ GE179.out | refine below_set ?_ GE183.out | refine below_set ?_ GE187.out) | exact HB.out)⟩

end Go.Proofs.YthjdjljiafpebaaDoor.P
