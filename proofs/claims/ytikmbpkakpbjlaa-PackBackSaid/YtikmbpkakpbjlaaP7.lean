-- Laid by this session's own program (wip/myprint.py): Lean functions for the Go functions that a law reaches, and their contracts. Not trusted: Lean checks it.
import Derived.Test.YtikmbpkakpbjlaaP0
import Derived.Test.YtikmbpkakpbjlaaP1
import Derived.Test.YtikmbpkakpbjlaaP2
import Derived.Test.YtikmbpkakpbjlaaP5
namespace Go.Proofs.Ytikmbpkakpbjlaa.P
open Go.RowKit Go.Proofs.YtikmbpkakpbjlaaW.PrintWords Go.Proofs.YtikmbpkakpbjlaaW.PrintLast Go.Proofs.YtikmbpkakpbjlaaW.PrintMore
attribute [local go_sem] max2_int min2_int max_two min_two max_three min_three max_four min_four   -- for this text's walks alone
set_option linter.unusedVariables false
set_option linter.unusedSimpArgs false

/-! ### mooringslaw03_PackBack: function 4 -/
mutual
def mooringslaw03_PackBack.j0 : Nat → List Int → Int → List Int → Int → Bool → Bool → Option (Bool)
  | 0, _, _, _, _, _, _ => none
  | k + 1, x0, x1, x2, x3, x9, x33 => if x33 = true then (some x9) else ((pack_Pack.f x0 x1).bind fun bt171 => ((pack_Unpack.f bt171.1 (x0.length : Int) x1).bind fun bt175 => ((mooringsref01_Ints.f k bt175.1 x0).bind fun t179 => (if bt171.2 = true then (if bt175.2 = true then (if t179 = true then ((pack_Size.f (x0.length : Int) x1).bind fun t180 => (mooringslaw03_PackBack.j1 k x0 x1 x2 x3 bt171.1 bt171.2 ((bt171.1.length : Int) != t180))) else (mooringslaw03_PackBack.j1 k x0 x1 x2 x3 bt171.1 bt171.2 true)) else (mooringslaw03_PackBack.j1 k x0 x1 x2 x3 bt171.1 bt171.2 true)) else (mooringslaw03_PackBack.j1 k x0 x1 x2 x3 bt171.1 bt171.2 false)))))
def mooringslaw03_PackBack.j1 : Nat → List Int → Int → List Int → Int → List Int → Bool → Bool → Option (Bool)
  | 0, _, _, _, _, _, _, _ => none
  | k + 1, x0, x1, x2, x3, x10, x11, x69 => if x69 = true then (some false) else ((pack_Unpack.f x2 x3 x1).bind fun bt181 => ((pack_Pack.f bt181.1 x1).bind fun bt185 => (if bt181.2 = true then (if bt185.2 = true then (if (strOfNums bt185.1).toList = (strOfNums x2).toList then (mooringslaw03_PackBack.j2 k x0 x1 x10 x11 ((bt181.1.length : Int) != x3)) else (mooringslaw03_PackBack.j2 k x0 x1 x10 x11 true)) else (mooringslaw03_PackBack.j2 k x0 x1 x10 x11 true)) else (mooringslaw03_PackBack.j2 k x0 x1 x10 x11 false))))
def mooringslaw03_PackBack.j2 : Nat → List Int → Int → List Int → Bool → Bool → Option (Bool)
  | 0, _, _, _, _, _ => none
  | k + 1, x0, x1, x10, x11, x100 => if x100 = true then (some false) else (if x11 = true then (if x1 < 8 then (some true) else ((pack_Unpack.f x10 (wrap64 ((x0.length : Int) + 1)) x1).bind fun bt189 => (some (!bt189.2)))) else (some true))
end
def mooringslaw03_PackBack.f (k : Nat) (l0 : List Int) (a1 : Int) (l2 : List Int) (a3 : Int) : Option (Bool) := (mooringslaw03_awake.f k).bind fun t170 => (if t170 = true then (if (l0.length : Int) > 400 then (mooringslaw03_PackBack.j0 k l0 a1 l2 a3 t170 true) else (mooringslaw03_PackBack.j0 k l0 a1 l2 a3 t170 (decide ((l2.length : Int) > 1700)))) else (mooringslaw03_PackBack.j0 k l0 a1 l2 a3 t170 true))
theorem mooringslaw03_PackBack.mono_l : ∀ k, (∀ y0 y1 y2 y3 y4 y5, LeO (mooringslaw03_PackBack.j0 k y0 y1 y2 y3 y4 y5) (mooringslaw03_PackBack.j0 (k + 1) y0 y1 y2 y3 y4 y5)) ∧ (∀ y0 y1 y2 y3 y4 y5 y6, LeO (mooringslaw03_PackBack.j1 k y0 y1 y2 y3 y4 y5 y6) (mooringslaw03_PackBack.j1 (k + 1) y0 y1 y2 y3 y4 y5 y6)) ∧ (∀ y0 y1 y2 y3 y4, LeO (mooringslaw03_PackBack.j2 k y0 y1 y2 y3 y4) (mooringslaw03_PackBack.j2 (k + 1) y0 y1 y2 y3 y4))
  | 0 => ⟨fun _ _ _ _ _ _ r h => by simp [mooringslaw03_PackBack.j0] at h, fun _ _ _ _ _ _ _ r h => by simp [mooringslaw03_PackBack.j1] at h, fun _ _ _ _ _ r h => by simp [mooringslaw03_PackBack.j2] at h⟩
  | k + 1 => by
    obtain ⟨ih0, ih1, ih2⟩ := mooringslaw03_PackBack.mono_l k
    refine ⟨?_, ?_, ?_⟩
    · intro y0 y1 y2 y3 y4 y5
      unfold mooringslaw03_PackBack.j0
      repeat' first
      | (with_reducible exact ih0 _ _ _ _ _ _)
      | (with_reducible exact ih1 _ _ _ _ _ _ _)
      | (with_reducible exact ih2 _ _ _ _ _)
      | (with_reducible exact mooringslaw03_awake.mono _)
      | (with_reducible exact mooringsref01_Ints.mono _ _ _)
      | (with_reducible exact LeO.refl _)
      | (with_reducible exact LeO.none _)
      | (with_reducible refine LeO.ite ?_ ?_)
      | (with_reducible refine LeO.bind ?_ (fun _ => ?_))
      | exact ih0 _ _ _ _ _ _
      | exact ih1 _ _ _ _ _ _ _
      | exact ih2 _ _ _ _ _
      | exact mooringslaw03_awake.mono _
      | exact mooringsref01_Ints.mono _ _ _
      | exact LeO.none _
      | refine LeO.ite ?_ ?_
      | refine LeO.bind ?_ (fun _ => ?_)
    · intro y0 y1 y2 y3 y4 y5 y6
      unfold mooringslaw03_PackBack.j1
      repeat' first
      | (with_reducible exact ih0 _ _ _ _ _ _)
      | (with_reducible exact ih1 _ _ _ _ _ _ _)
      | (with_reducible exact ih2 _ _ _ _ _)
      | (with_reducible exact mooringslaw03_awake.mono _)
      | (with_reducible exact mooringsref01_Ints.mono _ _ _)
      | (with_reducible exact LeO.refl _)
      | (with_reducible exact LeO.none _)
      | (with_reducible refine LeO.ite ?_ ?_)
      | (with_reducible refine LeO.bind ?_ (fun _ => ?_))
      | exact ih0 _ _ _ _ _ _
      | exact ih1 _ _ _ _ _ _ _
      | exact ih2 _ _ _ _ _
      | exact mooringslaw03_awake.mono _
      | exact mooringsref01_Ints.mono _ _ _
      | exact LeO.none _
      | refine LeO.ite ?_ ?_
      | refine LeO.bind ?_ (fun _ => ?_)
    · intro y0 y1 y2 y3 y4
      unfold mooringslaw03_PackBack.j2
      repeat' first
      | (with_reducible exact ih0 _ _ _ _ _ _)
      | (with_reducible exact ih1 _ _ _ _ _ _ _)
      | (with_reducible exact ih2 _ _ _ _ _)
      | (with_reducible exact mooringslaw03_awake.mono _)
      | (with_reducible exact mooringsref01_Ints.mono _ _ _)
      | (with_reducible exact LeO.refl _)
      | (with_reducible exact LeO.none _)
      | (with_reducible refine LeO.ite ?_ ?_)
      | (with_reducible refine LeO.bind ?_ (fun _ => ?_))
      | exact ih0 _ _ _ _ _ _
      | exact ih1 _ _ _ _ _ _ _
      | exact ih2 _ _ _ _ _
      | exact mooringslaw03_awake.mono _
      | exact mooringsref01_Ints.mono _ _ _
      | exact LeO.none _
      | refine LeO.ite ?_ ?_
      | refine LeO.bind ?_ (fun _ => ?_)
theorem mooringslaw03_PackBack.mono : ∀ a0 a1 a2 a3 k, LeO (mooringslaw03_PackBack.f k a0 a1 a2 a3) (mooringslaw03_PackBack.f (k + 1) a0 a1 a2 a3) := by
  intro a0 a1 a2 a3 k
  obtain ⟨ih0, ih1, ih2⟩ := mooringslaw03_PackBack.mono_l k
  unfold mooringslaw03_PackBack.f
  repeat' first
      | (with_reducible exact ih0 _ _ _ _ _ _)
      | (with_reducible exact ih1 _ _ _ _ _ _ _)
      | (with_reducible exact ih2 _ _ _ _ _)
      | (with_reducible exact mooringslaw03_awake.mono _)
      | (with_reducible exact mooringsref01_Ints.mono _ _ _)
      | (with_reducible exact LeO.refl _)
      | (with_reducible exact LeO.none _)
      | (with_reducible refine LeO.ite ?_ ?_)
      | (with_reducible refine LeO.bind ?_ (fun _ => ?_))
      | exact ih0 _ _ _ _ _ _
      | exact ih1 _ _ _ _ _ _ _
      | exact ih2 _ _ _ _ _
      | exact mooringslaw03_awake.mono _
      | exact mooringsref01_Ints.mono _ _ _
      | exact LeO.none _
      | refine LeO.ite ?_ ?_
      | refine LeO.bind ?_ (fun _ => ?_)
set_option maxHeartbeats 8000000 in
set_option maxRecDepth 100000 in
theorem mooringslaw03_PackBack.calls (k : Nat) (A0 : Option Addr) (c0 : Nat) (l0 : List Int) (a1 : Int) (A2 : Option Addr) (c2 : Nat) (l2 : List Int) (a3 : Int) (r : Bool) (w : World) (hr0 : Kd.C (Kd.int .i64) w A0 l0.length l0) (hc0 : l0.length ≤ c0) (hr2 : Kd.C (Kd.int .u8) w A2 l2.length l2) (hc2 : l2.length ≤ c2) (h : mooringslaw03_PackBack.f k l0 a1 l2 a3 = some r) :
    Calls Try.prog 4 #[.slice A0 l0.length c0, .int .i64 a1, .slice A2 l2.length c2, .int .i64 a3] w fun e w' => e = .returned (.bool r) ∧ Below w.heap.size w w' := by
  have HR0 := Aside0.mk hr0
  have HC0 := Aside0.mk hc0
  clear hr0 hc0
  have HR2 := Aside0.mk hr2
  have HC2 := Aside0.mk hc2
  clear hr2 hc2
  have HB := Aside0.mk (Below.refl w.heap.size w)
  have H : ((mooringslaw03_awake.f k).bind fun t170 => (if t170 = true then (if (l0.length : Int) > 400 then (mooringslaw03_PackBack.j0 k l0 a1 l2 a3 t170 true) else (mooringslaw03_PackBack.j0 k l0 a1 l2 a3 t170 (decide ((l2.length : Int) > 1700)))) else (mooringslaw03_PackBack.j0 k l0 a1 l2 a3 t170 true))) = some r := h
  clear h
  replace H := Option.bind_eq_some_iff.mp H
  obtain ⟨t170, A50, H⟩ := H
  replace H : (if t170 = true then (if (l0.length : Int) > 400 then (mooringslaw03_PackBack.j0 k l0 a1 l2 a3 t170 true) else (mooringslaw03_PackBack.j0 k l0 a1 l2 a3 t170 (decide ((l2.length : Int) > 1700)))) else (mooringslaw03_PackBack.j0 k l0 a1 l2 a3 t170 true)) = some r := H
  have A5 := Aside0.mk A50
  clear A50
  have HC6 := Aside0.mk H
  clear H
  go_enter Try.func4, Try.ntmps4
  go_upto_region 2 with (first | ((with_reducible refine gate_callee (f := 9) rfl ?_); refine goesL_ (some 21) rfl rfl Try.func9 (by kernel_rfl) rfl #[] rfl (by (try simp only [List.map_toArray, List.map_cons, List.map_nil]); first | done | rfl | (simp only [List.length_drop, List.length_take]; rfl)) ?_; (with_reducible refine (mooringslaw03_awake.calls k  t170 _ A5.out).mono ?_); rintro e w7 ⟨rfl, hb⟩; refine ⟨_, rfl, ?_⟩; have n0_ := Aside0.mk (below_step (by repeat (first | (with_reducible first | exact HB.out | apply below_alloc | apply pw_below_drewN | apply below_drew1) | exact HB.out)) hb); clear HB; have HB := n0_; clear n0_; (try clear hb); (try clear hb2); (try clear hk); (try clear hi)))
  (try simp only [Act.put, List.setIfInBounds_toArray, List.set_cons_zero, List.set_cons_succ])
  go_cut [33] (fun v33 wc => ∃ (kq : Nat) (x33_5 : Bool), v33 = .bool x33_5 ∧ Aside0 (mooringslaw03_PackBack.j0 kq l0 a1 l2 a3 t170 x33_5 = some r) ∧ Aside0 (kq ≤ k) ∧ Aside0 (Below w.heap.size w wc))
  case first =>
    have H := HC6.out
    clear HC6
    by_cases c8 : t170 = true
    · subst c8
      have H1 : (if (l0.length : Int) > 400 then (mooringslaw03_PackBack.j0 k l0 a1 l2 a3 true true) else (mooringslaw03_PackBack.j0 k l0 a1 l2 a3 true (decide ((l2.length : Int) > 1700)))) = some r := by rw [if_pos rfl] at H; exact H
      clear H
      have H := H1
      clear H1
      by_cases c9 : (l0.length : Int) > 400
      · rw [if_pos c9] at H
        have c9b0 : decide (400 < (l0.length : Int)) = true := decide_eq_true c9
        have c9b1 : decide (400 < l0.length) = true := decide_eq_true (by omega)
        clear c9
        (first | rw [c9b0] | (simp only [i64_w, i32_w]; rw [c9b0]) | skip)
        have H' := Aside0.mk H
        clear H
        go_wp2
        go_meet
        case rel => exact ⟨_, (true), (by first | rfl | (simp; done) | (simp [*]; done)), H', ⟨by first | omega | exact Nat.le_refl _⟩, ⟨by repeat (first | (with_reducible first | exact HB.out | apply below_alloc | apply pw_below_drewN | apply below_drew1) | exact HB.out)⟩⟩
      · rw [if_neg c9] at H
        have c9b0 : decide (400 < (l0.length : Int)) = false := decide_eq_false c9
        have c9b1 : decide (400 < l0.length) = false := decide_eq_false (by omega)
        clear c9
        (first | rw [c9b0] | (simp only [i64_w, i32_w]; rw [c9b0]) | skip)
        have H' := Aside0.mk H
        clear H
        go_wp2
        go_meet
        case rel => exact ⟨_, (decide ((l2.length : Int) > 1700)), (by first | rfl | (simp; done) | (simp [*]; done)), H', ⟨by first | omega | exact Nat.le_refl _⟩, ⟨by repeat (first | (with_reducible first | exact HB.out | apply below_alloc | apply pw_below_drewN | apply below_drew1) | exact HB.out)⟩⟩
    · replace c8 := Bool.eq_false_iff.mpr c8
      subst c8
      have H1 : (mooringslaw03_PackBack.j0 k l0 a1 l2 a3 false true) = some r := by rw [if_neg (show ¬ (false = true) by decide)] at H; exact H
      clear H
      have H := H1
      clear H1
      have H' := Aside0.mk H
      clear H
      go_wp2
      go_meet
      case rel => exact ⟨_, (true), (by first | rfl | (simp; done) | (simp [*]; done)), H', ⟨by first | omega | exact Nat.le_refl _⟩, ⟨by repeat (first | (with_reducible first | exact HB.out | apply below_alloc | apply pw_below_drewN | apply below_drew1) | exact HB.out)⟩⟩
  case rest =>
    clear HC6
    try clear c2
    try clear p2
    try clear c4
    try clear c8
    try clear c9
    try clear c9b0
    try clear c9b1
    obtain ⟨kq, x33_5, rfl, HA, HJ5, HB⟩ := hcut
    cases kq with
    | zero => exact absurd HA.out (by simp [mooringslaw03_PackBack.j0])
    | succ kj5 =>
      have H := HA.out
      clear HA
      simp only [mooringslaw03_PackBack.j0] at H
      by_cases c10 : x33_5 = true
      · subst c10
        have H1 : (some t170) = some r := by rw [if_pos rfl] at H; exact H
        clear H
        have H := H1
        clear H1
        obtain rfl := Option.some.inj H
        go_wp2
        go_ret
        exact ⟨by first | rfl | (simp [errW_none, errW_some] <;> rfl) | (simp [*, errW_none, errW_some] <;> rfl), by repeat (first | (with_reducible first | exact HB.out | apply below_alloc | apply pw_below_drewN | apply below_drew1) | exact HB.out)⟩
      · replace c10 := Bool.eq_false_iff.mpr c10
        subst c10
        have H1 : ((pack_Pack.f l0 a1).bind fun bt171 => ((pack_Unpack.f bt171.1 (l0.length : Int) a1).bind fun bt175 => ((mooringsref01_Ints.f kj5 bt175.1 l0).bind fun t179 => (if bt171.2 = true then (if bt175.2 = true then (if t179 = true then ((pack_Size.f (l0.length : Int) a1).bind fun t180 => (mooringslaw03_PackBack.j1 kj5 l0 a1 l2 a3 bt171.1 bt171.2 ((bt171.1.length : Int) != t180))) else (mooringslaw03_PackBack.j1 kj5 l0 a1 l2 a3 bt171.1 bt171.2 true)) else (mooringslaw03_PackBack.j1 kj5 l0 a1 l2 a3 bt171.1 bt171.2 true)) else (mooringslaw03_PackBack.j1 kj5 l0 a1 l2 a3 bt171.1 bt171.2 false))))) = some r := by rw [if_neg (show ¬ (false = true) by decide)] at H; exact H
        clear H
        have H := H1
        clear H1
        replace H := Option.bind_eq_some_iff.mp H
        obtain ⟨⟨t171, t172⟩, A110, H⟩ := H
        replace H : ((pack_Unpack.f t171 (l0.length : Int) a1).bind fun bt175 => ((mooringsref01_Ints.f kj5 bt175.1 l0).bind fun t179 => (if t172 = true then (if bt175.2 = true then (if t179 = true then ((pack_Size.f (l0.length : Int) a1).bind fun t180 => (mooringslaw03_PackBack.j1 kj5 l0 a1 l2 a3 t171 t172 ((t171.length : Int) != t180))) else (mooringslaw03_PackBack.j1 kj5 l0 a1 l2 a3 t171 t172 true)) else (mooringslaw03_PackBack.j1 kj5 l0 a1 l2 a3 t171 t172 true)) else (mooringslaw03_PackBack.j1 kj5 l0 a1 l2 a3 t171 t172 false)))) = some r := H
        have A11 := Aside0.mk A110
        clear A110
        replace H := Option.bind_eq_some_iff.mp H
        obtain ⟨⟨t175, t176⟩, A120, H⟩ := H
        replace H : ((mooringsref01_Ints.f kj5 t175 l0).bind fun t179 => (if t172 = true then (if t176 = true then (if t179 = true then ((pack_Size.f (l0.length : Int) a1).bind fun t180 => (mooringslaw03_PackBack.j1 kj5 l0 a1 l2 a3 t171 t172 ((t171.length : Int) != t180))) else (mooringslaw03_PackBack.j1 kj5 l0 a1 l2 a3 t171 t172 true)) else (mooringslaw03_PackBack.j1 kj5 l0 a1 l2 a3 t171 t172 true)) else (mooringslaw03_PackBack.j1 kj5 l0 a1 l2 a3 t171 t172 false))) = some r := H
        have A12 := Aside0.mk A120
        clear A120
        replace H := Option.bind_eq_some_iff.mp H
        obtain ⟨t179, A130, H⟩ := H
        replace H : (if t172 = true then (if t176 = true then (if t179 = true then ((pack_Size.f (l0.length : Int) a1).bind fun t180 => (mooringslaw03_PackBack.j1 kj5 l0 a1 l2 a3 t171 t172 ((t171.length : Int) != t180))) else (mooringslaw03_PackBack.j1 kj5 l0 a1 l2 a3 t171 t172 true)) else (mooringslaw03_PackBack.j1 kj5 l0 a1 l2 a3 t171 t172 true)) else (mooringslaw03_PackBack.j1 kj5 l0 a1 l2 a3 t171 t172 false)) = some r := H
        have A13 := Aside0.mk A130
        clear A130
        have HC14 := Aside0.mk H
        clear H
        go_upto_region 7 with (first | ((with_reducible refine gate_callee (f := 10) rfl ?_); refine goesL_ (some 38) rfl rfl Try.func10 (by kernel_rfl) rfl #[.slice A0 l0.length c0, .int .i64 a1] rfl (by (try simp only [List.map_toArray, List.map_cons, List.map_nil]); first | done | rfl | (simp only [List.length_drop, List.length_take]; rfl)) ?_; (with_reducible refine (pack_Pack.calls _ _ l0 a1 t171 t172 _ ?side1 ?side2 A11.out).mono ?_); (case side1 => repeat (first | exact (Kd.C_below HR0.out HB.out) | (with_reducible refine Kd.C_alloc ?_ _) | (with_reducible refine Kd.C_drewN ?_ _) | (with_reducible refine Kd.C_drew ?_))); (case side2 => exact HC0.out); rintro e w15 ⟨v173, rfl, ho0, hb⟩; refine ⟨_, rfl, ?_⟩; have n0_ := Aside0.mk (Kd.R_lower ho0 (below_size (by repeat (first | (with_reducible first | exact HB.out | apply below_alloc | apply pw_below_drewN | apply below_drew1) | exact HB.out)))); have n1_ := Aside0.mk (below_step (by repeat (first | (with_reducible first | exact HB.out | apply below_alloc | apply pw_below_drewN | apply below_drew1) | exact HB.out)) hb); clear HB; have HO174 := n0_; have HB := n1_; clear n0_ n1_; (try clear hb); (try clear hb2); (try clear hk); (try clear hi); (try clear ho0); obtain ⟨Ao16, co16, eo16⟩ := Kd.R_slice HO174.out; subst eo16) | ((with_reducible refine gate_callee (f := 12) rfl ?_); refine goesL_ (some 46) rfl rfl Try.func12 (by kernel_rfl) rfl #[.slice Ao16 t171.length co16, .int .i64 (l0.length : Int), .int .i64 a1] rfl (by (try simp only [List.map_toArray, List.map_cons, List.map_nil]); first | done | rfl | (simp only [List.length_drop, List.length_take]; rfl)) ?_; (with_reducible refine (pack_Unpack.calls _ _ t171 (l0.length : Int) a1 t175 t176 _ ?side1 ?side2 A12.out).mono ?_); (case side1 => repeat (first | exact (Kd.R_reads' HO174.out).2.2 | (with_reducible refine Kd.C_alloc ?_ _) | (with_reducible refine Kd.C_drewN ?_ _) | (with_reducible refine Kd.C_drew ?_))); (case side2 => exact (Kd.R_reads' HO174.out).2.1); rintro e w17 ⟨v177, rfl, ho0, hb⟩; refine ⟨_, rfl, ?_⟩; have n0_ := Aside0.mk (Kd.R_below (by (with_reducible repeat (first | apply Kd.R_alloc | apply Kd.R_drewN | apply Kd.R_drew)); exact HO174.out) hb); have n1_ := Aside0.mk (Kd.R_lower ho0 (below_size (by repeat (first | (with_reducible first | exact HB.out | apply below_alloc | apply pw_below_drewN | apply below_drew1) | exact HB.out)))); have n2_ := Aside0.mk (below_step (by repeat (first | (with_reducible first | exact HB.out | apply below_alloc | apply pw_below_drewN | apply below_drew1) | exact HB.out)) hb); clear HO174; clear HB; have HO174 := n0_; have HO178 := n1_; have HB := n2_; clear n0_ n1_ n2_; (try clear hb); (try clear hb2); (try clear hk); (try clear hi); (try clear ho0); obtain ⟨Ao18, co18, eo18⟩ := Kd.R_slice HO178.out; subst eo18) | ((with_reducible refine gate_callee (f := 14) rfl ?_); refine goesL_ (some 51) rfl rfl Try.func14 (by kernel_rfl) rfl #[.slice Ao18 t175.length co18, .slice A0 l0.length c0] rfl (by (try simp only [List.map_toArray, List.map_cons, List.map_nil]); first | done | rfl | (simp only [List.length_drop, List.length_take]; rfl)) ?_; (with_reducible refine (mooringsref01_Ints.calls kj5 _ _ t175 _ _ l0 t179 _ ?side1 ?side2 ?side3 ?side4 A13.out).mono ?_); (case side1 => repeat (first | exact (Kd.R_reads' HO178.out).2.2 | (with_reducible refine Kd.C_alloc ?_ _) | (with_reducible refine Kd.C_drewN ?_ _) | (with_reducible refine Kd.C_drew ?_))); (case side2 => exact (Kd.R_reads' HO178.out).2.1); (case side3 => repeat (first | exact (Kd.C_below HR0.out HB.out) | (with_reducible refine Kd.C_alloc ?_ _) | (with_reducible refine Kd.C_drewN ?_ _) | (with_reducible refine Kd.C_drew ?_))); (case side4 => exact HC0.out); rintro e w' ⟨rfl, ⟨nd, rfl⟩⟩; refine ⟨_, rfl, ?_⟩))
        (try simp only [Act.put, List.setIfInBounds_toArray, List.set_cons_zero, List.set_cons_succ])
        go_cut [69] (fun v69 wc => ∃ (kq : Nat) (x69_13 : Bool), v69 = .bool x69_13 ∧ Aside0 (mooringslaw03_PackBack.j1 kq l0 a1 l2 a3 t171 t172 x69_13 = some r) ∧ Aside0 (kq ≤ kj5) ∧ Aside0 (Kd.R (Kd.int .u8) 5 wc w.heap.size (fun _ => True) (.slice Ao16 t171.length co16) t171) ∧ Aside0 (Below w.heap.size w wc))
        case first =>
          have H := HC14.out
          clear HC14
          by_cases c19 : t172 = true
          · subst c19
            have H1 : (if t176 = true then (if t179 = true then ((pack_Size.f (l0.length : Int) a1).bind fun t180 => (mooringslaw03_PackBack.j1 kj5 l0 a1 l2 a3 t171 true ((t171.length : Int) != t180))) else (mooringslaw03_PackBack.j1 kj5 l0 a1 l2 a3 t171 true true)) else (mooringslaw03_PackBack.j1 kj5 l0 a1 l2 a3 t171 true true)) = some r := by rw [if_pos rfl] at H; exact H
            clear H
            have H := H1
            clear H1
            by_cases c20 : t176 = true
            · subst c20
              have H1 : (if t179 = true then ((pack_Size.f (l0.length : Int) a1).bind fun t180 => (mooringslaw03_PackBack.j1 kj5 l0 a1 l2 a3 t171 true ((t171.length : Int) != t180))) else (mooringslaw03_PackBack.j1 kj5 l0 a1 l2 a3 t171 true true)) = some r := by rw [if_pos rfl] at H; exact H
              clear H
              have H := H1
              clear H1
              by_cases c21 : t179 = true
              · subst c21
                have H1 : ((pack_Size.f (l0.length : Int) a1).bind fun t180 => (mooringslaw03_PackBack.j1 kj5 l0 a1 l2 a3 t171 true ((t171.length : Int) != t180))) = some r := by rw [if_pos rfl] at H; exact H
                clear H
                have H := H1
                clear H1
                replace H := Option.bind_eq_some_iff.mp H
                obtain ⟨t180, A220, H⟩ := H
                replace H : (mooringslaw03_PackBack.j1 kj5 l0 a1 l2 a3 t171 true ((t171.length : Int) != t180)) = some r := H
                have A22 := Aside0.mk A220
                clear A220
                have H' := Aside0.mk H
                clear H
                go_wp2_with (first | (go_at_call 17; (with_reducible refine (pack_Size.calls (l0.length : Int) a1 t180 _ A22.out).mono ?_); rintro e w' ⟨rfl, ⟨nd, rfl⟩⟩))
                go_meet
                case rel => exact ⟨_, (((t171.length : Int) != t180)), (by first | rfl | (simp; done) | (simp [*]; done)), H', ⟨by have := HJ5.out; first | omega | exact Nat.le_refl _⟩, ⟨by (with_reducible repeat (first | apply Kd.R_alloc | apply Kd.R_drewN | apply Kd.R_drew)); exact HO174.out⟩, ⟨by repeat (first | (with_reducible first | exact HB.out | apply below_alloc | apply pw_below_drewN | apply below_drew1) | exact HB.out)⟩⟩
              · replace c21 := Bool.eq_false_iff.mpr c21
                subst c21
                have H1 : (mooringslaw03_PackBack.j1 kj5 l0 a1 l2 a3 t171 true true) = some r := by rw [if_neg (show ¬ (false = true) by decide)] at H; exact H
                clear H
                have H := H1
                clear H1
                have H' := Aside0.mk H
                clear H
                go_wp2
                go_meet
                case rel => exact ⟨_, (true), (by first | rfl | (simp; done) | (simp [*]; done)), H', ⟨by have := HJ5.out; first | omega | exact Nat.le_refl _⟩, ⟨by (with_reducible repeat (first | apply Kd.R_alloc | apply Kd.R_drewN | apply Kd.R_drew)); exact HO174.out⟩, ⟨by repeat (first | (with_reducible first | exact HB.out | apply below_alloc | apply pw_below_drewN | apply below_drew1) | exact HB.out)⟩⟩
            · replace c20 := Bool.eq_false_iff.mpr c20
              subst c20
              have H1 : (mooringslaw03_PackBack.j1 kj5 l0 a1 l2 a3 t171 true true) = some r := by rw [if_neg (show ¬ (false = true) by decide)] at H; exact H
              clear H
              have H := H1
              clear H1
              have H' := Aside0.mk H
              clear H
              go_wp2
              go_meet
              case rel => exact ⟨_, (true), (by first | rfl | (simp; done) | (simp [*]; done)), H', ⟨by have := HJ5.out; first | omega | exact Nat.le_refl _⟩, ⟨by (with_reducible repeat (first | apply Kd.R_alloc | apply Kd.R_drewN | apply Kd.R_drew)); exact HO174.out⟩, ⟨by repeat (first | (with_reducible first | exact HB.out | apply below_alloc | apply pw_below_drewN | apply below_drew1) | exact HB.out)⟩⟩
          · replace c19 := Bool.eq_false_iff.mpr c19
            subst c19
            have H1 : (mooringslaw03_PackBack.j1 kj5 l0 a1 l2 a3 t171 false false) = some r := by rw [if_neg (show ¬ (false = true) by decide)] at H; exact H
            clear H
            have H := H1
            clear H1
            have H' := Aside0.mk H
            clear H
            go_wp2
            go_meet
            case rel => exact ⟨_, (false), (by first | rfl | (simp; done) | (simp [*]; done)), H', ⟨by have := HJ5.out; first | omega | exact Nat.le_refl _⟩, ⟨by (with_reducible repeat (first | apply Kd.R_alloc | apply Kd.R_drewN | apply Kd.R_drew)); exact HO174.out⟩, ⟨by repeat (first | (with_reducible first | exact HB.out | apply below_alloc | apply pw_below_drewN | apply below_drew1) | exact HB.out)⟩⟩
        case rest =>
          clear HC14
          try clear c1
          try clear c2
          try clear p2
          try clear c4
          try clear c8
          try clear c9
          try clear c9b0
          try clear c9b1
          try clear c10
          try clear c12
          try clear c14
          try clear c19
          try clear c20
          try clear c21
          try clear p2
          obtain ⟨kq, x69_13, rfl, HA, HJ13, HO_10, HB⟩ := hcut
          cases kq with
          | zero => exact absurd HA.out (by simp [mooringslaw03_PackBack.j1])
          | succ kj13 =>
            have H := HA.out
            clear HA
            simp only [mooringslaw03_PackBack.j1] at H
            by_cases c23 : x69_13 = true
            · subst c23
              have H1 : (some false) = some r := by rw [if_pos rfl] at H; exact H
              clear H
              have H := H1
              clear H1
              obtain rfl := Option.some.inj H
              go_wp2
              go_ret
              exact ⟨by first | rfl | (simp [errW_none, errW_some] <;> rfl) | (simp [*, errW_none, errW_some] <;> rfl), by repeat (first | (with_reducible first | exact HB.out | apply below_alloc | apply pw_below_drewN | apply below_drew1) | exact HB.out)⟩
            · replace c23 := Bool.eq_false_iff.mpr c23
              subst c23
              have H1 : ((pack_Unpack.f l2 a3 a1).bind fun bt181 => ((pack_Pack.f bt181.1 a1).bind fun bt185 => (if bt181.2 = true then (if bt185.2 = true then (if (strOfNums bt185.1).toList = (strOfNums l2).toList then (mooringslaw03_PackBack.j2 kj13 l0 a1 t171 t172 ((bt181.1.length : Int) != a3)) else (mooringslaw03_PackBack.j2 kj13 l0 a1 t171 t172 true)) else (mooringslaw03_PackBack.j2 kj13 l0 a1 t171 t172 true)) else (mooringslaw03_PackBack.j2 kj13 l0 a1 t171 t172 false)))) = some r := by rw [if_neg (show ¬ (false = true) by decide)] at H; exact H
              clear H
              have H := H1
              clear H1
              replace H := Option.bind_eq_some_iff.mp H
              obtain ⟨⟨t181, t182⟩, A240, H⟩ := H
              replace H : ((pack_Pack.f t181 a1).bind fun bt185 => (if t182 = true then (if bt185.2 = true then (if (strOfNums bt185.1).toList = (strOfNums l2).toList then (mooringslaw03_PackBack.j2 kj13 l0 a1 t171 t172 ((t181.length : Int) != a3)) else (mooringslaw03_PackBack.j2 kj13 l0 a1 t171 t172 true)) else (mooringslaw03_PackBack.j2 kj13 l0 a1 t171 t172 true)) else (mooringslaw03_PackBack.j2 kj13 l0 a1 t171 t172 false))) = some r := H
              have A24 := Aside0.mk A240
              clear A240
              replace H := Option.bind_eq_some_iff.mp H
              obtain ⟨⟨t185, t186⟩, A250, H⟩ := H
              replace H : (if t182 = true then (if t186 = true then (if (strOfNums t185).toList = (strOfNums l2).toList then (mooringslaw03_PackBack.j2 kj13 l0 a1 t171 t172 ((t181.length : Int) != a3)) else (mooringslaw03_PackBack.j2 kj13 l0 a1 t171 t172 true)) else (mooringslaw03_PackBack.j2 kj13 l0 a1 t171 t172 true)) else (mooringslaw03_PackBack.j2 kj13 l0 a1 t171 t172 false)) = some r := H
              have A25 := Aside0.mk A250
              clear A250
              have HC26 := Aside0.mk H
              clear H
              go_upto_region 11 with (first | ((with_reducible refine gate_callee (f := 12) rfl ?_); refine goesL_ (some 74) rfl rfl Try.func12 (by kernel_rfl) rfl #[.slice A2 l2.length c2, .int .i64 a3, .int .i64 a1] rfl (by (try simp only [List.map_toArray, List.map_cons, List.map_nil]); first | done | rfl | (simp only [List.length_drop, List.length_take]; rfl)) ?_; (with_reducible refine (pack_Unpack.calls _ _ l2 a3 a1 t181 t182 _ ?side1 ?side2 A24.out).mono ?_); (case side1 => repeat (first | exact (Kd.C_below HR2.out HB.out) | (with_reducible refine Kd.C_alloc ?_ _) | (with_reducible refine Kd.C_drewN ?_ _) | (with_reducible refine Kd.C_drew ?_))); (case side2 => exact HC2.out); rintro e w27 ⟨v183, rfl, ho0, hb⟩; refine ⟨_, rfl, ?_⟩; have n0_ := Aside0.mk (Kd.R_below (by (with_reducible repeat (first | apply Kd.R_alloc | apply Kd.R_drewN | apply Kd.R_drew)); exact HO_10.out) hb); have n1_ := Aside0.mk (Kd.R_lower ho0 (below_size (by repeat (first | (with_reducible first | exact HB.out | apply below_alloc | apply pw_below_drewN | apply below_drew1) | exact HB.out)))); have n2_ := Aside0.mk (below_step (by repeat (first | (with_reducible first | exact HB.out | apply below_alloc | apply pw_below_drewN | apply below_drew1) | exact HB.out)) hb); clear HO_10; clear HB; have HO_10 := n0_; have HO184 := n1_; have HB := n2_; clear n0_ n1_ n2_; (try clear hb); (try clear hb2); (try clear hk); (try clear hi); (try clear ho0); obtain ⟨Ao28, co28, eo28⟩ := Kd.R_slice HO184.out; subst eo28) | ((with_reducible refine gate_callee (f := 10) rfl ?_); refine goesL_ (some 80) rfl rfl Try.func10 (by kernel_rfl) rfl #[.slice Ao28 t181.length co28, .int .i64 a1] rfl (by (try simp only [List.map_toArray, List.map_cons, List.map_nil]); first | done | rfl | (simp only [List.length_drop, List.length_take]; rfl)) ?_; (with_reducible refine (pack_Pack.calls _ _ t181 a1 t185 t186 _ ?side1 ?side2 A25.out).mono ?_); (case side1 => repeat (first | exact (Kd.R_reads' HO184.out).2.2 | (with_reducible refine Kd.C_alloc ?_ _) | (with_reducible refine Kd.C_drewN ?_ _) | (with_reducible refine Kd.C_drew ?_))); (case side2 => exact (Kd.R_reads' HO184.out).2.1); rintro e w29 ⟨v187, rfl, ho0, hb⟩; refine ⟨_, rfl, ?_⟩; have n0_ := Aside0.mk (Kd.R_elder' (by (with_reducible repeat (first | apply Kd.R_alloc | apply Kd.R_drewN | apply Kd.R_drew)); exact HO_10.out) (Kd.R_base ho0) hb); have n1_ := Aside0.mk (Kd.R_below (by (with_reducible repeat (first | apply Kd.R_alloc | apply Kd.R_drewN | apply Kd.R_drew)); exact HO184.out) hb); have n2_ := Aside0.mk (Kd.R_lower (Kd.R_new' ho0 (Kd.R_lt (by (with_reducible repeat (first | apply Kd.R_alloc | apply Kd.R_drewN | apply Kd.R_drew)); exact HO_10.out))) (below_size (by repeat (first | (with_reducible first | exact HB.out | apply below_alloc | apply pw_below_drewN | apply below_drew1) | exact HB.out)))); have n3_ := Aside0.mk (below_step (by repeat (first | (with_reducible first | exact HB.out | apply below_alloc | apply pw_below_drewN | apply below_drew1) | exact HB.out)) hb); clear HO_10; clear HO184; clear HB; have HO_10 := n0_; have HO184 := n1_; have HO188 := n2_; have HB := n3_; clear n0_ n1_ n2_ n3_; (try clear hb); (try clear hb2); (try clear hk); (try clear hi); (try clear ho0)))
              (try simp only [Act.put, List.setIfInBounds_toArray, List.set_cons_zero, List.set_cons_succ])
              go_cut [100] (fun v100 wc => ∃ (kq : Nat) (x100_25 : Bool), v100 = .bool x100_25 ∧ Aside0 (mooringslaw03_PackBack.j2 kq l0 a1 t171 t172 x100_25 = some r) ∧ Aside0 (kq ≤ kj13) ∧ Aside0 (Kd.R (Kd.int .u8) 5 wc w.heap.size (fun _ => True) (.slice Ao16 t171.length co16) t171) ∧ Aside0 (Below w.heap.size w wc))
              case first =>
                have H := HC26.out
                clear HC26
                by_cases c30 : t182 = true
                · subst c30
                  have H1 : (if t186 = true then (if (strOfNums t185).toList = (strOfNums l2).toList then (mooringslaw03_PackBack.j2 kj13 l0 a1 t171 t172 ((t181.length : Int) != a3)) else (mooringslaw03_PackBack.j2 kj13 l0 a1 t171 t172 true)) else (mooringslaw03_PackBack.j2 kj13 l0 a1 t171 t172 true)) = some r := by rw [if_pos rfl] at H; exact H
                  clear H
                  have H := H1
                  clear H1
                  by_cases c31 : t186 = true
                  · subst c31
                    have H1 : (if (strOfNums t185).toList = (strOfNums l2).toList then (mooringslaw03_PackBack.j2 kj13 l0 a1 t171 t172 ((t181.length : Int) != a3)) else (mooringslaw03_PackBack.j2 kj13 l0 a1 t171 t172 true)) = some r := by rw [if_pos rfl] at H; exact H
                    clear H
                    have H := H1
                    clear H1
                    by_cases c32 : (strOfNums t185).toList = (strOfNums l2).toList
                    · rw [if_pos c32] at H
                      have c32b0 : ((strOfNums t185).toList == (strOfNums l2).toList) = true := beq_iff_eq.mpr c32
                      have c32b1 : ((strOfNums t185).toList != (strOfNums l2).toList) = false := bne_eq_false_iff_eq.mpr c32
                      clear c32
                      (first | rw [c32b0] | (simp only [i64_w, i32_w]; rw [c32b0]) | skip)
                      have H' := Aside0.mk H
                      clear H
                      have hcv33 := own_string (P := Try.prog) Try.underlying23 Try.underlying5 Try.underlying9 (Kd.own_of_R HO188.out)
                      have hcv34 := Kd.C_string (P := Try.prog) (A := A2) (c := c2) Try.underlying23 Try.underlying5 Try.underlying9 (Kd.C_below HR2.out HB.out)
                      go_wp2
                      go_meet
                      case rel => exact ⟨_, (((t181.length : Int) != a3)), (by first | rfl | (simp; done) | (simp [*]; done)), H', ⟨by have := HJ5.out; have := HJ13.out; first | omega | exact Nat.le_refl _⟩, ⟨by (with_reducible repeat (first | apply Kd.R_alloc | apply Kd.R_drewN | apply Kd.R_drew)); exact Kd.R_mono HO_10.out (fun _ hk => trivial)⟩, ⟨by repeat (first | (with_reducible first | exact HB.out | apply below_alloc | apply pw_below_drewN | apply below_drew1) | exact HB.out)⟩⟩
                    · rw [if_neg c32] at H
                      have c32b0 : ((strOfNums t185).toList == (strOfNums l2).toList) = false := beq_eq_false_iff_ne.mpr c32
                      have c32b1 : ((strOfNums t185).toList != (strOfNums l2).toList) = true := bne_iff_ne.mpr c32
                      (first | rw [c32b0] | (simp only [i64_w, i32_w]; rw [c32b0]) | skip)
                      have H' := Aside0.mk H
                      clear H
                      have hcv35 := own_string (P := Try.prog) Try.underlying23 Try.underlying5 Try.underlying9 (Kd.own_of_R HO188.out)
                      have hcv36 := Kd.C_string (P := Try.prog) (A := A2) (c := c2) Try.underlying23 Try.underlying5 Try.underlying9 (Kd.C_below HR2.out HB.out)
                      go_wp2
                      go_meet
                      case rel => exact ⟨_, (true), (by first | rfl | (simp; done) | (simp [*]; done)), H', ⟨by have := HJ5.out; have := HJ13.out; first | omega | exact Nat.le_refl _⟩, ⟨by (with_reducible repeat (first | apply Kd.R_alloc | apply Kd.R_drewN | apply Kd.R_drew)); exact Kd.R_mono HO_10.out (fun _ hk => trivial)⟩, ⟨by repeat (first | (with_reducible first | exact HB.out | apply below_alloc | apply pw_below_drewN | apply below_drew1) | exact HB.out)⟩⟩
                  · replace c31 := Bool.eq_false_iff.mpr c31
                    subst c31
                    have H1 : (mooringslaw03_PackBack.j2 kj13 l0 a1 t171 t172 true) = some r := by rw [if_neg (show ¬ (false = true) by decide)] at H; exact H
                    clear H
                    have H := H1
                    clear H1
                    have H' := Aside0.mk H
                    clear H
                    go_wp2
                    go_meet
                    case rel => exact ⟨_, (true), (by first | rfl | (simp; done) | (simp [*]; done)), H', ⟨by have := HJ5.out; have := HJ13.out; first | omega | exact Nat.le_refl _⟩, ⟨by (with_reducible repeat (first | apply Kd.R_alloc | apply Kd.R_drewN | apply Kd.R_drew)); exact Kd.R_mono HO_10.out (fun _ hk => trivial)⟩, ⟨by repeat (first | (with_reducible first | exact HB.out | apply below_alloc | apply pw_below_drewN | apply below_drew1) | exact HB.out)⟩⟩
                · replace c30 := Bool.eq_false_iff.mpr c30
                  subst c30
                  have H1 : (mooringslaw03_PackBack.j2 kj13 l0 a1 t171 t172 false) = some r := by rw [if_neg (show ¬ (false = true) by decide)] at H; exact H
                  clear H
                  have H := H1
                  clear H1
                  have H' := Aside0.mk H
                  clear H
                  go_wp2
                  go_meet
                  case rel => exact ⟨_, (false), (by first | rfl | (simp; done) | (simp [*]; done)), H', ⟨by have := HJ5.out; have := HJ13.out; first | omega | exact Nat.le_refl _⟩, ⟨by (with_reducible repeat (first | apply Kd.R_alloc | apply Kd.R_drewN | apply Kd.R_drew)); exact Kd.R_mono HO_10.out (fun _ hk => trivial)⟩, ⟨by repeat (first | (with_reducible first | exact HB.out | apply below_alloc | apply pw_below_drewN | apply below_drew1) | exact HB.out)⟩⟩
              case rest =>
                clear HC26
                try clear c1
                try clear c2
                try clear p2
                try clear c3
                try clear hcv3
                try clear c4
                try clear c8
                try clear c9
                try clear c9b0
                try clear c9b1
                try clear c10
                try clear c12
                try clear c14
                try clear c19
                try clear c20
                try clear c21
                try clear c23
                try clear c30
                try clear c31
                try clear c32
                try clear c32b0
                try clear c32b1
                try clear hcv33
                try clear hcv34
                try clear hcv35
                try clear hcv36
                try clear p2
                obtain ⟨kq, x100_25, rfl, HA, HJ25, HO_10, HB⟩ := hcut
                cases kq with
                | zero => exact absurd HA.out (by simp [mooringslaw03_PackBack.j2])
                | succ kj25 =>
                  have H := HA.out
                  clear HA
                  simp only [mooringslaw03_PackBack.j2] at H
                  by_cases c37 : x100_25 = true
                  · subst c37
                    have H1 : (some false) = some r := by rw [if_pos rfl] at H; exact H
                    clear H
                    have H := H1
                    clear H1
                    obtain rfl := Option.some.inj H
                    go_wp2
                    go_ret
                    exact ⟨by first | rfl | (simp [errW_none, errW_some] <;> rfl) | (simp [*, errW_none, errW_some] <;> rfl), by repeat (first | (with_reducible first | exact HB.out | apply below_alloc | apply pw_below_drewN | apply below_drew1) | exact HB.out)⟩
                  · replace c37 := Bool.eq_false_iff.mpr c37
                    subst c37
                    have H1 : (if t172 = true then (if a1 < 8 then (some true) else ((pack_Unpack.f t171 (wrap64 ((l0.length : Int) + 1)) a1).bind fun bt189 => (some (!bt189.2)))) else (some true)) = some r := by rw [if_neg (show ¬ (false = true) by decide)] at H; exact H
                    clear H
                    have H := H1
                    clear H1
                    by_cases c38 : t172 = true
                    · subst c38
                      have H1 : (if a1 < 8 then (some true) else ((pack_Unpack.f t171 (wrap64 ((l0.length : Int) + 1)) a1).bind fun bt189 => (some (!bt189.2)))) = some r := by rw [if_pos rfl] at H; exact H
                      clear H
                      have H := H1
                      clear H1
                      by_cases c39 : a1 < 8
                      · rw [if_pos c39] at H
                        have c39b0 : decide (a1 < 8) = true := decide_eq_true c39
                        clear c39
                        obtain rfl := Option.some.inj H
                        go_wp2
                        go_ret
                        exact ⟨by first | rfl | (simp [errW_none, errW_some] <;> rfl) | (simp [*, errW_none, errW_some] <;> rfl), by repeat (first | (with_reducible first | exact HB.out | apply below_alloc | apply pw_below_drewN | apply below_drew1) | exact HB.out)⟩
                      · rw [if_neg c39] at H
                        have c39b0 : decide (a1 < 8) = false := decide_eq_false c39
                        clear c39
                        replace H := Option.bind_eq_some_iff.mp H
                        obtain ⟨⟨t189, t190⟩, A400, H⟩ := H
                        replace H : (some (!t190)) = some r := H
                        have A40 := Aside0.mk A400
                        clear A400
                        obtain rfl := Option.some.inj H
                        go_wp2_with (first | ((with_reducible refine gate_callee (f := 12) rfl ?_); refine goesL_ (some 113) rfl rfl Try.func12 (by kernel_rfl) rfl #[.slice Ao16 t171.length co16, .int .i64 (wrap64 ((l0.length : Int) + 1)), .int .i64 a1] rfl (by (try simp only [List.map_toArray, List.map_cons, List.map_nil]); first | done | rfl | (simp only [List.length_drop, List.length_take]; rfl)) ?_; (with_reducible refine (pack_Unpack.calls _ _ t171 (wrap64 ((l0.length : Int) + 1)) a1 t189 t190 _ ?side1 ?side2 A40.out).mono ?_); (case side1 => repeat (first | exact (Kd.R_reads' HO_10.out).2.2 | (with_reducible refine Kd.C_alloc ?_ _) | (with_reducible refine Kd.C_drewN ?_ _) | (with_reducible refine Kd.C_drew ?_))); (case side2 => exact (Kd.R_reads' HO_10.out).2.1); rintro e w41 ⟨v191, rfl, ho0, hb⟩; refine ⟨_, rfl, ?_⟩; have n0_ := Aside0.mk (Kd.R_below (by (with_reducible repeat (first | apply Kd.R_alloc | apply Kd.R_drewN | apply Kd.R_drew)); exact HO_10.out) hb); have n1_ := Aside0.mk (Kd.R_lower ho0 (below_size (by repeat (first | (with_reducible first | exact HB.out | apply below_alloc | apply pw_below_drewN | apply below_drew1) | exact HB.out)))); have n2_ := Aside0.mk (below_step (by repeat (first | (with_reducible first | exact HB.out | apply below_alloc | apply pw_below_drewN | apply below_drew1) | exact HB.out)) hb); clear HO_10; clear HB; have HO_10 := n0_; have HO192 := n1_; have HB := n2_; clear n0_ n1_ n2_; (try clear hb); (try clear hb2); (try clear hk); (try clear hi); (try clear ho0)))
                        go_ret
                        exact ⟨by first | rfl | (simp [errW_none, errW_some] <;> rfl) | (simp [*, errW_none, errW_some] <;> rfl), by repeat (first | (with_reducible first | exact HB.out | apply below_alloc | apply pw_below_drewN | apply below_drew1) | exact HB.out)⟩
                    · replace c38 := Bool.eq_false_iff.mpr c38
                      subst c38
                      have H1 : (some true) = some r := by rw [if_neg (show ¬ (false = true) by decide)] at H; exact H
                      clear H
                      have H := H1
                      clear H1
                      obtain rfl := Option.some.inj H
                      go_wp2
                      go_ret
                      exact ⟨by first | rfl | (simp [errW_none, errW_some] <;> rfl) | (simp [*, errW_none, errW_some] <;> rfl), by repeat (first | (with_reducible first | exact HB.out | apply below_alloc | apply pw_below_drewN | apply below_drew1) | exact HB.out)⟩

/-- THE ONE PURE STATEMENT of mooringslaw03_PackBack: yours. -/
def mooringslaw03_PackBack.Pure : Prop := ∀ (l0 : List Int) (a1 : Int) (l2 : List Int) (a3 : Int), l0.length ≤ maxLen → l0.length * 8 ≤ 140737488351232 → (∀ x ∈ l0, (Lit.int .i64 x).wf = true) → (Lit.int .i64 a1).wf = true → l2.length ≤ maxLen → l2.length * 1 ≤ 140737488351232 → (∀ x ∈ l2, (Lit.int .u8 x).wf = true) → (Lit.int .i64 a3).wf = true → ∃ k, mooringslaw03_PackBack.f k l0 a1 l2 a3 = some true
theorem mooringslaw03_PackBack.walk (P : mooringslaw03_PackBack.Pure) (a0 : Option Addr) (len0 cap0 : Nat) (z0 : List Int) (a1 : Int) (a2 : Option Addr) (len2 cap2 : Nat) (z2 : List Int) (a3 : Int) (w : World) (w0 : (a0 = none ∧ len0 = 0 ∧ cap0 = 0 ∧ z0 = []) ∨ ∃ x, a0 = some x ∧ len0 ≤ cap0 ∧ cap0 ≤ maxLen ∧ z0.length = cap0 ∧ (∀ i, i < z0.length → w.cell? (x.add i) = some (.int .i64 (z0.getD i 0))) ∧ ∀ n ∈ z0, (Lit.int .i64 n).wf = true) (y0 : len0 * 8 ≤ 140737488351232) (w1 : (Lit.int .i64 a1).wf = true) (w2 : (a2 = none ∧ len2 = 0 ∧ cap2 = 0 ∧ z2 = []) ∨ ∃ x, a2 = some x ∧ len2 ≤ cap2 ∧ cap2 ≤ maxLen ∧ z2.length = cap2 ∧ (∀ i, i < z2.length → w.cell? (x.add i) = some (.int .u8 (z2.getD i 0))) ∧ ∀ n ∈ z2, (Lit.int .u8 n).wf = true) (y2 : len2 * 1 ≤ 140737488351232) (w3 : (Lit.int .i64 a3).wf = true) :
    Calls Try.prog 4 #[.slice a0 len0 cap0, .int .i64 a1, .slice a2 len2 cap2, .int .i64 a3] w fun e w' => e = .returned (.bool true) ∧ Below w.heap.size w w' := by
  obtain ⟨l0, rfl, hr0, hm0, hw0, hc0⟩ := ReadsInt.ofRowC w0
  obtain ⟨l2, rfl, hr2, hm2, hw2, hc2⟩ := ReadsInt.ofRowC w2
  obtain ⟨k, h⟩ := P l0 a1 l2 a3 hm0 y0 hw0 w1 hm2 y2 hw2 w3
  refine (mooringslaw03_PackBack.calls k _ _ l0 a1 _ _ l2 a3 true w (Kd.C_of_reads (d := (0 : Int)) (h1 := fun _ => rfl) hr0) hc0 (Kd.C_of_reads (d := (0 : Int)) (h1 := fun _ => rfl) hr2) hc2 h).mono ?_
  rintro e w' ⟨rfl, hd⟩
  exact ⟨rfl, hd⟩

end Go.Proofs.Ytikmbpkakpbjlaa.P
