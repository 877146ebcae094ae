-- Laid by this session's own program (wip/myprint.py): Lean functions for the Go functions that a law reaches, and their contracts. Not trusted: Lean checks it. (slimmed by wip/slim10.py)
import Derived.Test.YtggkealdbebbkaaP0
import Derived.Test.YtggkealdbebbkaaP1
import Derived.Test.YtggkealdbebbkaaP3
namespace Go.Proofs.Ytggkealdbebbkaa.P
noncomputable section
open Go.RowKit Go.Proofs.YtggkealdbebbkaaW.PrintWords Go.Proofs.YtggkealdbebbkaaW.PrintLast Go.Proofs.YtggkealdbebbkaaW.PrintMore
attribute [local go_sem] max2_int min2_int max_two min_two max_three min_three max_four min_four   -- for this text's walks alone
set_option linter.unusedVariables false
set_option linter.unusedSimpArgs false

attribute [local go_sem high] eqA33
/-! ### mooringslaw10_awake: function 10 -/
def mooringslaw10_awake.f (k : Nat)  : Option (Bool) := (wheel_New.f 0).bind fun bt122 => ((wheel_Add.f bt122.1 bt122.2.1 1 5).bind fun bt128 => ((wheel_Add.f bt128.1 bt128.2.1 2 3).bind fun bt133 => ((wheel_Step.f bt133.1 bt133.2.1 4).bind fun bt138 => (if bt122.2.2 = true then (if bt128.2.2 = 0 then (if bt133.2.2 = 0 then (if bt138.2.2.2 = 0 then (if (bt138.2.2.1.length : Int) = 1 then (if 0 < (bt138.2.2.1.length : Int) then (if (((rd_T33 bt138.2.2.1 0).f0) == 2 && (((rd_T33 bt138.2.2.1 0).f1) == 3)) = true then (if (bt138.2.1.length : Int) = 1 then (if bt138.1 = 4 then ((wheel_May.f bt138.1 bt138.2.1).bind fun t148 => (if t148 = true then ((wheel_Same.f k bt138.1 bt138.2.1 bt138.1 bt138.2.1).bind fun t149 => (some t149)) else (some false))) else (some false)) else (some false)) else (some false)) else (none)) else (some false)) else (some false)) else (some false)) else (some false)) else (some false)))))
set_option maxHeartbeats 8000000 in
set_option maxRecDepth 100000 in
theorem mooringslaw10_awake.calls (k : Nat)  (r : Bool) (hR0 : r = true) (w : World) (h : mooringslaw10_awake.f k  = some r) :
  Calls Try.prog 10 #[] w fun e w' => e = .returned (.bool r) ∧ Below w.heap.size w w' := by
 have HR := Ym hR0
 clear hR0
 have hu24 := Try.underlying24
 have hu33 := Try.underlying33
 have HB := Ym (Below.refl w.heap.size w)
 have H : ((wheel_New.f 0).bind fun bt122 => ((wheel_Add.f bt122.1 bt122.2.1 1 5).bind fun bt128 => ((wheel_Add.f bt128.1 bt128.2.1 2 3).bind fun bt133 => ((wheel_Step.f bt133.1 bt133.2.1 4).bind fun bt138 => (if bt122.2.2 = true then (if bt128.2.2 = 0 then (if bt133.2.2 = 0 then (if bt138.2.2.2 = 0 then (if (bt138.2.2.1.length : Int) = 1 then (if 0 < (bt138.2.2.1.length : Int) then (if (((rd_T33 bt138.2.2.1 0).f0) == 2 && (((rd_T33 bt138.2.2.1 0).f1) == 3)) = true then (if (bt138.2.1.length : Int) = 1 then (if bt138.1 = 4 then ((wheel_May.f bt138.1 bt138.2.1).bind fun t148 => (if t148 = true then ((wheel_Same.f k bt138.1 bt138.2.1 bt138.1 bt138.2.1).bind fun t149 => (some t149)) else (some false))) else (some false)) else (some false)) else (some false)) else (none)) else (some false)) else (some false)) else (some false)) else (some false)) else (some false)))))) = some r := h
 clear h
 replace H := YB.mp H
 obtain ⟨⟨t122, t123, t126⟩, A10, H⟩ := H
 replace H : ((wheel_Add.f t122 t123 1 5).bind fun bt128 => ((wheel_Add.f bt128.1 bt128.2.1 2 3).bind fun bt133 => ((wheel_Step.f bt133.1 bt133.2.1 4).bind fun bt138 => (if t126 = true then (if bt128.2.2 = 0 then (if bt133.2.2 = 0 then (if bt138.2.2.2 = 0 then (if (bt138.2.2.1.length : Int) = 1 then (if 0 < (bt138.2.2.1.length : Int) then (if (((rd_T33 bt138.2.2.1 0).f0) == 2 && (((rd_T33 bt138.2.2.1 0).f1) == 3)) = true then (if (bt138.2.1.length : Int) = 1 then (if bt138.1 = 4 then ((wheel_May.f bt138.1 bt138.2.1).bind fun t148 => (if t148 = true then ((wheel_Same.f k bt138.1 bt138.2.1 bt138.1 bt138.2.1).bind fun t149 => (some t149)) else (some false))) else (some false)) else (some false)) else (some false)) else (none)) else (some false)) else (some false)) else (some false)) else (some false)) else (some false))))) = some r := H
 have A1 := Ym A10
 clear A10
 replace H := YB.mp H
 obtain ⟨⟨t128, t129, t132⟩, A20, H⟩ := H
 replace H : ((wheel_Add.f t128 t129 2 3).bind fun bt133 => ((wheel_Step.f bt133.1 bt133.2.1 4).bind fun bt138 => (if t126 = true then (if t132 = 0 then (if bt133.2.2 = 0 then (if bt138.2.2.2 = 0 then (if (bt138.2.2.1.length : Int) = 1 then (if 0 < (bt138.2.2.1.length : Int) then (if (((rd_T33 bt138.2.2.1 0).f0) == 2 && (((rd_T33 bt138.2.2.1 0).f1) == 3)) = true then (if (bt138.2.1.length : Int) = 1 then (if bt138.1 = 4 then ((wheel_May.f bt138.1 bt138.2.1).bind fun t148 => (if t148 = true then ((wheel_Same.f k bt138.1 bt138.2.1 bt138.1 bt138.2.1).bind fun t149 => (some t149)) else (some false))) else (some false)) else (some false)) else (some false)) else (none)) else (some false)) else (some false)) else (some false)) else (some false)) else (some false)))) = some r := H
 have A2 := Ym A20
 clear A20
 replace H := YB.mp H
 obtain ⟨⟨t133, t134, t137⟩, A30, H⟩ := H
 replace H : ((wheel_Step.f t133 t134 4).bind fun bt138 => (if t126 = true then (if t132 = 0 then (if t137 = 0 then (if bt138.2.2.2 = 0 then (if (bt138.2.2.1.length : Int) = 1 then (if 0 < (bt138.2.2.1.length : Int) then (if (((rd_T33 bt138.2.2.1 0).f0) == 2 && (((rd_T33 bt138.2.2.1 0).f1) == 3)) = true then (if (bt138.2.1.length : Int) = 1 then (if bt138.1 = 4 then ((wheel_May.f bt138.1 bt138.2.1).bind fun t148 => (if t148 = true then ((wheel_Same.f k bt138.1 bt138.2.1 bt138.1 bt138.2.1).bind fun t149 => (some t149)) else (some false))) else (some false)) else (some false)) else (some false)) else (none)) else (some false)) else (some false)) else (some false)) else (some false)) else (some false))) = some r := H
 have A3 := Ym A30
 clear A30
 replace H := YB.mp H
 obtain ⟨⟨t138, t139, t142, t145⟩, A40, H⟩ := H
 replace H : (if t126 = true then (if t132 = 0 then (if t137 = 0 then (if t145 = 0 then (if (t142.length : Int) = 1 then (if 0 < (t142.length : Int) then (if (((rd_T33 t142 0).f0) == 2 && (((rd_T33 t142 0).f1) == 3)) = true then (if (t139.length : Int) = 1 then (if t138 = 4 then ((wheel_May.f t138 t139).bind fun t148 => (if t148 = true then ((wheel_Same.f k t138 t139 t138 t139).bind fun t149 => (some t149)) else (some false))) else (some false)) else (some false)) else (some false)) else (none)) else (some false)) else (some false)) else (some false)) else (some false)) else (some false)) = some r := H
 have A4 := Ym A40
 clear A40
 by_cases c5 : t126 = true
 ·subst c5
  have H1 : (if t132 = 0 then (if t137 = 0 then (if t145 = 0 then (if (t142.length : Int) = 1 then (if 0 < (t142.length : Int) then (if (((rd_T33 t142 0).f0) == 2 && (((rd_T33 t142 0).f1) == 3)) = true then (if (t139.length : Int) = 1 then (if t138 = 4 then ((wheel_May.f t138 t139).bind fun t148 => (if t148 = true then ((wheel_Same.f k t138 t139 t138 t139).bind fun t149 => (some t149)) else (some false))) else (some false)) else (some false)) else (some false)) else (none)) else (some false)) else (some false)) else (some false)) else (some false)) = some r := by rw [if_pos rfl] at H; exact H
  clear H
  have H := H1
  clear H1
  by_cases c6 : t132 = 0
  ·rw [if_pos c6] at H
   have c6b0 : (t132 == 0) = true := beq_iff_eq.mpr c6
   have c6b1 : (t132 != 0) = false := bne_eq_false_iff_eq.mpr c6
   clear c6
   by_cases c7 : t137 = 0
   ·rw [if_pos c7] at H
    have c7b0 : (t137 == 0) = true := beq_iff_eq.mpr c7
    have c7b1 : (t137 != 0) = false := bne_eq_false_iff_eq.mpr c7
    clear c7
    by_cases c8 : t145 = 0
    ·rw [if_pos c8] at H
     have c8b0 : (t145 == 0) = true := beq_iff_eq.mpr c8
     have c8b1 : (t145 != 0) = false := bne_eq_false_iff_eq.mpr c8
     clear c8
     by_cases c9 : (t142.length : Int) = 1
     ·rw [if_pos c9] at H
      have c9b0 : ((t142.length : Int) == 1) = true := beq_iff_eq.mpr c9
      have c9b1 : ((t142.length : Int) != 1) = false := bne_eq_false_iff_eq.mpr c9
      clear c9
      by_cases c10 : 0 < (t142.length : Int)
      ·rw [if_pos c10] at H
       have c10b0 : decide (0 < (t142.length : Int)) = true := decide_eq_true c10
       have c10b1 : decide (0 < t142.length) = true := decide_eq_true (by omega)
       clear c10
       by_cases c11 : (((rd_T33 t142 0).f0) == 2 && (((rd_T33 t142 0).f1) == 3)) = true
       ·rw [if_pos c11] at H
        have c11b0 : (((rd_T33 t142 0).f0) == 2 && (((rd_T33 t142 0).f1) == 3)) = true := c11
        (try (have c11b1 : decide (((rd_T33 t142 0).f0) = 2 && (((rd_T33 t142 0).f1) == 3)) = true := by simpa using c11))
        (try (have c11b2 : (((rd_T33 t142 0).f0) == 2 && (((rd_T33 t142 0).f1) == 3)) = true := by simpa using c11))
        clear c11
        by_cases c12 : (t139.length : Int) = 1
        ·rw [if_pos c12] at H
         have c12b0 : ((t139.length : Int) == 1) = true := beq_iff_eq.mpr c12
         have c12b1 : ((t139.length : Int) != 1) = false := bne_eq_false_iff_eq.mpr c12
         clear c12
         by_cases c13 : t138 = 4
         ·rw [if_pos c13] at H
          have c13b0 : (t138 == 4) = true := beq_iff_eq.mpr c13
          have c13b1 : (t138 != 4) = false := bne_eq_false_iff_eq.mpr c13
          clear c13
          replace H := YB.mp H
          obtain ⟨t148, A140, H⟩ := H
          replace H : (if t148 = true then ((wheel_Same.f k t138 t139 t138 t139).bind fun t149 => (some t149)) else (some false)) = some r := H
          have A14 := Ym A140
          clear A140
          by_cases c15 : t148 = true
          ·subst c15
           have H1 : ((wheel_Same.f k t138 t139 t138 t139).bind fun t149 => (some t149)) = some r := by rw [if_pos rfl] at H; exact H
           clear H
           have H := H1
           clear H1
           replace H := YB.mp H
           obtain ⟨t149, A160, H⟩ := H
           replace H : (some t149) = some r := H
           have A16 := Ym A160
           clear A160
           obtain rfl := Option.some.inj H
           go_enter Try.func10, Try.ntmps10
           go_wp2_with (first | ((with_reducible refine gate_callee (f := 19) rfl ?_); refine goesL_ (some 9) rfl rfl Try.func19 (by kernel_rfl) rfl #[.int .i64 0] rfl (by (try simp only [List.map_toArray, List.map_cons, List.map_nil]); first | done | rfl | (simp only [List.length_drop, List.length_take]; rfl)) ?_; (with_reducible refine (wheel_New.calls 0 t122 t123 true _ A1.out).mono ?_); rintro e w17 ⟨v124, rfl, ho0, hb⟩; refine ⟨_, rfl, ?_⟩; have n0_ := Ym (Kd.R_lower ho0 (Yk (by repeat (first | (with_reducible first | exact HB.out | apply Yc | apply Ya | apply Yb) | exact HB.out)))); have n1_ := Ym (Yj (by repeat (first | (with_reducible first | exact HB.out | apply Yc | apply Ya | apply Yb) | exact HB.out)) hb); clear HB; have HO125 := n0_; have HB := n1_; clear n0_ n1_; (try clear hb); (try clear hb2); (try clear hk); (try clear hi); (try clear ho0)) | ((with_reducible refine gate_dst (N := 1) rfl ?_); (try (refine gate_guard (by rfl) ?_; dsimp only)); refine box_event ?hg (N := 1) ?hd (cs := #[.int .i64 0, .slice none 0 0]) (t := 24) ?hr ?_; (case hd => rfl); (case hg => rfl); (case hr => first | (go_simp; done) | (go_simp; rfl)); intro gb127 hg w18 hbox hb; have n0_ := Ym (YA (by (with_reducible repeat (first | apply Ys | apply Yr | apply Yt)); exact HO125.out) hb); have n1_ := Ym (Yj (by repeat (first | (with_reducible first | exact HB.out | apply Yc | apply Ya | apply Yb) | exact HB.out)) hb); have n2_ := Ym (hbox); have n3_ := Ym ((by rw [hg]; exact (Yk (by repeat (first | (with_reducible first | exact HB.out | apply Yc | apply Ya | apply Yb) | exact HB.out))) : w.heap.size ≤ gb127)); have n4_ := Ym ((by rw [hg]; exact (Yk (by repeat (first | (with_reducible first | exact HB.out | apply Yc | apply Ya | apply Yb) | exact HB.out))) : w.heap.size ≤ gb127)); clear HO125; clear HB; have HO125 := n0_; have HB := n1_; have BK127 := n2_; have GW127 := n3_; have GE127 := n4_; clear n0_ n1_ n2_ n3_ n4_; clear hb hbox hg; have hcz19_0 : w18.cell? ⟨gb127, 0, none⟩ = some (.int .i64 0) := (Yh BK127.out 0).trans rfl; have hcz19_1 : w18.cell? ⟨gb127, 1, none⟩ = some (.slice none 0 0) := (Yh BK127.out 1).trans rfl; have hfz19_0 := Yi BK127.out 0; have hfz19_1 := Yi BK127.out 1; obtain ⟨Ao20, co20, eo20⟩ := Kd.R_slice HO125.out; subst eo20) | ((with_reducible refine gate_callee (f := 14) rfl ?_); refine goesL_ (some 14) rfl rfl Try.func14 (by kernel_rfl) rfl #[.agg #[.int .i64 t122, .slice Ao20 t123.length co20], .int .i64 1, .int .i64 5] rfl (by (try simp only [List.map_toArray, List.map_cons, List.map_nil]); first | done | rfl | (simp only [List.length_drop, List.length_take]; rfl)) ?_; (with_reducible refine (wheel_Add.calls t122 _ _ t123 1 5 t128 t129 t132 _ ?side1 ?side2 A2.out).mono ?_); (case side1 => refine (Kd.R_reads' (e := 33) (base := w.heap.size) (ok := fun k_ => True) (n := t123.length) (c := co20) ?_).2.2; exact (by (with_reducible repeat (first | apply Ys | apply Yr | apply Yt)); exact (Yv (Yw (p := ⟨gb127, 1, none⟩) (Yw (p := ⟨gb127, 0, none⟩) (Yu HO125.out BK127.out (by decide)) (fun _ hk => hk.2) (.int .i64 t122)) (fun _ hk => hk.2) (.slice Ao20 t123.length co20)) (fun _ h_ => h_.1)))); (case side2 => exact (Kd.R_reads' HO125.out).2.1); rintro e w21 ⟨v130, rfl, ho0, hb⟩; refine ⟨_, rfl, ?_⟩; have n0_ := Ym (Kd.R_elder' (by (with_reducible repeat (first | apply Ys | apply Yr | apply Yt)); exact (Yv (Yw (p := ⟨gb127, 1, none⟩) (Yw (p := ⟨gb127, 0, none⟩) (Yu HO125.out BK127.out (by decide)) (fun _ hk => hk.2) (.int .i64 t122)) (fun _ hk => hk.2) (.slice Ao20 t123.length co20)) (fun _ h_ => h_.1))) (Kd.R_base ho0) hb); have n1_ := Ym (Kd.R_lower (Kd.R_new' ho0 (Kd.R_lt (by (with_reducible repeat (first | apply Ys | apply Yr | apply Yt)); exact (Yv (Yw (p := ⟨gb127, 1, none⟩) (Yw (p := ⟨gb127, 0, none⟩) (Yu HO125.out BK127.out (by decide)) (fun _ hk => hk.2) (.int .i64 t122)) (fun _ hk => hk.2) (.slice Ao20 t123.length co20)) (fun _ h_ => h_.1))))) (Yk (by repeat (first | (with_reducible first | exact HB.out | apply Yc | apply Ya | apply Yb | refine Yg ?_ GE127.out) | exact HB.out)))); have n2_ := Ym (Yl (g := gb127) (o := .cells #[.int .i64 t122, .slice Ao20 t123.length co20] 24 (0, 0)) (by (with_reducible repeat (first | refine Yd ?_ _ | refine Yf ?_ | refine Ye ?_ _)); refine blk_put (cs := #[.int .i64 t122, .slice none 0 0]) ?_ 1 _ rfl; (with_reducible repeat (first | refine Yd ?_ _ | refine Yf ?_ | refine Ye ?_ _)); refine blk_put (cs := #[.int .i64 0, .slice none 0 0]) ?_ 0 _ rfl; (with_reducible repeat (first | refine Yd ?_ _ | refine Yf ?_ | refine Ye ?_ _)); exact BK127.out) hb); have n3_ := Ym (Yj (by repeat (first | (with_reducible first | exact HB.out | apply Yc | apply Ya | apply Yb | refine Yg ?_ GE127.out) | exact HB.out)) hb); clear HO125; clear BK127; clear HB; have HO125 := n0_; have HO131 := n1_; have BK127 := n2_; have HB := n3_; clear n0_ n1_ n2_ n3_; (try clear hb); (try clear hb2); (try clear hk); (try clear hi); (try clear ho0); have hcz22_0 : w21.cell? ⟨gb127, 0, none⟩ = some (.int .i64 t122) := (Yh BK127.out 0).trans rfl; have hcz22_1 : w21.cell? ⟨gb127, 1, none⟩ = some (.slice Ao20 t123.length co20) := (Yh BK127.out 1).trans rfl; have hfz22_0 := Yi BK127.out 0; have hfz22_1 := Yi BK127.out 1; obtain ⟨Ao23, co23, eo23⟩ := Kd.R_slice HO131.out; subst eo23) | ((with_reducible refine gate_callee (f := 14) rfl ?_); refine goesL_ (some 19) rfl rfl Try.func14 (by kernel_rfl) rfl #[.agg #[.int .i64 t128, .slice Ao23 t129.length co23], .int .i64 2, .int .i64 3] rfl (by (try simp only [List.map_toArray, List.map_cons, List.map_nil]); first | done | rfl | (simp only [List.length_drop, List.length_take]; rfl)) ?_; (with_reducible refine (wheel_Add.calls t128 _ _ t129 2 3 t133 t134 t137 _ ?side1 ?side2 A3.out).mono ?_); (case side1 => refine (Kd.R_reads' (e := 33) (base := w.heap.size) (ok := fun k_ => (True ∧ some k_ ≠ (.slice Ao20 t123.length co20 : Value).ownBlock)) (n := t129.length) (c := co23) ?_).2.2; exact (by (with_reducible repeat (first | apply Ys | apply Yr | apply Yt)); exact (Yv (Yw (p := ⟨gb127, 1, none⟩) (Yw (p := ⟨gb127, 0, none⟩) (Yu HO131.out BK127.out (by decide)) (fun _ hk => hk.2) (.int .i64 t128)) (fun _ hk => hk.2) (.slice Ao23 t129.length co23)) (fun _ h_ => h_.1)))); (case side2 => exact (Kd.R_reads' HO131.out).2.1); rintro e w24 ⟨v135, rfl, ho0, hb⟩; refine ⟨_, rfl, ?_⟩; have n0_ := Ym (Kd.R_elder' (by (with_reducible repeat (first | apply Ys | apply Yr | apply Yt)); exact (Yv (Yw (p := ⟨gb127, 1, none⟩) (Yw (p := ⟨gb127, 0, none⟩) (Yu HO125.out BK127.out (by decide)) (fun _ hk => hk.2) (.int .i64 t128)) (fun _ hk => hk.2) (.slice Ao23 t129.length co23)) (fun _ h_ => h_.1))) (Kd.R_base ho0) hb); have n1_ := Ym (Kd.R_elder' (by (with_reducible repeat (first | apply Ys | apply Yr | apply Yt)); exact (Yv (Yw (p := ⟨gb127, 1, none⟩) (Yw (p := ⟨gb127, 0, none⟩) (Yu HO131.out BK127.out (by decide)) (fun _ hk => hk.2) (.int .i64 t128)) (fun _ hk => hk.2) (.slice Ao23 t129.length co23)) (fun _ h_ => h_.1))) (Kd.R_base ho0) hb); have n2_ := Ym (Kd.R_lower (Kd.R_new' (Kd.R_new' ho0 (Kd.R_lt (by (with_reducible repeat (first | apply Ys | apply Yr | apply Yt)); exact (Yv (Yw (p := ⟨gb127, 1, none⟩) (Yw (p := ⟨gb127, 0, none⟩) (Yu HO125.out BK127.out (by decide)) (fun _ hk => hk.2) (.int .i64 t128)) (fun _ hk => hk.2) (.slice Ao23 t129.length co23)) (fun _ h_ => h_.1))))) (Kd.R_lt (by (with_reducible repeat (first | apply Ys | apply Yr | apply Yt)); exact (Yv (Yw (p := ⟨gb127, 1, none⟩) (Yw (p := ⟨gb127, 0, none⟩) (Yu HO131.out BK127.out (by decide)) (fun _ hk => hk.2) (.int .i64 t128)) (fun _ hk => hk.2) (.slice Ao23 t129.length co23)) (fun _ h_ => h_.1))))) (Yk (by repeat (first | (with_reducible first | exact HB.out | apply Yc | apply Ya | apply Yb | refine Yg ?_ GE127.out) | exact HB.out)))); have n3_ := Ym (Yl (g := gb127) (o := .cells #[.int .i64 t128, .slice Ao23 t129.length co23] 24 (0, 0)) (by (with_reducible repeat (first | refine Yd ?_ _ | refine Yf ?_ | refine Ye ?_ _)); refine blk_put (cs := #[.int .i64 t128, .slice Ao20 t123.length co20]) ?_ 1 _ rfl; (with_reducible repeat (first | refine Yd ?_ _ | refine Yf ?_ | refine Ye ?_ _)); refine blk_put (cs := #[.int .i64 t122, .slice Ao20 t123.length co20]) ?_ 0 _ rfl; (with_reducible repeat (first | refine Yd ?_ _ | refine Yf ?_ | refine Ye ?_ _)); exact BK127.out) hb); have n4_ := Ym (Yj (by repeat (first | (with_reducible first | exact HB.out | apply Yc | apply Ya | apply Yb | refine Yg ?_ GE127.out) | exact HB.out)) hb); clear HO125; clear HO131; clear BK127; clear HB; have HO125 := n0_; have HO131 := n1_; have HO136 := n2_; have BK127 := n3_; have HB := n4_; clear n0_ n1_ n2_ n3_ n4_; (try clear hb); (try clear hb2); (try clear hk); (try clear hi); (try clear ho0); have hcz25_0 : w24.cell? ⟨gb127, 0, none⟩ = some (.int .i64 t128) := (Yh BK127.out 0).trans rfl; have hcz25_1 : w24.cell? ⟨gb127, 1, none⟩ = some (.slice Ao23 t129.length co23) := (Yh BK127.out 1).trans rfl; have hfz25_0 := Yi BK127.out 0; have hfz25_1 := Yi BK127.out 1; obtain ⟨Ao26, co26, eo26⟩ := Kd.R_slice HO136.out; subst eo26) | ((with_reducible refine gate_callee (f := 11) rfl ?_); refine goesL_ (some 24) rfl rfl Try.func11 (by kernel_rfl) rfl #[.agg #[.int .i64 t133, .slice Ao26 t134.length co26], .int .i64 4] rfl (by (try simp only [List.map_toArray, List.map_cons, List.map_nil]); first | done | rfl | (simp only [List.length_drop, List.length_take]; rfl)) ?_; (with_reducible refine (wheel_Step.calls t133 _ _ t134 4 t138 t139 t142 t145 _ ?side1 ?side2 A4.out).mono ?_); (case side1 => refine (Kd.R_reads' (e := 33) (base := w.heap.size) (ok := fun k_ => ((True ∧ some k_ ≠ (.slice Ao20 t123.length co20 : Value).ownBlock) ∧ some k_ ≠ (.slice Ao23 t129.length co23 : Value).ownBlock)) (n := t134.length) (c := co26) ?_).2.2; exact (by (with_reducible repeat (first | apply Ys | apply Yr | apply Yt)); exact (Yv (Yw (p := ⟨gb127, 1, none⟩) (Yw (p := ⟨gb127, 0, none⟩) (Yu HO136.out BK127.out (by decide)) (fun _ hk => hk.2) (.int .i64 t133)) (fun _ hk => hk.2) (.slice Ao26 t134.length co26)) (fun _ h_ => h_.1)))); (case side2 => exact (Kd.R_reads' HO136.out).2.1); rintro e w27 ⟨v140, v143, rfl, ho0, ho1, hb⟩; refine ⟨_, rfl, ?_⟩; have n0_ := Ym (Yv (Kd.R_told (Kd.R_told (Kd.R_old (by (with_reducible repeat (first | apply Ys | apply Yr | apply Yt)); exact (Yv (Yw (p := ⟨gb127, 1, none⟩) (Yw (p := ⟨gb127, 0, none⟩) (Yu HO125.out BK127.out (by decide)) (fun _ hk => hk.2) (.int .i64 t133)) (fun _ hk => hk.2) (.slice Ao26 t134.length co26)) (fun _ h_ => h_.1))) hb) (Kd.R_base ho0)) (Kd.R_base ho1)) (fun _ h_ => h_.1)); have n1_ := Ym (Yv (Kd.R_told (Kd.R_told (Kd.R_old (by (with_reducible repeat (first | apply Ys | apply Yr | apply Yt)); exact (Yv (Yw (p := ⟨gb127, 1, none⟩) (Yw (p := ⟨gb127, 0, none⟩) (Yu HO131.out BK127.out (by decide)) (fun _ hk => hk.2) (.int .i64 t133)) (fun _ hk => hk.2) (.slice Ao26 t134.length co26)) (fun _ h_ => h_.1))) hb) (Kd.R_base ho0)) (Kd.R_base ho1)) (fun _ h_ => h_.1)); have n2_ := Ym (Yv (Kd.R_told (Kd.R_told (Kd.R_old (by (with_reducible repeat (first | apply Ys | apply Yr | apply Yt)); exact (Yv (Yw (p := ⟨gb127, 1, none⟩) (Yw (p := ⟨gb127, 0, none⟩) (Yu HO136.out BK127.out (by decide)) (fun _ hk => hk.2) (.int .i64 t133)) (fun _ hk => hk.2) (.slice Ao26 t134.length co26)) (fun _ h_ => h_.1))) hb) (Kd.R_base ho0)) (Kd.R_base ho1)) (fun _ h_ => h_.1)); have n3_ := Ym (Kd.R_lower (Kd.R_new' (Kd.R_new' (Kd.R_new' ho0 (Kd.R_lt (by (with_reducible repeat (first | apply Ys | apply Yr | apply Yt)); exact (Yv (Yw (p := ⟨gb127, 1, none⟩) (Yw (p := ⟨gb127, 0, none⟩) (Yu HO125.out BK127.out (by decide)) (fun _ hk => hk.2) (.int .i64 t133)) (fun _ hk => hk.2) (.slice Ao26 t134.length co26)) (fun _ h_ => h_.1))))) (Kd.R_lt (by (with_reducible repeat (first | apply Ys | apply Yr | apply Yt)); exact (Yv (Yw (p := ⟨gb127, 1, none⟩) (Yw (p := ⟨gb127, 0, none⟩) (Yu HO131.out BK127.out (by decide)) (fun _ hk => hk.2) (.int .i64 t133)) (fun _ hk => hk.2) (.slice Ao26 t134.length co26)) (fun _ h_ => h_.1))))) (Kd.R_lt (by (with_reducible repeat (first | apply Ys | apply Yr | apply Yt)); exact (Yv (Yw (p := ⟨gb127, 1, none⟩) (Yw (p := ⟨gb127, 0, none⟩) (Yu HO136.out BK127.out (by decide)) (fun _ hk => hk.2) (.int .i64 t133)) (fun _ hk => hk.2) (.slice Ao26 t134.length co26)) (fun _ h_ => h_.1))))) (Yk (by repeat (first | (with_reducible first | exact HB.out | apply Yc | apply Ya | apply Yb | refine Yg ?_ GE127.out) | exact HB.out)))); have n4_ := Ym (Kd.R_lower (Kd.R_new' (Kd.R_new' (Kd.R_new' ho1 (Kd.R_lt (by (with_reducible repeat (first | apply Ys | apply Yr | apply Yt)); exact (Yv (Yw (p := ⟨gb127, 1, none⟩) (Yw (p := ⟨gb127, 0, none⟩) (Yu HO125.out BK127.out (by decide)) (fun _ hk => hk.2) (.int .i64 t133)) (fun _ hk => hk.2) (.slice Ao26 t134.length co26)) (fun _ h_ => h_.1))))) (Kd.R_lt (by (with_reducible repeat (first | apply Ys | apply Yr | apply Yt)); exact (Yv (Yw (p := ⟨gb127, 1, none⟩) (Yw (p := ⟨gb127, 0, none⟩) (Yu HO131.out BK127.out (by decide)) (fun _ hk => hk.2) (.int .i64 t133)) (fun _ hk => hk.2) (.slice Ao26 t134.length co26)) (fun _ h_ => h_.1))))) (Kd.R_lt (by (with_reducible repeat (first | apply Ys | apply Yr | apply Yt)); exact (Yv (Yw (p := ⟨gb127, 1, none⟩) (Yw (p := ⟨gb127, 0, none⟩) (Yu HO136.out BK127.out (by decide)) (fun _ hk => hk.2) (.int .i64 t133)) (fun _ hk => hk.2) (.slice Ao26 t134.length co26)) (fun _ h_ => h_.1))))) (Yk (by repeat (first | (with_reducible first | exact HB.out | apply Yc | apply Ya | apply Yb | refine Yg ?_ GE127.out) | exact HB.out)))); have n5_ := Ym (Yl (g := gb127) (o := .cells #[.int .i64 t133, .slice Ao26 t134.length co26] 24 (0, 0)) (by (with_reducible repeat (first | refine Yd ?_ _ | refine Yf ?_ | refine Ye ?_ _)); refine blk_put (cs := #[.int .i64 t133, .slice Ao23 t129.length co23]) ?_ 1 _ rfl; (with_reducible repeat (first | refine Yd ?_ _ | refine Yf ?_ | refine Ye ?_ _)); refine blk_put (cs := #[.int .i64 t128, .slice Ao23 t129.length co23]) ?_ 0 _ rfl; (with_reducible repeat (first | refine Yd ?_ _ | refine Yf ?_ | refine Ye ?_ _)); exact BK127.out) hb); have n6_ := Ym (Yj (by repeat (first | (with_reducible first | exact HB.out | apply Yc | apply Ya | apply Yb | refine Yg ?_ GE127.out) | exact HB.out)) hb); clear HO125; clear HO131; clear HO136; clear BK127; clear HB; have HO125 := n0_; have HO131 := n1_; have HO136 := n2_; have HO141 := n3_; have HO144 := n4_; have BK127 := n5_; have HB := n6_; clear n0_ n1_ n2_ n3_ n4_ n5_ n6_; (try clear hb); (try clear hb2); (try clear hk); (try clear hi); (try clear ho0); (try clear ho1)) | ((with_reducible refine gate_dst (N := 5) rfl ?_); (try (refine gate_guard (by rfl) ?_; dsimp only)); refine box_event ?hg (N := 5) ?hd (cs := #[.int .i64 0, .slice none 0 0]) (t := 24) ?hr ?_; (case hd => rfl); (case hg => rfl); (case hr => first | (go_simp; done) | (go_simp; rfl)); intro gb146 hg w28 hbox hb; have n0_ := Ym (YA (by (with_reducible repeat (first | apply Ys | apply Yr | apply Yt)); exact HO125.out) hb); have n1_ := Ym (YA (by (with_reducible repeat (first | apply Ys | apply Yr | apply Yt)); exact HO131.out) hb); have n2_ := Ym (YA (by (with_reducible repeat (first | apply Ys | apply Yr | apply Yt)); exact HO136.out) hb); have n3_ := Ym (YA (by (with_reducible repeat (first | apply Ys | apply Yr | apply Yt)); exact HO141.out) hb); have n4_ := Ym (YA (by (with_reducible repeat (first | apply Ys | apply Yr | apply Yt)); exact HO144.out) hb); have n5_ := Ym (Yl (g := gb127) (o := .cells #[.int .i64 t133, .slice Ao26 t134.length co26] 24 (0, 0)) (by (with_reducible repeat (first | refine Yd ?_ _ | refine Yf ?_ | refine Ye ?_ _)); exact BK127.out) hb); have n6_ := Ym (Yj (by repeat (first | (with_reducible first | exact HB.out | apply Yc | apply Ya | apply Yb | refine Yg ?_ GE127.out) | exact HB.out)) hb); have n7_ := Ym (hbox); have n8_ := Ym ((by rw [hg]; exact (Yk (by repeat (first | (with_reducible first | exact HB.out | apply Yc | apply Ya | apply Yb | refine Yg ?_ GE127.out) | exact HB.out))) : w.heap.size ≤ gb146)); have n9_ := Ym ((by rw [hg]; exact (Yk (by repeat (first | (with_reducible first | exact HB.out | apply Yc | apply Ya | apply Yb | refine Yg ?_ GE127.out) | exact HB.out))) : w.heap.size ≤ gb146)); have n10_ := Ym ((by rw [hg]; exact YD (YI (g := gb127) (o := .cells #[.int .i64 t133, .slice Ao26 t134.length co26] 24 (0, 0)) (by (with_reducible repeat (first | refine Yd ?_ _ | refine Yf ?_ | refine Ye ?_ _)); exact BK127.out)) : gb127 ≠ gb146)); have n11_ := Ym ((by rw [hg]; exact YE (YI (g := gb127) (o := .cells #[.int .i64 t133, .slice Ao26 t134.length co26] 24 (0, 0)) (by (with_reducible repeat (first | refine Yd ?_ _ | refine Yf ?_ | refine Ye ?_ _)); exact BK127.out)) : gb146 ≠ gb127)); clear HO125; clear HO131; clear HO136; clear HO141; clear HO144; clear BK127; clear HB; have HO125 := n0_; have HO131 := n1_; have HO136 := n2_; have HO141 := n3_; have HO144 := n4_; have BK127 := n5_; have HB := n6_; have BK146 := n7_; have GW146 := n8_; have GE146 := n9_; have NB127_146 := n10_; have NB146_127 := n11_; clear n0_ n1_ n2_ n3_ n4_ n5_ n6_ n7_ n8_ n9_ n10_ n11_; clear hb hbox hg; have hnb29 := NB146_127.out; have hnc29 := NB127_146.out; have hcz30_0 : w28.cell? ⟨gb146, 0, none⟩ = some (.int .i64 0) := (Yh BK146.out 0).trans rfl; have hcz30_1 : w28.cell? ⟨gb146, 1, none⟩ = some (.slice none 0 0) := (Yh BK146.out 1).trans rfl; have hfz30_0 := Yi BK146.out 0; have hfz30_1 := Yi BK146.out 1; obtain ⟨Ao31, co31, eo31⟩ := Kd.R_slice HO141.out; subst eo31; obtain ⟨Ao32, co32, eo32⟩ := Kd.R_slice HO144.out; subst eo32; have p147 : 0 ≤ (0 : Int) := (by omega); have q147 : 0 < (t142.length : Int) := YF (by first | (with_reducible assumption) | assumption); obtain ⟨ad147, e147, hx147_0, hx147_1⟩ := at_T33 (Kd.R_reads' HO144.out).2.2 0 p147 q147; cases e147; have qi147 : (0 < t142.length) = True := eq_true (by omega); (try rw [show ((0 : Int)).toNat = 0 from rfl] at hx147_0); (try rw [show 0 * 2 = 0 from rfl] at hx147_0); (try rw [Addr.add_zero'] at hx147_0); (try rw [show ((0 : Int)).toNat = 0 from rfl] at hx147_1); (try rw [show 0 * 2 = 0 from rfl] at hx147_1); (try rw [Addr.add_zero'] at hx147_1); have hn147_0 : ad147.block ≠ gb146 := Kd.own_blk (Kd.R_ne HO144.out BK146.out (by decide)); have hn147_1 : ad147.block ≠ gb146 := Kd.own_blk (Kd.R_ne HO144.out BK146.out (by decide)); replace hx147_0 := (cell_far (p := ⟨gb146, 0, none⟩) (by first | (rw [add_block]; exact hn147_0) | (show (Addr.add _ _).block ≠ _; rw [add_block]; exact hn147_0) | exact hn147_0) (.int .i64 t138)).trans hx147_0; replace hx147_1 := (cell_far (p := ⟨gb146, 0, none⟩) (by first | (rw [add_block]; exact hn147_0) | (show (Addr.add _ _).block ≠ _; rw [add_block]; exact hn147_0) | exact hn147_0) (.int .i64 t138)).trans hx147_1; replace hx147_0 := (cell_far (p := ⟨gb146, 1, none⟩) (by first | (rw [add_block]; exact hn147_1) | (show (Addr.add _ _).block ≠ _; rw [add_block]; exact hn147_1) | exact hn147_1) (.slice Ao31 t139.length co31)).trans hx147_0; replace hx147_1 := (cell_far (p := ⟨gb146, 1, none⟩) (by first | (rw [add_block]; exact hn147_1) | (show (Addr.add _ _).block ≠ _; rw [add_block]; exact hn147_1) | exact hn147_1) (.slice Ao31 t139.length co31)).trans hx147_1; clear hn147_0; clear hn147_1; replace p147 := eq_true p147; replace q147 := eq_true q147) | (go_at_call 23; (with_reducible refine (wheel_May.calls t138 _ _ t139 true _ ?side1 ?side2 A14.out).mono ?_); (case side1 => refine (Kd.R_reads' (e := 33) (base := w.heap.size) (ok := fun k_ => (((some k_ ≠ (.slice (some ad147) t142.length co32 : Value).ownBlock ∧ some k_ ≠ (.slice Ao20 t123.length co20 : Value).ownBlock) ∧ some k_ ≠ (.slice Ao23 t129.length co23 : Value).ownBlock) ∧ some k_ ≠ (.slice Ao26 t134.length co26 : Value).ownBlock)) (n := t139.length) (c := co31) ?_).2.2; exact (by (with_reducible repeat (first | apply Ys | apply Yr | apply Yt)); exact (Yv (Yw (p := ⟨gb146, 1, none⟩) (Yw (p := ⟨gb146, 0, none⟩) (Yu HO141.out BK146.out (by decide)) (fun _ hk => hk.2) (.int .i64 t138)) (fun _ hk => hk.2) (.slice Ao31 t139.length co31)) (fun _ h_ => h_.1)))); (case side2 => exact (Kd.R_reads' HO141.out).2.1); rintro e w33 ⟨rfl, hb⟩; have n0_ := Ym (YA (by (with_reducible repeat (first | apply Ys | apply Yr | apply Yt)); exact (Yv (Yw (p := ⟨gb146, 1, none⟩) (Yw (p := ⟨gb146, 0, none⟩) (Yu HO125.out BK146.out (by decide)) (fun _ hk => hk.2) (.int .i64 t138)) (fun _ hk => hk.2) (.slice Ao31 t139.length co31)) (fun _ h_ => h_.1))) hb); have n1_ := Ym (YA (by (with_reducible repeat (first | apply Ys | apply Yr | apply Yt)); exact (Yv (Yw (p := ⟨gb146, 1, none⟩) (Yw (p := ⟨gb146, 0, none⟩) (Yu HO131.out BK146.out (by decide)) (fun _ hk => hk.2) (.int .i64 t138)) (fun _ hk => hk.2) (.slice Ao31 t139.length co31)) (fun _ h_ => h_.1))) hb); have n2_ := Ym (YA (by (with_reducible repeat (first | apply Ys | apply Yr | apply Yt)); exact (Yv (Yw (p := ⟨gb146, 1, none⟩) (Yw (p := ⟨gb146, 0, none⟩) (Yu HO136.out BK146.out (by decide)) (fun _ hk => hk.2) (.int .i64 t138)) (fun _ hk => hk.2) (.slice Ao31 t139.length co31)) (fun _ h_ => h_.1))) hb); have n3_ := Ym (YA (by (with_reducible repeat (first | apply Ys | apply Yr | apply Yt)); exact (Yv (Yw (p := ⟨gb146, 1, none⟩) (Yw (p := ⟨gb146, 0, none⟩) (Yu HO141.out BK146.out (by decide)) (fun _ hk => hk.2) (.int .i64 t138)) (fun _ hk => hk.2) (.slice Ao31 t139.length co31)) (fun _ h_ => h_.1))) hb); have n4_ := Ym (YA (by (with_reducible repeat (first | apply Ys | apply Yr | apply Yt)); exact (Yv (Yw (p := ⟨gb146, 1, none⟩) (Yw (p := ⟨gb146, 0, none⟩) (Yu HO144.out BK146.out (by decide)) (fun _ hk => hk.2) (.int .i64 t138)) (fun _ hk => hk.2) (.slice Ao31 t139.length co31)) (fun _ h_ => h_.1))) hb); have n5_ := Ym (Yl (g := gb127) (o := .cells #[.int .i64 t133, .slice Ao26 t134.length co26] 24 (0, 0)) (by (with_reducible repeat (first | refine Yd ?_ _ | refine Yf ?_ | refine Ye ?_ _)); refine YH ?_ NB127_146.out _; (with_reducible repeat (first | refine Yd ?_ _ | refine Yf ?_ | refine Ye ?_ _)); refine YH ?_ NB127_146.out _; (with_reducible repeat (first | refine Yd ?_ _ | refine Yf ?_ | refine Ye ?_ _)); exact BK127.out) hb); have n6_ := Ym (Yl (g := gb146) (o := .cells #[.int .i64 t138, .slice Ao31 t139.length co31] 24 (0, 0)) (by (with_reducible repeat (first | refine Yd ?_ _ | refine Yf ?_ | refine Ye ?_ _)); refine blk_put (cs := #[.int .i64 t138, .slice none 0 0]) ?_ 1 _ rfl; (with_reducible repeat (first | refine Yd ?_ _ | refine Yf ?_ | refine Ye ?_ _)); refine blk_put (cs := #[.int .i64 0, .slice none 0 0]) ?_ 0 _ rfl; (with_reducible repeat (first | refine Yd ?_ _ | refine Yf ?_ | refine Ye ?_ _)); exact BK146.out) hb); have n7_ := Ym (Yj (by repeat (first | (with_reducible first | exact HB.out | apply Yc | apply Ya | apply Yb | refine Yg ?_ GE127.out | refine Yg ?_ GE146.out) | exact HB.out)) hb); clear HO125; clear HO131; clear HO136; clear HO141; clear HO144; clear BK127; clear BK146; clear HB; have HO125 := n0_; have HO131 := n1_; have HO136 := n2_; have HO141 := n3_; have HO144 := n4_; have BK127 := n5_; have BK146 := n6_; have HB := n7_; clear n0_ n1_ n2_ n3_ n4_ n5_ n6_ n7_; (try clear hb); (try clear hb2); (try clear hk); (try clear hi); have hcz34_0 : w33.cell? ⟨gb146, 0, none⟩ = some (.int .i64 t138) := (Yh BK146.out 0).trans rfl; have hcz34_1 : w33.cell? ⟨gb146, 1, none⟩ = some (.slice Ao31 t139.length co31) := (Yh BK146.out 1).trans rfl; have hfz34_0 := Yi BK146.out 0; have hfz34_1 := Yi BK146.out 1) | (go_at_call 13; (with_reducible refine (wheel_Same.calls k t138 _ _ t139 t138 _ _ t139 t149 _ ?side1 ?side2 ?side3 ?side4 A16.out).mono ?_); (case side1 => repeat (first | exact (Kd.R_reads' HO141.out).2.2 | (with_reducible refine Kd.C_alloc ?_ _) | (with_reducible refine Kd.C_drewN ?_ _) | (with_reducible refine Kd.C_drew ?_))); (case side2 => exact (Kd.R_reads' HO141.out).2.1); (case side3 => repeat (first | exact (Kd.R_reads' HO141.out).2.2 | (with_reducible refine Kd.C_alloc ?_ _) | (with_reducible refine Kd.C_drewN ?_ _) | (with_reducible refine Kd.C_drew ?_))); (case side4 => exact (Kd.R_reads' HO141.out).2.1); rintro e w35 ⟨rfl, hb⟩; have n0_ := Ym (YA (by (with_reducible repeat (first | apply Ys | apply Yr | apply Yt)); exact HO125.out) hb); have n1_ := Ym (YA (by (with_reducible repeat (first | apply Ys | apply Yr | apply Yt)); exact HO131.out) hb); have n2_ := Ym (YA (by (with_reducible repeat (first | apply Ys | apply Yr | apply Yt)); exact HO136.out) hb); have n3_ := Ym (YA (by (with_reducible repeat (first | apply Ys | apply Yr | apply Yt)); exact HO141.out) hb); have n4_ := Ym (YA (by (with_reducible repeat (first | apply Ys | apply Yr | apply Yt)); exact HO144.out) hb); have n5_ := Ym (Yl (g := gb127) (o := .cells #[.int .i64 t133, .slice Ao26 t134.length co26] 24 (0, 0)) (by (with_reducible repeat (first | refine Yd ?_ _ | refine Yf ?_ | refine Ye ?_ _)); exact BK127.out) hb); have n6_ := Ym (Yl (g := gb146) (o := .cells #[.int .i64 t138, .slice Ao31 t139.length co31] 24 (0, 0)) (by (with_reducible repeat (first | refine Yd ?_ _ | refine Yf ?_ | refine Ye ?_ _)); exact BK146.out) hb); have n7_ := Ym (Yj (by repeat (first | (with_reducible first | exact HB.out | apply Yc | apply Ya | apply Yb | refine Yg ?_ GE127.out | refine Yg ?_ GE146.out) | exact HB.out)) hb); clear HO125; clear HO131; clear HO136; clear HO141; clear HO144; clear BK127; clear BK146; clear HB; have HO125 := n0_; have HO131 := n1_; have HO136 := n2_; have HO141 := n3_; have HO144 := n4_; have BK127 := n5_; have BK146 := n6_; have HB := n7_; clear n0_ n1_ n2_ n3_ n4_ n5_ n6_ n7_; (try clear hb); (try clear hb2); (try clear hk); (try clear hi)))
           go_ret
           exact ⟨by first | rfl | (simp [errW_none, errW_some] <;> rfl) | (simp [*, errW_none, errW_some] <;> rfl), by repeat (first | (with_reducible first | exact HB.out | apply Yc | apply Ya | apply Yb | refine Yg ?_ GE127.out | refine Yg ?_ GE146.out) | exact HB.out)⟩
          ·replace c15 := Bool.eq_false_iff.mpr c15
           subst c15
           have H1 : (some false) = some r := by rw [if_neg (show ¬ (false = true) by decide)] at H; exact H
           clear H
           have H := H1
           exact absurd (H.trans (congrArg some HR.out)) (by decide)
         ·rw [if_neg c13] at H
          exact absurd (H.trans (congrArg some HR.out)) (by decide)
        ·rw [if_neg c12] at H
         exact absurd (H.trans (congrArg some HR.out)) (by decide)
       ·rw [if_neg c11] at H
        exact absurd (H.trans (congrArg some HR.out)) (by decide)
      ·rw [if_neg c10] at H
       exact absurd H (by simp)
     ·rw [if_neg c9] at H
      exact absurd (H.trans (congrArg some HR.out)) (by decide)
    ·rw [if_neg c8] at H
     exact absurd (H.trans (congrArg some HR.out)) (by decide)
   ·rw [if_neg c7] at H
    exact absurd (H.trans (congrArg some HR.out)) (by decide)
  ·rw [if_neg c6] at H
   exact absurd (H.trans (congrArg some HR.out)) (by decide)
 ·replace c5 := Bool.eq_false_iff.mpr c5
  subst c5
  have H1 : (some false) = some r := by rw [if_neg (show ¬ (false = true) by decide)] at H; exact H
  clear H
  have H := H1
  exact absurd (H.trans (congrArg some HR.out)) (by decide)
/-! ### mooringsref10_Timers: function 12 -/
def mooringsref10_Timers.l0 : Nat → List (S33) → List (S33) → Int → Option (Bool)
 |0, _, _, _ => none
 |k + 1, x0, x1, x5 => if x5 < (x0.length : Int) then (if 0 ≤ x5 then (if x5 < (x1.length : Int) then (if (!(((rd_T33 x0 x5).f0) == ((rd_T33 x1 x5).f0)) || (!(((rd_T33 x0 x5).f1) == ((rd_T33 x1 x5).f1)))) = true then (some false) else (mooringsref10_Timers.l0 k x0 x1 (wrap64 (x5 + 1)))) else (none)) else (none)) else (some true)
def mooringsref10_Timers.f (k : Nat) (l0 : List (S33)) (l1 : List (S33)) : Option (Bool) := if (l0.length : Int) = (l1.length : Int) then (mooringsref10_Timers.l0 k l0 l1 0) else (some false)
set_option maxHeartbeats 8000000 in
set_option maxRecDepth 100000 in
theorem mooringsref10_Timers.calls (k : Nat) (A0 : Option Addr) (c0 : Nat) (l0 : List (S33)) (A1 : Option Addr) (c1 : Nat) (l1 : List (S33)) (r : Bool) (w : World) (hr0 : Kd.C k33 w A0 l0.length l0) (hc0 : l0.length ≤ c0) (hr1 : Kd.C k33 w A1 l1.length l1) (hc1 : l1.length ≤ c1) (h : mooringsref10_Timers.f k l0 l1 = some r) :
  Calls Try.prog 12 #[.slice A0 l0.length c0, .slice A1 l1.length c1] w fun e w' => e = .returned (.bool r) ∧ Drawn0 w w' := by
 have hu33 := Try.underlying33
 have HR0 := Ym hr0
 have HC0 := Ym hc0
 clear hr0 hc0
 have HR1 := Ym hr1
 have HC1 := Ym hc1
 clear hr1 hc1
 have H : (if (l0.length : Int) = (l1.length : Int) then (mooringsref10_Timers.l0 k l0 l1 0) else (some false)) = some r := h
 clear h
 by_cases c3 : (l0.length : Int) = (l1.length : Int)
 ·rw [if_pos c3] at H
  have c3b0 : ((l0.length : Int) == (l1.length : Int)) = true := beq_iff_eq.mpr c3
  have c3b1 : ((l0.length : Int) != (l1.length : Int)) = false := bne_eq_false_iff_eq.mpr c3
  have c3b2 : (l0.length == l1.length) = true := by first | simpa using c3 | (simp at c3 ⊢; omega)
  clear c3
  have H' := Ym H
  clear H
  go_enter Try.func12, Try.ntmps12
  go_wp2
  repeat (go_quiet (fail); try go_wp2)
  go_loopg [5] k (fun kq v5 w' => ∃ (x5_1 : Int), v5 = .int .i64 x5_1 ∧ Aside0 (mooringsref10_Timers.l0 kq l0 l1 x5_1 = some r) ∧ Aside0 (kq ≤ k) ∧ Drawn0 w w')
  case atStart => exact ⟨(0), (by first | rfl | (simp; done) | (simp [*]; done)), H', ⟨Nat.le_refl _⟩, by repeat (first | exact Drawn0.refl _ | apply Drawn0.step)⟩
  case round =>
   clear H'
   try clear c1
   try clear p2
   try clear c3
   try clear c3b0
   try clear c3b1
   try clear c3b2
   obtain ⟨x5_1, rfl, HA, HK1, ⟨m1, rfl⟩⟩ := hrel
   cases gk with
   |zero => exact absurd HA.out (by simp [mooringsref10_Timers.l0])
   |succ k1 =>
    have H := HA.out
    clear HA
    simp only [mooringsref10_Timers.l0] at H
    by_cases c4 : x5_1 < (l0.length : Int)
    ·rw [if_pos c4] at H
     have c4b0 : decide (x5_1 < (l0.length : Int)) = true := decide_eq_true c4
     clear c4
     by_cases c5 : 0 ≤ x5_1
     ·rw [if_pos c5] at H
      have c5b0 : decide (0 ≤ x5_1) = true := decide_eq_true c5
      clear c5
      by_cases c6 : x5_1 < (l1.length : Int)
      ·rw [if_pos c6] at H
       have c6b0 : decide (x5_1 < (l1.length : Int)) = true := decide_eq_true c6
       clear c6
       by_cases c7 : (!(((rd_T33 l0 x5_1).f0) == ((rd_T33 l1 x5_1).f0)) || (!(((rd_T33 l0 x5_1).f1) == ((rd_T33 l1 x5_1).f1)))) = true
       ·rw [if_pos c7] at H
        have c7b0 : (!(((rd_T33 l0 x5_1).f0) == ((rd_T33 l1 x5_1).f0)) || (!(((rd_T33 l0 x5_1).f1) == ((rd_T33 l1 x5_1).f1)))) = true := c7
        clear c7
        obtain rfl := Option.some.inj H
        have p150 : 0 ≤ (x5_1 : Int) := YF (by first | (with_reducible assumption) | assumption)
        have q150 : x5_1 < (l0.length : Int) := YF (by first | (with_reducible assumption) | assumption)
        obtain ⟨ad150, e150, hx150_0, hx150_1⟩ := at_T33 HR0.out x5_1 p150 q150
        cases e150
        replace p150 := eq_true p150
        replace q150 := eq_true q150
        have p151 : 0 ≤ (x5_1 : Int) := YF (by first | (with_reducible assumption) | assumption)
        have q151 : x5_1 < (l1.length : Int) := YF (by first | (with_reducible assumption) | assumption)
        obtain ⟨ad151, e151, hx151_0, hx151_1⟩ := at_T33 HR1.out x5_1 p151 q151
        cases e151
        replace p151 := eq_true p151
        replace q151 := eq_true q151
        go_wp2
        repeat (go_quiet (fail); try go_wp2)
        go_ret
        exact ⟨by first | rfl | (simp; done) | (simp [*]; done), by repeat (first | exact Drawn0.refl _ | apply Drawn0.step)⟩
       ·rw [if_neg c7] at H
        have c7b0 : (!(((rd_T33 l0 x5_1).f0) == ((rd_T33 l1 x5_1).f0)) || (!(((rd_T33 l0 x5_1).f1) == ((rd_T33 l1 x5_1).f1)))) = false := by simpa using c7
        clear c7
        have H' := Ym H
        clear H
        have p150 : 0 ≤ (x5_1 : Int) := YF (by first | (with_reducible assumption) | assumption)
        have q150 : x5_1 < (l0.length : Int) := YF (by first | (with_reducible assumption) | assumption)
        obtain ⟨ad150, e150, hx150_0, hx150_1⟩ := at_T33 HR0.out x5_1 p150 q150
        cases e150
        replace p150 := eq_true p150
        replace q150 := eq_true q150
        have p151 : 0 ≤ (x5_1 : Int) := YF (by first | (with_reducible assumption) | assumption)
        have q151 : x5_1 < (l1.length : Int) := YF (by first | (with_reducible assumption) | assumption)
        obtain ⟨ad151, e151, hx151_0, hx151_1⟩ := at_T33 HR1.out x5_1 p151 q151
        cases e151
        replace p151 := eq_true p151
        replace q151 := eq_true q151
        go_wp2
        repeat (go_quiet (fail); try go_wp2)
        go_roundg k1
        case measure => have := HK1.out; omega
        case rel => exact ⟨(wrap64 (x5_1 + 1)), (by first | rfl | (simp; done) | (simp [*]; done)), H', ⟨by have := HK1.out; omega⟩, by repeat (first | exact Drawn0.refl _ | apply Drawn0.step)⟩
      ·rw [if_neg c6] at H
       exact absurd H (by simp)
     ·rw [if_neg c5] at H
      exact absurd H (by simp)
    ·rw [if_neg c4] at H
     have c4b0 : decide (x5_1 < (l0.length : Int)) = false := decide_eq_false c4
     clear c4
     obtain rfl := Option.some.inj H
     go_wp2
     repeat (go_quiet (fail); try go_wp2)
     go_ret
     exact ⟨by first | rfl | (simp; done) | (simp [*]; done), by repeat (first | exact Drawn0.refl _ | apply Drawn0.step)⟩
 ·rw [if_neg c3] at H
  have c3b0 : ((l0.length : Int) == (l1.length : Int)) = false := beq_eq_false_iff_ne.mpr c3
  have c3b1 : ((l0.length : Int) != (l1.length : Int)) = true := bne_iff_ne.mpr c3
  have c3b2 : (l0.length == l1.length) = false := by first | simpa using c3 | (simp at c3 ⊢; omega)
  obtain rfl := Option.some.inj H
  go_enter Try.func12, Try.ntmps12
  go_wp2
  repeat (go_quiet (fail); try go_wp2)
  go_ret
  exact ⟨by first | rfl | (simp; done) | (simp [*]; done), by repeat (first | exact Drawn0.refl _ | apply Drawn0.step)⟩

/-! ### mooringsref10_before: function 33 -/
def mooringsref10_before.f (qa : Int) (a0_1 : Int) (qb : Int) (a1_1 : Int) : Option (Bool) := if a0_1 < a1_1 then (some true) else (if a0_1 = a1_1 then (some (decide (qa < qb))) else (some false))
set_option maxHeartbeats 8000000 in
set_option maxRecDepth 100000 in
theorem mooringsref10_before.calls (qa : Int) (a0_1 : Int) (qb : Int) (a1_1 : Int) (r : Bool) (w : World) (h : mooringsref10_before.f qa a0_1 qb a1_1 = some r) :
  Calls Try.prog 33 #[.agg #[.int .i64 qa, .int .i64 a0_1], .agg #[.int .i64 qb, .int .i64 a1_1]] w fun e w' => e = .returned (.bool r) ∧ Below w.heap.size w w' := by
 have hu33 := Try.underlying33
 have HB := Ym (Below.refl w.heap.size w)
 have H : (if a0_1 < a1_1 then (some true) else (if a0_1 = a1_1 then (some (decide (qa < qb))) else (some false))) = some r := h
 clear h
 by_cases c3 : a0_1 < a1_1
 ·rw [if_pos c3] at H
  have c3b0 : decide (a0_1 < a1_1) = true := decide_eq_true c3
  clear c3
  obtain rfl := Option.some.inj H
  go_enter Try.func33, Try.ntmps33
  go_wp2_with (first | ((with_reducible refine gate_dst (N := 2) rfl ?_); refine box_event ?hg (N := 2) ?hd (cs := #[.int .i64 qa, .int .i64 a0_1]) (t := 33) ?hr ?_; (case hd => rfl); (case hg => rfl); (case hr => first | (go_simp; done) | (go_simp; rfl)); intro gb152 hg w4 hbox hb; have n0_ := Ym (Yj (by repeat (first | (with_reducible first | exact HB.out | apply Yc | apply Ya | apply Yb) | exact HB.out)) hb); have n1_ := Ym (hbox); have n2_ := Ym ((by rw [hg]; exact (Yk (by repeat (first | (with_reducible first | exact HB.out | apply Yc | apply Ya | apply Yb) | exact HB.out))) : w.heap.size ≤ gb152)); have n3_ := Ym ((by rw [hg]; exact (Yk (by repeat (first | (with_reducible first | exact HB.out | apply Yc | apply Ya | apply Yb) | exact HB.out))) : w.heap.size ≤ gb152)); clear HB; have HB := n0_; have BK152 := n1_; have GW152 := n2_; have GE152 := n3_; clear n0_ n1_ n2_ n3_; clear hb hbox hg) | ((with_reducible refine gate_dst (N := 3) rfl ?_); refine box_event ?hg (N := 3) ?hd (cs := #[.int .i64 qb, .int .i64 a1_1]) (t := 33) ?hr ?_; (case hd => rfl); (case hg => rfl); (case hr => first | (go_simp; done) | (go_simp; rfl)); intro gb153 hg w5 hbox hb; have n0_ := Ym (Yl (g := gb152) (o := .cells #[.int .i64 qa, .int .i64 a0_1] 33 (0, 0)) (by (with_reducible repeat (first | refine Yd ?_ _ | refine Yf ?_ | refine Ye ?_ _)); exact BK152.out) hb); have n1_ := Ym (Yj (by repeat (first | (with_reducible first | exact HB.out | apply Yc | apply Ya | apply Yb | refine Yg ?_ GE152.out) | exact HB.out)) hb); have n2_ := Ym (hbox); have n3_ := Ym ((by rw [hg]; exact (Yk (by repeat (first | (with_reducible first | exact HB.out | apply Yc | apply Ya | apply Yb | refine Yg ?_ GE152.out) | exact HB.out))) : w.heap.size ≤ gb153)); have n4_ := Ym ((by rw [hg]; exact (Yk (by repeat (first | (with_reducible first | exact HB.out | apply Yc | apply Ya | apply Yb | refine Yg ?_ GE152.out) | exact HB.out))) : w.heap.size ≤ gb153)); have n5_ := Ym ((by rw [hg]; exact YD (YI (g := gb152) (o := .cells #[.int .i64 qa, .int .i64 a0_1] 33 (0, 0)) (by (with_reducible repeat (first | refine Yd ?_ _ | refine Yf ?_ | refine Ye ?_ _)); exact BK152.out)) : gb152 ≠ gb153)); have n6_ := Ym ((by rw [hg]; exact YE (YI (g := gb152) (o := .cells #[.int .i64 qa, .int .i64 a0_1] 33 (0, 0)) (by (with_reducible repeat (first | refine Yd ?_ _ | refine Yf ?_ | refine Ye ?_ _)); exact BK152.out)) : gb153 ≠ gb152)); clear BK152; clear HB; have BK152 := n0_; have HB := n1_; have BK153 := n2_; have GW153 := n3_; have GE153 := n4_; have NB152_153 := n5_; have NB153_152 := n6_; clear n0_ n1_ n2_ n3_ n4_ n5_ n6_; clear hb hbox hg; have hnb6 := NB152_153.out; have hnc6 := NB153_152.out; have hcz7_0 : w5.cell? ⟨gb152, 0, none⟩ = some (.int .i64 qa) := (Yh BK152.out 0).trans rfl; have hcz7_1 : w5.cell? ⟨gb152, 1, none⟩ = some (.int .i64 a0_1) := (Yh BK152.out 1).trans rfl; have hfz7_0 := Yi BK152.out 0; have hfz7_1 := Yi BK152.out 1; have hcz8_0 : w5.cell? ⟨gb153, 0, none⟩ = some (.int .i64 qb) := (Yh BK153.out 0).trans rfl; have hcz8_1 : w5.cell? ⟨gb153, 1, none⟩ = some (.int .i64 a1_1) := (Yh BK153.out 1).trans rfl; have hfz8_0 := Yi BK153.out 0; have hfz8_1 := Yi BK153.out 1))
  go_ret
  exact ⟨by first | rfl | (simp [errW_none, errW_some] <;> rfl) | (simp [*, errW_none, errW_some] <;> rfl), by repeat (first | (with_reducible first | exact HB.out | apply Yc | apply Ya | apply Yb | refine Yg ?_ GE152.out | refine Yg ?_ GE153.out) | exact HB.out)⟩
 ·rw [if_neg c3] at H
  have c3b0 : decide (a0_1 < a1_1) = false := decide_eq_false c3
  clear c3
  by_cases c9 : a0_1 = a1_1
  ·rw [if_pos c9] at H
   have c9b0 : (a0_1 == a1_1) = true := beq_iff_eq.mpr c9
   have c9b1 : (a0_1 != a1_1) = false := bne_eq_false_iff_eq.mpr c9
   clear c9
   obtain rfl := Option.some.inj H
   go_enter Try.func33, Try.ntmps33
   go_wp2_with (first | ((with_reducible refine gate_dst (N := 2) rfl ?_); refine box_event ?hg (N := 2) ?hd (cs := #[.int .i64 qa, .int .i64 a0_1]) (t := 33) ?hr ?_; (case hd => rfl); (case hg => rfl); (case hr => first | (go_simp; done) | (go_simp; rfl)); intro gb152 hg w10 hbox hb; have n0_ := Ym (Yj (by repeat (first | (with_reducible first | exact HB.out | apply Yc | apply Ya | apply Yb) | exact HB.out)) hb); have n1_ := Ym (hbox); have n2_ := Ym ((by rw [hg]; exact (Yk (by repeat (first | (with_reducible first | exact HB.out | apply Yc | apply Ya | apply Yb) | exact HB.out))) : w.heap.size ≤ gb152)); have n3_ := Ym ((by rw [hg]; exact (Yk (by repeat (first | (with_reducible first | exact HB.out | apply Yc | apply Ya | apply Yb) | exact HB.out))) : w.heap.size ≤ gb152)); clear HB; have HB := n0_; have BK152 := n1_; have GW152 := n2_; have GE152 := n3_; clear n0_ n1_ n2_ n3_; clear hb hbox hg) | ((with_reducible refine gate_dst (N := 3) rfl ?_); refine box_event ?hg (N := 3) ?hd (cs := #[.int .i64 qb, .int .i64 a1_1]) (t := 33) ?hr ?_; (case hd => rfl); (case hg => rfl); (case hr => first | (go_simp; done) | (go_simp; rfl)); intro gb153 hg w11 hbox hb; have n0_ := Ym (Yl (g := gb152) (o := .cells #[.int .i64 qa, .int .i64 a0_1] 33 (0, 0)) (by (with_reducible repeat (first | refine Yd ?_ _ | refine Yf ?_ | refine Ye ?_ _)); exact BK152.out) hb); have n1_ := Ym (Yj (by repeat (first | (with_reducible first | exact HB.out | apply Yc | apply Ya | apply Yb | refine Yg ?_ GE152.out) | exact HB.out)) hb); have n2_ := Ym (hbox); have n3_ := Ym ((by rw [hg]; exact (Yk (by repeat (first | (with_reducible first | exact HB.out | apply Yc | apply Ya | apply Yb | refine Yg ?_ GE152.out) | exact HB.out))) : w.heap.size ≤ gb153)); have n4_ := Ym ((by rw [hg]; exact (Yk (by repeat (first | (with_reducible first | exact HB.out | apply Yc | apply Ya | apply Yb | refine Yg ?_ GE152.out) | exact HB.out))) : w.heap.size ≤ gb153)); have n5_ := Ym ((by rw [hg]; exact YD (YI (g := gb152) (o := .cells #[.int .i64 qa, .int .i64 a0_1] 33 (0, 0)) (by (with_reducible repeat (first | refine Yd ?_ _ | refine Yf ?_ | refine Ye ?_ _)); exact BK152.out)) : gb152 ≠ gb153)); have n6_ := Ym ((by rw [hg]; exact YE (YI (g := gb152) (o := .cells #[.int .i64 qa, .int .i64 a0_1] 33 (0, 0)) (by (with_reducible repeat (first | refine Yd ?_ _ | refine Yf ?_ | refine Ye ?_ _)); exact BK152.out)) : gb153 ≠ gb152)); clear BK152; clear HB; have BK152 := n0_; have HB := n1_; have BK153 := n2_; have GW153 := n3_; have GE153 := n4_; have NB152_153 := n5_; have NB153_152 := n6_; clear n0_ n1_ n2_ n3_ n4_ n5_ n6_; clear hb hbox hg; have hnb12 := NB152_153.out; have hnc12 := NB153_152.out; have hcz13_0 : w11.cell? ⟨gb152, 0, none⟩ = some (.int .i64 qa) := (Yh BK152.out 0).trans rfl; have hcz13_1 : w11.cell? ⟨gb152, 1, none⟩ = some (.int .i64 a0_1) := (Yh BK152.out 1).trans rfl; have hfz13_0 := Yi BK152.out 0; have hfz13_1 := Yi BK152.out 1; have hcz14_0 : w11.cell? ⟨gb153, 0, none⟩ = some (.int .i64 qb) := (Yh BK153.out 0).trans rfl; have hcz14_1 : w11.cell? ⟨gb153, 1, none⟩ = some (.int .i64 a1_1) := (Yh BK153.out 1).trans rfl; have hfz14_0 := Yi BK153.out 0; have hfz14_1 := Yi BK153.out 1))
   go_ret
   exact ⟨by first | rfl | (simp [errW_none, errW_some] <;> rfl) | (simp [*, errW_none, errW_some] <;> rfl), by repeat (first | (with_reducible first | exact HB.out | apply Yc | apply Ya | apply Yb | refine Yg ?_ GE152.out | refine Yg ?_ GE153.out) | exact HB.out)⟩
  ·rw [if_neg c9] at H
   have c9b0 : (a0_1 == a1_1) = false := beq_eq_false_iff_ne.mpr c9
   have c9b1 : (a0_1 != a1_1) = true := bne_iff_ne.mpr c9
   obtain rfl := Option.some.inj H
   go_enter Try.func33, Try.ntmps33
   go_wp2_with (first | ((with_reducible refine gate_dst (N := 2) rfl ?_); refine box_event ?hg (N := 2) ?hd (cs := #[.int .i64 qa, .int .i64 a0_1]) (t := 33) ?hr ?_; (case hd => rfl); (case hg => rfl); (case hr => first | (go_simp; done) | (go_simp; rfl)); intro gb152 hg w15 hbox hb; have n0_ := Ym (Yj (by repeat (first | (with_reducible first | exact HB.out | apply Yc | apply Ya | apply Yb) | exact HB.out)) hb); have n1_ := Ym (hbox); have n2_ := Ym ((by rw [hg]; exact (Yk (by repeat (first | (with_reducible first | exact HB.out | apply Yc | apply Ya | apply Yb) | exact HB.out))) : w.heap.size ≤ gb152)); have n3_ := Ym ((by rw [hg]; exact (Yk (by repeat (first | (with_reducible first | exact HB.out | apply Yc | apply Ya | apply Yb) | exact HB.out))) : w.heap.size ≤ gb152)); clear HB; have HB := n0_; have BK152 := n1_; have GW152 := n2_; have GE152 := n3_; clear n0_ n1_ n2_ n3_; clear hb hbox hg) | ((with_reducible refine gate_dst (N := 3) rfl ?_); refine box_event ?hg (N := 3) ?hd (cs := #[.int .i64 qb, .int .i64 a1_1]) (t := 33) ?hr ?_; (case hd => rfl); (case hg => rfl); (case hr => first | (go_simp; done) | (go_simp; rfl)); intro gb153 hg w16 hbox hb; have n0_ := Ym (Yl (g := gb152) (o := .cells #[.int .i64 qa, .int .i64 a0_1] 33 (0, 0)) (by (with_reducible repeat (first | refine Yd ?_ _ | refine Yf ?_ | refine Ye ?_ _)); exact BK152.out) hb); have n1_ := Ym (Yj (by repeat (first | (with_reducible first | exact HB.out | apply Yc | apply Ya | apply Yb | refine Yg ?_ GE152.out) | exact HB.out)) hb); have n2_ := Ym (hbox); have n3_ := Ym ((by rw [hg]; exact (Yk (by repeat (first | (with_reducible first | exact HB.out | apply Yc | apply Ya | apply Yb | refine Yg ?_ GE152.out) | exact HB.out))) : w.heap.size ≤ gb153)); have n4_ := Ym ((by rw [hg]; exact (Yk (by repeat (first | (with_reducible first | exact HB.out | apply Yc | apply Ya | apply Yb | refine Yg ?_ GE152.out) | exact HB.out))) : w.heap.size ≤ gb153)); have n5_ := Ym ((by rw [hg]; exact YD (YI (g := gb152) (o := .cells #[.int .i64 qa, .int .i64 a0_1] 33 (0, 0)) (by (with_reducible repeat (first | refine Yd ?_ _ | refine Yf ?_ | refine Ye ?_ _)); exact BK152.out)) : gb152 ≠ gb153)); have n6_ := Ym ((by rw [hg]; exact YE (YI (g := gb152) (o := .cells #[.int .i64 qa, .int .i64 a0_1] 33 (0, 0)) (by (with_reducible repeat (first | refine Yd ?_ _ | refine Yf ?_ | refine Ye ?_ _)); exact BK152.out)) : gb153 ≠ gb152)); clear BK152; clear HB; have BK152 := n0_; have HB := n1_; have BK153 := n2_; have GW153 := n3_; have GE153 := n4_; have NB152_153 := n5_; have NB153_152 := n6_; clear n0_ n1_ n2_ n3_ n4_ n5_ n6_; clear hb hbox hg; have hnb17 := NB152_153.out; have hnc17 := NB153_152.out; have hcz18_0 : w16.cell? ⟨gb152, 0, none⟩ = some (.int .i64 qa) := (Yh BK152.out 0).trans rfl; have hcz18_1 : w16.cell? ⟨gb152, 1, none⟩ = some (.int .i64 a0_1) := (Yh BK152.out 1).trans rfl; have hfz18_0 := Yi BK152.out 0; have hfz18_1 := Yi BK152.out 1; have hcz19_0 : w16.cell? ⟨gb153, 0, none⟩ = some (.int .i64 qb) := (Yh BK153.out 0).trans rfl; have hcz19_1 : w16.cell? ⟨gb153, 1, none⟩ = some (.int .i64 a1_1) := (Yh BK153.out 1).trans rfl; have hfz19_0 := Yi BK153.out 0; have hfz19_1 := Yi BK153.out 1))
   go_ret
   exact ⟨by first | rfl | (simp [errW_none, errW_some] <;> rfl) | (simp [*, errW_none, errW_some] <;> rfl), by repeat (first | (with_reducible first | exact HB.out | apply Yc | apply Ya | apply Yb | refine Yg ?_ GE152.out | refine Yg ?_ GE153.out) | exact HB.out)⟩

end
end Go.Proofs.Ytggkealdbebbkaa.P
