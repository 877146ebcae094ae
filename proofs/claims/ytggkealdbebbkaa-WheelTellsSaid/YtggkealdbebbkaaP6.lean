-- Laid by this session's own program (wip/myprint.py): Lean functions for the Go functions that a law reaches, and their contracts. Not trusted: Lean checks it. (slimmed by wip/slim10.py)
import Derived.Test.YtggkealdbebbkaaP0
import Derived.Test.YtggkealdbebbkaaP4
import Derived.Test.YtggkealdbebbkaaP5
namespace Go.Proofs.Ytggkealdbebbkaa.P
noncomputable section
open Go.RowKit Go.Proofs.YtggkealdbebbkaaW.PrintWords Go.Proofs.YtggkealdbebbkaaW.PrintLast Go.Proofs.YtggkealdbebbkaaW.PrintMore
attribute [local go_sem] max2_int min2_int max_two min_two max_three min_three max_four min_four   -- for this text's walks alone
set_option linter.unusedVariables false
set_option linter.unusedSimpArgs false

/-! ### mooringsref10_Add: function 15 -/
mutual
def mooringsref10_Add.j0 : Nat → Int → Int → Bool → Int → List (S33) → Option (Int × (List (S33)) × Int)
 |0, _, _, _, _, _ => none
 |k + 1, x1, x2, x22, x161000, x161001 => if x22 = true then (some (x161000, x161001, 1)) else (if x2 ≤ x161000 then (mooringsref10_Add.j1 k x1 x2 true x161000 x161001) else (mooringsref10_Add.j1 k x1 x2 (decide (x2 > 1073741824)) x161000 x161001))
def mooringsref10_Add.j1 : Nat → Int → Int → Bool → Int → List (S33) → Option (Int × (List (S33)) × Int)
 |0, _, _, _, _, _ => none
 |k + 1, x1, x2, x31, x161000, x161001 => if x31 = true then (some (x161000, x161001, 10)) else (mooringsref10_Add.l0 k x1 x2 0 x161000 x161001)
def mooringsref10_Add.l0 : Nat → Int → Int → Int → Int → List (S33) → Option (Int × (List (S33)) × Int)
 |0, _, _, _, _, _ => none
 |k + 1, x1, x2, x9, x161000, x161001 => if x9 < (x161001.length : Int) then (if 0 ≤ x9 then (if ((rd_T33 x161001 x9).f0) = x1 then (some (x161000, x161001, 11)) else (mooringsref10_Add.l0 k x1 x2 (wrap64 (x9 + 1)) x161000 x161001)) else (none)) else (if (x161001.length : Int) = 64 then (some (x161000, x161001, 9)) else (mooringsref10_Add.l1 k false 0 x161000 x161001 x1 x2 x161000 ([] : List (S33))))
def mooringsref10_Add.l1 : Nat → Bool → Int → Int → List (S33) → Int → Int → Int → List (S33) → Option (Int × (List (S33)) × Int)
 |0, _, _, _, _, _, _, _, _ => none
 |k + 1, x12, x13, x161000, x161001, x165000, x165001, x166000, x166001 => if x13 < (x161001.length : Int) then (if 0 ≤ x13 then ((mooringsref10_before.f x165000 x165001 ((rd_T33 x161001 x13).f0) ((rd_T33 x161001 x13).f1)).bind fun t167 => (if t167 = true then (if x12 = true then (if x166001.length < 8796093022208 then (mooringsref10_Add.l1 k x12 (wrap64 (x13 + 1)) x161000 x161001 x165000 x165001 x166000 (x166001 ++ [(⟨(rd_T33 x161001 x13).f0, (rd_T33 x161001 x13).f1⟩ : S33)])) else (none)) else (if x166001.length < 8796093022208 then ((some (x166001 ++ [(⟨x165000, x165001⟩ : S33)] : List (S33))).bind fun y172 => (if y172.length < 8796093022208 then (mooringsref10_Add.l1 k true (wrap64 (x13 + 1)) x161000 x161001 x165000 x165001 x166000 (y172 ++ [(⟨(rd_T33 x161001 x13).f0, (rd_T33 x161001 x13).f1⟩ : S33)])) else (none))) else (none))) else (if x166001.length < 8796093022208 then (mooringsref10_Add.l1 k x12 (wrap64 (x13 + 1)) x161000 x161001 x165000 x165001 x166000 (x166001 ++ [(⟨(rd_T33 x161001 x13).f0, (rd_T33 x161001 x13).f1⟩ : S33)])) else (none)))) else (none)) else (if x12 = true then (some (x166000, x166001, 0)) else (if x166001.length < 8796093022208 then (some (x166000, (x166001 ++ [(⟨x165000, x165001⟩ : S33)]), 0)) else (none)))
end
def mooringsref10_Add.f (k : Nat) (qa : Int) (ql : List (S33)) (a1 : Int) (a2 : Int) : Option (Int × (List (S33)) × Int) := (mooringsref10_May.f k qa ql).bind fun t162 => (if t162 = true then (mooringsref10_Add.j0 k a1 a2 (decide (a1 < 0)) qa ql) else (mooringsref10_Add.j0 k a1 a2 true qa ql))
def mooringsref10_Add.T19 : Bool × List (List Nat × List Nat) := (true, [([], []), ([], []), ([1], [1]), ([], []), ([2, 3], [2, 3]), ([4], [4]), ([0, 5], [0, 5]), ([6, 6, 0, 1, 2, 3, 4, 5, 6], [6])])
def mooringsref10_Add.B19 : List Nat := [0, 0, 2, 0, 14, 30, 63, 127]
theorem mooringsref10_Add.tab19 : rtab .any (opsOf Try.f15 19) = mooringsref10_Add.T19 := by kernel_rfl
theorem mooringsref10_Add.bits19 : waitsOk mooringsref10_Add.T19.2 mooringsref10_Add.B19 = true := by kernel_rfl
def mooringsref10_Add.T23 : Bool × List (List Nat × List Nat) := (true, [([], []), ([0], [0]), ([], []), ([2], [2]), ([], []), ([3, 4], [3, 4]), ([5], [5]), ([6], [6]), ([1, 7], [1, 7]), ([0, 1, 2, 3, 4, 5, 6, 7, 8], []), ([9, 8, 8, 0, 1, 2, 3, 4, 5, 6, 7, 8], [8, 9])])
def mooringsref10_Add.B23 : List Nat := [0, 1, 0, 4, 0, 28, 60, 124, 255, 511, 1023]
theorem mooringsref10_Add.tab23 : rtab .any (opsOf Try.f15 23) = mooringsref10_Add.T23 := by kernel_rfl
theorem mooringsref10_Add.bits23 : waitsOk mooringsref10_Add.T23.2 mooringsref10_Add.B23 = true := by kernel_rfl
set_option maxHeartbeats 8000000 in
set_option maxRecDepth 100000 in
theorem mooringsref10_Add.calls (k : Nat) (qa : Int) (P0_1_ : Nat → Prop) (qA : Option Addr) (qc : Nat) (ql : List (S33)) (a1 : Int) (a2 : Int) (r1 : Int) (r2 : List (S33)) (r3 : Int) (w : World) (hs0_1 : Kd.V k33 33 w w.heap.size (fun k_ => P0_1_ k_) (.slice qA ql.length qc) ql) (h : mooringsref10_Add.f k qa ql a1 a2 = some (r1, r2, r3)) :
  Calls Try.prog 15 #[.agg #[.int .i64 qa, .slice qA ql.length qc], .int .i64 a1, .int .i64 a2] w fun e w' => ∃ v1_ : Value, e = .returned (.tuple #[.agg #[.int .i64 r1, v1_], .int .i64 r3]) ∧ Kd.V k33 33 w' w.heap.size (fun k_ => (P0_1_ k_ ∨ w.heap.size ≤ k_)) v1_ r2 ∧ Below w.heap.size w w' := by
 have hu24 := Try.underlying24
 have hu33 := Try.underlying33
 have HO0_1 := Ym (show Kd.V k33 33 w w.heap.size (fun k_ => (P0_1_ k_ ∨ w.heap.size ≤ k_)) (.slice qA ql.length qc) ql from YG hs0_1 (fun k_ hk => .inl hk))
 have HB := Ym (Below.refl w.heap.size w)
 have H : ((mooringsref10_May.f k qa ql).bind fun t162 => (if t162 = true then (mooringsref10_Add.j0 k a1 a2 (decide (a1 < 0)) qa ql) else (mooringsref10_Add.j0 k a1 a2 true qa ql))) = some (r1, r2, r3) := h
 clear h
 replace H := YB.mp H
 obtain ⟨t162, A40, H⟩ := H
 replace H : (if t162 = true then (mooringsref10_Add.j0 k a1 a2 (decide (a1 < 0)) qa ql) else (mooringsref10_Add.j0 k a1 a2 true qa ql)) = some (r1, r2, r3) := H
 have A4 := Ym A40
 clear A40
 have HC5 := Ym H
 clear H
 go_enter Try.func15, Try.ntmps15
 go_upto_region 2 with (first | ((with_reducible refine gate_dst (N := 3) rfl ?_); refine box_event ?hg (N := 3) ?hd (cs := #[.int .i64 qa, .slice qA ql.length qc]) (t := 24) ?hr ?_; (case hd => rfl); (case hg => rfl); (case hr => first | (go_simp; done) | (go_simp; rfl)); intro gb160 hg w6 hbox hb; have n0_ := Ym (Kd.V_below (Kd.V_elderB (by (with_reducible repeat (first | apply Yy | apply Yx | apply Yz)); exact HO0_1.out) gb160 (Nat.le_of_eq hg.symm)) hb); have n1_ := Ym (Yj (by repeat (first | (with_reducible first | exact HB.out | apply Yc | apply Ya | apply Yb) | exact HB.out)) hb); have n2_ := Ym (hbox); have n3_ := Ym ((by rw [hg]; exact (Yk (by repeat (first | (with_reducible first | exact HB.out | apply Yc | apply Ya | apply Yb) | exact HB.out))) : w.heap.size ≤ gb160)); have n4_ := Ym ((by rw [hg]; exact (Yk (by repeat (first | (with_reducible first | exact HB.out | apply Yc | apply Ya | apply Yb) | exact HB.out))) : w.heap.size ≤ gb160)); clear HO0_1; clear HB; have HO0_1 := n0_; have HB := n1_; have BK160 := n2_; have GW160 := n3_; have GE160 := n4_; clear n0_ n1_ n2_ n3_ n4_; clear hb hbox hg) | ((with_reducible refine gate_dst (N := 6) rfl ?_); refine box_event ?hg (N := 6) ?hd (cs := #[.int .i64 0, .slice none 0 0]) (t := 24) ?hr ?_; (case hd => rfl); (case hg => rfl); (case hr => first | (go_simp; done) | (go_simp; rfl)); intro gb161 hg w7 hbox hb; have n0_ := Ym (Kd.V_below (Kd.V_elderB (by (with_reducible repeat (first | apply Yy | apply Yx | apply Yz)); exact HO0_1.out) gb161 (Nat.le_of_eq hg.symm)) hb); have n1_ := Ym (Yl (g := gb160) (o := .cells #[.int .i64 qa, .slice qA ql.length qc] 24 (0, 0)) (by (with_reducible repeat (first | refine Yd ?_ _ | refine Yf ?_ | refine Ye ?_ _)); exact BK160.out) hb); have n2_ := Ym (Yj (by repeat (first | (with_reducible first | exact HB.out | apply Yc | apply Ya | apply Yb | refine Yg ?_ GE160.out) | exact HB.out)) hb); have n3_ := Ym (hbox); have n4_ := Ym ((by rw [hg]; exact (Yk (by repeat (first | (with_reducible first | exact HB.out | apply Yc | apply Ya | apply Yb | refine Yg ?_ GE160.out) | exact HB.out))) : w.heap.size ≤ gb161)); have n5_ := Ym ((by rw [hg]; exact (Yk (by repeat (first | (with_reducible first | exact HB.out | apply Yc | apply Ya | apply Yb | refine Yg ?_ GE160.out) | exact HB.out))) : w.heap.size ≤ gb161)); have n6_ := Ym ((by rw [hg]; exact YD (YI (g := gb160) (o := .cells #[.int .i64 qa, .slice qA ql.length qc] 24 (0, 0)) (by (with_reducible repeat (first | refine Yd ?_ _ | refine Yf ?_ | refine Ye ?_ _)); exact BK160.out)) : gb160 ≠ gb161)); have n7_ := Ym ((by rw [hg]; exact YE (YI (g := gb160) (o := .cells #[.int .i64 qa, .slice qA ql.length qc] 24 (0, 0)) (by (with_reducible repeat (first | refine Yd ?_ _ | refine Yf ?_ | refine Ye ?_ _)); exact BK160.out)) : gb161 ≠ gb160)); clear HO0_1; clear BK160; clear HB; have HO0_1 := n0_; have BK160 := n1_; have HB := n2_; have BK161 := n3_; have GW161 := n4_; have GE161 := n5_; have NB160_161 := n6_; have NB161_160 := n7_; clear n0_ n1_ n2_ n3_ n4_ n5_ n6_ n7_; clear hb hbox hg; have hnb8 := NB160_161.out; have hnc8 := NB161_160.out; have hcz9_0 : w7.cell? ⟨gb160, 0, none⟩ = some (.int .i64 qa) := (Yh BK160.out 0).trans rfl; have hcz9_1 : w7.cell? ⟨gb160, 1, none⟩ = some (.slice qA ql.length qc) := (Yh BK160.out 1).trans rfl; have hfz9_0 := Yi BK160.out 0; have hfz9_1 := Yi BK160.out 1) | ((with_reducible refine gate_callee (f := 22) rfl ?_); refine goesL_ (some 16) rfl rfl Try.func22 (by kernel_rfl) rfl #[.agg #[.int .i64 qa, .slice qA ql.length qc]] rfl (by (try simp only [List.map_toArray, List.map_cons, List.map_nil]); first | done | rfl | (simp only [List.length_drop, List.length_take]; rfl)) ?_; (with_reducible refine (mooringsref10_May.calls k qa _ _ ql t162 _ ?side1 ?side2 A4.out).mono ?_); (case side1 => repeat (first | exact (Kd.V_reads' HO0_1.out).2.2 | (with_reducible refine Kd.C_alloc ?_ _) | (with_reducible refine Kd.C_drewN ?_ _) | (with_reducible refine Kd.C_drew ?_))); (case side2 => exact (Kd.V_reads' HO0_1.out).2.1); rintro e w10 ⟨rfl, hb⟩; refine ⟨_, rfl, ?_⟩; have n0_ := Ym (Kd.V_below (by (with_reducible repeat (first | apply Yy | apply Yx | apply Yz)); exact HO0_1.out) hb); have n1_ := Ym (Yl (g := gb160) (o := .cells #[.int .i64 qa, .slice qA ql.length qc] 24 (0, 0)) (by (with_reducible repeat (first | refine Yd ?_ _ | refine Yf ?_ | refine Ye ?_ _)); exact BK160.out) hb); have n2_ := Ym (Yl (g := gb161) (o := .cells #[.int .i64 0, .slice none 0 0] 24 (0, 0)) (by (with_reducible repeat (first | refine Yd ?_ _ | refine Yf ?_ | refine Ye ?_ _)); exact BK161.out) hb); have n3_ := Ym (Yj (by repeat (first | (with_reducible first | exact HB.out | apply Yc | apply Ya | apply Yb | refine Yg ?_ GE160.out | refine Yg ?_ GE161.out) | exact HB.out)) hb); clear HO0_1; clear BK160; clear BK161; clear HB; have HO0_1 := n0_; have BK160 := n1_; have BK161 := n2_; have HB := n3_; clear n0_ n1_ n2_ n3_; (try clear hb); (try clear hb2); (try clear hk); (try clear hi)))
 (try simp only [Act.put, Yo, Yp, Yq])
 go_cut [22] (fun v22 wc => ∃ (kq : Nat) (x22_4 : Bool), v22 = .bool x22_4 ∧ Aside0 (mooringsref10_Add.j0 kq a1 a2 x22_4 qa ql = some (r1, r2, r3)) ∧ Aside0 (kq ≤ k) ∧ Aside0 (Kd.V k33 33 wc w.heap.size (fun k_ => (P0_1_ k_ ∨ w.heap.size ≤ k_) ∧ k_ ≠ gb160 ∧ k_ ≠ gb161) (.slice qA ql.length qc) ql) ∧ Aside0 (wc.heap[gb160]? = some (.cells #[.int .i64 qa, (.slice qA ql.length qc)] 24 (0, 0))) ∧ Aside0 (wc.heap[gb161]? = some (.cells #[.int .i64 0, (.slice none 0 0)] 24 (0, 0))) ∧ Aside0 (Below w.heap.size w wc))
 case first =>
  have H := HC5.out
  clear HC5
  by_cases c11 : t162 = true
  ·subst c11
   have H1 : (mooringsref10_Add.j0 k a1 a2 (decide (a1 < 0)) qa ql) = some (r1, r2, r3) := by rw [if_pos rfl] at H; exact H
   clear H
   have H := H1
   clear H1
   have H' := Ym H
   clear H
   go_wp2
   go_meet
   case rel => exact ⟨_, (decide (a1 < 0)), (by first | rfl | (simp; done) | (simp [*]; done)), H', ⟨by first | omega | exact Nat.le_refl _⟩, ⟨by (with_reducible repeat (first | apply Yy | apply Yx | apply Yz)); exact YG HO0_1.out (fun _ hk => ⟨hk.1.1, ⟨hk.1.2, hk.2⟩⟩)⟩, ⟨by (with_reducible repeat (first | refine Yd ?_ _ | refine Yf ?_ | refine Ye ?_ _)); exact BK160.out⟩, ⟨by (with_reducible repeat (first | refine Yd ?_ _ | refine Yf ?_ | refine Ye ?_ _)); exact BK161.out⟩, ⟨by repeat (first | (with_reducible first | exact HB.out | apply Yc | apply Ya | apply Yb | refine Yg ?_ GE160.out | refine Yg ?_ GE161.out) | exact HB.out)⟩⟩
  ·replace c11 := Bool.eq_false_iff.mpr c11
   subst c11
   have H1 : (mooringsref10_Add.j0 k a1 a2 true qa ql) = some (r1, r2, r3) := by rw [if_neg (show ¬ (false = true) by decide)] at H; exact H
   clear H
   have H := H1
   clear H1
   have H' := Ym H
   clear H
   go_wp2
   go_meet
   case rel => exact ⟨_, (true), (by first | rfl | (simp; done) | (simp [*]; done)), H', ⟨by first | omega | exact Nat.le_refl _⟩, ⟨by (with_reducible repeat (first | apply Yy | apply Yx | apply Yz)); exact YG HO0_1.out (fun _ hk => ⟨hk.1.1, ⟨hk.1.2, hk.2⟩⟩)⟩, ⟨by (with_reducible repeat (first | refine Yd ?_ _ | refine Yf ?_ | refine Ye ?_ _)); exact BK160.out⟩, ⟨by (with_reducible repeat (first | refine Yd ?_ _ | refine Yf ?_ | refine Ye ?_ _)); exact BK161.out⟩, ⟨by repeat (first | (with_reducible first | exact HB.out | apply Yc | apply Ya | apply Yb | refine Yg ?_ GE160.out | refine Yg ?_ GE161.out) | exact HB.out)⟩⟩
 case rest =>
  clear HC5
  try clear c1
  try clear c2
  try clear p2
  try clear c8
  try clear c11
  try clear hcz9_0
  try clear hcz9_1
  try clear hfz9_0
  try clear hfz9_1
  obtain ⟨kq, x22_4, rfl, HA, HJ4, HO_161001, BK160, BK161, HB⟩ := hcut
  cases kq with
  |zero => exact absurd HA.out (by simp [mooringsref10_Add.j0])
  |succ kj4 =>
   have H := HA.out
   clear HA
   simp only [mooringsref10_Add.j0] at H
   by_cases c12 : x22_4 = true
   ·subst c12
    have H1 : (some (qa, ql, 1)) = some (r1, r2, r3) := by rw [if_pos rfl] at H; exact H
    clear H
    have H := H1
    clear H1
    simp only [Option.some.injEq, Prod.mk.injEq] at H
    obtain ⟨rfl, rfl, rfl⟩ := H
    have hnb13 := NB160_161.out
    have hnc13 := NB161_160.out
    have hcz14_0 : wc.cell? ⟨gb160, 0, none⟩ = some (.int .i64 qa) := (Yh BK160.out 0).trans rfl
    have hcz14_1 : wc.cell? ⟨gb160, 1, none⟩ = some (.slice qA ql.length qc) := (Yh BK160.out 1).trans rfl
    have hfz14_0 := Yi BK160.out 0
    have hfz14_1 := Yi BK160.out 1
    have hcz15_0 : wc.cell? ⟨gb161, 0, none⟩ = some (.int .i64 0) := (Yh BK161.out 0).trans rfl
    have hcz15_1 : wc.cell? ⟨gb161, 1, none⟩ = some (.slice none 0 0) := (Yh BK161.out 1).trans rfl
    have hfz15_0 := Yi BK161.out 0
    have hfz15_1 := Yi BK161.out 1
    go_wp2
    refine bodyPost_ret (results_ct rfl _ _ gb161 24 #[.int .i64 qa, .slice qA ql.length qc] (0, 0) _ rfl (by (with_reducible repeat (first | refine Yd ?_ _ | refine Yf ?_ | refine Ye ?_ _)); refine blk_put (cs := #[.int .i64 qa, .slice none 0 0]) ?_ 1 _ rfl; (with_reducible repeat (first | refine Yd ?_ _ | refine Yf ?_ | refine Ye ?_ _)); refine blk_put (cs := #[.int .i64 0, .slice none 0 0]) ?_ 0 _ rfl; (with_reducible repeat (first | refine Yd ?_ _ | refine Yf ?_ | refine Ye ?_ _)); exact BK161.out) Try.underlying24 rfl (by kernel_rfl)) rfl ?_
    exact ⟨_, by first | rfl | (simp [errW_none, errW_some] <;> rfl) | (simp [*, errW_none, errW_some] <;> rfl), by (with_reducible repeat (first | apply Yy | apply Yx | apply Yz)); exact YG (Kd.V_far (p := ⟨gb161, 1, none⟩) (Kd.V_far (p := ⟨gb161, 0, none⟩) (YG HO_161001.out (fun k_ hk => (⟨hk, hk.2.2⟩ : _ ∧ k_ ≠ gb161))) (fun _ hk => hk.2) (.int .i64 qa)) (fun _ hk => hk.2) (.slice qA ql.length qc)) (fun _ hk => hk.1.1), by repeat (first | (with_reducible first | exact HB.out | apply Yc | apply Ya | apply Yb | refine Yg ?_ GE160.out | refine Yg ?_ GE161.out) | exact HB.out)⟩
   ·replace c12 := Bool.eq_false_iff.mpr c12
    subst c12
    have H1 : (if a2 ≤ qa then (mooringsref10_Add.j1 kj4 a1 a2 true qa ql) else (mooringsref10_Add.j1 kj4 a1 a2 (decide (a2 > 1073741824)) qa ql)) = some (r1, r2, r3) := by rw [if_neg (show ¬ (false = true) by decide)] at H; exact H
    clear H
    have H := H1
    clear H1
    have HC16 := Ym H
    clear H
    go_upto_region 4 with (fail)
    go_cut [31] (fun v31 wc => ∃ (kq : Nat) (x31_15 : Bool), v31 = .bool x31_15 ∧ Aside0 (mooringsref10_Add.j1 kq a1 a2 x31_15 qa ql = some (r1, r2, r3)) ∧ Aside0 (kq ≤ kj4) ∧ Aside0 (Kd.V k33 33 wc w.heap.size (fun k_ => (P0_1_ k_ ∨ w.heap.size ≤ k_) ∧ k_ ≠ gb160 ∧ k_ ≠ gb161) (.slice qA ql.length qc) ql) ∧ Aside0 (wc.heap[gb160]? = some (.cells #[.int .i64 qa, (.slice qA ql.length qc)] 24 (0, 0))) ∧ Aside0 (wc.heap[gb161]? = some (.cells #[.int .i64 0, (.slice none 0 0)] 24 (0, 0))) ∧ Aside0 (Below w.heap.size w wc))
    case first =>
     have H := HC16.out
     clear HC16
     by_cases c17 : a2 ≤ qa
     ·rw [if_pos c17] at H
      have c17b0 : decide (a2 ≤ qa) = true := decide_eq_true c17
      clear c17
      (first | rw [c17b0] | (simp only [i64_w, i32_w]; rw [c17b0]) | skip)
      have H' := Ym H
      clear H
      have hnb18 := NB160_161.out
      have hnc18 := NB161_160.out
      have hcz19_0 : wc.cell? ⟨gb160, 0, none⟩ = some (.int .i64 qa) := (Yh BK160.out 0).trans rfl
      have hcz19_1 : wc.cell? ⟨gb160, 1, none⟩ = some (.slice qA ql.length qc) := (Yh BK160.out 1).trans rfl
      have hfz19_0 := Yi BK160.out 0
      have hfz19_1 := Yi BK160.out 1
      go_wp2
      go_meet
      case rel => exact ⟨_, (true), (by first | rfl | (simp; done) | (simp [*]; done)), H', ⟨by have := HJ4.out; first | omega | exact Nat.le_refl _⟩, ⟨by (with_reducible repeat (first | apply Yy | apply Yx | apply Yz)); exact HO_161001.out⟩, ⟨by (with_reducible repeat (first | refine Yd ?_ _ | refine Yf ?_ | refine Ye ?_ _)); exact BK160.out⟩, ⟨by (with_reducible repeat (first | refine Yd ?_ _ | refine Yf ?_ | refine Ye ?_ _)); exact BK161.out⟩, ⟨by repeat (first | (with_reducible first | exact HB.out | apply Yc | apply Ya | apply Yb | refine Yg ?_ GE160.out | refine Yg ?_ GE161.out) | exact HB.out)⟩⟩
     ·rw [if_neg c17] at H
      have c17b0 : decide (a2 ≤ qa) = false := decide_eq_false c17
      clear c17
      (first | rw [c17b0] | (simp only [i64_w, i32_w]; rw [c17b0]) | skip)
      have H' := Ym H
      clear H
      have hnb20 := NB160_161.out
      have hnc20 := NB161_160.out
      have hcz21_0 : wc.cell? ⟨gb160, 0, none⟩ = some (.int .i64 qa) := (Yh BK160.out 0).trans rfl
      have hcz21_1 : wc.cell? ⟨gb160, 1, none⟩ = some (.slice qA ql.length qc) := (Yh BK160.out 1).trans rfl
      have hfz21_0 := Yi BK160.out 0
      have hfz21_1 := Yi BK160.out 1
      go_wp2
      go_meet
      case rel => exact ⟨_, (decide (a2 > 1073741824)), (by first | rfl | (simp; done) | (simp [*]; done)), H', ⟨by have := HJ4.out; first | omega | exact Nat.le_refl _⟩, ⟨by (with_reducible repeat (first | apply Yy | apply Yx | apply Yz)); exact HO_161001.out⟩, ⟨by (with_reducible repeat (first | refine Yd ?_ _ | refine Yf ?_ | refine Ye ?_ _)); exact BK160.out⟩, ⟨by (with_reducible repeat (first | refine Yd ?_ _ | refine Yf ?_ | refine Ye ?_ _)); exact BK161.out⟩, ⟨by repeat (first | (with_reducible first | exact HB.out | apply Yc | apply Ya | apply Yb | refine Yg ?_ GE160.out | refine Yg ?_ GE161.out) | exact HB.out)⟩⟩
    case rest =>
     clear HC16
     try clear c1
     try clear c2
     try clear p2
     try clear c8
     try clear c11
     try clear c12
     try clear c13
     try clear c15
     try clear c17
     try clear c17b0
     try clear c18
     try clear c20
     try clear hcz14_0
     try clear hcz14_1
     try clear hcz15_0
     try clear hcz15_1
     try clear hcz19_0
     try clear hcz19_1
     try clear hcz21_0
     try clear hcz21_1
     try clear hcz9_0
     try clear hcz9_1
     try clear hfz14_0
     try clear hfz14_1
     try clear hfz15_0
     try clear hfz15_1
     try clear hfz19_0
     try clear hfz19_1
     try clear hfz21_0
     try clear hfz21_1
     try clear hfz9_0
     try clear hfz9_1
     try clear p2
     obtain ⟨kq, x31_15, rfl, HA, HJ15, HO_161001, BK160, BK161, HB⟩ := hcut
     cases kq with
     |zero => exact absurd HA.out (by simp [mooringsref10_Add.j1])
     |succ kj15 =>
      have H := HA.out
      clear HA
      simp only [mooringsref10_Add.j1] at H
      by_cases c22 : x31_15 = true
      ·subst c22
       have H1 : (some (qa, ql, 10)) = some (r1, r2, r3) := by rw [if_pos rfl] at H; exact H
       clear H
       have H := H1
       clear H1
       simp only [Option.some.injEq, Prod.mk.injEq] at H
       obtain ⟨rfl, rfl, rfl⟩ := H
       have hnb23 := NB160_161.out
       have hnc23 := NB161_160.out
       have hcz24_0 : wc.cell? ⟨gb160, 0, none⟩ = some (.int .i64 qa) := (Yh BK160.out 0).trans rfl
       have hcz24_1 : wc.cell? ⟨gb160, 1, none⟩ = some (.slice qA ql.length qc) := (Yh BK160.out 1).trans rfl
       have hfz24_0 := Yi BK160.out 0
       have hfz24_1 := Yi BK160.out 1
       have hcz25_0 : wc.cell? ⟨gb161, 0, none⟩ = some (.int .i64 0) := (Yh BK161.out 0).trans rfl
       have hcz25_1 : wc.cell? ⟨gb161, 1, none⟩ = some (.slice none 0 0) := (Yh BK161.out 1).trans rfl
       have hfz25_0 := Yi BK161.out 0
       have hfz25_1 := Yi BK161.out 1
       go_wp2
       refine bodyPost_ret (results_ct rfl _ _ gb161 24 #[.int .i64 qa, .slice qA ql.length qc] (0, 0) _ rfl (by (with_reducible repeat (first | refine Yd ?_ _ | refine Yf ?_ | refine Ye ?_ _)); refine blk_put (cs := #[.int .i64 qa, .slice none 0 0]) ?_ 1 _ rfl; (with_reducible repeat (first | refine Yd ?_ _ | refine Yf ?_ | refine Ye ?_ _)); refine blk_put (cs := #[.int .i64 0, .slice none 0 0]) ?_ 0 _ rfl; (with_reducible repeat (first | refine Yd ?_ _ | refine Yf ?_ | refine Ye ?_ _)); exact BK161.out) Try.underlying24 rfl (by kernel_rfl)) rfl ?_
       exact ⟨_, by first | rfl | (simp [errW_none, errW_some] <;> rfl) | (simp [*, errW_none, errW_some] <;> rfl), by (with_reducible repeat (first | apply Yy | apply Yx | apply Yz)); exact YG (Kd.V_far (p := ⟨gb161, 1, none⟩) (Kd.V_far (p := ⟨gb161, 0, none⟩) (YG HO_161001.out (fun k_ hk => (⟨hk, hk.2.2⟩ : _ ∧ k_ ≠ gb161))) (fun _ hk => hk.2) (.int .i64 qa)) (fun _ hk => hk.2) (.slice qA ql.length qc)) (fun _ hk => hk.1.1), by repeat (first | (with_reducible first | exact HB.out | apply Yc | apply Ya | apply Yb | refine Yg ?_ GE160.out | refine Yg ?_ GE161.out) | exact HB.out)⟩
      ·replace c22 := Bool.eq_false_iff.mpr c22
       subst c22
       have H1 : (mooringsref10_Add.l0 kj15 a1 a2 0 qa ql) = some (r1, r2, r3) := by rw [if_neg (show ¬ (false = true) by decide)] at H; exact H
       clear H
       have H := H1
       clear H1
       have H' := Ym H
       clear H
       go_wp2
       go_loopg [9] kj15 (fun kq v9 w' => ∃ (x9_3 : Int) (x162000_3 : Int), v9 = .int .i64 x9_3 ∧ Aside0 (mooringsref10_Add.l0 kq a1 a2 x9_3 qa ql = some (r1, r2, r3)) ∧ Aside0 (kq ≤ kj15) ∧ Aside0 (Kd.V k33 33 w' w.heap.size (fun k_ => (P0_1_ k_ ∨ w.heap.size ≤ k_) ∧ k_ ≠ gb160 ∧ k_ ≠ gb161) (.slice qA ql.length qc) ql) ∧ Aside0 (w'.heap[gb160]? = some (.cells #[.int .i64 qa, (.slice qA ql.length qc)] 24 (0, 0))) ∧ Aside0 (w'.heap[gb161]? = some (.cells #[.int .i64 x162000_3, (.slice none 0 0)] 24 (0, 0))) ∧ Aside0 (Below w.heap.size w w'))
       case atStart => exact ⟨(0), (0), (by first | rfl | (simp; done) | (simp [*]; done)), H', ⟨Nat.le_refl _⟩, ⟨by (with_reducible repeat (first | apply Yy | apply Yx | apply Yz)); exact HO_161001.out⟩, ⟨by (with_reducible repeat (first | refine Yd ?_ _ | refine Yf ?_ | refine Ye ?_ _)); exact BK160.out⟩, ⟨by (with_reducible repeat (first | refine Yd ?_ _ | refine Yf ?_ | refine Ye ?_ _)); exact BK161.out⟩, ⟨by repeat (first | (with_reducible first | exact HB.out | apply Yc | apply Ya | apply Yb | refine Yg ?_ GE160.out | refine Yg ?_ GE161.out) | exact HB.out)⟩⟩
       case round =>
        clear H'
        try clear c1
        try clear c2
        try clear p2
        try clear c8
        try clear c11
        try clear c12
        try clear c13
        try clear c15
        try clear c17
        try clear c17b0
        try clear c18
        try clear c20
        try clear c22
        try clear c23
        try clear hcz14_0
        try clear hcz14_1
        try clear hcz15_0
        try clear hcz15_1
        try clear hcz19_0
        try clear hcz19_1
        try clear hcz21_0
        try clear hcz21_1
        try clear hcz24_0
        try clear hcz24_1
        try clear hcz25_0
        try clear hcz25_1
        try clear hcz9_0
        try clear hcz9_1
        try clear hfz14_0
        try clear hfz14_1
        try clear hfz15_0
        try clear hfz15_1
        try clear hfz19_0
        try clear hfz19_1
        try clear hfz21_0
        try clear hfz21_1
        try clear hfz24_0
        try clear hfz24_1
        try clear hfz25_0
        try clear hfz25_1
        try clear hfz9_0
        try clear hfz9_1
        try clear p2
        obtain ⟨x9_3, x162000_3, rfl, HA, HK3, HO_161001, BK160, BK161, HB⟩ := hrel
        cases gk with
        |zero => exact absurd HA.out (by simp [mooringsref10_Add.l0])
        |succ k3 =>
         have H := HA.out
         clear HA
         simp only [mooringsref10_Add.l0] at H
         by_cases c26 : x9_3 < (ql.length : Int)
         ·rw [if_pos c26] at H
          have c26b0 : decide (x9_3 < (ql.length : Int)) = true := decide_eq_true c26
          clear c26
          by_cases c27 : 0 ≤ x9_3
          ·rw [if_pos c27] at H
           have c27b0 : decide (0 ≤ x9_3) = true := decide_eq_true c27
           clear c27
           by_cases c28 : ((rd_T33 ql x9_3).f0) = a1
           ·rw [if_pos c28] at H
            have c28b0 : (((rd_T33 ql x9_3).f0) == a1) = true := beq_iff_eq.mpr c28
            have c28b1 : (((rd_T33 ql x9_3).f0) != a1) = false := bne_eq_false_iff_eq.mpr c28
            clear c28
            simp only [Option.some.injEq, Prod.mk.injEq] at H
            obtain ⟨rfl, rfl, rfl⟩ := H
            have hnb29 := NB160_161.out
            have hnc29 := NB161_160.out
            have hcz30_0 : wr.cell? ⟨gb160, 0, none⟩ = some (.int .i64 qa) := (Yh BK160.out 0).trans rfl
            have hcz30_1 : wr.cell? ⟨gb160, 1, none⟩ = some (.slice qA ql.length qc) := (Yh BK160.out 1).trans rfl
            have hfz30_0 := Yi BK160.out 0
            have hfz30_1 := Yi BK160.out 1
            have p163 : 0 ≤ (x9_3 : Int) := YF (by first | (with_reducible assumption) | assumption)
            have q163 : x9_3 < (ql.length : Int) := YF (by first | (with_reducible assumption) | assumption)
            obtain ⟨ad163, e163, hx163_0, hx163_1⟩ := at_T33 (Kd.V_reads' HO_161001.out).2.2 x9_3 p163 q163
            cases e163
            replace p163 := eq_true p163
            replace q163 := eq_true q163
            have hcz31_0 : wr.cell? ⟨gb161, 0, none⟩ = some (.int .i64 x162000_3) := (Yh BK161.out 0).trans rfl
            have hcz31_1 : wr.cell? ⟨gb161, 1, none⟩ = some (.slice none 0 0) := (Yh BK161.out 1).trans rfl
            have hfz31_0 := Yi BK161.out 0
            have hfz31_1 := Yi BK161.out 1
            go_wp2
            refine bodyPost_ret (results_ct rfl _ _ gb161 24 #[.int .i64 qa, .slice (some ad163) ql.length qc] (0, 0) _ rfl (by (with_reducible repeat (first | refine Yd ?_ _ | refine Yf ?_ | refine Ye ?_ _)); refine blk_put (cs := #[.int .i64 qa, .slice none 0 0]) ?_ 1 _ rfl; (with_reducible repeat (first | refine Yd ?_ _ | refine Yf ?_ | refine Ye ?_ _)); refine blk_put (cs := #[.int .i64 x162000_3, .slice none 0 0]) ?_ 0 _ rfl; (with_reducible repeat (first | refine Yd ?_ _ | refine Yf ?_ | refine Ye ?_ _)); exact BK161.out) Try.underlying24 rfl (by kernel_rfl)) rfl ?_
            exact ⟨_, by first | rfl | (simp [errW_none, errW_some] <;> rfl) | (simp [*, errW_none, errW_some] <;> rfl), by (with_reducible repeat (first | apply Yy | apply Yx | apply Yz)); exact YG (Kd.V_far (p := ⟨gb161, 1, none⟩) (Kd.V_far (p := ⟨gb161, 0, none⟩) (YG HO_161001.out (fun k_ hk => (⟨hk, hk.2.2⟩ : _ ∧ k_ ≠ gb161))) (fun _ hk => hk.2) (.int .i64 qa)) (fun _ hk => hk.2) (.slice (some ad163) ql.length qc)) (fun _ hk => hk.1.1), by repeat (first | (with_reducible first | exact HB.out | apply Yc | apply Ya | apply Yb | refine Yg ?_ GE160.out | refine Yg ?_ GE161.out) | exact HB.out)⟩
           ·rw [if_neg c28] at H
            have c28b0 : (((rd_T33 ql x9_3).f0) == a1) = false := beq_eq_false_iff_ne.mpr c28
            have c28b1 : (((rd_T33 ql x9_3).f0) != a1) = true := bne_iff_ne.mpr c28
            have H' := Ym H
            clear H
            have hnb32 := NB160_161.out
            have hnc32 := NB161_160.out
            have hcz33_0 : wr.cell? ⟨gb160, 0, none⟩ = some (.int .i64 qa) := (Yh BK160.out 0).trans rfl
            have hcz33_1 : wr.cell? ⟨gb160, 1, none⟩ = some (.slice qA ql.length qc) := (Yh BK160.out 1).trans rfl
            have hfz33_0 := Yi BK160.out 0
            have hfz33_1 := Yi BK160.out 1
            have p163 : 0 ≤ (x9_3 : Int) := YF (by first | (with_reducible assumption) | assumption)
            have q163 : x9_3 < (ql.length : Int) := YF (by first | (with_reducible assumption) | assumption)
            obtain ⟨ad163, e163, hx163_0, hx163_1⟩ := at_T33 (Kd.V_reads' HO_161001.out).2.2 x9_3 p163 q163
            cases e163
            replace p163 := eq_true p163
            replace q163 := eq_true q163
            go_wp2
            go_roundg k3
            case measure => have := HJ4.out; have := HJ15.out; have := HK3.out; omega
            case rel => exact ⟨(wrap64 (x9_3 + 1)), (x162000_3), (by first | rfl | (simp; done) | (simp [*]; done)), H', ⟨by have := HJ4.out; have := HJ15.out; have := HK3.out; omega⟩, ⟨by (with_reducible repeat (first | apply Yy | apply Yx | apply Yz)); exact HO_161001.out⟩, ⟨by (with_reducible repeat (first | refine Yd ?_ _ | refine Yf ?_ | refine Ye ?_ _)); exact BK160.out⟩, ⟨by (with_reducible repeat (first | refine Yd ?_ _ | refine Yf ?_ | refine Ye ?_ _)); exact BK161.out⟩, ⟨by repeat (first | (with_reducible first | exact HB.out | apply Yc | apply Ya | apply Yb | refine Yg ?_ GE160.out | refine Yg ?_ GE161.out) | exact HB.out)⟩⟩
          ·rw [if_neg c27] at H
           exact absurd H (by simp)
         ·rw [if_neg c26] at H
          have c26b0 : decide (x9_3 < (ql.length : Int)) = false := decide_eq_false c26
          clear c26
          by_cases c34 : (ql.length : Int) = 64
          ·rw [if_pos c34] at H
           have c34b0 : ((ql.length : Int) == 64) = true := beq_iff_eq.mpr c34
           have c34b1 : ((ql.length : Int) != 64) = false := bne_eq_false_iff_eq.mpr c34
           clear c34
           simp only [Option.some.injEq, Prod.mk.injEq] at H
           obtain ⟨rfl, rfl, rfl⟩ := H
           have hnb35 := NB160_161.out
           have hnc35 := NB161_160.out
           have hcz36_0 : wr.cell? ⟨gb160, 0, none⟩ = some (.int .i64 qa) := (Yh BK160.out 0).trans rfl
           have hcz36_1 : wr.cell? ⟨gb160, 1, none⟩ = some (.slice qA ql.length qc) := (Yh BK160.out 1).trans rfl
           have hfz36_0 := Yi BK160.out 0
           have hfz36_1 := Yi BK160.out 1
           have hcz37_0 : wr.cell? ⟨gb161, 0, none⟩ = some (.int .i64 x162000_3) := (Yh BK161.out 0).trans rfl
           have hcz37_1 : wr.cell? ⟨gb161, 1, none⟩ = some (.slice none 0 0) := (Yh BK161.out 1).trans rfl
           have hfz37_0 := Yi BK161.out 0
           have hfz37_1 := Yi BK161.out 1
           go_wp2
           refine bodyPost_ret (results_ct rfl _ _ gb161 24 #[.int .i64 qa, .slice qA ql.length qc] (0, 0) _ rfl (by (with_reducible repeat (first | refine Yd ?_ _ | refine Yf ?_ | refine Ye ?_ _)); refine blk_put (cs := #[.int .i64 qa, .slice none 0 0]) ?_ 1 _ rfl; (with_reducible repeat (first | refine Yd ?_ _ | refine Yf ?_ | refine Ye ?_ _)); refine blk_put (cs := #[.int .i64 x162000_3, .slice none 0 0]) ?_ 0 _ rfl; (with_reducible repeat (first | refine Yd ?_ _ | refine Yf ?_ | refine Ye ?_ _)); exact BK161.out) Try.underlying24 rfl (by kernel_rfl)) rfl ?_
           exact ⟨_, by first | rfl | (simp [errW_none, errW_some] <;> rfl) | (simp [*, errW_none, errW_some] <;> rfl), by (with_reducible repeat (first | apply Yy | apply Yx | apply Yz)); exact YG (Kd.V_far (p := ⟨gb161, 1, none⟩) (Kd.V_far (p := ⟨gb161, 0, none⟩) (YG HO_161001.out (fun k_ hk => (⟨hk, hk.2.2⟩ : _ ∧ k_ ≠ gb161))) (fun _ hk => hk.2) (.int .i64 qa)) (fun _ hk => hk.2) (.slice qA ql.length qc)) (fun _ hk => hk.1.1), by repeat (first | (with_reducible first | exact HB.out | apply Yc | apply Ya | apply Yb | refine Yg ?_ GE160.out | refine Yg ?_ GE161.out) | exact HB.out)⟩
          ·rw [if_neg c34] at H
           have c34b0 : ((ql.length : Int) == 64) = false := beq_eq_false_iff_ne.mpr c34
           have c34b1 : ((ql.length : Int) != 64) = true := bne_iff_ne.mpr c34
           have H' := Ym H
           clear H
           have hnb38 := NB160_161.out
           have hnc38 := NB161_160.out
           have hcz39_0 : wr.cell? ⟨gb160, 0, none⟩ = some (.int .i64 qa) := (Yh BK160.out 0).trans rfl
           have hcz39_1 : wr.cell? ⟨gb160, 1, none⟩ = some (.slice qA ql.length qc) := (Yh BK160.out 1).trans rfl
           have hfz39_0 := Yi BK160.out 0
           have hfz39_1 := Yi BK160.out 1
           go_wp2_with (first | ((with_reducible refine gate_dst (N := 10) rfl ?_); refine box_event ?hg (N := 10) ?hd (cs := #[.int .i64 0, .int .i64 0]) (t := 33) ?hr ?_; (case hd => rfl); (case hg => rfl); (case hr => first | (go_simp; done) | (go_simp; rfl)); intro gb164 hg w40 hbox hb; have n0_ := Ym (Kd.V_below (Kd.V_elderB (by (with_reducible repeat (first | apply Yy | apply Yx | apply Yz)); exact HO_161001.out) gb164 (Nat.le_of_eq hg.symm)) hb); have n1_ := Ym (Yl (g := gb160) (o := .cells #[.int .i64 qa, .slice qA ql.length qc] 24 (0, 0)) (by (with_reducible repeat (first | refine Yd ?_ _ | refine Yf ?_ | refine Ye ?_ _)); exact BK160.out) hb); have n2_ := Ym (Yl (g := gb161) (o := .cells #[.int .i64 x162000_3, .slice none 0 0] 24 (0, 0)) (by (with_reducible repeat (first | refine Yd ?_ _ | refine Yf ?_ | refine Ye ?_ _)); exact BK161.out) hb); have n3_ := Ym (Yj (by repeat (first | (with_reducible first | exact HB.out | apply Yc | apply Ya | apply Yb | refine Yg ?_ GE160.out | refine Yg ?_ GE161.out) | exact HB.out)) hb); have n4_ := Ym (hbox); have n5_ := Ym ((by rw [hg]; exact (Yk (by repeat (first | (with_reducible first | exact HB.out | apply Yc | apply Ya | apply Yb | refine Yg ?_ GE160.out | refine Yg ?_ GE161.out) | exact HB.out))) : w.heap.size ≤ gb164)); have n6_ := Ym ((by rw [hg]; exact (Yk (by repeat (first | (with_reducible first | exact HB.out | apply Yc | apply Ya | apply Yb | refine Yg ?_ GE160.out | refine Yg ?_ GE161.out) | exact HB.out))) : w.heap.size ≤ gb164)); have n7_ := Ym ((by rw [hg]; exact YD (YI (g := gb160) (o := .cells #[.int .i64 qa, .slice qA ql.length qc] 24 (0, 0)) (by (with_reducible repeat (first | refine Yd ?_ _ | refine Yf ?_ | refine Ye ?_ _)); exact BK160.out)) : gb160 ≠ gb164)); have n8_ := Ym ((by rw [hg]; exact YE (YI (g := gb160) (o := .cells #[.int .i64 qa, .slice qA ql.length qc] 24 (0, 0)) (by (with_reducible repeat (first | refine Yd ?_ _ | refine Yf ?_ | refine Ye ?_ _)); exact BK160.out)) : gb164 ≠ gb160)); have n9_ := Ym ((by rw [hg]; exact YD (YI (g := gb161) (o := .cells #[.int .i64 x162000_3, .slice none 0 0] 24 (0, 0)) (by (with_reducible repeat (first | refine Yd ?_ _ | refine Yf ?_ | refine Ye ?_ _)); exact BK161.out)) : gb161 ≠ gb164)); have n10_ := Ym ((by rw [hg]; exact YE (YI (g := gb161) (o := .cells #[.int .i64 x162000_3, .slice none 0 0] 24 (0, 0)) (by (with_reducible repeat (first | refine Yd ?_ _ | refine Yf ?_ | refine Ye ?_ _)); exact BK161.out)) : gb164 ≠ gb161)); clear HO_161001; clear BK160; clear BK161; clear HB; have HO_161001 := n0_; have BK160 := n1_; have BK161 := n2_; have HB := n3_; have BK164 := n4_; have GW164 := n5_; have GE164 := n6_; have NB160_164 := n7_; have NB164_160 := n8_; have NB161_164 := n9_; have NB164_161 := n10_; clear n0_ n1_ n2_ n3_ n4_ n5_ n6_ n7_ n8_ n9_ n10_; clear hb hbox hg; have hnb41 := NB164_160.out; have hnc41 := NB160_164.out; have hnb42 := NB164_161.out; have hnc42 := NB161_164.out; have hcz43_0 : w40.cell? ⟨gb164, 0, none⟩ = some (.int .i64 0) := (Yh BK164.out 0).trans rfl; have hcz43_1 : w40.cell? ⟨gb164, 1, none⟩ = some (.int .i64 0) := (Yh BK164.out 1).trans rfl; have hfz43_0 := Yi BK164.out 0; have hfz43_1 := Yi BK164.out 1; have hcz44_0 : w40.cell? ⟨gb160, 0, none⟩ = some (.int .i64 qa) := (Yh BK160.out 0).trans rfl; have hcz44_1 : w40.cell? ⟨gb160, 1, none⟩ = some (.slice qA ql.length qc) := (Yh BK160.out 1).trans rfl; have hfz44_0 := Yi BK160.out 0; have hfz44_1 := Yi BK160.out 1) | ((with_reducible refine gate_dst (N := 11) rfl ?_); refine box_event ?hg (N := 11) ?hd (cs := #[.int .i64 0, .slice none 0 0]) (t := 24) ?hr ?_; (case hd => rfl); (case hg => rfl); (case hr => first | (go_simp; done) | (go_simp; rfl)); intro gb165 hg w45 hbox hb; have n0_ := Ym (Kd.V_below (Kd.V_elderB (by (with_reducible repeat (first | apply Yy | apply Yx | apply Yz)); exact (YG (Kd.V_far (p := ⟨gb164, 1, none⟩) (Kd.V_far (p := ⟨gb164, 0, none⟩) (YG HO_161001.out (fun k_ hk => (⟨hk, hk.2⟩ : _ ∧ k_ ≠ gb164))) (fun _ hk => hk.2) (.int .i64 a1)) (fun _ hk => hk.2) (.int .i64 a2)) (fun _ h_ => h_.1))) gb165 (Nat.le_of_eq hg.symm)) hb); have n1_ := Ym (Yl (g := gb160) (o := .cells #[.int .i64 qa, .slice qA ql.length qc] 24 (0, 0)) (by (with_reducible repeat (first | refine Yd ?_ _ | refine Yf ?_ | refine Ye ?_ _)); refine YH ?_ NB160_164.out _; (with_reducible repeat (first | refine Yd ?_ _ | refine Yf ?_ | refine Ye ?_ _)); refine YH ?_ NB160_164.out _; (with_reducible repeat (first | refine Yd ?_ _ | refine Yf ?_ | refine Ye ?_ _)); exact BK160.out) hb); have n2_ := Ym (Yl (g := gb161) (o := .cells #[.int .i64 x162000_3, .slice none 0 0] 24 (0, 0)) (by (with_reducible repeat (first | refine Yd ?_ _ | refine Yf ?_ | refine Ye ?_ _)); refine YH ?_ NB161_164.out _; (with_reducible repeat (first | refine Yd ?_ _ | refine Yf ?_ | refine Ye ?_ _)); refine YH ?_ NB161_164.out _; (with_reducible repeat (first | refine Yd ?_ _ | refine Yf ?_ | refine Ye ?_ _)); exact BK161.out) hb); have n3_ := Ym (Yl (g := gb164) (o := .cells #[.int .i64 a1, .int .i64 a2] 33 (0, 0)) (by (with_reducible repeat (first | refine Yd ?_ _ | refine Yf ?_ | refine Ye ?_ _)); refine blk_put (cs := #[.int .i64 a1, .int .i64 0]) ?_ 1 _ rfl; (with_reducible repeat (first | refine Yd ?_ _ | refine Yf ?_ | refine Ye ?_ _)); refine blk_put (cs := #[.int .i64 0, .int .i64 0]) ?_ 0 _ rfl; (with_reducible repeat (first | refine Yd ?_ _ | refine Yf ?_ | refine Ye ?_ _)); exact BK164.out) hb); have n4_ := Ym (Yj (by repeat (first | (with_reducible first | exact HB.out | apply Yc | apply Ya | apply Yb | refine Yg ?_ GE160.out | refine Yg ?_ GE161.out | refine Yg ?_ GE164.out) | exact HB.out)) hb); have n5_ := Ym (hbox); have n6_ := Ym ((by rw [hg]; exact (Yk (by repeat (first | (with_reducible first | exact HB.out | apply Yc | apply Ya | apply Yb | refine Yg ?_ GE160.out | refine Yg ?_ GE161.out | refine Yg ?_ GE164.out) | exact HB.out))) : w.heap.size ≤ gb165)); have n7_ := Ym ((by rw [hg]; exact (Yk (by repeat (first | (with_reducible first | exact HB.out | apply Yc | apply Ya | apply Yb | refine Yg ?_ GE160.out | refine Yg ?_ GE161.out | refine Yg ?_ GE164.out) | exact HB.out))) : w.heap.size ≤ gb165)); have n8_ := Ym ((by rw [hg]; exact YD (YI (g := gb160) (o := .cells #[.int .i64 qa, .slice qA ql.length qc] 24 (0, 0)) (by (with_reducible repeat (first | refine Yd ?_ _ | refine Yf ?_ | refine Ye ?_ _)); refine YH ?_ NB160_164.out _; (with_reducible repeat (first | refine Yd ?_ _ | refine Yf ?_ | refine Ye ?_ _)); refine YH ?_ NB160_164.out _; (with_reducible repeat (first | refine Yd ?_ _ | refine Yf ?_ | refine Ye ?_ _)); exact BK160.out)) : gb160 ≠ gb165)); have n9_ := Ym ((by rw [hg]; exact YE (YI (g := gb160) (o := .cells #[.int .i64 qa, .slice qA ql.length qc] 24 (0, 0)) (by (with_reducible repeat (first | refine Yd ?_ _ | refine Yf ?_ | refine Ye ?_ _)); refine YH ?_ NB160_164.out _; (with_reducible repeat (first | refine Yd ?_ _ | refine Yf ?_ | refine Ye ?_ _)); refine YH ?_ NB160_164.out _; (with_reducible repeat (first | refine Yd ?_ _ | refine Yf ?_ | refine Ye ?_ _)); exact BK160.out)) : gb165 ≠ gb160)); have n10_ := Ym ((by rw [hg]; exact YD (YI (g := gb161) (o := .cells #[.int .i64 x162000_3, .slice none 0 0] 24 (0, 0)) (by (with_reducible repeat (first | refine Yd ?_ _ | refine Yf ?_ | refine Ye ?_ _)); refine YH ?_ NB161_164.out _; (with_reducible repeat (first | refine Yd ?_ _ | refine Yf ?_ | refine Ye ?_ _)); refine YH ?_ NB161_164.out _; (with_reducible repeat (first | refine Yd ?_ _ | refine Yf ?_ | refine Ye ?_ _)); exact BK161.out)) : gb161 ≠ gb165)); have n11_ := Ym ((by rw [hg]; exact YE (YI (g := gb161) (o := .cells #[.int .i64 x162000_3, .slice none 0 0] 24 (0, 0)) (by (with_reducible repeat (first | refine Yd ?_ _ | refine Yf ?_ | refine Ye ?_ _)); refine YH ?_ NB161_164.out _; (with_reducible repeat (first | refine Yd ?_ _ | refine Yf ?_ | refine Ye ?_ _)); refine YH ?_ NB161_164.out _; (with_reducible repeat (first | refine Yd ?_ _ | refine Yf ?_ | refine Ye ?_ _)); exact BK161.out)) : gb165 ≠ gb161)); have n12_ := Ym ((by rw [hg]; exact YD (YI (g := gb164) (o := .cells #[.int .i64 a1, .int .i64 a2] 33 (0, 0)) (by (with_reducible repeat (first | refine Yd ?_ _ | refine Yf ?_ | refine Ye ?_ _)); refine blk_put (cs := #[.int .i64 a1, .int .i64 0]) ?_ 1 _ rfl; (with_reducible repeat (first | refine Yd ?_ _ | refine Yf ?_ | refine Ye ?_ _)); refine blk_put (cs := #[.int .i64 0, .int .i64 0]) ?_ 0 _ rfl; (with_reducible repeat (first | refine Yd ?_ _ | refine Yf ?_ | refine Ye ?_ _)); exact BK164.out)) : gb164 ≠ gb165)); have n13_ := Ym ((by rw [hg]; exact YE (YI (g := gb164) (o := .cells #[.int .i64 a1, .int .i64 a2] 33 (0, 0)) (by (with_reducible repeat (first | refine Yd ?_ _ | refine Yf ?_ | refine Ye ?_ _)); refine blk_put (cs := #[.int .i64 a1, .int .i64 0]) ?_ 1 _ rfl; (with_reducible repeat (first | refine Yd ?_ _ | refine Yf ?_ | refine Ye ?_ _)); refine blk_put (cs := #[.int .i64 0, .int .i64 0]) ?_ 0 _ rfl; (with_reducible repeat (first | refine Yd ?_ _ | refine Yf ?_ | refine Ye ?_ _)); exact BK164.out)) : gb165 ≠ gb164)); clear HO_161001; clear BK160; clear BK161; clear BK164; clear HB; have HO_161001 := n0_; have BK160 := n1_; have BK161 := n2_; have BK164 := n3_; have HB := n4_; have BK165 := n5_; have GW165 := n6_; have GE165 := n7_; have NB160_165 := n8_; have NB165_160 := n9_; have NB161_165 := n10_; have NB165_161 := n11_; have NB164_165 := n12_; have NB165_164 := n13_; clear n0_ n1_ n2_ n3_ n4_ n5_ n6_ n7_ n8_ n9_ n10_ n11_ n12_ n13_; clear hb hbox hg; have hnb46 := NB165_160.out; have hnc46 := NB160_165.out; have hnb47 := NB165_161.out; have hnc47 := NB161_165.out; have hnb48 := NB165_164.out; have hnc48 := NB164_165.out; have hcz49_0 : w45.cell? ⟨gb165, 0, none⟩ = some (.int .i64 0) := (Yh BK165.out 0).trans rfl; have hcz49_1 : w45.cell? ⟨gb165, 1, none⟩ = some (.slice none 0 0) := (Yh BK165.out 1).trans rfl; have hfz49_0 := Yi BK165.out 0; have hfz49_1 := Yi BK165.out 1))
           go_loopg [12, 13] k3 (fun kq v12 v13 w' => ∃ (x12_4 : Bool) (x13_4 : Int) (x166001_4 : List (S33)) (u166001 : Value), v12 = .bool x12_4 ∧ v13 = .int .i64 x13_4 ∧ Aside0 (mooringsref10_Add.l1 kq x12_4 x13_4 qa ql a1 a2 qa x166001_4 = some (r1, r2, r3)) ∧ Aside0 (kq ≤ k3) ∧ Aside0 (Kd.V k33 33 w' w.heap.size (fun k_ => (P0_1_ k_ ∨ w.heap.size ≤ k_) ∧ some k_ ≠ (u166001 : Value).ownBlock ∧ k_ ≠ gb160 ∧ k_ ≠ gb161 ∧ k_ ≠ gb164 ∧ k_ ≠ gb165) (.slice qA ql.length qc) ql) ∧ Aside0 (Kd.R k33 33 w' w.heap.size (fun k_ => (w.heap.size ≤ k_) ∧ k_ ≠ gb164) u166001 x166001_4) ∧ Aside0 (w'.heap[gb160]? = some (.cells #[.int .i64 qa, (.slice qA ql.length qc)] 24 (0, 0))) ∧ Aside0 (w'.heap[gb161]? = some (.cells #[.int .i64 x162000_3, (.slice none 0 0)] 24 (0, 0))) ∧ Aside0 (w'.heap[gb164]? = some (.cells #[.int .i64 a1, .int .i64 a2] 33 (0, 0))) ∧ Aside0 (w'.heap[gb165]? = some (.cells #[.int .i64 qa, u166001] 24 (0, 0))) ∧ Aside0 (Below w.heap.size w w'))
           case atStart => exact ⟨(false), (0), (([] : List (S33))), (.slice none 0 0), (by first | rfl | (simp; done) | (simp [*]; done)), (by first | rfl | (simp; done) | (simp [*]; done)), H', ⟨Nat.le_refl _⟩, ⟨by (with_reducible repeat (first | apply Yy | apply Yx | apply Yz)); exact YG (Kd.V_far (p := ⟨gb165, 1, none⟩) (Kd.V_far (p := ⟨gb165, 0, none⟩) (YG HO_161001.out (fun k_ hk => (⟨hk, hk.2⟩ : _ ∧ k_ ≠ gb165))) (fun _ hk => hk.2) (.int .i64 qa)) (fun _ hk => hk.2) (.slice none 0 0)) (fun _ hk => ⟨hk.1.1.1.1, ⟨(by simp [Value.ownBlock]), ⟨hk.1.1.1.2.1, ⟨hk.1.1.1.2.2, ⟨hk.1.1.2, hk.1.2⟩⟩⟩⟩⟩)⟩, ⟨by first | exact Kd.R_nil _ _ _ _ _ | exact Kd.N_nil _ _ _ _ _ | exact Kd.V_nil _ _ _ _ _ | exact Kd.Q_nil _ _ _ _ _ | exact Kd.S_nil _ _ _ _ _⟩, ⟨by (with_reducible repeat (first | refine Yd ?_ _ | refine Yf ?_ | refine Ye ?_ _)); refine YH ?_ NB160_165.out _; (with_reducible repeat (first | refine Yd ?_ _ | refine Yf ?_ | refine Ye ?_ _)); refine YH ?_ NB160_165.out _; (with_reducible repeat (first | refine Yd ?_ _ | refine Yf ?_ | refine Ye ?_ _)); exact BK160.out⟩, ⟨by (with_reducible repeat (first | refine Yd ?_ _ | refine Yf ?_ | refine Ye ?_ _)); refine YH ?_ NB161_165.out _; (with_reducible repeat (first | refine Yd ?_ _ | refine Yf ?_ | refine Ye ?_ _)); refine YH ?_ NB161_165.out _; (with_reducible repeat (first | refine Yd ?_ _ | refine Yf ?_ | refine Ye ?_ _)); exact BK161.out⟩, ⟨by (with_reducible repeat (first | refine Yd ?_ _ | refine Yf ?_ | refine Ye ?_ _)); refine YH ?_ NB164_165.out _; (with_reducible repeat (first | refine Yd ?_ _ | refine Yf ?_ | refine Ye ?_ _)); refine YH ?_ NB164_165.out _; (with_reducible repeat (first | refine Yd ?_ _ | refine Yf ?_ | refine Ye ?_ _)); exact BK164.out⟩, ⟨by (with_reducible repeat (first | refine Yd ?_ _ | refine Yf ?_ | refine Ye ?_ _)); refine blk_put (cs := #[.int .i64 qa, .slice none 0 0]) ?_ 1 _ rfl; (with_reducible repeat (first | refine Yd ?_ _ | refine Yf ?_ | refine Ye ?_ _)); refine blk_put (cs := #[.int .i64 0, .slice none 0 0]) ?_ 0 _ rfl; (with_reducible repeat (first | refine Yd ?_ _ | refine Yf ?_ | refine Ye ?_ _)); exact BK165.out⟩, ⟨by repeat (first | (with_reducible first | exact HB.out | apply Yc | apply Ya | apply Yb | refine Yg ?_ GE160.out | refine Yg ?_ GE161.out | refine Yg ?_ GE164.out | refine Yg ?_ GE165.out) | exact HB.out)⟩⟩
           case round =>
            clear H'
            try clear c1
            try clear p1
            try clear q1
            try clear hx1
            try clear c2
            try clear p2
            try clear c3
            try clear c4
            try clear p6
            try clear c8
            try clear c11
            try clear c12
            try clear c13
            try clear c15
            try clear p16
            try clear q16
            try clear hx16
            try clear c17
            try clear c17b0
            try clear c18
            try clear c20
            try clear c22
            try clear c23
            try clear c26
            try clear c26b0
            try clear c27
            try clear c27b0
            try clear c28
            try clear c28b0
            try clear c28b1
            try clear c29
            try clear c32
            try clear c34
            try clear c34b0
            try clear c34b1
            try clear c35
            try clear c38
            try clear c41
            try clear c42
            try clear c46
            try clear c47
            try clear c48
            try clear hcz14_0
            try clear hcz14_1
            try clear hcz15_0
            try clear hcz15_1
            try clear hcz19_0
            try clear hcz19_1
            try clear hcz21_0
            try clear hcz21_1
            try clear hcz24_0
            try clear hcz24_1
            try clear hcz25_0
            try clear hcz25_1
            try clear hcz30_0
            try clear hcz30_1
            try clear hcz31_0
            try clear hcz31_1
            try clear hcz33_0
            try clear hcz33_1
            try clear hcz36_0
            try clear hcz36_1
            try clear hcz37_0
            try clear hcz37_1
            try clear hcz39_0
            try clear hcz39_1
            try clear hcz43_0
            try clear hcz43_1
            try clear hcz44_0
            try clear hcz44_1
            try clear hcz49_0
            try clear hcz49_1
            try clear hcz9_0
            try clear hcz9_1
            try clear hfz14_0
            try clear hfz14_1
            try clear hfz15_0
            try clear hfz15_1
            try clear hfz19_0
            try clear hfz19_1
            try clear hfz21_0
            try clear hfz21_1
            try clear hfz24_0
            try clear hfz24_1
            try clear hfz25_0
            try clear hfz25_1
            try clear hfz30_0
            try clear hfz30_1
            try clear hfz31_0
            try clear hfz31_1
            try clear hfz33_0
            try clear hfz33_1
            try clear hfz36_0
            try clear hfz36_1
            try clear hfz37_0
            try clear hfz37_1
            try clear hfz39_0
            try clear hfz39_1
            try clear hfz43_0
            try clear hfz43_1
            try clear hfz44_0
            try clear hfz44_1
            try clear hfz49_0
            try clear hfz49_1
            try clear hfz9_0
            try clear hfz9_1
            try clear hx163_0
            try clear hx163_1
            try clear p163
            try clear p2
            try clear q163
            obtain ⟨x12_4, x13_4, x166001_4, u166001, rfl, rfl, HA, HK4, HO_161001, HO_166001, BK160, BK161, BK164, BK165, HB⟩ := hrel
            cases gk with
            |zero => exact absurd HA.out (by simp [mooringsref10_Add.l1])
            |succ k4 =>
             have H := HA.out
             clear HA
             simp only [mooringsref10_Add.l1] at H
             by_cases c50 : x13_4 < (ql.length : Int)
             ·rw [if_pos c50] at H
              have c50b0 : decide (x13_4 < (ql.length : Int)) = true := decide_eq_true c50
              clear c50
              by_cases c51 : 0 ≤ x13_4
              ·rw [if_pos c51] at H
               have c51b0 : decide (0 ≤ x13_4) = true := decide_eq_true c51
               clear c51
               replace H := YB.mp H
               obtain ⟨t167, A520, H⟩ := H
               replace H : (if t167 = true then (if x12_4 = true then (if x166001_4.length < 8796093022208 then (mooringsref10_Add.l1 k4 x12_4 (wrap64 (x13_4 + 1)) qa ql a1 a2 qa (x166001_4 ++ [(⟨(rd_T33 ql x13_4).f0, (rd_T33 ql x13_4).f1⟩ : S33)])) else (none)) else (if x166001_4.length < 8796093022208 then ((some (x166001_4 ++ [(⟨a1, a2⟩ : S33)] : List (S33))).bind fun y172 => (if y172.length < 8796093022208 then (mooringsref10_Add.l1 k4 true (wrap64 (x13_4 + 1)) qa ql a1 a2 qa (y172 ++ [(⟨(rd_T33 ql x13_4).f0, (rd_T33 ql x13_4).f1⟩ : S33)])) else (none))) else (none))) else (if x166001_4.length < 8796093022208 then (mooringsref10_Add.l1 k4 x12_4 (wrap64 (x13_4 + 1)) qa ql a1 a2 qa (x166001_4 ++ [(⟨(rd_T33 ql x13_4).f0, (rd_T33 ql x13_4).f1⟩ : S33)])) else (none))) = some (r1, r2, r3) := H
               have A52 := Ym A520
               clear A520
               by_cases c53 : t167 = true
               ·subst c53
                have H1 : (if x12_4 = true then (if x166001_4.length < 8796093022208 then (mooringsref10_Add.l1 k4 x12_4 (wrap64 (x13_4 + 1)) qa ql a1 a2 qa (x166001_4 ++ [(⟨(rd_T33 ql x13_4).f0, (rd_T33 ql x13_4).f1⟩ : S33)])) else (none)) else (if x166001_4.length < 8796093022208 then ((some (x166001_4 ++ [(⟨a1, a2⟩ : S33)] : List (S33))).bind fun y172 => (if y172.length < 8796093022208 then (mooringsref10_Add.l1 k4 true (wrap64 (x13_4 + 1)) qa ql a1 a2 qa (y172 ++ [(⟨(rd_T33 ql x13_4).f0, (rd_T33 ql x13_4).f1⟩ : S33)])) else (none))) else (none))) = some (r1, r2, r3) := by rw [if_pos rfl] at H; exact H
                clear H
                have H := H1
                clear H1
                by_cases c54 : x12_4 = true
                ·subst c54
                 have H1 : (if x166001_4.length < 8796093022208 then (mooringsref10_Add.l1 k4 true (wrap64 (x13_4 + 1)) qa ql a1 a2 qa (x166001_4 ++ [(⟨(rd_T33 ql x13_4).f0, (rd_T33 ql x13_4).f1⟩ : S33)])) else (none)) = some (r1, r2, r3) := by rw [if_pos rfl] at H; exact H
                 clear H
                 have H := H1
                 clear H1
                 by_cases c55 : x166001_4.length < 8796093022208
                 ·rw [if_pos c55] at H
                  have LMc55 := Ym c55
                  clear c55
                  obtain ⟨y169, hy169⟩ : ∃ y_ : List (S33), y_ = (x166001_4 ++ [(⟨(rd_T33 ql x13_4).f0, (rd_T33 ql x13_4).f1⟩ : S33)]) := ⟨_, rfl⟩
                  replace H : (mooringsref10_Add.l1 k4 true (wrap64 (x13_4 + 1)) qa ql a1 a2 qa y169) = some (r1, r2, r3) := by first | (rw [hy169]; with_reducible exact H) | (have H2_ := (Option.bind_some _ _).symm.trans H; rw [hy169]; with_reducible exact H2_) | (have H2_ := (Option.bind_some _ _).symm.trans H; with_reducible exact H2_) | with_reducible exact H | (rw [hy169]; exact H) | exact H
                  have Ny169 := Ym hy169
                  clear hy169
                  have H' := Ym H
                  clear H
                  have hnb56 := NB160_161.out
                  have hnc56 := NB161_160.out
                  have hnb57 := NB160_164.out
                  have hnc57 := NB164_160.out
                  have hnb58 := NB160_165.out
                  have hnc58 := NB165_160.out
                  have hcz59_0 : wr.cell? ⟨gb160, 0, none⟩ = some (.int .i64 qa) := (Yh BK160.out 0).trans rfl
                  have hcz59_1 : wr.cell? ⟨gb160, 1, none⟩ = some (.slice qA ql.length qc) := (Yh BK160.out 1).trans rfl
                  have hfz59_0 := Yi BK160.out 0
                  have hfz59_1 := Yi BK160.out 1
                  try go_wp2
                  have n0_ := Ym (Yz HO_161001.out)
                  have n1_ := Ym (Yt HO_166001.out)
                  have n2_ := Ym (Yf BK160.out)
                  have n3_ := Ym (Yf BK161.out)
                  have n4_ := Ym (Yf BK164.out)
                  have n5_ := Ym (Yf BK165.out)
                  have n6_ := Ym (Yb HB.out)
                  clear HO_161001
                  clear HO_166001
                  clear BK160
                  clear BK161
                  clear BK164
                  clear BK165
                  clear HB
                  have HO_161001 := n0_
                  have HO_166001 := n1_
                  have BK160 := n2_
                  have BK161 := n3_
                  have BK164 := n4_
                  have BK165 := n5_
                  have HB := n6_
                  clear n0_ n1_ n2_ n3_ n4_ n5_ n6_
                  have p166 : 0 ≤ (x13_4 : Int) := YF (by first | (with_reducible assumption) | assumption)
                  have q166 : x13_4 < (ql.length : Int) := YF (by first | (with_reducible assumption) | assumption)
                  obtain ⟨ad166, e166, hx166_0, hx166_1⟩ := at_T33 (Kd.V_reads' HO_161001.out).2.2 x13_4 p166 q166
                  cases e166
                  replace p166 := eq_true p166
                  replace q166 := eq_true q166
                  refine start_ (n := 8) (S := fun w' => w'.cell? ⟨gb164, 0, none⟩ = some (.int .i64 a1) ∧ w'.cell? ⟨gb164, 1, none⟩ = some (.int .i64 a2) ∧ w'.cell? ⟨gb160, 0, none⟩ = some (.int .i64 qa) ∧ w'.cell? ⟨gb160, 1, none⟩ = some (.slice (some ad166) ql.length qc) ∧ w'.cell? (ad166.add ((x13_4).toNat * 2)) = some (.int .i64 ((rd_T33 ql x13_4).f0)) ∧ w'.cell? ⟨(ad166.add ((x13_4).toNat * 2)).block, (ad166.add ((x13_4).toNat * 2)).off + 1, none⟩ = some (.int .i64 ((rd_T33 ql x13_4).f1))) (ds := []) #[false, false, false, false, false, false, false, false] (by kernel_rfl) rfl rfl ⟨(Yh BK164.out 0).trans rfl, (Yh BK164.out 1).trans rfl, (Yh BK160.out 0).trans rfl, (Yh BK160.out 1).trans rfl, hx166_0, hx166_1⟩ (fun hHeld => ?_); refine with_tabW mooringsref10_Add.tab19 mooringsref10_Add.bits19 (fun HT_ HW_ => ?_)
                  generalize wr.drew = w60 at HO_161001 HO_166001 BK160 BK161 BK164 BK165 HB hx166_0 hx166_1 hHeld ⊢
                  refine pure_ (i := 1) (N := some 68) (v := ?_) (a' := ?_) #[false, true, false, false, false, false, false, false] rfl rfl (any_of HT_.out (by kernel_rfl)) (fun _ _ _ h => h) (Or.inl ⟨by rfl, ?_⟩) ?_ ?_
                  rotate_left
                  ·intro w'
                   go_simp
                   with_reducible rfl
                  rotate_left
                  ·simp only [Act.put, Yo, Yp, Yq, i64_w, i32_w]
                   rfl
                  refine pure_ (i := 3) (N := some 70) (v := ?_) (a' := ?_) #[false, true, false, true, false, false, false, false] rfl rfl (any_of HT_.out (by kernel_rfl)) (fun _ _ _ h => h) (Or.inl ⟨by rfl, ?_⟩) ?_ ?_
                  rotate_left
                  ·intro w'
                   go_simp
                   with_reducible rfl
                  rotate_left
                  ·simp only [Act.put, Yo, Yp, Yq, i64_w, i32_w]
                   rfl
                  refine take_ (i := 0) (N := some 67) (v := ?_) (a' := ?_) #[true, true, false, true, false, false, false, false] rfl rfl (take_ofW HT_.out HW_.out (by kernel_rfl)) (fun _ _ _ h => h) (Or.inl ⟨by rfl, ?_⟩) hHeld ?_ ?_
                  rotate_left
                  ·rintro w' ⟨s0, s1, s2, s3, s4, s5⟩
                   go_simp
                   with_reducible rfl
                  rotate_left
                  ·simp only [Act.put, Yo, Yp, Yq, i64_w, i32_w]
                   rfl
                  refine take_ (i := 2) (N := some 69) (v := ?_) (a' := ?_) #[true, true, true, true, false, false, false, false] rfl rfl (take_ofW HT_.out HW_.out (by kernel_rfl)) (fun _ _ _ h => h) (Or.inl ⟨by rfl, ?_⟩) hHeld ?_ ?_
                  rotate_left
                  ·rintro w' ⟨s0, s1, s2, s3, s4, s5⟩
                   go_simp
                   with_reducible rfl
                  rotate_left
                  ·simp only [Act.put, Yo, Yp, Yq, i64_w, i32_w]
                   rfl
                  refine pure_ (i := 4) (N := some 71) (v := ?_) (a' := ?_) #[true, true, true, true, true, false, false, false] rfl rfl (any_of HT_.out (by kernel_rfl)) (fun _ _ _ h => h) (Or.inl ⟨by rfl, ?_⟩) ?_ ?_
                  rotate_left
                  ·intro w'
                   go_simp
                   with_reducible rfl
                  rotate_left
                  ·simp only [Act.put, Yo, Yp, Yq, i64_w, i32_w]
                   rfl
                  refine take_ (i := 5) (N := some 72) (v := ?_) (a' := ?_) #[true, true, true, true, true, true, false, false] rfl rfl (take_ofW HT_.out HW_.out (by kernel_rfl)) (fun _ _ _ h => h) (Or.inl ⟨by rfl, ?_⟩) hHeld ?_ ?_
                  rotate_left
                  ·rintro w' ⟨s0, s1, s2, s3, s4, s5⟩
                   go_simp
                   with_reducible rfl
                  rotate_left
                  ·simp only [Act.put, Yo, Yp, Yq, i64_w, i32_w]
                   rfl
                  refine one_ (i := 6) (N := some 73) #[true, true, true, true, true, true, true, false] rfl rfl (one_of HT_.out (by kernel_rfl)) (by decide) (fun K hK => ?_)
                  refine goes_ Try.func33 (by kernel_rfl) rfl #[.agg #[.int .i64 a1, .int .i64 a2], .agg #[.int .i64 ((rd_T33 ql x13_4).f0), .int .i64 ((rd_T33 ql x13_4).f1)]] (by rfl) rfl rfl (by (try simp only [List.map_toArray, List.map_cons, List.map_nil]); first | done | rfl | (simp only [List.length_drop, List.length_take]; rfl)) ?_
                  with_reducible refine (mooringsref10_before.calls a1 a2 ((rd_T33 ql x13_4).f0) ((rd_T33 ql x13_4).f1) true _ A52.out).mono ?_
                  rintro e w61 ⟨rfl, hb⟩
                  have HS4_ := (hb.cell (YC _ _ (hHeld.2.2.2.2.1))).trans (hHeld.2.2.2.2.1)
                  have HS5_ := (hb.cell (YC _ _ (hHeld.2.2.2.2.2))).trans (hHeld.2.2.2.2.2)
                  refine ⟨_, rfl, ?_⟩
                  have n0_ := Ym (Kd.V_below (by (with_reducible repeat (first | apply Yy | apply Yx | apply Yz)); exact HO_161001.out) hb)
                  have n1_ := Ym (YA (by (with_reducible repeat (first | apply Ys | apply Yr | apply Yt)); exact HO_166001.out) hb)
                  have n2_ := Ym (Yl (g := gb160) (o := .cells #[.int .i64 qa, .slice (some ad166) ql.length qc] 24 (0, 0)) (by (with_reducible repeat (first | refine Yd ?_ _ | refine Yf ?_ | refine Ye ?_ _)); exact BK160.out) hb)
                  have n3_ := Ym (Yl (g := gb161) (o := .cells #[.int .i64 x162000_3, .slice none 0 0] 24 (0, 0)) (by (with_reducible repeat (first | refine Yd ?_ _ | refine Yf ?_ | refine Ye ?_ _)); exact BK161.out) hb)
                  have n4_ := Ym (Yl (g := gb164) (o := .cells #[.int .i64 a1, .int .i64 a2] 33 (0, 0)) (by (with_reducible repeat (first | refine Yd ?_ _ | refine Yf ?_ | refine Ye ?_ _)); exact BK164.out) hb)
                  have n5_ := Ym (Yl (g := gb165) (o := .cells #[.int .i64 qa, u166001] 24 (0, 0)) (by (with_reducible repeat (first | refine Yd ?_ _ | refine Yf ?_ | refine Ye ?_ _)); exact BK165.out) hb)
                  have n6_ := Ym (Yj (by repeat (first | (with_reducible first | exact HB.out | apply Yc | apply Ya | apply Yb | refine Yg ?_ GE160.out | refine Yg ?_ GE161.out | refine Yg ?_ GE164.out | refine Yg ?_ GE165.out) | exact HB.out)) hb)
                  clear HO_161001
                  clear HO_166001
                  clear BK160
                  clear BK161
                  clear BK164
                  clear BK165
                  clear HB
                  have HO_161001 := n0_
                  have HO_166001 := n1_
                  have BK160 := n2_
                  have BK161 := n3_
                  have BK164 := n4_
                  have BK165 := n5_
                  have HB := n6_
                  clear n0_ n1_ n2_ n3_ n4_ n5_ n6_
                  (try clear hb)
                  (try clear hb2)
                  (try clear hk)
                  (try clear hi)
                  refine hK.out _ _ ⟨(Yh BK164.out 0).trans rfl, (Yh BK164.out 1).trans rfl, (Yh BK160.out 0).trans rfl, (Yh BK160.out 1).trans rfl, HS4_, HS5_⟩ (fun hHeld => ?_)
                  clear hK K
                  refine norm_ (a' := ?_) ?_ ?_
                  rotate_left
                  ·show Act.put _ (some 73) _ = _
                   simp only [Act.put, Yo, Yp, Yq, i64_w, i32_w]
                   rfl
                  refine pure_ (i := 7) (N := some 14) (v := ?_) (a' := ?_) #[true, true, true, true, true, true, true, true] rfl rfl (any_of HT_.out (by kernel_rfl)) (fun _ _ _ h => h) (Or.inl ⟨by rfl, ?_⟩) ?_ ?_
                  rotate_left
                  ·intro w'
                   go_simp
                   with_reducible rfl
                  rotate_left
                  ·simp only [Act.put, Yo, Yp, Yq, i64_w, i32_w]
                   rfl
                  refine done_ (done_of HT_.out (by kernel_rfl)) ?_
                  try go_wp2
                  have n0_ := Ym (Yz HO_161001.out)
                  have n1_ := Ym (Yt HO_166001.out)
                  have n2_ := Ym (Yf BK160.out)
                  have n3_ := Ym (Yf BK161.out)
                  have n4_ := Ym (Yf BK164.out)
                  have n5_ := Ym (Yf BK165.out)
                  have n6_ := Ym (Yb HB.out)
                  clear HO_161001
                  clear HO_166001
                  clear BK160
                  clear BK161
                  clear BK164
                  clear BK165
                  clear HB
                  have HO_161001 := n0_
                  have HO_166001 := n1_
                  have BK160 := n2_
                  have BK161 := n3_
                  have BK164 := n4_
                  have BK165 := n5_
                  have HB := n6_
                  clear n0_ n1_ n2_ n3_ n4_ n5_ n6_
                  have p168 : 0 ≤ (x13_4 : Int) := YF (by first | (with_reducible assumption) | assumption)
                  have q168 : x13_4 < (ql.length : Int) := YF (by first | (with_reducible assumption) | assumption)
                  obtain ⟨ad168, e168, hx168_0, hx168_1⟩ := at_T33 (Kd.V_reads' HO_161001.out).2.2 x13_4 p168 q168
                  obtain rfl : ad166 = ad168 := (by injection e168)
                  replace p168 := eq_true p168
                  replace q168 := eq_true q168
                  refine start_ (n := 11) (S := fun w' => w'.cell? ⟨gb165, 0, none⟩ = some (.int .i64 qa) ∧ w'.cell? ⟨gb165, 1, none⟩ = some (u166001) ∧ w'.cell? ⟨gb160, 0, none⟩ = some (.int .i64 qa) ∧ w'.cell? ⟨gb160, 1, none⟩ = some (.slice (some ad166) ql.length qc) ∧ w'.cell? (ad166.add ((x13_4).toNat * 2)) = some (.int .i64 ((rd_T33 ql x13_4).f0)) ∧ w'.cell? ⟨(ad166.add ((x13_4).toNat * 2)).block, (ad166.add ((x13_4).toNat * 2)).off + 1, none⟩ = some (.int .i64 ((rd_T33 ql x13_4).f1))) (ds := [8, 10]) #[false, false, false, false, false, false, false, false, false, false, false] (by kernel_rfl) rfl rfl ⟨(Yh BK165.out 0).trans rfl, (Yh BK165.out 1).trans rfl, (Yh BK160.out 0).trans rfl, (Yh BK160.out 1).trans rfl, hx168_0, hx168_1⟩ (fun hHeld => ?_); refine with_tabW mooringsref10_Add.tab23 mooringsref10_Add.bits23 (fun HT_ HW_ => ?_)
                  generalize w61.drew = w62 at HO_161001 HO_166001 BK160 BK161 BK164 BK165 HB hx168_0 hx168_1 hHeld ⊢
                  refine pure_ (i := 0) (N := some 85) (v := ?_) (a' := ?_) #[true, false, false, false, false, false, false, false, false, false, false] rfl rfl (any_of HT_.out (by kernel_rfl)) (fun _ _ _ h => h) (Or.inl ⟨by rfl, ?_⟩) ?_ ?_
                  rotate_left
                  ·intro w'
                   go_simp
                   with_reducible rfl
                  rotate_left
                  ·simp only [Act.put, Yo, Yp, Yq, i64_w, i32_w]
                   rfl
                  refine pure_ (i := 2) (N := some 87) (v := ?_) (a' := ?_) #[true, false, true, false, false, false, false, false, false, false, false] rfl rfl (any_of HT_.out (by kernel_rfl)) (fun _ _ _ h => h) (Or.inl ⟨by rfl, ?_⟩) ?_ ?_
                  rotate_left
                  ·intro w'
                   go_simp
                   with_reducible rfl
                  rotate_left
                  ·simp only [Act.put, Yo, Yp, Yq, i64_w, i32_w]
                   rfl
                  refine pure_ (i := 4) (N := some 89) (v := ?_) (a' := ?_) #[true, false, true, false, true, false, false, false, false, false, false] rfl rfl (any_of HT_.out (by kernel_rfl)) (fun _ _ _ h => h) (Or.inl ⟨by rfl, ?_⟩) ?_ ?_
                  rotate_left
                  ·intro w'
                   go_simp
                   with_reducible rfl
                  rotate_left
                  ·simp only [Act.put, Yo, Yp, Yq, i64_w, i32_w]
                   rfl
                  refine take_ (i := 1) (N := some 86) (v := ?_) (a' := ?_) #[true, true, true, false, true, false, false, false, false, false, false] rfl rfl (take_ofW HT_.out HW_.out (by kernel_rfl)) (fun _ _ _ h => h) (Or.inl ⟨by rfl, ?_⟩) hHeld ?_ ?_
                  rotate_left
                  ·rintro w' ⟨s0, s1, s2, s3, s4, s5⟩
                   go_simp
                   with_reducible rfl
                  rotate_left
                  ·simp only [Act.put, Yo, Yp, Yq, i64_w, i32_w]
                   rfl
                  refine take_ (i := 3) (N := some 88) (v := ?_) (a' := ?_) #[true, true, true, true, true, false, false, false, false, false, false] rfl rfl (take_ofW HT_.out HW_.out (by kernel_rfl)) (fun _ _ _ h => h) (Or.inl ⟨by rfl, ?_⟩) hHeld ?_ ?_
                  rotate_left
                  ·rintro w' ⟨s0, s1, s2, s3, s4, s5⟩
                   go_simp
                   with_reducible rfl
                  rotate_left
                  ·simp only [Act.put, Yo, Yp, Yq, i64_w, i32_w]
                   rfl
                  refine pure_ (i := 5) (N := some 90) (v := ?_) (a' := ?_) #[true, true, true, true, true, true, false, false, false, false, false] rfl rfl (any_of HT_.out (by kernel_rfl)) (fun _ _ _ h => h) (Or.inl ⟨by rfl, ?_⟩) ?_ ?_
                  rotate_left
                  ·intro w'
                   go_simp
                   with_reducible rfl
                  rotate_left
                  ·simp only [Act.put, Yo, Yp, Yq, i64_w, i32_w]
                   rfl
                  refine take_ (i := 6) (N := some 91) (v := ?_) (a' := ?_) #[true, true, true, true, true, true, true, false, false, false, false] rfl rfl (take_ofW HT_.out HW_.out (by kernel_rfl)) (fun _ _ _ h => h) (Or.inl ⟨by rfl, ?_⟩) hHeld ?_ ?_
                  rotate_left
                  ·rintro w' ⟨s0, s1, s2, s3, s4, s5⟩
                   go_simp
                   with_reducible rfl
                  rotate_left
                  ·simp only [Act.put, Yo, Yp, Yq, i64_w, i32_w]
                   rfl
                  refine one_ (i := 7) (N := some 92) #[true, true, true, true, true, true, true, true, false, false, false] rfl rfl (one_of HT_.out (by kernel_rfl)) (by decide) (fun K hK => ?_)
                  refine value_ (w1 := ?_) (v := ?_) (by rfl) rfl ?_ ?_
                  rotate_left 2
                  ·go_simp
                   constructor
                   ·rfl
                   ·rfl
                  refine hK.out _ _ ⟨(Yh (Ye BK165.out _) 0).trans rfl, (Yh (Ye BK165.out _) 1).trans rfl, (Yh (Ye BK160.out _) 0).trans rfl, (Yh (Ye BK160.out _) 1).trans rfl, (World.cell?_alloc_lt _ _ _ (YC _ _ (hHeld.2.2.2.2.1))).trans (hHeld.2.2.2.2.1), (World.cell?_alloc_lt _ _ _ (YC _ _ (hHeld.2.2.2.2.2))).trans (hHeld.2.2.2.2.2)⟩ (fun hHeld => ?_)
                  clear hK K
                  refine norm_ (a' := ?_) ?_ ?_
                  rotate_left
                  ·show Act.put _ (some 92) _ = _
                   simp only [Act.put, Yo, Yp, Yq, i64_w, i32_w]
                   rfl
                  refine last_ (i := 8) (N := some 93) #[true, true, true, true, true, true, true, true, true, false, false] rfl rfl (one_of HT_.out (by kernel_rfl)) (by decide) (fun K hK => ?_)
                  refine Kd.R_append_step k33 (w0 := w) w.heap.size (by rfl) (.tmp 86) (.tmp 92) 22 33 (.agg #[(.int .i64 0), (.int .i64 0)]) 16 rfl Try.underlying22 info33 rfl (by decide) (by omega) u166001 x166001_4 (⟨(rd_T33 ql x13_4).f0, (rd_T33 ql x13_4).f1⟩ : S33) [.int .i64 ((rd_T33 ql x13_4).f0), .int .i64 ((rd_T33 ql x13_4).f1)] (fun k_ => (w.heap.size ≤ k_) ∧ k_ ≠ gb164) (fun _ => False) rfl rfl ?aP (fun _ hk => hk.elim) ?aF ?aO ?aB ?aS ?aL ?_
                  (case aP => exact k33_mkM _ _ _ (⟨(rd_T33 ql x13_4).f0, (rd_T33 ql x13_4).f1⟩ : S33))
                  (case aB => exact (by repeat (first | (with_reducible first | exact HB.out | apply Yc | apply Ya | apply Yb | refine Yg ?_ GE160.out | refine Yg ?_ GE161.out | refine Yg ?_ GE164.out | refine Yg ?_ GE165.out) | exact HB.out)))
                  (case aF => exact (fun k_ hk => ⟨(Nat.le_trans (Yk (by repeat (first | (with_reducible first | exact HB.out | apply Yc | apply Ya | apply Yb | refine Yg ?_ GE160.out | refine Yg ?_ GE161.out | refine Yg ?_ GE164.out | refine Yg ?_ GE165.out) | exact HB.out))) hk), Kd.freshB (g := gb164) (o := .cells #[.int .i64 a1, .int .i64 a2] 33 (0, 0)) (by (with_reducible repeat (first | refine Yd ?_ _ | refine Yf ?_ | refine Ye ?_ _)); exact BK164.out) k_ hk⟩))
                  (case aO => exact (by (with_reducible repeat (first | apply Ys | apply Yr | apply Yt)); exact HO_166001.out))
                  (case aS => exact (Yk (by repeat (first | (with_reducible first | exact HB.out | apply Yc | apply Ya | apply Yb | refine Yg ?_ GE160.out | refine Yg ?_ GE161.out | refine Yg ?_ GE164.out | refine Yg ?_ GE165.out) | exact HB.out))))
                  (case aL => have := LMc55.out; omega)
                  intro v170 w63 ho hb hg hat
                  rw [← Ny169.out] at ho
                  have n0_ := Ym (Kd.V_afterv (ok := (fun k_ => (P0_1_ k_ ∨ w.heap.size ≤ k_) ∧ k_ ≠ gb160 ∧ k_ ≠ gb161 ∧ k_ ≠ gb164 ∧ k_ ≠ gb165)) (by (with_reducible repeat (first | apply Yy | apply Yx | apply Yz)); exact YG HO_161001.out (fun _ hk => ⟨⟨hk.1, ⟨hk.2.2.1, ⟨hk.2.2.2.1, ⟨hk.2.2.2.2.1, hk.2.2.2.2.2⟩⟩⟩⟩, hk.2.1⟩)) hg hat)
                  have n1_ := Ym (blk_grown (g := gb160) (o := .cells #[.int .i64 qa, .slice (some ad166) ql.length qc] 24 (0, 0)) (by (with_reducible repeat (first | refine Yd ?_ _ | refine Yf ?_ | refine Ye ?_ _)); exact BK160.out) hg (Kd.R_ne HO_166001.out BK160.out (by decide)))
                  have n2_ := Ym (blk_grown (g := gb161) (o := .cells #[.int .i64 x162000_3, .slice none 0 0] 24 (0, 0)) (by (with_reducible repeat (first | refine Yd ?_ _ | refine Yf ?_ | refine Ye ?_ _)); exact BK161.out) hg (Kd.R_ne HO_166001.out BK161.out (by decide)))
                  have n3_ := Ym (blk_grown (g := gb164) (o := .cells #[.int .i64 a1, .int .i64 a2] 33 (0, 0)) (by (with_reducible repeat (first | refine Yd ?_ _ | refine Yf ?_ | refine Ye ?_ _)); exact BK164.out) hg (Kd.R_away HO_166001.out (fun _ hk => hk.2)))
                  have n4_ := Ym (blk_grown (g := gb165) (o := .cells #[.int .i64 qa, u166001] 24 (0, 0)) (by (with_reducible repeat (first | refine Yd ?_ _ | refine Yf ?_ | refine Ye ?_ _)); exact BK165.out) hg (Kd.R_ne HO_166001.out BK165.out (by decide)))
                  have n5_ := Ym (hb)
                  have n6_ := Ym (ho)
                  clear HO_161001
                  clear BK160
                  clear BK161
                  clear BK164
                  clear BK165
                  clear HB
                  clear HO_166001
                  have HO_161001 := n0_
                  have BK160 := n1_
                  have BK161 := n2_
                  have BK164 := n3_
                  have BK165 := n4_
                  have HB := n5_
                  have HO171 := n6_
                  clear n0_ n1_ n2_ n3_ n4_ n5_ n6_
                  clear ho hb hg hat
                  obtain ⟨Ao64, co64, eo64⟩ := Kd.R_slice HO171.out
                  (first | subst eo64 | (injection eo64 with f1_ f2_ f3_; have f4_ := f1_.symm; have f5_ := f3_.symm; clear f1_ f2_ f3_; subst f4_; subst f5_))
                  refine hK.out _ _ ?_
                  clear hK K
                  refine norm_ (a' := ?_) ?_ ?_
                  rotate_left
                  ·show Act.put _ (some 93) _ = _
                   simp only [Act.put, Yo, Yp, Yq, i64_w, i32_w]
                   rfl
                  refine pure_ (i := 9) (N := some 94) (v := ?_) (a' := ?_) #[true, true, true, true, true, true, true, true, true, true, false] rfl rfl (any_of HT_.out (by kernel_rfl)) (fun _ _ _ h => h) (Or.inl ⟨by rfl, ?_⟩) ?_ ?_
                  rotate_left
                  ·intro w'
                   go_simp
                   with_reducible rfl
                  rotate_left
                  ·simp only [Act.put, Yo, Yp, Yq, i64_w, i32_w]
                   rfl
                  refine last_ (i := 10) (N := none) #[true, true, true, true, true, true, true, true, true, true, true] rfl rfl (one_of HT_.out (by kernel_rfl)) (by decide) (fun K hK => ?_)
                  have hs65 : w63.cell? ⟨gb165, 1, none⟩ = some (u166001) := (Yh BK165.out 1).trans rfl
                  have hfs65 := Yi BK165.out 1
                  have hns65_0 := NB160_165.out
                  have hns65_1 := NB161_165.out
                  have hns65_2 := NB164_165.out
                  have hms65_0 := NB165_160.out
                  have hms65_1 := NB165_161.out
                  have hms65_2 := NB165_164.out
                  refine skip_ (w1 := ?_) (by rfl) rfl ?_ ?_
                  rotate_left
                  ·go_simp
                   rfl
                  refine hK.out _ _ ?_
                  clear hK K
                  refine done_ (done_of HT_.out (by kernel_rfl)) ?_
                  try go_wp2
                  go_roundg k4
                  case measure => have := HJ4.out; have := HJ15.out; have := HK3.out; have := HK4.out; omega
                  case rel => exact ⟨(true), (wrap64 (x13_4 + 1)), (y169), (.slice Ao64 y169.length co64), (by first | rfl | (simp; done) | (simp [*]; done)), (by first | rfl | (simp; done) | (simp [*]; done)), H', ⟨by have := HJ4.out; have := HJ15.out; have := HK3.out; have := HK4.out; omega⟩, ⟨by (with_reducible repeat (first | apply Yy | apply Yx | apply Yz)); exact YG (Kd.V_far (p := ⟨gb165, 1, none⟩) (YG HO_161001.out (fun k_ hk => (⟨hk, hk.1.2.2.2.2⟩ : _ ∧ k_ ≠ gb165))) (fun _ hk => hk.2) (.slice Ao64 y169.length co64)) (fun _ hk => ⟨hk.1.1.1, ⟨hk.1.2, ⟨hk.1.1.2.1, ⟨hk.1.1.2.2.1, ⟨hk.1.1.2.2.2.1, hk.1.1.2.2.2.2⟩⟩⟩⟩⟩)⟩, ⟨by (with_reducible repeat (first | apply Ys | apply Yr | apply Yt)); exact Yv (Yw (p := ⟨gb165, 1, none⟩) (Yu HO171.out BK165.out (by decide)) (fun _ hk => hk.2) (.slice Ao64 y169.length co64)) (fun _ hk => ⟨hk.1.1, hk.1.2⟩)⟩, ⟨by (with_reducible repeat (first | refine Yd ?_ _ | refine Yf ?_ | refine Ye ?_ _)); refine YH ?_ NB160_165.out _; (with_reducible repeat (first | refine Yd ?_ _ | refine Yf ?_ | refine Ye ?_ _)); exact BK160.out⟩, ⟨by (with_reducible repeat (first | refine Yd ?_ _ | refine Yf ?_ | refine Ye ?_ _)); refine YH ?_ NB161_165.out _; (with_reducible repeat (first | refine Yd ?_ _ | refine Yf ?_ | refine Ye ?_ _)); exact BK161.out⟩, ⟨by (with_reducible repeat (first | refine Yd ?_ _ | refine Yf ?_ | refine Ye ?_ _)); refine YH ?_ NB164_165.out _; (with_reducible repeat (first | refine Yd ?_ _ | refine Yf ?_ | refine Ye ?_ _)); exact BK164.out⟩, ⟨by (with_reducible repeat (first | refine Yd ?_ _ | refine Yf ?_ | refine Ye ?_ _)); refine blk_put (cs := #[.int .i64 qa, u166001]) ?_ 1 _ rfl; (with_reducible repeat (first | refine Yd ?_ _ | refine Yf ?_ | refine Ye ?_ _)); exact BK165.out⟩, ⟨by repeat (first | (with_reducible first | exact HB.out | apply Yc | apply Ya | apply Yb | refine Yg ?_ GE160.out | refine Yg ?_ GE161.out | refine Yg ?_ GE164.out | refine Yg ?_ GE165.out) | exact HB.out)⟩⟩
                 ·rw [if_neg c55] at H
                  exact absurd H (by simp)
                ·replace c54 := Bool.eq_false_iff.mpr c54
                 subst c54
                 have H1 : (if x166001_4.length < 8796093022208 then ((some (x166001_4 ++ [(⟨a1, a2⟩ : S33)] : List (S33))).bind fun y172 => (if y172.length < 8796093022208 then (mooringsref10_Add.l1 k4 true (wrap64 (x13_4 + 1)) qa ql a1 a2 qa (y172 ++ [(⟨(rd_T33 ql x13_4).f0, (rd_T33 ql x13_4).f1⟩ : S33)])) else (none))) else (none)) = some (r1, r2, r3) := by rw [if_neg (show ¬ (false = true) by decide)] at H; exact H
                 clear H
                 have H := H1
                 clear H1
                 by_cases c66 : x166001_4.length < 8796093022208
                 ·rw [if_pos c66] at H
                  have LMc66 := Ym c66
                  clear c66
                  obtain ⟨y172, hy172⟩ : ∃ y_ : List (S33), y_ = (x166001_4 ++ [(⟨a1, a2⟩ : S33)]) := ⟨_, rfl⟩
                  replace H : (if y172.length < 8796093022208 then (mooringsref10_Add.l1 k4 true (wrap64 (x13_4 + 1)) qa ql a1 a2 qa (y172 ++ [(⟨(rd_T33 ql x13_4).f0, (rd_T33 ql x13_4).f1⟩ : S33)])) else (none)) = some (r1, r2, r3) := by first | (rw [hy172]; with_reducible exact H) | (have H2_ := (Option.bind_some _ _).symm.trans H; rw [hy172]; with_reducible exact H2_) | (have H2_ := (Option.bind_some _ _).symm.trans H; with_reducible exact H2_) | with_reducible exact H | (rw [hy172]; exact H) | exact H
                  have Ny172 := Ym hy172
                  clear hy172
                  by_cases c67 : y172.length < 8796093022208
                  ·rw [if_pos c67] at H
                   have LMc67 := Ym c67
                   clear c67
                   obtain ⟨y176, hy176⟩ : ∃ y_ : List (S33), y_ = (y172 ++ [(⟨(rd_T33 ql x13_4).f0, (rd_T33 ql x13_4).f1⟩ : S33)]) := ⟨_, rfl⟩
                   replace H : (mooringsref10_Add.l1 k4 true (wrap64 (x13_4 + 1)) qa ql a1 a2 qa y176) = some (r1, r2, r3) := by first | (rw [hy176]; with_reducible exact H) | (have H2_ := (Option.bind_some _ _).symm.trans H; rw [hy176]; with_reducible exact H2_) | (have H2_ := (Option.bind_some _ _).symm.trans H; with_reducible exact H2_) | with_reducible exact H | (rw [hy176]; exact H) | exact H
                   have Ny176 := Ym hy176
                   clear hy176
                   have H' := Ym H
                   clear H
                   have hnb68 := NB160_161.out
                   have hnc68 := NB161_160.out
                   have hnb69 := NB160_164.out
                   have hnc69 := NB164_160.out
                   have hnb70 := NB160_165.out
                   have hnc70 := NB165_160.out
                   have hcz71_0 : wr.cell? ⟨gb160, 0, none⟩ = some (.int .i64 qa) := (Yh BK160.out 0).trans rfl
                   have hcz71_1 : wr.cell? ⟨gb160, 1, none⟩ = some (.slice qA ql.length qc) := (Yh BK160.out 1).trans rfl
                   have hfz71_0 := Yi BK160.out 0
                   have hfz71_1 := Yi BK160.out 1
                   try go_wp2
                   have n0_ := Ym (Yz HO_161001.out)
                   have n1_ := Ym (Yt HO_166001.out)
                   have n2_ := Ym (Yf BK160.out)
                   have n3_ := Ym (Yf BK161.out)
                   have n4_ := Ym (Yf BK164.out)
                   have n5_ := Ym (Yf BK165.out)
                   have n6_ := Ym (Yb HB.out)
                   clear HO_161001
                   clear HO_166001
                   clear BK160
                   clear BK161
                   clear BK164
                   clear BK165
                   clear HB
                   have HO_161001 := n0_
                   have HO_166001 := n1_
                   have BK160 := n2_
                   have BK161 := n3_
                   have BK164 := n4_
                   have BK165 := n5_
                   have HB := n6_
                   clear n0_ n1_ n2_ n3_ n4_ n5_ n6_
                   have p166 : 0 ≤ (x13_4 : Int) := YF (by first | (with_reducible assumption) | assumption)
                   have q166 : x13_4 < (ql.length : Int) := YF (by first | (with_reducible assumption) | assumption)
                   obtain ⟨ad166, e166, hx166_0, hx166_1⟩ := at_T33 (Kd.V_reads' HO_161001.out).2.2 x13_4 p166 q166
                   cases e166
                   replace p166 := eq_true p166
                   replace q166 := eq_true q166
                   refine start_ (n := 8) (S := fun w' => w'.cell? ⟨gb164, 0, none⟩ = some (.int .i64 a1) ∧ w'.cell? ⟨gb164, 1, none⟩ = some (.int .i64 a2) ∧ w'.cell? ⟨gb160, 0, none⟩ = some (.int .i64 qa) ∧ w'.cell? ⟨gb160, 1, none⟩ = some (.slice (some ad166) ql.length qc) ∧ w'.cell? (ad166.add ((x13_4).toNat * 2)) = some (.int .i64 ((rd_T33 ql x13_4).f0)) ∧ w'.cell? ⟨(ad166.add ((x13_4).toNat * 2)).block, (ad166.add ((x13_4).toNat * 2)).off + 1, none⟩ = some (.int .i64 ((rd_T33 ql x13_4).f1))) (ds := []) #[false, false, false, false, false, false, false, false] (by kernel_rfl) rfl rfl ⟨(Yh BK164.out 0).trans rfl, (Yh BK164.out 1).trans rfl, (Yh BK160.out 0).trans rfl, (Yh BK160.out 1).trans rfl, hx166_0, hx166_1⟩ (fun hHeld => ?_); refine with_tabW mooringsref10_Add.tab19 mooringsref10_Add.bits19 (fun HT_ HW_ => ?_)
                   generalize wr.drew = w72 at HO_161001 HO_166001 BK160 BK161 BK164 BK165 HB hx166_0 hx166_1 hHeld ⊢
                   refine pure_ (i := 1) (N := some 68) (v := ?_) (a' := ?_) #[false, true, false, false, false, false, false, false] rfl rfl (any_of HT_.out (by kernel_rfl)) (fun _ _ _ h => h) (Or.inl ⟨by rfl, ?_⟩) ?_ ?_
                   rotate_left
                   ·intro w'
                    go_simp
                    with_reducible rfl
                   rotate_left
                   ·simp only [Act.put, Yo, Yp, Yq, i64_w, i32_w]
                    rfl
                   refine pure_ (i := 3) (N := some 70) (v := ?_) (a' := ?_) #[false, true, false, true, false, false, false, false] rfl rfl (any_of HT_.out (by kernel_rfl)) (fun _ _ _ h => h) (Or.inl ⟨by rfl, ?_⟩) ?_ ?_
                   rotate_left
                   ·intro w'
                    go_simp
                    with_reducible rfl
                   rotate_left
                   ·simp only [Act.put, Yo, Yp, Yq, i64_w, i32_w]
                    rfl
                   refine take_ (i := 0) (N := some 67) (v := ?_) (a' := ?_) #[true, true, false, true, false, false, false, false] rfl rfl (take_ofW HT_.out HW_.out (by kernel_rfl)) (fun _ _ _ h => h) (Or.inl ⟨by rfl, ?_⟩) hHeld ?_ ?_
                   rotate_left
                   ·rintro w' ⟨s0, s1, s2, s3, s4, s5⟩
                    go_simp
                    with_reducible rfl
                   rotate_left
                   ·simp only [Act.put, Yo, Yp, Yq, i64_w, i32_w]
                    rfl
                   refine take_ (i := 2) (N := some 69) (v := ?_) (a' := ?_) #[true, true, true, true, false, false, false, false] rfl rfl (take_ofW HT_.out HW_.out (by kernel_rfl)) (fun _ _ _ h => h) (Or.inl ⟨by rfl, ?_⟩) hHeld ?_ ?_
                   rotate_left
                   ·rintro w' ⟨s0, s1, s2, s3, s4, s5⟩
                    go_simp
                    with_reducible rfl
                   rotate_left
                   ·simp only [Act.put, Yo, Yp, Yq, i64_w, i32_w]
                    rfl
                   refine pure_ (i := 4) (N := some 71) (v := ?_) (a' := ?_) #[true, true, true, true, true, false, false, false] rfl rfl (any_of HT_.out (by kernel_rfl)) (fun _ _ _ h => h) (Or.inl ⟨by rfl, ?_⟩) ?_ ?_
                   rotate_left
                   ·intro w'
                    go_simp
                    with_reducible rfl
                   rotate_left
                   ·simp only [Act.put, Yo, Yp, Yq, i64_w, i32_w]
                    rfl
                   refine take_ (i := 5) (N := some 72) (v := ?_) (a' := ?_) #[true, true, true, true, true, true, false, false] rfl rfl (take_ofW HT_.out HW_.out (by kernel_rfl)) (fun _ _ _ h => h) (Or.inl ⟨by rfl, ?_⟩) hHeld ?_ ?_
                   rotate_left
                   ·rintro w' ⟨s0, s1, s2, s3, s4, s5⟩
                    go_simp
                    with_reducible rfl
                   rotate_left
                   ·simp only [Act.put, Yo, Yp, Yq, i64_w, i32_w]
                    rfl
                   refine one_ (i := 6) (N := some 73) #[true, true, true, true, true, true, true, false] rfl rfl (one_of HT_.out (by kernel_rfl)) (by decide) (fun K hK => ?_)
                   refine goes_ Try.func33 (by kernel_rfl) rfl #[.agg #[.int .i64 a1, .int .i64 a2], .agg #[.int .i64 ((rd_T33 ql x13_4).f0), .int .i64 ((rd_T33 ql x13_4).f1)]] (by rfl) rfl rfl (by (try simp only [List.map_toArray, List.map_cons, List.map_nil]); first | done | rfl | (simp only [List.length_drop, List.length_take]; rfl)) ?_
                   with_reducible refine (mooringsref10_before.calls a1 a2 ((rd_T33 ql x13_4).f0) ((rd_T33 ql x13_4).f1) true _ A52.out).mono ?_
                   rintro e w73 ⟨rfl, hb⟩
                   have HS4_ := (hb.cell (YC _ _ (hHeld.2.2.2.2.1))).trans (hHeld.2.2.2.2.1)
                   have HS5_ := (hb.cell (YC _ _ (hHeld.2.2.2.2.2))).trans (hHeld.2.2.2.2.2)
                   refine ⟨_, rfl, ?_⟩
                   have n0_ := Ym (Kd.V_below (by (with_reducible repeat (first | apply Yy | apply Yx | apply Yz)); exact HO_161001.out) hb)
                   have n1_ := Ym (YA (by (with_reducible repeat (first | apply Ys | apply Yr | apply Yt)); exact HO_166001.out) hb)
                   have n2_ := Ym (Yl (g := gb160) (o := .cells #[.int .i64 qa, .slice (some ad166) ql.length qc] 24 (0, 0)) (by (with_reducible repeat (first | refine Yd ?_ _ | refine Yf ?_ | refine Ye ?_ _)); exact BK160.out) hb)
                   have n3_ := Ym (Yl (g := gb161) (o := .cells #[.int .i64 x162000_3, .slice none 0 0] 24 (0, 0)) (by (with_reducible repeat (first | refine Yd ?_ _ | refine Yf ?_ | refine Ye ?_ _)); exact BK161.out) hb)
                   have n4_ := Ym (Yl (g := gb164) (o := .cells #[.int .i64 a1, .int .i64 a2] 33 (0, 0)) (by (with_reducible repeat (first | refine Yd ?_ _ | refine Yf ?_ | refine Ye ?_ _)); exact BK164.out) hb)
                   have n5_ := Ym (Yl (g := gb165) (o := .cells #[.int .i64 qa, u166001] 24 (0, 0)) (by (with_reducible repeat (first | refine Yd ?_ _ | refine Yf ?_ | refine Ye ?_ _)); exact BK165.out) hb)
                   have n6_ := Ym (Yj (by repeat (first | (with_reducible first | exact HB.out | apply Yc | apply Ya | apply Yb | refine Yg ?_ GE160.out | refine Yg ?_ GE161.out | refine Yg ?_ GE164.out | refine Yg ?_ GE165.out) | exact HB.out)) hb)
                   clear HO_161001
                   clear HO_166001
                   clear BK160
                   clear BK161
                   clear BK164
                   clear BK165
                   clear HB
                   have HO_161001 := n0_
                   have HO_166001 := n1_
                   have BK160 := n2_
                   have BK161 := n3_
                   have BK164 := n4_
                   have BK165 := n5_
                   have HB := n6_
                   clear n0_ n1_ n2_ n3_ n4_ n5_ n6_
                   (try clear hb)
                   (try clear hb2)
                   (try clear hk)
                   (try clear hi)
                   refine hK.out _ _ ⟨(Yh BK164.out 0).trans rfl, (Yh BK164.out 1).trans rfl, (Yh BK160.out 0).trans rfl, (Yh BK160.out 1).trans rfl, HS4_, HS5_⟩ (fun hHeld => ?_)
                   clear hK K
                   refine norm_ (a' := ?_) ?_ ?_
                   rotate_left
                   ·show Act.put _ (some 73) _ = _
                    simp only [Act.put, Yo, Yp, Yq, i64_w, i32_w]
                    rfl
                   refine pure_ (i := 7) (N := some 14) (v := ?_) (a' := ?_) #[true, true, true, true, true, true, true, true] rfl rfl (any_of HT_.out (by kernel_rfl)) (fun _ _ _ h => h) (Or.inl ⟨by rfl, ?_⟩) ?_ ?_
                   rotate_left
                   ·intro w'
                    go_simp
                    with_reducible rfl
                   rotate_left
                   ·simp only [Act.put, Yo, Yp, Yq, i64_w, i32_w]
                    rfl
                   refine done_ (done_of HT_.out (by kernel_rfl)) ?_
                   have hnb74 := NB165_161.out
                   have hnc74 := NB161_165.out
                   have hnb75 := NB165_164.out
                   have hnc75 := NB164_165.out
                   have hcz76_0 : w73.cell? ⟨gb165, 0, none⟩ = some (.int .i64 qa) := (Yh BK165.out 0).trans rfl
                   have hcz76_1 : w73.cell? ⟨gb165, 1, none⟩ = some (u166001) := (Yh BK165.out 1).trans rfl
                   have hfz76_0 := Yi BK165.out 0
                   have hfz76_1 := Yi BK165.out 1
                   have hnb77 := NB164_161.out
                   have hnc77 := NB161_164.out
                   have hcz78_0 : w73.cell? ⟨gb164, 0, none⟩ = some (.int .i64 a1) := (Yh BK164.out 0).trans rfl
                   have hcz78_1 : w73.cell? ⟨gb164, 1, none⟩ = some (.int .i64 a2) := (Yh BK164.out 1).trans rfl
                   have hfz78_0 := Yi BK164.out 0
                   have hfz78_1 := Yi BK164.out 1
                   try go_wp2_with (first | ((with_reducible refine gate_builtin (b := .append) (xs := #[.tmp 80, .tmp 82]) rfl ?_); at_builtin; refine Kd.R_append k33 (w0 := w) w.heap.size rfl (.tmp 80) (.tmp 82) 22 33 (.agg #[(.int .i64 0), (.int .i64 0)]) 16 rfl Try.underlying22 info33 rfl (by decide) (by omega) u166001 x166001_4 (⟨a1, a2⟩ : S33) [.int .i64 a1, .int .i64 a2] (fun k_ => (w.heap.size ≤ k_) ∧ k_ ≠ gb164) (fun _ => False) rfl rfl ?aP (fun _ hk => hk.elim) ?aF ?aO ?aB ?aS ?aL ?_; (case aP => exact k33_mkM _ _ _ (⟨a1, a2⟩ : S33)); (case aB => exact (by repeat (first | (with_reducible first | exact HB.out | apply Yc | apply Ya | apply Yb | refine Yg ?_ GE160.out | refine Yg ?_ GE161.out | refine Yg ?_ GE164.out | refine Yg ?_ GE165.out) | exact HB.out))); (case aF => exact (fun k_ hk => ⟨(Nat.le_trans (Yk (by repeat (first | (with_reducible first | exact HB.out | apply Yc | apply Ya | apply Yb | refine Yg ?_ GE160.out | refine Yg ?_ GE161.out | refine Yg ?_ GE164.out | refine Yg ?_ GE165.out) | exact HB.out))) hk), Kd.freshB (g := gb164) (o := .cells #[.int .i64 a1, .int .i64 a2] 33 (0, 0)) (by (with_reducible repeat (first | refine Yd ?_ _ | refine Yf ?_ | refine Ye ?_ _)); exact BK164.out) k_ hk⟩)); (case aO => exact (by (with_reducible repeat (first | apply Ys | apply Yr | apply Yt)); exact HO_166001.out)); (case aS => exact (Yk (by repeat (first | (with_reducible first | exact HB.out | apply Yc | apply Ya | apply Yb | refine Yg ?_ GE160.out | refine Yg ?_ GE161.out | refine Yg ?_ GE164.out | refine Yg ?_ GE165.out) | exact HB.out)))); (case aL => have := LMc66.out; omega); intro v173 w79 ho hb hg hat; rw [← Ny172.out] at ho; have n0_ := Ym (Kd.V_afterv (ok := (fun k_ => (P0_1_ k_ ∨ w.heap.size ≤ k_) ∧ k_ ≠ gb160 ∧ k_ ≠ gb161 ∧ k_ ≠ gb164 ∧ k_ ≠ gb165)) (by (with_reducible repeat (first | apply Yy | apply Yx | apply Yz)); exact YG HO_161001.out (fun _ hk => ⟨⟨hk.1, ⟨hk.2.2.1, ⟨hk.2.2.2.1, ⟨hk.2.2.2.2.1, hk.2.2.2.2.2⟩⟩⟩⟩, hk.2.1⟩)) hg hat); have n1_ := Ym (blk_grown (g := gb160) (o := .cells #[.int .i64 qa, .slice (some ad166) ql.length qc] 24 (0, 0)) (by (with_reducible repeat (first | refine Yd ?_ _ | refine Yf ?_ | refine Ye ?_ _)); exact BK160.out) hg (Kd.R_ne HO_166001.out BK160.out (by decide))); have n2_ := Ym (blk_grown (g := gb161) (o := .cells #[.int .i64 x162000_3, .slice none 0 0] 24 (0, 0)) (by (with_reducible repeat (first | refine Yd ?_ _ | refine Yf ?_ | refine Ye ?_ _)); exact BK161.out) hg (Kd.R_ne HO_166001.out BK161.out (by decide))); have n3_ := Ym (blk_grown (g := gb164) (o := .cells #[.int .i64 a1, .int .i64 a2] 33 (0, 0)) (by (with_reducible repeat (first | refine Yd ?_ _ | refine Yf ?_ | refine Ye ?_ _)); exact BK164.out) hg (Kd.R_away HO_166001.out (fun _ hk => hk.2))); have n4_ := Ym (blk_grown (g := gb165) (o := .cells #[.int .i64 qa, u166001] 24 (0, 0)) (by (with_reducible repeat (first | refine Yd ?_ _ | refine Yf ?_ | refine Ye ?_ _)); exact BK165.out) hg (Kd.R_ne HO_166001.out BK165.out (by decide))); have n5_ := Ym (hb); have n6_ := Ym (ho); clear HO_161001; clear BK160; clear BK161; clear BK164; clear BK165; clear HB; clear HO_166001; have HO_161001 := n0_; have BK160 := n1_; have BK161 := n2_; have BK164 := n3_; have BK165 := n4_; have HB := n5_; have HO174 := n6_; clear n0_ n1_ n2_ n3_ n4_ n5_ n6_; clear ho hb hg hat; obtain ⟨Ao80, co80, eo80⟩ := Kd.R_slice HO174.out; subst eo80; have hcz81_0 : w79.cell? ⟨gb165, 0, none⟩ = some (.int .i64 qa) := (Yh BK165.out 0).trans rfl; have hcz81_1 : w79.cell? ⟨gb165, 1, none⟩ = some (u166001) := (Yh BK165.out 1).trans rfl; have hfz81_0 := Yi BK165.out 0; have hfz81_1 := Yi BK165.out 1))
                   have n0_ : Aside0 (Kd.V k33 33 (w79.setCell ⟨gb165, 1, none⟩ (.slice Ao80 y172.length co80)) w.heap.size (fun k_ => (P0_1_ k_ ∨ w.heap.size ≤ k_) ∧ some k_ ≠ (.slice Ao80 y172.length co80 : Value).ownBlock ∧ k_ ≠ gb160 ∧ k_ ≠ gb161 ∧ k_ ≠ gb164 ∧ k_ ≠ gb165) (.slice (some ad166) ql.length qc) ql) := ⟨by (with_reducible repeat (first | apply Yy | apply Yx | apply Yz)); exact YG (Kd.V_far (p := ⟨gb165, 1, none⟩) (YG HO_161001.out (fun k_ hk => (⟨hk, hk.1.2.2.2.2⟩ : _ ∧ k_ ≠ gb165))) (fun _ hk => hk.2) (.slice Ao80 y172.length co80)) (fun _ hk => ⟨hk.1.1.1, ⟨hk.1.2, ⟨hk.1.1.2.1, ⟨hk.1.1.2.2.1, ⟨hk.1.1.2.2.2.1, hk.1.1.2.2.2.2⟩⟩⟩⟩⟩)⟩
                   have n1_ : Aside0 (Kd.R k33 33 (w79.setCell ⟨gb165, 1, none⟩ (.slice Ao80 y172.length co80)) w.heap.size (fun k_ => (w.heap.size ≤ k_) ∧ k_ ≠ gb164) (.slice Ao80 y172.length co80) y172) := ⟨by (with_reducible repeat (first | apply Ys | apply Yr | apply Yt)); exact Yv (Yw (p := ⟨gb165, 1, none⟩) (Yu HO174.out BK165.out (by decide)) (fun _ hk => hk.2) (.slice Ao80 y172.length co80)) (fun _ hk => ⟨hk.1.1, hk.1.2⟩)⟩
                   have n2_ : Aside0 ((w79.setCell ⟨gb165, 1, none⟩ (.slice Ao80 y172.length co80)).heap[gb160]? = some (.cells #[.int .i64 qa, .slice (some ad166) ql.length qc] 24 (0, 0))) := ⟨by (with_reducible repeat (first | refine Yd ?_ _ | refine Yf ?_ | refine Ye ?_ _)); refine YH ?_ NB160_165.out _; (with_reducible repeat (first | refine Yd ?_ _ | refine Yf ?_ | refine Ye ?_ _)); exact BK160.out⟩
                   have n3_ : Aside0 ((w79.setCell ⟨gb165, 1, none⟩ (.slice Ao80 y172.length co80)).heap[gb161]? = some (.cells #[.int .i64 x162000_3, .slice none 0 0] 24 (0, 0))) := ⟨by (with_reducible repeat (first | refine Yd ?_ _ | refine Yf ?_ | refine Ye ?_ _)); refine YH ?_ NB161_165.out _; (with_reducible repeat (first | refine Yd ?_ _ | refine Yf ?_ | refine Ye ?_ _)); exact BK161.out⟩
                   have n4_ : Aside0 ((w79.setCell ⟨gb165, 1, none⟩ (.slice Ao80 y172.length co80)).heap[gb164]? = some (.cells #[.int .i64 a1, .int .i64 a2] 33 (0, 0))) := ⟨by (with_reducible repeat (first | refine Yd ?_ _ | refine Yf ?_ | refine Ye ?_ _)); refine YH ?_ NB164_165.out _; (with_reducible repeat (first | refine Yd ?_ _ | refine Yf ?_ | refine Ye ?_ _)); exact BK164.out⟩
                   have n5_ : Aside0 ((w79.setCell ⟨gb165, 1, none⟩ (.slice Ao80 y172.length co80)).heap[gb165]? = some (.cells #[.int .i64 qa, .slice Ao80 y172.length co80] 24 (0, 0))) := ⟨by (with_reducible repeat (first | refine Yd ?_ _ | refine Yf ?_ | refine Ye ?_ _)); refine blk_put (cs := #[.int .i64 qa, u166001]) ?_ 1 _ rfl; (with_reducible repeat (first | refine Yd ?_ _ | refine Yf ?_ | refine Ye ?_ _)); exact BK165.out⟩
                   have n6_ : Aside0 (Below w.heap.size w (w79.setCell ⟨gb165, 1, none⟩ (.slice Ao80 y172.length co80))) := ⟨by repeat (first | (with_reducible first | exact HB.out | apply Yc | apply Ya | apply Yb | refine Yg ?_ GE160.out | refine Yg ?_ GE161.out | refine Yg ?_ GE164.out | refine Yg ?_ GE165.out) | exact HB.out)⟩
                   (try clear HO_161001)
                   (try clear HO174)
                   (try clear BK160)
                   (try clear BK161)
                   (try clear BK164)
                   (try clear BK165)
                   (try clear HB)
                   generalize (w79.setCell ⟨gb165, 1, none⟩ (.slice Ao80 y172.length co80)) = w82 at n0_ n1_ n2_ n3_ n4_ n5_ n6_ ⊢
                   have HO_161001 := n0_
                   have HO174 := n1_
                   have BK160 := n2_
                   have BK161 := n3_
                   have BK164 := n4_
                   have BK165 := n5_
                   have HB := n6_
                   clear n0_ n1_ n2_ n3_ n4_ n5_ n6_
                   have n0_ := Ym (Yz HO_161001.out)
                   have n1_ := Ym (Yt HO174.out)
                   have n2_ := Ym (Yf BK160.out)
                   have n3_ := Ym (Yf BK161.out)
                   have n4_ := Ym (Yf BK164.out)
                   have n5_ := Ym (Yf BK165.out)
                   have n6_ := Ym (Yb HB.out)
                   clear HO_161001
                   clear HO174
                   clear BK160
                   clear BK161
                   clear BK164
                   clear BK165
                   clear HB
                   have HO_161001 := n0_
                   have HO174 := n1_
                   have BK160 := n2_
                   have BK161 := n3_
                   have BK164 := n4_
                   have BK165 := n5_
                   have HB := n6_
                   clear n0_ n1_ n2_ n3_ n4_ n5_ n6_
                   have p175 : 0 ≤ (x13_4 : Int) := YF (by first | (with_reducible assumption) | assumption)
                   have q175 : x13_4 < (ql.length : Int) := YF (by first | (with_reducible assumption) | assumption)
                   obtain ⟨ad175, e175, hx175_0, hx175_1⟩ := at_T33 (Kd.V_reads' HO_161001.out).2.2 x13_4 p175 q175
                   obtain rfl : ad166 = ad175 := (by injection e175)
                   replace p175 := eq_true p175
                   replace q175 := eq_true q175
                   refine start_ (n := 11) (S := fun w' => w'.cell? ⟨gb165, 0, none⟩ = some (.int .i64 qa) ∧ w'.cell? ⟨gb165, 1, none⟩ = some (.slice Ao80 y172.length co80) ∧ w'.cell? ⟨gb160, 0, none⟩ = some (.int .i64 qa) ∧ w'.cell? ⟨gb160, 1, none⟩ = some (.slice (some ad166) ql.length qc) ∧ w'.cell? (ad166.add ((x13_4).toNat * 2)) = some (.int .i64 ((rd_T33 ql x13_4).f0)) ∧ w'.cell? ⟨(ad166.add ((x13_4).toNat * 2)).block, (ad166.add ((x13_4).toNat * 2)).off + 1, none⟩ = some (.int .i64 ((rd_T33 ql x13_4).f1))) (ds := [8, 10]) #[false, false, false, false, false, false, false, false, false, false, false] (by kernel_rfl) rfl rfl ⟨(Yh BK165.out 0).trans rfl, (Yh BK165.out 1).trans rfl, (Yh BK160.out 0).trans rfl, (Yh BK160.out 1).trans rfl, hx175_0, hx175_1⟩ (fun hHeld => ?_); refine with_tabW mooringsref10_Add.tab23 mooringsref10_Add.bits23 (fun HT_ HW_ => ?_)
                   generalize w82.drew = w83 at HO_161001 HO174 BK160 BK161 BK164 BK165 HB hx175_0 hx175_1 hHeld ⊢
                   refine pure_ (i := 0) (N := some 85) (v := ?_) (a' := ?_) #[true, false, false, false, false, false, false, false, false, false, false] rfl rfl (any_of HT_.out (by kernel_rfl)) (fun _ _ _ h => h) (Or.inl ⟨by rfl, ?_⟩) ?_ ?_
                   rotate_left
                   ·intro w'
                    go_simp
                    with_reducible rfl
                   rotate_left
                   ·simp only [Act.put, Yo, Yp, Yq, i64_w, i32_w]
                    rfl
                   refine pure_ (i := 2) (N := some 87) (v := ?_) (a' := ?_) #[true, false, true, false, false, false, false, false, false, false, false] rfl rfl (any_of HT_.out (by kernel_rfl)) (fun _ _ _ h => h) (Or.inl ⟨by rfl, ?_⟩) ?_ ?_
                   rotate_left
                   ·intro w'
                    go_simp
                    with_reducible rfl
                   rotate_left
                   ·simp only [Act.put, Yo, Yp, Yq, i64_w, i32_w]
                    rfl
                   refine pure_ (i := 4) (N := some 89) (v := ?_) (a' := ?_) #[true, false, true, false, true, false, false, false, false, false, false] rfl rfl (any_of HT_.out (by kernel_rfl)) (fun _ _ _ h => h) (Or.inl ⟨by rfl, ?_⟩) ?_ ?_
                   rotate_left
                   ·intro w'
                    go_simp
                    with_reducible rfl
                   rotate_left
                   ·simp only [Act.put, Yo, Yp, Yq, i64_w, i32_w]
                    rfl
                   refine take_ (i := 1) (N := some 86) (v := ?_) (a' := ?_) #[true, true, true, false, true, false, false, false, false, false, false] rfl rfl (take_ofW HT_.out HW_.out (by kernel_rfl)) (fun _ _ _ h => h) (Or.inl ⟨by rfl, ?_⟩) hHeld ?_ ?_
                   rotate_left
                   ·rintro w' ⟨s0, s1, s2, s3, s4, s5⟩
                    go_simp
                    with_reducible rfl
                   rotate_left
                   ·simp only [Act.put, Yo, Yp, Yq, i64_w, i32_w]
                    rfl
                   refine take_ (i := 3) (N := some 88) (v := ?_) (a' := ?_) #[true, true, true, true, true, false, false, false, false, false, false] rfl rfl (take_ofW HT_.out HW_.out (by kernel_rfl)) (fun _ _ _ h => h) (Or.inl ⟨by rfl, ?_⟩) hHeld ?_ ?_
                   rotate_left
                   ·rintro w' ⟨s0, s1, s2, s3, s4, s5⟩
                    go_simp
                    with_reducible rfl
                   rotate_left
                   ·simp only [Act.put, Yo, Yp, Yq, i64_w, i32_w]
                    rfl
                   refine pure_ (i := 5) (N := some 90) (v := ?_) (a' := ?_) #[true, true, true, true, true, true, false, false, false, false, false] rfl rfl (any_of HT_.out (by kernel_rfl)) (fun _ _ _ h => h) (Or.inl ⟨by rfl, ?_⟩) ?_ ?_
                   rotate_left
                   ·intro w'
                    go_simp
                    with_reducible rfl
                   rotate_left
                   ·simp only [Act.put, Yo, Yp, Yq, i64_w, i32_w]
                    rfl
                   refine take_ (i := 6) (N := some 91) (v := ?_) (a' := ?_) #[true, true, true, true, true, true, true, false, false, false, false] rfl rfl (take_ofW HT_.out HW_.out (by kernel_rfl)) (fun _ _ _ h => h) (Or.inl ⟨by rfl, ?_⟩) hHeld ?_ ?_
                   rotate_left
                   ·rintro w' ⟨s0, s1, s2, s3, s4, s5⟩
                    go_simp
                    with_reducible rfl
                   rotate_left
                   ·simp only [Act.put, Yo, Yp, Yq, i64_w, i32_w]
                    rfl
                   refine one_ (i := 7) (N := some 92) #[true, true, true, true, true, true, true, true, false, false, false] rfl rfl (one_of HT_.out (by kernel_rfl)) (by decide) (fun K hK => ?_)
                   refine value_ (w1 := ?_) (v := ?_) (by rfl) rfl ?_ ?_
                   rotate_left 2
                   ·go_simp
                    constructor
                    ·rfl
                    ·rfl
                   refine hK.out _ _ ⟨(Yh (Ye BK165.out _) 0).trans rfl, (Yh (Ye BK165.out _) 1).trans rfl, (Yh (Ye BK160.out _) 0).trans rfl, (Yh (Ye BK160.out _) 1).trans rfl, (World.cell?_alloc_lt _ _ _ (YC _ _ (hHeld.2.2.2.2.1))).trans (hHeld.2.2.2.2.1), (World.cell?_alloc_lt _ _ _ (YC _ _ (hHeld.2.2.2.2.2))).trans (hHeld.2.2.2.2.2)⟩ (fun hHeld => ?_)
                   clear hK K
                   refine norm_ (a' := ?_) ?_ ?_
                   rotate_left
                   ·show Act.put _ (some 92) _ = _
                    simp only [Act.put, Yo, Yp, Yq, i64_w, i32_w]
                    rfl
                   refine last_ (i := 8) (N := some 93) #[true, true, true, true, true, true, true, true, true, false, false] rfl rfl (one_of HT_.out (by kernel_rfl)) (by decide) (fun K hK => ?_)
                   refine Kd.R_append_step k33 (w0 := w) w.heap.size (by rfl) (.tmp 86) (.tmp 92) 22 33 (.agg #[(.int .i64 0), (.int .i64 0)]) 16 rfl Try.underlying22 info33 rfl (by decide) (by omega) (.slice Ao80 y172.length co80) y172 (⟨(rd_T33 ql x13_4).f0, (rd_T33 ql x13_4).f1⟩ : S33) [.int .i64 ((rd_T33 ql x13_4).f0), .int .i64 ((rd_T33 ql x13_4).f1)] (fun k_ => (w.heap.size ≤ k_) ∧ k_ ≠ gb164) (fun _ => False) rfl rfl ?aP (fun _ hk => hk.elim) ?aF ?aO ?aB ?aS ?aL ?_
                   (case aP => exact k33_mkM _ _ _ (⟨(rd_T33 ql x13_4).f0, (rd_T33 ql x13_4).f1⟩ : S33))
                   (case aB => exact (by repeat (first | (with_reducible first | exact HB.out | apply Yc | apply Ya | apply Yb | refine Yg ?_ GE160.out | refine Yg ?_ GE161.out | refine Yg ?_ GE164.out | refine Yg ?_ GE165.out) | exact HB.out)))
                   (case aF => exact (fun k_ hk => ⟨(Nat.le_trans (Yk (by repeat (first | (with_reducible first | exact HB.out | apply Yc | apply Ya | apply Yb | refine Yg ?_ GE160.out | refine Yg ?_ GE161.out | refine Yg ?_ GE164.out | refine Yg ?_ GE165.out) | exact HB.out))) hk), Kd.freshB (g := gb164) (o := .cells #[.int .i64 a1, .int .i64 a2] 33 (0, 0)) (by (with_reducible repeat (first | refine Yd ?_ _ | refine Yf ?_ | refine Ye ?_ _)); exact BK164.out) k_ hk⟩))
                   (case aO => exact (by (with_reducible repeat (first | apply Ys | apply Yr | apply Yt)); exact HO174.out))
                   (case aS => exact (Yk (by repeat (first | (with_reducible first | exact HB.out | apply Yc | apply Ya | apply Yb | refine Yg ?_ GE160.out | refine Yg ?_ GE161.out | refine Yg ?_ GE164.out | refine Yg ?_ GE165.out) | exact HB.out))))
                   (case aL => have := LMc67.out; omega)
                   intro v177 w84 ho hb hg hat
                   rw [← Ny176.out] at ho
                   have n0_ := Ym (Kd.V_afterv (ok := (fun k_ => (P0_1_ k_ ∨ w.heap.size ≤ k_) ∧ k_ ≠ gb160 ∧ k_ ≠ gb161 ∧ k_ ≠ gb164 ∧ k_ ≠ gb165)) (by (with_reducible repeat (first | apply Yy | apply Yx | apply Yz)); exact YG HO_161001.out (fun _ hk => ⟨⟨hk.1, ⟨hk.2.2.1, ⟨hk.2.2.2.1, ⟨hk.2.2.2.2.1, hk.2.2.2.2.2⟩⟩⟩⟩, hk.2.1⟩)) hg hat)
                   have n1_ := Ym (blk_grown (g := gb160) (o := .cells #[.int .i64 qa, .slice (some ad166) ql.length qc] 24 (0, 0)) (by (with_reducible repeat (first | refine Yd ?_ _ | refine Yf ?_ | refine Ye ?_ _)); exact BK160.out) hg (Kd.R_ne HO174.out BK160.out (by decide)))
                   have n2_ := Ym (blk_grown (g := gb161) (o := .cells #[.int .i64 x162000_3, .slice none 0 0] 24 (0, 0)) (by (with_reducible repeat (first | refine Yd ?_ _ | refine Yf ?_ | refine Ye ?_ _)); exact BK161.out) hg (Kd.R_ne HO174.out BK161.out (by decide)))
                   have n3_ := Ym (blk_grown (g := gb164) (o := .cells #[.int .i64 a1, .int .i64 a2] 33 (0, 0)) (by (with_reducible repeat (first | refine Yd ?_ _ | refine Yf ?_ | refine Ye ?_ _)); exact BK164.out) hg (Kd.R_away HO174.out (fun _ hk => hk.2)))
                   have n4_ := Ym (blk_grown (g := gb165) (o := .cells #[.int .i64 qa, .slice Ao80 y172.length co80] 24 (0, 0)) (by (with_reducible repeat (first | refine Yd ?_ _ | refine Yf ?_ | refine Ye ?_ _)); exact BK165.out) hg (Kd.R_ne HO174.out BK165.out (by decide)))
                   have n5_ := Ym (hb)
                   have n6_ := Ym (ho)
                   clear HO_161001
                   clear BK160
                   clear BK161
                   clear BK164
                   clear BK165
                   clear HB
                   clear HO174
                   have HO_161001 := n0_
                   have BK160 := n1_
                   have BK161 := n2_
                   have BK164 := n3_
                   have BK165 := n4_
                   have HB := n5_
                   have HO178 := n6_
                   clear n0_ n1_ n2_ n3_ n4_ n5_ n6_
                   clear ho hb hg hat
                   obtain ⟨Ao85, co85, eo85⟩ := Kd.R_slice HO178.out
                   (first | subst eo85 | (injection eo85 with f1_ f2_ f3_; have f4_ := f1_.symm; have f5_ := f3_.symm; clear f1_ f2_ f3_; subst f4_; subst f5_))
                   refine hK.out _ _ ?_
                   clear hK K
                   refine norm_ (a' := ?_) ?_ ?_
                   rotate_left
                   ·show Act.put _ (some 93) _ = _
                    simp only [Act.put, Yo, Yp, Yq, i64_w, i32_w]
                    rfl
                   refine pure_ (i := 9) (N := some 94) (v := ?_) (a' := ?_) #[true, true, true, true, true, true, true, true, true, true, false] rfl rfl (any_of HT_.out (by kernel_rfl)) (fun _ _ _ h => h) (Or.inl ⟨by rfl, ?_⟩) ?_ ?_
                   rotate_left
                   ·intro w'
                    go_simp
                    with_reducible rfl
                   rotate_left
                   ·simp only [Act.put, Yo, Yp, Yq, i64_w, i32_w]
                    rfl
                   refine last_ (i := 10) (N := none) #[true, true, true, true, true, true, true, true, true, true, true] rfl rfl (one_of HT_.out (by kernel_rfl)) (by decide) (fun K hK => ?_)
                   have hs86 : w84.cell? ⟨gb165, 1, none⟩ = some (.slice Ao80 y172.length co80) := (Yh BK165.out 1).trans rfl
                   have hfs86 := Yi BK165.out 1
                   have hns86_0 := NB160_165.out
                   have hns86_1 := NB161_165.out
                   have hns86_2 := NB164_165.out
                   have hms86_0 := NB165_160.out
                   have hms86_1 := NB165_161.out
                   have hms86_2 := NB165_164.out
                   refine skip_ (w1 := ?_) (by rfl) rfl ?_ ?_
                   rotate_left
                   ·go_simp
                    rfl
                   refine hK.out _ _ ?_
                   clear hK K
                   refine done_ (done_of HT_.out (by kernel_rfl)) ?_
                   try go_wp2
                   go_roundg k4
                   case measure => have := HJ4.out; have := HJ15.out; have := HK3.out; have := HK4.out; omega
                   case rel => exact ⟨(true), (wrap64 (x13_4 + 1)), (y176), (.slice Ao85 y176.length co85), (by first | rfl | (simp; done) | (simp [*]; done)), (by first | rfl | (simp; done) | (simp [*]; done)), H', ⟨by have := HJ4.out; have := HJ15.out; have := HK3.out; have := HK4.out; omega⟩, ⟨by (with_reducible repeat (first | apply Yy | apply Yx | apply Yz)); exact YG (Kd.V_far (p := ⟨gb165, 1, none⟩) (YG HO_161001.out (fun k_ hk => (⟨hk, hk.1.2.2.2.2⟩ : _ ∧ k_ ≠ gb165))) (fun _ hk => hk.2) (.slice Ao85 y176.length co85)) (fun _ hk => ⟨hk.1.1.1, ⟨hk.1.2, ⟨hk.1.1.2.1, ⟨hk.1.1.2.2.1, ⟨hk.1.1.2.2.2.1, hk.1.1.2.2.2.2⟩⟩⟩⟩⟩)⟩, ⟨by (with_reducible repeat (first | apply Ys | apply Yr | apply Yt)); exact Yv (Yw (p := ⟨gb165, 1, none⟩) (Yu HO178.out BK165.out (by decide)) (fun _ hk => hk.2) (.slice Ao85 y176.length co85)) (fun _ hk => ⟨hk.1.1, hk.1.2⟩)⟩, ⟨by (with_reducible repeat (first | refine Yd ?_ _ | refine Yf ?_ | refine Ye ?_ _)); refine YH ?_ NB160_165.out _; (with_reducible repeat (first | refine Yd ?_ _ | refine Yf ?_ | refine Ye ?_ _)); exact BK160.out⟩, ⟨by (with_reducible repeat (first | refine Yd ?_ _ | refine Yf ?_ | refine Ye ?_ _)); refine YH ?_ NB161_165.out _; (with_reducible repeat (first | refine Yd ?_ _ | refine Yf ?_ | refine Ye ?_ _)); exact BK161.out⟩, ⟨by (with_reducible repeat (first | refine Yd ?_ _ | refine Yf ?_ | refine Ye ?_ _)); refine YH ?_ NB164_165.out _; (with_reducible repeat (first | refine Yd ?_ _ | refine Yf ?_ | refine Ye ?_ _)); exact BK164.out⟩, ⟨by (with_reducible repeat (first | refine Yd ?_ _ | refine Yf ?_ | refine Ye ?_ _)); refine blk_put (cs := #[.int .i64 qa, .slice Ao80 y172.length co80]) ?_ 1 _ rfl; (with_reducible repeat (first | refine Yd ?_ _ | refine Yf ?_ | refine Ye ?_ _)); exact BK165.out⟩, ⟨by repeat (first | (with_reducible first | exact HB.out | apply Yc | apply Ya | apply Yb | refine Yg ?_ GE160.out | refine Yg ?_ GE161.out | refine Yg ?_ GE164.out | refine Yg ?_ GE165.out) | exact HB.out)⟩⟩
                  ·rw [if_neg c67] at H
                   exact absurd H (by simp)
                 ·rw [if_neg c66] at H
                  exact absurd H (by simp)
               ·replace c53 := Bool.eq_false_iff.mpr c53
                subst c53
                have H1 : (if x166001_4.length < 8796093022208 then (mooringsref10_Add.l1 k4 x12_4 (wrap64 (x13_4 + 1)) qa ql a1 a2 qa (x166001_4 ++ [(⟨(rd_T33 ql x13_4).f0, (rd_T33 ql x13_4).f1⟩ : S33)])) else (none)) = some (r1, r2, r3) := by rw [if_neg (show ¬ (false = true) by decide)] at H; exact H
                clear H
                have H := H1
                clear H1
                by_cases c87 : x166001_4.length < 8796093022208
                ·rw [if_pos c87] at H
                 have LMc87 := Ym c87
                 clear c87
                 obtain ⟨y180, hy180⟩ : ∃ y_ : List (S33), y_ = (x166001_4 ++ [(⟨(rd_T33 ql x13_4).f0, (rd_T33 ql x13_4).f1⟩ : S33)]) := ⟨_, rfl⟩
                 replace H : (mooringsref10_Add.l1 k4 x12_4 (wrap64 (x13_4 + 1)) qa ql a1 a2 qa y180) = some (r1, r2, r3) := by first | (rw [hy180]; with_reducible exact H) | (have H2_ := (Option.bind_some _ _).symm.trans H; rw [hy180]; with_reducible exact H2_) | (have H2_ := (Option.bind_some _ _).symm.trans H; with_reducible exact H2_) | with_reducible exact H | (rw [hy180]; exact H) | exact H
                 have Ny180 := Ym hy180
                 clear hy180
                 have H' := Ym H
                 clear H
                 have hnb88 := NB160_161.out
                 have hnc88 := NB161_160.out
                 have hnb89 := NB160_164.out
                 have hnc89 := NB164_160.out
                 have hnb90 := NB160_165.out
                 have hnc90 := NB165_160.out
                 have hcz91_0 : wr.cell? ⟨gb160, 0, none⟩ = some (.int .i64 qa) := (Yh BK160.out 0).trans rfl
                 have hcz91_1 : wr.cell? ⟨gb160, 1, none⟩ = some (.slice qA ql.length qc) := (Yh BK160.out 1).trans rfl
                 have hfz91_0 := Yi BK160.out 0
                 have hfz91_1 := Yi BK160.out 1
                 try go_wp2
                 have n0_ := Ym (Yz HO_161001.out)
                 have n1_ := Ym (Yt HO_166001.out)
                 have n2_ := Ym (Yf BK160.out)
                 have n3_ := Ym (Yf BK161.out)
                 have n4_ := Ym (Yf BK164.out)
                 have n5_ := Ym (Yf BK165.out)
                 have n6_ := Ym (Yb HB.out)
                 clear HO_161001
                 clear HO_166001
                 clear BK160
                 clear BK161
                 clear BK164
                 clear BK165
                 clear HB
                 have HO_161001 := n0_
                 have HO_166001 := n1_
                 have BK160 := n2_
                 have BK161 := n3_
                 have BK164 := n4_
                 have BK165 := n5_
                 have HB := n6_
                 clear n0_ n1_ n2_ n3_ n4_ n5_ n6_
                 have p166 : 0 ≤ (x13_4 : Int) := YF (by first | (with_reducible assumption) | assumption)
                 have q166 : x13_4 < (ql.length : Int) := YF (by first | (with_reducible assumption) | assumption)
                 obtain ⟨ad166, e166, hx166_0, hx166_1⟩ := at_T33 (Kd.V_reads' HO_161001.out).2.2 x13_4 p166 q166
                 cases e166
                 replace p166 := eq_true p166
                 replace q166 := eq_true q166
                 refine start_ (n := 8) (S := fun w' => w'.cell? ⟨gb164, 0, none⟩ = some (.int .i64 a1) ∧ w'.cell? ⟨gb164, 1, none⟩ = some (.int .i64 a2) ∧ w'.cell? ⟨gb160, 0, none⟩ = some (.int .i64 qa) ∧ w'.cell? ⟨gb160, 1, none⟩ = some (.slice (some ad166) ql.length qc) ∧ w'.cell? (ad166.add ((x13_4).toNat * 2)) = some (.int .i64 ((rd_T33 ql x13_4).f0)) ∧ w'.cell? ⟨(ad166.add ((x13_4).toNat * 2)).block, (ad166.add ((x13_4).toNat * 2)).off + 1, none⟩ = some (.int .i64 ((rd_T33 ql x13_4).f1))) (ds := []) #[false, false, false, false, false, false, false, false] (by kernel_rfl) rfl rfl ⟨(Yh BK164.out 0).trans rfl, (Yh BK164.out 1).trans rfl, (Yh BK160.out 0).trans rfl, (Yh BK160.out 1).trans rfl, hx166_0, hx166_1⟩ (fun hHeld => ?_); refine with_tabW mooringsref10_Add.tab19 mooringsref10_Add.bits19 (fun HT_ HW_ => ?_)
                 generalize wr.drew = w92 at HO_161001 HO_166001 BK160 BK161 BK164 BK165 HB hx166_0 hx166_1 hHeld ⊢
                 refine pure_ (i := 1) (N := some 68) (v := ?_) (a' := ?_) #[false, true, false, false, false, false, false, false] rfl rfl (any_of HT_.out (by kernel_rfl)) (fun _ _ _ h => h) (Or.inl ⟨by rfl, ?_⟩) ?_ ?_
                 rotate_left
                 ·intro w'
                  go_simp
                  with_reducible rfl
                 rotate_left
                 ·simp only [Act.put, Yo, Yp, Yq, i64_w, i32_w]
                  rfl
                 refine pure_ (i := 3) (N := some 70) (v := ?_) (a' := ?_) #[false, true, false, true, false, false, false, false] rfl rfl (any_of HT_.out (by kernel_rfl)) (fun _ _ _ h => h) (Or.inl ⟨by rfl, ?_⟩) ?_ ?_
                 rotate_left
                 ·intro w'
                  go_simp
                  with_reducible rfl
                 rotate_left
                 ·simp only [Act.put, Yo, Yp, Yq, i64_w, i32_w]
                  rfl
                 refine take_ (i := 0) (N := some 67) (v := ?_) (a' := ?_) #[true, true, false, true, false, false, false, false] rfl rfl (take_ofW HT_.out HW_.out (by kernel_rfl)) (fun _ _ _ h => h) (Or.inl ⟨by rfl, ?_⟩) hHeld ?_ ?_
                 rotate_left
                 ·rintro w' ⟨s0, s1, s2, s3, s4, s5⟩
                  go_simp
                  with_reducible rfl
                 rotate_left
                 ·simp only [Act.put, Yo, Yp, Yq, i64_w, i32_w]
                  rfl
                 refine take_ (i := 2) (N := some 69) (v := ?_) (a' := ?_) #[true, true, true, true, false, false, false, false] rfl rfl (take_ofW HT_.out HW_.out (by kernel_rfl)) (fun _ _ _ h => h) (Or.inl ⟨by rfl, ?_⟩) hHeld ?_ ?_
                 rotate_left
                 ·rintro w' ⟨s0, s1, s2, s3, s4, s5⟩
                  go_simp
                  with_reducible rfl
                 rotate_left
                 ·simp only [Act.put, Yo, Yp, Yq, i64_w, i32_w]
                  rfl
                 refine pure_ (i := 4) (N := some 71) (v := ?_) (a' := ?_) #[true, true, true, true, true, false, false, false] rfl rfl (any_of HT_.out (by kernel_rfl)) (fun _ _ _ h => h) (Or.inl ⟨by rfl, ?_⟩) ?_ ?_
                 rotate_left
                 ·intro w'
                  go_simp
                  with_reducible rfl
                 rotate_left
                 ·simp only [Act.put, Yo, Yp, Yq, i64_w, i32_w]
                  rfl
                 refine take_ (i := 5) (N := some 72) (v := ?_) (a' := ?_) #[true, true, true, true, true, true, false, false] rfl rfl (take_ofW HT_.out HW_.out (by kernel_rfl)) (fun _ _ _ h => h) (Or.inl ⟨by rfl, ?_⟩) hHeld ?_ ?_
                 rotate_left
                 ·rintro w' ⟨s0, s1, s2, s3, s4, s5⟩
                  go_simp
                  with_reducible rfl
                 rotate_left
                 ·simp only [Act.put, Yo, Yp, Yq, i64_w, i32_w]
                  rfl
                 refine one_ (i := 6) (N := some 73) #[true, true, true, true, true, true, true, false] rfl rfl (one_of HT_.out (by kernel_rfl)) (by decide) (fun K hK => ?_)
                 refine goes_ Try.func33 (by kernel_rfl) rfl #[.agg #[.int .i64 a1, .int .i64 a2], .agg #[.int .i64 ((rd_T33 ql x13_4).f0), .int .i64 ((rd_T33 ql x13_4).f1)]] (by rfl) rfl rfl (by (try simp only [List.map_toArray, List.map_cons, List.map_nil]); first | done | rfl | (simp only [List.length_drop, List.length_take]; rfl)) ?_
                 with_reducible refine (mooringsref10_before.calls a1 a2 ((rd_T33 ql x13_4).f0) ((rd_T33 ql x13_4).f1) false _ A52.out).mono ?_
                 rintro e w93 ⟨rfl, hb⟩
                 have HS4_ := (hb.cell (YC _ _ (hHeld.2.2.2.2.1))).trans (hHeld.2.2.2.2.1)
                 have HS5_ := (hb.cell (YC _ _ (hHeld.2.2.2.2.2))).trans (hHeld.2.2.2.2.2)
                 refine ⟨_, rfl, ?_⟩
                 have n0_ := Ym (Kd.V_below (by (with_reducible repeat (first | apply Yy | apply Yx | apply Yz)); exact HO_161001.out) hb)
                 have n1_ := Ym (YA (by (with_reducible repeat (first | apply Ys | apply Yr | apply Yt)); exact HO_166001.out) hb)
                 have n2_ := Ym (Yl (g := gb160) (o := .cells #[.int .i64 qa, .slice (some ad166) ql.length qc] 24 (0, 0)) (by (with_reducible repeat (first | refine Yd ?_ _ | refine Yf ?_ | refine Ye ?_ _)); exact BK160.out) hb)
                 have n3_ := Ym (Yl (g := gb161) (o := .cells #[.int .i64 x162000_3, .slice none 0 0] 24 (0, 0)) (by (with_reducible repeat (first | refine Yd ?_ _ | refine Yf ?_ | refine Ye ?_ _)); exact BK161.out) hb)
                 have n4_ := Ym (Yl (g := gb164) (o := .cells #[.int .i64 a1, .int .i64 a2] 33 (0, 0)) (by (with_reducible repeat (first | refine Yd ?_ _ | refine Yf ?_ | refine Ye ?_ _)); exact BK164.out) hb)
                 have n5_ := Ym (Yl (g := gb165) (o := .cells #[.int .i64 qa, u166001] 24 (0, 0)) (by (with_reducible repeat (first | refine Yd ?_ _ | refine Yf ?_ | refine Ye ?_ _)); exact BK165.out) hb)
                 have n6_ := Ym (Yj (by repeat (first | (with_reducible first | exact HB.out | apply Yc | apply Ya | apply Yb | refine Yg ?_ GE160.out | refine Yg ?_ GE161.out | refine Yg ?_ GE164.out | refine Yg ?_ GE165.out) | exact HB.out)) hb)
                 clear HO_161001
                 clear HO_166001
                 clear BK160
                 clear BK161
                 clear BK164
                 clear BK165
                 clear HB
                 have HO_161001 := n0_
                 have HO_166001 := n1_
                 have BK160 := n2_
                 have BK161 := n3_
                 have BK164 := n4_
                 have BK165 := n5_
                 have HB := n6_
                 clear n0_ n1_ n2_ n3_ n4_ n5_ n6_
                 (try clear hb)
                 (try clear hb2)
                 (try clear hk)
                 (try clear hi)
                 refine hK.out _ _ ⟨(Yh BK164.out 0).trans rfl, (Yh BK164.out 1).trans rfl, (Yh BK160.out 0).trans rfl, (Yh BK160.out 1).trans rfl, HS4_, HS5_⟩ (fun hHeld => ?_)
                 clear hK K
                 refine norm_ (a' := ?_) ?_ ?_
                 rotate_left
                 ·show Act.put _ (some 73) _ = _
                  simp only [Act.put, Yo, Yp, Yq, i64_w, i32_w]
                  rfl
                 refine pure_ (i := 7) (N := some 14) (v := ?_) (a' := ?_) #[true, true, true, true, true, true, true, true] rfl rfl (any_of HT_.out (by kernel_rfl)) (fun _ _ _ h => h) (Or.inl ⟨by rfl, ?_⟩) ?_ ?_
                 rotate_left
                 ·intro w'
                  go_simp
                  with_reducible rfl
                 rotate_left
                 ·simp only [Act.put, Yo, Yp, Yq, i64_w, i32_w]
                  rfl
                 refine done_ (done_of HT_.out (by kernel_rfl)) ?_
                 try go_wp2
                 have n0_ := Ym (Yz HO_161001.out)
                 have n1_ := Ym (Yt HO_166001.out)
                 have n2_ := Ym (Yf BK160.out)
                 have n3_ := Ym (Yf BK161.out)
                 have n4_ := Ym (Yf BK164.out)
                 have n5_ := Ym (Yf BK165.out)
                 have n6_ := Ym (Yb HB.out)
                 clear HO_161001
                 clear HO_166001
                 clear BK160
                 clear BK161
                 clear BK164
                 clear BK165
                 clear HB
                 have HO_161001 := n0_
                 have HO_166001 := n1_
                 have BK160 := n2_
                 have BK161 := n3_
                 have BK164 := n4_
                 have BK165 := n5_
                 have HB := n6_
                 clear n0_ n1_ n2_ n3_ n4_ n5_ n6_
                 have p179 : 0 ≤ (x13_4 : Int) := YF (by first | (with_reducible assumption) | assumption)
                 have q179 : x13_4 < (ql.length : Int) := YF (by first | (with_reducible assumption) | assumption)
                 obtain ⟨ad179, e179, hx179_0, hx179_1⟩ := at_T33 (Kd.V_reads' HO_161001.out).2.2 x13_4 p179 q179
                 obtain rfl : ad166 = ad179 := (by injection e179)
                 replace p179 := eq_true p179
                 replace q179 := eq_true q179
                 refine start_ (n := 11) (S := fun w' => w'.cell? ⟨gb165, 0, none⟩ = some (.int .i64 qa) ∧ w'.cell? ⟨gb165, 1, none⟩ = some (u166001) ∧ w'.cell? ⟨gb160, 0, none⟩ = some (.int .i64 qa) ∧ w'.cell? ⟨gb160, 1, none⟩ = some (.slice (some ad166) ql.length qc) ∧ w'.cell? (ad166.add ((x13_4).toNat * 2)) = some (.int .i64 ((rd_T33 ql x13_4).f0)) ∧ w'.cell? ⟨(ad166.add ((x13_4).toNat * 2)).block, (ad166.add ((x13_4).toNat * 2)).off + 1, none⟩ = some (.int .i64 ((rd_T33 ql x13_4).f1))) (ds := [8, 10]) #[false, false, false, false, false, false, false, false, false, false, false] (by kernel_rfl) rfl rfl ⟨(Yh BK165.out 0).trans rfl, (Yh BK165.out 1).trans rfl, (Yh BK160.out 0).trans rfl, (Yh BK160.out 1).trans rfl, hx179_0, hx179_1⟩ (fun hHeld => ?_); refine with_tabW mooringsref10_Add.tab23 mooringsref10_Add.bits23 (fun HT_ HW_ => ?_)
                 generalize w93.drew = w94 at HO_161001 HO_166001 BK160 BK161 BK164 BK165 HB hx179_0 hx179_1 hHeld ⊢
                 refine pure_ (i := 0) (N := some 85) (v := ?_) (a' := ?_) #[true, false, false, false, false, false, false, false, false, false, false] rfl rfl (any_of HT_.out (by kernel_rfl)) (fun _ _ _ h => h) (Or.inl ⟨by rfl, ?_⟩) ?_ ?_
                 rotate_left
                 ·intro w'
                  go_simp
                  with_reducible rfl
                 rotate_left
                 ·simp only [Act.put, Yo, Yp, Yq, i64_w, i32_w]
                  rfl
                 refine pure_ (i := 2) (N := some 87) (v := ?_) (a' := ?_) #[true, false, true, false, false, false, false, false, false, false, false] rfl rfl (any_of HT_.out (by kernel_rfl)) (fun _ _ _ h => h) (Or.inl ⟨by rfl, ?_⟩) ?_ ?_
                 rotate_left
                 ·intro w'
                  go_simp
                  with_reducible rfl
                 rotate_left
                 ·simp only [Act.put, Yo, Yp, Yq, i64_w, i32_w]
                  rfl
                 refine pure_ (i := 4) (N := some 89) (v := ?_) (a' := ?_) #[true, false, true, false, true, false, false, false, false, false, false] rfl rfl (any_of HT_.out (by kernel_rfl)) (fun _ _ _ h => h) (Or.inl ⟨by rfl, ?_⟩) ?_ ?_
                 rotate_left
                 ·intro w'
                  go_simp
                  with_reducible rfl
                 rotate_left
                 ·simp only [Act.put, Yo, Yp, Yq, i64_w, i32_w]
                  rfl
                 refine take_ (i := 1) (N := some 86) (v := ?_) (a' := ?_) #[true, true, true, false, true, false, false, false, false, false, false] rfl rfl (take_ofW HT_.out HW_.out (by kernel_rfl)) (fun _ _ _ h => h) (Or.inl ⟨by rfl, ?_⟩) hHeld ?_ ?_
                 rotate_left
                 ·rintro w' ⟨s0, s1, s2, s3, s4, s5⟩
                  go_simp
                  with_reducible rfl
                 rotate_left
                 ·simp only [Act.put, Yo, Yp, Yq, i64_w, i32_w]
                  rfl
                 refine take_ (i := 3) (N := some 88) (v := ?_) (a' := ?_) #[true, true, true, true, true, false, false, false, false, false, false] rfl rfl (take_ofW HT_.out HW_.out (by kernel_rfl)) (fun _ _ _ h => h) (Or.inl ⟨by rfl, ?_⟩) hHeld ?_ ?_
                 rotate_left
                 ·rintro w' ⟨s0, s1, s2, s3, s4, s5⟩
                  go_simp
                  with_reducible rfl
                 rotate_left
                 ·simp only [Act.put, Yo, Yp, Yq, i64_w, i32_w]
                  rfl
                 refine pure_ (i := 5) (N := some 90) (v := ?_) (a' := ?_) #[true, true, true, true, true, true, false, false, false, false, false] rfl rfl (any_of HT_.out (by kernel_rfl)) (fun _ _ _ h => h) (Or.inl ⟨by rfl, ?_⟩) ?_ ?_
                 rotate_left
                 ·intro w'
                  go_simp
                  with_reducible rfl
                 rotate_left
                 ·simp only [Act.put, Yo, Yp, Yq, i64_w, i32_w]
                  rfl
                 refine take_ (i := 6) (N := some 91) (v := ?_) (a' := ?_) #[true, true, true, true, true, true, true, false, false, false, false] rfl rfl (take_ofW HT_.out HW_.out (by kernel_rfl)) (fun _ _ _ h => h) (Or.inl ⟨by rfl, ?_⟩) hHeld ?_ ?_
                 rotate_left
                 ·rintro w' ⟨s0, s1, s2, s3, s4, s5⟩
                  go_simp
                  with_reducible rfl
                 rotate_left
                 ·simp only [Act.put, Yo, Yp, Yq, i64_w, i32_w]
                  rfl
                 refine one_ (i := 7) (N := some 92) #[true, true, true, true, true, true, true, true, false, false, false] rfl rfl (one_of HT_.out (by kernel_rfl)) (by decide) (fun K hK => ?_)
                 refine value_ (w1 := ?_) (v := ?_) (by rfl) rfl ?_ ?_
                 rotate_left 2
                 ·go_simp
                  constructor
                  ·rfl
                  ·rfl
                 refine hK.out _ _ ⟨(Yh (Ye BK165.out _) 0).trans rfl, (Yh (Ye BK165.out _) 1).trans rfl, (Yh (Ye BK160.out _) 0).trans rfl, (Yh (Ye BK160.out _) 1).trans rfl, (World.cell?_alloc_lt _ _ _ (YC _ _ (hHeld.2.2.2.2.1))).trans (hHeld.2.2.2.2.1), (World.cell?_alloc_lt _ _ _ (YC _ _ (hHeld.2.2.2.2.2))).trans (hHeld.2.2.2.2.2)⟩ (fun hHeld => ?_)
                 clear hK K
                 refine norm_ (a' := ?_) ?_ ?_
                 rotate_left
                 ·show Act.put _ (some 92) _ = _
                  simp only [Act.put, Yo, Yp, Yq, i64_w, i32_w]
                  rfl
                 refine last_ (i := 8) (N := some 93) #[true, true, true, true, true, true, true, true, true, false, false] rfl rfl (one_of HT_.out (by kernel_rfl)) (by decide) (fun K hK => ?_)
                 refine Kd.R_append_step k33 (w0 := w) w.heap.size (by rfl) (.tmp 86) (.tmp 92) 22 33 (.agg #[(.int .i64 0), (.int .i64 0)]) 16 rfl Try.underlying22 info33 rfl (by decide) (by omega) u166001 x166001_4 (⟨(rd_T33 ql x13_4).f0, (rd_T33 ql x13_4).f1⟩ : S33) [.int .i64 ((rd_T33 ql x13_4).f0), .int .i64 ((rd_T33 ql x13_4).f1)] (fun k_ => (w.heap.size ≤ k_) ∧ k_ ≠ gb164) (fun _ => False) rfl rfl ?aP (fun _ hk => hk.elim) ?aF ?aO ?aB ?aS ?aL ?_
                 (case aP => exact k33_mkM _ _ _ (⟨(rd_T33 ql x13_4).f0, (rd_T33 ql x13_4).f1⟩ : S33))
                 (case aB => exact (by repeat (first | (with_reducible first | exact HB.out | apply Yc | apply Ya | apply Yb | refine Yg ?_ GE160.out | refine Yg ?_ GE161.out | refine Yg ?_ GE164.out | refine Yg ?_ GE165.out) | exact HB.out)))
                 (case aF => exact (fun k_ hk => ⟨(Nat.le_trans (Yk (by repeat (first | (with_reducible first | exact HB.out | apply Yc | apply Ya | apply Yb | refine Yg ?_ GE160.out | refine Yg ?_ GE161.out | refine Yg ?_ GE164.out | refine Yg ?_ GE165.out) | exact HB.out))) hk), Kd.freshB (g := gb164) (o := .cells #[.int .i64 a1, .int .i64 a2] 33 (0, 0)) (by (with_reducible repeat (first | refine Yd ?_ _ | refine Yf ?_ | refine Ye ?_ _)); exact BK164.out) k_ hk⟩))
                 (case aO => exact (by (with_reducible repeat (first | apply Ys | apply Yr | apply Yt)); exact HO_166001.out))
                 (case aS => exact (Yk (by repeat (first | (with_reducible first | exact HB.out | apply Yc | apply Ya | apply Yb | refine Yg ?_ GE160.out | refine Yg ?_ GE161.out | refine Yg ?_ GE164.out | refine Yg ?_ GE165.out) | exact HB.out))))
                 (case aL => have := LMc87.out; omega)
                 intro v181 w95 ho hb hg hat
                 rw [← Ny180.out] at ho
                 have n0_ := Ym (Kd.V_afterv (ok := (fun k_ => (P0_1_ k_ ∨ w.heap.size ≤ k_) ∧ k_ ≠ gb160 ∧ k_ ≠ gb161 ∧ k_ ≠ gb164 ∧ k_ ≠ gb165)) (by (with_reducible repeat (first | apply Yy | apply Yx | apply Yz)); exact YG HO_161001.out (fun _ hk => ⟨⟨hk.1, ⟨hk.2.2.1, ⟨hk.2.2.2.1, ⟨hk.2.2.2.2.1, hk.2.2.2.2.2⟩⟩⟩⟩, hk.2.1⟩)) hg hat)
                 have n1_ := Ym (blk_grown (g := gb160) (o := .cells #[.int .i64 qa, .slice (some ad166) ql.length qc] 24 (0, 0)) (by (with_reducible repeat (first | refine Yd ?_ _ | refine Yf ?_ | refine Ye ?_ _)); exact BK160.out) hg (Kd.R_ne HO_166001.out BK160.out (by decide)))
                 have n2_ := Ym (blk_grown (g := gb161) (o := .cells #[.int .i64 x162000_3, .slice none 0 0] 24 (0, 0)) (by (with_reducible repeat (first | refine Yd ?_ _ | refine Yf ?_ | refine Ye ?_ _)); exact BK161.out) hg (Kd.R_ne HO_166001.out BK161.out (by decide)))
                 have n3_ := Ym (blk_grown (g := gb164) (o := .cells #[.int .i64 a1, .int .i64 a2] 33 (0, 0)) (by (with_reducible repeat (first | refine Yd ?_ _ | refine Yf ?_ | refine Ye ?_ _)); exact BK164.out) hg (Kd.R_away HO_166001.out (fun _ hk => hk.2)))
                 have n4_ := Ym (blk_grown (g := gb165) (o := .cells #[.int .i64 qa, u166001] 24 (0, 0)) (by (with_reducible repeat (first | refine Yd ?_ _ | refine Yf ?_ | refine Ye ?_ _)); exact BK165.out) hg (Kd.R_ne HO_166001.out BK165.out (by decide)))
                 have n5_ := Ym (hb)
                 have n6_ := Ym (ho)
                 clear HO_161001
                 clear BK160
                 clear BK161
                 clear BK164
                 clear BK165
                 clear HB
                 clear HO_166001
                 have HO_161001 := n0_
                 have BK160 := n1_
                 have BK161 := n2_
                 have BK164 := n3_
                 have BK165 := n4_
                 have HB := n5_
                 have HO182 := n6_
                 clear n0_ n1_ n2_ n3_ n4_ n5_ n6_
                 clear ho hb hg hat
                 obtain ⟨Ao96, co96, eo96⟩ := Kd.R_slice HO182.out
                 (first | subst eo96 | (injection eo96 with f1_ f2_ f3_; have f4_ := f1_.symm; have f5_ := f3_.symm; clear f1_ f2_ f3_; subst f4_; subst f5_))
                 refine hK.out _ _ ?_
                 clear hK K
                 refine norm_ (a' := ?_) ?_ ?_
                 rotate_left
                 ·show Act.put _ (some 93) _ = _
                  simp only [Act.put, Yo, Yp, Yq, i64_w, i32_w]
                  rfl
                 refine pure_ (i := 9) (N := some 94) (v := ?_) (a' := ?_) #[true, true, true, true, true, true, true, true, true, true, false] rfl rfl (any_of HT_.out (by kernel_rfl)) (fun _ _ _ h => h) (Or.inl ⟨by rfl, ?_⟩) ?_ ?_
                 rotate_left
                 ·intro w'
                  go_simp
                  with_reducible rfl
                 rotate_left
                 ·simp only [Act.put, Yo, Yp, Yq, i64_w, i32_w]
                  rfl
                 refine last_ (i := 10) (N := none) #[true, true, true, true, true, true, true, true, true, true, true] rfl rfl (one_of HT_.out (by kernel_rfl)) (by decide) (fun K hK => ?_)
                 have hs97 : w95.cell? ⟨gb165, 1, none⟩ = some (u166001) := (Yh BK165.out 1).trans rfl
                 have hfs97 := Yi BK165.out 1
                 have hns97_0 := NB160_165.out
                 have hns97_1 := NB161_165.out
                 have hns97_2 := NB164_165.out
                 have hms97_0 := NB165_160.out
                 have hms97_1 := NB165_161.out
                 have hms97_2 := NB165_164.out
                 refine skip_ (w1 := ?_) (by rfl) rfl ?_ ?_
                 rotate_left
                 ·go_simp
                  rfl
                 refine hK.out _ _ ?_
                 clear hK K
                 refine done_ (done_of HT_.out (by kernel_rfl)) ?_
                 try go_wp2
                 go_roundg k4
                 case measure => have := HJ4.out; have := HJ15.out; have := HK3.out; have := HK4.out; omega
                 case rel => exact ⟨(x12_4), (wrap64 (x13_4 + 1)), (y180), (.slice Ao96 y180.length co96), (by first | rfl | (simp; done) | (simp [*]; done)), (by first | rfl | (simp; done) | (simp [*]; done)), H', ⟨by have := HJ4.out; have := HJ15.out; have := HK3.out; have := HK4.out; omega⟩, ⟨by (with_reducible repeat (first | apply Yy | apply Yx | apply Yz)); exact YG (Kd.V_far (p := ⟨gb165, 1, none⟩) (YG HO_161001.out (fun k_ hk => (⟨hk, hk.1.2.2.2.2⟩ : _ ∧ k_ ≠ gb165))) (fun _ hk => hk.2) (.slice Ao96 y180.length co96)) (fun _ hk => ⟨hk.1.1.1, ⟨hk.1.2, ⟨hk.1.1.2.1, ⟨hk.1.1.2.2.1, ⟨hk.1.1.2.2.2.1, hk.1.1.2.2.2.2⟩⟩⟩⟩⟩)⟩, ⟨by (with_reducible repeat (first | apply Ys | apply Yr | apply Yt)); exact Yv (Yw (p := ⟨gb165, 1, none⟩) (Yu HO182.out BK165.out (by decide)) (fun _ hk => hk.2) (.slice Ao96 y180.length co96)) (fun _ hk => ⟨hk.1.1, hk.1.2⟩)⟩, ⟨by (with_reducible repeat (first | refine Yd ?_ _ | refine Yf ?_ | refine Ye ?_ _)); refine YH ?_ NB160_165.out _; (with_reducible repeat (first | refine Yd ?_ _ | refine Yf ?_ | refine Ye ?_ _)); exact BK160.out⟩, ⟨by (with_reducible repeat (first | refine Yd ?_ _ | refine Yf ?_ | refine Ye ?_ _)); refine YH ?_ NB161_165.out _; (with_reducible repeat (first | refine Yd ?_ _ | refine Yf ?_ | refine Ye ?_ _)); exact BK161.out⟩, ⟨by (with_reducible repeat (first | refine Yd ?_ _ | refine Yf ?_ | refine Ye ?_ _)); refine YH ?_ NB164_165.out _; (with_reducible repeat (first | refine Yd ?_ _ | refine Yf ?_ | refine Ye ?_ _)); exact BK164.out⟩, ⟨by (with_reducible repeat (first | refine Yd ?_ _ | refine Yf ?_ | refine Ye ?_ _)); refine blk_put (cs := #[.int .i64 qa, u166001]) ?_ 1 _ rfl; (with_reducible repeat (first | refine Yd ?_ _ | refine Yf ?_ | refine Ye ?_ _)); exact BK165.out⟩, ⟨by repeat (first | (with_reducible first | exact HB.out | apply Yc | apply Ya | apply Yb | refine Yg ?_ GE160.out | refine Yg ?_ GE161.out | refine Yg ?_ GE164.out | refine Yg ?_ GE165.out) | exact HB.out)⟩⟩
                ·rw [if_neg c87] at H
                 exact absurd H (by simp)
              ·rw [if_neg c51] at H
               exact absurd H (by simp)
             ·rw [if_neg c50] at H
              have c50b0 : decide (x13_4 < (ql.length : Int)) = false := decide_eq_false c50
              clear c50
              by_cases c98 : x12_4 = true
              ·subst c98
               have H1 : (some (qa, x166001_4, 0)) = some (r1, r2, r3) := by rw [if_pos rfl] at H; exact H
               clear H
               have H := H1
               clear H1
               simp only [Option.some.injEq, Prod.mk.injEq] at H
               obtain ⟨rfl, rfl, rfl⟩ := H
               have hnb99 := NB160_161.out
               have hnc99 := NB161_160.out
               have hnb100 := NB160_164.out
               have hnc100 := NB164_160.out
               have hnb101 := NB160_165.out
               have hnc101 := NB165_160.out
               have hcz102_0 : wr.cell? ⟨gb160, 0, none⟩ = some (.int .i64 qa) := (Yh BK160.out 0).trans rfl
               have hcz102_1 : wr.cell? ⟨gb160, 1, none⟩ = some (.slice qA ql.length qc) := (Yh BK160.out 1).trans rfl
               have hfz102_0 := Yi BK160.out 0
               have hfz102_1 := Yi BK160.out 1
               have hnb103 := NB165_161.out
               have hnc103 := NB161_165.out
               have hnb104 := NB165_164.out
               have hnc104 := NB164_165.out
               have hcz105_0 : wr.cell? ⟨gb165, 0, none⟩ = some (.int .i64 qa) := (Yh BK165.out 0).trans rfl
               have hcz105_1 : wr.cell? ⟨gb165, 1, none⟩ = some (u166001) := (Yh BK165.out 1).trans rfl
               have hfz105_0 := Yi BK165.out 0
               have hfz105_1 := Yi BK165.out 1
               have hnb106 := NB161_164.out
               have hnc106 := NB164_161.out
               have hcz107_0 : wr.cell? ⟨gb161, 0, none⟩ = some (.int .i64 x162000_3) := (Yh BK161.out 0).trans rfl
               have hcz107_1 : wr.cell? ⟨gb161, 1, none⟩ = some (.slice none 0 0) := (Yh BK161.out 1).trans rfl
               have hfz107_0 := Yi BK161.out 0
               have hfz107_1 := Yi BK161.out 1
               obtain ⟨Ao108, co108, eo108⟩ := Kd.R_slice HO_166001.out
               subst eo108
               go_wp2
               refine bodyPost_ret (results_ct rfl _ _ gb161 24 #[.int .i64 qa, .slice Ao108 x166001_4.length co108] (0, 0) _ rfl (by (with_reducible repeat (first | refine Yd ?_ _ | refine Yf ?_ | refine Ye ?_ _)); refine blk_put (cs := #[.int .i64 qa, .slice none 0 0]) ?_ 1 _ rfl; (with_reducible repeat (first | refine Yd ?_ _ | refine Yf ?_ | refine Ye ?_ _)); refine blk_put (cs := #[.int .i64 x162000_3, .slice none 0 0]) ?_ 0 _ rfl; (with_reducible repeat (first | refine Yd ?_ _ | refine Yf ?_ | refine Ye ?_ _)); exact BK161.out) Try.underlying24 rfl (by kernel_rfl)) rfl ?_
               exact ⟨_, by first | rfl | (simp [errW_none, errW_some] <;> rfl) | (simp [*, errW_none, errW_some] <;> rfl), YG (Kd.R_V (by (with_reducible repeat (first | apply Ys | apply Yr | apply Yt)); exact Yv (Yw (p := ⟨gb161, 1, none⟩) (Yw (p := ⟨gb161, 0, none⟩) (Yu HO_166001.out BK161.out (by decide)) (fun _ hk => hk.2) (.int .i64 qa)) (fun _ hk => hk.2) (.slice Ao108 x166001_4.length co108)) (fun _ hk => hk.1.1))) (fun k_ hk => by first | exact ⟨(.inr (hk.1)), hk.2⟩ | exact (.inr (hk))), by repeat (first | (with_reducible first | exact HB.out | apply Yc | apply Ya | apply Yb | refine Yg ?_ GE160.out | refine Yg ?_ GE161.out | refine Yg ?_ GE164.out | refine Yg ?_ GE165.out) | exact HB.out)⟩
              ·replace c98 := Bool.eq_false_iff.mpr c98
               subst c98
               have H1 : (if x166001_4.length < 8796093022208 then (some (qa, (x166001_4 ++ [(⟨a1, a2⟩ : S33)]), 0)) else (none)) = some (r1, r2, r3) := by rw [if_neg (show ¬ (false = true) by decide)] at H; exact H
               clear H
               have H := H1
               clear H1
               by_cases c109 : x166001_4.length < 8796093022208
               ·rw [if_pos c109] at H
                have LMc109 := Ym c109
                clear c109
                obtain ⟨y183, hy183⟩ : ∃ y_ : List (S33), y_ = (x166001_4 ++ [(⟨a1, a2⟩ : S33)]) := ⟨_, rfl⟩
                replace H : (some (qa, y183, 0)) = some (r1, r2, r3) := by first | (rw [hy183]; with_reducible exact H) | (have H2_ := (Option.bind_some _ _).symm.trans H; rw [hy183]; with_reducible exact H2_) | (have H2_ := (Option.bind_some _ _).symm.trans H; with_reducible exact H2_) | with_reducible exact H | (rw [hy183]; exact H) | exact H
                have Ny183 := Ym hy183
                clear hy183
                simp only [Option.some.injEq, Prod.mk.injEq] at H
                obtain ⟨rfl, rfl, rfl⟩ := H
                have hnb110 := NB160_161.out
                have hnc110 := NB161_160.out
                have hnb111 := NB160_164.out
                have hnc111 := NB164_160.out
                have hnb112 := NB160_165.out
                have hnc112 := NB165_160.out
                have hcz113_0 : wr.cell? ⟨gb160, 0, none⟩ = some (.int .i64 qa) := (Yh BK160.out 0).trans rfl
                have hcz113_1 : wr.cell? ⟨gb160, 1, none⟩ = some (.slice qA ql.length qc) := (Yh BK160.out 1).trans rfl
                have hfz113_0 := Yi BK160.out 0
                have hfz113_1 := Yi BK160.out 1
                have hnb114 := NB165_161.out
                have hnc114 := NB161_165.out
                have hnb115 := NB165_164.out
                have hnc115 := NB164_165.out
                have hcz116_0 : wr.cell? ⟨gb165, 0, none⟩ = some (.int .i64 qa) := (Yh BK165.out 0).trans rfl
                have hcz116_1 : wr.cell? ⟨gb165, 1, none⟩ = some (u166001) := (Yh BK165.out 1).trans rfl
                have hfz116_0 := Yi BK165.out 0
                have hfz116_1 := Yi BK165.out 1
                have hnb117 := NB164_161.out
                have hnc117 := NB161_164.out
                have hcz118_0 : wr.cell? ⟨gb164, 0, none⟩ = some (.int .i64 a1) := (Yh BK164.out 0).trans rfl
                have hcz118_1 : wr.cell? ⟨gb164, 1, none⟩ = some (.int .i64 a2) := (Yh BK164.out 1).trans rfl
                have hfz118_0 := Yi BK164.out 0
                have hfz118_1 := Yi BK164.out 1
                go_wp2_with (first | ((with_reducible refine gate_builtin (b := .append) (xs := #[.tmp 98, .tmp 100]) rfl ?_); at_builtin; refine Kd.R_append k33 (w0 := w) w.heap.size rfl (.tmp 98) (.tmp 100) 22 33 (.agg #[(.int .i64 0), (.int .i64 0)]) 16 rfl Try.underlying22 info33 rfl (by decide) (by omega) u166001 x166001_4 (⟨a1, a2⟩ : S33) [.int .i64 a1, .int .i64 a2] (fun k_ => (w.heap.size ≤ k_) ∧ k_ ≠ gb164) (fun _ => False) rfl rfl ?aP (fun _ hk => hk.elim) ?aF ?aO ?aB ?aS ?aL ?_; (case aP => exact k33_mkM _ _ _ (⟨a1, a2⟩ : S33)); (case aB => exact (by repeat (first | (with_reducible first | exact HB.out | apply Yc | apply Ya | apply Yb | refine Yg ?_ GE160.out | refine Yg ?_ GE161.out | refine Yg ?_ GE164.out | refine Yg ?_ GE165.out) | exact HB.out))); (case aF => exact (fun k_ hk => ⟨(Nat.le_trans (Yk (by repeat (first | (with_reducible first | exact HB.out | apply Yc | apply Ya | apply Yb | refine Yg ?_ GE160.out | refine Yg ?_ GE161.out | refine Yg ?_ GE164.out | refine Yg ?_ GE165.out) | exact HB.out))) hk), Kd.freshB (g := gb164) (o := .cells #[.int .i64 a1, .int .i64 a2] 33 (0, 0)) (by (with_reducible repeat (first | refine Yd ?_ _ | refine Yf ?_ | refine Ye ?_ _)); exact BK164.out) k_ hk⟩)); (case aO => exact (by (with_reducible repeat (first | apply Ys | apply Yr | apply Yt)); exact HO_166001.out)); (case aS => exact (Yk (by repeat (first | (with_reducible first | exact HB.out | apply Yc | apply Ya | apply Yb | refine Yg ?_ GE160.out | refine Yg ?_ GE161.out | refine Yg ?_ GE164.out | refine Yg ?_ GE165.out) | exact HB.out)))); (case aL => have := LMc109.out; omega); intro v184 w119 ho hb hg hat; rw [← Ny183.out] at ho; have n0_ := Ym (Kd.V_afterv (ok := (fun k_ => (P0_1_ k_ ∨ w.heap.size ≤ k_) ∧ k_ ≠ gb160 ∧ k_ ≠ gb161 ∧ k_ ≠ gb164 ∧ k_ ≠ gb165)) (by (with_reducible repeat (first | apply Yy | apply Yx | apply Yz)); exact YG HO_161001.out (fun _ hk => ⟨⟨hk.1, ⟨hk.2.2.1, ⟨hk.2.2.2.1, ⟨hk.2.2.2.2.1, hk.2.2.2.2.2⟩⟩⟩⟩, hk.2.1⟩)) hg hat); have n1_ := Ym (blk_grown (g := gb160) (o := .cells #[.int .i64 qa, .slice qA ql.length qc] 24 (0, 0)) (by (with_reducible repeat (first | refine Yd ?_ _ | refine Yf ?_ | refine Ye ?_ _)); exact BK160.out) hg (Kd.R_ne HO_166001.out BK160.out (by decide))); have n2_ := Ym (blk_grown (g := gb161) (o := .cells #[.int .i64 x162000_3, .slice none 0 0] 24 (0, 0)) (by (with_reducible repeat (first | refine Yd ?_ _ | refine Yf ?_ | refine Ye ?_ _)); exact BK161.out) hg (Kd.R_ne HO_166001.out BK161.out (by decide))); have n3_ := Ym (blk_grown (g := gb164) (o := .cells #[.int .i64 a1, .int .i64 a2] 33 (0, 0)) (by (with_reducible repeat (first | refine Yd ?_ _ | refine Yf ?_ | refine Ye ?_ _)); exact BK164.out) hg (Kd.R_away HO_166001.out (fun _ hk => hk.2))); have n4_ := Ym (blk_grown (g := gb165) (o := .cells #[.int .i64 qa, u166001] 24 (0, 0)) (by (with_reducible repeat (first | refine Yd ?_ _ | refine Yf ?_ | refine Ye ?_ _)); exact BK165.out) hg (Kd.R_ne HO_166001.out BK165.out (by decide))); have n5_ := Ym (hb); have n6_ := Ym (ho); clear HO_161001; clear BK160; clear BK161; clear BK164; clear BK165; clear HB; clear HO_166001; have HO_161001 := n0_; have BK160 := n1_; have BK161 := n2_; have BK164 := n3_; have BK165 := n4_; have HB := n5_; have HO185 := n6_; clear n0_ n1_ n2_ n3_ n4_ n5_ n6_; clear ho hb hg hat; obtain ⟨Ao120, co120, eo120⟩ := Kd.R_slice HO185.out; subst eo120; have hcz121_0 : w119.cell? ⟨gb165, 0, none⟩ = some (.int .i64 qa) := (Yh BK165.out 0).trans rfl; have hcz121_1 : w119.cell? ⟨gb165, 1, none⟩ = some (u166001) := (Yh BK165.out 1).trans rfl; have hfz121_0 := Yi BK165.out 0; have hfz121_1 := Yi BK165.out 1; have hcz122_0 : w119.cell? ⟨gb161, 0, none⟩ = some (.int .i64 x162000_3) := (Yh BK161.out 0).trans rfl; have hcz122_1 : w119.cell? ⟨gb161, 1, none⟩ = some (.slice none 0 0) := (Yh BK161.out 1).trans rfl; have hfz122_0 := Yi BK161.out 0; have hfz122_1 := Yi BK161.out 1))
                refine bodyPost_ret (results_ct rfl _ _ gb161 24 #[.int .i64 qa, .slice Ao120 y183.length co120] (0, 0) _ rfl (by (with_reducible repeat (first | refine Yd ?_ _ | refine Yf ?_ | refine Ye ?_ _)); refine blk_put (cs := #[.int .i64 qa, .slice none 0 0]) ?_ 1 _ rfl; (with_reducible repeat (first | refine Yd ?_ _ | refine Yf ?_ | refine Ye ?_ _)); refine blk_put (cs := #[.int .i64 x162000_3, .slice none 0 0]) ?_ 0 _ rfl; (with_reducible repeat (first | refine Yd ?_ _ | refine Yf ?_ | refine Ye ?_ _)); refine YH ?_ NB161_165.out _; (with_reducible repeat (first | refine Yd ?_ _ | refine Yf ?_ | refine Ye ?_ _)); exact BK161.out) Try.underlying24 rfl (by kernel_rfl)) rfl ?_
                exact ⟨_, by first | rfl | (simp [errW_none, errW_some] <;> rfl) | (simp [*, errW_none, errW_some] <;> rfl), YG (Kd.R_V (by (with_reducible repeat (first | apply Ys | apply Yr | apply Yt)); exact Yv (Yw (p := ⟨gb161, 1, none⟩) (Yw (p := ⟨gb161, 0, none⟩) (Yw (p := ⟨gb165, 1, none⟩) (Yu (Yu HO185.out BK165.out (by decide)) BK161.out (by decide)) (fun _ hk => hk.1.2) (.slice Ao120 y183.length co120)) (fun _ hk => hk.2) (.int .i64 qa)) (fun _ hk => hk.2) (.slice Ao120 y183.length co120)) (fun _ hk => hk.1.1.1))) (fun k_ hk => by first | exact ⟨(.inr (hk.1)), hk.2⟩ | exact (.inr (hk))), by repeat (first | (with_reducible first | exact HB.out | apply Yc | apply Ya | apply Yb | refine Yg ?_ GE160.out | refine Yg ?_ GE161.out | refine Yg ?_ GE164.out | refine Yg ?_ GE165.out) | exact HB.out)⟩
               ·rw [if_neg c109] at H
                exact absurd H (by simp)

end
end Go.Proofs.Ytggkealdbebbkaa.P
